/- lineage.Valid, (Name).Ordinals, (Name).Last. -/
import Derived.Test.YtnibcffcbnjllaaGreatDoorLin3
namespace Go.Proofs.YtnibcffcbnjllaaGreatDoor
open Go.RowKit Go.Shelf
attribute [local go_sem] Oper.semAt_some

theorem validB_iff (s : List UInt8) : validB s = (parseErr (partsOf s) == 0) := by
  unfold validB
  by_cases h : ∀ x ∈ partsOf s, x.2.2 = 0
  · rw [parseErr_zero h, List.all_eq_true.2 (fun x hx => by simp [h x hx])]; rfl
  · have h1 : (partsOf s).all (fun p => p.2.2 == 0) = false := by
      rw [List.all_eq_false]
      simp only [Classical.not_forall] at h
      obtain ⟨x, hx, hne⟩ := h
      exact ⟨x, hx, by simpa using hne⟩
    rw [h1]
    symm
    rw [beq_eq_false_iff_ne]
    unfold parseErr
    cases hf : (partsOf s).find? fun p => p.2.2 != 0 with
    | none =>
      exfalso
      rw [List.find?_eq_none] at hf
      apply h
      intro x hx
      simpa using hf x hx
    | some x =>
      have := List.find?_some hf
      simpa using this

theorem Valid_any (s : ByteArray) (w : World) (hs : s.size ≤ 9223372036854775000) :
    Calls Tryz.prog 37 #[.string s] w fun e w' => e = .returned (.bool (validB s.data.toList)) ∧ Below w.heap.size w w' := by
  have hv := validB_iff s.data.toList
  have HV := Lib.hid hv
  clear hv
  go_enter Tryz.func37, Tryz.ntmps37
  go_wp2_with (go_at_call 70; refine (Parse_any s _ hs).mono ?_; rintro e w' ⟨⟨nm, at_, rfl⟩, hb⟩)
  go_ret
  refine ⟨?_, hb⟩
  rw [HV.out]
  simp only [Array.getD_eq_getD_getElem?]
  have e : (((parseErr (partsOf s.data.toList) : Nat) : Int) == 0) = (parseErr (partsOf s.data.toList) == 0) := by rw [Bool.eq_iff_iff]; simp
  simp [e]

theorem partsN_len : ∀ (f : Nat) (s : List UInt8) (a c : Nat), (partsN f s a c).length ≤ f + 1
  | 0, _, _, _ => by simp [partsN]
  | f + 1, s, a, c => by
    rw [partsN]
    simp only [List.length_cons]
    have := partsN_len f s ((firstP s a c).2 + 1) (c + 1)
    split
    · simp
    · split
      · simp
      · omega
theorem partsOf_len (s : List UInt8) : (partsOf s).length ≤ 10 := by
  unfold partsOf
  split
  · simp
  · exact partsN_len 9 s 0 0

/-- A number as the program holds it. -/
def encNat (n : Nat) : Value := .int .i64 (n : Int)
theorem Tryz.infoInt : (Tryz.prog.info? 3).map (fun i => (i.zero, i.size, i.bytes)) = some (some (.int .i64 0), 1, 8) := by kernel_rfl

theorem keepT_own {W W' : World} {base size n : Nat} {v : Value} {xs : List Value} (h : W.ownsRow base 3 size v n xs) (hg : W.grownBy W' v.ownBlock) : KeepT W W' := by
  intro k cs t fz ht hk
  have hlt : k < W.heap.size := (Array.getElem?_eq_some_iff.1 hk).1
  rw [hg.block k hlt ?_]; exact hk
  rcases h.2 with ⟨rfl, _⟩ | ⟨g, cap, cur, rfl, _, hh, _⟩
  · simp [Value.ownBlock]
  · intro e
    obtain rfl : k = g := by simpa [Value.ownBlock] using e
    rw [hk] at hh
    injection hh with hh
    injection hh with _ h2
    subst h2
    rcases ht with ht | ht <;> exact absurd ht (by decide)
theorem keepT_box {W : World} {B : Nat} {u v : Value} (h : Boxed W B 36 u) : KeepT W (W.setCell ⟨B, 0, none⟩ v) := by
  intro k cs t fz ht hk
  have hne : k ≠ B := by
    rintro rfl
    rw [show W.heap[k]? = _ from h] at hk
    injection hk with hk
    injection hk with _ h2
    subst h2
    rcases ht with ht | ht <;> exact absurd ht (by decide)
  rw [Below.heap_setCell _ _ _ _ hne]; exact hk

/-- What holds between two rounds of Ordinals: the ordinals so far lie in the variable l. -/
def OrdI (w : World) (pre : List Part) (W : World) : Prop := (∀ x ∈ pre, x.2.2 = 0) ∧ ((Boxed W w.heap.size 36 (.slice none 0 0) ∧ (∃ v, Boxed W (w.heap.size + 1) 36 v ∧ W.ownsRow w.heap.size 3 1 v pre.length (pre.map fun x => encNat x.1) ∧ True)) ∧ Below w.heap.size w W)
def OrdX (w : World) (c : Code) (pre : List Part) (W : World) : Prop := (c = .ret ∧ parseErr pre ≠ 0) ∧ Boxed W w.heap.size 36 (.slice none 0 0) ∧ Below w.heap.size w W
theorem OrdI.own {w : World} {B : Nat} (hB : w.heap.size ≤ B) : OwnFrom B (OrdI w) :=
  OwnFrom.and (ownFrom_pure _ _) (OwnFrom.and (OwnFrom.and (Own.from (boxed_own _ _ _) _) (Own.from (holdsRow_own w.heap.size (w.heap.size + 1) 36 3 1 (fun pre : List Part => pre.length) (fun pre => pre.map fun x => encNat x.1) (fun _ _ => True)) _)) (ownFrom_below (Nat.le_refl _) hB))
theorem OrdX.own {w : World} {B : Nat} (hB : w.heap.size ≤ B) (c : Code) : OwnFrom B (OrdX w c) :=
  OwnFrom.and (ownFrom_pure _ _) (OwnFrom.and (Own.from (boxed_own _ _ _) _) (ownFrom_below (Nat.le_refl _) hB))

/-- One ordinal more. -/
theorem ord_step {w W w1 : World} {pre : List Part} {x : Part} {v : Value} {tmp : Obj} {g cap : Nat} (h0 : ∀ x ∈ pre, x.2.2 = 0) (hx : x.2.2 = 0) (c0 : Boxed W w.heap.size 36 (.slice none 0 0)) (c1 : Boxed W (w.heap.size + 1) 36 v)
    (hrow : W.ownsRow w.heap.size 3 1 v pre.length (pre.map fun x => encNat x.1)) (hB : Below w.heap.size w W)
    (hown : w1.ownsRow w.heap.size 3 1 (.slice (some ⟨g, 0, none⟩) (pre.length + 1) cap) (pre.length + 1) ((pre.map fun x => encNat x.1) ++ [.int .i64 (x.1 : Int)])) (hgrow : (W.alloc tmp).grownBy w1 v.ownBlock) :
    KeepsOthers W (w1.setCell ⟨w.heap.size + 1, 0, none⟩ (.slice (some ⟨g, 0, none⟩) (pre.length + 1) cap)) ∧ KeepT W (w1.setCell ⟨w.heap.size + 1, 0, none⟩ (.slice (some ⟨g, 0, none⟩) (pre.length + 1) cap)) ∧ OrdI w (pre ++ [x]) (w1.setCell ⟨w.heap.size + 1, 0, none⟩ (.slice (some ⟨g, 0, none⟩) (pre.length + 1) cap)) := by
  obtain ⟨hv1, hv2, hr2, hk2, hb2⟩ := c1.appended (by decide) hrow hB.size (by omega) hown hgrow
  have k1 : KeepT W (W.alloc tmp) := keepT_below ((Below.refl _ W).alloc (Nat.le_refl _) _)
  have k2 := keepT_own (hrow.alloc tmp) hgrow
  have k3 := keepT_box (v := .slice (some ⟨g, 0, none⟩) (pre.length + 1) cap) hv1
  refine ⟨hk2, keepT_t (keepT_t k1 k2) k3, ?_, ⟨?_, ⟨_, hv2, ?_, trivial⟩⟩, hB.trans hb2⟩
  · intro y hy
    rcases List.mem_append.1 hy with h | h
    · exact h0 y h
    · rw [List.mem_singleton] at h; rw [h]; exact hx
  · exact ((c0.alloc tmp).kept hgrow (c0.not_row (by decide) hrow)).other (by omega) _
  · have e : (pre ++ [x]).length = pre.length + 1 := by simp
    rw [e, List.map_append]
    exact hr2

theorem ord_end {w X : World} {D n : Nat} {v : Value} {xs : List Value} (hD : w.heap.size + 3 ≤ D) (hK : X.heap[D]? = some (.deferred (some []))) (c0 : Boxed X w.heap.size 36 v) (hrow : X.ownsRow w.heap.size 3 1 v n xs) (hB : Below w.heap.size w X) :
    (X.putObj D (.deferred none)).cell? ⟨w.heap.size, 0, none⟩ = some v ∧ (X.putObj D (.deferred none)).ownsRow w.heap.size 3 1 v n xs ∧ Below w.heap.size w (X.putObj D (.deferred none)) := by
  refine ⟨?_, ?_, ?_⟩
  · exact (c0.kept (grownBy_putObj' X D (.deferred none)) (fun e => by injection e; omega)).cell
  · exact ownsRow_putObj hrow _ hK rfl
  · exact hB.trans (belowK_b (w := w) (Nat.le_refl _) X D _ _ (by omega) hK rfl rfl)
theorem ord_set {w W : World} {n : Nat} {u v : Value} {xs : List Value} (c0 : Boxed W w.heap.size 36 u) (hrow : W.ownsRow w.heap.size 3 1 v n xs) (hB : Below w.heap.size w W) :
    KeepsOthers W (W.setCell ⟨w.heap.size, 0, none⟩ v) ∧ Boxed (W.setCell ⟨w.heap.size, 0, none⟩ v) w.heap.size 36 v ∧ (W.setCell ⟨w.heap.size, 0, none⟩ v).ownsRow w.heap.size 3 1 v n xs ∧ Below w.heap.size w (W.setCell ⟨w.heap.size, 0, none⟩ v) :=
  ⟨KeepsOthers.setCell _ _ _, c0.set v, hrow.kept (grownBy_setCell' W w.heap.size v) (.inr (c0.not_row (by decide) hrow).symm), hB.setCell (p := ⟨w.heap.size, 0, none⟩) (Nat.le_refl _) _⟩
theorem ordsOf_ok {s : List UInt8} (h : parseErr (partsOf s) = 0) : ordsOf s = (partsOf s).map (·.1) := by
  unfold ordsOf; rw [if_pos (by rw [validB_iff, h]; rfl)]
theorem ordsOf_bad {s : List UInt8} (h : parseErr (partsOf s) ≠ 0) : ordsOf s = [] := by
  unfold ordsOf; rw [if_neg (by rw [validB_iff]; simpa using h)]

set_option maxRecDepth 100000 in
set_option maxHeartbeats 1000000 in
theorem Ordinals_any (s : ByteArray) (w : World) (hs : s.size ≤ 9223372036854775000) :
    Calls Tryz.prog 77 #[.string s] w fun e w' => ∃ v, e = .returned v ∧ w'.ownsRow w.heap.size 3 1 v (ordsOf s.data.toList).length ((ordsOf s.data.toList).map encNat) ∧ Below w.heap.size w w' := by
  refine (callsIn_wide (n := 5)).1 ?_
  refine callsIn_of_wp_marks Tryz.func77 rfl trivial ?_ rfl
  simp only [Tryz.ntmps77, List.size_toArray, List.length_cons, List.length_nil, Nat.reduceAdd, Nat.reduceSub, Array.replicate_succ, Array.replicate_zero, List.push_toArray, List.append_toArray, List.nil_append, List.cons_append]
  obtain ⟨i0, hi, hz0, hz1, hz2⟩ := info_parts Tryz.infoInt
  gi_wp2_with (refine ⟨trivial, ?_⟩; gi_at_call 96; refine (parts_in _ _ _).mono ?_; rintro e w' ⟨rfl, rfl⟩)
  have b0 := ((Boxed.new w 36 (.slice none 0 0)).alloc (.cells #[.slice none 0 0] 36)).alloc (.cells #[.string s] 9)
  have b1 := (Boxed.new (w.alloc (.cells #[.slice none 0 0] 36)) 36 (.slice none 0 0)).alloc (.cells #[.string s] 9)
  have b3 := Boxed.new ((w.alloc (.cells #[.slice none 0 0] 36)).alloc (.cells #[.slice none 0 0] 36)) 9 (.string s)
  simp only [World.size_alloc] at b1 b3
  have hB0 : Below w.heap.size w (((w.alloc (.cells #[.slice none 0 0] 36)).alloc (.cells #[.slice none 0 0] 36)).alloc (.cells #[.string s] 9)) :=
    (((Below.refl _ w).alloc (Nat.le_refl _) _).alloc (by simp) _).alloc (by simp; omega) _
  have hsz : (((w.alloc (.cells #[.slice none 0 0] 36)).alloc (.cells #[.slice none 0 0] 36)).alloc (.cells #[.string s] 9)).heap.size = w.heap.size + 3 := by simp
  obtain ⟨W0, hW0⟩ : ∃ W0, ((w.alloc (.cells #[.slice none 0 0] 36)).alloc (.cells #[.slice none 0 0] 36)).alloc (.cells #[.string s] 9) = W0 := ⟨_, rfl⟩
  rw [hW0] at b0 b1 b3 hB0 hsz ⊢
  clear hW0
  have hlen := partsOf_len s.data.toList
  refine wpIn_rangeFunc_ownH rfl (by omega) (gf := 121) (lb := #[.pointer (some ⟨w.heap.size + 1 + 1, 0, none⟩)]) rfl trivial (enters_of Tryz.func121 (by kernel_rfl) rfl)
    (parts_stops 4 (by omega) s hs (w.heap.size + 1 + 1) W0 b3) keepT_t keepT_b (Below.refl _ _) (fun _ => rfl)
    (OrdI w) (OrdX w) (OrdI.own (by omega)) (OrdX.own (by omega))
    ⟨by simp, ⟨b0, ⟨_, b1, World.ownsRow_nil _ _ _ _, trivial⟩⟩, hB0⟩
    (fun x a' W => ∃ Bx, w.heap.size + 1 < Bx ∧ PartAt W Bx x ∧ a' = { tmps := #[.string s, undef, .pointer (some ⟨w.heap.size, 0, none⟩), .pointer (some ⟨w.heap.size + 1, 0, none⟩), .pointer (some ⟨Bx, 0, none⟩), .string s, .func (.func 121) #[] #[.pointer (some ⟨w.heap.size + 1 + 1, 0, none⟩)], encPart x, undef, undef, undef, undef, undef, undef, undef, undef, undef], defers := [] })
    (fun x a' _ X Y row hs hg hr => by obtain ⟨Bx, h1, h2, h3⟩ := hs; exact ⟨Bx, h1, PartAt.own Bx x () X Y row h2 hg (fun r e => (hr r e).2), h3⟩)
    ?assign ?body ?done ?stop
  case assign =>
    rintro l pre x W K ⟨h0, ⟨c0, ⟨v, c1, hrow, _⟩⟩, hB1⟩ hK
    unfold encPart
    gi_wp2
    exact hK _ _ ((KeepsOthers.alloc _ _).from _) (keepT_below ((Below.refl _ W).alloc (Nat.le_refl _) _)) ⟨h0, ⟨c0.alloc _, ⟨v, c1.alloc _, hrow.alloc _, trivial⟩⟩, hB1.alloc hB1.size _⟩ ⟨W.heap.size, c1.lt, World.alloc_heap_new W _, rfl⟩
  case body =>
    rintro l pre x a' W hl ⟨r, hr⟩ ⟨h0, ⟨c0, ⟨v, c1, hrow, _⟩⟩, hB1⟩ ⟨Bx, hBx, hP, rfl⟩ hlt
    have p0 := hP.cell0
    have p2 := hP.cell2
    have d1 := c1.cell
    have hB1s := hB1.size
    by_cases hx : x.2.2 = 0
    · have t : ((x.2.2 : Int) != 0) = false := by rw [hx]; rfl
      have HX := Lib.hid hx
      clear hx
      gi_wp2_with (gi_at_builtin; refine wpListIn_append_own _ rfl _ _ 36 rfl w.heap.size 3 i0 (.int .i64 0) 1 8 Tryz.underlying36 hi hz0 hz1 hz2 rfl (by decide) _ _ _ rfl (hrow.alloc _) ⟨W.heap.size, 0, none⟩ 1 1 [.int .i64 (x.1 : Int)] rfl rfl (cell_one_new _ _ _) (by simp [Value.oneCell']) (by unfold maxLen; omega) (by omega) (by simp; omega) ?_; intro v' w1 hown' hgrow _; obtain ⟨g', cap', rfl⟩ := ownsRow_succ hown'; obtain ⟨hv1, _⟩ := c1.appended (by decide) hrow hB1.size (by omega) hown' hgrow; have hc1 := hv1.cell; have hf1 := hv1.frozen; have R := Lib.hid (ord_step (x := x) h0 HX.out c0 c1 hrow hB1 hown' hgrow))
      exact ⟨R.out.1.from _, R.out.2.1, R.out.2.2⟩
    · have t : ((x.2.2 : Int) != 0) = true := by rw [bne_iff_ne]; omega
      have d0 := c0.cell
      have f0 := c0.frozen
      have R := Lib.hid (parseErr_last h0 hx)
      gi_wp2
      exact ⟨(KeepsOthers.setCell _ _ _).from _, ⟨rfl, by rw [R.out]; exact hx⟩, c0.set _, hB1.setCell (p := ⟨w.heap.size, 0, none⟩) (Nat.le_refl _) _⟩
  case done =>
    rintro D ys W hD rfl ⟨h0, ⟨c0, ⟨v, c1, hrow, _⟩⟩, hB1⟩ hK
    have d0 := c0.cell
    have f0 := c0.frozen
    have d1 := c1.cell
    have e := parseErr_zero h0
    have hE := Lib.hid e
    clear e
    have S := Lib.hid (ord_set c0 hrow hB1)
    have ho := ordsOf_ok hE.out
    have hl : (ordsOf s.data.toList).length = (partsOf s.data.toList).length := by rw [ho]; simp
    have hm : (ordsOf s.data.toList).map encNat = (partsOf s.data.toList).map fun x => encNat x.1 := by rw [ho]; simp
    have HL := Lib.hid hl
    have HM := Lib.hid hm
    clear ho hl hm
    rcases hrow.2 with ⟨rfl, _⟩ | ⟨g, cap, cur, rfl, hg⟩
    all_goals
      gi_wp2
      have hK' := S.out.1.same D _ hK rfl
      obtain ⟨e0, e1, e2⟩ := ord_end (by omega) hK' S.out.2.1 S.out.2.2.1 S.out.2.2.2
      refine ⟨by simp, .inl ⟨_, _, rfl, run_takeDeferred hK', ?_⟩⟩
      refine ⟨_, ?_, ⟨_, rfl, by rw [HL.out, HM.out]; exact e1, e2⟩⟩
      simp [results, Tryz.f77, go_sem, e0]
  case stop =>
    rintro D c pre W hD hpre ⟨⟨rfl, hne⟩, c0, hB1⟩ hK
    gi_wp2
    obtain ⟨e0, e1, e2⟩ := ord_end (by omega) hK c0 (World.ownsRow_nil _ _ _ _) hB1
    refine ⟨by simp, .inl ⟨_, _, rfl, run_takeDeferred hK, ?_⟩⟩
    refine ⟨_, ?_, ⟨_, rfl, by rw [ordsOf_bad (by rw [parseErr_prefix hpre hne]; exact hne)]; exact e1, e2⟩⟩
    simp [results, Tryz.f77, go_sem, e0]

end Go.Proofs.YtnibcffcbnjllaaGreatDoor
