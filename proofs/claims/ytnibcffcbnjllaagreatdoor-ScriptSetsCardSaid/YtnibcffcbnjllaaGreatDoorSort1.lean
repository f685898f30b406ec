/- lineage.Sort and lineage.Tops at valid names; slices.Clone. -/
import Derived.Test.YtnibcffcbnjllaaGreatDoorPlain3
namespace Go.Proofs.YtnibcffcbnjllaaGreatDoor
open Go.RowKit Go.Sort Go.Shelf

theorem Tryz.infoName : (Tryz.prog.info? 53).map (fun i => (i.zero, i.size, i.bytes)) = some (some (.string ⟨#[]⟩), 1, 16) := by kernel_rfl

set_option maxRecDepth 100000 in
set_option maxHeartbeats 1000000 in
theorem CloneN_any (A : Option Addr) (n c B : Nat) (xs : List Value) (w : World) (hn : n ≤ 100000) (hr : Row w B 1 A n xs) (h1 : ∀ u ∈ xs, u.oneCell' = true) :
    Calls Tryz.prog 39 #[.slice A n c] w fun e w' => ∃ v', e = .returned v' ∧ w'.ownsRow w.heap.size 53 1 v' n xs ∧ Below w.heap.size w w' := by
  obtain ⟨i0, hi, hz0, hz1, hz2⟩ := info_parts Tryz.infoName
  obtain ⟨hl, hc⟩ := hr
  cases A with
  | none =>
    obtain rfl : n = 0 := by
      rcases Nat.eq_zero_or_pos n with h | h
      · exact h
      · obtain ⟨_, _, e, _⟩ := hc h; cases e
    have hx : xs = [] := List.length_eq_zero_iff.1 (by omega)
    subst hx
    refine (AnyE.slices_Clone_nil Tryz.lCloneN 0 c w).mono ?_
    rintro e w' ⟨rfl, rfl⟩
    exact ⟨_, rfl, World.ownsRow_nil _ _ _ _, Below.refl _ _⟩
  | some ad =>
    have hc' : ∀ j u, xs[j]? = some u → w.cell? (ad.add j) = some u := by
      intro j u hj
      have hjl : j < xs.length := (List.getElem?_eq_some_iff.1 hj).1
      obtain ⟨b, off, e, _, hcc⟩ := hc (by omega)
      injection e with e
      subst e
      rw [Addr.add_lit]
      exact hcc j u hj
    have A : Aside (∀ j u, xs[j]? = some u → w.cell? (ad.add j) = some u) := hc'
    clear hc' hc
    have q22 : ∀ (w : World) (a : Option Addr) (n c n' c' : Nat), (binOp .eql 38 (.slice a n c) (.slice none n' c')).run Tryz.prog w = .ok (.bool a.isNone) w := fun w a n c n' c' => Lib.run_eql_slice_nil w _ _ a n c n' c' Tryz.underlying38
    go_enter Tryz.func39, Tryz.ntmps39
    go_wp2_with (at_builtin; refine wpList_append_own _ rfl _ _ 38 rfl w.heap.size 53 i0 (.string ⟨#[]⟩) 1 16 Tryz.underlying38 hi hz0 hz1 hz2 rfl (by decide) _ _ _ rfl (World.ownsRow_made w #[] 0 (Nat.le_refl _) (Nat.zero_le _) (by simp)) ad n c xs rfl ?qc1 ?qc2 ?qc3 ?qc4 ?qc5 ?qc6 ?_)
    case qc1 => exact hl
    case qc2 =>
      intro j u hj
      exact Lib.cell?_alloc_some _ (A.out j u hj)
    case qc3 => exact h1
    case qc4 => unfold maxLen; omega
    case qc5 => omega
    case qc6 => simp
    intro v' w1 hown hgrow hnil
    go_wp2
    go_ret
    refine ⟨v', rfl, by simpa using hown, ?_⟩
    exact ((Below.refl _ w).alloc (Nat.le_refl _) _).grown hgrow (by simp) (by intro k hk; simp [Value.ownBlock] at hk; omega)

/-- The names with their proofs. -/
def vnOf (xs : List Nm) (h : ∀ x ∈ xs, validB x = true) : List VN := xs.pmap (fun a ha => ⟨a, ha⟩) h
theorem vnOf_map (xs : List Nm) (h : ∀ x ∈ xs, validB x = true) : (vnOf xs h).map (·.1) = xs := by
  unfold vnOf
  rw [List.map_pmap]
  simp
theorem vnOf_enc (xs : List Nm) (h : ∀ x ∈ xs, validB x = true) : (vnOf xs h).map encV = xs.map encN := by
  have : (vnOf xs h).map encV = ((vnOf xs h).map (·.1)).map encN := by rw [List.map_map]; rfl
  rw [this, vnOf_map]
theorem vnOf_len (xs : List Nm) (h : ∀ x ∈ xs, validB x = true) : (vnOf xs h).length = xs.length := by simp [vnOf]

theorem encV_one : OneCell encV := fun _ => rfl
theorem encV_eq (x y : VN) : ((⟨x.1.toArray⟩ : ByteArray).toList == (⟨y.1.toArray⟩ : ByteArray).toList) = decide (x = y) := by
  rw [ByteArray.toList_eq, ByteArray.toList_eq, Bool.eq_iff_iff]
  simp only [beq_iff_eq, decide_eq_true_eq]
  exact ⟨fun h => Subtype.ext h, fun h => by rw [h]⟩
theorem encV_eql : EqlAt Tryz.prog 53 encV (fun x y => decide (x = y)) :=
  ⟨fun x y w => by show _ = Result.ok (Value.bool (decide (x = y))) w; rw [← encV_eq]; exact (EqlAt.string Tryz.prog 53).1 ⟨x.1.toArray⟩ ⟨y.1.toArray⟩ w, fun op a b x y w => (EqlAt.string Tryz.prog 53).2 op a b ⟨x.1.toArray⟩ ⟨y.1.toArray⟩ w⟩
theorem encV_neq : NeqAt Tryz.prog 53 encV (fun x y => decide (x = y)) :=
  ⟨fun x y w => by show _ = Result.ok (Value.bool (!decide (x = y))) w; rw [← encV_eq]; exact (NeqAt.string Tryz.prog 53).1 ⟨x.1.toArray⟩ ⟨y.1.toArray⟩ w, fun op a b x y w => (NeqAt.string Tryz.prog 53).2 op a b ⟨x.1.toArray⟩ ⟨y.1.toArray⟩ w⟩

theorem cmp_lays (blk off size : Nat) (w : World) : CmpLays1 Tryz.prog 100 #[] encV cfV blk off size w := by
  intro m os dk _ x y
  rw [Array.append_empty]
  have hx := valid_len x.2
  have hy := valid_len y.2
  refine calls_grow (SortFn_valid ⟨x.1.toArray⟩ ⟨y.1.toArray⟩ _ ?_ ?_ x.2 y.2)
  · show x.1.toArray.size ≤ _
    simp; omega
  · show y.1.toArray.size ≤ _
    simp; omega

theorem CompactN_none (A : Option Addr) (c : Nat) (w : World) :
    Calls Tryz.prog 102 #[.slice A 0 c] w fun e w' => e = .returned (.slice A 0 c) ∧ w' = w := by
  go_enter Tryz.func102, Tryz.ntmps102
  go_wp2
  go_ret
  exact ⟨rfl, rfl⟩

/-- The sort in place, and the compaction behind it, as one. -/
theorem SortFunc_own (g cap base : Nat) (xs : List Nm) (w : World) (hn : xs.length ≤ 100000) (hv : ∀ x ∈ xs, validB x = true) (ho : w.ownsRow base 53 1 (.slice (some ⟨g, 0, none⟩) xs.length cap) xs.length (xs.map encN)) :
    Calls Tryz.prog 99 #[.slice (some ⟨g, 0, none⟩) xs.length cap, .func (.func 100) #[] #[]] w fun e w' => e = .returned (.tuple #[]) ∧
      ∃ ts : List VN, ts = (vnOf xs hv).mergeSort (fun x y => !(ltOf cfV) y x) ∧ w'.ownsRow base 53 1 (.slice (some ⟨g, 0, none⟩) ts.length cap) ts.length (ts.map encV) ∧ w.grownBy w' (some g) := by
  have hl := vnOf_len xs hv
  have hb := (ho.lt g (by simp [Value.ownBlock]))
  rw [← vnOf_enc xs hv, ← hl] at ho
  have hH := holds_of_own encV _ ho
  have hT := Any.slices_SortFunc_total Tryz.lSortFn encV encV_one cfV cfV_swo 100 #[] g 0 cap (vnOf xs hv).toArray w (enters_of Tryz.func100 (by kernel_rfl) rfl) (cmp_lays _ _ _ _) hH hb.2 (by simp [hl]; omega) cfV_total
  have e1 : (vnOf xs hv).toArray.size = xs.length := by simp [hl]
  rw [e1] at hT
  refine hT.mono ?_
  rintro e w' ⟨he, n, os, rfl⟩
  refine ⟨he, _, rfl, ?_, ?_⟩
  · have hlen : ((vnOf xs hv).mergeSort (fun x y => !(ltOf cfV) y x)).length = (vnOf xs hv).length := List.length_mergeSort _
    have := own_putRow (m := (vnOf xs hv).length) (k := n) encV ((vnOf xs hv).mergeSort (fun x y => !(ltOf cfV) y x)) ho hlen (Nat.le_refl _)
    rw [← hlen, List.take_length] at this
    unfold sortWorld
    refine this.kept (grownBy_growN _ _ none) (.inr (by simp [Value.ownBlock]))
  · unfold sortWorld
    exact (grownBy_putRow w g n encV _).trans (grownBy_growN _ _ _)

theorem CompactN_own (g cap base : Nat) (ts : List VN) (w : World) (hn : ts.length ≤ 100000) (ho : w.ownsRow base 53 1 (.slice (some ⟨g, 0, none⟩) ts.length cap) ts.length (ts.map encV)) :
    Calls Tryz.prog 102 #[.slice (some ⟨g, 0, none⟩) ts.length cap] w fun e w' => e = .returned (.slice (some ⟨g, 0, none⟩) (Lib.compact ts).length cap) ∧
      w'.ownsRow base 53 1 (.slice (some ⟨g, 0, none⟩) (Lib.compact ts).length cap) (Lib.compact ts).length ((Lib.compact ts).map encV) ∧ w.grownBy w' (some g) := by
  have hH := holds_of_own encV _ ho
  have hcap : ts.length ≤ cap := by
    rcases ho.2 with ⟨h, _⟩ | ⟨g', cap', cur, h, _, _, h2, _⟩
    · cases h
    · injection h with _ _ h; omega
  have hC := AnyE.slices_Compact Tryz.lCompN encV encV_one encV_eql encV_neq default (fun _ => by kernel_rfl) g 0 cap ts.toArray w hH (by simp; omega) (by simpa using hcap)
  have e1 : ts.toArray.size = ts.length := by simp
  rw [e1] at hC
  have hcl := compact_len ts
  refine hC.mono ?_
  rintro e w' ⟨rfl, q, rfl⟩
  have e2 : Lib.compactUpTo ts.toArray ts.length = Lib.compact ts := rfl
  rw [e2]
  refine ⟨rfl, ?_, grownBy_putRow w g q encV _⟩
  have := own_putRow (m := (Lib.compact ts).length) (k := q) encV (Lib.compact ts ++ List.replicate (ts.length - (Lib.compact ts).length) default) ho (by simp; omega) (by omega)
  rw [List.take_left] at this
  exact this

set_option maxRecDepth 100000 in
set_option maxHeartbeats 1000000 in
theorem Sort_valid (A : Option Addr) (n c B : Nat) (xs : List Nm) (w : World) (hn : n ≤ 100000) (hr : Row w B 1 A n (xs.map encN)) (hv : ∀ x ∈ xs, validB x = true) :
    Calls Tryz.prog 74 #[.slice A n c] w fun e w' => ∃ v', e = .returned v' ∧ w'.ownsRow w.heap.size 53 1 v' (sortN xs).length ((sortN xs).map encN) ∧ Below w.heap.size w w' := by
  have hlen : xs.length = n := by simpa using hr.1
  have h1 : ∀ u ∈ xs.map encN, u.oneCell' = true := by
    intro u hu
    obtain ⟨x, _, rfl⟩ := List.mem_map.1 hu
    rfl
  have hcl := CloneN_any A n c B (xs.map encN) w hn hr h1
  have HCL := Lib.hid hcl
  clear hcl h1 hr
  go_enter Tryz.func74, Tryz.ntmps74
  go_wp2_with fail
  refine HCL.out.mono ?_
  rintro e w1 ⟨v1, rfl, ho, hb1⟩
  subst hlen
  rcases ho.2 with ⟨rfl, hn0⟩ | ⟨g, cap, cur, rfl, hg, _⟩
  · have hx : xs = [] := List.length_eq_zero_iff.1 hn0
    subst hx
    go_wp2_with fail
    refine (AnyF.slices_SortFunc_none { Tryz.lSortFn with } none 0 _ _).mono ?_
    rintro e w2 ⟨rfl, rfl⟩
    go_wp2_with fail
    refine (CompactN_none none 0 _).mono ?_
    rintro e w3 ⟨rfl, rfl⟩
    go_wp2_with fail
    go_ret
    exact ⟨_, rfl, World.ownsRow_nil _ _ _ _, hb1⟩
  · have hS := SortFunc_own g cap w.heap.size xs w1 hn hv ho
    have HS := Lib.hid hS
    clear hS
    go_wp2_with fail
    refine HS.out.mono ?_
    rintro e w2 ⟨rfl, ts, hts, ho2, hg2⟩
    have hl2 : ts.length = xs.length := by rw [hts, List.length_mergeSort, vnOf_len]
    have hC := CompactN_own g cap w.heap.size ts w2 (by omega) ho2
    rw [hl2] at hC
    have hse : (Lib.compact ts).map (·.1) = sortN xs := by rw [hts, sortN_eq, vnOf_map]
    have hse2 : (Lib.compact ts).map encV = (sortN xs).map encN := by rw [← hse, List.map_map]; rfl
    have hse3 : (Lib.compact ts).length = (sortN xs).length := by rw [← hse, List.length_map]
    rw [hse2, hse3] at hC
    have HC := Lib.hid hC
    clear hC hts hse hse2 hse3
    go_wp2_with fail
    refine HC.out.mono ?_
    rintro e w3 ⟨rfl, ho3, hg3⟩
    go_wp2_with fail
    go_ret
    refine ⟨_, rfl, ho3, ?_⟩
    have hs1 := hb1.size
    exact hb1.grown (hg2.trans hg3) hs1 (by intro k hk; injection hk with hk; omega)

/-- The names that have no other one above them: one step, on the tops so far. -/
def topStep (ts : List Nm) (x : Nm) : List Nm := match ts.getLast? with
  | none => ts ++ [x]
  | some t => if withinB x t then ts else ts ++ [x]
/-- The different names of a list that have no other one above them, in order. -/
def topsN (l : List Nm) : List Nm := (sortN l).foldl topStep []
theorem topStep_len (ts : List Nm) (x : Nm) : (topStep ts x).length ≤ ts.length + 1 := by
  unfold topStep
  split
  · simp
  · split <;> simp
theorem topStep_foldl_len : ∀ (l ts : List Nm), (l.foldl topStep ts).length ≤ ts.length + l.length
  | [], ts => by simp
  | x :: l, ts => by
    rw [List.foldl_cons, List.length_cons]
    have := topStep_foldl_len l (topStep ts x)
    have := topStep_len ts x
    omega
theorem topsN_len (l : List Nm) : (topsN l).length ≤ l.length := by
  have h1 := topStep_foldl_len (sortN l) []
  have h2 := sortN_len l
  unfold topsN
  simp at h1
  omega
theorem topStep_mem (ts : List Nm) (x : Nm) : ∀ y ∈ topStep ts x, y ∈ ts ∨ y = x := by
  intro y hy
  unfold topStep at hy
  split at hy
  · simpa using hy
  · split at hy
    · exact .inl hy
    · simpa using hy
theorem topStep_foldl_mem : ∀ (l ts : List Nm), ∀ y ∈ l.foldl topStep ts, y ∈ ts ∨ y ∈ l
  | [], ts, y, hy => .inl hy
  | x :: l, ts, y, hy => by
    rw [List.foldl_cons] at hy
    rcases topStep_foldl_mem l _ y hy with h | h
    · rcases topStep_mem ts x y h with h | h
      · exact .inl h
      · exact .inr (by simp [h])
    · exact .inr (by simp [h])

def TopsRel (W1 : World) (n : Nat) (l : List Nm) (v i : Value) (wr : World) : Prop :=
  ∃ k ts, k ≤ n ∧ i = .int .i64 (k : Int) ∧ ts = (l.take k).foldl topStep [] ∧ wr.ownsRow W1.heap.size 53 1 v ts.length (ts.map encN) ∧ Below W1.heap.size W1 wr

set_option maxRecDepth 100000 in
set_option maxHeartbeats 1000000 in
theorem Tops_valid (A : Option Addr) (n c B : Nat) (xs : List Nm) (w : World) (hn : n ≤ 100000) (hr : Row w B 1 A n (xs.map encN)) (hv : ∀ x ∈ xs, validB x = true) :
    Calls Tryz.prog 42 #[.slice A n c] w fun e w' => ∃ v', e = .returned v' ∧ w'.ownsRow w.heap.size 53 1 v' (topsN xs).length ((topsN xs).map encN) ∧ Below w.heap.size w w' := by
  obtain ⟨i0, hi, hz0, hz1, hz2⟩ := info_parts Tryz.infoName
  have hlen : xs.length = n := by simpa using hr.1
  have hS := Sort_valid A n c B xs w hn hr hv
  have hsv := sortN_valid hv
  have hsl := sortN_len xs
  have ht : topsN xs = (sortN xs).foldl topStep [] := rfl
  generalize sortN xs = l at hS hsv hsl ht
  generalize topsN xs = t at ht ⊢
  have HT := Lib.hid ht
  have HS := Lib.hid hS
  have HV := Lib.hid hsv
  clear hS ht hsv hr hv
  go_enter Tryz.func42, Tryz.ntmps42
  go_wp2_with fail
  refine HS.out.mono ?_
  rintro e W1 ⟨v1, rfl, ho1, hb1⟩
  obtain ⟨A1, c1, rfl, hr1⟩ := own_form ho1
  have hll : l.length ≤ 100000 := by omega
  clear ho1 HS
  go_wp2_with fail
  go_loopw [3, 9] (TopsRel W1 l.length l) (fun _ i _ => l.length - (intOf i).toNat)
  case atStart => exact ⟨0, [], by omega, rfl, rfl, World.ownsRow_nil _ _ _ _, Below.refl _ _⟩
  case round =>
    obtain ⟨k, ts, hk, rfl, hts, hown, hbr⟩ := hrel
    have htl : ts.length ≤ k := by
      have := topStep_foldl_len (l.take k) []
      rw [← hts, List.length_take] at this
      simp at this
      omega
    have HTS := Lib.hid hts
    have hsz := hbr.size
    clear hts
    by_cases hlt : k < l.length
    · obtain ⟨b1, o1, u, rfl, hb1', hx0, cx⟩ := hr1.at1 hlt
      rw [List.getElem?_map] at hx0
      obtain ⟨x, hx, rfl⟩ := Option.map_eq_some_iff.1 hx0
      clear hx0
      have cxr := (hbr.cell (p := ⟨b1, o1 + k, none⟩) hb1').trans cx
      unfold encN at cxr
      have hstep : topStep ts x = (l.take (k + 1)).foldl topStep [] := by
        rw [List.take_add_one, List.foldl_append, ← HTS.out, hx]
        rfl
      have HST := Lib.hid hstep
      have hxv := valid_len (HV.out x (List.mem_of_getElem? hx))
      have hxz : (⟨x.toArray⟩ : ByteArray).size ≤ 4294967280 := by
        show x.toArray.size ≤ _
        simp; omega
      have HXZ := Lib.hid hxz
      clear hstep hx cx hxz hxv
      rcases hown.2 with ⟨rfl, hn0⟩ | ⟨g, cap, cur, rfl, hg, hh, hcap, _⟩
      · obtain rfl : ts = [] := List.length_eq_zero_iff.1 hn0
        go_wp2_with (at_builtin; refine wpList_append_own _ rfl _ _ 38 rfl W1.heap.size 53 i0 (.string ⟨#[]⟩) 1 16 Tryz.underlying38 hi hz0 hz1 hz2 rfl (by decide) _ _ _ rfl (hown.alloc _) ⟨wr.heap.size, 0, none⟩ 1 1 [.string ⟨x.toArray⟩] rfl rfl (cell_one_new _ _ _) (by simp [Value.oneCell']) (by unfold maxLen; omega) (by omega) (by simp; omega) ?_; intro v' w1 hown' hgrow _; have R := Lib.hid (own_step hown hbr hgrow); clear hgrow)
        go_roundw
        case rel => exact ⟨k + 1, [x], by omega, by go_num, by rw [← HST.out]; rfl, hown', R.out⟩
        case measure => simp [intOf]; omega
      · rcases Nat.eq_zero_or_pos ts.length with h0 | hpos
        · obtain rfl : ts = [] := List.length_eq_zero_iff.1 h0
          go_wp2_with (at_builtin; refine wpList_append_own _ rfl _ _ 38 rfl W1.heap.size 53 i0 (.string ⟨#[]⟩) 1 16 Tryz.underlying38 hi hz0 hz1 hz2 rfl (by decide) _ _ _ rfl (hown.alloc _) ⟨wr.heap.size, 0, none⟩ 1 1 [.string ⟨x.toArray⟩] rfl rfl (cell_one_new _ _ _) (by simp [Value.oneCell']) (by unfold maxLen; omega) (by omega) (by simp; omega) ?_; intro v' w1 hown' hgrow _; have R := Lib.hid (own_step hown hbr hgrow); clear hgrow)
          go_roundw
          case rel => exact ⟨k + 1, [x], by omega, by go_num, by rw [← HST.out]; rfl, hown', R.out⟩
          case measure => simp [intOf]; omega
        · obtain ⟨p, t1, rfl⟩ : ∃ p t1, ts = p ++ [t1] := ⟨ts.dropLast, ts.getLast (List.ne_nil_of_length_pos hpos), (List.dropLast_concat_getLast _).symm⟩
          have hcl := hown.cellAt p.length (by simp)
          have hlast : topStep (p ++ [t1]) x = if withinB x t1 then p ++ [t1] else p ++ [t1] ++ [x] := by
            unfold topStep
            simp only [List.getLast?_concat]
          have hgl : wr.cell? ⟨g, p.length, none⟩ = some (.string ⟨t1.toArray⟩) := by
            rw [hcl]
            simp [encN]
          have htv : validB t1 = true := by
            have hm : t1 ∈ (l.take k).foldl topStep [] := by rw [← HTS.out]; simp
            rcases topStep_foldl_mem (l.take k) [] t1 hm with h | h
            · simp at h
            · exact HV.out t1 (List.mem_of_mem_take h)
          have htz : (⟨t1.toArray⟩ : ByteArray).size ≤ 4294967280 := by
            have := valid_len htv
            show t1.toArray.size ≤ _
            simp; omega
          have HTZ := Lib.hid htz
          have HL := Lib.hid hlast
          have hll2 : (p ++ [t1]).length = p.length + 1 := by simp
          have hidx : ((p ++ [t1]).length : Int) - 1 = (p.length : Nat) := by rw [hll2]; omega
          rw [hll2] at htl hown
          clear hlast htv htz hcl hpos hidx hh hcap
          cases hwb : withinB x t1 with
          | true =>
            have hW := fun W => Within_any ⟨x.toArray⟩ ⟨t1.toArray⟩ W HXZ.out HTZ.out
            rw [show withinB (⟨x.toArray⟩ : ByteArray).data.toList (⟨t1.toArray⟩ : ByteArray).data.toList = true from hwb] at hW
            have HW := Lib.hid hW
            have hl2 := HL.out
            rw [if_pos hwb] at hl2
            have HL2 := Lib.hid hl2
            clear hW hl2 hwb HL
            go_wp2_with fail
            refine (HW.out _).mono ?_
            rintro e w2 ⟨rfl, hb2⟩
            have hown2 := hown.kept (below_grown0 hb2) (.inr (by simp [Value.ownBlock]))
            have hb3 := hbr.trans (hb2.mono hsz)
            go_wp2_with fail
            go_roundw
            case rel => exact ⟨k + 1, p ++ [t1], by omega, by go_num, by rw [← HST.out, HL2.out], by rw [hll2]; exact hown2, hb3⟩
            case measure => simp [intOf]; omega
          | false =>
            have hW := fun W => Within_any ⟨x.toArray⟩ ⟨t1.toArray⟩ W HXZ.out HTZ.out
            rw [show withinB (⟨x.toArray⟩ : ByteArray).data.toList (⟨t1.toArray⟩ : ByteArray).data.toList = false from hwb] at hW
            have HW := Lib.hid hW
            have hl2 := HL.out
            rw [if_neg (by rw [hwb]; simp)] at hl2
            have HL2 := Lib.hid hl2
            clear hW hl2 hwb HL
            go_wp2_with fail
            refine (HW.out _).mono ?_
            rintro e w2 ⟨rfl, hb2⟩
            have hown2 := hown.kept (below_grown0 hb2) (.inr (by simp [Value.ownBlock]))
            have hb3 := hbr.trans (hb2.mono hsz)
            have hsz2 := hb3.size
            go_wp2_with (at_builtin; refine wpList_append_own _ rfl _ _ 38 rfl W1.heap.size 53 i0 (.string ⟨#[]⟩) 1 16 Tryz.underlying38 hi hz0 hz1 hz2 rfl (by decide) _ _ _ rfl (hown2.alloc _) ⟨w2.heap.size, 0, none⟩ 1 1 [.string ⟨x.toArray⟩] rfl rfl (cell_one_new _ _ _) (by simp [Value.oneCell']) (by unfold maxLen; omega) (by omega) (by simp; omega) ?_; intro v' w1 hown' hgrow _; have R := Lib.hid (own_step hown2 hb3 hgrow); clear hgrow)
            go_roundw
            case rel => exact ⟨k + 1, p ++ [t1] ++ [x], by omega, by go_num, by rw [← HST.out, HL2.out], by rw [List.map_append, List.length_append, hll2]; exact hown', R.out⟩
            case measure => simp [intOf]; omega
    · obtain rfl : k = l.length := by omega
      have hte : t = ts := by rw [HT.out, HTS.out, List.take_length]
      subst hte
      have ho := own_base hown hb1.size
      go_wp2_with fail
      go_ret
      exact ⟨_, rfl, ho, hb1.trans (hbr.mono hb1.size)⟩

end Go.Proofs.YtnibcffcbnjllaaGreatDoor
