/- ParseWithout. -/
import Derived.Test.YtnibcffcbnjllaaGreatDoorQTex1
import Derived.Test.YtnibcffcbnjllaaGreatDoorQTex0
import Derived.Test.YtnibcffcbnjllaaGreatDoorQShelf2
import Derived.Test.YtnibcffcbnjllaaGreatDoorQSet1
namespace Go.Proofs.YtnibcffcbnjllaaGreatDoor
open Go.RowKit Go.Shelf
attribute [local go_sem] Oper.semAt_some

/-- The two sentinels of strconv lie there. -/
structure Ok2 (w : World) : Prop where
  ok : Ok w
  syn : ∃ ev, w.cell? ⟨0, 0, none⟩ = some ev ∧ (ev = .nilIface ∨ ∃ te pe, ev = .iface te pe)
  rng : ∃ ev, w.cell? ⟨1, 0, none⟩ = some ev ∧ (ev = .nilIface ∨ ∃ te pe, ev = .iface te pe)
theorem Ok2.later {w w' : World} (h : Ok2 w) (hb : Below w.heap.size w w') : Ok2 w' := by
  have hl := h.ok.low
  refine ⟨h.ok.later hb, ?_, ?_⟩
  · obtain ⟨ev, h1, h2⟩ := h.syn
    exact ⟨ev, (hb.cell (p := ⟨0, 0, none⟩) (by simp; omega)).trans h1, h2⟩
  · obtain ⟨ev, h1, h2⟩ := h.rng
    exact ⟨ev, (hb.cell (p := ⟨1, 0, none⟩) (by simp; omega)).trans h1, h2⟩
theorem bytesWorld_at {w : World} {e : TypeId} {t : ByteArray} : Below w.heap.size w (Lib.bytesWorld w e t) := Lib.bytesWorld_below w e t
/-- strconv.Atoi: a number and nil, or some number and an error. -/
theorem Atoi_any (s : ByteArray) (w : World) (hok : Ok2 w) (hs : s.size ≤ 1000000) :
    Calls Tryz.prog 61 #[.string s] w fun e w' => Below w.heap.size w w' ∧ ((∃ v, Lib.atoiAll s.data.toList = .ok v ∧ e = .returned (.tuple #[.int .i64 v, .nilIface])) ∨
      ((∀ v, Lib.atoiAll s.data.toList ≠ .ok v) ∧ ∃ v t p, e = .returned (.tuple #[.int .i64 v, .iface t p]))) := by
  cases h : Lib.atoiAll s.data.toList with
  | ok v =>
    refine (Go.Proofs.Any.strconv_Atoi_ok Tryz.laysC172 s (by omega) v h w).mono ?_
    rintro e w' ⟨rfl, rfl | ⟨t, rfl⟩⟩
    · exact ⟨Below.refl _ _, .inl ⟨v, rfl, rfl⟩⟩
    · exact ⟨bytesWorld_at, .inl ⟨v, rfl, rfl⟩⟩
  | range =>
    obtain ⟨ev, h1, h2⟩ := hok.rng
    refine (Go.Proofs.Any.strconv_Atoi_range Tryz.laysC172 s (by omega) h ev w h1 h2).mono ?_
    rintro e w' ⟨N, rfl, _, _, hb⟩
    exact ⟨hb, .inr ⟨fun v => by simp, _, _, _, rfl⟩⟩
  | _ =>
    obtain ⟨ev, h1, h2⟩ := hok.syn
    refine (Go.Proofs.Any.strconv_Atoi_syntax Tryz.laysC172 s (by omega) h ev w h1 h2).mono ?_
    rintro e w' ⟨N, rfl, _, _, hb⟩
    exact ⟨hb, .inr ⟨fun v => by simp, _, _, _, rfl⟩⟩

/-- What holds between two rounds of ParseWithout: what the words so far spell lies in the variable w. -/
structure PwS (w : World) (Z : Nat) (u : Wo) (v1 v2 : Value) (W : World) : Prop where
  r : Box2 W Z 47 (.slice none 0 0) (.slice none 0 0)
  e : Boxed W (Z + 1) 28 (.int .i64 0)
  b : Box2 W (Z + 2) 47 v1 v2
  o1 : W.ownsRow (Z + 6) 3 1 v1 u.1.length (u.1.map encI)
  o2 : W.ownsRow (Z + 6) 53 1 v2 u.2.length (u.2.map encN)
  bl : Below Z w W
  sz : Z + 6 ≤ W.heap.size
def PwI (w : World) (Z : Nat) (pre : List Nm) (W : World) : Prop := ∃ u v1 v2, parseItems ([], []) pre = some u ∧ PwS w Z u v1 v2 W
def PwX (w : World) (Z : Nat) (c : Code) (pre : List Nm) (W : World) : Prop := (c = .ret ∧ parseItems ([], []) pre = none) ∧ Box2 W Z 47 (.slice none 0 0) (.slice none 0 0) ∧ Boxed W (Z + 1) 28 (.int .i64 3) ∧ Below Z w W
theorem own_blk {W : World} {base e n k : Nat} {v : Value} {xs : List Value} (h : W.ownsRow base e 1 v n xs) (hk : k < base) : some k ≠ v.ownBlock := fun e => by
  have := own_block_le h k e.symm
  omega
theorem own_cells {W : World} {base e n : Nat} {v : Value} {xs : List Value} (h : W.ownsRow base e 1 v n xs) (j : Nat) (o : Obj) (hj : v.ownBlock = some j) (ho : W.heap[j]? = some o) : o.isCells = true := by
  rcases h.2 with ⟨rfl, _⟩ | ⟨g, cap, cur, rfl, _, hh, _⟩
  · simp [Value.ownBlock] at hj
  · obtain rfl : g = j := by simpa [Value.ownBlock] using hj
    rw [hh] at ho
    injection ho with ho
    subst ho
    rfl
theorem own_kept {W W' : World} {base e n : Nat} {v : Value} {xs : List Value} {row : Option Nat} (h : W.ownsRow base e 1 v n xs) (hg : W.grownBy W' row) (hr : ∀ k, v.ownBlock = some k → row ≠ some k) : W'.ownsRow base e 1 v n xs := by
  refine h.kept hg ?_
  rcases h.2 with ⟨rfl, _⟩ | ⟨g, cap, cur, rfl, _, hh, _⟩
  · exact .inl rfl
  · exact .inr fun e => hr g (by simp [Value.ownBlock]) (by simpa [Value.ownBlock] using e.symm)
section
variable {w W W' : World} {Z : Nat} {u : Wo} {v1 v2 : Value}
theorem PwS.grown {row : Option Nat} (h : PwS w Z u v1 v2 W) (hg : W.grownBy W' row) (hr : ∀ k, row = some k → Z ≤ k ∧ ((k ≠ Z ∧ k ≠ Z + 1 ∧ k ≠ Z + 2) ∧ v1.ownBlock ≠ some k ∧ v2.ownBlock ≠ some k)) : PwS w Z u v1 v2 W' := by
  refine ⟨h.r.kept hg (fun e => (hr _ e.symm).2.1.1 rfl), h.e.kept hg (fun e => (hr _ e.symm).2.1.2.1 rfl), h.b.kept hg (fun e => (hr _ e.symm).2.1.2.2 rfl), own_kept h.o1 hg (fun k hk e => (hr k e).2.2.1 hk), own_kept h.o2 hg (fun k hk e => (hr k e).2.2.2 hk), ?_, Nat.le_trans h.sz hg.size⟩
  exact h.bl.grown hg (by have := h.r.lt; omega) (fun k e => (hr k e).1)
theorem PwS.set3 (h : PwS w Z u v1 v2 W) (v : Value) : PwS w Z u v1 v2 (W.setCell ⟨Z + 3, 0, none⟩ v) :=
  h.grown (grownBy_setAt W (Z + 3) 0 v) (fun k e => by
    injection e with e
    subst e
    exact ⟨by omega, ⟨by omega, by omega, by omega⟩, (own_blk h.o1 (by omega)).symm, (own_blk h.o2 (by omega)).symm⟩)
end
theorem not_cells {W : World} {k : Nat} {cs : Array Value} {t : TypeId} {fz : Nat × Nat} {row : Option Nat} (h : W.heap[k]? = some (.cells cs t fz)) (hr : ∀ r, row = some r → ∃ o : Obj, W.heap[r]? = some o ∧ o.isCells = false) : row ≠ some k := fun e => by
  obtain ⟨o, ho, hc⟩ := hr k e
  rw [h] at ho
  cases ho
  cases hc
theorem PwI.own {w : World} {Z B : Nat} (hB : Z ≤ B) : OwnFrom B (PwI w Z) := fun pre X Y row hs hg hr => by
  obtain ⟨u, v1, v2, h1, h2⟩ := hs
  have hn := fun r e => (hr r e).2
  refine ⟨u, v1, v2, h1, h2.grown hg (fun k e => ⟨Nat.le_trans hB (hr k e).1, ⟨?_, ?_, ?_⟩, ?_, ?_⟩)⟩
  · rintro rfl; exact not_cells h2.r hn e
  · rintro rfl; exact not_cells h2.e hn e
  · rintro rfl; exact not_cells h2.b hn e
  · intro e2
    obtain ⟨o, ho, hc⟩ := hn k e
    rw [own_cells h2.o1 k o e2 ho] at hc
    cases hc
  · intro e2
    obtain ⟨o, ho, hc⟩ := hn k e
    rw [own_cells h2.o2 k o e2 ho] at hc
    cases hc
theorem PwX.own {w : World} {Z B : Nat} (hB : Z ≤ B) (c : Code) : OwnFrom B (PwX w Z c) := fun pre X Y row hs hg hr => by
  obtain ⟨h1, h2, h3, h4⟩ := hs
  have hn := fun r e => (hr r e).2
  exact ⟨h1, h2.kept hg (fun e => not_cells h2 hn e.symm), h3.kept hg (fun e => not_cells h3 hn e.symm), h4.grown hg (by have := h2.lt; omega) (fun k e => Nat.le_trans hB (hr k e).1)⟩
/-- Behind 'w.Inputs = append(w.Inputs, n)' or 'w.Lineages = append(..)'. -/
theorem pw_app {w W w1 : World} {Z o e n m : Nat} {u : Wo} {v1 v2 v v' : Value} {xs ys : List Value} {tmp : Obj} (h : PwS w Z u v1 v2 W) (hown : W.ownsRow (Z + 6) e 1 v n xs) (hown' : w1.ownsRow (Z + 6) e 1 v' m ys) (hgrow : (W.alloc tmp).grownBy w1 v.ownBlock) (hte : 47 ≠ e) (hsz : Z + 6 ≤ W.heap.size) :
    KeepsOthers W (w1.setCell ⟨Z + 2, o, none⟩ v') ∧ Keep3 (Z + 3) W (w1.setCell ⟨Z + 2, o, none⟩ v') ∧ Box2 w1 (Z + 2) 47 v1 v2 ∧
    Box2 (w1.setCell ⟨Z + 2, o, none⟩ v') Z 47 (.slice none 0 0) (.slice none 0 0) ∧ Boxed (w1.setCell ⟨Z + 2, o, none⟩ v') (Z + 1) 28 (.int .i64 0) ∧
    (w1.setCell ⟨Z + 2, o, none⟩ v').ownsRow (Z + 6) e 1 v' m ys ∧ Below Z w (w1.setCell ⟨Z + 2, o, none⟩ v') := by
  have b1 := (h.b.alloc tmp).kept hgrow (own_blk hown (by omega))
  have k2 := grownBy_setAt w1 (Z + 2) o v'
  refine ⟨((KeepsOthers.alloc _ _).trans (KeepsOthers.of_grownBy hgrow (own_cells (hown.alloc tmp)))).trans (KeepsOthers.setCell _ _ _), fun k h1 h2 => ?_, b1, ((h.r.alloc tmp).kept hgrow (own_blk hown (by omega))).other (by omega) _, ?_, own_set hown' b1 hte _, ?_⟩
  · rw [Below.heap_setCell w1 ⟨Z + 2, o, none⟩ v' k (by show k ≠ Z + 2; omega), hgrow.block k (by simp; omega) (own_blk hown (by omega)), Below.heap_alloc W tmp k (by omega)]
  · exact ((h.e.alloc tmp).kept hgrow (own_blk hown (by omega))).kept k2 (fun e => by injection e with e; omega)
  · exact ((h.bl.alloc (by omega) tmp).grown hgrow (by simp; omega) (fun k e => by have := own_block_le hown k e; omega)).setCell (p := ⟨Z + 2, o, none⟩) (by show Z ≤ Z + 2; omega) _


theorem pw_err {w W : World} {Z : Nat} (a b : Value) {a0 b0 e0 : Value} (n : Int) (r : Box2 W Z 47 a0 b0) (e : Boxed W (Z + 1) 28 e0) (bl : Below Z w W) :
    KeepsOthers W (((W.setCell ⟨Z, 0, none⟩ a).setCell ⟨Z, 1, none⟩ b).setCell ⟨Z + 1, 0, none⟩ (.int .i64 n)) ∧ Box2 (((W.setCell ⟨Z, 0, none⟩ a).setCell ⟨Z, 1, none⟩ b).setCell ⟨Z + 1, 0, none⟩ (.int .i64 n)) Z 47 a b ∧
    Boxed (((W.setCell ⟨Z, 0, none⟩ a).setCell ⟨Z, 1, none⟩ b).setCell ⟨Z + 1, 0, none⟩ (.int .i64 n)) (Z + 1) 28 (.int .i64 n) ∧ Below Z w (((W.setCell ⟨Z, 0, none⟩ a).setCell ⟨Z, 1, none⟩ b).setCell ⟨Z + 1, 0, none⟩ (.int .i64 n)) :=
  ⟨((KeepsOthers.setCell _ _ _).trans (KeepsOthers.setCell _ _ _)).trans (KeepsOthers.setCell _ _ _), ((r.set0 _).set1 _).other (by omega) _,
    Boxed.set _ ((e.kept (grownBy_setAt W Z 0 a) (fun e => by injection e with e; omega)).kept (grownBy_setAt _ Z 1 b) (fun e => by injection e with e; omega)),
    ((bl.setCell (p := ⟨Z, 0, none⟩) (Nat.le_refl _) _).setCell (p := ⟨Z, 1, none⟩) (Nat.le_refl _) _).setCell (p := ⟨Z + 1, 0, none⟩) (by show Z ≤ Z + 1; omega) _⟩
theorem pw_end {w X : World} {Z D : Nat} {a b n : Value} (hw : w.heap.size = Z) (hD : Z + 6 ≤ D) (hK : X.heap[D]? = some (.deferred (some []))) (r : Box2 X Z 47 a b) (e : Boxed X (Z + 1) 28 n) (bl : Below Z w X) :
    (X.putObj D (.deferred none)).cell? ⟨Z, 0, none⟩ = some a ∧ (X.putObj D (.deferred none)).cell? ⟨Z, 1, none⟩ = some b ∧ (X.putObj D (.deferred none)).cell? ⟨Z + 1, 0, none⟩ = some n ∧ Below Z w (X.putObj D (.deferred none)) := by
  have g := grownBy_putObj' X D (.deferred none)
  exact ⟨(r.kept g (fun e => by injection e; omega)).c0, (r.kept g (fun e => by injection e; omega)).c1, (e.kept g (fun e => by injection e; omega)).cell, bl.trans (belowK_b (w := w) (by omega) X D _ _ (by omega) hK rfl rfl)⟩
theorem ownW_far {W : World} {B k o : Nat} {A A' : Option Addr} {c d : Nat} {a : Wo} (h : OwnW W B A A' c d a) (hk : k < B) (x : Value) : OwnW (W.setCell ⟨k, o, none⟩ x) B A A' c d a :=
  ⟨own_kept h.1 (grownBy_setAt W k o x) (fun j hj e => by injection e with e; have := own_block_le h.1 j hj; omega), own_kept h.2 (grownBy_setAt W k o x) (fun j hj e => by injection e with e; have := own_block_le h.2 j hj; omega)⟩
/-- What ParseWithout hands back: a canonical form with the text, or nothing and ErrFormat. -/
def PwRes (w : World) (t : Nm) (e : Ending) (w' : World) : Prop :=
  ((∃ u A c A' d, parseItems ([], []) (splitS t) = some u ∧ textN (can u).1 (can u).2 = t ∧ e = .returned (.tuple #[.agg #[.slice A (can u).1.length c, .slice A' (can u).2.length d], .int .i64 0]) ∧ OwnW w' w.heap.size A A' c d (can u)) ∨
    ((∀ u, parseItems ([], []) (splitS t) = some u → textN (can u).1 (can u).2 ≠ t) ∧ e = .returned (.tuple #[.agg #[.slice none 0 0, .slice none 0 0], .int .i64 3]))) ∧ Below w.heap.size w w'

set_option maxRecDepth 100000 in
set_option maxHeartbeats 4000000 in
theorem ParseWithout_any (s : ByteArray) (w : World) (hok : Ok2 w) (hs : s.size ≤ 1000000) (hl1 : (splitS s.data.toList).length ≤ 1000) (hl2 : ∀ x ∈ splitS s.data.toList, x.length ≤ 1000) :
    Calls Tryz.prog 31 #[.string s] w (PwRes w s.data.toList) := by
  refine (callsIn_wide (n := 5)).1 ?_
  refine callsIn_of_wp_marks Tryz.func31 rfl trivial ?_ rfl
  simp only [Tryz.ntmps31, List.size_toArray, List.length_cons, List.length_nil, Nat.reduceAdd, Nat.reduceSub, Array.replicate_succ, Array.replicate_zero, List.push_toArray, List.append_toArray, List.nil_append, List.cons_append]
  obtain ⟨i0, hi, hz0, hz1, hz2⟩ := info_parts Tryz.infoInt
  obtain ⟨i1, hi1, hy0, hy1, hy2⟩ := info_parts Tryz.infoName
  have HOK := Lib.hid hok
  have HL1 := Lib.hid hl1
  have HL2 := Lib.hid hl2
  clear hok hl1 hl2
  gi_wp2_with (refine ⟨trivial, ?_⟩; gi_at_call 59; refine (SplitSeq_in _ (by omega) _ _ _).mono ?_; rintro e w' ⟨rfl, rfl⟩)
  obtain ⟨Z, hZ⟩ : ∃ Z, w.heap.size = Z := ⟨_, rfl⟩
  obtain ⟨W0, hW0⟩ : ∃ W0, (((((w.alloc (.cells #[.slice none 0 0, .slice none 0 0] 47)).alloc (.cells #[.int .i64 0] 28)).alloc (.cells #[.slice none 0 0, .slice none 0 0] 47)).alloc (.cells #[.string s] 9)).alloc (.cells #[.string ⟨#[32]⟩] 9)).alloc (.cells #[.int .i64 0] 3) = W0 := ⟨_, rfl⟩
  have hsz : W0.heap.size = Z + 6 := by rw [← hW0, ← hZ]; simp
  have hBW : Below w.heap.size w W0 := by rw [← hW0]; exact below_al (Nat.le_refl _) _ (below_al (Nat.le_refl _) _ (below_al (Nat.le_refl _) _ (below_al (Nat.le_refl _) _ (below_al (Nat.le_refl _) _ (below_al (Nat.le_refl _) _ (Below.refl _ w))))))
  have g0 : W0.heap[Z]? = some (.cells #[.slice none 0 0, .slice none 0 0] 47 (0, 0)) := by rw [← hW0, ← hZ]; exact hp_old (hp_old (hp_old (hp_old (hp_old (hp_new (by simp))))))
  have g1 : W0.heap[Z + 1]? = some (.cells #[.int .i64 0] 28 (0, 0)) := by rw [← hW0, ← hZ]; exact hp_old (hp_old (hp_old (hp_old (hp_new (by simp)))))
  have g2 : W0.heap[Z + 2]? = some (.cells #[.slice none 0 0, .slice none 0 0] 47 (0, 0)) := by rw [← hW0, ← hZ]; exact hp_old (hp_old (hp_old (hp_new (by simp))))
  have g3 : W0.heap[Z + 3]? = some (.cells #[.string s] 9 (0, 0)) := by rw [← hW0, ← hZ]; exact hp_old (hp_old (hp_new (by simp)))
  have g4 : W0.heap[Z + 3 + 1]? = some (.cells #[.string ⟨#[32]⟩] 9 (0, 0)) := by rw [← hW0, ← hZ]; exact hp_old (hp_new (by simp))
  have g5 : W0.heap[Z + 3 + 2]? = some (.cells #[.int .i64 0] 3 (0, 0)) := by rw [← hW0, ← hZ]; exact hp_new (by simp)
  rw [hZ] at hBW
  have st0 : PwS w Z ([], []) (.slice none 0 0) (.slice none 0 0) W0 := ⟨g0, g1, g2, World.ownsRow_nil _ _ _ _, World.ownsRow_nil _ _ _ _, hBW, by omega⟩
  rw [hW0, hZ]
  simp only [Nat.add_assoc, Nat.reduceAdd]
  have HZ := Lib.hid hZ
  clear hW0 hZ g0 g1 g2
  refine wpIn_range_cell rfl (by omega) (gf := 109) (lb := #[.pointer (some ⟨Z + 4, 0, none⟩), .pointer (some ⟨Z + 3, 0, none⟩), .pointer (some ⟨Z + 5, 0, none⟩)]) rfl trivial (enters_of Tryz.func109 (by kernel_rfl) rfl)
    (Bs := Z + 3) (by omega) (split_cell 4 (by omega) s (by omega) (Z + 3) W0 g3 g4 g5) keep3_t (keep3_b (by omega)) (fun _ => rfl) (PwI w Z) (PwX w Z) (PwI.own (by omega)) (PwX.own (by omega))
    (fun pre W v ⟨u, v1, v2, h1, h2⟩ => ⟨u, v1, v2, h1, h2.set3 v⟩) ⟨([], []), _, _, rfl, st0⟩
    (fun x => { tmps := #[.string s, undef, .pointer (some ⟨Z, 0, none⟩), .pointer (some ⟨Z + 1, 0, none⟩), .pointer (some ⟨Z + 2, 0, none⟩), encN x, undef, undef, undef, undef, .string s, .func (.func 109) #[] #[.pointer (some ⟨Z + 4, 0, none⟩), .pointer (some ⟨Z + 3, 0, none⟩), .pointer (some ⟨Z + 5, 0, none⟩)], encN x, undef, undef, undef, undef, undef, undef, undef, undef, undef, undef, undef, undef, undef, undef, undef, undef, undef, undef, undef, undef, undef, undef, undef, undef, undef, undef, undef, undef, undef, undef, undef, undef, undef, undef], defers := [] })
    ?assign ?body ?done ?stop
  case assign =>
    intro l x W K hK
    gi_wp2
    exact hK
  case body =>
    rintro l pre x W ⟨u, v1, v2, hp, st⟩ hpre
    have hxl := HL2.out x (hpre.subset (by simp))
    have hpl := hpre.length_le
    have hpd := parsed_of hp
    have hl3 := HL1.out
    have hul := hpd.len
    simp at hpl
    have hsz1 := st.sz
    obtain ⟨xb, rfl⟩ : ∃ xb : ByteArray, x = xb.data.toList := ⟨⟨x.toArray⟩, rfl⟩
    have hxs := len_of_byte xb
    have hC := Tryz.strings_CutPrefix xb ⟨#[35]⟩ W
    have HP := Lib.hid hp
    have HST := Lib.hid st
    have hok1 : Ok2 W := HOK.out.later (by rw [HZ.out]; exact st.bl)
    have HOK1 := Lib.hid hok1
    rw [encN_eq]
    clear hp hpd hok1
    cases hpx : Lib.hasPrefix xb.data.toList [35] with
    | false =>
      have hC' : Calls Tryz.prog 60 #[.string xb, .string ⟨#[35]⟩] W fun e w' => e = .returned (.tuple #[.string ⟨(Lib.trimPrefix xb.data.toList [35]).toArray⟩, .bool false]) ∧ w' = W := by
        rw [← hpx]; exact hC
      have HC := Lib.hid hC'
      have hpi : parseItems ([], []) (pre ++ [xb.data.toList]) = some (u.1, u.2 ++ [xb.data.toList]) := by
        rw [parseItems_snoc, HP.out]
        show parseItem u _ = _
        unfold parseItem
        rw [if_neg (by rw [hpx]; simp)]
      have HPI := Lib.hid hpi
      have c1 := st.b.c1
      clear hC hC' hpi st
      gi_wp2_with (first
        | (refine ⟨trivial, ?_⟩; gi_at_call 60; refine (CallsIn.inRound l (callsIn_wide.2 HC.out)).mono ?_; rintro e w' ⟨rfl, rfl⟩)
        | (gi_at_builtin; refine wpListIn_append_own _ rfl _ _ 38 rfl (Z + 6) 53 i1 (.string ⟨#[]⟩) 1 16 Tryz.underlying38 hi1 hy0 hy1 hy2 rfl (by decide) _ _ _ rfl (HST.out.o2.alloc _) ⟨w'.heap.size, 0, none⟩ 1 1 [.string xb] rfl rfl (cell_one_new _ _ _) (by simp [Value.oneCell']) (by unfold maxLen; omega) (by omega) (by simp; omega) ?_; intro v' w1 hown' hgrow _; obtain ⟨g', cap', rfl⟩ := ownsRow_succ hown'; have R := Lib.hid (pw_app (o := 1) HST.out HST.out.o2 hown' hgrow (by decide) hsz1); have hc1 := R.out.2.2.1.c1; have hf1 := R.out.2.2.1.f1; have K1 := Lib.hid (own_other HST.out.o2 HST.out.o1 (by decide) hgrow); have G1 := Lib.hid hgrow.size))
      exact ⟨R.out.1.from _, R.out.2.1, _, _, _, HPI.out, ⟨R.out.2.2.2.1, R.out.2.2.2.2.1, R.out.2.2.1.set1 _, own_set K1.out R.out.2.2.1 (by decide) _, by rw [List.map_append, List.length_append]; exact R.out.2.2.2.2.2.1, R.out.2.2.2.2.2.2, Nat.le_trans hsz1 R.out.1.size⟩⟩
    | true =>
      have htr : Lib.trimPrefix xb.data.toList [35] = xb.data.toList.drop 1 := by unfold Lib.trimPrefix; rw [hpx]; rfl
      have hC' : Calls Tryz.prog 60 #[.string xb, .string ⟨#[35]⟩] W fun e w' => e = .returned (.tuple #[.string ⟨(xb.data.toList.drop 1).toArray⟩, .bool true]) ∧ w' = W := by
        rw [← hpx, ← htr]; exact hC
      have HC := Lib.hid hC'
      obtain ⟨db, hdb⟩ : ∃ db : ByteArray, (⟨(xb.data.toList.drop 1).toArray⟩ : ByteArray) = db := ⟨_, rfl⟩
      have hdl : db.data.toList = xb.data.toList.drop 1 := by rw [← hdb]
      have hds : db.size ≤ 1000000 := by rw [← len_of_byte, hdl]; simp; omega
      rw [hdb] at HC
      have hA := Atoi_any db W HOK1.out hds
      have HPX := Lib.hid hpx
      clear hC hC' htr hpx
      cases hat : Lib.atoiAll db.data.toList with
      | ok v =>
        have hA' : Calls Tryz.prog 61 #[.string db] W fun e w' => e = .returned (.tuple #[.int .i64 v, .nilIface]) ∧ Below W.heap.size W w' := hA.mono (by
          rintro e w' ⟨hb, ⟨v', h1, rfl⟩ | ⟨h1, _⟩⟩
          · rw [hat] at h1; injection h1 with h1; rw [h1]; exact ⟨rfl, hb⟩
          · exact absurd hat (h1 v))
        have HA := Lib.hid hA'
        have hpi : parseItems ([], []) (pre ++ [xb.data.toList]) = some (u.1 ++ [v], u.2) := by
          rw [parseItems_snoc, HP.out]
          show parseItem u _ = _
          unfold parseItem
          rw [if_pos HPX.out, ← hdl, hat]
        have HPI := Lib.hid hpi
        clear hA hA' hpi hat hdl hdb hds st
        gi_wp2_with (first
          | (refine ⟨trivial, ?_⟩; gi_at_call 60; refine (CallsIn.inRound l (callsIn_wide.2 HC.out)).mono ?_; rintro e w' ⟨rfl, rfl⟩)
          | (refine ⟨trivial, ?_⟩; gi_at_call 61; refine (CallsIn.inRound l (callsIn_wide.2 HA.out)).mono ?_; rintro e w2 ⟨rfl, hb2⟩; have HS2 := Lib.hid (HST.out.grown (below_grown0 hb2) (fun k e => by cases e)); have KO := Lib.hid (KeepsOthers.of_grownBy (below_grown0 hb2) (fun j o e => by cases e)); have K3 := Lib.hid (fun k (h1 : Z + 3 ≤ k) (h2 : k ≤ Z + 3 + 2) => hb2.block k (by omega)); have c0 := HS2.out.b.c0; have hsz2 := HS2.out.sz)
          | (gi_at_builtin; refine wpListIn_append_own _ rfl _ _ 36 rfl (Z + 6) 3 i0 (.int .i64 0) 1 8 Tryz.underlying36 hi hz0 hz1 hz2 rfl (by decide) _ _ _ rfl (HS2.out.o1.alloc _) ⟨w2.heap.size, 0, none⟩ 1 1 [.int .i64 v] rfl rfl (cell_one_new _ _ _) (by simp [Value.oneCell']) (by unfold maxLen; omega) (by omega) (by simp; omega) ?_; intro v' w1 hown' hgrow _; obtain ⟨g', cap', rfl⟩ := ownsRow_succ hown'; have R := Lib.hid (pw_app (o := 0) HS2.out HS2.out.o1 hown' hgrow (by decide) hsz2); have hc1 := R.out.2.2.1.c0; have hf1 := R.out.2.2.1.f0; have K1 := Lib.hid (own_other HS2.out.o1 HS2.out.o2 (by decide) hgrow)))
        exact ⟨(KO.out.trans R.out.1).from _, keep3_t K3.out R.out.2.1, _, _, _, HPI.out, ⟨R.out.2.2.2.1, R.out.2.2.2.2.1, R.out.2.2.1.set0 _, by rw [List.map_append, List.length_append]; exact R.out.2.2.2.2.2.1, own_set K1.out R.out.2.2.1 (by decide) _, R.out.2.2.2.2.2.2, Nat.le_trans hsz2 R.out.1.size⟩⟩
      | _ =>
        have hA' : Calls Tryz.prog 61 #[.string db] W fun e w' => ∃ v t p, e = .returned (.tuple #[.int .i64 v, .iface t p]) ∧ Below W.heap.size W w' := hA.mono (by
          rintro e w' ⟨hb, ⟨v', h1, rfl⟩ | ⟨_, v, t, p, rfl⟩⟩
          · rw [hat] at h1; cases h1
          · exact ⟨v, t, p, rfl, hb⟩)
        have HA := Lib.hid hA'
        have hpi : parseItems ([], []) (pre ++ [xb.data.toList]) = none := by
          rw [parseItems_snoc, HP.out]
          show parseItem u _ = _
          unfold parseItem
          rw [if_pos HPX.out, ← hdl, hat]
        have HPI := Lib.hid hpi
        clear hA hA' hpi hat hdl hdb hds st
        gi_wp2_with (first
          | (refine ⟨trivial, ?_⟩; gi_at_call 60; refine (CallsIn.inRound l (callsIn_wide.2 HC.out)).mono ?_; rintro e w' ⟨rfl, rfl⟩)
          | (refine ⟨trivial, ?_⟩; gi_at_call 61; refine (CallsIn.inRound l (callsIn_wide.2 HA.out)).mono ?_; rintro e w2 ⟨v, t, p, rfl, hb2⟩; have HS2 := Lib.hid (HST.out.grown (below_grown0 hb2) (fun k e => by cases e)); have KO := Lib.hid (KeepsOthers.of_grownBy (below_grown0 hb2) (fun j o e => by cases e)); have c0 := HS2.out.r.c0; have c1 := HS2.out.r.c1; have f0 := HS2.out.r.f0; have f1 := HS2.out.r.f1; have d0 := HS2.out.e.cell; have d1 := HS2.out.e.frozen))
        have R := pw_err (.slice none 0 0) (.slice none 0 0) 3 HS2.out.r HS2.out.e HS2.out.bl
        exact ⟨(KO.out.trans R.1).from _, ⟨rfl, HPI.out⟩, R.2⟩
  case done =>
    rintro D W hD ⟨u, v1, v2, hp, st⟩ hK
    have hpd := parsed_of hp
    obtain ⟨A1, c1, rfl, r1⟩ := own_form st.o1
    obtain ⟨A2, c2, rfl, r2⟩ := own_form st.o2
    have hok1 : Ok2 W := HOK.out.later (by rw [HZ.out]; exact st.bl)
    have hul := hpd.len
    have hl3 := HL1.out
    have hC : Calls Tryz.prog 41 #[.agg #[.slice A1 u.1.length c1, .slice A2 u.2.length c2]] W (ResW W (can u)) :=
      (canonical_any A1 A2 u.1.length c1 u.2.length c2 u.1 u.2 W hok1.ok (by omega) (by omega) (fun x hx => HL2.out x (hpd.nm x hx)) r1 r2).mono (by
        rintro e w' ⟨v1, v2, rfl, h1, h2, hb⟩
        obtain ⟨A1, c1, rfl, _⟩ := own_form h1
        obtain ⟨A2, c2, rfl, _⟩ := own_form h2
        exact ⟨A1, c1, A2, c2, rfl, ⟨h1, h2⟩, hb⟩)
    have hcl := can_len u
    obtain ⟨tb, htb⟩ : ∃ tb : ByteArray, tb.data.toList = textN (can u).1 (can u).2 := ⟨⟨(textN (can u).1 (can u).2).toArray⟩, rfl⟩
    have hT : ∀ (W' : World) (A A' : Option Addr) (c d : Nat), Ok W' → WoAt W' A A' (can u) → Calls Tryz.prog 30 #[.agg #[.slice A (can u).1.length c, .slice A' (can u).2.length d]] W' fun e w' => e = .returned (.string tb) ∧ Below W'.heap.size W' w' := fun W' A A' c d ho hw => by
      have h := Text_any A A' (can u).1.length c (can u).2.length d (can u).1 (can u).2 W' ho (fun x hx => hpd.ii x (can_subI hx)) (by omega) (by omega) (fun x hx => HL2.out x (hpd.nm x (can_sub hx))) hw.1 hw.2
      have e : textN (canI (can u).1) (canL (canI (can u).1) (can u).2) = tb.data.toList := by
        rw [htb]
        show textN (can (can u)).1 (can (can u)).2 = _
        rw [can_idem]
      rw [e, encN_eq] at h
      exact h
    have hN : (∀ u', parseItems ([], []) (splitS s.data.toList) = some u' → u' = u) := fun u' h => by rw [hp] at h; injection h with h; exact h.symm
    have HTB := Lib.hid htb
    have HN := Lib.hid hN
    have HPP := Lib.hid hp
    have HC := Lib.hid hC
    have HT := Lib.hid hT
    have HST := Lib.hid st
    have HKD := Lib.hid hK
    have c0 := st.b.c0
    have c1' := st.b.c1
    have hDZ : Z + 6 ≤ D := by omega
    generalize hcu : can u = cu at *
    have HCU := Lib.hid hcu
    clear hcu
    clear hp hpd hok1 hC hT hN htb hcl st hK
    gi_wp2_with (refine ⟨trivial, ?_⟩; gi_at_call 41; refine (callsIn_wide.2 HC.out).mono ?_; rintro e w3 ⟨A3, c3, A4, c4, rfl, o3, hb3⟩; have b3 := HST.out.b.later hb3; have f0 := b3.f0; have f1 := b3.f1; have d0 := b3.c0; have d1 := b3.c1; have t0 := ((b3.set0 (.slice A3 cu.1.length c3)).set1 (.slice A4 cu.2.length c4)).c0; have t1 := ((b3.set0 (.slice A3 cu.1.length c3)).set1 (.slice A4 cu.2.length c4)).c1)
    refine ⟨trivial, ?_⟩
    have hsz3 := hb3.size
    have hszW := HST.out.sz
    have b4 := (b3.set0 (.slice A3 cu.1.length c3)).set1 (.slice A4 cu.2.length c4)
    have o4 := (o3.set (o := 0) b3 (.slice A3 cu.1.length c3)).set (o := 1) (b3.set0 _) (.slice A4 cu.2.length c4)
    have r4 := ((HST.out.r.later hb3).other (B' := Z + 2) (o := 0) (by omega) (.slice A3 cu.1.length c3)).other (B' := Z + 2) (o := 1) (by omega) (.slice A4 cu.2.length c4)
    have e4 := ((HST.out.e.kept (below_grown0 hb3) (by simp)).kept (grownBy_setAt w3 (Z + 2) 0 (.slice A3 cu.1.length c3)) (fun e => by injection e with e; omega)).kept (grownBy_setAt _ (Z + 2) 1 (.slice A4 cu.2.length c4)) (fun e => by injection e with e; omega)
    have bl4 := ((HST.out.bl.trans (hb3.mono (by omega))).setCell (p := ⟨Z + 2, 0, none⟩) (by show Z ≤ Z + 2; omega) (.slice A3 cu.1.length c3)).setCell (p := ⟨Z + 2, 1, none⟩) (by show Z ≤ Z + 2; omega) (.slice A4 cu.2.length c4)
    have k4 := ((KeepsOthers.setCell w3 ⟨Z + 2, 0, none⟩ (.slice A3 cu.1.length c3)).trans (KeepsOthers.setCell _ ⟨Z + 2, 1, none⟩ (.slice A4 cu.2.length c4))).same D _ (box_kept HKD.out hb3) rfl
    obtain ⟨w4, hw4⟩ : ∃ w4, (w3.setCell ⟨Z + 2, 0, none⟩ (.slice A3 cu.1.length c3)).setCell ⟨Z + 2, 1, none⟩ (.slice A4 cu.2.length c4) = w4 := ⟨_, rfl⟩
    rw [hw4] at b4 o4 r4 e4 bl4 k4 ⊢
    have ok4 : Ok2 w4 := HOK.out.later (by rw [HZ.out]; exact bl4)
    have hT4 := HT.out w4 A3 A4 c3 c4 ok4.ok o4.at
    clear hw4 f0 f1 d0 d1 t0 t1 b3 o3 c0 c1' ok4
    refine (callsIn_wide.2 hT4).mono ?_
    rintro e w5 ⟨rfl, hb5⟩
    have b5 := b4.later hb5
    have r5 := r4.later hb5
    have e5 := e4.kept (below_grown0 hb5) (by simp)
    have bl5 := bl4.trans (hb5.mono (by have := r4.lt; omega))
    have k5 := box_kept k4 hb5
    have o5 := o4.later hb5
    have x0 := r5.c0
    have x1 := r5.c1
    have x2 := r5.f0
    have x3 := r5.f1
    have x4 := e5.cell
    have x5 := e5.frozen
    have x6 := b5.c0
    have x7 := b5.c1
    have K5 := Lib.hid k5
    clear b4 o4 r4 e4 bl4 k4 k5 hT4
    by_cases htx : tb.data.toList = s.data.toList
    · have hq := bytes_eq htx
      have HTX := Lib.hid htx
      have R := Lib.hid (pw_err (.slice A3 cu.1.length c3) (.slice A4 cu.2.length c4) 0 r5 e5 bl5)
      have O6 := Lib.hid (ownW_far (k := Z + 1) (o := 0) (ownW_far (k := Z) (o := 1) (ownW_far (k := Z) (o := 0) o5 (by omega) (.slice A3 cu.1.length c3)) (by omega) (.slice A4 cu.2.length c4)) (by omega) (.int .i64 0))
      clear htx
      gi_wp2
      have hK' := R.out.1.same D _ K5.out rfl
      obtain ⟨e0, e1, e2, e3⟩ := pw_end HZ.out hDZ hK' R.out.2.1 R.out.2.2.1 R.out.2.2.2
      refine ⟨by simp, .inl ⟨_, _, rfl, run_takeDeferred hK', ?_⟩⟩
      refine ⟨.tuple #[.agg #[.slice A3 cu.1.length c3, .slice A4 cu.2.length c4], .int .i64 0], ?_, .inl ⟨u, A3, c3, A4, c4, HPP.out, ?_, ?_, ?_⟩, (by rw [HZ.out]; exact e3)⟩
      · simp [results, Tryz.f31, go_sem, e0, e1, e2]
      · rw [HCU.out, ← HTB.out]; exact HTX.out
      · rw [HCU.out]
      · rw [HCU.out, HZ.out]
        exact OwnW.base ⟨ownsRow_putObj O6.out.1 _ hK' rfl, ownsRow_putObj O6.out.2 _ hK' rfl⟩ (by omega)
    · have hq := bytes_ne htx
      have R := Lib.hid (pw_err (.slice none 0 0) (.slice none 0 0) 3 r5 e5 bl5)
      gi_wp2
      have hK' := R.out.1.same D _ K5.out rfl
      obtain ⟨e0, e1, e2, e3⟩ := pw_end HZ.out hDZ hK' R.out.2.1 R.out.2.2.1 R.out.2.2.2
      refine ⟨by simp, .inl ⟨_, _, rfl, run_takeDeferred hK', ?_⟩⟩
      refine ⟨.tuple #[.agg #[.slice none 0 0, .slice none 0 0], .int .i64 3], ?_, .inr ⟨(fun u' h => ?_), rfl⟩, (by rw [HZ.out]; exact e3)⟩
      · simp [results, Tryz.f31, go_sem, e0, e1, e2]
      · rw [HN.out u' h, HCU.out, ← HTB.out]; exact htx
  case stop =>
    rintro D c pre W hD hpre ⟨⟨rfl, hne⟩, r, e, bl⟩ hK
    gi_wp2
    obtain ⟨e0, e1, e2, e3⟩ := pw_end HZ.out (by omega) hK r e bl
    refine ⟨by simp, .inl ⟨_, _, rfl, run_takeDeferred hK, ?_⟩⟩
    refine ⟨.tuple #[.agg #[.slice none 0 0, .slice none 0 0], .int .i64 3], ?_, .inr ⟨(fun u h => by rw [parseItems_prefix hpre hne] at h; cases h), rfl⟩, (by rw [HZ.out]; exact e3)⟩
    simp [results, Tryz.f31, go_sem, e0, e1, e2]

end Go.Proofs.YtnibcffcbnjllaaGreatDoor
