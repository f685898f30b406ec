/- (Script).Cut at a script of good Advances without schedules. -/
import Derived.Test.YtnibcffcbnjllaaGreatDoorQKn2
import Derived.Test.YtnibcffcbnjllaaGreatDoorQKn1
import Derived.Test.YtnibcffcbnjllaaGreatDoorQKn0
namespace Go.Proofs.YtnibcffcbnjllaaGreatDoor
open Go.RowKit Go.Sort

def CutRes (w : World) (S : Scr) (t : Int) (e : Ending) (w' : World) : Prop :=
  ∃ (A1 : Option Addr) (n1 c1 : Nat) (A2 : Option Addr) (n2 c2 : Nat), e = .returned (.tuple #[.agg #[.int .i64 S.lo, .int .i64 t, .int .i64 (S.before + cntB S.inputs S.lo), .slice A1 n1 c1, .slice none 0 0], .agg #[.int .i64 t, .int .i64 S.hi, .int .i64 (S.before + cntB S.inputs t), .slice A2 n2 c2, .slice none 0 0], .int .i64 0]) ∧ Below w.heap.size w w'

theorem keep5e {W : World} {Z : Nat} {x0 x1 x2 x3 x4 : Value} (h : W.cell? ⟨Z, 0, none⟩ = some x0 ∧ W.cell? ⟨Z, 1, none⟩ = some x1 ∧ W.cell? ⟨Z, 2, none⟩ = some x2 ∧ W.cell? ⟨Z, 3, none⟩ = some x3 ∧ W.cell? ⟨Z, 4, none⟩ = some x4) :
    W.drew.cell? ⟨Z, 0, none⟩ = some x0 ∧ W.drew.cell? ⟨Z, 1, none⟩ = some x1 ∧ W.drew.cell? ⟨Z, 2, none⟩ = some x2 ∧ W.drew.cell? ⟨Z, 3, none⟩ = some x3 ∧ W.drew.cell? ⟨Z, 4, none⟩ = some x4 := h
/-- Five stores into a block. -/
abbrev set5 (W : World) (P : Nat) (v0 v1 v2 v3 v4 : Value) : World := ((((W.setCell ⟨P, 0, none⟩ v0).setCell ⟨P, 1, none⟩ v1).setCell ⟨P, 2, none⟩ v2).setCell ⟨P, 3, none⟩ v3).setCell ⟨P, 4, none⟩ v4
theorem keep5s {W : World} {P Z : Nat} {x0 x1 x2 x3 x4 v0 v1 v2 v3 v4 : Value} (h : W.cell? ⟨Z, 0, none⟩ = some x0 ∧ W.cell? ⟨Z, 1, none⟩ = some x1 ∧ W.cell? ⟨Z, 2, none⟩ = some x2 ∧ W.cell? ⟨Z, 3, none⟩ = some x3 ∧ W.cell? ⟨Z, 4, none⟩ = some x4) (hne : Z ≠ P) :
    (set5 W P v0 v1 v2 v3 v4).cell? ⟨Z, 0, none⟩ = some x0 ∧ (set5 W P v0 v1 v2 v3 v4).cell? ⟨Z, 1, none⟩ = some x1 ∧ (set5 W P v0 v1 v2 v3 v4).cell? ⟨Z, 2, none⟩ = some x2 ∧ (set5 W P v0 v1 v2 v3 v4).cell? ⟨Z, 3, none⟩ = some x3 ∧ (set5 W P v0 v1 v2 v3 v4).cell? ⟨Z, 4, none⟩ = some x4 := by
  simp only [set5, cell_set_ne _ hne]
  exact h

theorem BoxN.set5 {W : World} {B : Nat} {t : TypeId} {a0 a1 a2 a3 a4 : Value} (h : BoxN W B t #[a0, a1, a2, a3, a4]) (v0 v1 v2 v3 v4 : Value) : BoxN (Go.Proofs.YtnibcffcbnjllaaGreatDoor.set5 W B v0 v1 v2 v3 v4) B t #[v0, v1, v2, v3, v4] :=
  ((((h.set 0 v0).set 1 v1).set 2 v2).set 3 v3).set 4 v4
theorem BoxN.others {W : World} {B P : Nat} {t : TypeId} {cs : Array Value} (h : BoxN W B t cs) (hne : B ≠ P) (v0 v1 v2 v3 v4 : Value) : BoxN (Go.Proofs.YtnibcffcbnjllaaGreatDoor.set5 W P v0 v1 v2 v3 v4) B t cs :=
  ((((h.other hne v0).other hne v1).other hne v2).other hne v3).other hne v4
theorem below_set5 {B P : Nat} {w W : World} (h : Below B w W) (hP : B ≤ P) (v0 v1 v2 v3 v4 : Value) : Below B w (set5 W P v0 v1 v2 v3 v4) :=
  ((((h.setCell (p := ⟨P, 0, none⟩) hP v0).setCell (p := ⟨P, 1, none⟩) hP v1).setCell (p := ⟨P, 2, none⟩) hP v2).setCell (p := ⟨P, 3, none⟩) hP v3).setCell (p := ⟨P, 4, none⟩) hP v4

set_option maxRecDepth 100000 in
set_option maxHeartbeats 4000000 in
theorem Cut_good (S : Scr) (b off n c d : Nat) (A' : Option Addr) (t : Int) (w : World) (hok : Ok w) (hS : ScrAt w w.heap.size (some ⟨b, off, none⟩) A' n 0 S) (hg : GoodS S) (h2 : S.lo ≤ t) (h3 : t ≤ S.hi) (hc1 : cntB S.inputs S.lo ≤ cntB S.inputs t) (hc2 : cntB S.inputs t ≤ cntB S.inputs S.hi) (hcap : n ≤ c) :
    Calls Tryz.prog 33 #[scrVal S (some ⟨b, off, none⟩) A' n 0 c d, .int .i64 t] w fun e w' => CutRes w S t e w' := by
  have hl : S.inputs.length = n := hS.2.1
  have hn : n ≤ 65536 := by have := hg.h6; omega
  have hmono : ∀ a b, a ≤ b → b < n → tickAt S.inputs a ≤ tickAt S.inputs b := by rw [← hl]; exact hg.mono
  have hCh := fun (W : World) (hb : Below w.heap.size w W) => Check_good S (some ⟨b, off, none⟩) A' n c d W (hok.later hb) ((hS.below hb).more hb.size) hg
  have hP1 := fun (W : World) (hb : Below w.heap.size w W) => part_any S b off n c d A' S.lo t W ((hS.below hb).more hb.size) hn hmono hg.h1 (by omega) h2 (by have := hg.h4; omega) hg.h2 (by have := hg.h7; omega) hc1 hcap
  have hP2 := fun (W : World) (hb : Below w.heap.size w W) => part_any S b off n c d A' t S.hi W ((hS.below hb).more hb.size) hn hmono hg.h1 h2 h3 (by have := hg.h4; omega) hg.h2 (by have := hg.h7; omega) hc2 hcap
  unfold CutRes
  unfold PartRes at hP1 hP2
  obtain ⟨lo, hi, bf, ins, sch⟩ := S
  unfold scrVal at hCh hP1 hP2 ⊢
  simp only at hCh hP1 hP2 h2 h3 ⊢
  generalize bf + (cntB ins lo : Int) = x1 at hP1 ⊢
  generalize bf + (cntB ins t : Int) = x2 at hP2 ⊢
  have HCH := Lib.hid hCh
  have HP1 := Lib.hid hP1
  have HP2 := Lib.hid hP2
  clear hCh hP1 hP2 hS hg hok hmono hl hc1 hc2 hcap hn
  have b0 := ((BoxN.new w 25 #[.int .i64 lo, .int .i64 hi, .int .i64 bf, .slice (some ⟨b, off, none⟩) n c, .slice A' 0 d]).alloc (.cells #[.int .i64 0, .int .i64 0, .int .i64 0, .slice none 0 0, .slice none 0 0] 25)).alloc (.cells #[.int .i64 0, .int .i64 0, .int .i64 0, .slice none 0 0, .slice none 0 0] 25)
  have b1 := (BoxN.new (w.alloc (.cells #[.int .i64 lo, .int .i64 hi, .int .i64 bf, .slice (some ⟨b, off, none⟩) n c, .slice A' 0 d] 25)) 25 #[.int .i64 0, .int .i64 0, .int .i64 0, .slice none 0 0, .slice none 0 0]).alloc (.cells #[.int .i64 0, .int .i64 0, .int .i64 0, .slice none 0 0, .slice none 0 0] 25)
  have b2 := BoxN.new ((w.alloc (.cells #[.int .i64 lo, .int .i64 hi, .int .i64 bf, .slice (some ⟨b, off, none⟩) n c, .slice A' 0 d] 25)).alloc (.cells #[.int .i64 0, .int .i64 0, .int .i64 0, .slice none 0 0, .slice none 0 0] 25)) 25 #[.int .i64 0, .int .i64 0, .int .i64 0, .slice none 0 0, .slice none 0 0]
  have hb0 : Below w.heap.size w (((w.alloc (.cells #[.int .i64 lo, .int .i64 hi, .int .i64 bf, .slice (some ⟨b, off, none⟩) n c, .slice A' 0 d] 25)).alloc (.cells #[.int .i64 0, .int .i64 0, .int .i64 0, .slice none 0 0, .slice none 0 0] 25)).alloc (.cells #[.int .i64 0, .int .i64 0, .int .i64 0, .slice none 0 0, .slice none 0 0] 25)) := (((Below.refl _ w).alloc (Nat.le_refl _) _).alloc (by simp) _).alloc (by simp; omega) _
  simp only [World.size_alloc] at b1 b2
  obtain ⟨W0, hW0⟩ : ∃ W0, ((w.alloc (.cells #[.int .i64 lo, .int .i64 hi, .int .i64 bf, .slice (some ⟨b, off, none⟩) n c, .slice A' 0 d] 25)).alloc (.cells #[.int .i64 0, .int .i64 0, .int .i64 0, .slice none 0 0, .slice none 0 0] 25)).alloc (.cells #[.int .i64 0, .int .i64 0, .int .i64 0, .slice none 0 0, .slice none 0 0] 25) = W0 := ⟨_, rfl⟩
  rw [hW0] at b0 b1 b2 hb0
  have HW := Lib.hid hW0
  obtain ⟨Z, hZ⟩ : ∃ Z, w.heap.size = Z := ⟨_, rfl⟩
  rw [hZ] at b0 b1 b2 hb0 HCH HP1 HP2 ⊢
  have HZ := Lib.hid hZ
  clear hW0 hZ
  go_enter Tryz.func33, Tryz.ntmps33
  go_wp2_with fail
  rw [HW.out, HZ.out]
  refine (HCH.out W0 hb0).mono ?_
  rintro e w1 ⟨rfl, hb1⟩
  have c0 := b0.later hb1
  have hB1 := hb0.trans (hb1.mono (by have := hb0.size; have := HZ.out; omega))
  have q0 := c0.c 0
  have q1 := c0.c 1
  have q2 := c0.c 2
  have q3 := c0.c 3
  have q4 := c0.c 4
  simp only [List.getElem?_toArray, List.getElem?_cons_zero, List.getElem?_cons_succ] at q0 q1 q2 q3 q4
  have HK := Lib.hid (box5 c0)
  have HB1 := Lib.hid (b1.later hb1)
  have HB2 := Lib.hid (b2.later hb1)
  clear b0 b1 b2 hb0 hb1 HCH HW
  have hne1 : Z ≠ Z + 1 := by omega
  have hne2 : Z ≠ Z + 1 + 1 := by omega
  have SQ := Lib.hid (HK.out w1 (Below.refl _ _))
  go_wp2_with fail
  go_region_held3 (fun W => W.cell? ⟨Z, 0, none⟩ = some (.int .i64 lo) ∧ W.cell? ⟨Z, 1, none⟩ = some (.int .i64 hi) ∧ W.cell? ⟨Z, 2, none⟩ = some (.int .i64 bf) ∧ W.cell? ⟨Z, 3, none⟩ = some (.slice (some ⟨b, off, none⟩) n c) ∧ W.cell? ⟨Z, 4, none⟩ = some (.slice A' 0 d)) (first | with_reducible exact SQ.out | with_reducible exact keep5e SQ.out | with_reducible exact S1 | with_reducible exact S2 | with_reducible exact keep5s S2 hne1 | with_reducible exact keep5s S2 hne2 | with_reducible exact keep5s (keep5s S2 hne1) hne2 | with_reducible exact keep5s (keep5s S2 hne2) hne1) (first
    | (go_at_call 63; with_reducible refine (HP1.out _ hB1.drew).mono ?_; rintro e w2 ⟨A2, n2, c2, rfl, hb2⟩; replace hb2 := below_of_drew hb2; have S1 := HK.out _ hb2; have hB2 := hB1.trans (hb2.mono (by have := hB1.size; have := HZ.out; omega)))
    | (go_at_call 63; with_reducible refine (HP2.out _ hB1.drew).mono ?_; rintro e w2 ⟨A2, n2, c2, rfl, hb2⟩; replace hb2 := below_of_drew hb2; have S1 := HK.out _ hb2; have hB2 := hB1.trans (hb2.mono (by have := hB1.size; have := HZ.out; omega)))
    | (go_at_call 63; with_reducible refine (HP2.out _ hB2).mono ?_; rintro e w3 ⟨A3, n3, c3, rfl, hb3⟩; replace hb3 := hb2.trans (hb3.mono hb2.size); have S2 := HK.out _ hb3; have u1 := HB1.out.later hb3; have u2 := HB2.out.later hb3; have f10 := u1.f 0; have f11 := u1.f 1; have f12 := u1.f 2; have f13 := u1.f 3; have f14 := u1.f 4; have f20 := u2.f 0; have f21 := u2.f 1; have f22 := u2.f 2; have f23 := u2.f 3; have f24 := u2.f 4; have k10 := u1.c 0; have k11 := u1.c 1; have k12 := u1.c 2; have k13 := u1.c 3; have k14 := u1.c 4; have k20 := u2.c 0; have k21 := u2.c 1; have k22 := u2.c 2; have k23 := u2.c 3; have k24 := u2.c 4; simp only [List.getElem?_toArray, List.getElem?_cons_zero, List.getElem?_cons_succ] at k10 k11 k12 k13 k14 k20 k21 k22 k23 k24; have hB3 := hB1.trans (hb3.mono (by have := hB1.size; have := HZ.out; omega)))
    | (go_at_call 63; with_reducible refine (HP1.out _ hB2).mono ?_; rintro e w3 ⟨A3, n3, c3, rfl, hb3⟩; replace hb3 := hb2.trans (hb3.mono hb2.size); have S2 := HK.out _ hb3; have u1 := HB1.out.later hb3; have u2 := HB2.out.later hb3; have f10 := u1.f 0; have f11 := u1.f 1; have f12 := u1.f 2; have f13 := u1.f 3; have f14 := u1.f 4; have f20 := u2.f 0; have f21 := u2.f 1; have f22 := u2.f 2; have f23 := u2.f 3; have f24 := u2.f 4; have k10 := u1.c 0; have k11 := u1.c 1; have k12 := u1.c 2; have k13 := u1.c 3; have k14 := u1.c 4; have k20 := u2.c 0; have k21 := u2.c 1; have k22 := u2.c 2; have k23 := u2.c 3; have k24 := u2.c 4; simp only [List.getElem?_toArray, List.getElem?_cons_zero, List.getElem?_cons_succ] at k10 k11 k12 k13 k14 k20 k21 k22 k23 k24; have hB3 := hB1.trans (hb3.mono (by have := hB1.size; have := HZ.out; omega))))
  go_wp2_with fail
  have r1 := (u1.set5 (.int .i64 lo) (.int .i64 t) (.int .i64 x1) (.slice A2 n2 c2) (.slice none 0 0)).others (P := Z + 1 + 1) (by omega) (.int .i64 t) (.int .i64 hi) (.int .i64 x2) (.slice A3 n3 c3) (.slice none 0 0)
  have r2 := (u2.others (P := Z + 1) (by omega) (.int .i64 lo) (.int .i64 t) (.int .i64 x1) (.slice A2 n2 c2) (.slice none 0 0)).set5 (.int .i64 t) (.int .i64 hi) (.int .i64 x2) (.slice A3 n3 c3) (.slice none 0 0)
  have hbF := below_set5 (P := Z + 1 + 1) (below_set5 (P := Z + 1) hB3 (by omega) (.int .i64 lo) (.int .i64 t) (.int .i64 x1) (.slice A2 n2 c2) (.slice none 0 0)) (by omega) (.int .i64 t) (.int .i64 hi) (.int .i64 x2) (.slice A3 n3 c3) (.slice none 0 0)
  unfold set5 at r1 r2 hbF
  generalize ((((((((((w3.setCell ⟨Z + 1, 0, none⟩ (.int .i64 lo)).setCell ⟨Z + 1, 1, none⟩ (.int .i64 t)).setCell ⟨Z + 1, 2, none⟩ (.int .i64 x1)).setCell ⟨Z + 1, 3, none⟩ (.slice A2 n2 c2)).setCell ⟨Z + 1, 4, none⟩ (.slice none 0 0)).setCell ⟨Z + 1 + 1, 0, none⟩ (.int .i64 t)).setCell ⟨Z + 1 + 1, 1, none⟩ (.int .i64 hi)).setCell ⟨Z + 1 + 1, 2, none⟩ (.int .i64 x2)).setCell ⟨Z + 1 + 1, 3, none⟩ (.slice A3 n3 c3)).setCell ⟨Z + 1 + 1, 4, none⟩ (.slice none 0 0)) = W9 at r1 r2 hbF ⊢
  have t0 := r1.c 0
  have t1 := r1.c 1
  have t2 := r1.c 2
  have t3 := r1.c 3
  have t4 := r1.c 4
  have t5 := r2.c 0
  have t6 := r2.c 1
  have t7 := r2.c 2
  have t8 := r2.c 3
  have t9 := r2.c 4
  simp only [List.getElem?_toArray, List.getElem?_cons_zero, List.getElem?_cons_succ] at t0 t1 t2 t3 t4 t5 t6 t7 t8 t9
  exact bodyPost_ret (v := .tuple #[.agg #[.int .i64 lo, .int .i64 t, .int .i64 x1, .slice A2 n2 c2, .slice none 0 0], .agg #[.int .i64 t, .int .i64 hi, .int .i64 x2, .slice A3 n3 c3, .slice none 0 0], .int .i64 0]) (by simp [results, Tryz.f33, go_sem, t0, t1, t2, t3, t4, t5, t6, t7, t8, t9]) rfl ⟨_, _, _, _, _, _, rfl, hbF⟩

theorem KS_Cut : KCut := by
  intro B W hok hS
  have h := Cut_good KS B 0 3 3 0 none 6 W hok hS KS_good (by decide) (by decide) (by decide) (by decide) (by omega)
  refine h.mono ?_
  rintro e w' ⟨A1, n1, c1, A2, n2, c2, rfl, hb⟩
  exact ⟨A1, n1, c1, A2, n2, c2, rfl, hb⟩

theorem known_any (w : World) (hok : Ok w) : Calls Tryz.prog 7 #[] w fun e w' => e = .returned (.bool true) ∧ Below w.heap.size w w' := known_core KS_Cut w hok

end Go.Proofs.YtnibcffcbnjllaaGreatDoor
