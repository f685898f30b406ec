/- (Script).part at a script without schedules. -/
import Derived.Test.YtnibcffcbnjllaaGreatDoorKn1
import Derived.Test.YtnibcffcbnjllaaGreatDoorCov2
import Derived.Deep.RegionHeld3
import Derived.Deep.RegionWith
namespace Go.Proofs.YtnibcffcbnjllaaGreatDoor
open Go.RowKit Go.Sort

/-- The part of a row. -/
theorem Row.sub6 {w : World} {B n a k : Nat} {A : Option Addr} {xs : List Value} (h : Row w B 6 A n xs) (hak : a + k ≤ n) : ∀ b off, A = some ⟨b, off, none⟩ → Row w B 6 (some ⟨b, off + a * 6, none⟩) k ((xs.drop (a * 6)).take (k * 6)) := by
  intro b off hA
  subst hA
  refine ⟨?_, fun hk => ?_⟩
  · have := h.1
    simp only [List.length_take, List.length_drop]
    omega
  · obtain ⟨b', off', e, hb, hc⟩ := h.2 (by omega)
    injection e with e
    injection e with e1 e2
    subst e1 e2
    refine ⟨b, off + a * 6, rfl, hb, fun j u hu => ?_⟩
    have hj : j < k * 6 := by
      have := (List.getElem?_eq_some_iff.1 hu).1
      simp only [List.length_take] at this
      omega
    rw [List.getElem?_take_of_lt hj, List.getElem?_drop] at hu
    have := hc (a * 6 + j) u hu
    rw [← Nat.add_assoc] at this
    exact this

theorem Row.sub6if {w : World} {B n a k c b off : Nat} {xs : List Value} (h : Row w B 6 (some ⟨b, off, none⟩) n xs) (hak : a + k ≤ n) (hnc : n ≤ c) : Row w B 6 (if c = a then some ⟨b, off, none⟩ else some ⟨b, off + a * 6, none⟩) k ((xs.drop (a * 6)).take (k * 6)) := by
  by_cases hca : c = a
  · rw [if_pos hca]
    obtain rfl : k = 0 := by omega
    rw [Nat.zero_mul, List.take_zero]
    exact Row.nil_
  · rw [if_neg hca]
    exact h.sub6 hak b off rfl

theorem tmd_one (l : List Tmd) : ∀ u ∈ l.flatMap tmdCells, u.oneCell' = true := by
  intro u hu
  obtain ⟨t, _, ht⟩ := List.mem_flatMap.1 hu
  simp only [tmdCells, inpCells, List.mem_cons, List.not_mem_nil, or_false] at ht
  rcases ht with rfl | rfl | rfl | rfl | rfl | rfl <;> rfl

theorem box5 {W0 : World} {B : Nat} {t : TypeId} {x0 x1 x2 x3 x4 : Value} (b0 : BoxN W0 B t #[x0, x1, x2, x3, x4]) (W : World) (hb : Below W0.heap.size W0 W) :
    W.cell? ⟨B, 0, none⟩ = some x0 ∧ W.cell? ⟨B, 1, none⟩ = some x1 ∧ W.cell? ⟨B, 2, none⟩ = some x2 ∧ W.cell? ⟨B, 3, none⟩ = some x3 ∧ W.cell? ⟨B, 4, none⟩ = some x4 :=
  ⟨(b0.later hb).c 0, (b0.later hb).c 1, (b0.later hb).c 2, (b0.later hb).c 3, (b0.later hb).c 4⟩

theorem keep2 {W : World} {a b : Addr} {x y : Value} (o : Obj) (h : W.cell? a = some x ∧ W.cell? b = some y) : (W.alloc o).cell? a = some x ∧ (W.alloc o).cell? b = some y :=
  ⟨Lib.cell?_alloc_some _ h.1, Lib.cell?_alloc_some _ h.2⟩
theorem keep2d {W : World} {a b : Addr} {x y : Value} (o : Obj) (h : W.cell? a = some x ∧ W.cell? b = some y) : (W.alloc o).drew.cell? a = some x ∧ (W.alloc o).drew.cell? b = some y := keep2 o h
theorem keep2b {B : Nat} {W W' : World} {a b : Addr} {x y : Value} (hb : Below B W W') (h : W.cell? a = some x ∧ W.cell? b = some y) (ha : a.block < B) (hb' : b.block < B) : W'.cell? a = some x ∧ W'.cell? b = some y :=
  ⟨(hb.cell ha).trans h.1, (hb.cell hb').trans h.2⟩

theorem keep2e {W : World} {a b : Addr} {x y : Value} (h : W.cell? a = some x ∧ W.cell? b = some y) : W.drew.cell? a = some x ∧ W.drew.cell? b = some y := h
theorem cell_set_ne {W : World} {P o Z k : Nat} (v : Value) (h : Z ≠ P) : (W.setCell ⟨P, o, none⟩ v).cell? ⟨Z, k, none⟩ = W.cell? ⟨Z, k, none⟩ := by
  unfold World.cell?
  simp only
  rw [Below.heap_setCell _ _ _ Z (by simpa using h)]
theorem keep2s {W : World} {P Z j k : Nat} {x y v0 v1 v2 v3 v4 : Value} (h : W.cell? ⟨Z, j, none⟩ = some x ∧ W.cell? ⟨Z, k, none⟩ = some y) (hne : Z ≠ P) :
    (((((W.setCell ⟨P, 0, none⟩ v0).setCell ⟨P, 1, none⟩ v1).setCell ⟨P, 2, none⟩ v2).setCell ⟨P, 3, none⟩ v3).setCell ⟨P, 4, none⟩ v4).cell? ⟨Z, j, none⟩ = some x ∧ (((((W.setCell ⟨P, 0, none⟩ v0).setCell ⟨P, 1, none⟩ v1).setCell ⟨P, 2, none⟩ v2).setCell ⟨P, 3, none⟩ v3).setCell ⟨P, 4, none⟩ v4).cell? ⟨Z, k, none⟩ = some y := by
  simp only [cell_set_ne _ hne]
  exact h

theorem BoxN.set {W : World} {B : Nat} {t : TypeId} {cs : Array Value} (h : BoxN W B t cs) (k : Nat) (x : Value) : BoxN (W.setCell ⟨B, k, none⟩ x) B t (cs.setIfInBounds k x) := by
  obtain ⟨hlt, hk⟩ := Array.getElem?_eq_some_iff.1 h
  show (W.heap.modify B _)[B]? = _
  rw [Array.getElem?_eq_getElem (by rw [Array.size_modify]; exact hlt), Array.getElem_modify_self, hk]
  rfl

def PartRes (w : World) (S : Scr) (fr t : Int) (e : Ending) (w' : World) : Prop :=
  ∃ (A : Option Addr) (n c : Nat), e = .returned (.agg #[.int .i64 fr, .int .i64 t, .int .i64 (S.before + cntB S.inputs fr), .slice A n c, .slice none 0 0]) ∧ Below w.heap.size w w'

set_option maxRecDepth 100000 in
set_option maxHeartbeats 4000000 in
theorem part_any (S : Scr) (b off n c d : Nat) (A' : Option Addr) (fr t : Int) (w : World) (hS : ScrAt w w.heap.size (some ⟨b, off, none⟩) A' n 0 S) (hn : n ≤ 65536) (hmono : ∀ a b, a ≤ b → b < n → tickAt S.inputs a ≤ tickAt S.inputs b)
    (h1 : 0 ≤ S.lo) (h2 : S.lo ≤ fr) (h3 : fr ≤ t) (h4 : t ≤ 1073741824) (h5 : 0 ≤ S.before) (h6 : S.before ≤ 999999) (hc : cntB S.inputs fr ≤ cntB S.inputs t) (hcap : n ≤ c) :
    Calls Tryz.prog 63 #[scrVal S (some ⟨b, off, none⟩) A' n 0 c d, .int .i64 fr, .int .i64 t] w fun e w' => PartRes w S fr t e w' := by
  have hB := fun (W : World) (hb : Below w.heap.size w W) (x : Int) => before_any S (some ⟨b, off, none⟩) A' n 0 c d x W ((hS.below hb).more hb.size) hn hmono
  have hle := cntB_le S.inputs t
  obtain ⟨hr, hl, hs2, hn0, hm⟩ := hS
  have hCl := fun (W : World) (hb : Below w.heap.size w W) => CloneT_any (if c = cntB S.inputs fr then some ⟨b, off, none⟩ else some ⟨b, off + cntB S.inputs fr * 6, none⟩) (cntB S.inputs t - cntB S.inputs fr) (c - cntB S.inputs fr) w.heap.size _ W (by omega) ((hr.sub6if (a := cntB S.inputs fr) (k := cntB S.inputs t - cntB S.inputs fr) (by omega) hcap).below hb) (by
    intro u hu
    exact tmd_one _ u (List.mem_of_mem_drop (List.mem_of_mem_take hu)))
  unfold PartRes
  obtain ⟨lo, hi, bf, ins, sch⟩ := S
  unfold scrVal at hB ⊢
  simp only at hB hle hCl h1 h2 h5 h6 hc hl ⊢
  have hB1 := fun W hb => hB W hb fr
  have hB2 := fun W hb => hB W hb t
  clear hB hmono hs2
  generalize cntB ins fr = lw at *
  generalize cntB ins t = hg at *
  obtain ⟨Ad, hAd⟩ : ∃ Ad, (if c = lw then some (⟨b, off, none⟩ : Addr) else some ⟨b, off + lw * 6, none⟩) = Ad := ⟨_, rfl⟩
  rw [hAd] at hCl
  have HB1 := Lib.hid hB1
  have HB2 := Lib.hid hB2
  have HCL := Lib.hid hCl
  clear hB1 hB2 hCl hr
  have b0 := (BoxN.new w 25 #[.int .i64 lo, .int .i64 hi, .int .i64 bf, .slice (some ⟨b, off, none⟩) n c, .slice A' 0 d]).alloc (.cells #[.int .i64 0, .int .i64 0, .int .i64 0, .slice none 0 0, .slice none 0 0] 25)
  have b1 := BoxN.new (w.alloc (.cells #[.int .i64 lo, .int .i64 hi, .int .i64 bf, .slice (some ⟨b, off, none⟩) n c, .slice A' 0 d] 25)) 25 #[.int .i64 0, .int .i64 0, .int .i64 0, .slice none 0 0, .slice none 0 0]
  have hb0 : Below w.heap.size w ((w.alloc (.cells #[.int .i64 lo, .int .i64 hi, .int .i64 bf, .slice (some ⟨b, off, none⟩) n c, .slice A' 0 d] 25)).alloc (.cells #[.int .i64 0, .int .i64 0, .int .i64 0, .slice none 0 0, .slice none 0 0] 25)) := ((Below.refl _ w).alloc (Nat.le_refl _) _).alloc (by simp) _
  simp only [World.size_alloc] at b1
  obtain ⟨W0, hW0⟩ : ∃ W0, (w.alloc (.cells #[.int .i64 lo, .int .i64 hi, .int .i64 bf, .slice (some ⟨b, off, none⟩) n c, .slice A' 0 d] 25)).alloc (.cells #[.int .i64 0, .int .i64 0, .int .i64 0, .slice none 0 0, .slice none 0 0] 25) = W0 := ⟨_, rfl⟩
  rw [hW0] at b0 b1 hb0
  have HW := Lib.hid hW0
  obtain ⟨Z, hZ⟩ : ∃ Z, w.heap.size = Z := ⟨_, rfl⟩
  rw [hZ] at b0 b1 hb0 HB1 HB2 HCL ⊢
  have HZ := Lib.hid hZ
  clear hW0 hZ
  have q0 := b0.c 0
  have q1 := b0.c 1
  have q2 := b0.c 2
  have q3 := b0.c 3
  have q4 := b0.c 4
  simp only [List.getElem?_toArray, List.getElem?_cons_zero, List.getElem?_cons_succ] at q0 q1 q2 q3 q4
  go_enter Tryz.func63, Tryz.ntmps63
  go_wp2_with fail
  rw [HW.out, HZ.out]
  have hK := box5 b0
  have HK := Lib.hid hK
  clear hK
  go_region_held3 (fun W => W.cell? ⟨Z, 0, none⟩ = some (.int .i64 lo) ∧ W.cell? ⟨Z, 1, none⟩ = some (.int .i64 hi) ∧ W.cell? ⟨Z, 2, none⟩ = some (.int .i64 bf) ∧ W.cell? ⟨Z, 3, none⟩ = some (.slice (some ⟨b, off, none⟩) n c) ∧ W.cell? ⟨Z, 4, none⟩ = some (.slice A' 0 d)) (first | exact ⟨q0, q1, q2, q3, q4⟩ | exact S1 | exact S2) (first
    | (go_at_call 91; refine (HB1.out _ hb0.drew).mono ?_; rintro e w1 ⟨rfl, hb1⟩; replace hb1 := below_of_drew hb1; have S1 := HK.out _ hb1; have hB1 := hb0.trans (hb1.mono (by have := hb0.size; have := HZ.out; omega)))
    | (go_at_call 91; refine (HB2.out _ hb0.drew).mono ?_; rintro e w1 ⟨rfl, hb1⟩; replace hb1 := below_of_drew hb1; have S1 := HK.out _ hb1; have hB1 := hb0.trans (hb1.mono (by have := hb0.size; have := HZ.out; omega)))
    | (go_at_call 91; refine (HB2.out _ hB1).mono ?_; rintro e w2 ⟨rfl, hb2⟩; replace hb2 := hb1.trans (hb2.mono hb1.size); have S2 := HK.out _ hb2)
    | (go_at_call 91; refine (HB1.out _ hB1).mono ?_; rintro e w2 ⟨rfl, hb2⟩; replace hb2 := hb1.trans (hb2.mono hb1.size); have S2 := HK.out _ hb2))
  obtain ⟨s0, s1, s2, s3, s4⟩ := S2
  have hB2 := hb0.trans (hb2.mono (by have := hb0.size; have := HZ.out; omega))
  have bz := b1.later hb2
  have hz2 : Z + 2 ≤ w2.heap.size := by have := bz.lt; omega
  have hln : hg ≤ n := by omega
  have hlc : hg ≤ c := by omega
  have hwr : IntKind.i64.wrap (bf + (lw : Int)) = bf + (lw : Int) := by simp only [IntKind.wrap_i64]; omega
  clear b0 b1 hb0 hb1 hB1 S1 hb2 HK HB1 HB2 q0 q1 q2 q3 q4 hle hl hn0
  go_wp2_with fail
  have s23 := And.intro s2 s3
  have S23 := Lib.hid s23
  have hzz : Z ≤ w2.heap.size := by omega
  have hne : Z ≠ w2.heap.size := by omega
  clear s23
  go_region_held3 (fun W => W.cell? ⟨Z, 2, none⟩ = some (.int .i64 bf) ∧ W.cell? ⟨Z, 3, none⟩ = some (.slice (some ⟨b, off, none⟩) n c)) (first | with_reducible exact S23.out | with_reducible exact keep2e S23.out | with_reducible exact S3 | with_reducible exact keep2 _ S3 | with_reducible exact keep2d _ S23.out | with_reducible exact keep2 _ S23.out | with_reducible exact S4 | with_reducible exact keep2s S4 hne) (first
    | (go_at_call 92; refine (HCL.out _ hB2.drew).mono ?_; rintro e w3 ⟨v3, rfl, ho3, hb3⟩; replace hb3 := below_of_drew hb3; obtain ⟨A3, c3, rfl, _⟩ := own_form ho3; have S3 := keep2b hb3 S23.out (by show Z < _; omega) (by show Z < _; omega))
    | (go_at_call 92; refine (HCL.out _ (hB2.alloc hzz _).drew).mono ?_; rintro e w3 ⟨v3, rfl, ho3, hb3⟩; replace hb3 := below_of_drew hb3; obtain ⟨A3, c3, rfl, _⟩ := own_form ho3; have S4 := keep2b hb3 (keep2 _ S23.out) (by show Z < _; simp; omega) (by show Z < _; simp; omega); have bx9 := (BoxN.new w2 25 #[.int .i64 0, .int .i64 0, .int .i64 0, .slice none 0 0, .slice none 0 0]).later hb3; have f0 := bx9.f 0; have f1 := bx9.f 1; have f2 := bx9.f 2; have f3 := bx9.f 3; have f4 := bx9.f 4; have k0 := bx9.c 0; have k1 := bx9.c 1; have k2 := bx9.c 2; have k3 := bx9.c 3; have k4 := bx9.c 4; simp only [List.getElem?_toArray, List.getElem?_cons_zero, List.getElem?_cons_succ] at k0 k1 k2 k3 k4))
  · have hb35 : Below w3.heap.size w3 (w3.alloc (.cells #[.int .i64 fr, .int .i64 t, .int .i64 (bf + (lw : Int)), .slice A3 (hg - lw) c3, .slice none 0 0] 25)) := (Below.refl _ w3).alloc (Nat.le_refl _) _
    have hb25 := hb3.trans (hb35.mono hb3.size)
    have bP := BoxN.new w3 25 #[.int .i64 fr, .int .i64 t, .int .i64 (bf + (lw : Int)), .slice A3 (hg - lw) c3, .slice none 0 0]
    have bz5 := bz.later hb25
    have y0 := (hb25.cell (p := ⟨Z, 0, none⟩) (by show Z < _; omega)).trans s0
    have y4 := (hb25.cell (p := ⟨Z, 4, none⟩) (by show Z < _; omega)).trans s4
    have hB5 := hB2.trans (hb25.mono hzz)
    have hPZ : w3.heap.size ≠ Z + 1 := by have := hb3.size; omega
    obtain ⟨W5, hW5⟩ : ∃ W5, w3.alloc (.cells #[.int .i64 fr, .int .i64 t, .int .i64 (bf + (lw : Int)), .slice A3 (hg - lw) c3, .slice none 0 0] 25) = W5 := ⟨_, rfl⟩
    rw [hW5] at bP bz5 y0 y4 hB5 ⊢
    generalize w3.heap.size = P at bP hPZ ⊢
    clear hW5 bz hB2
    have m0 := bP.c 0
    have m1 := bP.c 1
    have m2 := bP.c 2
    have m3 := bP.c 3
    have m4 := bP.c 4
    have z0 := bz5.c 0
    have z1 := bz5.c 1
    have z2 := bz5.c 2
    have z3 := bz5.c 3
    have z4 := bz5.c 4
    have o0 := bz5.f 0
    have o1 := bz5.f 1
    have o2 := bz5.f 2
    have o3 := bz5.f 3
    have o4 := bz5.f 4
    simp only [List.getElem?_toArray, List.getElem?_cons_zero, List.getElem?_cons_succ] at m0 m1 m2 m3 m4 z0 z1 z2 z3 z4
    go_wp2_with fail
    go_loop [10] (fun i => i = .int .i64 fr) (fun _ => 0)
    case atStart => rfl
    case round =>
      obtain rfl := hrel
      go_wp2_with fail
      have r := ((((bz5.set 0 (.int .i64 fr)).set 1 (.int .i64 t)).set 2 (.int .i64 (bf + (lw : Int)))).set 3 (.slice A3 (hg - lw) c3)).set 4 (.slice none 0 0)
      have hzz1 : Z ≤ Z + 1 := by omega
      have hbF := ((((hB5.setCell (p := ⟨Z + 1, 0, none⟩) hzz1 (.int .i64 fr)).setCell (p := ⟨Z + 1, 1, none⟩) hzz1 (.int .i64 t)).setCell (p := ⟨Z + 1, 2, none⟩) hzz1 (.int .i64 (bf + (lw : Int)))).setCell (p := ⟨Z + 1, 3, none⟩) hzz1 (.slice A3 (hg - lw) c3)).setCell (p := ⟨Z + 1, 4, none⟩) hzz1 (.slice none 0 0)
      have t0 : (((((W5.setCell ⟨Z + 1, 0, none⟩ (.int .i64 fr)).setCell ⟨Z + 1, 1, none⟩ (.int .i64 t)).setCell ⟨Z + 1, 2, none⟩ (.int .i64 (bf + (lw : Int)))).setCell ⟨Z + 1, 3, none⟩ (.slice A3 (hg - lw) c3)).setCell ⟨Z + 1, 4, none⟩ (.slice none 0 0)).cell? ⟨Z + 1, 0, none⟩ = some (.int .i64 fr) := r.c 0
      have t1 : (((((W5.setCell ⟨Z + 1, 0, none⟩ (.int .i64 fr)).setCell ⟨Z + 1, 1, none⟩ (.int .i64 t)).setCell ⟨Z + 1, 2, none⟩ (.int .i64 (bf + (lw : Int)))).setCell ⟨Z + 1, 3, none⟩ (.slice A3 (hg - lw) c3)).setCell ⟨Z + 1, 4, none⟩ (.slice none 0 0)).cell? ⟨Z + 1, 1, none⟩ = some (.int .i64 t) := r.c 1
      have t2 : (((((W5.setCell ⟨Z + 1, 0, none⟩ (.int .i64 fr)).setCell ⟨Z + 1, 1, none⟩ (.int .i64 t)).setCell ⟨Z + 1, 2, none⟩ (.int .i64 (bf + (lw : Int)))).setCell ⟨Z + 1, 3, none⟩ (.slice A3 (hg - lw) c3)).setCell ⟨Z + 1, 4, none⟩ (.slice none 0 0)).cell? ⟨Z + 1, 2, none⟩ = some (.int .i64 (bf + (lw : Int))) := r.c 2
      have t3 : (((((W5.setCell ⟨Z + 1, 0, none⟩ (.int .i64 fr)).setCell ⟨Z + 1, 1, none⟩ (.int .i64 t)).setCell ⟨Z + 1, 2, none⟩ (.int .i64 (bf + (lw : Int)))).setCell ⟨Z + 1, 3, none⟩ (.slice A3 (hg - lw) c3)).setCell ⟨Z + 1, 4, none⟩ (.slice none 0 0)).cell? ⟨Z + 1, 3, none⟩ = some (.slice A3 (hg - lw) c3) := r.c 3
      have t4 : (((((W5.setCell ⟨Z + 1, 0, none⟩ (.int .i64 fr)).setCell ⟨Z + 1, 1, none⟩ (.int .i64 t)).setCell ⟨Z + 1, 2, none⟩ (.int .i64 (bf + (lw : Int)))).setCell ⟨Z + 1, 3, none⟩ (.slice A3 (hg - lw) c3)).setCell ⟨Z + 1, 4, none⟩ (.slice none 0 0)).cell? ⟨Z + 1, 4, none⟩ = some (.slice none 0 0) := r.c 4
      exact bodyPost_ret (v := .agg #[.int .i64 fr, .int .i64 t, .int .i64 (bf + (lw : Int)), .slice A3 (hg - lw) c3, .slice none 0 0]) (by simp [results, Tryz.f63, go_sem, t0, t1, t2, t3, t4]) rfl ⟨⟨_, _, _, rfl⟩, hbF⟩
  · have hb23 := ((Below.refl w2.heap.size w2).alloc (Nat.le_refl _) (.cells #[.int .i64 0, .int .i64 0, .int .i64 0, .slice none 0 0, .slice none 0 0] 25)).trans (hb3.mono (by simp))
    have hB3 := hB2.trans (hb23.mono hzz)
    have hPZ : w2.heap.size ≠ Z + 1 := by omega
    have bz3 := bz.later hb23
    have bP := ((((bx9.set 0 (.int .i64 fr)).set 1 (.int .i64 t)).set 2 (.int .i64 (bf + (lw : Int)))).set 3 (.slice A3 (hg - lw) c3)).set 4 (.slice none 0 0)
    have bz5 := ((((bz3.other hPZ.symm (o := 0) (.int .i64 fr)).other hPZ.symm (o := 1) (.int .i64 t)).other hPZ.symm (o := 2) (.int .i64 (bf + (lw : Int)))).other hPZ.symm (o := 3) (.slice A3 (hg - lw) c3)).other hPZ.symm (o := 4) (.slice none 0 0)
    have y0 : (((((w3.setCell ⟨w2.heap.size, 0, none⟩ (.int .i64 fr)).setCell ⟨w2.heap.size, 1, none⟩ (.int .i64 t)).setCell ⟨w2.heap.size, 2, none⟩ (.int .i64 (bf + (lw : Int)))).setCell ⟨w2.heap.size, 3, none⟩ (.slice A3 (hg - lw) c3)).setCell ⟨w2.heap.size, 4, none⟩ (.slice none 0 0)).cell? ⟨Z, 0, none⟩ = some (.int .i64 lo) := by
      simp only [cell_set_ne _ hne]
      exact (hb23.cell (p := ⟨Z, 0, none⟩) (by show Z < _; omega)).trans s0
    have y4 : (((((w3.setCell ⟨w2.heap.size, 0, none⟩ (.int .i64 fr)).setCell ⟨w2.heap.size, 1, none⟩ (.int .i64 t)).setCell ⟨w2.heap.size, 2, none⟩ (.int .i64 (bf + (lw : Int)))).setCell ⟨w2.heap.size, 3, none⟩ (.slice A3 (hg - lw) c3)).setCell ⟨w2.heap.size, 4, none⟩ (.slice none 0 0)).cell? ⟨Z, 4, none⟩ = some (.slice A' 0 d) := by
      simp only [cell_set_ne _ hne]
      exact (hb23.cell (p := ⟨Z, 4, none⟩) (by show Z < _; omega)).trans s4
    have hB5 := ((((hB3.setCell (p := ⟨w2.heap.size, 0, none⟩) hzz (.int .i64 fr)).setCell (p := ⟨w2.heap.size, 1, none⟩) hzz (.int .i64 t)).setCell (p := ⟨w2.heap.size, 2, none⟩) hzz (.int .i64 (bf + (lw : Int)))).setCell (p := ⟨w2.heap.size, 3, none⟩) hzz (.slice A3 (hg - lw) c3)).setCell (p := ⟨w2.heap.size, 4, none⟩) hzz (.slice none 0 0)
    obtain ⟨W5, hW5⟩ : ∃ W5, ((((w3.setCell ⟨w2.heap.size, 0, none⟩ (.int .i64 fr)).setCell ⟨w2.heap.size, 1, none⟩ (.int .i64 t)).setCell ⟨w2.heap.size, 2, none⟩ (.int .i64 (bf + (lw : Int)))).setCell ⟨w2.heap.size, 3, none⟩ (.slice A3 (hg - lw) c3)).setCell ⟨w2.heap.size, 4, none⟩ (.slice none 0 0) = W5 := ⟨_, rfl⟩
    rw [hW5] at bP bz5 y0 y4 hB5 ⊢
    replace bP : BoxN W5 w2.heap.size 25 #[.int .i64 fr, .int .i64 t, .int .i64 (bf + (lw : Int)), .slice A3 (hg - lw) c3, .slice none 0 0] := bP
    generalize w2.heap.size = P at bP hPZ ⊢
    clear hW5 bz hB2
    have m0 := bP.c 0
    have m1 := bP.c 1
    have m2 := bP.c 2
    have m3 := bP.c 3
    have m4 := bP.c 4
    have z0 := bz5.c 0
    have z1 := bz5.c 1
    have z2 := bz5.c 2
    have z3 := bz5.c 3
    have z4 := bz5.c 4
    have o0 := bz5.f 0
    have o1 := bz5.f 1
    have o2 := bz5.f 2
    have o3 := bz5.f 3
    have o4 := bz5.f 4
    simp only [List.getElem?_toArray, List.getElem?_cons_zero, List.getElem?_cons_succ] at m0 m1 m2 m3 m4 z0 z1 z2 z3 z4
    go_wp2_with fail
    go_loop [10] (fun i => i = .int .i64 fr) (fun _ => 0)
    case atStart => rfl
    case round =>
      obtain rfl := hrel
      go_wp2_with fail
      have r := ((((bz5.set 0 (.int .i64 fr)).set 1 (.int .i64 t)).set 2 (.int .i64 (bf + (lw : Int)))).set 3 (.slice A3 (hg - lw) c3)).set 4 (.slice none 0 0)
      have hzz1 : Z ≤ Z + 1 := by omega
      have hbF := ((((hB5.setCell (p := ⟨Z + 1, 0, none⟩) hzz1 (.int .i64 fr)).setCell (p := ⟨Z + 1, 1, none⟩) hzz1 (.int .i64 t)).setCell (p := ⟨Z + 1, 2, none⟩) hzz1 (.int .i64 (bf + (lw : Int)))).setCell (p := ⟨Z + 1, 3, none⟩) hzz1 (.slice A3 (hg - lw) c3)).setCell (p := ⟨Z + 1, 4, none⟩) hzz1 (.slice none 0 0)
      have t0 : (((((W5.setCell ⟨Z + 1, 0, none⟩ (.int .i64 fr)).setCell ⟨Z + 1, 1, none⟩ (.int .i64 t)).setCell ⟨Z + 1, 2, none⟩ (.int .i64 (bf + (lw : Int)))).setCell ⟨Z + 1, 3, none⟩ (.slice A3 (hg - lw) c3)).setCell ⟨Z + 1, 4, none⟩ (.slice none 0 0)).cell? ⟨Z + 1, 0, none⟩ = some (.int .i64 fr) := r.c 0
      have t1 : (((((W5.setCell ⟨Z + 1, 0, none⟩ (.int .i64 fr)).setCell ⟨Z + 1, 1, none⟩ (.int .i64 t)).setCell ⟨Z + 1, 2, none⟩ (.int .i64 (bf + (lw : Int)))).setCell ⟨Z + 1, 3, none⟩ (.slice A3 (hg - lw) c3)).setCell ⟨Z + 1, 4, none⟩ (.slice none 0 0)).cell? ⟨Z + 1, 1, none⟩ = some (.int .i64 t) := r.c 1
      have t2 : (((((W5.setCell ⟨Z + 1, 0, none⟩ (.int .i64 fr)).setCell ⟨Z + 1, 1, none⟩ (.int .i64 t)).setCell ⟨Z + 1, 2, none⟩ (.int .i64 (bf + (lw : Int)))).setCell ⟨Z + 1, 3, none⟩ (.slice A3 (hg - lw) c3)).setCell ⟨Z + 1, 4, none⟩ (.slice none 0 0)).cell? ⟨Z + 1, 2, none⟩ = some (.int .i64 (bf + (lw : Int))) := r.c 2
      have t3 : (((((W5.setCell ⟨Z + 1, 0, none⟩ (.int .i64 fr)).setCell ⟨Z + 1, 1, none⟩ (.int .i64 t)).setCell ⟨Z + 1, 2, none⟩ (.int .i64 (bf + (lw : Int)))).setCell ⟨Z + 1, 3, none⟩ (.slice A3 (hg - lw) c3)).setCell ⟨Z + 1, 4, none⟩ (.slice none 0 0)).cell? ⟨Z + 1, 3, none⟩ = some (.slice A3 (hg - lw) c3) := r.c 3
      have t4 : (((((W5.setCell ⟨Z + 1, 0, none⟩ (.int .i64 fr)).setCell ⟨Z + 1, 1, none⟩ (.int .i64 t)).setCell ⟨Z + 1, 2, none⟩ (.int .i64 (bf + (lw : Int)))).setCell ⟨Z + 1, 3, none⟩ (.slice A3 (hg - lw) c3)).setCell ⟨Z + 1, 4, none⟩ (.slice none 0 0)).cell? ⟨Z + 1, 4, none⟩ = some (.slice none 0 0) := r.c 4
      exact bodyPost_ret (v := .agg #[.int .i64 fr, .int .i64 t, .int .i64 (bf + (lw : Int)), .slice A3 (hg - lw) c3, .slice none 0 0]) (by simp [results, Tryz.f63, go_sem, t0, t1, t2, t3, t4]) rfl ⟨⟨_, _, _, rfl⟩, hbF⟩

end Go.Proofs.YtnibcffcbnjllaaGreatDoor
