/- ScriptTakes: the first loop. -/
import Derived.Test.YtnibcffcbnjllaaGreatDoorPar2
import Derived.Test.YtnibcffcbnjllaaGreatDoorKn2
import Derived.Test.YtnibcffcbnjllaaGreatDoorTak0
import Derived.Deep.DeepCutAuto
namespace Go.Proofs.YtnibcffcbnjllaaGreatDoor
open Go.RowKit Go.Sort

theorem fewB_true {xs : List Int} {ns : List Nm} (h : fewB xs ns = true) : xs.length ≤ 30 ∧ ns.length ≤ 30 ∧ ∀ x ∈ ns, x.length ≤ 100 := by
  unfold fewB at h
  simp only [Bool.and_eq_true, decide_eq_true_eq, Bool.not_eq_true'] at h
  refine ⟨h.1.1, h.1.2, fun x hx => ?_⟩
  have h2 := h.2
  unfold longB at h2
  rw [Bool.or_eq_false_iff, List.any_eq_false] at h2
  have := h2.1 x hx
  simpa using this

theorem own_setN {W : World} {base e size n B o : Nat} {r : Value} {xs : List Value} {t' : TypeId} {cs : Array Value} (h : W.ownsRow base e size r n xs) (hb : BoxN W B t' cs) (hne : t' ≠ e) (x : Value) : (W.setCell ⟨B, o, none⟩ x).ownsRow base e size r n xs :=
  h.kept (grownBy_setAt W B o x) (.inr (hb.not_row hne h).symm)
/-- Six stores into a block. -/
abbrev set6 (W : World) (P : Nat) (v0 v1 v2 v3 v4 v5 : Value) : World := (((((W.setCell ⟨P, 0, none⟩ v0).setCell ⟨P, 1, none⟩ v1).setCell ⟨P, 2, none⟩ v2).setCell ⟨P, 3, none⟩ v3).setCell ⟨P, 4, none⟩ v4).setCell ⟨P, 5, none⟩ v5
theorem own_set6 {W : World} {base e size n P : Nat} {r : Value} {xs : List Value} {t' : TypeId} {cs : Array Value} (h : W.ownsRow base e size r n xs) (hb : BoxN W P t' cs) (hne : t' ≠ e) (v0 v1 v2 v3 v4 v5 : Value) : (set6 W P v0 v1 v2 v3 v4 v5).ownsRow base e size r n xs :=
  own_setN (own_setN (own_setN (own_setN (own_setN (own_setN h hb hne v0) (hb.set 0 v0) hne v1) ((hb.set 0 v0).set 1 v1) hne v2) (((hb.set 0 v0).set 1 v1).set 2 v2) hne v3) ((((hb.set 0 v0).set 1 v1).set 2 v2).set 3 v3) hne v4) (((((hb.set 0 v0).set 1 v1).set 2 v2).set 3 v3).set 4 v4) hne v5
theorem below_set6 {B P : Nat} {w W : World} (h : Below B w W) (hP : B ≤ P) (v0 v1 v2 v3 v4 v5 : Value) : Below B w (set6 W P v0 v1 v2 v3 v4 v5) :=
  (((((h.setCell (p := ⟨P, 0, none⟩) hP v0).setCell (p := ⟨P, 1, none⟩) hP v1).setCell (p := ⟨P, 2, none⟩) hP v2).setCell (p := ⟨P, 3, none⟩) hP v3).setCell (p := ⟨P, 4, none⟩) hP v4).setCell (p := ⟨P, 5, none⟩) hP v5
theorem cell_set6 {W : World} {P Z k : Nat} (v0 v1 v2 v3 v4 v5 : Value) (h : Z ≠ P) : (set6 W P v0 v1 v2 v3 v4 v5).cell? ⟨Z, k, none⟩ = W.cell? ⟨Z, k, none⟩ := by
  simp only [set6, cell_set_ne _ h]

/-- Seven cells. -/
abbrev S7 (Z ZW bx ox : Nat) (x0 x1 x2 x3 x4 x5 x6 : Value) (W : World) : Prop :=
  W.cell? ⟨Z, 0, none⟩ = some x0 ∧ W.cell? ⟨Z, 1, none⟩ = some x1 ∧ W.cell? ⟨Z, 2, none⟩ = some x2 ∧ W.cell? ⟨Z, 3, none⟩ = some x3 ∧ W.cell? ⟨Z, 4, none⟩ = some x4 ∧ W.cell? ⟨ZW, 0, none⟩ = some x5 ∧ W.cell? ⟨bx, ox, none⟩ = some x6
section
variable {Z ZW bx ox : Nat} {x0 x1 x2 x3 x4 x5 x6 : Value} {W W' : World}
theorem S7.drew (h : S7 Z ZW bx ox x0 x1 x2 x3 x4 x5 x6 W) : S7 Z ZW bx ox x0 x1 x2 x3 x4 x5 x6 W.drew := h
theorem S7.below {B : Nat} (hb : Below B W W') (h : S7 Z ZW bx ox x0 x1 x2 x3 x4 x5 x6 W) (h1 : Z < B) (h2 : ZW < B) (h3 : bx < B) : S7 Z ZW bx ox x0 x1 x2 x3 x4 x5 x6 W' :=
  ⟨(hb.cell h1).trans h.1, (hb.cell h1).trans h.2.1, (hb.cell h1).trans h.2.2.1, (hb.cell h1).trans h.2.2.2.1, (hb.cell h1).trans h.2.2.2.2.1, (hb.cell h2).trans h.2.2.2.2.2.1, (hb.cell h3).trans h.2.2.2.2.2.2⟩
theorem S7.alloc (o : Obj) (h : S7 Z ZW bx ox x0 x1 x2 x3 x4 x5 x6 W) : S7 Z ZW bx ox x0 x1 x2 x3 x4 x5 x6 (W.alloc o) :=
  ⟨Lib.cell?_alloc_some _ h.1, Lib.cell?_alloc_some _ h.2.1, Lib.cell?_alloc_some _ h.2.2.1, Lib.cell?_alloc_some _ h.2.2.2.1, Lib.cell?_alloc_some _ h.2.2.2.2.1, Lib.cell?_alloc_some _ h.2.2.2.2.2.1, Lib.cell?_alloc_some _ h.2.2.2.2.2.2⟩
theorem S7.allocd (o : Obj) (h : S7 Z ZW bx ox x0 x1 x2 x3 x4 x5 x6 W) : S7 Z ZW bx ox x0 x1 x2 x3 x4 x5 x6 (W.alloc o).drew := h.alloc o
theorem S7.set6 {P : Nat} {v0 v1 v2 v3 v4 v5 : Value} (h : S7 Z ZW bx ox x0 x1 x2 x3 x4 x5 x6 W) (h1 : Z ≠ P) (h2 : ZW ≠ P) (h3 : bx ≠ P) : S7 Z ZW bx ox x0 x1 x2 x3 x4 x5 x6 (Go.Proofs.YtnibcffcbnjllaaGreatDoor.set6 W P v0 v1 v2 v3 v4 v5) := by
  unfold S7
  simp only [cell_set6 _ _ _ _ _ _ h1, cell_set6 _ _ _ _ _ _ h2, cell_set6 _ _ _ _ _ _ h3]
  exact h
end

theorem below_al {B : Nat} {w W : World} (hz : B ≤ w.heap.size) (o : Obj) (h : Below B w W) : Below B w (W.alloc o) := h.alloc (Nat.le_trans hz h.size) o
/-- Seven other cells. -/
abbrev S8 (Z ZW : Nat) (x0 x1 x2 x3 x4 x5 x6 : Value) (W : World) : Prop :=
  W.cell? ⟨Z, 0, none⟩ = some x0 ∧ W.cell? ⟨Z, 1, none⟩ = some x1 ∧ W.cell? ⟨Z, 2, none⟩ = some x2 ∧ W.cell? ⟨Z, 3, none⟩ = some x3 ∧ W.cell? ⟨Z, 4, none⟩ = some x4 ∧ W.cell? ⟨ZW, 0, none⟩ = some x5 ∧ W.cell? ⟨ZW, 1, none⟩ = some x6
section
variable {Z ZW : Nat} {x0 x1 x2 x3 x4 x5 x6 : Value} {W W' : World}
theorem S8.drew (h : S8 Z ZW x0 x1 x2 x3 x4 x5 x6 W) : S8 Z ZW x0 x1 x2 x3 x4 x5 x6 W.drew := h
theorem S8.below {B : Nat} (hb : Below B W W') (h : S8 Z ZW x0 x1 x2 x3 x4 x5 x6 W) (h1 : Z < B) (h2 : ZW < B) : S8 Z ZW x0 x1 x2 x3 x4 x5 x6 W' :=
  ⟨(hb.cell h1).trans h.1, (hb.cell h1).trans h.2.1, (hb.cell h1).trans h.2.2.1, (hb.cell h1).trans h.2.2.2.1, (hb.cell h1).trans h.2.2.2.2.1, (hb.cell h2).trans h.2.2.2.2.2.1, (hb.cell h2).trans h.2.2.2.2.2.2⟩
theorem S8.alloc (o : Obj) (h : S8 Z ZW x0 x1 x2 x3 x4 x5 x6 W) : S8 Z ZW x0 x1 x2 x3 x4 x5 x6 (W.alloc o) :=
  ⟨Lib.cell?_alloc_some _ h.1, Lib.cell?_alloc_some _ h.2.1, Lib.cell?_alloc_some _ h.2.2.1, Lib.cell?_alloc_some _ h.2.2.2.1, Lib.cell?_alloc_some _ h.2.2.2.2.1, Lib.cell?_alloc_some _ h.2.2.2.2.2.1, Lib.cell?_alloc_some _ h.2.2.2.2.2.2⟩
theorem S8.set {P o : Nat} (v : Value) (h : S8 Z ZW x0 x1 x2 x3 x4 x5 x6 W) (h1 : Z ≠ P) (h2 : ZW ≠ P) : S8 Z ZW x0 x1 x2 x3 x4 x5 x6 (W.setCell ⟨P, o, none⟩ v) := by
  unfold S8
  simp only [cell_set_ne _ h1, cell_set_ne _ h2]
  exact h
end

/-- The two boxes behind 'got, want :='. -/
def Got (w wr : World) (Z : Nat) (cx : List Int) (cl : List Nm) (s11 s12 : Value) (W : World) : Prop :=
  ∃ P Q A6 c6 A7 c7 A8 c8 A9 c9, s11 = .pointer (some ⟨P, 0, none⟩) ∧ s12 = .pointer (some ⟨Q, 0, none⟩) ∧ Box2 W P 47 (.slice A6 cx.length c6) (.slice A7 cl.length c7) ∧ Box2 W Q 47 (.slice A8 cx.length c8) (.slice A9 cl.length c9) ∧
    W.ownsRow Z 3 1 (.slice A6 cx.length c6) cx.length (cx.map encI) ∧ W.ownsRow Z 53 1 (.slice A7 cl.length c7) cl.length (cl.map encN) ∧
    W.ownsRow Z 3 1 (.slice A8 cx.length c8) cx.length (cx.map encI) ∧ W.ownsRow Z 53 1 (.slice A9 cl.length c9) cl.length (cl.map encN) ∧ Below wr.heap.size wr W ∧ Below Z w W
/-- What Take and canonical hand back. -/
def CanRes (W : World) (Z : Nat) (cx : List Int) (cl : List Nm) (e : Ending) (w' : World) : Prop :=
  ∃ A6 c6 A7 c7, e = .returned (.agg #[.slice A6 cx.length c6, .slice A7 cl.length c7]) ∧ w'.ownsRow Z 3 1 (.slice A6 cx.length c6) cx.length (cx.map encI) ∧ w'.ownsRow Z 53 1 (.slice A7 cl.length c7) cl.length (cl.map encN) ∧ Below W.heap.size W w'
theorem canRes_of {W : World} {Z : Nat} {cx : List Int} {cl : List Nm} (hZ : Z ≤ W.heap.size) {e : Ending} {w' : World}
    (h : ∃ v1 v2, e = .returned (.agg #[v1, v2]) ∧ w'.ownsRow W.heap.size 3 1 v1 cx.length (cx.map encI) ∧ w'.ownsRow W.heap.size 53 1 v2 cl.length (cl.map encN) ∧ Below W.heap.size W w') : CanRes W Z cx cl e w' := by
  obtain ⟨v1, v2, rfl, h1, h2, hb⟩ := h
  obtain ⟨A1, c1, rfl, _⟩ := own_form h1
  obtain ⟨A2, c2, rfl, _⟩ := own_form h2
  exact ⟨A1, c1, A2, c2, rfl, own_base h1 hZ, own_base h2 hZ, hb⟩
theorem below_set {B P o : Nat} {w W : World} (v : Value) (hP : B ≤ P) (h : Below B w W) : Below B w (W.setCell ⟨P, o, none⟩ v) := h.setCell (p := ⟨P, o, none⟩) hP v
theorem box2_new' {W : World} {P : Nat} {t : TypeId} {u v : Value} (h : P = W.heap.size) : Box2 (W.alloc (.cells #[u, v] t)) P t u v := by subst h; exact Box2.new W t u v
theorem al_self (W : World) (o : Obj) : Below W.heap.size W (W.alloc o) := (Below.refl _ W).alloc (Nat.le_refl _) o
theorem al_self2 (W : World) (o o' : Obj) : Below W.heap.size W ((W.alloc o).alloc o') := (al_self W o).alloc (by simp) o'

section
variable {w wr W7 : World} {Z : Nat} {cx : List Int} {cl : List Nm} {A6 A7 A8 A9 : Option Addr} {c6 c7 c8 c9 : Nat}
/-- What the two calls have left. -/
structure Left4 (w wr W7 : World) (Z : Nat) (cx : List Int) (cl : List Nm) (A6 A7 A8 A9 : Option Addr) (c6 c7 c8 c9 : Nat) : Prop where
  o6 : W7.ownsRow Z 3 1 (.slice A6 cx.length c6) cx.length (cx.map encI)
  o7 : W7.ownsRow Z 53 1 (.slice A7 cl.length c7) cl.length (cl.map encN)
  o8 : W7.ownsRow Z 3 1 (.slice A8 cx.length c8) cx.length (cx.map encI)
  o9 : W7.ownsRow Z 53 1 (.slice A9 cl.length c9) cl.length (cl.map encN)
  r : Below wr.heap.size wr W7
  b : Below Z w W7
  hz : Z ≤ w.heap.size
  hzr : Z ≤ wr.heap.size
theorem Left4.alloc (h : Left4 w wr W7 Z cx cl A6 A7 A8 A9 c6 c7 c8 c9) (o : Obj) : Left4 w wr (W7.alloc o) Z cx cl A6 A7 A8 A9 c6 c7 c8 c9 :=
  ⟨h.o6.alloc o, h.o7.alloc o, h.o8.alloc o, h.o9.alloc o, below_al (Nat.le_refl _) o h.r, below_al h.hz o h.b, h.hz, h.hzr⟩
theorem Left4.set {P o : Nat} {u v : Value} (h : Left4 w wr W7 Z cx cl A6 A7 A8 A9 c6 c7 c8 c9) (hb : Box2 W7 P 47 u v) (hP : wr.heap.size ≤ P) (x : Value) : Left4 w wr (W7.setCell ⟨P, o, none⟩ x) Z cx cl A6 A7 A8 A9 c6 c7 c8 c9 :=
  ⟨own_set h.o6 hb (by decide) x, own_set h.o7 hb (by decide) x, own_set h.o8 hb (by decide) x, own_set h.o9 hb (by decide) x, below_set x hP h.r, below_set x (Nat.le_trans h.hzr hP) h.b, h.hz, h.hzr⟩
theorem Left4.got {P Q : Nat} (h : Left4 w wr W7 Z cx cl A6 A7 A8 A9 c6 c7 c8 c9) (hP : Box2 W7 P 47 (.slice A6 cx.length c6) (.slice A7 cl.length c7)) (hQ : Box2 W7 Q 47 (.slice A8 cx.length c8) (.slice A9 cl.length c9)) :
    Got w wr Z cx cl (.pointer (some ⟨P, 0, none⟩)) (.pointer (some ⟨Q, 0, none⟩)) W7 :=
  ⟨P, Q, A6, c6, A7, c7, A8, c8, A9, c9, rfl, rfl, hP, hQ, h.o6, h.o7, h.o8, h.o9, h.r, h.b⟩
theorem got_I (h : Left4 w wr W7 Z cx cl A6 A7 A8 A9 c6 c7 c8 c9) : Got w wr Z cx cl (.pointer (some ⟨W7.heap.size, 0, none⟩)) (.pointer (some ⟨W7.heap.size + 1, 0, none⟩)) ((W7.alloc (.cells #[.slice A6 cx.length c6, .slice A7 cl.length c7] 47)).alloc (.cells #[.slice A8 cx.length c8, .slice A9 cl.length c9] 47)) :=
  ((h.alloc _).alloc _).got ((Box2.new W7 _ _ _).alloc _) (box2_new' (by simp))
theorem got_J (h : Left4 w wr W7 Z cx cl A6 A7 A8 A9 c6 c7 c8 c9) : Got w wr Z cx cl (.pointer (some ⟨W7.heap.size + 1, 0, none⟩)) (.pointer (some ⟨W7.heap.size, 0, none⟩)) ((W7.alloc (.cells #[.slice A8 cx.length c8, .slice A9 cl.length c9] 47)).alloc (.cells #[.slice A6 cx.length c6, .slice A7 cl.length c7] 47)) :=
  ((h.alloc _).alloc _).got (box2_new' (by simp)) ((Box2.new W7 _ _ _).alloc _)
theorem got_K {P : Nat} {u v : Value} (h : Left4 w wr W7 Z cx cl A6 A7 A8 A9 c6 c7 c8 c9) (hb : Box2 W7 P 47 u v) (hP : wr.heap.size ≤ P) :
    Got w wr Z cx cl (.pointer (some ⟨P, 0, none⟩)) (.pointer (some ⟨W7.heap.size, 0, none⟩)) (((W7.setCell ⟨P, 0, none⟩ (.slice A6 cx.length c6)).setCell ⟨P, 1, none⟩ (.slice A7 cl.length c7)).alloc (.cells #[.slice A8 cx.length c8, .slice A9 cl.length c9] 47)) :=
  (((h.set hb hP _).set (hb.set0 _) hP _).alloc _).got (((hb.set0 _).set1 _).alloc _) (box2_new' (by simp))
theorem got_L {P : Nat} {u v : Value} (h : Left4 w wr W7 Z cx cl A6 A7 A8 A9 c6 c7 c8 c9) (hb : Box2 W7 P 47 u v) (hP : wr.heap.size ≤ P) :
    Got w wr Z cx cl (.pointer (some ⟨W7.heap.size, 0, none⟩)) (.pointer (some ⟨P, 0, none⟩)) (((W7.setCell ⟨P, 0, none⟩ (.slice A8 cx.length c8)).setCell ⟨P, 1, none⟩ (.slice A9 cl.length c9)).alloc (.cells #[.slice A6 cx.length c6, .slice A7 cl.length c7] 47)) :=
  (((h.set hb hP _).set (hb.set0 _) hP _).alloc _).got (box2_new' (by simp)) (((hb.set0 _).set1 _).alloc _)
theorem got_M {P Q : Nat} {u v u' v' : Value} (h : Left4 w wr W7 Z cx cl A6 A7 A8 A9 c6 c7 c8 c9) (hb : Box2 W7 P 47 u v) (hb' : Box2 W7 Q 47 u' v') (hP : wr.heap.size ≤ P) (hQ : wr.heap.size ≤ Q) (hne : P ≠ Q) :
    Got w wr Z cx cl (.pointer (some ⟨P, 0, none⟩)) (.pointer (some ⟨Q, 0, none⟩)) ((((W7.setCell ⟨P, 0, none⟩ (.slice A6 cx.length c6)).setCell ⟨P, 1, none⟩ (.slice A7 cl.length c7)).setCell ⟨Q, 0, none⟩ (.slice A8 cx.length c8)).setCell ⟨Q, 1, none⟩ (.slice A9 cl.length c9)) :=
  ((((h.set hb hP _).set (hb.set0 _) hP _).set ((hb'.other hne.symm _).other hne.symm _) hQ _).set (((hb'.other hne.symm _).other hne.symm _).set0 _) hQ _).got ((((hb.set0 _).set1 _).other hne _).other hne _) ((((hb'.other hne.symm _).other hne.symm _).set0 _).set1 _)
end

/-- Four cells of two boxes. -/
abbrev S4c (P Q : Nat) (x0 x1 x2 x3 : Value) (W : World) : Prop := W.cell? ⟨P, 0, none⟩ = some x0 ∧ W.cell? ⟨P, 1, none⟩ = some x1 ∧ W.cell? ⟨Q, 0, none⟩ = some x2 ∧ W.cell? ⟨Q, 1, none⟩ = some x3
theorem S4c.drew {P Q : Nat} {x0 x1 x2 x3 : Value} {W : World} (h : S4c P Q x0 x1 x2 x3 W) : S4c P Q x0 x1 x2 x3 W.drew := h
theorem S4c.of {P Q t t' : Nat} {x0 x1 x2 x3 : Value} {W W' : World} (hp : Box2 W P t x0 x1) (hq : Box2 W Q t' x2 x3) (hb : Below W.heap.size W W') : S4c P Q x0 x1 x2 x3 W' := ⟨(hp.later hb).c0, (hp.later hb).c1, (hq.later hb).c0, (hq.later hb).c1⟩
theorem below_later {w W W' : World} (h : Below w.heap.size w W) (k : Below W.heap.size W W') : Below w.heap.size w W' := h.trans (k.mono h.size)
theorem below_draws {w W : World} (h : Below w.heap.size w W) {q : Nat} : Below w.heap.size w (W.drewN q) := below_drewN h q

/-- Five cells. -/
abbrev S5c (P Q ZA bx ox : Nat) (x0 x1 x2 x3 x4 : Value) (W : World) : Prop := W.cell? ⟨P, 0, none⟩ = some x0 ∧ W.cell? ⟨P, 1, none⟩ = some x1 ∧ W.cell? ⟨Q, 0, none⟩ = some x2 ∧ W.cell? ⟨ZA, 0, none⟩ = some x3 ∧ W.cell? ⟨bx, ox, none⟩ = some x4
section
variable {P Q ZA bx ox : Nat} {x0 x1 x2 x3 x4 : Value} {W W' : World}
theorem S5c.drew (h : S5c P Q ZA bx ox x0 x1 x2 x3 x4 W) : S5c P Q ZA bx ox x0 x1 x2 x3 x4 W.drew := h
theorem S5c.below {B : Nat} (hb : Below B W W') (h : S5c P Q ZA bx ox x0 x1 x2 x3 x4 W) (h1 : P < B) (h2 : Q < B) (h3 : ZA < B) (h4 : bx < B) : S5c P Q ZA bx ox x0 x1 x2 x3 x4 W' :=
  ⟨(hb.cell h1).trans h.1, (hb.cell h1).trans h.2.1, (hb.cell h2).trans h.2.2.1, (hb.cell h3).trans h.2.2.2.1, (hb.cell h4).trans h.2.2.2.2⟩
end

def TksR1 (S : Scr) (W5 : World) (n : Nat) (xs : List Int) (v i : Value) (wr : World) : Prop :=
  ∃ k ts, k ≤ n ∧ i = .int .i64 (k : Int) ∧ ts = (xs.take k).filter (inS S) ∧ wr.ownsRow W5.heap.size 3 1 v ts.length (ts.map encI) ∧ Below W5.heap.size W5 wr

end Go.Proofs.YtnibcffcbnjllaaGreatDoor
