/- A script among the arguments, opened; what the listed variables give. -/
import Derived.LaidMore
import Derived.Lib.LaidTab
import Derived.Stop.Joined
import Derived.Test.YtnibcffcbnjllaaGreatDoorQOpen1
import Derived.Test.YtnibcffcbnjllaaGreatDoorQLin5
import Derived.Test.YtnibcffcbnjllaaGreatDoorRows
namespace Go.Proofs.YtnibcffcbnjllaaGreatDoor
open Go.RowKit Go.ChangeShapes Go.WideShapes Go.Deep Go.Joins

section
variable {H : Type} {enc : TypeId × Value → H} {w : World}
set_option maxRecDepth 100000 in
theorem op_script {r : Reach} {b0 : Nat} {v : Value} {d : DataW H} {p : List MemPlace} (hv : Value.okWide Tryz.prog w r b0 25 v) (hw : Fits 25 d) (h : DataW.Trod enc Tryz.prog w 0 (fun _ => true) true 25 v d p) :
    ∃ S A A' n m c d', v = scrVal S A A' n m c d' ∧ ScrAt w w.heap.size A A' n m S ∧ I64 S.lo ∧ I64 S.hi ∧ I64 S.before := by
  obtain ⟨cs, rfl, hsz⟩ := okWide_struct Tryz.underlying25 hv
  obtain ⟨l⟩ := cs
  have hC : Tryz.prog.cellsOf 25 = 5 := by kernel_rfl
  match l, hsz.trans hC with
  | [c0, c1, c2, c3, c4], _ =>
    obtain ⟨fuel, hf⟩ := h
    obtain ⟨xs, n, _, hx, _, hxl, hg⟩ := DataW.trod_struct Tryz.underlying25 hf
    simp only [Prod.mk.injEq] at hx
    obtain ⟨rfl, _⟩ := hx
    have q : ∀ j, j < 5 → ∃ y, xs[j]? = some y := fun j hj => ⟨_, List.getElem?_eq_getElem (by rw [hxl]; exact hj)⟩
    obtain ⟨y0, e0⟩ := q 0 (by omega)
    obtain ⟨y1, e1⟩ := q 1 (by omega)
    obtain ⟨y2, e2⟩ := q 2 (by omega)
    obtain ⟨y3, e3⟩ := q 3 (by omega)
    obtain ⟨y4, e4⟩ := q 4 (by omega)
    have k3 : Tryz.prog.cellsOf 3 = 1 := by kernel_rfl
    have k22 : Tryz.prog.cellsOf 22 = 1 := by kernel_rfl
    have k23 : Tryz.prog.cellsOf 23 = 1 := by kernel_rfl
    have f0 : DataW.trod enc Tryz.prog w 0 (fun _ => true) true n 3 (([c0, c1, c2, c3, c4].drop 0).take (Tryz.prog.cellsOf 3)) = some y0 := (hg 0 _ rfl).trans e0
    have f1 : DataW.trod enc Tryz.prog w 0 (fun _ => true) true n 3 (([c0, c1, c2, c3, c4].drop 1).take (Tryz.prog.cellsOf 3)) = some y1 := (hg 1 _ rfl).trans e1
    have f2 : DataW.trod enc Tryz.prog w 0 (fun _ => true) true n 3 (([c0, c1, c2, c3, c4].drop 2).take (Tryz.prog.cellsOf 3)) = some y2 := (hg 2 _ rfl).trans e2
    have f3 : DataW.trod enc Tryz.prog w 0 (fun _ => true) true n 22 (([c0, c1, c2, c3, c4].drop 3).take (Tryz.prog.cellsOf 22)) = some y3 := (hg 3 _ rfl).trans e3
    have f4 : DataW.trod enc Tryz.prog w 0 (fun _ => true) true n 23 (([c0, c1, c2, c3, c4].drop 4).take (Tryz.prog.cellsOf 23)) = some y4 := (hg 4 _ rfl).trans e4
    rw [k3] at f0 f1 f2
    rw [k22] at f3
    rw [k23] at f4
    have w3 : Fits 22 y3.1 := hw.field (j := 3) Tryz.underlying25 rfl (by rw [List.getElem?_map, e3]; rfl)
    have w4 : Fits 23 y4.1 := hw.field (j := 4) Tryz.underlying25 rfl (by rw [List.getElem?_map, e4]; rfl)
    obtain ⟨a0, g0, b0⟩ := op_int Tryz.underlying3 f0
    obtain ⟨a1, g1, b1⟩ := op_int Tryz.underlying3 f1
    obtain ⟨a2, g2, b2⟩ := op_int Tryz.underlying3 f2
    obtain ⟨A, n3, c3', l3, g3, r3, hl3, hn3⟩ := op_tmds w3 f3
    obtain ⟨A', n4, c4', l4, g4, r4, hn4⟩ := op_scheds w4 f4
    simp at g0 g1 g2 g3 g4
    subst g0 g1 g2 g3 g4
    exact ⟨⟨a0, a1, a2, l3, l4⟩, A, A', n3, n4, c3', c4', rfl, ⟨r3, hl3, r4, hn3, hn4⟩, b0, b1, b2⟩

set_option maxRecDepth 100000 in
theorem op_without {r : Reach} {b0 : Nat} {v : Value} {d : DataW H} {p : List MemPlace} (hv : Value.okWide Tryz.prog w r b0 47 v) (hw : Fits 47 d) (h : DataW.Trod enc Tryz.prog w 0 (fun _ => true) true 47 v d p) :
    ∃ A A' n m c d', ∃ (xs : List Int) (ns : List Nm), v = .agg #[.slice A n c, .slice A' m d'] ∧ Row w w.heap.size 1 A n (xs.map encI) ∧ Row w w.heap.size 1 A' m (ns.map encN) ∧ n ≤ 4611686018427387904 ∧ m ≤ 4611686018427387904 ∧ ∀ y ∈ xs, I64 y := by
  obtain ⟨cs, rfl, hsz⟩ := okWide_struct Tryz.underlying47 hv
  obtain ⟨l⟩ := cs
  have hC : Tryz.prog.cellsOf 47 = 2 := by kernel_rfl
  match l, hsz.trans hC with
  | [c0, c1], _ =>
    obtain ⟨fuel, hf⟩ := h
    obtain ⟨xs, n, _, hx, _, hxl, hg⟩ := DataW.trod_struct Tryz.underlying47 hf
    simp only [Prod.mk.injEq] at hx
    obtain ⟨rfl, _⟩ := hx
    have q : ∀ j, j < 2 → ∃ y, xs[j]? = some y := fun j hj => ⟨_, List.getElem?_eq_getElem (by rw [hxl]; exact hj)⟩
    obtain ⟨y0, e0⟩ := q 0 (by omega)
    obtain ⟨y1, e1⟩ := q 1 (by omega)
    have k36 : Tryz.prog.cellsOf 36 = 1 := by kernel_rfl
    have k38 : Tryz.prog.cellsOf 38 = 1 := by kernel_rfl
    have f0 : DataW.trod enc Tryz.prog w 0 (fun _ => true) true n 36 (([c0, c1].drop 0).take (Tryz.prog.cellsOf 36)) = some y0 := (hg 0 _ rfl).trans e0
    have f1 : DataW.trod enc Tryz.prog w 0 (fun _ => true) true n 38 (([c0, c1].drop 1).take (Tryz.prog.cellsOf 38)) = some y1 := (hg 1 _ rfl).trans e1
    rw [k36] at f0
    rw [k38] at f1
    have w0 : Fits 36 y0.1 := hw.field (j := 0) Tryz.underlying47 rfl (by rw [List.getElem?_map, e0]; rfl)
    have w1 : Fits 38 y1.1 := hw.field (j := 1) Tryz.underlying47 rfl (by rw [List.getElem?_map, e1]; rfl)
    obtain ⟨A, n0, c0', xs0, g0, r0, hn0, hb0⟩ := op_ints w0 f0
    obtain ⟨A', n1, c1', ns, g1, r1, hn1⟩ := op_names w1 f1
    simp at g0 g1
    subst g0 g1
    exact ⟨A, A', n0, n1, c0', c1', xs0, ns, rfl, r0, r1, hn0, hn1, hb0⟩
end

end Go.Proofs.YtnibcffcbnjllaaGreatDoor
