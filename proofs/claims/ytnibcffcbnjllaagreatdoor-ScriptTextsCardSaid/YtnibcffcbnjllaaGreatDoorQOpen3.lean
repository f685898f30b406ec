/- What the listed variables and the world's shape give: Ok. -/
import Derived.Shelf.Vars
import Derived.Stop.LaidErr
import Derived.Deep.DeepHandedRow
import Derived.Test.YtnibcffcbnjllaaGreatDoorQOpen2
namespace Go.Proofs.YtnibcffcbnjllaaGreatDoor
open Go.RowKit Go.ChangeShapes Go.WideShapes Go.Deep Go.Joins

/-- The three listed tables. -/
def laid3 : List (String × DataW Unit) := [("math/bits.deBruijn32tab", Rows.laid_math_bits_deBruijn32tab), ("math/bits.deBruijn64tab", Rows.laid_math_bits_deBruijn64tab), ("internal/strconv.uint64pow10", Rows.laid_internal_strconv_uint64pow10)]

theorem low_of_shaped {W : World} (h : W.ShapedOpen Tryz.prog) : 8 ≤ W.heap.size := by
  obtain ⟨o, _, ho, _⟩ := h.2 8 (of_decide_eq_true (by kernel_rfl)) (of_decide_eq_true (by kernel_rfl))
  have := (Array.getElem?_eq_some_iff.1 ho).1
  omega
theorem ok_of {W : World} (h : W.ShapedOpen Tryz.prog) (hL : laidMetH Tryz.prog laid3 W) : Ok W := by
  refine ⟨Go.Proofs.cell_of_shapedOpen_int (zero := #[.int .i64 0]) (t := 3) h (of_decide_eq_true (by kernel_rfl)) (by kernel_rfl) rfl (by kernel_rfl) (by kernel_rfl) Tryz.underlying3, ?_, low_of_shaped h⟩
  rw [MakeChecks.laidMetH_plain _ _ _ (by kernel_rfl)] at hL
  have h2 := hL.tail.tail
  exact Lib.tabIs_of_head (k := .u64) (zs := Lib.pow10Tab) (g := 3) (by kernel_rfl) (by kernel_rfl) Tryz.underlying195 Tryz.underlying163 (by kernel_rfl) (by kernel_rfl) h2

end Go.Proofs.YtnibcffcbnjllaaGreatDoor
