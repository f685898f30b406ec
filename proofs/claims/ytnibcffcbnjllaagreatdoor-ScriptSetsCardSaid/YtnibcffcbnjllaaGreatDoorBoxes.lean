/- A block of known cells. -/
import Derived.Test.YtnibcffcbnjllaaGreatDoorScr2
import Derived.Maps.OwnSet
import Derived.RangeFuncSeq
import Derived.RangeFuncRecord
namespace Go.Proofs.YtnibcffcbnjllaaGreatDoor
open Go.RowKit

theorem grownBy_setAt (W : World) (b o : Nat) (v : Value) : W.grownBy (W.setCell ⟨b, o, none⟩ v) (some b) :=
  ⟨rfl, rfl, rfl, (KeepsWalks.setCell W _ v).size, fun k _ hk => Below.heap_setCell _ _ _ k (fun e => hk (by rw [e]))⟩
/-- Block B holds these cells. -/
def BoxN (W : World) (B : Nat) (t : TypeId) (cs : Array Value) : Prop := W.heap[B]? = some (.cells cs t (0, 0))
section
variable {W W' : World} {B : Nat} {t : TypeId} {cs : Array Value}
theorem BoxN.lt (h : BoxN W B t cs) : B < W.heap.size := (Array.getElem?_eq_some_iff.1 h).1
theorem BoxN.c (h : BoxN W B t cs) (j : Nat) : W.cell? ⟨B, j, none⟩ = cs[j]? := by simp [World.cell?, show W.heap[B]? = _ from h]
theorem BoxN.f (h : BoxN W B t cs) (j : Nat) : W.frozen? ⟨B, j, none⟩ = false := by simp [World.frozen?, show W.heap[B]? = _ from h]
theorem BoxN.new (W : World) (t : TypeId) (cs : Array Value) : BoxN (W.alloc (.cells cs t)) W.heap.size t cs := World.alloc_heap_new W _
theorem BoxN.kept {row : Option Nat} (h : BoxN W B t cs) (hg : W.grownBy W' row) (hne : some B ≠ row) : BoxN W' B t cs := (hg.block B h.lt hne).trans h
theorem BoxN.alloc (h : BoxN W B t cs) (o : Obj) : BoxN (W.alloc o) B t cs := h.kept (World.grownBy_alloc W o none) (by simp)
theorem BoxN.later (h : BoxN W B t cs) (hb : Below W.heap.size W W') : BoxN W' B t cs := (hb.block B h.lt).trans h
theorem BoxN.other {B' o : Nat} (h : BoxN W B t cs) (hne : B ≠ B') (x : Value) : BoxN (W.setCell ⟨B', o, none⟩ x) B t cs := h.kept (grownBy_setAt W B' o x) (fun e => hne (by cases e; rfl))
theorem BoxN.not_row (h : BoxN W B t cs) {e : TypeId} (hte : t ≠ e) {base size k : Nat} {x : Value} {xs : List Value} (hr : W.ownsRow base e size x k xs) : some B ≠ x.ownBlock := by
  rcases hr.2 with ⟨rfl, _⟩ | ⟨g, cap, cur, rfl, _, hgb, _⟩
  · simp [Value.ownBlock]
  · intro e'
    obtain rfl : B = g := by simpa [Value.ownBlock] using e'
    have := (show W.heap[B]? = _ from h).symm.trans hgb
    simp at this
    exact hte this.2
end

/-- A script's value. -/
def scrVal (S : Scr) (A A' : Option Addr) (n m c d : Nat) : Value := .agg #[.int .i64 S.lo, .int .i64 S.hi, .int .i64 S.before, .slice A n c, .slice A' m d]

end Go.Proofs.YtnibcffcbnjllaaGreatDoor
