/- Rows of the call's own behind a sort and a compaction in place. -/
import Derived.Test.YtnibcffcbnjllaaGreatDoorBase
import Derived.Sort.OwnSorted
import Derived.Sort.Grow
namespace Go.Proofs.YtnibcffcbnjllaaGreatDoor
open Go.RowKit Go.Sort

section
variable {α : Type} [Inhabited α]
theorem heap_putRow {w : World} {g n : Nat} {cur : Array Value} {e : TypeId} {fr : Nat × Nat} (enc : α → Value) (d : Array α) (hb : w.heap[g]? = some (.cells cur e fr)) :
    (putRow enc (Sort.ahead w n) g 0 d).heap[g]? = some (.cells (putCells enc 0 d cur) e fr) := by
  simp [putRow, mapBlock, Sort.ahead, Array.getElem?_modify, hb, onCells]
theorem take_putCellsG (enc : α → Value) (cur : Array Value) (ts : List α) (h : ts.length ≤ cur.size) : (putCells enc 0 ts.toArray cur).toList.take ts.length = ts.map enc := by
  apply List.ext_getElem?
  intro j
  by_cases hj : j < ts.length
  · rw [List.getElem?_take_of_lt hj, Array.getElem?_toList]
    simp [putCells, hj, show j < cur.size by omega]
  · rw [List.getElem?_take_eq_none (by omega), List.getElem?_eq_none (by simp; omega)]
theorem grownBy_putRow (w : World) (g n : Nat) (enc : α → Value) (d : Array α) : w.grownBy (putRow enc (Sort.ahead w n) g 0 d) (some g) := by
  refine ⟨rfl, rfl, rfl, by simp [putRow, mapBlock, Sort.ahead], fun k hk hne => ?_⟩
  have : g ≠ k := fun e => hne (by rw [e])
  simp [putRow, mapBlock, Sort.ahead, Array.getElem?_modify, this]
theorem grownBy_growN (w : World) (os : Array Obj) (row : Option Nat) : w.grownBy (grow w os) row :=
  ⟨rfl, rfl, rfl, by simp [grow], fun k hk _ => heap_grow_old _ _ hk⟩

/-- A row of the call's own, rewritten in place: the first m of the elements that lie there now. -/
theorem own_putRow {w : World} {base g cap m n k : Nat} {e : TypeId} {xs : List Value} (enc : α → Value) (ts : List α) (h : w.ownsRow base e 1 (.slice (some ⟨g, 0, none⟩) n cap) n xs) (hl : ts.length = n) (hm : m ≤ n) :
    (putRow enc (Sort.ahead w k) g 0 ts.toArray).ownsRow base e 1 (.slice (some ⟨g, 0, none⟩) m cap) m ((ts.take m).map enc) := by
  obtain ⟨h1, h2⟩ := h
  rcases h2 with ⟨hv, _⟩ | ⟨g', cap', cur, hv, hb, hh, hn, hc, hs, ht⟩
  · cases hv
  · injection hv with hv _ hv2
    injection hv with hv
    injection hv with hv
    subst hv hv2
    refine ⟨by simp; omega, .inr ⟨g, cap, _, rfl, hb, heap_putRow enc _ hh, by omega, hc, by simp [putCells, hs], ?_⟩⟩
    have h3 := take_putCellsG enc cur ts (by omega)
    rw [Nat.mul_one, List.map_take, ← h3, List.take_take]
    congr 1
    omega
/-- What a row of the call's own holds, in the sort's words. -/
theorem holds_of_own {w : World} {base g cap : Nat} {e : TypeId} (enc : α → Value) (ts : List α) (h : w.ownsRow base e 1 (.slice (some ⟨g, 0, none⟩) ts.length cap) ts.length (ts.map enc)) : Holds enc w g 0 ts.toArray := by
  intro j hj
  have hj' : j < ts.length := by simpa using hj
  refine ⟨?_, ?_⟩
  · have := h.cellAt j (by omega)
    rw [Nat.zero_add, this]
    simp [hj']
  · rw [Nat.zero_add]; exact h.frozenAt j
end

end Go.Proofs.YtnibcffcbnjllaaGreatDoor
