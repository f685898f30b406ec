/- A struct of two slices in a block of its own; a set by map[K]bool. -/
import Derived.Test.YtnibcffcbnjllaaGreatDoorSort1
import Derived.Test.YtnibcffcbnjllaaGreatDoorBoxes
import Derived.Maps.OwnSet
import Derived.Maps.OwnOps
import Derived.Maps.Views
namespace Go.Proofs.YtnibcffcbnjllaaGreatDoor
open Go.RowKit Go.Sort Go.Maps

/-- Block B holds a struct of two cells. -/
def Box2 (W : World) (B : Nat) (t : TypeId) (u v : Value) : Prop := W.heap[B]? = some (.cells #[u, v] t (0, 0))
section
variable {W W' : World} {B : Nat} {t : TypeId} {u v : Value}
theorem Box2.lt (h : Box2 W B t u v) : B < W.heap.size := (Array.getElem?_eq_some_iff.1 h).1
theorem Box2.c0 (h : Box2 W B t u v) : W.cell? ⟨B, 0, none⟩ = some u := by simp [World.cell?, show W.heap[B]? = _ from h]
theorem Box2.c1 (h : Box2 W B t u v) : W.cell? ⟨B, 1, none⟩ = some v := by simp [World.cell?, show W.heap[B]? = _ from h]
theorem Box2.f0 (h : Box2 W B t u v) : W.frozen? ⟨B, 0, none⟩ = false := by simp [World.frozen?, show W.heap[B]? = _ from h]
theorem Box2.f1 (h : Box2 W B t u v) : W.frozen? ⟨B, 1, none⟩ = false := by simp [World.frozen?, show W.heap[B]? = _ from h]
theorem Box2.new (W : World) (t : TypeId) (u v : Value) : Box2 (W.alloc (.cells #[u, v] t)) W.heap.size t u v := World.alloc_heap_new W _
theorem Box2.kept {row : Option Nat} (h : Box2 W B t u v) (hg : W.grownBy W' row) (hne : some B ≠ row) : Box2 W' B t u v := (hg.block B h.lt hne).trans h
theorem Box2.alloc (h : Box2 W B t u v) (o : Obj) : Box2 (W.alloc o) B t u v := h.kept (World.grownBy_alloc W o none) (by simp)
theorem Box2.set0 (x : Value) (h : Box2 W B t u v) : Box2 (W.setCell ⟨B, 0, none⟩ x) B t x v := by
  obtain ⟨hlt, hk⟩ := Array.getElem?_eq_some_iff.1 h
  show (W.heap.modify B _)[B]? = _
  rw [Array.getElem?_eq_getElem (by rw [Array.size_modify]; exact hlt), Array.getElem_modify_self, hk]
  rfl
theorem Box2.set1 (x : Value) (h : Box2 W B t u v) : Box2 (W.setCell ⟨B, 1, none⟩ x) B t u x := by
  obtain ⟨hlt, hk⟩ := Array.getElem?_eq_some_iff.1 h
  show (W.heap.modify B _)[B]? = _
  rw [Array.getElem?_eq_getElem (by rw [Array.size_modify]; exact hlt), Array.getElem_modify_self, hk]
  rfl
theorem Box2.other {B' o : Nat} (h : Box2 W B t u v) (hne : B ≠ B') (x : Value) : Box2 (W.setCell ⟨B', o, none⟩ x) B t u v := h.kept (grownBy_setAt W B' o x) (fun e => hne (by cases e; rfl))
theorem Box2.not_row (h : Box2 W B t u v) {e : TypeId} (hte : t ≠ e) {base size k : Nat} {x : Value} {xs : List Value} (hr : W.ownsRow base e size x k xs) : some B ≠ x.ownBlock := by
  rcases hr.2 with ⟨rfl, _⟩ | ⟨g, cap, cur, rfl, _, hgb, _⟩
  · simp [Value.ownBlock]
  · intro e'
    obtain rfl : B = g := by simpa [Value.ownBlock] using e'
    have := (show W.heap[B]? = _ from h).symm.trans hgb
    simp at this
    exact hte this.2
theorem Box2.later (h : Box2 W B t u v) (hb : Below W.heap.size W W') : Box2 W' B t u v := (hb.block B h.lt).trans h
/-- A row of the call's own stays behind a store into a struct's block. -/
theorem own_set {base e size n B o : Nat} {r : Value} {xs : List Value} {t' : TypeId} {a b : Value} (h : W.ownsRow base e size r n xs) (hb : Box2 W B t' a b) (hne : t' ≠ e) (x : Value) : (W.setCell ⟨B, o, none⟩ x).ownsRow base e size r n xs :=
  h.kept (grownBy_setAt W B o x) (.inr (hb.not_row hne h).symm)
theorem own_later {base e size n : Nat} {r : Value} {xs : List Value} (h : W.ownsRow base e size r n xs) (hb : Below W.heap.size W W') : W'.ownsRow base e size r n xs :=
  h.kept (below_grown0 hb) (by
    rcases h.2 with ⟨rfl, _⟩ | ⟨g, cap, cur, rfl, _⟩
    · exact .inl rfl
    · exact .inr (by simp [Value.ownBlock]))
end


section
variable {α : Type} [DecidableEq α] {f : α → Lit} {w w' : World} {k b n : Nat} {S : List α}
/-- Block b is a map[K]bool in which just the keys of S lead to true. -/
def IsSet (f : α → Lit) (w : World) (k : TypeId) (b n : Nat) (S : List α) : Prop :=
  ∃ D : DataW Unit, IsMap D ∧ w.ownsMap Tryz.prog k (plainElem Tryz.prog 4) b n D ∧ ∀ x, D.atKey (f x) (.lit (.bool false)) = .lit (.bool (decide (x ∈ S)))
theorem IsSet.made (f : α → Lit) (w : World) (k : TypeId) : IsSet f (w.alloc (.map #[] 0)) k w.heap.size 0 [] :=
  ⟨.map [], isMap_empty, World.ownsMap_made w _ _ _, fun kl => by simp [DataW.atKey]⟩
theorem IsSet.lt (h : IsSet f w k b n S) : b < w.heap.size := by
  obtain ⟨D, _, h, _⟩ := h
  exact h.lt
theorem IsSet.kept {row : Option Nat} (h : IsSet f w k b n S) (hg : w.grownBy w' row) (hne : some b ≠ row) : IsSet f w' k b n S := by
  obtain ⟨D, h1, h2, h3⟩ := h
  exact ⟨D, h1, h2.kept hg hne, h3⟩
theorem IsSet.alloc (h : IsSet f w k b n S) (o : Obj) : IsSet f (w.alloc o) k b n S := h.kept (World.grownBy_alloc w o none) (by simp)
theorem IsSet.later (h : IsSet f w k b n S) (hb : Below w.heap.size w w') : IsSet f w' k b n S := h.kept (below_grown0 hb) (by simp)
/-- No row's block. -/
theorem IsSet.not_row (h : IsSet f w k b n S) {base e size m : Nat} {x : Value} {xs : List Value} (hr : w.ownsRow base e size x m xs) : some b ≠ x.ownBlock := by
  obtain ⟨D, _, ⟨es, clock, hb, _⟩, _⟩ := h
  rcases hr.2 with ⟨rfl, _⟩ | ⟨g, cap, cur, rfl, _, hgb, _⟩
  · simp [Value.ownBlock]
  · intro e'
    obtain rfl : b = g := by simpa [Value.ownBlock] using e'
    rw [hb] at hgb
    cases hgb
theorem IsSet.not_box (h : IsSet f w k b n S) {B t : Nat} {u v : Value} (hr : Box2 w B t u v) : b ≠ B := by
  obtain ⟨D, _, ⟨es, clock, hb, _⟩, _⟩ := h
  rintro rfl
  rw [show w.heap[b]? = _ from hr] at hb
  cases hb

theorem plainElem_bool_inv {e : TypeId} (he : Tryz.prog.underlying e = some .bool) {v : Value} {z : DataW Unit × List MemPlace} (h : plainElem Tryz.prog e v = some z) : ∃ x, v = .bool x ∧ z = (.lit (.bool x), []) := by
  unfold plainElem at h
  rw [he] at h
  split at h
  · simp only [Option.some.injEq] at h; exact ⟨_, rfl, h.symm⟩
  · next hq => injection hq with hq; cases hq
  · next hq => injection hq with hq; cases hq
  · cases h

/-- 'm[k] = true'. -/
theorem IsSet.add {t : Nat} (h : IsSet f w k b n S) (K : Keyed Tryz.prog k) (hf : ∀ x y, f x = f y → x = y) (ht : Tryz.prog.underlying t = some (.map k 4)) (hn : n < maxLen) {key : Value} {x : α} (hkey : keyOf Tryz.prog k key = some (f x)) (hkl : WideAt.IsKeyLit (f x)) :
    ∃ w', (Instr.mapUpdate t (.map (some b)) key (.bool true)).run Tryz.prog w = .ok () w' ∧ IsSet f w' k b (n + 1) (x :: S) ∧ w.grownBy w' (some b) := by
  obtain ⟨D, h1, h2, h3⟩ := h
  obtain ⟨w', e1, e2, e3⟩ := h2.update K ht hn hkey (plainElem_bool (H := Unit) Tryz.underlying4 true)
  refine ⟨w', e1, ⟨_, h1.put _ _, e2, fun y => ?_⟩, e3⟩
  by_cases he : y = x
  · subst he
    rw [atKey_put_same h1 hkl]
    simp
  · rw [atKey_put_other (fun e => he (hf _ _ e)), h3]
    simp [he]
/-- 'm[k]'. -/
theorem IsSet.look {t : Nat} (h : IsSet f w k b n S) (K : Keyed Tryz.prog k) (ht : Tryz.prog.underlying t = some (.map k 4)) {key : Value} {x : α} (hkey : keyOf Tryz.prog k key = some (f x)) :
    (Instr.lookup t (.map (some b)) key false).run Tryz.prog w = .ok (.bool (decide (x ∈ S))) w := by
  obtain ⟨D, h1, h2, h3⟩ := h
  obtain ⟨v, ps, e1, e2⟩ := h2.lookup K ht (Tryz.zeroValue4 w) (plainElem_bool (H := Unit) Tryz.underlying4 false) hkey
  obtain ⟨y, rfl, hz⟩ := plainElem_bool_inv Tryz.underlying4 e2
  rw [e1]
  rw [h3] at hz
  simp only [Prod.mk.injEq, DataW.lit.injEq, Lit.bool.injEq] at hz
  rw [← hz.1]
end

end Go.Proofs.YtnibcffcbnjllaaGreatDoor
