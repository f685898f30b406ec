/- (Without).canonical. -/
import Derived.Test.YtnibcffcbnjllaaGreatDoorCan1
namespace Go.Proofs.YtnibcffcbnjllaaGreatDoor
open Go.RowKit Go.Sort Go.Maps

/-- Numbers in order, each once. -/
def sortI (l : List Int) : List Int := Lib.compact (l.mergeSort fun x y => decide (x ≤ y))
theorem sortI_len (l : List Int) : (sortI l).length ≤ l.length := by
  have := compact_len (l.mergeSort fun x y => decide (x ≤ y))
  rw [List.length_mergeSort] at this
  exact this

theorem own_cap {w : World} {base : Nat} {e : TypeId} {size n g cap : Nat} {xs : List Value} (ho : w.ownsRow base e size (.slice (some ⟨g, 0, none⟩) n cap) n xs) : n ≤ cap := by
  rcases ho.2 with ⟨h, _⟩ | ⟨g', cap', cur, h, _, _, h2, _⟩
  · cases h
  · injection h with _ _ h; omega
theorem holds_int (ts : List Int) {w : World} {base g cap : Nat} (h : w.ownsRow base 3 1 (.slice (some ⟨g, 0, none⟩) ts.length cap) ts.length (ts.map encI)) : Holds (Value.int .i64) w g 0 ts.toArray := holds_of_own encI ts h

theorem SortI_own (v : Value) (base : Nat) (ts : List Int) (w : World) (hn : ts.length ≤ 100000) (ho : w.ownsRow base 3 1 v ts.length (ts.map encI)) :
    Calls Tryz.prog 71 #[v] w fun e w' => e = .returned (.tuple #[]) ∧ w'.ownsRow base 3 1 v ts.length ((ts.mergeSort fun x y => decide (x ≤ y)).map encI) ∧ w.grownBy w' v.ownBlock := by
  rcases ho.2 with ⟨rfl, h0⟩ | ⟨g, cap, cur, rfl, _⟩
  · obtain rfl : ts = [] := List.length_eq_zero_iff.1 h0
    refine (Tryz.slices_Sort_int_none none 0 w).mono ?_
    rintro e w' ⟨rfl, rfl⟩
    exact ⟨rfl, by rw [List.mergeSort_nil]; exact World.ownsRow_nil _ _ _ _, World.grownBy.refl _ _⟩
  · have hb := (ho.lt g (by simp [Value.ownBlock]))
    refine (Tryz.slices_Sort_int g 0 cap ts w (holds_int ts ho) hb.2 (by omega)).mono ?_
    rintro e w' ⟨rfl, n, os, rfl⟩
    have hlen : (ts.mergeSort fun x y => decide (x ≤ y)).length = ts.length := List.length_mergeSort _
    refine ⟨rfl, ?_, ?_⟩
    · have := own_putRow (m := ts.length) (k := n) encI (ts.mergeSort fun x y => decide (x ≤ y)) ho hlen (Nat.le_refl _)
      rw [← hlen, List.take_length, hlen] at this
      exact this.kept (grownBy_growN _ _ none) (.inr (by simp [Value.ownBlock]))
    · exact (grownBy_putRow w g n encI _).trans (grownBy_growN _ _ _)

theorem CompactI_own (v : Value) (base : Nat) (ts : List Int) (w : World) (hn : ts.length ≤ 100000) (ho : w.ownsRow base 3 1 v ts.length (ts.map encI)) :
    Calls Tryz.prog 72 #[v] w fun e w' => ∃ v', e = .returned v' ∧ w'.ownsRow base 3 1 v' (Lib.compact ts).length ((Lib.compact ts).map encI) ∧ w.grownBy w' v.ownBlock := by
  rcases ho.2 with ⟨rfl, h0⟩ | ⟨g, cap, cur, rfl, _⟩
  · obtain rfl : ts = [] := List.length_eq_zero_iff.1 h0
    refine (Tryz.slices_Compact_int_empty none 0 w).mono ?_
    rintro e w' ⟨rfl, rfl⟩
    exact ⟨_, rfl, World.ownsRow_nil _ _ _ _, World.grownBy.refl _ _⟩
  · have hb := (ho.lt g (by simp [Value.ownBlock]))
    refine (Tryz.slices_Compact_int g 0 cap ts w (holds_int ts ho) (by omega) (own_cap ho)).mono ?_
    rintro e w' ⟨rfl, q, rfl⟩
    have hcl := compact_len ts
    refine ⟨_, rfl, ?_, grownBy_putRow w g q encI _⟩
    have := own_putRow (m := (Lib.compact ts).length) (k := q) encI (Lib.compact ts ++ List.replicate (ts.length - (Lib.compact ts).length) 0) ho (by simp; omega) (by omega)
    rw [List.take_left] at this
    exact this

/-- A store of true into a set, at the operation. -/
theorem wpList_set_add {α : Type} [DecidableEq α] {f : α → Lit} (w : World) {ops : Array Oper} {rest : List Oper} {o : Oper} {a : Act} {Q : Exit → Act → World → Prop}
    (hg : o.guard = none) (m x v : Operand) (t : TypeId) (hop : o.op = Op.mapUpdate t m x v)
    (k : TypeId) (K : Keyed Tryz.prog k) (hf : ∀ x y, f x = f y → x = y) (ht : Tryz.prog.underlying t = some (.map k 4)) (b n : Nat) (S : List α)
    (hm : a.eval m = .map (some b)) (hown : IsSet f w k b n S) (hn : n < maxLen) (key : Value) (y : α) (hx : a.eval x = key) (hv : a.eval v = .bool true) (hkey : keyOf Tryz.prog k key = some (f y)) (hkl : WideAt.IsKeyLit (f y))
    (hK : ∀ w', IsSet f w' k b (n + 1) (y :: S) → w.grownBy w' (some b) → wpList Tryz.prog ops Q rest (a.put o.dst undef) w') :
    wpList Tryz.prog ops Q (o :: rest) a w := by
  refine wpList_plain hg fun K' hK' => ?_
  obtain ⟨w', hrun, r1, r2⟩ := hown.add K hf ht hn hkey hkl
  unfold Oper.wp
  simp [execOp, hop, hm, hx, hv, hrun, Result.andThen]
  exact hK' _ _ (hK w' r1 r2)

theorem nameKeyed : Keyed Tryz.prog 53 := string_keyed Tryz.underlying53
theorem nameKey (l : Nm) (h : l.length ≤ 100000) : keyOf Tryz.prog 53 (.string ⟨l.toArray⟩) = some (Lit.string l) :=
  Go.WideMaps.keyOf_string_mk (P := Tryz.prog) Tryz.underlying53 (s := ⟨l.toArray⟩) (by show l.toArray.size ≤ _; unfold maxLen; simp; omega)

/-- A name that may be taken back. -/
def okN (l : Nm) : Bool := decide (l ≠ []) && validB l
/-- The numbers and the names of a canonical form. -/
def canI (l : List Int) : List Int := sortI (l.filter fun x => decide (1 ≤ x))
def canL (c : List Int) (l : List Nm) : List Nm := (topsN (l.filter okN)).filter fun x => !decide (rootOf x ∈ rootsN c)

/-- What holds between two rounds of the first loop. -/
def CanR1 (w : World) (B : Nat) (sA sL : Value) (n : Nat) (l : List Int) (i : Value) (wr : World) : Prop :=
  ∃ k v ts, k ≤ n ∧ i = .int .i64 (k : Int) ∧ ts = (l.take k).filter (fun x => decide (1 ≤ x)) ∧ Box2 wr B 47 sA sL ∧ Box2 wr (B + 1) 47 (.slice none 0 0) (.slice none 0 0) ∧ Box2 wr (B + 1 + 1) 47 v (.slice none 0 0) ∧
    wr.ownsRow B 3 1 v ts.length (ts.map encI) ∧ Below B w wr

theorem filter_take_succ {α : Type} (p : α → Bool) (l : List α) (k : Nat) (x : α) (h : l[k]? = some x) : (l.take (k + 1)).filter p = (l.take k).filter p ++ (if p x then [x] else []) := by
  rw [List.take_add_one, List.filter_append, h]
  by_cases hp : p x = true <;> simp [hp]
theorem filter_take_len {α : Type} (p : α → Bool) (l : List α) (k : Nat) : ((l.take k).filter p).length ≤ k := by
  have h1 := List.length_filter_le p (l.take k)
  have h2 := List.length_take_le k l
  omega

theorem size_nm (s : ByteArray) : s.size = s.data.toList.length := by rw [Array.length_toList]; rfl
theorem grown_later {W W' W'' : World} {row : Option Nat} (h : W.grownBy W' row) (hb : Below W'.heap.size W' W'') : W.grownBy W'' row :=
  h.trans ⟨hb.os, hb.tape, hb.output, hb.size, fun i hi _ => hb.block i hi⟩
theorem rootOf_len (s : Nm) : (rootOf s).length ≤ s.length := by
  unfold rootOf
  split
  · unfold Lib.cut
    split
    · simp only [List.length_take]; omega
    · exact Nat.le_refl _
  · simp

end Go.Proofs.YtnibcffcbnjllaaGreatDoor
