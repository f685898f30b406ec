/- ScriptParts: the plain facts, and rows of inputs. -/
import Derived.Test.YtnibcffcbnjllaaGreatDoorKn5
namespace Go.Proofs.YtnibcffcbnjllaaGreatDoor
open Go.RowKit Go.Sort

theorem inputs_places (l : List Tmd) (t : Int) : ∀ k, k ≤ l.length → inputsN l t k = (placesN l t k).map fun i => ((l[i]?).map (·.inp)).getD tmdZero.inp
  | 0, _ => rfl
  | k + 1, hk => by
    have hx : l[k]? = some l[k] := List.getElem?_eq_getElem (by omega)
    have ih := inputs_places l t k (by omega)
    by_cases ht : l[k].tick = t
    · rw [inputsN_yes hx ht, placesN_yes hx ht, List.map_append, ih]
      simp [hx]
    · rw [inputsN_no hx ht, placesN_no hx ht, ih]
theorem inputsOf_places (S : Scr) (t : Int) : inputsOf S t = (placesOf S t).map fun i => ((S.inputs[i]?).map (·.inp)).getD tmdZero.inp := by
  unfold inputsOf placesOf
  split
  · exact inputs_places S.inputs t _ (Nat.le_refl _)
  · rfl
theorem inputsOf_len (S : Scr) (t : Int) : (inputsOf S t).length = (placesOf S t).length := by rw [inputsOf_places, List.length_map]
/-- The k-th input of a tick, and its place. -/
theorem inputsOf_at (S : Scr) (t : Int) (k : Nat) (hk : k < (placesOf S t).length) : ∃ i x, (placesOf S t)[k]? = some i ∧ i < S.inputs.length ∧ S.inputs[i]? = some x ∧ (inputsOf S t)[k]? = some x.inp := by
  have hi : (placesOf S t)[k]? = some (placesOf S t)[k] := List.getElem?_eq_getElem hk
  have hlt : (placesOf S t)[k] < S.inputs.length := by
    have hm : (placesOf S t)[k] ∈ placesOf S t := List.getElem_mem hk
    generalize (placesOf S t)[k] = i at hm
    unfold placesOf at hm
    split at hm
    · exact placesN_lt hm
    · simp at hm
  refine ⟨_, S.inputs[(placesOf S t)[k]], hi, hlt, List.getElem?_eq_getElem hlt, ?_⟩
  rw [inputsOf_places, List.getElem?_map, hi]
  simp [List.getElem?_eq_getElem hlt]
theorem placesOf_len (S : Scr) (t : Int) : (placesOf S t).length ≤ S.inputs.length := by
  unfold placesOf
  split
  · exact placesN_len _ _ _
  · simp

theorem flat_at5 (l : List Inp) : ∀ (k j : Nat) (t : Inp), l[k]? = some t → j < 5 → (l.flatMap inpCells)[5 * k + j]? = (inpCells t)[j]? := by
  induction l with
  | nil => intro k j t h; simp at h
  | cons a l ih =>
    intro k j t h hj
    rw [List.flatMap_cons]
    have hlen : (inpCells a).length = 5 := rfl
    cases k with
    | zero =>
      simp at h
      subst h
      rw [List.getElem?_append_left (by omega)]
      simp
    | succ k =>
      rw [List.getElem?_append_right (by omega), hlen]
      have e : 5 * (k + 1) + j - 5 = 5 * k + j := by omega
      rw [e]
      exact ih k j t (by simpa using h) hj

/-- The k-th input of a slice of inputs, cell by cell. -/
theorem Row.in5 {w : World} {B n k : Nat} {A : Option Addr} {l : List Inp} {t : Inp} (h : Row w B 5 A n (l.flatMap inpCells)) (hk : k < n) (ht : l[k]? = some t) :
    ∃ (b off : Nat), A = some ⟨b, off, none⟩ ∧ b < B ∧ w.cell? ⟨b, off + k * 5, none⟩ = some (.int .i64 t.kind) ∧ w.cell? ⟨b, off + k * 5 + 1, none⟩ = some (.int .i64 t.number) ∧
      w.cell? ⟨b, off + k * 5 + 2, none⟩ = some (encN t.frm) ∧ w.cell? ⟨b, off + k * 5 + 3, none⟩ = some (encN t.dst) ∧ w.cell? ⟨b, off + k * 5 + 4, none⟩ = some (encN t.txt) := by
  obtain ⟨b, off, e, hb, hc⟩ := h.2 (by omega)
  have e5 : ∀ j, off + (5 * k + j) = off + k * 5 + j := fun j => by omega
  have q : ∀ j u, (inpCells t)[j]? = some u → w.cell? ⟨b, off + (5 * k + j), none⟩ = some u := fun j u hu => hc _ u (by
    have hj : j < 5 := (List.getElem?_eq_some_iff.1 hu).1
    rw [flat_at5 l k j t ht hj, hu])
  refine ⟨b, off, e, hb, ?_, ?_, ?_, ?_, ?_⟩
  · have := q 0 _ rfl; rwa [e5] at this
  · have := q 1 _ rfl; rwa [e5] at this
  · have := q 2 _ rfl; rwa [e5] at this
  · have := q 3 _ rfl; rwa [e5] at this
  · have := q 4 _ rfl; rwa [e5] at this

theorem inS_iff (S : Scr) (num : Int) : inS S num = (decide (S.before < num) && decide (num ≤ S.before + S.inputs.length)) := by
  unfold inS
  rw [Bool.eq_iff_iff]
  simp only [Bool.and_eq_true, decide_eq_true_eq]
  omega

end Go.Proofs.YtnibcffcbnjllaaGreatDoor
