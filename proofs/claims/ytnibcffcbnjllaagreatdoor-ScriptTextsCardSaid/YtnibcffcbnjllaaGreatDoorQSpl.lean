/- The words of a text between spaces. -/
import Derived.Lib.Join
import Derived.Test.YtnibcffcbnjllaaGreatDoorQLin4
import Derived.Test.YtnibcffcbnjllaaGreatDoorQLaw2
import Derived.Test.YtnibcffcbnjllaaGreatDoorQShelf2
namespace Go.Proofs.YtnibcffcbnjllaaGreatDoor

/-- The words of a text, between single spaces. -/
def splitS : Nm → List Nm
  | [] => [[]]
  | c :: r => if c = 32 then [] :: splitS r else (c :: (splitS r).headD []) :: (splitS r).tail

theorem splitS_ne : ∀ s, splitS s ≠ []
  | [] => by simp [splitS]
  | c :: r => by rw [splitS]; split <;> simp
theorem splitS_none : ∀ {d : Nm}, (32 : UInt8) ∉ d → splitS d = [d]
  | [], _ => rfl
  | c :: d, h => by
    rw [splitS, if_neg (fun e => h (by simp [e])), splitS_none (fun e => h (by simp [e]))]
    rfl
theorem splitS_cons : ∀ {d : Nm} (r : Nm), (32 : UInt8) ∉ d → splitS (d ++ 32 :: r) = d :: splitS r
  | [], r, _ => by simp [splitS]
  | c :: d, r, h => by
    rw [List.cons_append, splitS, if_neg (fun e => h (by simp [e])), splitS_cons r (fun e => h (by simp [e]))]
    rfl
theorem splitS_len : ∀ s : Nm, (splitS s).length ≤ s.length + 1
  | [] => by simp [splitS]
  | c :: r => by
    have := splitS_len r
    rw [splitS]
    split
    · simp; omega
    · simp; omega
theorem splitS_mem : ∀ (s : Nm) {x : Nm}, x ∈ splitS s → x.length ≤ s.length
  | [], x, h => by simp [splitS] at h; simp [h]
  | c :: r, x, h => by
    rw [splitS] at h
    split at h
    · rcases List.mem_cons.1 h with rfl | h
      · simp
      · have := splitS_mem r h; simp; omega
    · rcases List.mem_cons.1 h with rfl | h
      · cases hs : splitS r with
        | nil => simp
        | cons y ys =>
          have := splitS_mem r (x := y) (by rw [hs]; simp)
          simpa using this
      · have := splitS_mem r (List.mem_of_mem_tail h); simp; omega
theorem join_cons2 (x y : Nm) (r : List Nm) : Lib.join (x :: y :: r) [32] = x ++ 32 :: Lib.join (y :: r) [32] := by simp [Lib.join]
theorem splitS_join : ∀ (l : List Nm), l ≠ [] → (∀ x ∈ l, (32 : UInt8) ∉ x) → splitS (Lib.join l [32]) = l
  | [], h, _ => absurd rfl h
  | [x], _, h => by
    have : Lib.join [x] [32] = x := by simp [Lib.join]
    rw [this]
    exact splitS_none (h x (by simp))
  | x :: y :: r, _, h => by
    rw [join_cons2, splitS_cons _ (h x (by simp)), splitS_join (y :: r) (by simp) (fun z hz => h z (by simp [hz]))]
/-- Where the first space stands. -/
theorem indexB_sp : ∀ (d r : Nm), (32 : UInt8) ∉ d → Lib.indexByte (d ++ 32 :: r) 32 = d.length
  | [], r, _ => by simp [Lib.indexByte]
  | c :: d, r, h => by
    have hc : c ≠ 32 := fun e => h (by simp [e])
    have ih := indexB_sp d r (fun e => h (by simp [e]))
    rw [List.cons_append, Lib.indexByte]
    simp [hc, ih]
theorem indexB_no_sp : ∀ (d : Nm), (32 : UInt8) ∉ d → Lib.indexByte d 32 = -1
  | [], _ => by simp [Lib.indexByte]
  | c :: d, h => by
    have hc : c ≠ 32 := fun e => h (by simp [e])
    have ih := indexB_no_sp d (fun e => h (by simp [e]))
    rw [Lib.indexByte]
    simp [hc, ih]
/-- A text has no space, or its first one stands behind its first word. -/
theorem sp_cases : ∀ s : Nm, (32 : UInt8) ∉ s ∨ ∃ d r, s = d ++ 32 :: r ∧ (32 : UInt8) ∉ d
  | [] => .inl (by simp)
  | c :: s => by
    by_cases hc : c = 32
    · exact .inr ⟨[], s, by simp [hc], by simp⟩
    · rcases sp_cases s with h | ⟨d, r, rfl, h⟩
      · exact .inl (by simp [h, Ne.symm hc])
      · exact .inr ⟨c :: d, r, by simp, by simp [h, Ne.symm hc]⟩

end Go.Proofs.YtnibcffcbnjllaaGreatDoor
