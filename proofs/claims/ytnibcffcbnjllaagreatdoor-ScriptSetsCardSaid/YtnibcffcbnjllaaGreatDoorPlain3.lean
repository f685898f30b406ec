/- Plain facts: rows in strict order; a sort and a compaction; the sorted names of a list. -/
import Derived.Test.YtnibcffcbnjllaaGreatDoorPlain2
import Derived.Test.YtnibcffcbnjllaaGreatDoorSortLem
namespace Go.Proofs.YtnibcffcbnjllaaGreatDoor
open Go.RowKit Go.Sort

/-- A row in strict order is given by what is in it. -/
theorem strict_unique {α : Type} {lt : α → α → Prop} (hi : ∀ x, ¬ lt x x) (ht : ∀ x y z, lt x y → lt y z → lt x z) : ∀ {a b : List α}, a.Pairwise lt → b.Pairwise lt → (∀ x, x ∈ a ↔ x ∈ b) → a = b
  | [], [], _, _, _ => rfl
  | [], y :: b, _, _, h => by have := (h y).2 (by simp); simp at this
  | x :: a, [], _, _, h => by have := (h x).1 (by simp); simp at this
  | x :: a, y :: b, ha, hb, h => by
    rw [List.pairwise_cons] at ha hb
    have hxy : x = y := by
      rcases List.mem_cons.1 ((h x).1 (by simp)) with e | hx
      · exact e
      · rcases List.mem_cons.1 ((h y).2 (by simp)) with e | hy
        · exact e.symm
        · exact absurd (ht _ _ _ (hb.1 x hx) (ha.1 y hy)) (hi _)
    subst hxy
    congr 1
    refine strict_unique hi ht ha.2 hb.2 fun z => ?_
    constructor
    · intro hz
      rcases List.mem_cons.1 ((h z).1 (by simp [hz])) with e | hz'
      · subst e; exact absurd (ha.1 _ hz) (hi _)
      · exact hz'
    · intro hz
      rcases List.mem_cons.1 ((h z).2 (by simp [hz])) with e | hz'
      · subst e; exact absurd (hb.1 _ hz) (hi _)
      · exact hz'

section
variable {α : Type} [Inhabited α] [DecidableEq α]

theorem compact_strict {lt : α → α → Bool} (hO : SWO lt) (hT : ∀ x y, lt x y = false → lt y x = false → x = y) (d : Array α) (hs : ∀ i j, i < j → j < d.size → lt d[j]! d[i]! = false) :
    ∀ m, m ≤ d.size → (Lib.compactUpTo d m).Pairwise (fun x y => lt x y = true) ∧ ∀ x, x ∈ Lib.compactUpTo d m ↔ ∃ j, j < m ∧ d[j]! = x
  | 0, _ => by simp [Lib.compactUpTo]
  | m + 1, hm => by
    obtain ⟨h1, h2⟩ := compact_strict hO hT d hs m (by omega)
    rw [Lib.compactUpTo_succ]
    by_cases hk : Lib.keeps d m = true
    · rw [if_pos hk]
      refine ⟨?_, ?_⟩
      · rw [List.pairwise_append]
        refine ⟨h1, by simp, ?_⟩
        intro x hx y hy
        rw [List.mem_singleton] at hy
        subst hy
        obtain ⟨j, hj, rfl⟩ := (h2 x).1 hx
        unfold Lib.keeps at hk
        rw [decide_eq_true_eq] at hk
        have hne : d[m]! ≠ d[m - 1]! := by
          rcases hk with h | h
          · omega
          · exact h
        have hlt : lt d[m - 1]! d[m]! = true := by
          cases hh : lt d[m - 1]! d[m]! with
          | true => rfl
          | false => exact absurd (hT _ _ hh (hs (m - 1) m (by omega) (by omega))).symm hne
        rcases Nat.lt_or_ge j (m - 1) with hj2 | hj2
        · cases hh : lt d[j]! d[m]! with
          | true => rfl
          | false =>
            have := hO.ntrans _ _ _ (hs j (m - 1) hj2 (by omega)) hh
            rw [hlt] at this
            cases this
        · rw [show j = m - 1 by omega]; exact hlt
      · intro x
        rw [List.mem_append, h2, List.mem_singleton]
        constructor
        · rintro (⟨j, hj, e⟩ | e)
          · exact ⟨j, by omega, e⟩
          · exact ⟨m, by omega, e.symm⟩
        · rintro ⟨j, hj, e⟩
          rcases Nat.lt_or_ge j m with h | h
          · exact .inl ⟨j, h, e⟩
          · rw [show j = m by omega] at e; exact .inr e.symm
    · rw [if_neg hk, List.append_nil]
      refine ⟨h1, fun x => ?_⟩
      rw [h2]
      unfold Lib.keeps at hk
      rw [decide_eq_true_eq, not_or] at hk
      have he : d[m]! = d[m - 1]! := Classical.not_not.1 hk.2
      constructor
      · rintro ⟨j, hj, e⟩; exact ⟨j, by omega, e⟩
      · rintro ⟨j, hj, e⟩
        rcases Nat.lt_or_ge j m with h | h
        · exact ⟨j, h, e⟩
        · rw [show j = m by omega, he] at e
          exact ⟨m - 1, by omega, e⟩

/-- A sort and a compaction: what was there, in strict order. -/
theorem sorted_compact {lt : α → α → Bool} (hO : SWO lt) (hT : ∀ x y, lt x y = false → lt y x = false → x = y) (l : List α) :
    (Lib.compact (l.mergeSort fun x y => !lt y x)).Pairwise (fun x y => lt x y = true) ∧ ∀ x, x ∈ Lib.compact (l.mergeSort fun x y => !lt y x) ↔ x ∈ l := by
  have hp := List.pairwise_mergeSort (le := fun x y => !lt y x) (by
      intro a b c h1 h2
      simp only [Bool.not_eq_true'] at h1 h2 ⊢
      exact hO.ntrans _ _ _ h2 h1) (by
      intro a b
      cases h : lt b a with
      | false => simp
      | true =>
        cases h2 : lt a b with
        | false => simp
        | true => have := hO.trans _ _ _ h h2; rw [hO.irrefl] at this; cases this) l
  have hm := List.mergeSort_perm l (fun x y => !lt y x)
  generalize l.mergeSort (fun x y => !lt y x) = s at hp hm
  unfold Lib.compact
  have hs : ∀ i j, i < j → j < s.toArray.size → lt s.toArray[j]! s.toArray[i]! = false := by
    intro i j hij hj
    have hj' : j < s.length := by simpa using hj
    have := List.pairwise_iff_getElem.1 hp i j (by omega) hj' hij
    simpa [getElem!_pos, hj', show i < s.length by omega] using this
  obtain ⟨h1, h2⟩ := compact_strict hO hT s.toArray hs s.length (by simp)
  refine ⟨h1, fun x => ?_⟩
  rw [h2, ← hm.mem_iff, List.mem_iff_getElem]
  constructor
  · rintro ⟨j, hj, e⟩
    exact ⟨j, hj, by simpa [getElem!_pos, hj] using e⟩
  · rintro ⟨j, hj, e⟩
    exact ⟨j, hj, by simpa [getElem!_pos, hj] using e⟩
theorem compact_len (l : List α) : (Lib.compact l).length ≤ l.length := by
  unfold Lib.compact Lib.compactUpTo
  have := List.length_filter_le (Lib.keeps l.toArray) (List.range l.length)
  simpa using this
end

/-- The names, in order. -/
def ltN (x y : Nm) : Prop := cmpL (ordsOf x) (ordsOf y) < 0
theorem ltN_irrefl (x : Nm) : ¬ ltN x x := by unfold ltN; rw [cmpL_self]; omega
theorem ltN_trans (x y z : Nm) (h : ltN x y) (k : ltN y z) : ltN x z := cmpL_trans _ _ _ h k
theorem ltN_total {x y : Nm} (hx : validB x = true) (hy : validB y = true) (hne : x ≠ y) : ltN x y ∨ ltN y x := by
  unfold ltN
  have h1 := cmpL_anti (ordsOf x) (ordsOf y)
  rcases cmpL_cases (ordsOf x) (ordsOf y) with h | h | h
  · left; omega
  · exact absurd (ordsOf_inj hx hy (cmpL_zero _ _ h)) hne
  · right; omega

/-- Valid names. -/
abbrev VN := {l : Nm // validB l = true}
instance : Inhabited VN := ⟨⟨[], by decide⟩⟩
def encV (x : VN) : Value := encN x.1
def cfV (x y : VN) : Int := cmpL (ordsOf x.1) (ordsOf y.1)
theorem cfV_swo : SWO (ltOf cfV) := by
  refine ⟨?_, ?_, ?_⟩
  · intro x; unfold ltOf cfV; rw [cmpL_self]; rfl
  · intro x y z h k
    unfold ltOf cfV at *
    rw [decide_eq_true_eq] at *
    exact cmpL_trans _ _ _ h k
  · intro x y z h k
    unfold ltOf cfV at *
    rw [decide_eq_false_iff_not] at *
    intro hh
    have a1 := cmpL_anti (ordsOf x.1) (ordsOf y.1)
    have a2 := cmpL_anti (ordsOf y.1) (ordsOf z.1)
    have a3 := cmpL_anti (ordsOf x.1) (ordsOf z.1)
    rcases cmpL_cases (ordsOf x.1) (ordsOf y.1) with e | e | e
    · omega
    · rw [cmpL_zero _ _ e] at hh; omega
    · rcases cmpL_cases (ordsOf y.1) (ordsOf z.1) with e2 | e2 | e2
      · omega
      · rw [cmpL_zero _ _ e2] at e; omega
      · have := cmpL_trans _ _ _ (show cmpL (ordsOf z.1) (ordsOf y.1) < 0 by omega) (show cmpL (ordsOf y.1) (ordsOf x.1) < 0 by omega)
        omega
theorem cfV_total : ∀ x y, ltOf cfV x y = false → ltOf cfV y x = false → x = y := by
  intro x y h k
  apply Subtype.ext
  unfold ltOf cfV at h k
  rw [decide_eq_false_iff_not] at h k
  have a1 := cmpL_anti (ordsOf x.1) (ordsOf y.1)
  exact ordsOf_inj x.2 y.2 (cmpL_zero _ _ (by omega))

/-- A name put into a row in order. -/
def insN (x : Nm) : List Nm → List Nm
  | [] => [x]
  | y :: l => if cmpL (ordsOf x) (ordsOf y) < 0 then x :: y :: l else if cmpL (ordsOf x) (ordsOf y) = 0 then y :: l else y :: insN x l
/-- The different names of a list in order. -/
def sortN (l : List Nm) : List Nm := l.foldr insN []

theorem insN_mem {x : Nm} (hx : validB x = true) : ∀ {l : List Nm}, (∀ y ∈ l, validB y = true) → ∀ z, z ∈ insN x l ↔ z = x ∨ z ∈ l
  | [], _, z => by simp [insN]
  | y :: l, h, z => by
    rw [insN]
    split
    · simp
    · split
      · next h0 =>
        have : x = y := ordsOf_inj hx (h y (by simp)) (cmpL_zero _ _ h0)
        subst this
        simp
      · rw [List.mem_cons, insN_mem hx (fun t ht => h t (by simp [ht])), List.mem_cons]
        constructor
        · rintro (h | h | h) <;> simp [h]
        · rintro (h | h | h) <;> simp [h]
theorem insN_strict {x : Nm} (hx : validB x = true) : ∀ {l : List Nm}, (∀ y ∈ l, validB y = true) → l.Pairwise ltN → (insN x l).Pairwise ltN
  | [], _, _ => by simp [insN]
  | y :: l, h, hp => by
    rw [List.pairwise_cons] at hp
    rw [insN]
    split
    · next h0 =>
      rw [List.pairwise_cons, List.pairwise_cons]
      refine ⟨?_, hp⟩
      intro z hz
      rcases List.mem_cons.1 hz with e | hz
      · rw [e]; exact h0
      · exact ltN_trans _ _ _ h0 (hp.1 z hz)
    · split
      · rw [List.pairwise_cons]; exact hp
      · next h0 h1 =>
        rw [List.pairwise_cons]
        refine ⟨?_, insN_strict hx (fun t ht => h t (by simp [ht])) hp.2⟩
        intro z hz
        rcases (insN_mem hx (fun t ht => h t (by simp [ht])) z).1 hz with e | hz
        · rw [e]
          unfold ltN
          have := cmpL_anti (ordsOf x) (ordsOf y)
          omega
        · exact hp.1 z hz
theorem sortN_spec : ∀ {l : List Nm}, (∀ y ∈ l, validB y = true) → (sortN l).Pairwise ltN ∧ (∀ z, z ∈ sortN l ↔ z ∈ l)
  | [], _ => by simp [sortN]
  | x :: l, h => by
    obtain ⟨h1, h2⟩ := sortN_spec (l := l) (fun t ht => h t (by simp [ht]))
    have hv : ∀ y ∈ sortN l, validB y = true := fun y hy => h y (by simp [(h2 y).1 hy])
    show (insN x (sortN l)).Pairwise ltN ∧ _
    refine ⟨insN_strict (h x (by simp)) hv h1, fun z => ?_⟩
    show z ∈ insN x (sortN l) ↔ _
    rw [insN_mem (h x (by simp)) hv, h2, List.mem_cons]

/-- What the program's sort and compaction leave. -/
theorem sortN_eq (l : List VN) : (Lib.compact (l.mergeSort fun x y => !(ltOf cfV) y x)).map (·.1) = sortN (l.map (·.1)) := by
  obtain ⟨h1, h2⟩ := sorted_compact cfV_swo cfV_total l
  have hv : ∀ y ∈ l.map (·.1), validB y = true := by
    intro y hy
    obtain ⟨z, _, rfl⟩ := List.mem_map.1 hy
    exact z.2
  obtain ⟨h3, h4⟩ := sortN_spec hv
  refine strict_unique ltN_irrefl ltN_trans ?_ h3 ?_
  · rw [List.pairwise_map]
    refine h1.imp ?_
    intro a b hab
    unfold ltOf cfV at hab
    simpa [ltN] using hab
  · intro z
    rw [h4, List.mem_map, List.mem_map]
    constructor
    · rintro ⟨a, ha, e⟩; exact ⟨a, (h2 a).1 ha, e⟩
    · rintro ⟨a, ha, e⟩; exact ⟨a, (h2 a).2 ha, e⟩
theorem sortN_valid {l : List Nm} (h : ∀ y ∈ l, validB y = true) : ∀ y ∈ sortN l, validB y = true := fun y hy => h y (((sortN_spec h).2 y).1 hy)
theorem insN_len (x : Nm) : ∀ l, (insN x l).length ≤ l.length + 1
  | [] => by simp [insN]
  | y :: l => by
    rw [insN]
    have := insN_len x l
    split
    · simp
    · split <;> simp <;> omega
theorem sortN_len : ∀ l, (sortN l).length ≤ l.length
  | [] => by simp [sortN]
  | x :: l => by
    have h1 := insN_len x (sortN l)
    have h2 := sortN_len l
    have : sortN (x :: l) = insN x (sortN l) := rfl
    rw [this, List.length_cons]
    omega

end Go.Proofs.YtnibcffcbnjllaaGreatDoor
