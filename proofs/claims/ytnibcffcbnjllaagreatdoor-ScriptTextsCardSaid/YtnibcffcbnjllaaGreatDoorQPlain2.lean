/- Plain facts on names: the order of their ordinals, and that a valid name is given by its ordinals. -/
import Derived.Test.YtnibcffcbnjllaaGreatDoorQLin6
import Derived.Test.YtnibcffcbnjllaaGreatDoorQSortLem
namespace Go.Proofs.YtnibcffcbnjllaaGreatDoor

theorem cmpL_cases : ∀ a b : List Nat, cmpL a b = -1 ∨ cmpL a b = 0 ∨ cmpL a b = 1
  | [], [] => by simp [cmpL]
  | [], _ :: _ => by simp [cmpL]
  | _ :: _, [] => by simp [cmpL]
  | x :: xs, y :: ys => by
    rw [cmpL]
    split
    · simp
    · split
      · simp
      · exact cmpL_cases xs ys
theorem cmpL_anti : ∀ a b : List Nat, cmpL b a = - cmpL a b
  | [], [] => by simp [cmpL]
  | [], _ :: _ => by simp [cmpL]
  | _ :: _, [] => by simp [cmpL]
  | x :: xs, y :: ys => by
    rw [cmpL, cmpL]
    by_cases h1 : x < y
    · rw [if_neg (by omega), if_pos h1, if_pos h1]; rfl
    · by_cases h2 : y < x
      · rw [if_pos h2, if_neg h1, if_pos h2]
      · rw [if_neg h2, if_neg h1, if_neg h1, if_neg h2]; exact cmpL_anti xs ys
theorem cmpL_zero : ∀ a b : List Nat, cmpL a b = 0 → a = b
  | [], [], _ => rfl
  | [], _ :: _, h => by simp [cmpL] at h
  | _ :: _, [], h => by simp [cmpL] at h
  | x :: xs, y :: ys, h => by
    rw [cmpL] at h
    split at h
    · simp at h
    · split at h
      · simp at h
      · rw [cmpL_zero xs ys h, show x = y by omega]
theorem cmpL_trans : ∀ a b c : List Nat, cmpL a b < 0 → cmpL b c < 0 → cmpL a c < 0
  | [], [], _, h, _ => by simp [cmpL] at h
  | _ :: _, [], _, h, _ => by simp [cmpL] at h
  | [], _ :: _, [], _, h => by simp [cmpL] at h
  | [], _ :: _, _ :: _, _, _ => by simp [cmpL]
  | _ :: _, _ :: _, [], _, h => by simp [cmpL] at h
  | x :: xs, y :: ys, z :: zs, h, k => by
    rw [cmpL] at h k ⊢
    by_cases h1 : x < y
    · by_cases k1 : y < z
      · rw [if_pos (by omega)]; omega
      · rw [if_neg k1] at k
        by_cases k2 : z < y
        · rw [if_pos k2] at k; omega
        · rw [if_pos (by omega)]; omega
    · rw [if_neg h1] at h
      by_cases h2 : y < x
      · rw [if_pos h2] at h; omega
      · rw [if_neg h2] at h
        obtain rfl : x = y := by omega
        by_cases k1 : x < z
        · rw [if_pos k1]; omega
        · rw [if_neg k1] at k ⊢
          by_cases k2 : z < x
          · rw [if_pos k2] at k; omega
          · rw [if_neg k2] at k ⊢
            exact cmpL_trans xs ys zs h k

/-- An ordinal as it is written. -/
def Good (d : Nm) : Prop := d ≠ [] ∧ (∀ c ∈ d, isD c = true) ∧ d.head? ≠ some 48 ∧ d.length ≤ 6
/-- Ordinals as they are written, with dots between them. -/
def dots : List Nm → Nm
  | [] => []
  | [d] => d
  | d :: e :: r => d ++ 46 :: dots (e :: r)

theorem run7_prefix (s : Nm) (a : Nat) : (s.drop a).take (run7 s a) = ((s.drop a).take 7).takeWhile isD := by
  unfold run7
  have h1 : ((s.drop a).take 7).takeWhile isD <+: (s.drop a) := (List.takeWhile_prefix _).trans (List.take_prefix _ _)
  exact (List.prefix_iff_eq_take.1 h1).symm

theorem firstP_good {s : Nm} {a c o p en : Nat} (ha : a ≤ s.length) (h : firstP s a c = ((o, p, 0), en)) :
    c ≠ 8 ∧ en ≤ s.length ∧ ∃ d, Good d ∧ o = val10 d ∧ en = a + d.length ∧ s.drop a = d ++ s.drop en := by
  have h0 : firstErr s a c = 0 := by
    unfold firstP at h
    split at h
    · assumption
    · next h0 => simp at h; exact absurd h.1.2.2 h0
  have hz := firstP_zero ha h
  unfold firstP at h
  rw [if_pos h0] at h
  simp only [Prod.mk.injEq] at h
  obtain ⟨⟨ho, _, _⟩, he⟩ := h
  have hl : ((s.drop a).take (run7 s a)).length = run7 s a := by
    rw [List.length_take, List.length_drop]
    have := run7_size s a ha
    omega
  have hd : ∀ x ∈ (s.drop a).take (run7 s a), isD x = true := by
    intro x hx
    rw [run7_prefix] at hx
    have := List.all_takeWhile (p := isD) (l := (s.drop a).take 7)
    rw [List.all_eq_true] at this
    exact this x hx
  unfold firstErr at h0
  split at h0
  · cases h0
  · split at h0
    · cases h0
    · split at h0
      · cases h0
      · split at h0
        · cases h0
        · split at h0
          · cases h0
          · next h1 h2 h3 h4 h5 =>
            refine ⟨hz.1, hz.2, (s.drop a).take (run7 s a), ⟨?_, hd, ?_, by omega⟩, ho.symm, by rw [hl]; exact he.symm, ?_⟩
            · intro e
              rw [e] at hl
              simp at hl
              omega
            · intro e
              apply h4
              have : (s.drop a).head? = some 48 := by
                cases hdd : s.drop a with
                | nil => rw [hdd] at e; simp at e
                | cons x xs =>
                  rw [hdd] at e
                  have : run7 s a = (run7 s a - 1) + 1 := by omega
                  rw [this, List.take_succ_cons] at e
                  simpa using e
              rw [List.head?_drop] at this
              exact this
            · rw [← he, ← List.drop_drop, List.take_append_drop]

theorem dots_cons (d : Nm) {ds : List Nm} (h : ds ≠ []) : dots (d :: ds) = d ++ 46 :: dots ds := by
  cases ds with
  | nil => exact absurd rfl h
  | cons e r => rfl

theorem partsN_dots : ∀ (f : Nat) (s : Nm) (a c : Nat), c + f = 9 → f ≠ 0 → a ≤ s.length → (∀ x ∈ partsN f s a c, x.2.2 = 0) →
    ∃ ds, ds ≠ [] ∧ (∀ d ∈ ds, Good d) ∧ s.drop a = dots ds ∧ (partsN f s a c).map (·.1) = ds.map val10 ∧ ds.length ≤ f
  | 0, _, _, _, _, h, _, _ => absurd rfl h
  | f + 1, s, a, c, hc, _, ha, hall => by
    obtain ⟨⟨⟨o, p, er⟩, en⟩, hf⟩ : ∃ r, firstP s a c = r := ⟨_, rfl⟩
    rw [partsN, hf] at hall ⊢
    simp only at hall ⊢
    obtain rfl : er = 0 := hall (o, p, er) (by simp)
    obtain ⟨h8, hen, d, hg, rfl, he, hd⟩ := firstP_good ha hf
    by_cases hend : en = s.length
    · rw [if_pos (.inr hend)] at hall ⊢
      refine ⟨[d], by simp, by simpa using hg, ?_, by simp, by simp⟩
      rw [hd, hend, List.drop_length]
      simp [dots]
    · rw [if_neg (by simp [hend])] at hall ⊢
      by_cases hdot : s[en]? = some 46
      · rw [if_neg (by simp [hdot])] at hall ⊢
        have hf0 : f ≠ 0 := by omega
        have hlt : en < s.length := by omega
        obtain ⟨ds, h1, h2, h3, h4, h5⟩ := partsN_dots f s (en + 1) (c + 1) (by omega) hf0 (by omega) (fun x hx => hall x (by simp [hx]))
        refine ⟨d :: ds, by simp, ?_, ?_, by simp [h4], by simp; omega⟩
        · intro x hx
          rcases List.mem_cons.1 hx with h | h
          · rw [h]; exact hg
          · exact h2 x h
        · rw [hd, dots_cons d h1, ← h3, List.drop_eq_getElem_cons hlt]
          rw [List.getElem?_eq_getElem hlt] at hdot
          injection hdot with hdot
          rw [hdot]
      · rw [if_pos hdot] at hall
        have := hall (0, en, 6) (by simp)
        simp at this

/-- A valid name that is not empty. -/
theorem valid_dots {s : Nm} (h : validB s = true) (hne : s ≠ []) : ∃ ds, ds ≠ [] ∧ (∀ d ∈ ds, Good d) ∧ s = dots ds ∧ ordsOf s = ds.map val10 ∧ ds.length ≤ 9 := by
  have hv := h
  unfold validB at hv
  rw [List.all_eq_true] at hv
  have hp : partsOf s = partsN 9 s 0 0 := by unfold partsOf; rw [if_neg hne]
  rw [hp] at hv
  obtain ⟨ds, h1, h2, h3, h4, h5⟩ := partsN_dots 9 s 0 0 rfl (by omega) (by omega) (fun x hx => by simpa using hv x hx)
  refine ⟨ds, h1, h2, by simpa using h3, ?_, h5⟩
  unfold ordsOf
  rw [if_pos h, hp]
  exact h4

theorem val10_lead {d : Nm} (h : Good d) : ∀ n, d.length = n + 1 → 10 ^ n ≤ val10 d := by
  have key : ∀ (n : Nat) (d : Nm), d ≠ [] → (∀ c ∈ d, isD c = true) → d.head? ≠ some 48 → d.length = n + 1 → 10 ^ n ≤ val10 d := by
    intro n
    induction n with
    | zero =>
      intro d h1 h2 h3 hl
      match d, hl with
      | [c], _ =>
        have hb := isD_bounds (h2 c (by simp))
        have : c.toNat ≠ 48 := fun e => h3 (by simp; exact UInt8.toNat_inj.1 (by simpa using e))
        simp [val10]
        omega
    | succ n ih =>
      intro d h1 h2 h3 hl
      obtain ⟨l, c, rfl⟩ : ∃ l c, d = l ++ [c] := ⟨d.dropLast, d.getLast h1, (List.dropLast_concat_getLast h1).symm⟩
      have hll : l.length = n + 1 := by simpa using hl
      have hne : l ≠ [] := by intro e; rw [e] at hll; simp at hll
      have := ih l hne (fun x hx => h2 x (by simp [hx])) (by
        intro e; apply h3
        cases l with
        | nil => exact absurd rfl hne
        | cons x xs => simpa using e) hll
      rw [val10_snoc, Nat.pow_succ]
      omega
  exact fun n hl => key n d h.1 h.2.1 h.2.2.1 hl

theorem val10_inj_len : ∀ (n : Nat) (d e : Nm), d.length = n → e.length = n → (∀ c ∈ d, isD c = true) → (∀ c ∈ e, isD c = true) → val10 d = val10 e → d = e
  | 0, d, e, hd, he, _, _, _ => by rw [List.length_eq_zero_iff.1 hd, List.length_eq_zero_iff.1 he]
  | n + 1, d, e, hd, he, h1, h2, hv => by
    have hdn : d ≠ [] := by intro x; rw [x] at hd; simp at hd
    have hen : e ≠ [] := by intro x; rw [x] at he; simp at he
    obtain ⟨l, c, rfl⟩ : ∃ l c, d = l ++ [c] := ⟨d.dropLast, d.getLast hdn, (List.dropLast_concat_getLast hdn).symm⟩
    obtain ⟨l', c', rfl⟩ : ∃ l c, e = l ++ [c] := ⟨e.dropLast, e.getLast hen, (List.dropLast_concat_getLast hen).symm⟩
    rw [val10_snoc, val10_snoc] at hv
    have b1 := isD_bounds (h1 c (by simp))
    have b2 := isD_bounds (h2 c' (by simp))
    have e1 : val10 l = val10 l' := by omega
    have e2 : c = c' := UInt8.toNat_inj.1 (by omega)
    rw [val10_inj_len n l l' (by simpa using hd) (by simpa using he) (fun x hx => h1 x (by simp [hx])) (fun x hx => h2 x (by simp [hx])) e1, e2]

theorem good_inj {d e : Nm} (hd : Good d) (he : Good e) (h : val10 d = val10 e) : d = e := by
  obtain ⟨n, hn⟩ : ∃ n, d.length = n + 1 := ⟨d.length - 1, by have := List.length_pos_iff.2 hd.1; omega⟩
  obtain ⟨m, hm⟩ : ∃ m, e.length = m + 1 := ⟨e.length - 1, by have := List.length_pos_iff.2 he.1; omega⟩
  have a1 := val10_lead hd n hn
  have a2 := val10_lead he m hm
  have b1 := val10_lt d hd.2.1
  have b2 := val10_lt e he.2.1
  have hnm : n = m := by
    rcases Nat.lt_trichotomy n m with hlt | heq | hgt
    · have : 10 ^ (n + 1) ≤ 10 ^ m := Nat.pow_le_pow_right (by omega) hlt
      rw [hn] at b1
      omega
    · exact heq
    · have : 10 ^ (m + 1) ≤ 10 ^ n := Nat.pow_le_pow_right (by omega) hgt
      rw [hm] at b2
      omega
  exact val10_inj_len (n + 1) d e hn (by rw [hm, hnm]) hd.2.1 he.2.1 h

theorem map_good_inj : ∀ {ds es : List Nm}, (∀ d ∈ ds, Good d) → (∀ d ∈ es, Good d) → ds.map val10 = es.map val10 → ds = es
  | [], [], _, _, _ => rfl
  | [], _ :: _, _, _, h => by simp at h
  | _ :: _, [], _, _, h => by simp at h
  | d :: ds, e :: es, h1, h2, h => by
    simp only [List.map_cons, List.cons.injEq] at h
    rw [good_inj (h1 d (by simp)) (h2 e (by simp)) h.1, map_good_inj (fun x hx => h1 x (by simp [hx])) (fun x hx => h2 x (by simp [hx])) h.2]

theorem ordsOf_nil : ordsOf [] = [] := by decide

/-- A valid name is given by its ordinals. -/
theorem ordsOf_inj {s t : Nm} (hs : validB s = true) (ht : validB t = true) (h : ordsOf s = ordsOf t) : s = t := by
  by_cases h1 : s = []
  · by_cases h2 : t = []
    · rw [h1, h2]
    · obtain ⟨es, e1, _, _, e4, _⟩ := valid_dots ht h2
      rw [h1, ordsOf_nil, e4] at h
      cases es with
      | nil => exact absurd rfl e1
      | cons _ _ => simp at h
  · obtain ⟨ds, d1, d2, d3, d4, _⟩ := valid_dots hs h1
    by_cases h2 : t = []
    · rw [h2, ordsOf_nil, d4] at h
      cases ds with
      | nil => exact absurd rfl d1
      | cons _ _ => simp at h
    · obtain ⟨es, e1, e2, e3, e4, _⟩ := valid_dots ht h2
      rw [d4, e4] at h
      rw [d3, e3, map_good_inj d2 e2 h]

theorem dots_len : ∀ (ds : List Nm), (∀ d ∈ ds, Good d) → (dots ds).length ≤ 7 * ds.length
  | [], _ => by simp [dots]
  | [d], h => by have := (h d (by simp)).2.2.2; simp [dots]; omega
  | d :: e :: r, h => by
    have h1 := (h d (by simp)).2.2.2
    have h2 := dots_len (e :: r) (fun x hx => h x (by simp [hx]))
    simp [dots] at h2 ⊢
    omega
theorem valid_len {s : Nm} (h : validB s = true) : s.length ≤ 63 := by
  by_cases hne : s = []
  · rw [hne]; simp
  · obtain ⟨ds, _, d2, d3, _, d5⟩ := valid_dots h hne
    have := dots_len ds d2
    rw [d3]
    omega

end Go.Proofs.YtnibcffcbnjllaaGreatDoor
/- Plain facts: rows in strict order; a sort and a compaction; the sorted names of a list. -/
namespace Go.Proofs.YtnibcffcbnjllaaGreatDoor
open Go.RowKit Go.Sort

/-- A row in strict order is given by what is in it. -/
theorem strict_unique {α : Type} {lt : α → α → Prop} (hi : ∀ x, ¬ lt x x) (ht : ∀ x y z, lt x y → lt y z → lt x z) : ∀ {a b : List α}, a.Pairwise lt → b.Pairwise lt → (∀ x, x ∈ a ↔ x ∈ b) → a = b
  | [], [], _, _, _ => rfl
  | [], y :: b, _, _, h => by have := (h y).2 (by simp); simp at this
  | x :: a, [], _, _, h => by have := (h x).1 (by simp); simp at this
  | x :: a, y :: b, ha, hb, h => by
    rw [List.pairwise_cons] at ha hb
    have hxy : x = y := by
      rcases List.mem_cons.1 ((h x).1 (by simp)) with e | hx
      · exact e
      · rcases List.mem_cons.1 ((h y).2 (by simp)) with e | hy
        · exact e.symm
        · exact absurd (ht _ _ _ (hb.1 x hx) (ha.1 y hy)) (hi _)
    subst hxy
    congr 1
    refine strict_unique hi ht ha.2 hb.2 fun z => ?_
    constructor
    · intro hz
      rcases List.mem_cons.1 ((h z).1 (by simp [hz])) with e | hz'
      · subst e; exact absurd (ha.1 _ hz) (hi _)
      · exact hz'
    · intro hz
      rcases List.mem_cons.1 ((h z).2 (by simp [hz])) with e | hz'
      · subst e; exact absurd (hb.1 _ hz) (hi _)
      · exact hz'

section
variable {α : Type} [Inhabited α] [DecidableEq α]

theorem compact_strict {lt : α → α → Bool} (hO : SWO lt) (hT : ∀ x y, lt x y = false → lt y x = false → x = y) (d : Array α) (hs : ∀ i j, i < j → j < d.size → lt d[j]! d[i]! = false) :
    ∀ m, m ≤ d.size → (Lib.compactUpTo d m).Pairwise (fun x y => lt x y = true) ∧ ∀ x, x ∈ Lib.compactUpTo d m ↔ ∃ j, j < m ∧ d[j]! = x
  | 0, _ => by simp [Lib.compactUpTo]
  | m + 1, hm => by
    obtain ⟨h1, h2⟩ := compact_strict hO hT d hs m (by omega)
    rw [Lib.compactUpTo_succ]
    by_cases hk : Lib.keeps d m = true
    · rw [if_pos hk]
      refine ⟨?_, ?_⟩
      · rw [List.pairwise_append]
        refine ⟨h1, by simp, ?_⟩
        intro x hx y hy
        rw [List.mem_singleton] at hy
        subst hy
        obtain ⟨j, hj, rfl⟩ := (h2 x).1 hx
        unfold Lib.keeps at hk
        rw [decide_eq_true_eq] at hk
        have hne : d[m]! ≠ d[m - 1]! := by
          rcases hk with h | h
          · omega
          · exact h
        have hlt : lt d[m - 1]! d[m]! = true := by
          cases hh : lt d[m - 1]! d[m]! with
          | true => rfl
          | false => exact absurd (hT _ _ hh (hs (m - 1) m (by omega) (by omega))).symm hne
        rcases Nat.lt_or_ge j (m - 1) with hj2 | hj2
        · cases hh : lt d[j]! d[m]! with
          | true => rfl
          | false =>
            have := hO.ntrans _ _ _ (hs j (m - 1) hj2 (by omega)) hh
            rw [hlt] at this
            cases this
        · rw [show j = m - 1 by omega]; exact hlt
      · intro x
        rw [List.mem_append, h2, List.mem_singleton]
        constructor
        · rintro (⟨j, hj, e⟩ | e)
          · exact ⟨j, by omega, e⟩
          · exact ⟨m, by omega, e.symm⟩
        · rintro ⟨j, hj, e⟩
          rcases Nat.lt_or_ge j m with h | h
          · exact .inl ⟨j, h, e⟩
          · rw [show j = m by omega] at e; exact .inr e.symm
    · rw [if_neg hk, List.append_nil]
      refine ⟨h1, fun x => ?_⟩
      rw [h2]
      unfold Lib.keeps at hk
      rw [decide_eq_true_eq, not_or] at hk
      have he : d[m]! = d[m - 1]! := Classical.not_not.1 hk.2
      constructor
      · rintro ⟨j, hj, e⟩; exact ⟨j, by omega, e⟩
      · rintro ⟨j, hj, e⟩
        rcases Nat.lt_or_ge j m with h | h
        · exact ⟨j, h, e⟩
        · rw [show j = m by omega, he] at e
          exact ⟨m - 1, by omega, e⟩

/-- A sort and a compaction: what was there, in strict order. -/
theorem sorted_compact {lt : α → α → Bool} (hO : SWO lt) (hT : ∀ x y, lt x y = false → lt y x = false → x = y) (l : List α) :
    (Lib.compact (l.mergeSort fun x y => !lt y x)).Pairwise (fun x y => lt x y = true) ∧ ∀ x, x ∈ Lib.compact (l.mergeSort fun x y => !lt y x) ↔ x ∈ l := by
  have hp := List.pairwise_mergeSort (le := fun x y => !lt y x) (by
      intro a b c h1 h2
      simp only [Bool.not_eq_true'] at h1 h2 ⊢
      exact hO.ntrans _ _ _ h2 h1) (by
      intro a b
      cases h : lt b a with
      | false => simp
      | true =>
        cases h2 : lt a b with
        | false => simp
        | true => have := hO.trans _ _ _ h h2; rw [hO.irrefl] at this; cases this) l
  have hm := List.mergeSort_perm l (fun x y => !lt y x)
  generalize l.mergeSort (fun x y => !lt y x) = s at hp hm
  unfold Lib.compact
  have hs : ∀ i j, i < j → j < s.toArray.size → lt s.toArray[j]! s.toArray[i]! = false := by
    intro i j hij hj
    have hj' : j < s.length := by simpa using hj
    have := List.pairwise_iff_getElem.1 hp i j (by omega) hj' hij
    simpa [getElem!_pos, hj', show i < s.length by omega] using this
  obtain ⟨h1, h2⟩ := compact_strict hO hT s.toArray hs s.length (by simp)
  refine ⟨h1, fun x => ?_⟩
  rw [h2, ← hm.mem_iff, List.mem_iff_getElem]
  constructor
  · rintro ⟨j, hj, e⟩
    exact ⟨j, hj, by simpa [getElem!_pos, hj] using e⟩
  · rintro ⟨j, hj, e⟩
    exact ⟨j, hj, by simpa [getElem!_pos, hj] using e⟩
theorem compact_len (l : List α) : (Lib.compact l).length ≤ l.length := by
  unfold Lib.compact Lib.compactUpTo
  have := List.length_filter_le (Lib.keeps l.toArray) (List.range l.length)
  simpa using this
end

/-- The names, in order. -/
def ltN (x y : Nm) : Prop := cmpL (ordsOf x) (ordsOf y) < 0
theorem ltN_irrefl (x : Nm) : ¬ ltN x x := by unfold ltN; rw [cmpL_self]; omega
theorem ltN_trans (x y z : Nm) (h : ltN x y) (k : ltN y z) : ltN x z := cmpL_trans _ _ _ h k
theorem ltN_total {x y : Nm} (hx : validB x = true) (hy : validB y = true) (hne : x ≠ y) : ltN x y ∨ ltN y x := by
  unfold ltN
  have h1 := cmpL_anti (ordsOf x) (ordsOf y)
  rcases cmpL_cases (ordsOf x) (ordsOf y) with h | h | h
  · left; omega
  · exact absurd (ordsOf_inj hx hy (cmpL_zero _ _ h)) hne
  · right; omega

/-- Valid names. -/
abbrev VN := {l : Nm // validB l = true}
instance : Inhabited VN := ⟨⟨[], by decide⟩⟩
def encV (x : VN) : Value := encN x.1
def cfV (x y : VN) : Int := cmpL (ordsOf x.1) (ordsOf y.1)
theorem cfV_swo : SWO (ltOf cfV) := by
  refine ⟨?_, ?_, ?_⟩
  · intro x; unfold ltOf cfV; rw [cmpL_self]; rfl
  · intro x y z h k
    unfold ltOf cfV at *
    rw [decide_eq_true_eq] at *
    exact cmpL_trans _ _ _ h k
  · intro x y z h k
    unfold ltOf cfV at *
    rw [decide_eq_false_iff_not] at *
    intro hh
    have a1 := cmpL_anti (ordsOf x.1) (ordsOf y.1)
    have a2 := cmpL_anti (ordsOf y.1) (ordsOf z.1)
    have a3 := cmpL_anti (ordsOf x.1) (ordsOf z.1)
    rcases cmpL_cases (ordsOf x.1) (ordsOf y.1) with e | e | e
    · omega
    · rw [cmpL_zero _ _ e] at hh; omega
    · rcases cmpL_cases (ordsOf y.1) (ordsOf z.1) with e2 | e2 | e2
      · omega
      · rw [cmpL_zero _ _ e2] at e; omega
      · have := cmpL_trans _ _ _ (show cmpL (ordsOf z.1) (ordsOf y.1) < 0 by omega) (show cmpL (ordsOf y.1) (ordsOf x.1) < 0 by omega)
        omega
theorem cfV_total : ∀ x y, ltOf cfV x y = false → ltOf cfV y x = false → x = y := by
  intro x y h k
  apply Subtype.ext
  unfold ltOf cfV at h k
  rw [decide_eq_false_iff_not] at h k
  have a1 := cmpL_anti (ordsOf x.1) (ordsOf y.1)
  exact ordsOf_inj x.2 y.2 (cmpL_zero _ _ (by omega))

/-- A name put into a row in order. -/
def insN (x : Nm) : List Nm → List Nm
  | [] => [x]
  | y :: l => if cmpL (ordsOf x) (ordsOf y) < 0 then x :: y :: l else if cmpL (ordsOf x) (ordsOf y) = 0 then y :: l else y :: insN x l
/-- The different names of a list in order. -/
def sortN (l : List Nm) : List Nm := l.foldr insN []

theorem insN_mem {x : Nm} (hx : validB x = true) : ∀ {l : List Nm}, (∀ y ∈ l, validB y = true) → ∀ z, z ∈ insN x l ↔ z = x ∨ z ∈ l
  | [], _, z => by simp [insN]
  | y :: l, h, z => by
    rw [insN]
    split
    · simp
    · split
      · next h0 =>
        have : x = y := ordsOf_inj hx (h y (by simp)) (cmpL_zero _ _ h0)
        subst this
        simp
      · rw [List.mem_cons, insN_mem hx (fun t ht => h t (by simp [ht])), List.mem_cons]
        constructor
        · rintro (h | h | h) <;> simp [h]
        · rintro (h | h | h) <;> simp [h]
theorem insN_strict {x : Nm} (hx : validB x = true) : ∀ {l : List Nm}, (∀ y ∈ l, validB y = true) → l.Pairwise ltN → (insN x l).Pairwise ltN
  | [], _, _ => by simp [insN]
  | y :: l, h, hp => by
    rw [List.pairwise_cons] at hp
    rw [insN]
    split
    · next h0 =>
      rw [List.pairwise_cons, List.pairwise_cons]
      refine ⟨?_, hp⟩
      intro z hz
      rcases List.mem_cons.1 hz with e | hz
      · rw [e]; exact h0
      · exact ltN_trans _ _ _ h0 (hp.1 z hz)
    · split
      · rw [List.pairwise_cons]; exact hp
      · next h0 h1 =>
        rw [List.pairwise_cons]
        refine ⟨?_, insN_strict hx (fun t ht => h t (by simp [ht])) hp.2⟩
        intro z hz
        rcases (insN_mem hx (fun t ht => h t (by simp [ht])) z).1 hz with e | hz
        · rw [e]
          unfold ltN
          have := cmpL_anti (ordsOf x) (ordsOf y)
          omega
        · exact hp.1 z hz
theorem sortN_spec : ∀ {l : List Nm}, (∀ y ∈ l, validB y = true) → (sortN l).Pairwise ltN ∧ (∀ z, z ∈ sortN l ↔ z ∈ l)
  | [], _ => by simp [sortN]
  | x :: l, h => by
    obtain ⟨h1, h2⟩ := sortN_spec (l := l) (fun t ht => h t (by simp [ht]))
    have hv : ∀ y ∈ sortN l, validB y = true := fun y hy => h y (by simp [(h2 y).1 hy])
    show (insN x (sortN l)).Pairwise ltN ∧ _
    refine ⟨insN_strict (h x (by simp)) hv h1, fun z => ?_⟩
    show z ∈ insN x (sortN l) ↔ _
    rw [insN_mem (h x (by simp)) hv, h2, List.mem_cons]

/-- What the program's sort and compaction leave. -/
theorem sortN_eq (l : List VN) : (Lib.compact (l.mergeSort fun x y => !(ltOf cfV) y x)).map (·.1) = sortN (l.map (·.1)) := by
  obtain ⟨h1, h2⟩ := sorted_compact cfV_swo cfV_total l
  have hv : ∀ y ∈ l.map (·.1), validB y = true := by
    intro y hy
    obtain ⟨z, _, rfl⟩ := List.mem_map.1 hy
    exact z.2
  obtain ⟨h3, h4⟩ := sortN_spec hv
  refine strict_unique ltN_irrefl ltN_trans ?_ h3 ?_
  · rw [List.pairwise_map]
    refine h1.imp ?_
    intro a b hab
    unfold ltOf cfV at hab
    simpa [ltN] using hab
  · intro z
    rw [h4, List.mem_map, List.mem_map]
    constructor
    · rintro ⟨a, ha, e⟩; exact ⟨a, (h2 a).1 ha, e⟩
    · rintro ⟨a, ha, e⟩; exact ⟨a, (h2 a).2 ha, e⟩
theorem sortN_valid {l : List Nm} (h : ∀ y ∈ l, validB y = true) : ∀ y ∈ sortN l, validB y = true := fun y hy => h y (((sortN_spec h).2 y).1 hy)
theorem insN_len (x : Nm) : ∀ l, (insN x l).length ≤ l.length + 1
  | [] => by simp [insN]
  | y :: l => by
    rw [insN]
    have := insN_len x l
    split
    · simp
    · split <;> simp <;> omega
theorem sortN_len : ∀ l, (sortN l).length ≤ l.length
  | [] => by simp [sortN]
  | x :: l => by
    have h1 := insN_len x (sortN l)
    have h2 := sortN_len l
    have : sortN (x :: l) = insN x (sortN l) := rfl
    rw [this, List.length_cons]
    omega

end Go.Proofs.YtnibcffcbnjllaaGreatDoor
