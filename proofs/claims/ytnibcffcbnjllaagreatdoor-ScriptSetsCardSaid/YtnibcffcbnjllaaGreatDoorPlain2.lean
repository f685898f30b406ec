/- Plain facts on names: the order of their ordinals, and that a valid name is given by its ordinals. -/
import Derived.Test.YtnibcffcbnjllaaGreatDoorLin6
namespace Go.Proofs.YtnibcffcbnjllaaGreatDoor

theorem cmpL_cases : ∀ a b : List Nat, cmpL a b = -1 ∨ cmpL a b = 0 ∨ cmpL a b = 1
  | [], [] => by simp [cmpL]
  | [], _ :: _ => by simp [cmpL]
  | _ :: _, [] => by simp [cmpL]
  | x :: xs, y :: ys => by
    rw [cmpL]
    split
    · simp
    · split
      · simp
      · exact cmpL_cases xs ys
theorem cmpL_anti : ∀ a b : List Nat, cmpL b a = - cmpL a b
  | [], [] => by simp [cmpL]
  | [], _ :: _ => by simp [cmpL]
  | _ :: _, [] => by simp [cmpL]
  | x :: xs, y :: ys => by
    rw [cmpL, cmpL]
    by_cases h1 : x < y
    · rw [if_neg (by omega), if_pos h1, if_pos h1]; rfl
    · by_cases h2 : y < x
      · rw [if_pos h2, if_neg h1, if_pos h2]
      · rw [if_neg h2, if_neg h1, if_neg h1, if_neg h2]; exact cmpL_anti xs ys
theorem cmpL_zero : ∀ a b : List Nat, cmpL a b = 0 → a = b
  | [], [], _ => rfl
  | [], _ :: _, h => by simp [cmpL] at h
  | _ :: _, [], h => by simp [cmpL] at h
  | x :: xs, y :: ys, h => by
    rw [cmpL] at h
    split at h
    · simp at h
    · split at h
      · simp at h
      · rw [cmpL_zero xs ys h, show x = y by omega]
theorem cmpL_trans : ∀ a b c : List Nat, cmpL a b < 0 → cmpL b c < 0 → cmpL a c < 0
  | [], [], _, h, _ => by simp [cmpL] at h
  | _ :: _, [], _, h, _ => by simp [cmpL] at h
  | [], _ :: _, [], _, h => by simp [cmpL] at h
  | [], _ :: _, _ :: _, _, _ => by simp [cmpL]
  | _ :: _, _ :: _, [], _, h => by simp [cmpL] at h
  | x :: xs, y :: ys, z :: zs, h, k => by
    rw [cmpL] at h k ⊢
    by_cases h1 : x < y
    · by_cases k1 : y < z
      · rw [if_pos (by omega)]; omega
      · rw [if_neg k1] at k
        by_cases k2 : z < y
        · rw [if_pos k2] at k; omega
        · rw [if_pos (by omega)]; omega
    · rw [if_neg h1] at h
      by_cases h2 : y < x
      · rw [if_pos h2] at h; omega
      · rw [if_neg h2] at h
        obtain rfl : x = y := by omega
        by_cases k1 : x < z
        · rw [if_pos k1]; omega
        · rw [if_neg k1] at k ⊢
          by_cases k2 : z < x
          · rw [if_pos k2] at k; omega
          · rw [if_neg k2] at k ⊢
            exact cmpL_trans xs ys zs h k

/-- An ordinal as it is written. -/
def Good (d : Nm) : Prop := d ≠ [] ∧ (∀ c ∈ d, isD c = true) ∧ d.head? ≠ some 48 ∧ d.length ≤ 6
/-- Ordinals as they are written, with dots between them. -/
def dots : List Nm → Nm
  | [] => []
  | [d] => d
  | d :: e :: r => d ++ 46 :: dots (e :: r)

theorem run7_prefix (s : Nm) (a : Nat) : (s.drop a).take (run7 s a) = ((s.drop a).take 7).takeWhile isD := by
  unfold run7
  have h1 : ((s.drop a).take 7).takeWhile isD <+: (s.drop a) := (List.takeWhile_prefix _).trans (List.take_prefix _ _)
  exact (List.prefix_iff_eq_take.1 h1).symm

theorem firstP_good {s : Nm} {a c o p en : Nat} (ha : a ≤ s.length) (h : firstP s a c = ((o, p, 0), en)) :
    c ≠ 8 ∧ en ≤ s.length ∧ ∃ d, Good d ∧ o = val10 d ∧ en = a + d.length ∧ s.drop a = d ++ s.drop en := by
  have h0 : firstErr s a c = 0 := by
    unfold firstP at h
    split at h
    · assumption
    · next h0 => simp at h; exact absurd h.1.2.2 h0
  have hz := firstP_zero ha h
  unfold firstP at h
  rw [if_pos h0] at h
  simp only [Prod.mk.injEq] at h
  obtain ⟨⟨ho, _, _⟩, he⟩ := h
  have hl : ((s.drop a).take (run7 s a)).length = run7 s a := by
    rw [List.length_take, List.length_drop]
    have := run7_size s a ha
    omega
  have hd : ∀ x ∈ (s.drop a).take (run7 s a), isD x = true := by
    intro x hx
    rw [run7_prefix] at hx
    have := List.all_takeWhile (p := isD) (l := (s.drop a).take 7)
    rw [List.all_eq_true] at this
    exact this x hx
  unfold firstErr at h0
  split at h0
  · cases h0
  · split at h0
    · cases h0
    · split at h0
      · cases h0
      · split at h0
        · cases h0
        · split at h0
          · cases h0
          · next h1 h2 h3 h4 h5 =>
            refine ⟨hz.1, hz.2, (s.drop a).take (run7 s a), ⟨?_, hd, ?_, by omega⟩, ho.symm, by rw [hl]; exact he.symm, ?_⟩
            · intro e
              rw [e] at hl
              simp at hl
              omega
            · intro e
              apply h4
              have : (s.drop a).head? = some 48 := by
                cases hdd : s.drop a with
                | nil => rw [hdd] at e; simp at e
                | cons x xs =>
                  rw [hdd] at e
                  have : run7 s a = (run7 s a - 1) + 1 := by omega
                  rw [this, List.take_succ_cons] at e
                  simpa using e
              rw [List.head?_drop] at this
              exact this
            · rw [← he, ← List.drop_drop, List.take_append_drop]

theorem dots_cons (d : Nm) {ds : List Nm} (h : ds ≠ []) : dots (d :: ds) = d ++ 46 :: dots ds := by
  cases ds with
  | nil => exact absurd rfl h
  | cons e r => rfl

theorem partsN_dots : ∀ (f : Nat) (s : Nm) (a c : Nat), c + f = 9 → f ≠ 0 → a ≤ s.length → (∀ x ∈ partsN f s a c, x.2.2 = 0) →
    ∃ ds, ds ≠ [] ∧ (∀ d ∈ ds, Good d) ∧ s.drop a = dots ds ∧ (partsN f s a c).map (·.1) = ds.map val10 ∧ ds.length ≤ f
  | 0, _, _, _, _, h, _, _ => absurd rfl h
  | f + 1, s, a, c, hc, _, ha, hall => by
    obtain ⟨⟨⟨o, p, er⟩, en⟩, hf⟩ : ∃ r, firstP s a c = r := ⟨_, rfl⟩
    rw [partsN, hf] at hall ⊢
    simp only at hall ⊢
    obtain rfl : er = 0 := hall (o, p, er) (by simp)
    obtain ⟨h8, hen, d, hg, rfl, he, hd⟩ := firstP_good ha hf
    by_cases hend : en = s.length
    · rw [if_pos (.inr hend)] at hall ⊢
      refine ⟨[d], by simp, by simpa using hg, ?_, by simp, by simp⟩
      rw [hd, hend, List.drop_length]
      simp [dots]
    · rw [if_neg (by simp [hend])] at hall ⊢
      by_cases hdot : s[en]? = some 46
      · rw [if_neg (by simp [hdot])] at hall ⊢
        have hf0 : f ≠ 0 := by omega
        have hlt : en < s.length := by omega
        obtain ⟨ds, h1, h2, h3, h4, h5⟩ := partsN_dots f s (en + 1) (c + 1) (by omega) hf0 (by omega) (fun x hx => hall x (by simp [hx]))
        refine ⟨d :: ds, by simp, ?_, ?_, by simp [h4], by simp; omega⟩
        · intro x hx
          rcases List.mem_cons.1 hx with h | h
          · rw [h]; exact hg
          · exact h2 x h
        · rw [hd, dots_cons d h1, ← h3, List.drop_eq_getElem_cons hlt]
          rw [List.getElem?_eq_getElem hlt] at hdot
          injection hdot with hdot
          rw [hdot]
      · rw [if_pos hdot] at hall
        have := hall (0, en, 6) (by simp)
        simp at this

/-- A valid name that is not empty. -/
theorem valid_dots {s : Nm} (h : validB s = true) (hne : s ≠ []) : ∃ ds, ds ≠ [] ∧ (∀ d ∈ ds, Good d) ∧ s = dots ds ∧ ordsOf s = ds.map val10 ∧ ds.length ≤ 9 := by
  have hv := h
  unfold validB at hv
  rw [List.all_eq_true] at hv
  have hp : partsOf s = partsN 9 s 0 0 := by unfold partsOf; rw [if_neg hne]
  rw [hp] at hv
  obtain ⟨ds, h1, h2, h3, h4, h5⟩ := partsN_dots 9 s 0 0 rfl (by omega) (by omega) (fun x hx => by simpa using hv x hx)
  refine ⟨ds, h1, h2, by simpa using h3, ?_, h5⟩
  unfold ordsOf
  rw [if_pos h, hp]
  exact h4

theorem val10_lead {d : Nm} (h : Good d) : ∀ n, d.length = n + 1 → 10 ^ n ≤ val10 d := by
  have key : ∀ (n : Nat) (d : Nm), d ≠ [] → (∀ c ∈ d, isD c = true) → d.head? ≠ some 48 → d.length = n + 1 → 10 ^ n ≤ val10 d := by
    intro n
    induction n with
    | zero =>
      intro d h1 h2 h3 hl
      match d, hl with
      | [c], _ =>
        have hb := isD_bounds (h2 c (by simp))
        have : c.toNat ≠ 48 := fun e => h3 (by simp; exact UInt8.toNat_inj.1 (by simpa using e))
        simp [val10]
        omega
    | succ n ih =>
      intro d h1 h2 h3 hl
      obtain ⟨l, c, rfl⟩ : ∃ l c, d = l ++ [c] := ⟨d.dropLast, d.getLast h1, (List.dropLast_concat_getLast h1).symm⟩
      have hll : l.length = n + 1 := by simpa using hl
      have hne : l ≠ [] := by intro e; rw [e] at hll; simp at hll
      have := ih l hne (fun x hx => h2 x (by simp [hx])) (by
        intro e; apply h3
        cases l with
        | nil => exact absurd rfl hne
        | cons x xs => simpa using e) hll
      rw [val10_snoc, Nat.pow_succ]
      omega
  exact fun n hl => key n d h.1 h.2.1 h.2.2.1 hl

theorem val10_inj_len : ∀ (n : Nat) (d e : Nm), d.length = n → e.length = n → (∀ c ∈ d, isD c = true) → (∀ c ∈ e, isD c = true) → val10 d = val10 e → d = e
  | 0, d, e, hd, he, _, _, _ => by rw [List.length_eq_zero_iff.1 hd, List.length_eq_zero_iff.1 he]
  | n + 1, d, e, hd, he, h1, h2, hv => by
    have hdn : d ≠ [] := by intro x; rw [x] at hd; simp at hd
    have hen : e ≠ [] := by intro x; rw [x] at he; simp at he
    obtain ⟨l, c, rfl⟩ : ∃ l c, d = l ++ [c] := ⟨d.dropLast, d.getLast hdn, (List.dropLast_concat_getLast hdn).symm⟩
    obtain ⟨l', c', rfl⟩ : ∃ l c, e = l ++ [c] := ⟨e.dropLast, e.getLast hen, (List.dropLast_concat_getLast hen).symm⟩
    rw [val10_snoc, val10_snoc] at hv
    have b1 := isD_bounds (h1 c (by simp))
    have b2 := isD_bounds (h2 c' (by simp))
    have e1 : val10 l = val10 l' := by omega
    have e2 : c = c' := UInt8.toNat_inj.1 (by omega)
    rw [val10_inj_len n l l' (by simpa using hd) (by simpa using he) (fun x hx => h1 x (by simp [hx])) (fun x hx => h2 x (by simp [hx])) e1, e2]

theorem good_inj {d e : Nm} (hd : Good d) (he : Good e) (h : val10 d = val10 e) : d = e := by
  obtain ⟨n, hn⟩ : ∃ n, d.length = n + 1 := ⟨d.length - 1, by have := List.length_pos_iff.2 hd.1; omega⟩
  obtain ⟨m, hm⟩ : ∃ m, e.length = m + 1 := ⟨e.length - 1, by have := List.length_pos_iff.2 he.1; omega⟩
  have a1 := val10_lead hd n hn
  have a2 := val10_lead he m hm
  have b1 := val10_lt d hd.2.1
  have b2 := val10_lt e he.2.1
  have hnm : n = m := by
    rcases Nat.lt_trichotomy n m with hlt | heq | hgt
    · have : 10 ^ (n + 1) ≤ 10 ^ m := Nat.pow_le_pow_right (by omega) hlt
      rw [hn] at b1
      omega
    · exact heq
    · have : 10 ^ (m + 1) ≤ 10 ^ n := Nat.pow_le_pow_right (by omega) hgt
      rw [hm] at b2
      omega
  exact val10_inj_len (n + 1) d e hn (by rw [hm, hnm]) hd.2.1 he.2.1 h

theorem map_good_inj : ∀ {ds es : List Nm}, (∀ d ∈ ds, Good d) → (∀ d ∈ es, Good d) → ds.map val10 = es.map val10 → ds = es
  | [], [], _, _, _ => rfl
  | [], _ :: _, _, _, h => by simp at h
  | _ :: _, [], _, _, h => by simp at h
  | d :: ds, e :: es, h1, h2, h => by
    simp only [List.map_cons, List.cons.injEq] at h
    rw [good_inj (h1 d (by simp)) (h2 e (by simp)) h.1, map_good_inj (fun x hx => h1 x (by simp [hx])) (fun x hx => h2 x (by simp [hx])) h.2]

theorem ordsOf_nil : ordsOf [] = [] := by decide

/-- A valid name is given by its ordinals. -/
theorem ordsOf_inj {s t : Nm} (hs : validB s = true) (ht : validB t = true) (h : ordsOf s = ordsOf t) : s = t := by
  by_cases h1 : s = []
  · by_cases h2 : t = []
    · rw [h1, h2]
    · obtain ⟨es, e1, _, _, e4, _⟩ := valid_dots ht h2
      rw [h1, ordsOf_nil, e4] at h
      cases es with
      | nil => exact absurd rfl e1
      | cons _ _ => simp at h
  · obtain ⟨ds, d1, d2, d3, d4, _⟩ := valid_dots hs h1
    by_cases h2 : t = []
    · rw [h2, ordsOf_nil, d4] at h
      cases ds with
      | nil => exact absurd rfl d1
      | cons _ _ => simp at h
    · obtain ⟨es, e1, e2, e3, e4, _⟩ := valid_dots ht h2
      rw [d4, e4] at h
      rw [d3, e3, map_good_inj d2 e2 h]

theorem dots_len : ∀ (ds : List Nm), (∀ d ∈ ds, Good d) → (dots ds).length ≤ 7 * ds.length
  | [], _ => by simp [dots]
  | [d], h => by have := (h d (by simp)).2.2.2; simp [dots]; omega
  | d :: e :: r, h => by
    have h1 := (h d (by simp)).2.2.2
    have h2 := dots_len (e :: r) (fun x hx => h x (by simp [hx]))
    simp [dots] at h2 ⊢
    omega
theorem valid_len {s : Nm} (h : validB s = true) : s.length ≤ 63 := by
  by_cases hne : s = []
  · rw [hne]; simp
  · obtain ⟨ds, _, d2, d3, _, d5⟩ := valid_dots h hne
    have := dots_len ds d2
    rw [d3]
    omega

end Go.Proofs.YtnibcffcbnjllaaGreatDoor
