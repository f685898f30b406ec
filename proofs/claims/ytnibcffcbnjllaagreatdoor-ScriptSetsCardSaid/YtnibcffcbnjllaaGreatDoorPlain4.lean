/- Plain laws of canonical forms: within, roots, tops; the law's numbers. -/
import Derived.Test.YtnibcffcbnjllaaGreatDoorCan4
namespace Go.Proofs.YtnibcffcbnjllaaGreatDoor

theorem good_no_dot {d : Nm} (h : Good d) : (46 : UInt8) ∉ d := by
  intro hm
  have := h.2.1 46 hm
  exact absurd this (by decide)

theorem index_dot : ∀ (d r : Nm), (46 : UInt8) ∉ d → Lib.index (d ++ 46 :: r) [46] = d.length
  | [], r, _ => by rw [List.nil_append, Lib.index, if_pos (by simp)]; rfl
  | c :: d, r, h => by
    have ih := index_dot d r (fun hm => h (by simp [hm]))
    have hc : c ≠ 46 := fun e => h (by simp [e])
    rw [List.cons_append, Lib.index, if_neg (by simp [List.isPrefixOf]; exact fun e => hc e.symm), ih, if_neg (by rw [beq_iff_eq]; omega)]
    simp
theorem index_no_dot : ∀ (d : Nm), (46 : UInt8) ∉ d → Lib.index d [46] = -1
  | [], _ => by decide
  | c :: d, h => by
    have ih := index_no_dot d (fun hm => h (by simp [hm]))
    have hc : c ≠ 46 := fun e => h (by simp [e])
    rw [Lib.index, if_neg (by simp [List.isPrefixOf]; exact fun e => hc e.symm), ih]
    rfl
theorem cut_dot (d r : Nm) (h : (46 : UInt8) ∉ d) : (Lib.cut (d ++ 46 :: r) [46]).1 = d := by
  unfold Lib.cut
  rw [index_dot d r h, if_pos (by omega)]
  simp
theorem cut_no_dot (d : Nm) (h : (46 : UInt8) ∉ d) : (Lib.cut d [46]).1 = d := by
  unfold Lib.cut
  rw [index_no_dot d h, if_neg (by decide)]

theorem dots_head {ds : List Nm} {d : Nm} (hg : ∀ d ∈ ds, Good d) (hh : ds.head? = some d) : (Lib.cut (dots ds) [46]).1 = d := by
  match ds, hh with
  | [e], hh =>
    simp at hh; subst hh
    exact cut_no_dot e (good_no_dot (hg e (by simp)))
  | e :: f :: r, hh =>
    simp at hh; subst hh
    exact cut_dot e _ (good_no_dot (hg e (by simp)))

/-- The first of the parts of a name. -/
theorem rootOf_dots {s : Nm} (h : validB s = true) {ds : List Nm} {d : Nm} (hs : s = dots ds) (hg : ∀ d ∈ ds, Good d) (hh : ds.head? = some d) : rootOf s = d := by
  unfold rootOf
  rw [if_pos h, hs]
  exact dots_head hg hh

theorem decDigits_good : ∀ (f u : Nat), u ≤ f → (∀ c ∈ Lib.decDigits u, isD c = true) ∧ val10 (Lib.decDigits u) = u ∧ Lib.decDigits u ≠ [] ∧ (1 ≤ u → (Lib.decDigits u).head? ≠ some 48)
  | f, u, hu => by
    have hdig : ∀ k, k < 10 → (UInt8.ofNat (48 + k)).toNat = 48 + k := by intro k hk; simp; omega
    by_cases h : u < 10
    · rw [Lib.decDigits, dif_pos h]
      refine ⟨?_, ?_, by simp, ?_⟩
      · intro c hc
        rw [List.mem_singleton] at hc
        rw [hc]; unfold isD; rw [hdig u h]; simp; omega
      · simp only [val10, List.foldl_cons, List.foldl_nil]
        rw [hdig u h]; omega
      · intro h1 e
        simp only [List.head?_cons, Option.some.injEq] at e
        have := congrArg UInt8.toNat e
        rw [hdig u h] at this
        simp at this
        omega
    · cases f with
      | zero => omega
      | succ f =>
        obtain ⟨h1, h2, h3, h4⟩ := decDigits_good f (u / 10) (by omega)
        rw [Lib.decDigits, dif_neg h]
        refine ⟨?_, ?_, by simp, ?_⟩
        · intro c hc
          rcases List.mem_append.1 hc with hc | hc
          · exact h1 c hc
          · rw [List.mem_singleton] at hc
            rw [hc]; unfold isD; rw [hdig (u % 10) (by omega)]; simp; omega
        · rw [val10_snoc, h2, hdig (u % 10) (by omega)]; omega
        · intro _
          rw [List.head?_append]
          cases hd : (Lib.decDigits (u / 10)).head? with
          | none => rw [List.head?_eq_none_iff] at hd; exact absurd hd h3
          | some x =>
            rw [hd] at h4
            simpa using h4 (by omega)

theorem nDigits_le : ∀ (k u : Nat), u < 10 ^ (k + 1) → Lib.nDigits u ≤ k + 1
  | 0, u, h => by rw [Lib.nDigits, dif_pos (by simpa using h)]; omega
  | k + 1, u, h => by
    by_cases h10 : u < 10
    · rw [Lib.nDigits, dif_pos h10]; omega
    · rw [Lib.nDigits, dif_neg h10]
      have := nDigits_le k (u / 10) (by rw [Nat.pow_succ] at h; omega)
      omega

theorem itoa_good {n : Int} (h1 : 1 ≤ n) (h2 : n ≤ 999999) : Good (Lib.itoa n) ∧ val10 (Lib.itoa n) = n.toNat := by
  have e : Lib.itoa n = Lib.decDigits n.toNat := by unfold Lib.itoa; rw [if_neg (by omega)]
  rw [e]
  obtain ⟨a, b, c, d⟩ := decDigits_good n.toNat n.toNat (Nat.le_refl _)
  refine ⟨⟨c, a, d (by omega), ?_⟩, b⟩
  rw [Lib.decDigits_length]
  exact nDigits_le 5 _ (by omega)

theorem run7_good {d : Nm} (h : Good d) : run7 d 0 = d.length :=
  run7_eq d 0 d.length (by have := h.2.2.2; omega) (by omega) (by intro c hc; simp at hc; exact h.2.1 c hc) (.inl (by omega))
theorem firstP_of_good {d : Nm} (h : Good d) : firstP d 0 0 = ((val10 d, 0, 0), d.length) := by
  have hr := run7_good h
  have hl : d.length ≠ 0 := fun e => h.1 (List.length_eq_zero_iff.1 e)
  have h0 : firstErr d 0 0 = 0 := by
    unfold firstErr
    rw [if_neg (by omega), if_neg (by omega), hr, if_neg hl, if_neg, if_neg (by have := h.2.2.2; omega)]
    intro e
    apply h.2.2.1
    rw [List.head?_eq_getElem?]
    exact e
  unfold firstP
  rw [if_pos h0, hr]
  simp
theorem valid_good {d : Nm} (h : Good d) : validB d = true ∧ ordsOf d = [val10 d] := by
  have hp : partsOf d = [(val10 d, 0, 0)] := by
    unfold partsOf
    rw [if_neg h.1]
    exact partsN_stop (c := 0) (by omega) (firstP_of_good h) (.inr rfl)
  have hv : validB d = true := by unfold validB; rw [hp]; rfl
  refine ⟨hv, ?_⟩
  unfold ordsOf
  rw [if_pos hv, hp]
  rfl

theorem split_dot : ∀ {d e r t : Nm}, (46 : UInt8) ∉ d → (46 : UInt8) ∉ e → d ++ 46 :: r = e ++ 46 :: t → d = e ∧ r = t
  | [], [], r, t, _, _, h => by simpa using h
  | [], c :: e, r, t, _, he, h => by
    simp at h; exact absurd h.1 (fun x => he (by simp [x]))
  | c :: d, [], r, t, hd, _, h => by
    simp at h; exact absurd h.1 (fun x => hd (by simp [x]))
  | c :: d, c' :: e, r, t, hd, he, h => by
    simp at h
    obtain ⟨h1, h2⟩ := split_dot (fun x => hd (by simp [x])) (fun x => he (by simp [x])) h.2
    exact ⟨by rw [h.1, h1], h2⟩

/-- A dotted name with a dot behind it, ahead of another one. -/
theorem dots_prefix : ∀ {es ds : List Nm}, es ≠ [] → (∀ d ∈ es, Good d) → (∀ d ∈ ds, Good d) → ∀ t, dots es ++ 46 :: t = dots ds → ∃ r, r ≠ [] ∧ ds = es ++ r
  | [], _, h, _, _, _, _ => absurd rfl h
  | [e], ds, _, he, hd, t, h => by
    match ds, hd, h with
    | [], _, h => simp [dots] at h
    | [d], hd, h =>
      exfalso
      rw [dots, dots] at h
      exact good_no_dot (hd d (by simp)) (by rw [← h]; simp)
    | d :: f :: r, hd, h =>
      rw [dots, dots] at h
      obtain ⟨h1, _⟩ := split_dot (good_no_dot (he e (by simp))) (good_no_dot (hd d (by simp))) h
      exact ⟨f :: r, by simp, by rw [h1]; rfl⟩
  | e :: e2 :: es, ds, _, he, hd, t, h => by
    match ds, hd, h with
    | [], _, h => simp [dots] at h
    | [d], hd, h =>
      exfalso
      rw [dots, dots] at h
      exact good_no_dot (hd d (by simp)) (by rw [← h]; simp)
    | d :: f :: r, hd, h =>
      rw [dots, dots, List.append_assoc, List.cons_append] at h
      obtain ⟨h1, h2⟩ := split_dot (good_no_dot (he e (by simp))) (good_no_dot (hd d (by simp))) h
      obtain ⟨r', hr, hr'⟩ := dots_prefix (es := e2 :: es) (ds := f :: r) (by simp) (fun x hx => he x (by simp [hx])) (fun x hx => hd x (by simp [hx])) t h2
      exact ⟨r', hr, by rw [h1, hr']; rfl⟩
theorem dots_append : ∀ {es r : List Nm}, es ≠ [] → r ≠ [] → dots (es ++ r) = dots es ++ 46 :: dots r
  | [], _, h, _ => absurd rfl h
  | [e], r, _, hr => by
    rw [List.singleton_append, dots_cons e hr]
    rfl
  | e :: e2 :: es, r, _, hr => by
    have := dots_append (es := e2 :: es) (r := r) (by simp) hr
    rw [List.cons_append, dots_cons e (by simp), this, dots]
    simp

/-- Within: the ordinals of the ancestor stand ahead. -/
theorem within_iff {x y : Nm} (hx : validB x = true) (hy : validB y = true) : withinB x y = true ↔ ordsOf y <+: ordsOf x := by
  unfold withinB
  rw [hx, hy]
  simp only [Bool.true_and, Bool.or_eq_true, decide_eq_true_eq]
  constructor
  · rintro ((h | h) | h)
    · rw [h]; exact List.prefix_rfl
    · rw [h, ordsOf_nil]; exact List.nil_prefix
    · unfold Lib.hasPrefix at h
      rw [List.isPrefixOf_iff_prefix] at h
      obtain ⟨t, ht⟩ := h
      by_cases hy0 : y = []
      · rw [hy0, ordsOf_nil]; exact List.nil_prefix
      · have hx0 : x ≠ [] := by intro e; rw [e] at ht; simp at ht
        obtain ⟨ds, d1, d2, d3, d4, _⟩ := valid_dots hx hx0
        obtain ⟨es, e1, e2, e3, e4, _⟩ := valid_dots hy hy0
        rw [d3, e3, List.append_assoc, List.singleton_append] at ht
        obtain ⟨r, _, hr⟩ := dots_prefix e1 e2 d2 t ht
        rw [d4, e4, hr, List.map_append]
        exact List.prefix_append _ _
  · intro h
    by_cases hy0 : y = []
    · exact .inl (.inr hy0)
    · by_cases hx0 : x = []
      · rw [hx0, ordsOf_nil, List.prefix_nil] at h
        exact absurd (ordsOf_inj hy (by decide) (by rw [h, ordsOf_nil])) hy0
      · obtain ⟨ds, d1, d2, d3, d4, _⟩ := valid_dots hx hx0
        obtain ⟨es, e1, e2, e3, e4, _⟩ := valid_dots hy hy0
        rw [d4, e4] at h
        obtain ⟨t, ht⟩ := h
        have hsplit : ∃ r, ds = es ++ r := by
          refine ⟨ds.drop es.length, ?_⟩
          have h1 : es = ds.take es.length := by
            refine map_good_inj e2 (fun d hd => d2 d (List.mem_of_mem_take hd)) ?_
            rw [List.map_take, ← ht, List.take_left' (by simp)]
          conv => lhs; rw [← List.take_append_drop es.length ds]
          rw [← h1]
        obtain ⟨r, rfl⟩ := hsplit
        by_cases hr : r = []
        · left; left; rw [d3, e3, hr, List.append_nil]
        · right
          unfold Lib.hasPrefix
          rw [List.isPrefixOf_iff_prefix, d3, e3, dots_append e1 hr]
          exact ⟨dots r, by simp⟩

theorem okN_iff {x : Nm} : okN x = true ↔ x ≠ [] ∧ validB x = true := by simp [okN]
theorem ords_ne {x : Nm} (h : validB x = true) (hne : x ≠ []) : ordsOf x ≠ [] := by
  intro e
  exact hne (ordsOf_inj h (by decide) (by rw [e, ordsOf_nil]))

/-- The root of a name, by its first ordinal. -/
theorem root_ords {x : Nm} (h : okN x = true) : ∃ d o, Good d ∧ rootOf x = d ∧ (ordsOf x).head? = some o ∧ val10 d = o := by
  obtain ⟨hne, hv⟩ := okN_iff.1 h
  obtain ⟨ds, d1, d2, d3, d4, _⟩ := valid_dots hv hne
  cases ds with
  | nil => exact absurd rfl d1
  | cons d r => exact ⟨d, val10 d, d2 d (by simp), rootOf_dots hv d3 d2 rfl, by rw [d4]; rfl, rfl⟩

theorem root_within {x y : Nm} (hx : okN x = true) (hy : okN y = true) (h : withinB x y = true) : rootOf x = rootOf y := by
  obtain ⟨d, o, g, r, hh, v⟩ := root_ords hx
  obtain ⟨d', o', g', r', hh', v'⟩ := root_ords hy
  rw [within_iff (okN_iff.1 hx).2 (okN_iff.1 hy).2] at h
  obtain ⟨t, ht⟩ := h
  rw [r, r']
  refine good_inj g g' ?_
  rw [v, v']
  rw [← ht, List.head?_append, hh'] at hh
  simpa using hh.symm

theorem rooted_iff {c : List Int} {x : Nm} (hx : okN x = true) : rootedB c x = decide (rootOf x ∈ rootsN c) := by
  have hxv := (okN_iff.1 hx).2
  rw [Bool.eq_iff_iff, decide_eq_true_eq, rootsN_eq]
  unfold rootedB
  rw [List.any_eq_true]
  obtain ⟨d, o, g, r, hh, v⟩ := root_ords hx
  constructor
  · rintro ⟨n, hn, h⟩
    rw [Bool.and_eq_true, decide_eq_true_eq] at h
    refine List.mem_map.2 ⟨n, List.mem_filter.2 ⟨hn, by simpa using h.1⟩, ?_⟩
    have hb : 1 ≤ n ∧ n ≤ 999999 := by
      have := h.1
      unfold rootErr at this
      split at this
      · assumption
      · cases this
    have e : rootNm n = Lib.itoa n := by unfold rootNm; rw [if_pos hb]
    obtain ⟨gi, vi⟩ := itoa_good hb.1 hb.2
    have hw := h.2
    rw [e] at hw ⊢
    rw [within_iff hxv (valid_good gi).1, (valid_good gi).2] at hw
    rw [r]
    refine good_inj gi g ?_
    obtain ⟨t, ht⟩ := hw
    rw [← ht] at hh
    simp at hh
    rw [v, hh]
  · intro h
    obtain ⟨n, hn, e⟩ := List.mem_map.1 h
    obtain ⟨hn1, hn2⟩ := List.mem_filter.1 hn
    refine ⟨n, hn1, ?_⟩
    rw [hn2, Bool.true_and]
    have hb : 1 ≤ n ∧ n ≤ 999999 := by
      have := hn2
      rw [decide_eq_true_eq] at this
      unfold rootErr at this
      split at this
      · assumption
      · cases this
    have e2 : rootNm n = Lib.itoa n := by unfold rootNm; rw [if_pos hb]
    obtain ⟨gi, vi⟩ := itoa_good hb.1 hb.2
    rw [e, r]
    rw [within_iff hxv (valid_good g).1, (valid_good g).2]
    cases ho : ordsOf x with
    | nil => rw [ho] at hh; simp at hh
    | cons a l =>
      rw [ho] at hh
      simp at hh
      rw [v, ← hh]
      exact ⟨l, rfl⟩

end Go.Proofs.YtnibcffcbnjllaaGreatDoor
