/- Plain laws of canonical forms: the tops of a list; the law's forms are the program's. -/
import Derived.Test.YtnibcffcbnjllaaGreatDoorPlain4
namespace Go.Proofs.YtnibcffcbnjllaaGreatDoor
open Go.Sort

theorem cmpL_prefix : ∀ {a b : List Nat}, a <+: b → a ≠ b → cmpL a b < 0
  | [], [], _, h => absurd rfl h
  | [], _ :: _, _, _ => by simp [cmpL]
  | x :: a, [], h, _ => by simp at h
  | x :: a, y :: b, h, hne => by
    rw [List.cons_prefix_cons] at h
    obtain ⟨rfl, h⟩ := h
    rw [cmpL, if_neg (by omega), if_neg (by omega)]
    exact cmpL_prefix h (fun e => hne (by rw [e]))
/-- What lies between a list and one that it stands ahead of. -/
theorem cmpL_between : ∀ {a b c : List Nat}, a <+: c → cmpL a b < 0 → cmpL b c < 0 → a <+: b
  | [], _, _, _, _, _ => List.nil_prefix
  | x :: a, [], _, _, h, _ => by simp [cmpL] at h
  | x :: a, y :: b, [], h, _, _ => by simp at h
  | x :: a, y :: b, z :: c, h, h1, h2 => by
    rw [List.cons_prefix_cons] at h
    obtain ⟨rfl, h⟩ := h
    rw [cmpL] at h1 h2
    by_cases hxy : x < y
    · rw [if_neg (by omega), if_pos hxy] at h2; omega
    · rw [if_neg hxy] at h1
      by_cases hyx : y < x
      · rw [if_pos hyx] at h1; omega
      · rw [if_neg hyx] at h1
        obtain rfl : x = y := by omega
        rw [if_neg (by omega), if_neg (by omega)] at h2
        rw [List.cons_prefix_cons]
        exact ⟨rfl, cmpL_between h h1 h2⟩

/-- A name of a list with no other one above it. -/
def IsTop (l : List Nm) (x : Nm) : Prop := x ∈ l ∧ ∀ y ∈ l, withinB x y = true → y = x

theorem within_lt {x y : Nm} (hx : validB x = true) (hy : validB y = true) (h : withinB x y = true) (hne : y ≠ x) : ltN y x := by
  rw [within_iff hx hy] at h
  exact cmpL_prefix h (fun e => hne (ordsOf_inj hy hx e))

/-- The tops of a sorted list, so far. -/
structure TopInv (p ts : List Nm) : Prop where
  sorted : ts.Pairwise ltN
  mem : ∀ x, x ∈ ts ↔ IsTop p x

theorem ltN_asymm {x y : Nm} (h : ltN x y) (k : ltN y x) : False := ltN_irrefl _ (ltN_trans _ _ _ h k)

theorem last_above {ts : List Nm} {t : Nm} (hs : ts.Pairwise ltN) (hl : ts.getLast? = some t) : t ∈ ts ∧ ∀ x ∈ ts, x = t ∨ ltN x t := by
  obtain ⟨p, rfl⟩ : ∃ p, ts = p ++ [t] := by
    rw [List.getLast?_eq_some_iff] at hl
    exact hl
  refine ⟨by simp, ?_⟩
  intro x hx
  rw [List.pairwise_append] at hs
  rcases List.mem_append.1 hx with h | h
  · exact .inr (hs.2.2 x h t (by simp))
  · exact .inl (by simpa using h)

theorem top_step {p ts : List Nm} {x : Nm} (hv : ∀ y ∈ p, validB y = true) (hx : validB x = true) (hlt : ∀ y ∈ p, ltN y x) (h : TopInv p ts) : TopInv (p ++ [x]) (topStep ts x) := by
  have hnew : ∀ z, z ∈ p → (IsTop (p ++ [x]) z ↔ IsTop p z) := by
    intro z hz
    constructor
    · intro hh; exact ⟨hz, fun y hy => hh.2 y (by simp [hy])⟩
    · intro hh
      refine ⟨by simp [hz], fun y hy hw => ?_⟩
      rcases List.mem_append.1 hy with hy | hy
      · exact hh.2 y hy hw
      · rw [List.mem_singleton] at hy
        subst hy
        have hne : y ≠ z := fun e => ltN_irrefl y (by have := hlt z hz; rwa [← e] at this)
        exact (ltN_asymm (hlt z hz) (within_lt (hv z hz) hx hw hne)).elim
  have hxp : x ∉ p := fun hm => ltN_irrefl _ (hlt x hm)
  have hgen : ∀ b : Bool, (b = true ↔ IsTop (p ++ [x]) x) → TopInv (p ++ [x]) (if b then ts ++ [x] else ts) := by
    intro b hb
    cases b with
    | true =>
      rw [if_pos rfl]
      refine ⟨?_, ?_⟩
      · rw [List.pairwise_append]
        refine ⟨h.sorted, by simp, ?_⟩
        intro a ha c hc
        rw [List.mem_singleton] at hc
        subst hc
        exact hlt a ((h.mem a).1 ha).1
      · intro z
        rw [List.mem_append, List.mem_singleton, h.mem]
        constructor
        · rintro (hz | rfl)
          · exact (hnew z hz.1).2 hz
          · exact hb.1 rfl
        · intro hz
          rcases List.mem_append.1 hz.1 with hp | hp
          · exact .inl ((hnew z hp).1 hz)
          · exact .inr (by simpa using hp)
    | false =>
      rw [if_neg (by simp)]
      refine ⟨h.sorted, fun z => ?_⟩
      rw [h.mem]
      constructor
      · intro hz; exact (hnew z hz.1).2 hz
      · intro hz
        rcases List.mem_append.1 hz.1 with hp | hp
        · exact (hnew z hp).1 hz
        · rw [List.mem_singleton] at hp
          subst hp
          exact absurd (hb.2 hz) (by simp)
  -- the highest name above x in p is a top
  have hup : ∀ (n : Nat) (y : Nm), (ordsOf y).length ≤ n → y ∈ p → withinB x y = true → ∃ t ∈ ts, withinB x t = true := by
    intro n
    induction n with
    | zero =>
      intro y hn hy hw
      refine ⟨y, (h.mem y).2 ⟨hy, fun z hz hw2 => ?_⟩, hw⟩
      rw [within_iff (hv y hy) (hv z hz)] at hw2
      have e1 : ordsOf y = [] := List.length_eq_zero_iff.1 (by omega)
      rw [e1, List.prefix_nil] at hw2
      exact ordsOf_inj (hv z hz) (hv y hy) (by rw [e1, hw2])
    | succ n ih =>
      intro y hn hy hw
      by_cases ht : ∀ z ∈ p, withinB y z = true → z = y
      · exact ⟨y, (h.mem y).2 ⟨hy, ht⟩, hw⟩
      · simp only [Classical.not_forall] at ht
        obtain ⟨z, hz, hwz, hne⟩ := ht
        have hpz := (within_iff (hv y hy) (hv z hz)).1 hwz
        have hpy := (within_iff hx (hv y hy)).1 hw
        have hlen : (ordsOf z).length ≤ n := by
          have h1 := hpz.length_le
          rcases Nat.lt_or_ge (ordsOf z).length (ordsOf y).length with h2 | h2
          · omega
          · exact absurd (ordsOf_inj (hv z hz) (hv y hy) (hpz.eq_of_length (by omega))) hne
        exact ih z hlen hz ((within_iff hx (hv z hz)).2 (hpz.trans hpy))
  unfold topStep
  cases hl : ts.getLast? with
  | none =>
    have hnil : ts = [] := List.getLast?_eq_none_iff.1 hl
    refine hgen true ⟨fun _ => ⟨by simp, fun y hy hw => ?_⟩, fun _ => rfl⟩
    rcases List.mem_append.1 hy with hp | hp
    · obtain ⟨t, ht, _⟩ := hup _ y (Nat.le_refl _) hp hw
      rw [hnil] at ht
      simp at ht
    · simpa using hp
  | some t =>
    obtain ⟨htm, hta⟩ := last_above h.sorted hl
    have htt := (h.mem t).1 htm
    simp only
    by_cases hw : withinB x t = true
    · rw [if_pos hw]
      refine hgen false (Iff.intro (fun hf => nomatch hf) fun hh => ?_)
      have := hh.2 t (by simp [htt.1]) hw
      exact absurd (this ▸ htt.1) hxp
    · rw [if_neg hw]
      refine hgen true ⟨fun _ => ⟨by simp, fun y hy hwy => ?_⟩, fun _ => rfl⟩
      rcases List.mem_append.1 hy with hp | hp
      · exfalso
        obtain ⟨u, hu, hwu⟩ := hup _ y (Nat.le_refl _) hp hwy
        have huu := (h.mem u).1 hu
        rcases hta u hu with e | hlt2
        · exact hw (e ▸ hwu)
        · have hpu := (within_iff hx (hv u huu.1)).1 hwu
          have hbt := cmpL_between hpu hlt2 (hlt t htt.1)
          have := htt.2 u huu.1 ((within_iff (hv t htt.1) (hv u huu.1)).2 hbt)
          exact ltN_irrefl _ (this ▸ hlt2)
      · simpa using hp

theorem top_fold : ∀ (l p ts : List Nm), (∀ y ∈ p ++ l, validB y = true) → (p ++ l).Pairwise ltN → TopInv p ts → TopInv (p ++ l) (l.foldl topStep ts)
  | [], p, ts, _, _, h => by simpa using h
  | x :: l, p, ts, hv, hs, h => by
    rw [List.foldl_cons]
    have e : p ++ x :: l = (p ++ [x]) ++ l := by simp
    rw [e] at hv hs ⊢
    refine top_fold l (p ++ [x]) _ hv hs (top_step (fun y hy => hv y (by simp [hy])) (hv x (by simp)) ?_ h)
    intro y hy
    rw [List.pairwise_append, List.pairwise_append] at hs
    exact hs.1.2.2 y hy x (by simp)

/-- The tops of a list of valid names. -/
theorem topsN_spec {l : List Nm} (hv : ∀ y ∈ l, validB y = true) : (topsN l).Pairwise ltN ∧ ∀ x, x ∈ topsN l ↔ IsTop l x := by
  obtain ⟨h1, h2⟩ := sortN_spec hv
  have := top_fold (sortN l) [] [] (by simpa using sortN_valid hv) (by simpa using h1) ⟨by simp, fun x => by simp [IsTop]⟩
  rw [List.nil_append] at this
  refine ⟨this.sorted, fun x => ?_⟩
  rw [show x ∈ topsN l ↔ IsTop (sortN l) x from this.mem x]
  unfold IsTop
  simp only [h2]

/-- Tops, and what depends on the root alone, in either order. -/
theorem topsN_filter (q : Nm → Bool) {l : List Nm} (hv : ∀ y ∈ l, validB y = true) (hq : ∀ x ∈ l, ∀ y ∈ l, withinB x y = true → q x = q y) : topsN (l.filter q) = (topsN l).filter q := by
  obtain ⟨a1, a2⟩ := topsN_spec (l := l.filter q) (fun y hy => hv y (List.mem_filter.1 hy).1)
  obtain ⟨b1, b2⟩ := topsN_spec hv
  refine strict_unique ltN_irrefl ltN_trans a1 (b1.filter q) fun x => ?_
  rw [a2, List.mem_filter, b2]
  unfold IsTop
  constructor
  · rintro ⟨h1, h2⟩
    obtain ⟨h3, h4⟩ := List.mem_filter.1 h1
    refine ⟨⟨h3, fun y hy hw => h2 y (List.mem_filter.2 ⟨hy, ?_⟩) hw⟩, h4⟩
    rw [← hq x h3 y hy hw]; exact h4
  · rintro ⟨⟨h1, h2⟩, h3⟩
    exact ⟨List.mem_filter.2 ⟨h1, h3⟩, fun y hy hw => h2 y (List.mem_filter.1 hy).1 hw⟩

/-- The law's names are the program's. -/
theorem canL_law (c : List Int) (l : List Nm) : topsN (l.filter fun x => okN x && !rootedB c x) = canL c l := by
  have e : l.filter (fun x => okN x && !rootedB c x) = (l.filter okN).filter fun x => !decide (rootOf x ∈ rootsN c) := by
    rw [List.filter_filter]
    apply List.filter_congr
    intro x _
    cases h : okN x with
    | false => simp
    | true => rw [rooted_iff h]; simp
  rw [e]
  unfold canL
  refine topsN_filter _ (fun y hy => (okN_iff.1 (List.mem_filter.1 hy).2).2) ?_
  intro x hx y hy hw
  have := root_within (List.mem_filter.1 hx).2 (List.mem_filter.1 hy).2 hw
  simp only [this]

/-- Numbers in strict order, by what is in them. -/
theorem intSwo : SWO (fun x y : Int => decide (x < y)) := by
  refine ⟨?_, ?_, ?_⟩
  · intro x; simp
  · intro x y z h k; simp at *; omega
  · intro x y z h k; simp at *; omega
theorem sortI_spec (l : List Int) : (sortI l).Pairwise (· < ·) ∧ ∀ x, x ∈ sortI l ↔ x ∈ l := by
  have h := sorted_compact intSwo (fun x y h k => by simp at h k; omega) l
  have e : (fun x y : Int => !decide (y < x)) = fun x y => decide (x ≤ y) := by
    funext x y
    rw [Bool.eq_iff_iff]
    simp
  rw [e] at h
  refine ⟨?_, h.2⟩
  have := h.1
  refine this.imp ?_
  intro a b hab
  simpa using hab
theorem canI_spec (l : List Int) : (canI l).Pairwise (· < ·) ∧ ∀ x, x ∈ canI l ↔ x ∈ l ∧ 1 ≤ x := by
  obtain ⟨h1, h2⟩ := sortI_spec (l.filter fun x => decide (1 ≤ x))
  refine ⟨h1, fun x => ?_⟩
  show x ∈ sortI _ ↔ _
  rw [h2, List.mem_filter]
  simp

theorem low_spec : ∀ (x : Int) (l : List Int), l.Pairwise (· < ·) → (∀ y ∈ l.take (lowI x l), y < x) ∧ ∀ y ∈ l.drop (lowI x l), x ≤ y
  | x, [], _ => by simp [lowI]
  | x, y :: l, h => by
    rw [List.pairwise_cons] at h
    by_cases hy : y < x
    · have e : lowI x (y :: l) = lowI x l + 1 := by unfold lowI; rw [List.takeWhile_cons_of_pos (by simpa using hy)]; rfl
      obtain ⟨h1, h2⟩ := low_spec x l h.2
      rw [e, List.take_succ_cons, List.drop_succ_cons]
      refine ⟨?_, h2⟩
      intro z hz
      rcases List.mem_cons.1 hz with rfl | hz
      · exact hy
      · exact h1 z hz
    · have e : lowI x (y :: l) = 0 := by unfold lowI; rw [List.takeWhile_cons_of_neg (by simpa using hy)]; rfl
      rw [e]
      refine ⟨by simp, ?_⟩
      intro z hz
      rw [List.drop_zero] at hz
      rcases List.mem_cons.1 hz with rfl | hz
      · omega
      · have := h.1 z hz; omega
theorem stepI_spec {l : List Int} (x : Int) (h : l.Pairwise (· < ·)) : (stepI l x).Pairwise (· < ·) ∧ ∀ z, z ∈ stepI l x ↔ z ∈ l ∨ z = x ∧ 1 ≤ x := by
  obtain ⟨h1, h2⟩ := low_spec x l h
  unfold stepI
  by_cases hc : x < 1 ∨ l[lowI x l]? = some x
  · rw [if_pos hc]
    refine ⟨h, fun z => ⟨.inl, fun hz => ?_⟩⟩
    rcases hz with hz | ⟨rfl, hz⟩
    · exact hz
    · rcases hc with hc | hc
      · omega
      · exact List.mem_of_getElem? hc
  · rw [if_neg hc]
    rw [not_or] at hc
    have h3 : ∀ y ∈ l.drop (lowI x l), x < y := by
      intro y hy
      have hle := h2 y hy
      rcases Int.lt_or_eq_of_le hle with hlt | heq
      · exact hlt
      · exfalso
        subst heq
        apply hc.2
        have hne : l.drop (lowI x l) ≠ [] := fun e => by rw [e] at hy; simp at hy
        have hlen : lowI x l < l.length := by
          rcases Nat.lt_or_ge (lowI x l) l.length with hh | hh
          · exact hh
          · exact absurd (List.drop_eq_nil_of_le hh) hne
        have hd := List.drop_eq_getElem_cons hlen
        rw [hd] at hy
        have hps : (l.drop (lowI x l)).Pairwise (· < ·) := h.sublist (List.drop_sublist _ _)
        rw [hd, List.pairwise_cons] at hps
        rw [List.getElem?_eq_getElem hlen]
        rcases List.mem_cons.1 hy with e | hm
        · rw [← e]
        · have ha := h2 l[lowI x l] (by have : l[lowI x l] ∈ l[lowI x l] :: l.drop (lowI x l + 1) := List.mem_cons_self; rw [← hd] at this; exact this)
          have hb := hps.1 x hm
          omega
    refine ⟨?_, fun z => ?_⟩
    · rw [List.pairwise_append, List.pairwise_append]
      refine ⟨⟨h.sublist (List.take_sublist _ _), by simp, ?_⟩, h.sublist (List.drop_sublist _ _), ?_⟩
      · intro a ha b hb
        rw [List.mem_singleton] at hb
        subst hb
        exact h1 a ha
      · intro a ha b hb
        rcases List.mem_append.1 ha with ha | ha
        · have := h1 a ha; have := h3 b hb; omega
        · rw [List.mem_singleton] at ha
          subst ha
          exact h3 b hb
    · rw [List.mem_append, List.mem_append, List.mem_singleton]
      have hm : z ∈ l ↔ z ∈ l.take (lowI x l) ∨ z ∈ l.drop (lowI x l) := by
        rw [← List.mem_append, List.take_append_drop]
      rw [hm]
      constructor
      · rintro ((a | a) | a)
        · exact .inl (.inl a)
        · exact .inr ⟨a, by omega⟩
        · exact .inl (.inr a)
      · rintro ((a | a) | a)
        · exact .inl (.inl a)
        · exact .inr a
        · exact .inl (.inr a.1)
theorem lawI_fold : ∀ (l ts : List Int), ts.Pairwise (· < ·) → (l.foldl stepI ts).Pairwise (· < ·) ∧ ∀ z, z ∈ l.foldl stepI ts ↔ z ∈ ts ∨ (z ∈ l ∧ 1 ≤ z)
  | [], ts, h => by simpa using h
  | x :: l, ts, h => by
    obtain ⟨h1, h2⟩ := stepI_spec x h
    obtain ⟨h3, h4⟩ := lawI_fold l (stepI ts x) h1
    rw [List.foldl_cons]
    refine ⟨h3, fun z => ?_⟩
    rw [h4, h2, List.mem_cons]
    constructor
    · rintro ((a | ⟨rfl, a⟩) | a)
      · exact .inl a
      · exact .inr ⟨.inl rfl, a⟩
      · exact .inr ⟨.inr a.1, a.2⟩
    · rintro (a | ⟨rfl | a, b⟩)
      · exact .inl (.inl a)
      · exact .inl (.inr ⟨rfl, b⟩)
      · exact .inr ⟨a, b⟩
/-- The law's numbers are the program's. -/
theorem canI_law (l : List Int) : l.foldl stepI [] = canI l := by
  obtain ⟨a1, a2⟩ := lawI_fold l [] List.Pairwise.nil
  obtain ⟨b1, b2⟩ := canI_spec l
  refine strict_unique (lt := fun x y : Int => x < y) (fun x h => by omega) (fun x y z h k => by omega) a1 b1 fun x => ?_
  rw [a2, b2]
  simp

end Go.Proofs.YtnibcffcbnjllaaGreatDoor
