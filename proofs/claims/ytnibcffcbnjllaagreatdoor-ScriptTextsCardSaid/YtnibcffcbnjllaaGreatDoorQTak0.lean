/- Canonical forms: they are their own canonical forms; what they take back. -/
import Derived.Test.YtnibcffcbnjllaaGreatDoorQTake
namespace Go.Proofs.YtnibcffcbnjllaaGreatDoor
open Go.RowKit Go.Sort

theorem int_unique {a b : List Int} (h1 : a.Pairwise (· < ·)) (h2 : b.Pairwise (· < ·)) (h : ∀ x, x ∈ a ↔ x ∈ b) : a = b :=
  strict_unique (fun x h => Int.lt_irrefl x h) (fun _ _ _ h k => Int.lt_trans h k) h1 h2 h
theorem canI_of {l : List Int} (h1 : l.Pairwise (· < ·)) (h2 : ∀ x ∈ l, 1 ≤ x) : canI l = l := by
  obtain ⟨a, b⟩ := canI_spec l
  exact int_unique a h1 fun x => by rw [b]; exact ⟨fun h => h.1, fun h => ⟨h, h2 x h⟩⟩
theorem canI_idem (l : List Int) : canI (canI l) = canI l := canI_of (canI_spec l).1 fun x hx => (((canI_spec l).2 x).1 hx).2
/-- The names of a canonical form: in order, proper, apart, and none within a root. -/
theorem canL_facts (c : List Int) (l : List Nm) : (canL c l).Pairwise ltN ∧ (∀ x, x ∈ canL c l ↔ IsTop (l.filter okN) x ∧ rootOf x ∉ rootsN c) := by
  obtain ⟨a, b⟩ := topsN_spec (l := l.filter okN) (fun y hy => (okN_iff.1 (List.mem_filter.1 hy).2).2)
  unfold canL
  refine ⟨a.filter _, fun x => ?_⟩
  rw [List.mem_filter, b]
  simp
theorem canL_ok {c : List Int} {l : List Nm} {x : Nm} (h : x ∈ canL c l) : okN x = true ∧ x ∈ l := by
  have := (((canL_facts c l).2 x).1 h).1.1
  obtain ⟨h1, h2⟩ := List.mem_filter.1 this
  exact ⟨h2, h1⟩
/-- Names that are in order, proper, apart, and not within a root are their own canonical form. -/
theorem canL_of {c : List Int} {l : List Nm} (h1 : l.Pairwise ltN) (h2 : ∀ x ∈ l, okN x = true) (h3 : ∀ x ∈ l, ∀ y ∈ l, withinB x y = true → y = x) (h4 : ∀ x ∈ l, rootOf x ∉ rootsN c) : canL c l = l := by
  obtain ⟨a, b⟩ := canL_facts c l
  have e : l.filter okN = l := List.filter_eq_self.2 h2
  rw [e] at b
  refine strict_unique ltN_irrefl ltN_trans a h1 fun x => ?_
  rw [b]
  exact ⟨fun h => h.1.1, fun h => ⟨⟨h, fun y hy hw => h3 x h y hy hw⟩, h4 x h⟩⟩
theorem canL_idem (c : List Int) (l : List Nm) : canL c (canL c l) = canL c l := by
  obtain ⟨a, b⟩ := canL_facts c l
  refine canL_of a (fun x hx => (canL_ok hx).1) (fun x hx y hy hw => ?_) (fun x hx => ((b x).1 hx).2)
  exact ((b x).1 hx).1.2 y ((b y).1 hy).1.1 hw

theorem hasInB_can {c : List Int} (h : ∀ x ∈ c, 1 ≤ x) (x : Int) : hasInB c x = decide (x ∈ c) := by
  unfold hasInB
  rw [Bool.eq_iff_iff]
  simp only [Bool.and_eq_true, decide_eq_true_eq, List.contains_iff_mem]
  exact ⟨fun h => h.2, fun hx => ⟨h x hx, hx⟩⟩

theorem good_val {d : Nm} (h : Good d) : 1 ≤ val10 d ∧ val10 d ≤ 999999 ∧ Lib.itoa (val10 d : Int) = d := by
  have hl : d.length = (d.length - 1) + 1 := by
    have := List.length_pos_iff.2 h.1
    omega
  have h1 := val10_lead h (d.length - 1) hl
  have hpos : 1 ≤ val10 d := Nat.le_trans (Nat.one_le_pow _ _ (by omega)) h1
  have hup : val10 d < 10 ^ d.length := val10_lt _ h.2.1
  have h6 : 10 ^ d.length ≤ 10 ^ 6 := Nat.pow_le_pow_right (by omega) h.2.2.2
  have hle : val10 d ≤ 999999 := by omega
  refine ⟨hpos, hle, ?_⟩
  obtain ⟨g, v⟩ := itoa_good (n := (val10 d : Int)) (by omega) (by omega)
  refine good_inj g h ?_
  rw [v]
  simp

theorem rooted_last {c : List Int} (s : Nm) : hasInB c (lastOf (rootOf s) : Int) = rootedB c s := by
  by_cases hv : validB s = true
  · by_cases hne : s = []
    · subst hne
      have e1 : rootOf [] = [] := by decide
      have e2 : lastOf [] = 0 := by decide
      rw [e1, e2]
      have e3 : hasInB c ((0 : Nat) : Int) = false := by simp [hasInB]
      rw [e3]
      symm
      unfold rootedB
      rw [List.any_eq_false]
      intro n _ h
      rw [Bool.and_eq_true, decide_eq_true_eq] at h
      have hb : 1 ≤ n ∧ n ≤ 999999 := by
        have := h.1
        unfold rootErr at this
        split at this
        · assumption
        · cases this
      have e : rootNm n = Lib.itoa n := by unfold rootNm; rw [if_pos hb]
      obtain ⟨gi, vi⟩ := itoa_good hb.1 hb.2
      have hw := h.2
      rw [e, within_iff (by decide) (valid_good gi).1, (valid_good gi).2, ordsOf_nil] at hw
      simp at hw
    · have hok : okN s = true := okN_iff.2 ⟨hne, hv⟩
      rw [rooted_iff hok]
      obtain ⟨d, o, g, r, _, v⟩ := root_ords hok
      rw [r]
      have el : lastOf d = val10 d := by unfold lastOf; rw [(valid_good g).2]; rfl
      rw [el]
      obtain ⟨g1, g2, g3⟩ := good_val g
      unfold hasInB
      rw [Bool.eq_iff_iff]
      simp only [Bool.and_eq_true, decide_eq_true_eq, List.contains_iff_mem, rootsN_eq, List.mem_map, List.mem_filter]
      constructor
      · rintro ⟨_, h⟩
        refine ⟨_, ⟨h, ?_⟩, ?_⟩
        · unfold rootErr; rw [if_pos ⟨by omega, by omega⟩]
        · unfold rootNm; rw [if_pos ⟨by omega, by omega⟩]; exact g3
      · rintro ⟨n, ⟨hn, he⟩, e⟩
        have hb : 1 ≤ n ∧ n ≤ 999999 := by
          unfold rootErr at he
          split at he
          · assumption
          · cases he
        unfold rootNm at e
        rw [if_pos hb] at e
        obtain ⟨gi, vi⟩ := itoa_good hb.1 hb.2
        rw [e] at vi
        have : (val10 d : Int) = n := by omega
        rw [this]
        exact ⟨hb.1, hn⟩
  · have e1 : rootOf s = [] := by unfold rootOf; rw [if_neg hv]
    have e2 : lastOf [] = 0 := by decide
    rw [e1, e2]
    have e3 : hasInB c ((0 : Nat) : Int) = false := by simp [hasInB]
    rw [e3]
    symm
    unfold rootedB
    rw [List.any_eq_false]
    intro n _ h
    rw [Bool.and_eq_true] at h
    have hw := h.2
    unfold withinB at hw
    simp [hv] at hw

theorem covers_can {c : List Int} {l : List Nm} (hl : ∀ x ∈ l, okN x = true) (s : Nm) : scrCoversB c l s = (rootedB c s || l.any fun a => withinB s a) := by
  unfold scrCoversB
  rw [rooted_last]
  congr 1
  rw [Bool.eq_iff_iff, List.any_eq_true, List.any_eq_true]
  constructor
  · rintro ⟨x, hx, h⟩
    exact ⟨x, hx, by simp [scrCovB] at h; exact h.2⟩
  · rintro ⟨x, hx, h⟩
    exact ⟨x, hx, by simp [scrCovB, (okN_iff.1 (hl x hx)).1, h]⟩

end Go.Proofs.YtnibcffcbnjllaaGreatDoor
/- Canonical forms of unions: they depend on what is taken back only. -/
namespace Go.Proofs.YtnibcffcbnjllaaGreatDoor
open Go.RowKit Go.Sort

theorem canI_ext {l m : List Int} (h : ∀ x, 1 ≤ x → (x ∈ l ↔ x ∈ m)) : canI l = canI m :=
  int_unique (canI_spec l).1 (canI_spec m).1 fun x => by
    rw [(canI_spec l).2, (canI_spec m).2]
    exact ⟨fun k => ⟨(h x k.2).1 k.1, k.2⟩, fun k => ⟨(h x k.2).2 k.1, k.2⟩⟩
theorem canL_mem {c : List Int} {l : List Nm} {x : Nm} : x ∈ canL c l ↔ x ∈ l ∧ okN x = true ∧ rootOf x ∉ rootsN c ∧ ∀ y ∈ l, okN y = true → withinB x y = true → y = x := by
  rw [(canL_facts c l).2]
  unfold IsTop
  rw [List.mem_filter]
  constructor
  · rintro ⟨⟨⟨h1, h2⟩, h3⟩, h4⟩
    exact ⟨h1, h2, h4, fun y hy ho hw => h3 y (List.mem_filter.2 ⟨hy, ho⟩) hw⟩
  · rintro ⟨h1, h2, h4, h3⟩
    exact ⟨⟨⟨h1, h2⟩, fun y hy hw => h3 y (List.mem_filter.1 hy).1 (List.mem_filter.1 hy).2 hw⟩, h4⟩
theorem within_refl {x : Nm} (h : okN x = true) : withinB x x = true :=
  (within_iff (okN_iff.1 h).2 (okN_iff.1 h).2).2 (List.prefix_refl _)
theorem within_trans {x y z : Nm} (hx : okN x = true) (hy : okN y = true) (hz : okN z = true) (h : withinB x y = true) (k : withinB y z = true) : withinB x z = true := by
  rw [within_iff (okN_iff.1 hx).2 (okN_iff.1 hy).2] at h
  rw [within_iff (okN_iff.1 hy).2 (okN_iff.1 hz).2] at k
  rw [within_iff (okN_iff.1 hx).2 (okN_iff.1 hz).2]
  exact k.trans h
theorem within_anti {x y : Nm} (hx : okN x = true) (hy : okN y = true) (h : withinB x y = true) (k : withinB y x = true) : y = x := by
  rw [within_iff (okN_iff.1 hx).2 (okN_iff.1 hy).2] at h
  rw [within_iff (okN_iff.1 hy).2 (okN_iff.1 hx).2] at k
  exact ordsOf_inj (okN_iff.1 hy).2 (okN_iff.1 hx).2 (h.eq_of_length_le k.length_le)
theorem within_shorter {x y : Nm} (hx : okN x = true) (hy : okN y = true) (h : withinB x y = true) (hne : y ≠ x) : (ordsOf y).length < (ordsOf x).length := by
  rw [within_iff (okN_iff.1 hx).2 (okN_iff.1 hy).2] at h
  refine Nat.lt_of_le_of_ne h.length_le fun e => hne ?_
  exact ordsOf_inj (okN_iff.1 hy).2 (okN_iff.1 hx).2 (h.eq_of_length e)
/-- Above each proper name of a list there is one that has none above it. -/
theorem top_above (l : List Nm) : ∀ (n : Nat) (x : Nm), (ordsOf x).length ≤ n → x ∈ l → okN x = true → ∃ y ∈ l, okN y = true ∧ withinB x y = true ∧ ∀ z ∈ l, okN z = true → withinB y z = true → z = y := by
  intro n
  induction n with
  | zero =>
    intro x hn _ ho
    exact absurd (List.length_eq_zero_iff.1 (Nat.le_zero.1 hn)) (ords_ne (okN_iff.1 ho).2 (okN_iff.1 ho).1)
  | succ n ih =>
    intro x hn hx ho
    by_cases ht : ∀ z ∈ l, okN z = true → withinB x z = true → z = x
    · exact ⟨x, hx, ho, within_refl ho, ht⟩
    · simp only [Classical.not_forall] at ht
      obtain ⟨z, hz, hoz, hw, hne⟩ := ht
      have := within_shorter ho hoz hw hne
      obtain ⟨y, hy, hoy, hwy, hty⟩ := ih z (by omega) hz hoz
      exact ⟨y, hy, hoy, within_trans ho hoz hoy hw hwy, hty⟩
theorem canL_ext {c : List Int} {u v : List Nm} (h1 : ∀ x ∈ u, okN x = true → x ∈ v) (h2 : ∀ x ∈ v, okN x = true → rootOf x ∉ rootsN c → ∃ y ∈ u, okN y = true ∧ withinB x y = true) : canL c u = canL c v := by
  refine strict_unique ltN_irrefl ltN_trans (canL_facts c u).1 (canL_facts c v).1 fun x => ?_
  rw [canL_mem, canL_mem]
  constructor
  · rintro ⟨a, b, d, e⟩
    refine ⟨h1 x a b, b, d, fun y hy hoy hw => ?_⟩
    obtain ⟨z, hz, hoz, hwz⟩ := h2 y hy hoy (by rw [← root_within b hoy hw]; exact d)
    have := e z hz hoz (within_trans b hoy hoz hw hwz)
    subst this
    exact within_anti b hoy hw hwz
  · rintro ⟨a, b, d, e⟩
    obtain ⟨y, hy, hoy, hw⟩ := h2 x a b d
    obtain rfl := e y (h1 y hy hoy) hoy hw
    exact ⟨hy, b, d, fun z hz hoz hwz => e z (h1 z hz hoz) hoz hwz⟩
theorem rootsN_sub {c d : List Int} (h : ∀ x ∈ c, x ∈ d) {r : Nm} (hr : r ∈ rootsN c) : r ∈ rootsN d := by
  rw [rootsN_eq, List.mem_map] at hr ⊢
  obtain ⟨x, hx, e⟩ := hr
  rw [List.mem_filter] at hx
  exact ⟨x, List.mem_filter.2 ⟨h x hx.1, hx.2⟩, e⟩
/-- A canonical form within a union may be the list itself. -/
theorem canL_absorb {c d : List Int} (h : ∀ x ∈ c, x ∈ d) (l m : List Nm) : canL d (l ++ canL c m) = canL d (l ++ m) := by
  refine canL_ext (fun x hx ho => ?_) (fun x hx ho hr => ?_)
  · rcases List.mem_append.1 hx with hx | hx
    · exact List.mem_append_left _ hx
    · exact List.mem_append_right _ (canL_mem.1 hx).1
  · rcases List.mem_append.1 hx with hx | hx
    · exact ⟨x, List.mem_append_left _ hx, ho, within_refl ho⟩
    · obtain ⟨y, hy, hoy, hw, ht⟩ := top_above m _ x (Nat.le_refl _) hx ho
      refine ⟨y, List.mem_append_right _ (canL_mem.2 ⟨hy, hoy, fun k => hr ?_, ht⟩), hoy, hw⟩
      rw [root_within ho hoy hw]
      exact rootsN_sub h k
theorem canL_same {c : List Int} {u v : List Nm} (h : ∀ x, x ∈ u ↔ x ∈ v) : canL c u = canL c v :=
  canL_ext (fun x hx _ => (h x).1 hx) (fun x hx ho _ => ⟨x, (h x).2 hx, ho, within_refl ho⟩)

/-- What is taken back: numbers and names; its canonical form. -/
abbrev Wo := List Int × List Nm
def can (w : Wo) : Wo := (canI w.1, canL (canI w.1) w.2)
def plus (a b : Wo) : Wo := can (a.1 ++ b.1, a.2 ++ b.2)
def minus (a b : Wo) : Wo := can ((can a).1.filter (fun x => !decide (x ∈ (can b).1)), (can a).2.filter (fun x => !decide (x ∈ (can b).2)))
theorem can_idem (w : Wo) : can (can w) = can w := by
  unfold can
  simp only [canI_idem, canL_idem]
theorem can_plus (a b : Wo) : can (plus a b) = plus a b := can_idem _
theorem can_minus (a b : Wo) : can (minus a b) = minus a b := can_idem _
theorem plus_comm (a b : Wo) : plus a b = plus b a := by
  have h1 : canI (a.1 ++ b.1) = canI (b.1 ++ a.1) := canI_ext fun x _ => by simp [or_comm]
  unfold plus can
  simp only [h1]
  rw [canL_same (u := a.2 ++ b.2) (v := b.2 ++ a.2) fun x => by simp [or_comm]]
theorem mem_canI {l : List Int} {x : Int} : x ∈ canI l ↔ x ∈ l ∧ 1 ≤ x := (canI_spec l).2 x
theorem plus_assoc (a b c : Wo) : plus a (plus b c) = plus (plus a b) c := by
  have e1 : canI (a.1 ++ canI (b.1 ++ c.1)) = canI (a.1 ++ (b.1 ++ c.1)) := canI_ext fun x hx => by simp [mem_canI, hx]
  have e2 : canI (canI (a.1 ++ b.1) ++ c.1) = canI (a.1 ++ (b.1 ++ c.1)) := canI_ext fun x hx => by simp [mem_canI, hx, or_assoc]
  unfold plus can
  simp only [e1, e2]
  rw [canL_absorb (fun x hx => by rw [mem_canI] at hx ⊢; exact ⟨by simp at hx ⊢; exact .inr hx.1, hx.2⟩)]
  rw [canL_same (u := canL (canI (a.1 ++ b.1)) (a.2 ++ b.2) ++ c.2) (v := c.2 ++ canL (canI (a.1 ++ b.1)) (a.2 ++ b.2)) fun x => by simp [or_comm]]
  rw [canL_absorb (fun x hx => by rw [mem_canI] at hx ⊢; exact ⟨by have := hx.1; simp at this ⊢; rcases this with h | h <;> simp [h], hx.2⟩)]
  exact congrArg (Prod.mk _) (canL_same fun x => by simp [or_comm, or_assoc])
theorem plus_self (a : Wo) : plus a a = can a := by
  have h1 : canI (a.1 ++ a.1) = canI a.1 := canI_ext fun x _ => by simp
  unfold plus can
  simp only [h1]
  rw [canL_same (u := a.2 ++ a.2) (v := a.2) fun x => by simp]
theorem can_nil : can (([], []) : Wo) = ([], []) := by
  have h1 : canI [] = [] := List.eq_nil_iff_forall_not_mem.2 fun x hx => by simpa using (mem_canI.1 hx).1
  have h2 : canL (canI []) [] = [] := List.eq_nil_iff_forall_not_mem.2 fun x hx => by simpa using (canL_mem.1 hx).1
  unfold can
  simp only [h1]
  rw [h1] at h2
  rw [h2]
theorem minus_self (a : Wo) : minus a a = ([], []) := by
  have e1 : (can a).1.filter (fun x => !decide (x ∈ (can a).1)) = [] := by rw [List.filter_eq_nil_iff]; intro x hx; simp [hx]
  have e2 : (can a).2.filter (fun x => !decide (x ∈ (can a).2)) = [] := by rw [List.filter_eq_nil_iff]; intro x hx; simp [hx]
  unfold minus
  rw [e1, e2]
  exact can_nil
theorem can_len (a : Wo) : (can a).1.length ≤ a.1.length ∧ (can a).2.length ≤ a.2.length := by
  constructor
  · have h1 := sortI_len (a.1.filter fun x => decide (1 ≤ x))
    have h2 := List.length_filter_le (fun x => decide (1 ≤ x)) a.1
    show (sortI (a.1.filter fun x => decide (1 ≤ x))).length ≤ a.1.length
    omega
  · have h1 := List.length_filter_le (fun x => !decide (rootOf x ∈ rootsN (canI a.1))) (topsN (a.2.filter okN))
    have h2 := topsN_len (a.2.filter okN)
    have h3 := List.length_filter_le okN a.2
    show ((topsN (a.2.filter okN)).filter fun x => !decide (rootOf x ∈ rootsN (canI a.1))).length ≤ a.2.length
    omega
theorem can_sub {a : Wo} {x : Nm} (h : x ∈ (can a).2) : x ∈ a.2 := (canL_ok h).2
theorem can_subI {a : Wo} {x : Int} (h : x ∈ (can a).1) : x ∈ a.1 := (mem_canI.1 h).1

end Go.Proofs.YtnibcffcbnjllaaGreatDoor
