/- Canonical forms: they are their own canonical forms; what they take back. -/
import Derived.Test.YtnibcffcbnjllaaGreatDoorTake
namespace Go.Proofs.YtnibcffcbnjllaaGreatDoor
open Go.RowKit Go.Sort

theorem int_unique {a b : List Int} (h1 : a.Pairwise (· < ·)) (h2 : b.Pairwise (· < ·)) (h : ∀ x, x ∈ a ↔ x ∈ b) : a = b :=
  strict_unique (fun x h => Int.lt_irrefl x h) (fun _ _ _ h k => Int.lt_trans h k) h1 h2 h
theorem canI_of {l : List Int} (h1 : l.Pairwise (· < ·)) (h2 : ∀ x ∈ l, 1 ≤ x) : canI l = l := by
  obtain ⟨a, b⟩ := canI_spec l
  exact int_unique a h1 fun x => by rw [b]; exact ⟨fun h => h.1, fun h => ⟨h, h2 x h⟩⟩
theorem canI_idem (l : List Int) : canI (canI l) = canI l := canI_of (canI_spec l).1 fun x hx => (((canI_spec l).2 x).1 hx).2
/-- The names of a canonical form: in order, proper, apart, and none within a root. -/
theorem canL_facts (c : List Int) (l : List Nm) : (canL c l).Pairwise ltN ∧ (∀ x, x ∈ canL c l ↔ IsTop (l.filter okN) x ∧ rootOf x ∉ rootsN c) := by
  obtain ⟨a, b⟩ := topsN_spec (l := l.filter okN) (fun y hy => (okN_iff.1 (List.mem_filter.1 hy).2).2)
  unfold canL
  refine ⟨a.filter _, fun x => ?_⟩
  rw [List.mem_filter, b]
  simp
theorem canL_ok {c : List Int} {l : List Nm} {x : Nm} (h : x ∈ canL c l) : okN x = true ∧ x ∈ l := by
  have := (((canL_facts c l).2 x).1 h).1.1
  obtain ⟨h1, h2⟩ := List.mem_filter.1 this
  exact ⟨h2, h1⟩
/-- Names that are in order, proper, apart, and not within a root are their own canonical form. -/
theorem canL_of {c : List Int} {l : List Nm} (h1 : l.Pairwise ltN) (h2 : ∀ x ∈ l, okN x = true) (h3 : ∀ x ∈ l, ∀ y ∈ l, withinB x y = true → y = x) (h4 : ∀ x ∈ l, rootOf x ∉ rootsN c) : canL c l = l := by
  obtain ⟨a, b⟩ := canL_facts c l
  have e : l.filter okN = l := List.filter_eq_self.2 h2
  rw [e] at b
  refine strict_unique ltN_irrefl ltN_trans a h1 fun x => ?_
  rw [b]
  exact ⟨fun h => h.1.1, fun h => ⟨⟨h, fun y hy hw => h3 x h y hy hw⟩, h4 x h⟩⟩
theorem canL_idem (c : List Int) (l : List Nm) : canL c (canL c l) = canL c l := by
  obtain ⟨a, b⟩ := canL_facts c l
  refine canL_of a (fun x hx => (canL_ok hx).1) (fun x hx y hy hw => ?_) (fun x hx => ((b x).1 hx).2)
  exact ((b x).1 hx).1.2 y ((b y).1 hy).1.1 hw

theorem hasInB_can {c : List Int} (h : ∀ x ∈ c, 1 ≤ x) (x : Int) : hasInB c x = decide (x ∈ c) := by
  unfold hasInB
  rw [Bool.eq_iff_iff]
  simp only [Bool.and_eq_true, decide_eq_true_eq, List.contains_iff_mem]
  exact ⟨fun h => h.2, fun hx => ⟨h x hx, hx⟩⟩

theorem good_val {d : Nm} (h : Good d) : 1 ≤ val10 d ∧ val10 d ≤ 999999 ∧ Lib.itoa (val10 d : Int) = d := by
  have hl : d.length = (d.length - 1) + 1 := by
    have := List.length_pos_iff.2 h.1
    omega
  have h1 := val10_lead h (d.length - 1) hl
  have hpos : 1 ≤ val10 d := Nat.le_trans (Nat.one_le_pow _ _ (by omega)) h1
  have hup : val10 d < 10 ^ d.length := val10_lt _ h.2.1
  have h6 : 10 ^ d.length ≤ 10 ^ 6 := Nat.pow_le_pow_right (by omega) h.2.2.2
  have hle : val10 d ≤ 999999 := by omega
  refine ⟨hpos, hle, ?_⟩
  obtain ⟨g, v⟩ := itoa_good (n := (val10 d : Int)) (by omega) (by omega)
  refine good_inj g h ?_
  rw [v]
  simp

theorem rooted_last {c : List Int} (s : Nm) : hasInB c (lastOf (rootOf s) : Int) = rootedB c s := by
  by_cases hv : validB s = true
  · by_cases hne : s = []
    · subst hne
      have e1 : rootOf [] = [] := by decide
      have e2 : lastOf [] = 0 := by decide
      rw [e1, e2]
      have e3 : hasInB c ((0 : Nat) : Int) = false := by simp [hasInB]
      rw [e3]
      symm
      unfold rootedB
      rw [List.any_eq_false]
      intro n _ h
      rw [Bool.and_eq_true, decide_eq_true_eq] at h
      have hb : 1 ≤ n ∧ n ≤ 999999 := by
        have := h.1
        unfold rootErr at this
        split at this
        · assumption
        · cases this
      have e : rootNm n = Lib.itoa n := by unfold rootNm; rw [if_pos hb]
      obtain ⟨gi, vi⟩ := itoa_good hb.1 hb.2
      have hw := h.2
      rw [e, within_iff (by decide) (valid_good gi).1, (valid_good gi).2, ordsOf_nil] at hw
      simp at hw
    · have hok : okN s = true := okN_iff.2 ⟨hne, hv⟩
      rw [rooted_iff hok]
      obtain ⟨d, o, g, r, _, v⟩ := root_ords hok
      rw [r]
      have el : lastOf d = val10 d := by unfold lastOf; rw [(valid_good g).2]; rfl
      rw [el]
      obtain ⟨g1, g2, g3⟩ := good_val g
      unfold hasInB
      rw [Bool.eq_iff_iff]
      simp only [Bool.and_eq_true, decide_eq_true_eq, List.contains_iff_mem, rootsN_eq, List.mem_map, List.mem_filter]
      constructor
      · rintro ⟨_, h⟩
        refine ⟨_, ⟨h, ?_⟩, ?_⟩
        · unfold rootErr; rw [if_pos ⟨by omega, by omega⟩]
        · unfold rootNm; rw [if_pos ⟨by omega, by omega⟩]; exact g3
      · rintro ⟨n, ⟨hn, he⟩, e⟩
        have hb : 1 ≤ n ∧ n ≤ 999999 := by
          unfold rootErr at he
          split at he
          · assumption
          · cases he
        unfold rootNm at e
        rw [if_pos hb] at e
        obtain ⟨gi, vi⟩ := itoa_good hb.1 hb.2
        rw [e] at vi
        have : (val10 d : Int) = n := by omega
        rw [this]
        exact ⟨hb.1, hn⟩
  · have e1 : rootOf s = [] := by unfold rootOf; rw [if_neg hv]
    have e2 : lastOf [] = 0 := by decide
    rw [e1, e2]
    have e3 : hasInB c ((0 : Nat) : Int) = false := by simp [hasInB]
    rw [e3]
    symm
    unfold rootedB
    rw [List.any_eq_false]
    intro n _ h
    rw [Bool.and_eq_true] at h
    have hw := h.2
    unfold withinB at hw
    simp [hv] at hw

theorem covers_can {c : List Int} {l : List Nm} (hl : ∀ x ∈ l, okN x = true) (s : Nm) : scrCoversB c l s = (rootedB c s || l.any fun a => withinB s a) := by
  unfold scrCoversB
  rw [rooted_last]
  congr 1
  rw [Bool.eq_iff_iff, List.any_eq_true, List.any_eq_true]
  constructor
  · rintro ⟨x, hx, h⟩
    exact ⟨x, hx, by simp [scrCovB] at h; exact h.2⟩
  · rintro ⟨x, hx, h⟩
    exact ⟨x, hx, by simp [scrCovB, (okN_iff.1 (hl x hx)).1, h]⟩

end Go.Proofs.YtnibcffcbnjllaaGreatDoor
