/- Canonical forms of unions: they depend on what is taken back only. -/
import Derived.Deep.DrawnRows
import Derived.Deep.RegionHeld3
import Derived.Test.YtnibcffcbnjllaaGreatDoorTak0
import Derived.Test.YtnibcffcbnjllaaGreatDoorQConc
import Derived.Test.YtnibcffcbnjllaaGreatDoorCov2
import Derived.Test.YtnibcffcbnjllaaGreatDoorTak1
import Derived.Test.YtnibcffcbnjllaaGreatDoorEq
namespace Go.Proofs.YtnibcffcbnjllaaGreatDoor
open Go.RowKit Go.Sort

theorem canI_ext {l m : List Int} (h : ∀ x, 1 ≤ x → (x ∈ l ↔ x ∈ m)) : canI l = canI m :=
  int_unique (canI_spec l).1 (canI_spec m).1 fun x => by
    rw [(canI_spec l).2, (canI_spec m).2]
    exact ⟨fun k => ⟨(h x k.2).1 k.1, k.2⟩, fun k => ⟨(h x k.2).2 k.1, k.2⟩⟩
theorem canL_mem {c : List Int} {l : List Nm} {x : Nm} : x ∈ canL c l ↔ x ∈ l ∧ okN x = true ∧ rootOf x ∉ rootsN c ∧ ∀ y ∈ l, okN y = true → withinB x y = true → y = x := by
  rw [(canL_facts c l).2]
  unfold IsTop
  rw [List.mem_filter]
  constructor
  · rintro ⟨⟨⟨h1, h2⟩, h3⟩, h4⟩
    exact ⟨h1, h2, h4, fun y hy ho hw => h3 y (List.mem_filter.2 ⟨hy, ho⟩) hw⟩
  · rintro ⟨h1, h2, h4, h3⟩
    exact ⟨⟨⟨h1, h2⟩, fun y hy hw => h3 y (List.mem_filter.1 hy).1 (List.mem_filter.1 hy).2 hw⟩, h4⟩
theorem within_refl {x : Nm} (h : okN x = true) : withinB x x = true :=
  (within_iff (okN_iff.1 h).2 (okN_iff.1 h).2).2 (List.prefix_refl _)
theorem within_trans {x y z : Nm} (hx : okN x = true) (hy : okN y = true) (hz : okN z = true) (h : withinB x y = true) (k : withinB y z = true) : withinB x z = true := by
  rw [within_iff (okN_iff.1 hx).2 (okN_iff.1 hy).2] at h
  rw [within_iff (okN_iff.1 hy).2 (okN_iff.1 hz).2] at k
  rw [within_iff (okN_iff.1 hx).2 (okN_iff.1 hz).2]
  exact k.trans h
theorem within_anti {x y : Nm} (hx : okN x = true) (hy : okN y = true) (h : withinB x y = true) (k : withinB y x = true) : y = x := by
  rw [within_iff (okN_iff.1 hx).2 (okN_iff.1 hy).2] at h
  rw [within_iff (okN_iff.1 hy).2 (okN_iff.1 hx).2] at k
  exact ordsOf_inj (okN_iff.1 hy).2 (okN_iff.1 hx).2 (h.eq_of_length_le k.length_le)
theorem within_shorter {x y : Nm} (hx : okN x = true) (hy : okN y = true) (h : withinB x y = true) (hne : y ≠ x) : (ordsOf y).length < (ordsOf x).length := by
  rw [within_iff (okN_iff.1 hx).2 (okN_iff.1 hy).2] at h
  refine Nat.lt_of_le_of_ne h.length_le fun e => hne ?_
  exact ordsOf_inj (okN_iff.1 hy).2 (okN_iff.1 hx).2 (h.eq_of_length e)
/-- Above each proper name of a list there is one that has none above it. -/
theorem top_above (l : List Nm) : ∀ (n : Nat) (x : Nm), (ordsOf x).length ≤ n → x ∈ l → okN x = true → ∃ y ∈ l, okN y = true ∧ withinB x y = true ∧ ∀ z ∈ l, okN z = true → withinB y z = true → z = y := by
  intro n
  induction n with
  | zero =>
    intro x hn _ ho
    exact absurd (List.length_eq_zero_iff.1 (Nat.le_zero.1 hn)) (ords_ne (okN_iff.1 ho).2 (okN_iff.1 ho).1)
  | succ n ih =>
    intro x hn hx ho
    by_cases ht : ∀ z ∈ l, okN z = true → withinB x z = true → z = x
    · exact ⟨x, hx, ho, within_refl ho, ht⟩
    · simp only [Classical.not_forall] at ht
      obtain ⟨z, hz, hoz, hw, hne⟩ := ht
      have := within_shorter ho hoz hw hne
      obtain ⟨y, hy, hoy, hwy, hty⟩ := ih z (by omega) hz hoz
      exact ⟨y, hy, hoy, within_trans ho hoz hoy hw hwy, hty⟩
theorem canL_ext {c : List Int} {u v : List Nm} (h1 : ∀ x ∈ u, okN x = true → x ∈ v) (h2 : ∀ x ∈ v, okN x = true → rootOf x ∉ rootsN c → ∃ y ∈ u, okN y = true ∧ withinB x y = true) : canL c u = canL c v := by
  refine strict_unique ltN_irrefl ltN_trans (canL_facts c u).1 (canL_facts c v).1 fun x => ?_
  rw [canL_mem, canL_mem]
  constructor
  · rintro ⟨a, b, d, e⟩
    refine ⟨h1 x a b, b, d, fun y hy hoy hw => ?_⟩
    obtain ⟨z, hz, hoz, hwz⟩ := h2 y hy hoy (by rw [← root_within b hoy hw]; exact d)
    have := e z hz hoz (within_trans b hoy hoz hw hwz)
    subst this
    exact within_anti b hoy hw hwz
  · rintro ⟨a, b, d, e⟩
    obtain ⟨y, hy, hoy, hw⟩ := h2 x a b d
    obtain rfl := e y (h1 y hy hoy) hoy hw
    exact ⟨hy, b, d, fun z hz hoz hwz => e z (h1 z hz hoz) hoz hwz⟩
theorem rootsN_sub {c d : List Int} (h : ∀ x ∈ c, x ∈ d) {r : Nm} (hr : r ∈ rootsN c) : r ∈ rootsN d := by
  rw [rootsN_eq, List.mem_map] at hr ⊢
  obtain ⟨x, hx, e⟩ := hr
  rw [List.mem_filter] at hx
  exact ⟨x, List.mem_filter.2 ⟨h x hx.1, hx.2⟩, e⟩
/-- A canonical form within a union may be the list itself. -/
theorem canL_absorb {c d : List Int} (h : ∀ x ∈ c, x ∈ d) (l m : List Nm) : canL d (l ++ canL c m) = canL d (l ++ m) := by
  refine canL_ext (fun x hx ho => ?_) (fun x hx ho hr => ?_)
  · rcases List.mem_append.1 hx with hx | hx
    · exact List.mem_append_left _ hx
    · exact List.mem_append_right _ (canL_mem.1 hx).1
  · rcases List.mem_append.1 hx with hx | hx
    · exact ⟨x, List.mem_append_left _ hx, ho, within_refl ho⟩
    · obtain ⟨y, hy, hoy, hw, ht⟩ := top_above m _ x (Nat.le_refl _) hx ho
      refine ⟨y, List.mem_append_right _ (canL_mem.2 ⟨hy, hoy, fun k => hr ?_, ht⟩), hoy, hw⟩
      rw [root_within ho hoy hw]
      exact rootsN_sub h k
theorem canL_same {c : List Int} {u v : List Nm} (h : ∀ x, x ∈ u ↔ x ∈ v) : canL c u = canL c v :=
  canL_ext (fun x hx _ => (h x).1 hx) (fun x hx ho _ => ⟨x, (h x).2 hx, ho, within_refl ho⟩)

/-- What is taken back: numbers and names; its canonical form. -/
abbrev Wo := List Int × List Nm
def can (w : Wo) : Wo := (canI w.1, canL (canI w.1) w.2)
def plus (a b : Wo) : Wo := can (a.1 ++ b.1, a.2 ++ b.2)
def minus (a b : Wo) : Wo := can ((can a).1.filter (fun x => !decide (x ∈ (can b).1)), (can a).2.filter (fun x => !decide (x ∈ (can b).2)))
theorem can_idem (w : Wo) : can (can w) = can w := by
  unfold can
  simp only [canI_idem, canL_idem]
theorem can_plus (a b : Wo) : can (plus a b) = plus a b := can_idem _
theorem can_minus (a b : Wo) : can (minus a b) = minus a b := can_idem _
theorem plus_comm (a b : Wo) : plus a b = plus b a := by
  have h1 : canI (a.1 ++ b.1) = canI (b.1 ++ a.1) := canI_ext fun x _ => by simp [or_comm]
  unfold plus can
  simp only [h1]
  rw [canL_same (u := a.2 ++ b.2) (v := b.2 ++ a.2) fun x => by simp [or_comm]]
theorem mem_canI {l : List Int} {x : Int} : x ∈ canI l ↔ x ∈ l ∧ 1 ≤ x := (canI_spec l).2 x
theorem plus_assoc (a b c : Wo) : plus a (plus b c) = plus (plus a b) c := by
  have e1 : canI (a.1 ++ canI (b.1 ++ c.1)) = canI (a.1 ++ (b.1 ++ c.1)) := canI_ext fun x hx => by simp [mem_canI, hx]
  have e2 : canI (canI (a.1 ++ b.1) ++ c.1) = canI (a.1 ++ (b.1 ++ c.1)) := canI_ext fun x hx => by simp [mem_canI, hx, or_assoc]
  unfold plus can
  simp only [e1, e2]
  rw [canL_absorb (fun x hx => by rw [mem_canI] at hx ⊢; exact ⟨by simp at hx ⊢; exact .inr hx.1, hx.2⟩)]
  rw [canL_same (u := canL (canI (a.1 ++ b.1)) (a.2 ++ b.2) ++ c.2) (v := c.2 ++ canL (canI (a.1 ++ b.1)) (a.2 ++ b.2)) fun x => by simp [or_comm]]
  rw [canL_absorb (fun x hx => by rw [mem_canI] at hx ⊢; exact ⟨by have := hx.1; simp at this ⊢; rcases this with h | h <;> simp [h], hx.2⟩)]
  exact congrArg (Prod.mk _) (canL_same fun x => by simp [or_comm, or_assoc])
theorem plus_self (a : Wo) : plus a a = can a := by
  have h1 : canI (a.1 ++ a.1) = canI a.1 := canI_ext fun x _ => by simp
  unfold plus can
  simp only [h1]
  rw [canL_same (u := a.2 ++ a.2) (v := a.2) fun x => by simp]
theorem can_nil : can (([], []) : Wo) = ([], []) := by
  have h1 : canI [] = [] := List.eq_nil_iff_forall_not_mem.2 fun x hx => by simpa using (mem_canI.1 hx).1
  have h2 : canL (canI []) [] = [] := List.eq_nil_iff_forall_not_mem.2 fun x hx => by simpa using (canL_mem.1 hx).1
  unfold can
  simp only [h1]
  rw [h1] at h2
  rw [h2]
theorem minus_self (a : Wo) : minus a a = ([], []) := by
  have e1 : (can a).1.filter (fun x => !decide (x ∈ (can a).1)) = [] := by rw [List.filter_eq_nil_iff]; intro x hx; simp [hx]
  have e2 : (can a).2.filter (fun x => !decide (x ∈ (can a).2)) = [] := by rw [List.filter_eq_nil_iff]; intro x hx; simp [hx]
  unfold minus
  rw [e1, e2]
  exact can_nil
theorem can_len (a : Wo) : (can a).1.length ≤ a.1.length ∧ (can a).2.length ≤ a.2.length := by
  constructor
  · have h1 := sortI_len (a.1.filter fun x => decide (1 ≤ x))
    have h2 := List.length_filter_le (fun x => decide (1 ≤ x)) a.1
    show (sortI (a.1.filter fun x => decide (1 ≤ x))).length ≤ a.1.length
    omega
  · have h1 := List.length_filter_le (fun x => !decide (rootOf x ∈ rootsN (canI a.1))) (topsN (a.2.filter okN))
    have h2 := topsN_len (a.2.filter okN)
    have h3 := List.length_filter_le okN a.2
    show ((topsN (a.2.filter okN)).filter fun x => !decide (rootOf x ∈ rootsN (canI a.1))).length ≤ a.2.length
    omega
theorem can_sub {a : Wo} {x : Nm} (h : x ∈ (can a).2) : x ∈ a.2 := (canL_ok h).2
theorem can_subI {a : Wo} {x : Int} (h : x ∈ (can a).1) : x ∈ a.1 := (mem_canI.1 h).1

end Go.Proofs.YtnibcffcbnjllaaGreatDoor
/- (Without).Plus, Minus, Equal; isCanonical. -/
namespace Go.Proofs.YtnibcffcbnjllaaGreatDoor
open Go.RowKit Go.Sort
attribute [local go_sem ↓] Go.wp_at_zero Go.wp_at_succ

/-- Two slices of the call's own read as what is taken back. -/
def OwnW (W : World) (Z : Nat) (A A' : Option Addr) (c d : Nat) (a : Wo) : Prop :=
  W.ownsRow Z 3 1 (.slice A a.1.length c) a.1.length (a.1.map encI) ∧ W.ownsRow Z 53 1 (.slice A' a.2.length d) a.2.length (a.2.map encN)
/-- Two slices read as what is taken back. -/
def WoAt (W : World) (A A' : Option Addr) (a : Wo) : Prop := Row W W.heap.size 1 A a.1.length (a.1.map encI) ∧ Row W W.heap.size 1 A' a.2.length (a.2.map encN)
/-- Not too long. -/
structure Sm (a : Wo) : Prop where
  n1 : a.1.length ≤ 300
  n2 : a.2.length ≤ 300
  nm : ∀ x ∈ a.2, x.length ≤ 1000
  ii : ∀ x ∈ a.1, I64 x
/-- What a function returns that answers with something taken back. -/
def ResW (W : World) (a : Wo) (e : Ending) (w' : World) : Prop :=
  ∃ A c A' d, e = .returned (.agg #[.slice A a.1.length c, .slice A' a.2.length d]) ∧ OwnW w' W.heap.size A A' c d a ∧ Below W.heap.size W w'

def ResZ (Z : Nat) (W : World) (a : Wo) (e : Ending) (w' : World) : Prop :=
  ∃ A c A' d, e = .returned (.agg #[.slice A a.1.length c, .slice A' a.2.length d]) ∧ OwnW w' Z A A' c d a ∧ Below W.heap.size W w'

section
variable {W W' : World} {Z Z' : Nat} {A A' : Option Addr} {c d : Nat} {a : Wo}
theorem ResW.toZ {e : Ending} (h : ResW W a e W') (hz : Z ≤ W.heap.size) : ResZ Z W a e W' := by
  obtain ⟨A, c, A', d, h1, h2, h3⟩ := h
  exact ⟨A, c, A', d, h1, ⟨own_base h2.1 hz, own_base h2.2 hz⟩, h3⟩
theorem WoAt.later (h : WoAt W A A' a) (hb : Below W.heap.size W W') : WoAt W' A A' a := ⟨h.1.later hb, h.2.later hb⟩
theorem OwnW.at (h : OwnW W Z A A' c d a) : WoAt W A A' a := ⟨Row.of_own h.1, Row.of_own h.2⟩
theorem OwnW.later (h : OwnW W Z A A' c d a) (hb : Below W.heap.size W W') : OwnW W' Z A A' c d a := ⟨own_later h.1 hb, own_later h.2 hb⟩
theorem OwnW.base (h : OwnW W Z A A' c d a) (hz : Z' ≤ Z) : OwnW W Z' A A' c d a := ⟨own_base h.1 hz, own_base h.2 hz⟩
theorem OwnW.alloc (h : OwnW W Z A A' c d a) (o : Obj) : OwnW (W.alloc o) Z A A' c d a := ⟨h.1.alloc o, h.2.alloc o⟩
theorem OwnW.set {P o : Nat} {u v : Value} (h : OwnW W Z A A' c d a) (hb : Box2 W P 47 u v) (x : Value) : OwnW (W.setCell ⟨P, o, none⟩ x) Z A A' c d a :=
  ⟨own_set h.1 hb (by decide) x, own_set h.2 hb (by decide) x⟩
theorem OwnW.drew (h : OwnW W Z A A' c d a) : OwnW W.drew Z A A' c d a := h.later ((Below.refl _ W).drew)
theorem Box2.drew {B : Nat} {t : TypeId} {u v : Value} (h : Box2 W B t u v) : Box2 W.drew B t u v := h
theorem Sm.can (h : Sm a) : Sm (can a) :=
  ⟨Nat.le_trans (can_len a).1 h.n1, Nat.le_trans (can_len a).2 h.n2, fun x hx => h.nm x (can_sub hx), fun x hx => h.ii x (can_subI hx)⟩
theorem Sm.of_few {xs : List Int} {ns : List Nm} (h : fewB xs ns = true) (hx : ∀ x ∈ xs, I64 x) : Sm (xs, ns) := by
  obtain ⟨h1, h2, h3⟩ := fewB_true h
  exact ⟨Nat.le_trans h1 (by omega), Nat.le_trans h2 (by omega), fun x hx => Nat.le_trans (h3 x hx) (by omega), hx⟩
end
theorem below_dr {B : Nat} {w W : World} (h : Below B w W) : Below B w W.drew := h.drew

theorem canW_any {a : Wo} (A A' : Option Addr) (c d : Nat) (w : World) (hok : Ok w) (sm : Sm a) (h : WoAt w A A' a) :
    Calls Tryz.prog 41 #[.agg #[.slice A a.1.length c, .slice A' a.2.length d]] w (ResW w (can a)) :=
  (canonical_any A A' a.1.length c a.2.length d a.1 a.2 w hok (Nat.le_trans sm.n1 (by omega)) (Nat.le_trans sm.n2 (by omega)) sm.nm h.1 h.2).mono (by
    rintro e w' ⟨v1, v2, rfl, h1, h2, hb⟩
    obtain ⟨A1, c1, rfl, _⟩ := own_form h1
    obtain ⟨A2, c2, rfl, _⟩ := own_form h2
    exact ⟨A1, c1, A2, c2, rfl, ⟨h1, h2⟩, hb⟩)
theorem canL_any44 {a : Wo} (A A' : Option Addr) (c d : Nat) (w : World) (hok : Ok w) (sm : Sm a) (h : WoAt w A A' a) :
    Calls Tryz.prog 18 #[.agg #[.slice A a.1.length c, .slice A' a.2.length d]] w (ResW w (can a)) :=
  (canonical44_any A A' a.1.length c a.2.length d a.1 a.2 w hok (Nat.le_trans sm.n1 (by omega)) (Nat.le_trans sm.n2 (by omega)) sm.nm h.1 h.2 (can a).1 (by rw [canI_law]; rfl) (can a).2 (by rw [canL_law]; rfl)).mono (by
    rintro e w' ⟨v1, v2, rfl, h1, h2, hb⟩
    obtain ⟨A1, c1, rfl, _⟩ := own_form h1
    obtain ⟨A2, c2, rfl, _⟩ := own_form h2
    exact ⟨A1, c1, A2, c2, rfl, ⟨h1, h2⟩, hb⟩)


theorem S4c.set {P Q R o : Nat} {x0 x1 x2 x3 : Value} {W : World} (v : Value) (h : S4c P Q x0 x1 x2 x3 W) (h1 : P ≠ R) (h2 : Q ≠ R) : S4c P Q x0 x1 x2 x3 (W.setCell ⟨R, o, none⟩ v) := by
  unfold S4c
  simp only [cell_set_ne _ h1, cell_set_ne _ h2]
  exact h
/-- What slices.Concat hands back. -/
def ResI (W : World) (xs : List Int) (e : Ending) (w' : World) : Prop := ∃ A c, e = .returned (.slice A xs.length c) ∧ Row w' w'.heap.size 1 A xs.length (xs.map encI) ∧ Below W.heap.size W w'
def ResN (W : World) (xs : List Nm) (e : Ending) (w' : World) : Prop := ∃ A c, e = .returned (.slice A xs.length c) ∧ Row w' w'.heap.size 1 A xs.length (xs.map encN) ∧ Below W.heap.size W w'
theorem concI {A1 A2 : Option Addr} {c1 c2 X t : Nat} {xs ys : List Int} {w : World} (hB : Box2 w X t (.slice A1 xs.length c1) (.slice A2 ys.length c2)) (r1 : Row w w.heap.size 1 A1 xs.length (xs.map encI)) (r2 : Row w w.heap.size 1 A2 ys.length (ys.map encI)) (h1 : xs.length ≤ 300) (h2 : ys.length ≤ 300) :
    Calls Tryz.prog 51 #[.slice (some ⟨X, 0, none⟩) 2 2] w (ResI w (xs ++ ys)) :=
  (ConcatI_any X A1 A2 xs.length c1 ys.length c2 xs ys w hB.lt hB.c0 hB.c1 r1 r2 (by omega) (by omega)).mono (by
    rintro e w' ⟨v, rfl, ho, hb⟩
    rw [← List.length_append] at ho
    obtain ⟨A, c, rfl, hr⟩ := own_form ho
    exact ⟨A, c, rfl, hr, hb⟩)
theorem concN {A1 A2 : Option Addr} {c1 c2 X t : Nat} {xs ys : List Nm} {w : World} (hB : Box2 w X t (.slice A1 xs.length c1) (.slice A2 ys.length c2)) (r1 : Row w w.heap.size 1 A1 xs.length (xs.map encN)) (r2 : Row w w.heap.size 1 A2 ys.length (ys.map encN)) (h1 : xs.length ≤ 300) (h2 : ys.length ≤ 300) :
    Calls Tryz.prog 52 #[.slice (some ⟨X, 0, none⟩) 2 2] w (ResN w (xs ++ ys)) :=
  (ConcatN_any X A1 A2 xs.length c1 ys.length c2 xs ys w hB.lt hB.c0 hB.c1 r1 r2 (by omega) (by omega)).mono (by
    rintro e w' ⟨v, rfl, ho, hb⟩
    rw [← List.length_append] at ho
    obtain ⟨A, c, rfl, hr⟩ := own_form ho
    exact ⟨A, c, rfl, hr, hb⟩)
theorem wout_I {A1 A2 : Option Addr} {c1 c2 : Nat} {xs ys : List Int} {w : World} (r1 : Row w w.heap.size 1 A1 xs.length (xs.map encI)) (r2 : Row w w.heap.size 1 A2 ys.length (ys.map encI)) (h1 : xs.length ≤ 300) (h2 : ys.length ≤ 300) (hx : ∀ x ∈ xs, I64 x) (hy : ∀ x ∈ ys, I64 x) :
    Calls Tryz.prog 53 #[.slice A1 xs.length c1, .slice A2 ys.length c2] w (ResI w (xs.filter fun x => !decide (x ∈ ys))) :=
  (WoutI_any A1 A2 xs.length c1 ys.length c2 xs ys w (by omega) (by omega) hx hy r1 r2).mono (by
    rintro e w' ⟨v, rfl, ho, hb⟩
    obtain ⟨A, c, rfl, hr⟩ := own_form ho
    exact ⟨A, c, rfl, hr, hb⟩)
theorem wout_N {A1 A2 : Option Addr} {c1 c2 : Nat} {xs ys : List Nm} {w : World} (r1 : Row w w.heap.size 1 A1 xs.length (xs.map encN)) (r2 : Row w w.heap.size 1 A2 ys.length (ys.map encN)) (h1 : xs.length ≤ 300) (h2 : ys.length ≤ 300) (hx : ∀ x ∈ xs, x.length ≤ 1000) (hy : ∀ x ∈ ys, x.length ≤ 1000) :
    Calls Tryz.prog 54 #[.slice A1 xs.length c1, .slice A2 ys.length c2] w (ResN w (xs.filter fun x => !decide (x ∈ ys))) :=
  (WoutN_any A1 A2 xs.length c1 ys.length c2 xs ys w (by omega) (by omega) hx hy r1 r2).mono (by
    rintro e w' ⟨v, rfl, ho, hb⟩
    obtain ⟨A, c, rfl, hr⟩ := own_form ho
    exact ⟨A, c, rfl, hr, hb⟩)

theorem agg_eq {a b : Value} {xs : List Int} {ys : List Nm} {n m : Nat} {A A' : Option Addr} {c d : Nat} (h1 : a = .slice A n c) (h2 : b = .slice A' m d) (e1 : xs.length = n) (e2 : ys.length = m) : Value.agg #[a, b] = .agg #[.slice A xs.length c, .slice A' ys.length d] := by rw [h1, h2, e1, e2]


set_option maxRecDepth 100000 in
set_option maxHeartbeats 4000000 in
theorem Plus_any (a b : Wo) (A A' B B' : Option Addr) (c d c2 d2 : Nat) (w : World) (hok : Ok w) (sa : Sm a) (sb : Sm b) (ha : WoAt w A A' a) (hb : WoAt w B B' b) :
    Calls Tryz.prog 26 #[.agg #[.slice A a.1.length c, .slice A' a.2.length d], .agg #[.slice B b.1.length c2, .slice B' b.2.length d2]] w (ResW w (plus a b)) := by
  have hab : ∃ s, (a.1 ++ b.1, a.2 ++ b.2) = (s : Wo) := ⟨_, rfl⟩
  have b0 := ((Box2.new w 47 (.slice A a.1.length c) (.slice A' a.2.length d)).alloc (.cells #[.slice B b.1.length c2, .slice B' b.2.length d2] 47)).alloc (.cells #[.slice none 0 0, .slice none 0 0] 47)
  have b1 := (Box2.new (w.alloc (.cells #[.slice A a.1.length c, .slice A' a.2.length d] 47)) 47 (.slice B b.1.length c2) (.slice B' b.2.length d2)).alloc (.cells #[.slice none 0 0, .slice none 0 0] 47)
  have b2 := Box2.new ((w.alloc (.cells #[.slice A a.1.length c, .slice A' a.2.length d] 47)).alloc (.cells #[.slice B b.1.length c2, .slice B' b.2.length d2] 47)) 47 (.slice none 0 0) (.slice none 0 0)
  have hb0 : Below w.heap.size w (((w.alloc (.cells #[.slice A a.1.length c, .slice A' a.2.length d] 47)).alloc (.cells #[.slice B b.1.length c2, .slice B' b.2.length d2] 47)).alloc (.cells #[.slice none 0 0, .slice none 0 0] 47)) := (((Below.refl _ w).alloc (Nat.le_refl _) _).alloc (by simp) _).alloc (by simp; omega) _
  simp only [World.size_alloc] at b1 b2
  obtain ⟨W0, hW0⟩ : ∃ W0, ((w.alloc (.cells #[.slice A a.1.length c, .slice A' a.2.length d] 47)).alloc (.cells #[.slice B b.1.length c2, .slice B' b.2.length d2] 47)).alloc (.cells #[.slice none 0 0, .slice none 0 0] 47) = W0 := ⟨_, rfl⟩
  rw [hW0] at b0 b1 b2 hb0
  have HW := Lib.hid hW0
  obtain ⟨Z, hZ⟩ : ∃ Z, w.heap.size = Z := ⟨_, rfl⟩
  have hc1 : ∀ (W : World) (X t : Nat), Below W0.heap.size W0 W → Box2 W X t (.slice A a.1.length c) (.slice B b.1.length c2) → Calls Tryz.prog 51 #[.slice (some ⟨X, 0, none⟩) 2 2] W (ResI W (a.1 ++ b.1)) := fun W X t hB hX =>
    concI hX ((ha.1.later hb0).later hB) ((hb.1.later hb0).later hB) sa.n1 sb.n1
  have hc2 : ∀ (W : World) (X t : Nat), Below W0.heap.size W0 W → Box2 W X t (.slice A' a.2.length d) (.slice B' b.2.length d2) → Calls Tryz.prog 52 #[.slice (some ⟨X, 0, none⟩) 2 2] W (ResN W (a.2 ++ b.2)) := fun W X t hB hX =>
    concN hX ((ha.2.later hb0).later hB) ((hb.2.later hb0).later hB) sa.n2 sb.n2
  have hcan : ∀ (W : World) (A1 A2 : Option Addr) (c1 c2 : Nat), Below W0.heap.size W0 W → Row W W.heap.size 1 A1 (a.1 ++ b.1).length ((a.1 ++ b.1).map encI) → Row W W.heap.size 1 A2 (a.2 ++ b.2).length ((a.2 ++ b.2).map encN) →
      Calls Tryz.prog 41 #[.agg #[.slice A1 (a.1 ++ b.1).length c1, .slice A2 (a.2 ++ b.2).length c2]] W (ResZ w.heap.size W (plus a b)) := fun W A1 A2 c1 c2 hB h1 h2 =>
    (canonical_any A1 A2 (a.1 ++ b.1).length c1 (a.2 ++ b.2).length c2 (a.1 ++ b.1) (a.2 ++ b.2) W ((hok.later hb0).later hB) (by have := sa.n1; have := sb.n1; rw [List.length_append]; omega) (by have := sa.n2; have := sb.n2; rw [List.length_append]; omega) (fun x hx => by rcases List.mem_append.1 hx with h | h; exact sa.nm x h; exact sb.nm x h) h1 h2).mono (by
      rintro e w' ⟨v1, v2, rfl, h1, h2, hb⟩
      obtain ⟨A1, c1, rfl, _⟩ := own_form h1
      obtain ⟨A2, c2, rfl, _⟩ := own_form h2
      exact ResW.toZ ⟨A1, c1, A2, c2, rfl, ⟨h1, h2⟩, hb⟩ (Nat.le_trans hb0.size hB.size))
  generalize a.1 ++ b.1 = xs at hc1 hcan
  generalize a.2 ++ b.2 = ys at hc2 hcan
  generalize a.1.length = n at *
  generalize a.2.length = m at *
  generalize b.1.length = n2 at *
  generalize b.2.length = m2 at *
  generalize plus a b = s at *
  have HC1 := Lib.hid hc1
  have HC2 := Lib.hid hc2
  have HCAN := Lib.hid hcan
  have HZ := Lib.hid hZ
  have S0 := Lib.hid (S4c.of b0 b1 (Below.refl _ W0))
  have HS := Lib.hid (fun W (hb : Below W0.heap.size W0 W) => S4c.of b0 b1 hb)
  have HB2 := Lib.hid (fun W (hb : Below W0.heap.size W0 W) => b2.later hb)
  have HB0 := Lib.hid hb0
  rw [hZ] at S0 HS HB2 HB0
  clear hc1 hc2 hcan hW0 hZ hok sa sb ha hb hab b0 b1 b2 hb0
  go_enter Tryz.func26, Tryz.ntmps26
  go_wp2_with fail
  rw [HW.out, HZ.out]
  obtain ⟨ZB, hZB⟩ : ∃ ZB, Z + 1 = ZB := ⟨_, rfl⟩
  obtain ⟨ZR, hZR⟩ : ∃ ZR, ZB + 1 = ZR := ⟨_, rfl⟩
  rw [hZB] at HB2 HS S0 ⊢
  rw [hZR] at HB2 ⊢
  have ne1 : Z ≠ ZR := by omega
  have ne2 : ZB ≠ ZR := by omega
  have lz : Z ≤ ZR := by omega
  clear hZB hZR
  go_region_held3 (fun W => W.cell? ⟨Z, 0, none⟩ = some (.slice A n c) ∧ W.cell? ⟨Z, 1, none⟩ = some (.slice A' m d) ∧ W.cell? ⟨ZB, 0, none⟩ = some (.slice B n2 c2) ∧ W.cell? ⟨ZB, 1, none⟩ = some (.slice B' m2 d2)) (first | with_reducible exact S0.out | ((with_reducible refine HS.out _ ?_); (repeat (first | with_reducible assumption | with_reducible exact Below.refl _ _ | with_reducible refine below_dr ?_ | with_reducible refine below_al (Nat.le_refl _) _ ?_ | with_reducible refine below_later ?_ hbI | with_reducible refine below_later ?_ hbN | with_reducible refine below_later ?_ hbC)); done) | ((with_reducible refine S4c.set _ (S4c.set _ (HS.out _ ?_) ne1 ne2) ne1 ne2); (repeat (first | with_reducible assumption | with_reducible exact Below.refl _ _ | with_reducible refine below_dr ?_ | with_reducible refine below_al (Nat.le_refl _) _ ?_ | with_reducible refine below_later ?_ hbI | with_reducible refine below_later ?_ hbN | with_reducible refine below_later ?_ hbC)); done)) (first
    | (go_at_call 51; (with_reducible refine (HC1.out _ _ 36 ?_ ?_).mono ?_); (· (repeat (first | with_reducible assumption | with_reducible exact Below.refl _ _ | with_reducible refine below_dr ?_ | with_reducible refine below_al (Nat.le_refl _) _ ?_ | with_reducible refine below_later ?_ hbN | with_reducible refine below_later ?_ hbN | with_reducible refine below_later ?_ hbN))); (· (repeat (first | with_reducible assumption | with_reducible exact Box2.new _ _ _ _ | with_reducible exact box2_new' (by simp) | with_reducible refine Box2.drew ?_ | with_reducible refine Box2.alloc ?_ _ | with_reducible refine Box2.later ?_ hbN | with_reducible refine Box2.later ?_ hbN | with_reducible refine Box2.later ?_ hbN))); rintro e wI ⟨AI, cI, rfl, rI, hbI⟩)
    | (go_at_call 52; (with_reducible refine (HC2.out _ _ 38 ?_ ?_).mono ?_); (· (repeat (first | with_reducible assumption | with_reducible exact Below.refl _ _ | with_reducible refine below_dr ?_ | with_reducible refine below_al (Nat.le_refl _) _ ?_ | with_reducible refine below_later ?_ hbI | with_reducible refine below_later ?_ hbI | with_reducible refine below_later ?_ hbI))); (· (repeat (first | with_reducible assumption | with_reducible exact Box2.new _ _ _ _ | with_reducible exact box2_new' (by simp) | with_reducible refine Box2.drew ?_ | with_reducible refine Box2.alloc ?_ _ | with_reducible refine Box2.later ?_ hbI | with_reducible refine Box2.later ?_ hbI | with_reducible refine Box2.later ?_ hbI))); rintro e wN ⟨AN, cN, rfl, rN, hbN⟩)
    | (go_at_call 41; (with_reducible refine (HCAN.out _ _ _ _ _ ?_ (rI.later ?_) (rN.later ?_)).mono ?_); (· (repeat (first | with_reducible assumption | with_reducible exact Below.refl _ _ | with_reducible refine below_dr ?_ | with_reducible refine below_al (Nat.le_refl _) _ ?_ | with_reducible refine below_later ?_ hbI | with_reducible refine below_later ?_ hbN | with_reducible refine below_later ?_ hbN))); (· (repeat (first | with_reducible assumption | with_reducible exact Below.refl _ _ | with_reducible refine below_dr ?_ | with_reducible refine below_al (Nat.le_refl _) _ ?_ | with_reducible refine below_later ?_ hbI | with_reducible refine below_later ?_ hbN | with_reducible refine below_later ?_ hbN))); (· (repeat (first | with_reducible assumption | with_reducible exact Below.refl _ _ | with_reducible refine below_dr ?_ | with_reducible refine below_al (Nat.le_refl _) _ ?_ | with_reducible refine below_later ?_ hbI | with_reducible refine below_later ?_ hbN | with_reducible refine below_later ?_ hbN))); rintro e wC ⟨AC, cC, AD, cD, rfl, oC, hbC⟩; have bR := HB2.out wC (by (repeat (first | with_reducible assumption | with_reducible exact Below.refl _ _ | with_reducible refine below_dr ?_ | with_reducible refine below_al (Nat.le_refl _) _ ?_ | with_reducible refine below_later ?_ hbI | with_reducible refine below_later ?_ hbN | with_reducible refine below_later ?_ hbC))); have f0 := bR.f0; have f1 := bR.f1; have g0 := bR.c0; have g1 := bR.c1))
  all_goals
    have hF : Below W0.heap.size W0 wC := by (repeat (first | with_reducible assumption | with_reducible exact Below.refl _ _ | with_reducible refine below_dr ?_ | with_reducible refine below_al (Nat.le_refl _) _ ?_ | with_reducible refine below_later ?_ hbI | with_reducible refine below_later ?_ hbN | with_reducible refine below_later ?_ hbC))
    have hz0 : Z ≤ W0.heap.size := by have := HB0.out.size; have := HZ.out; omega
    have hzF : Z ≤ wC.heap.size := Nat.le_trans hz0 hF.size
    have r2 := (bR.set0 (.slice AC s.1.length cC)).set1 (.slice AD s.2.length cD)
    have t0 := r2.c0
    have t1 := r2.c1
    have oF := (oC.set (o := 0) bR (.slice AC s.1.length cC)).set (o := 1) (bR.set0 _) (.slice AD s.2.length cD)
    have hbF := below_set (o := 1) (.slice AD s.2.length cD) lz (below_set (o := 0) (.slice AC s.1.length cC) lz (HB0.out.trans (hF.mono hz0)))
    rw [← HZ.out] at hbF
    go_wp2_with fail
    exact bodyPost_ret (v := .agg #[.slice AC s.1.length cC, .slice AD s.2.length cD]) (by simp [results, Tryz.f26, go_sem, t0, t1]) rfl ⟨_, _, _, _, rfl, oF, hbF⟩

/-- Behind 'c, o := w.canonical(), o.canonical()'. -/
def CutC (w : World) (Z ZB : Nat) (a b : Wo) (s5 : Value) (W : World) : Prop :=
  ∃ P A1 c1 A2 c2 A3 c3 A4 c4, s5 = .pointer (some ⟨P, 0, none⟩) ∧ Box2 W P 47 (.slice A1 a.1.length c1) (.slice A2 a.2.length c2) ∧ Box2 W ZB 47 (.slice A3 b.1.length c3) (.slice A4 b.2.length c4) ∧
    OwnW W Z A1 A2 c1 c2 a ∧ OwnW W Z A3 A4 c3 c4 b ∧ Below Z w W
section
variable {w w2 : World} {Z ZB P : Nat} {a b : Wo} {A1 A2 A3 A4 : Option Addr} {c1 c2 c3 c4 : Nat} {u v u' v' : Value}
theorem cut_L1 (o1 : OwnW w2 Z A1 A2 c1 c2 a) (o2 : OwnW w2 Z A3 A4 c3 c4 b) (bB : Box2 w2 ZB 47 u v) (r : Below Z w w2) (hz : Z ≤ w.heap.size) (lz : Z ≤ ZB) :
    CutC w Z ZB a b (.pointer (some ⟨w2.heap.size, 0, none⟩)) (((w2.setCell ⟨ZB, 0, none⟩ (.slice A3 b.1.length c3)).setCell ⟨ZB, 1, none⟩ (.slice A4 b.2.length c4)).alloc (.cells #[.slice A1 a.1.length c1, .slice A2 a.2.length c2] 47)) := by
  refine ⟨_, _, _, _, _, _, _, _, _, rfl, box2_new' (by simp), ((bB.set0 _).set1 _).alloc _, ((o1.set bB _).set (bB.set0 _) _).alloc _, ((o2.set bB _).set (bB.set0 _) _).alloc _, below_al hz _ (below_set _ lz (below_set _ lz r))⟩
theorem cut_L2 (o1 : OwnW w2 Z A1 A2 c1 c2 a) (o2 : OwnW w2 Z A3 A4 c3 c4 b) (bB : Box2 w2 ZB 47 u v) (bP : Box2 w2 P 47 u' v') (r : Below Z w w2) (lz : Z ≤ ZB) (lp : Z ≤ P) (hne : P ≠ ZB) :
    CutC w Z ZB a b (.pointer (some ⟨P, 0, none⟩)) ((((w2.setCell ⟨P, 0, none⟩ (.slice A1 a.1.length c1)).setCell ⟨P, 1, none⟩ (.slice A2 a.2.length c2)).setCell ⟨ZB, 0, none⟩ (.slice A3 b.1.length c3)).setCell ⟨ZB, 1, none⟩ (.slice A4 b.2.length c4)) := by
  have p0 := bP.set0 (.slice A1 a.1.length c1)
  have p1 := p0.set1 (.slice A2 a.2.length c2)
  have q0 := bB.other hne.symm (o := 0) (.slice A1 a.1.length c1)
  have q1 := q0.other hne.symm (o := 1) (.slice A2 a.2.length c2)
  have q2 := q1.set0 (.slice A3 b.1.length c3)
  exact ⟨_, _, _, _, _, _, _, _, _, rfl, (p1.other hne _).other hne _, q2.set1 _, (((o1.set bP _).set p0 _).set q1 _).set q2 _, (((o2.set bP _).set p0 _).set q1 _).set q2 _, below_set _ lz (below_set _ lz (below_set _ lp (below_set _ lp r)))⟩
end

/-- Two cells of a box. -/
abbrev S2c (P : Nat) (x0 x1 : Value) (W : World) : Prop := W.cell? ⟨P, 0, none⟩ = some x0 ∧ W.cell? ⟨P, 1, none⟩ = some x1
theorem S2c.of {P t : Nat} {x0 x1 : Value} {W W' : World} (hp : Box2 W P t x0 x1) (hb : Below W.heap.size W W') : S2c P x0 x1 W' := ⟨(hp.later hb).c0, (hp.later hb).c1⟩
theorem S2c.alloc {P : Nat} {x0 x1 : Value} {W : World} (o : Obj) (h : S2c P x0 x1 W) : S2c P x0 x1 (W.alloc o) := ⟨Lib.cell?_alloc_some _ h.1, Lib.cell?_alloc_some _ h.2⟩
theorem S2c.set {P R o : Nat} {x0 x1 : Value} {W : World} (v : Value) (h : S2c P x0 x1 W) (h1 : P ≠ R) : S2c P x0 x1 (W.setCell ⟨R, o, none⟩ v) := by
  unfold S2c
  simp only [cell_set_ne _ h1]
  exact h

set_option maxRecDepth 100000 in
set_option maxHeartbeats 4000000 in
theorem EqualW_any (a b : Wo) (A A' B B' : Option Addr) (c d c2 d2 : Nat) (w : World) (hok : Ok w) (sa : Sm a) (sb : Sm b) (ha : WoAt w A A' a) (hb : WoAt w B B' b) :
    Calls Tryz.prog 29 #[.agg #[.slice A a.1.length c, .slice A' a.2.length d], .agg #[.slice B b.1.length c2, .slice B' b.2.length d2]] w fun e w' => e = .returned (.bool (decide (can a = can b))) ∧ Below w.heap.size w w' := by
  have b0 := (Box2.new w 47 (.slice A a.1.length c) (.slice A' a.2.length d)).alloc (.cells #[.slice B b.1.length c2, .slice B' b.2.length d2] 47)
  have b1 := Box2.new (w.alloc (.cells #[.slice A a.1.length c, .slice A' a.2.length d] 47)) 47 (.slice B b.1.length c2) (.slice B' b.2.length d2)
  have hb0 : Below w.heap.size w ((w.alloc (.cells #[.slice A a.1.length c, .slice A' a.2.length d] 47)).alloc (.cells #[.slice B b.1.length c2, .slice B' b.2.length d2] 47)) := ((Below.refl _ w).alloc (Nat.le_refl _) _).alloc (by simp) _
  simp only [World.size_alloc] at b1
  obtain ⟨W0, hW0⟩ : ∃ W0, (w.alloc (.cells #[.slice A a.1.length c, .slice A' a.2.length d] 47)).alloc (.cells #[.slice B b.1.length c2, .slice B' b.2.length d2] 47) = W0 := ⟨_, rfl⟩
  rw [hW0] at b0 b1 hb0
  have HW := Lib.hid hW0
  obtain ⟨Z, hZ⟩ : ∃ Z, w.heap.size = Z := ⟨_, rfl⟩
  have hca : ∀ (W : World), Below W0.heap.size W0 W → Calls Tryz.prog 41 #[.agg #[.slice A a.1.length c, .slice A' a.2.length d]] W (ResZ w.heap.size W (can a)) := fun W hB =>
    (canW_any A A' c d W ((hok.later hb0).later hB) sa ((ha.later hb0).later hB)).mono fun e w' h => h.toZ (Nat.le_trans hb0.size hB.size)
  have hcb : ∀ (W : World), Below W0.heap.size W0 W → Calls Tryz.prog 41 #[.agg #[.slice B b.1.length c2, .slice B' b.2.length d2]] W (ResZ w.heap.size W (can b)) := fun W hB =>
    (canW_any B B' c2 d2 W ((hok.later hb0).later hB) sb ((hb.later hb0).later hB)).mono fun e w' h => h.toZ (Nat.le_trans hb0.size hB.size)
  have sca := sa.can
  have scb := sb.can
  have hr : decide (can a = can b) = (decide ((can a).1 = (can b).1) && decide ((can a).2 = (can b).2)) := by
    rw [Bool.eq_iff_iff]; simp [Prod.ext_iff]
  rw [hr]
  have hE1 : ∀ (W : World) (A1 A3 : Option Addr) (c1 c3 : Nat), Row W W.heap.size 1 A1 (can a).1.length ((can a).1.map encI) → Row W W.heap.size 1 A3 (can b).1.length ((can b).1.map encI) → Calls Tryz.prog 55 #[.slice A1 (can a).1.length c1, .slice A3 (can b).1.length c3] W fun e w' => e = .returned (.bool (decide ((can a).1 = (can b).1))) ∧ Below W.heap.size W w' := fun W A1 A3 c1 c3 h1 h2 =>
    (EqI_any A1 A3 _ _ c1 c3 _ _ W (by have := sca.n1; omega) (by have := scb.n1; omega) h1 h2).mono (by
      rintro e w' ⟨rfl, q, rfl⟩
      exact ⟨rfl, below_drewN (Below.refl _ _) q⟩)
  have hE2 : ∀ (W : World) (A1 A3 : Option Addr) (c1 c3 : Nat), Row W W.heap.size 1 A1 (can a).2.length ((can a).2.map encN) → Row W W.heap.size 1 A3 (can b).2.length ((can b).2.map encN) → Calls Tryz.prog 56 #[.slice A1 (can a).2.length c1, .slice A3 (can b).2.length c3] W fun e w' => e = .returned (.bool (decide ((can a).2 = (can b).2))) ∧ Below W.heap.size W w' := fun W A1 A3 c1 c3 h1 h2 =>
    (EqN_any A1 A3 _ _ c1 c3 _ _ W (by have := sca.n2; omega) (by have := scb.n2; omega) h1 h2).mono (by
      rintro e w' ⟨rfl, q, rfl⟩
      exact ⟨rfl, below_drewN (Below.refl _ _) q⟩)
  generalize decide ((can a).1 = (can b).1) = q1 at hE1 ⊢
  generalize decide ((can a).2 = (can b).2) = q2 at hE2 ⊢
  clear hr sca scb
  generalize a.1.length = n at *
  generalize a.2.length = m at *
  generalize b.1.length = n2 at *
  generalize b.2.length = m2 at *
  generalize can a = ca at *
  generalize can b = cb at *
  have HCA := Lib.hid hca
  have HCB := Lib.hid hcb
  have HE1 := Lib.hid hE1
  have HE2 := Lib.hid hE2
  have HZ := Lib.hid hZ
  have x0 := b0.c0
  have x1 := b0.c1
  have y0 := b1.c0
  have y1 := b1.c1
  have HBB := Lib.hid (fun W (hb : Below W0.heap.size W0 W) => b1.later hb)
  have HB0 := Lib.hid hb0
  rw [hZ] at x0 x1 HBB HB0 HCA HCB b1 y0 y1 ⊢
  have hlt := b1.lt
  clear hca hcb hE1 hE2 hW0 hZ hok sa sb ha hb b0 b1 hb0
  go_enter Tryz.func29, Tryz.ntmps29
  go_wp2_with fail
  rw [HW.out, HZ.out]
  obtain ⟨ZB, hZB⟩ : ∃ ZB, Z + 1 = ZB := ⟨_, rfl⟩
  rw [hZB] at HBB hlt y0 y1 ⊢
  have lz : Z ≤ ZB := by omega
  have nz : Z ≠ ZB := by omega
  have hl0 : Z < W0.heap.size := by omega
  have hz : Z ≤ w.heap.size := Nat.le_of_eq HZ.out.symm
  have hz0 : Z ≤ W0.heap.size := by omega
  clear hZB
  go_cut [5] (fun s5 W => CutC w Z ZB ca cb s5 W)
  case first =>
    go_region_with (first
      | (go_at_call 41; (with_reducible refine (HCA.out _ ?_).mono ?_); (· (repeat (first | with_reducible assumption | with_reducible exact Below.refl _ _ | with_reducible refine below_dr ?_ | with_reducible refine below_al (Nat.le_refl _) _ ?_ | with_reducible refine below_later ?_ hb1 | with_reducible refine below_later ?_ hb1))); rintro e w1 ⟨A1, k1, A2, k2, rfl, o1, hb1⟩; have q1 : Below W0.heap.size W0 w1 := (by (repeat (first | with_reducible assumption | with_reducible exact Below.refl _ _ | with_reducible refine below_dr ?_ | with_reducible refine below_al (Nat.le_refl _) _ ?_ | with_reducible refine below_later ?_ hb1 | with_reducible refine below_later ?_ hb1))); have z1 := q1.size; have bB1 := HBB.out w1 q1; have g0 := bB1.c0; have g1 := bB1.c1; have bl1 := bB1.lt; (try (have bP := (Box2.new W0 47 (.slice none 0 0) (.slice none 0 0)).later (below_of_drew hb1); have pl := bP.lt)))
      | (go_at_call 41; (with_reducible refine (HCB.out _ ?_).mono ?_); (· (repeat (first | with_reducible assumption | with_reducible exact Below.refl _ _ | with_reducible refine below_dr ?_ | with_reducible refine below_al (Nat.le_refl _) _ ?_ | with_reducible refine below_later ?_ hb1 | with_reducible refine below_later ?_ hb1))); rintro e w2 ⟨A3, k3, A4, k4, rfl, o2, hb2⟩; have q2 : Below W0.heap.size W0 w2 := (by (repeat (first | with_reducible assumption | with_reducible exact Below.refl _ _ | with_reducible refine below_dr ?_ | with_reducible refine below_al (Nat.le_refl _) _ ?_ | with_reducible refine below_later ?_ hb1 | with_reducible refine below_later ?_ hb2))); have q12 : Below w1.heap.size w1 w2 := (by (repeat (first | with_reducible assumption | with_reducible exact Below.refl _ _ | with_reducible refine below_dr ?_ | with_reducible refine below_al (Nat.le_refl _) _ ?_ | with_reducible refine below_later ?_ hb2 | with_reducible refine below_later ?_ hb2))); have z2 := q12.size; have bB := HBB.out w2 q2; have bl := bB.lt; have n0 : ZB ≠ W0.heap.size := (by omega); have n1 : ZB ≠ w1.heap.size := (by omega); have n2' : ZB ≠ w2.heap.size := (by omega); have e0 := bB.f0; have e1 := bB.f1; have e2 := bB.c0; have e3 := bB.c1; (try (have bP2 := bP.later q12; have f0 := bP2.f0; have f1 := bP2.f1; have f2 := bP2.c0; have f3 := bP2.c1)); (try (have bP2 := (Box2.new w1 47 (.slice none 0 0) (.slice none 0 0)).later hb2; have f0 := bP2.f0; have f1 := bP2.f1; have f2 := bP2.c0; have f3 := bP2.c1))))
    all_goals
      go_wp2_with fail
      go_meet
      have rF := HB0.out.trans (q2.mono hz0)
      first
        | with_reducible exact cut_L1 (o1.later q12) o2 bB rF hz lz
        | with_reducible exact cut_L2 (o1.later q12) o2 bB bP2 rF lz (by omega) (by omega)
  case rest =>
    obtain ⟨P, A1, k1, A2, k2, A3, k3, A4, k4, rfl, bP, bB, o1, o2, hF⟩ := hcut
    have r1 := o1.at
    have r2 := o2.at
    have p0 := bP.c0
    have p1 := bB.c0
    clear x0 x1 y0 y1
    cases q1 with
    | false =>
      go_wp2_with fail
      refine (HE1.out _ _ _ _ _ r1.1 r2.1).mono ?_
      rintro e w5 ⟨rfl, hb5⟩
      go_wp2_with fail
      go_ret
      exact ⟨rfl, hF.trans (hb5.mono (by have := bB.lt; omega))⟩
    | true =>
      go_wp2_with fail
      refine (HE1.out _ _ _ _ _ r1.1 r2.1).mono ?_
      rintro e w5 ⟨rfl, hb5⟩
      have x0 := (bP.later hb5).c1
      have x1 := (bB.later hb5).c1
      go_wp2_with fail
      refine (HE2.out _ _ _ _ _ (r1.2.later hb5) (r2.2.later hb5)).mono ?_
      rintro e w6 ⟨rfl, hb6⟩
      go_wp2_with fail
      go_ret
      exact ⟨by simp, (hF.trans (hb5.mono (by have := bB.lt; omega))).trans (hb6.mono (by have := bB.lt; have := hb5.size; omega))⟩

end Go.Proofs.YtnibcffcbnjllaaGreatDoor
/- (Without).Minus; isCanonical. -/
namespace Go.Proofs.YtnibcffcbnjllaaGreatDoor
open Go.RowKit Go.Sort
attribute [local go_sem ↓] Go.wp_at_zero Go.wp_at_succ

set_option maxRecDepth 100000 in
set_option maxHeartbeats 4000000 in
theorem Minus_any (a b : Wo) (A A' B B' : Option Addr) (c d c2 d2 : Nat) (w : World) (hok : Ok w) (sa : Sm a) (sb : Sm b) (ha : WoAt w A A' a) (hb : WoAt w B B' b) :
    Calls Tryz.prog 27 #[.agg #[.slice A a.1.length c, .slice A' a.2.length d], .agg #[.slice B b.1.length c2, .slice B' b.2.length d2]] w (ResW w (minus a b)) := by
  have b0 := ((Box2.new w 47 (.slice A a.1.length c) (.slice A' a.2.length d)).alloc (.cells #[.slice B b.1.length c2, .slice B' b.2.length d2] 47)).alloc (.cells #[.slice none 0 0, .slice none 0 0] 47)
  have b1 := (Box2.new (w.alloc (.cells #[.slice A a.1.length c, .slice A' a.2.length d] 47)) 47 (.slice B b.1.length c2) (.slice B' b.2.length d2)).alloc (.cells #[.slice none 0 0, .slice none 0 0] 47)
  have b2 := Box2.new ((w.alloc (.cells #[.slice A a.1.length c, .slice A' a.2.length d] 47)).alloc (.cells #[.slice B b.1.length c2, .slice B' b.2.length d2] 47)) 47 (.slice none 0 0) (.slice none 0 0)
  have hb0 : Below w.heap.size w (((w.alloc (.cells #[.slice A a.1.length c, .slice A' a.2.length d] 47)).alloc (.cells #[.slice B b.1.length c2, .slice B' b.2.length d2] 47)).alloc (.cells #[.slice none 0 0, .slice none 0 0] 47)) := (((Below.refl _ w).alloc (Nat.le_refl _) _).alloc (by simp) _).alloc (by simp; omega) _
  simp only [World.size_alloc] at b1 b2
  obtain ⟨W0, hW0⟩ : ∃ W0, ((w.alloc (.cells #[.slice A a.1.length c, .slice A' a.2.length d] 47)).alloc (.cells #[.slice B b.1.length c2, .slice B' b.2.length d2] 47)).alloc (.cells #[.slice none 0 0, .slice none 0 0] 47) = W0 := ⟨_, rfl⟩
  rw [hW0] at b0 b1 b2 hb0
  have HW := Lib.hid hW0
  obtain ⟨Z, hZ⟩ : ∃ Z, w.heap.size = Z := ⟨_, rfl⟩
  have hca : ∀ (W : World), Below W0.heap.size W0 W → Calls Tryz.prog 41 #[.agg #[.slice A a.1.length c, .slice A' a.2.length d]] W (ResZ w.heap.size W (can a)) := fun W hB =>
    (canW_any A A' c d W ((hok.later hb0).later hB) sa ((ha.later hb0).later hB)).mono fun e w' h => h.toZ (Nat.le_trans hb0.size hB.size)
  have hcb : ∀ (W : World), Below W0.heap.size W0 W → Calls Tryz.prog 41 #[.agg #[.slice B b.1.length c2, .slice B' b.2.length d2]] W (ResZ w.heap.size W (can b)) := fun W hB =>
    (canW_any B B' c2 d2 W ((hok.later hb0).later hB) sb ((hb.later hb0).later hB)).mono fun e w' h => h.toZ (Nat.le_trans hb0.size hB.size)
  have sca := sa.can
  have scb := sb.can
  have hE1 : ∀ (W : World) (A1 A3 : Option Addr) (c1 c3 : Nat), Row W W.heap.size 1 A1 (can a).1.length ((can a).1.map encI) → Row W W.heap.size 1 A3 (can b).1.length ((can b).1.map encI) → Calls Tryz.prog 53 #[.slice A1 (can a).1.length c1, .slice A3 (can b).1.length c3] W (ResI W ((can a).1.filter fun x => !decide (x ∈ (can b).1))) := fun W A1 A3 c1 c3 h1 h2 =>
    wout_I h1 h2 sca.n1 scb.n1 sca.ii scb.ii
  have hE2 : ∀ (W : World) (A1 A3 : Option Addr) (c1 c3 : Nat), Row W W.heap.size 1 A1 (can a).2.length ((can a).2.map encN) → Row W W.heap.size 1 A3 (can b).2.length ((can b).2.map encN) → Calls Tryz.prog 54 #[.slice A1 (can a).2.length c1, .slice A3 (can b).2.length c3] W (ResN W ((can a).2.filter fun x => !decide (x ∈ (can b).2))) := fun W A1 A3 c1 c3 h1 h2 =>
    wout_N h1 h2 sca.n2 scb.n2 sca.nm scb.nm
  have hl1 := List.length_filter_le (fun x => !decide (x ∈ (can b).1)) (can a).1
  have hl2 := List.length_filter_le (fun x => !decide (x ∈ (can b).2)) (can a).2
  have hns : ∀ x ∈ (can a).2.filter (fun x => !decide (x ∈ (can b).2)), x.length ≤ 1000 := fun x hx => sca.nm x (List.mem_filter.1 hx).1
  have hcan : ∀ (W : World) (A1 A2 : Option Addr) (c1 c2 : Nat), Below w.heap.size w W → Row W W.heap.size 1 A1 ((can a).1.filter fun x => !decide (x ∈ (can b).1)).length (((can a).1.filter fun x => !decide (x ∈ (can b).1)).map encI) → Row W W.heap.size 1 A2 ((can a).2.filter fun x => !decide (x ∈ (can b).2)).length (((can a).2.filter fun x => !decide (x ∈ (can b).2)).map encN) →
      Calls Tryz.prog 41 #[.agg #[.slice A1 ((can a).1.filter fun x => !decide (x ∈ (can b).1)).length c1, .slice A2 ((can a).2.filter fun x => !decide (x ∈ (can b).2)).length c2]] W (ResZ w.heap.size W (minus a b)) := fun W A1 A2 c1 c2 hB h1 h2 =>
    (canonical_any A1 A2 _ c1 _ c2 _ _ W (hok.later hB) (by have := sca.n1; omega) (by have := sca.n2; omega) hns h1 h2).mono (by
      rintro e w' ⟨v1, v2, rfl, h1, h2, hb⟩
      obtain ⟨A1, c1, rfl, _⟩ := own_form h1
      obtain ⟨A2, c2, rfl, _⟩ := own_form h2
      exact ResW.toZ ⟨A1, c1, A2, c2, rfl, ⟨h1, h2⟩, hb⟩ hB.size)
  clear hl1 hl2 hns sca scb
  generalize ((can a).1.filter fun x => !decide (x ∈ (can b).1)) = xs at hE1 hcan
  generalize ((can a).2.filter fun x => !decide (x ∈ (can b).2)) = ys at hE2 hcan
  generalize a.1.length = n at *
  generalize a.2.length = m at *
  generalize b.1.length = n2 at *
  generalize b.2.length = m2 at *
  generalize minus a b = s at *
  generalize can a = ca at *
  generalize can b = cb at *
  have HCA := Lib.hid hca
  have HCB := Lib.hid hcb
  have HE1 := Lib.hid hE1
  have HE2 := Lib.hid hE2
  have HCAN := Lib.hid hcan
  have HZ := Lib.hid hZ
  have x0 := b0.c0
  have x1 := b0.c1
  have y0 := b1.c0
  have y1 := b1.c1
  have HBB := Lib.hid (fun W (hb : Below W0.heap.size W0 W) => b1.later hb)
  have HBR := Lib.hid (fun W (hb : Below W0.heap.size W0 W) => b2.later hb)
  have HB0 := Lib.hid hb0
  rw [hZ] at x0 x1 HBB HBR HB0 HCA HCB HCAN b2 y0 y1
  have hlt := b2.lt
  clear hca hcb hE1 hE2 hcan hW0 hZ hok sa sb ha hb b0 b1 b2 hb0
  go_enter Tryz.func27, Tryz.ntmps27
  go_wp2_with fail
  rw [HW.out, HZ.out]
  obtain ⟨ZB, hZB⟩ : ∃ ZB, Z + 1 = ZB := ⟨_, rfl⟩
  obtain ⟨ZR, hZR⟩ : ∃ ZR, ZB + 1 = ZR := ⟨_, rfl⟩
  rw [hZB] at HBB HBR hlt y0 y1 ⊢
  rw [hZR] at HBR hlt ⊢
  have lz : Z ≤ ZB := by omega
  have nz : Z ≠ ZB := by omega
  have hl0 : Z < W0.heap.size := by omega
  have hl1 : ZB < W0.heap.size := by omega
  have nr : ZR ≠ ZB := by omega
  have lr : Z ≤ ZR := by omega
  have hz : Z ≤ w.heap.size := Nat.le_of_eq HZ.out.symm
  have hz0 : Z ≤ W0.heap.size := by omega
  clear hZB hZR
  go_cut [5] (fun s5 W => CutC w Z ZB ca cb s5 W ∧ Box2 W ZR 47 (.slice none 0 0) (.slice none 0 0) ∧ ∀ P, s5 = .pointer (some ⟨P, 0, none⟩) → P ≠ ZR)
  case first =>
    go_region_with (first
      | (go_at_call 41; (with_reducible refine (HCA.out _ ?_).mono ?_); (· (repeat (first | with_reducible assumption | with_reducible exact Below.refl _ _ | with_reducible refine below_dr ?_ | with_reducible refine below_al (Nat.le_refl _) _ ?_ | with_reducible refine below_later ?_ hb1 | with_reducible refine below_later ?_ hb1))); rintro e w1 ⟨A1, k1, A2, k2, rfl, o1, hb1⟩; have q1 : Below W0.heap.size W0 w1 := (by (repeat (first | with_reducible assumption | with_reducible exact Below.refl _ _ | with_reducible refine below_dr ?_ | with_reducible refine below_al (Nat.le_refl _) _ ?_ | with_reducible refine below_later ?_ hb1 | with_reducible refine below_later ?_ hb1))); have z1 := q1.size; have bB1 := HBB.out w1 q1; have g0 := bB1.c0; have g1 := bB1.c1; have bl1 := bB1.lt; (try (have bP := (Box2.new W0 47 (.slice none 0 0) (.slice none 0 0)).later (below_of_drew hb1); have pl := bP.lt)))
      | (go_at_call 41; (with_reducible refine (HCB.out _ ?_).mono ?_); (· (repeat (first | with_reducible assumption | with_reducible exact Below.refl _ _ | with_reducible refine below_dr ?_ | with_reducible refine below_al (Nat.le_refl _) _ ?_ | with_reducible refine below_later ?_ hb1 | with_reducible refine below_later ?_ hb1))); rintro e w2 ⟨A3, k3, A4, k4, rfl, o2, hb2⟩; have q2 : Below W0.heap.size W0 w2 := (by (repeat (first | with_reducible assumption | with_reducible exact Below.refl _ _ | with_reducible refine below_dr ?_ | with_reducible refine below_al (Nat.le_refl _) _ ?_ | with_reducible refine below_later ?_ hb1 | with_reducible refine below_later ?_ hb2))); have q12 : Below w1.heap.size w1 w2 := (by (repeat (first | with_reducible assumption | with_reducible exact Below.refl _ _ | with_reducible refine below_dr ?_ | with_reducible refine below_al (Nat.le_refl _) _ ?_ | with_reducible refine below_later ?_ hb2 | with_reducible refine below_later ?_ hb2))); have z2 := q12.size; have bB := HBB.out w2 q2; have bl := bB.lt; have n0 : ZB ≠ W0.heap.size := (by omega); have n1 : ZB ≠ w1.heap.size := (by omega); have n2' : ZB ≠ w2.heap.size := (by omega); have e0 := bB.f0; have e1 := bB.f1; have e2 := bB.c0; have e3 := bB.c1; (try (have bP2 := bP.later q12; have f0 := bP2.f0; have f1 := bP2.f1; have f2 := bP2.c0; have f3 := bP2.c1)); (try (have bP2 := (Box2.new w1 47 (.slice none 0 0) (.slice none 0 0)).later hb2; have f0 := bP2.f0; have f1 := bP2.f1; have f2 := bP2.c0; have f3 := bP2.c1))))
    all_goals
      go_wp2_with fail
      go_meet
      have rF := HB0.out.trans (q2.mono hz0)
      have bR := HBR.out w2 q2
      have nr0 : ZR ≠ W0.heap.size := by omega
      have nr1 : ZR ≠ w1.heap.size := by omega
      refine ⟨?_, ?_, ?_⟩
      · first
          | with_reducible exact cut_L1 (o1.later q12) o2 bB rF hz lz
          | with_reducible exact cut_L2 (o1.later q12) o2 bB bP2 rF lz (by omega) (by omega)
      · first
          | with_reducible exact ((bR.other nr _).other nr _).alloc _
          | with_reducible exact (((bR.other nr0 _).other nr0 _).other nr _).other nr _
          | with_reducible exact (((bR.other nr1 _).other nr1 _).other nr _).other nr _
      · intro P h
        cases h
        omega
  case rest =>
    obtain ⟨⟨P, A1, k1, A2, k2, A3, k3, A4, k4, rfl, bP, bB, o1, o2, hF⟩, bR, hnP⟩ := hcut
    have r1 := o1.at
    have r2 := o2.at
    have S0 := Lib.hid (S4c.of bP bB (Below.refl _ wc))
    have HS := Lib.hid (fun W (hb : Below wc.heap.size wc W) => S4c.of bP bB hb)
    have HB2 := Lib.hid (fun W (hb : Below wc.heap.size wc W) => bR.later hb)
    have hne : P ≠ ZR := hnP P rfl
    have bl := bB.lt
    have rl := bR.lt
    have hzc : Z ≤ wc.heap.size := by omega
    have HA1 := Lib.hid r1.1
    have HA2 := Lib.hid r1.2
    have HB1 := Lib.hid r2.1
    have HB2' := Lib.hid r2.2
    have HF := Lib.hid hF
    clear x0 x1 y0 y1 hnP bP bB bR o1 o2 r1 r2 hF
    go_wp2_with fail
    go_region_held3 (fun W => W.cell? ⟨P, 0, none⟩ = some (.slice A1 ca.1.length k1) ∧ W.cell? ⟨P, 1, none⟩ = some (.slice A2 ca.2.length k2) ∧ W.cell? ⟨ZB, 0, none⟩ = some (.slice A3 cb.1.length k3) ∧ W.cell? ⟨ZB, 1, none⟩ = some (.slice A4 cb.2.length k4)) (first | with_reducible exact S0.out | ((with_reducible refine HS.out _ ?_); (repeat (first | with_reducible assumption | with_reducible exact Below.refl _ _ | with_reducible refine below_dr ?_ | with_reducible refine below_al (Nat.le_refl _) _ ?_ | with_reducible refine below_later ?_ hbI | with_reducible refine below_later ?_ hbN | with_reducible refine below_later ?_ hbC)); done) | ((with_reducible refine S4c.set _ (S4c.set _ (HS.out _ ?_) hne nr.symm) hne nr.symm); (repeat (first | with_reducible assumption | with_reducible exact Below.refl _ _ | with_reducible refine below_dr ?_ | with_reducible refine below_al (Nat.le_refl _) _ ?_ | with_reducible refine below_later ?_ hbI | with_reducible refine below_later ?_ hbN | with_reducible refine below_later ?_ hbC)); done)) (first
      | (go_at_call 53; (with_reducible refine (HE1.out _ _ _ _ _ (HA1.out.later ?_) (HB1.out.later ?_)).mono ?_); (· (repeat (first | with_reducible assumption | with_reducible exact Below.refl _ _ | with_reducible refine below_dr ?_ | with_reducible refine below_al (Nat.le_refl _) _ ?_ | with_reducible refine below_later ?_ hbN | with_reducible refine below_later ?_ hbN | with_reducible refine below_later ?_ hbN))); (· (repeat (first | with_reducible assumption | with_reducible exact Below.refl _ _ | with_reducible refine below_dr ?_ | with_reducible refine below_al (Nat.le_refl _) _ ?_ | with_reducible refine below_later ?_ hbN | with_reducible refine below_later ?_ hbN | with_reducible refine below_later ?_ hbN))); rintro e wI ⟨AI, cI, rfl, rI, hbI⟩)
      | (go_at_call 54; (with_reducible refine (HE2.out _ _ _ _ _ (HA2.out.later ?_) (HB2'.out.later ?_)).mono ?_); (· (repeat (first | with_reducible assumption | with_reducible exact Below.refl _ _ | with_reducible refine below_dr ?_ | with_reducible refine below_al (Nat.le_refl _) _ ?_ | with_reducible refine below_later ?_ hbI | with_reducible refine below_later ?_ hbI | with_reducible refine below_later ?_ hbI))); (· (repeat (first | with_reducible assumption | with_reducible exact Below.refl _ _ | with_reducible refine below_dr ?_ | with_reducible refine below_al (Nat.le_refl _) _ ?_ | with_reducible refine below_later ?_ hbI | with_reducible refine below_later ?_ hbI | with_reducible refine below_later ?_ hbI))); rintro e wN ⟨AN, cN, rfl, rN, hbN⟩)
      | (go_at_call 41; (with_reducible refine (HCAN.out _ _ _ _ _ (HF.out.trans (Below.mono ?_ hzc)) (rI.later ?_) (rN.later ?_)).mono ?_); (· (repeat (first | with_reducible assumption | with_reducible exact Below.refl _ _ | with_reducible refine below_dr ?_ | with_reducible refine below_al (Nat.le_refl _) _ ?_ | with_reducible refine below_later ?_ hbI | with_reducible refine below_later ?_ hbN | with_reducible refine below_later ?_ hbN))); (· (repeat (first | with_reducible assumption | with_reducible exact Below.refl _ _ | with_reducible refine below_dr ?_ | with_reducible refine below_al (Nat.le_refl _) _ ?_ | with_reducible refine below_later ?_ hbI | with_reducible refine below_later ?_ hbN | with_reducible refine below_later ?_ hbN))); (· (repeat (first | with_reducible assumption | with_reducible exact Below.refl _ _ | with_reducible refine below_dr ?_ | with_reducible refine below_al (Nat.le_refl _) _ ?_ | with_reducible refine below_later ?_ hbI | with_reducible refine below_later ?_ hbN | with_reducible refine below_later ?_ hbN))); rintro e wC ⟨AC, cC, AD, cD, rfl, oC, hbC⟩; have hFC : Below wc.heap.size wc wC := (by (repeat (first | with_reducible assumption | with_reducible exact Below.refl _ _ | with_reducible refine below_dr ?_ | with_reducible refine below_al (Nat.le_refl _) _ ?_ | with_reducible refine below_later ?_ hbI | with_reducible refine below_later ?_ hbN | with_reducible refine below_later ?_ hbC))); have bR := HB2.out wC hFC; have f0 := bR.f0; have f1 := bR.f1; have g0 := bR.c0; have g1 := bR.c1))
    all_goals
      have r2 := (bR.set0 (.slice AC s.1.length cC)).set1 (.slice AD s.2.length cD)
      have t0 := r2.c0
      have t1 := r2.c1
      have oF := (oC.set (o := 0) bR (.slice AC s.1.length cC)).set (o := 1) (bR.set0 _) (.slice AD s.2.length cD)
      have hbF := below_set (o := 1) (.slice AD s.2.length cD) lr (below_set (o := 0) (.slice AC s.1.length cC) lr (HF.out.trans (hFC.mono hzc)))
      rw [← HZ.out] at hbF oF
      go_wp2_with fail
      exact bodyPost_ret (v := .agg #[.slice AC s.1.length cC, .slice AD s.2.length cD]) (by simp [results, Tryz.f27, go_sem, t0, t1]) rfl ⟨_, _, _, _, rfl, oF, hbF⟩

set_option maxRecDepth 100000 in
set_option maxHeartbeats 4000000 in
theorem isCanonical_any (a : Wo) (A A' : Option Addr) (c d : Nat) (w : World) (hok : Ok w) (sa : Sm a) (ha : WoAt w A A' a) (hcan : can a = a) :
    Calls Tryz.prog 28 #[.agg #[.slice A a.1.length c, .slice A' a.2.length d]] w fun e w' => e = .returned (.bool true) ∧ Below w.heap.size w w' := by
  have b0 := Box2.new w 47 (.slice A a.1.length c) (.slice A' a.2.length d)
  have hb0 : Below w.heap.size w (w.alloc (.cells #[.slice A a.1.length c, .slice A' a.2.length d] 47)) := (Below.refl _ w).alloc (Nat.le_refl _) _
  obtain ⟨W0, hW0⟩ : ∃ W0, w.alloc (.cells #[.slice A a.1.length c, .slice A' a.2.length d] 47) = W0 := ⟨_, rfl⟩
  rw [hW0] at b0 hb0
  have HW := Lib.hid hW0
  have hC := canL_any44 A A' c d W0 (hok.later hb0) sa (ha.later hb0)
  rw [hcan] at hC
  have hS1 : ∀ (W : World) (A3 : Option Addr) (c3 : Nat), Below W0.heap.size W0 W → Row W W.heap.size 1 A3 a.1.length (a.1.map encI) → Calls Tryz.prog 13 #[.slice A a.1.length c, .slice A3 a.1.length c3] W fun e w' => e = .returned (.bool true) ∧ Below W.heap.size W w' := fun W A3 c3 hB h2 =>
    (sameNumbers_any A A3 _ _ c c3 a.1 a.1 W (by have := sa.n1; omega) (by have := sa.n1; omega) ((ha.later hb0).later hB).1 h2).mono (by
      rintro e w' ⟨rfl, q, rfl⟩
      exact ⟨by rw [decide_eq_true rfl], below_drewN (Below.refl _ _) q⟩)
  have hS2 : ∀ (W : World) (A3 : Option Addr) (c3 : Nat), Below W0.heap.size W0 W → Row W W.heap.size 1 A3 a.2.length (a.2.map encN) → Calls Tryz.prog 14 #[.slice A' a.2.length d, .slice A3 a.2.length c3] W fun e w' => e = .returned (.bool true) ∧ Below W.heap.size W w' := fun W A3 c3 hB h2 =>
    (sameNames_any A' A3 _ _ d c3 a.2 a.2 W (by have := sa.n2; omega) (by have := sa.n2; omega) ((ha.later hb0).later hB).2 h2).mono (by
      rintro e w' ⟨rfl, q, rfl⟩
      exact ⟨by rw [decide_eq_true rfl], below_drewN (Below.refl _ _) q⟩)
  have HC := Lib.hid hC
  have HS1 := Lib.hid hS1
  have HS2 := Lib.hid hS2
  have HB0 := Lib.hid hb0
  obtain ⟨Z, hZ⟩ : ∃ Z, w.heap.size = Z := ⟨_, rfl⟩
  rw [hZ] at b0 HB0 ⊢
  have HZ := Lib.hid hZ
  have x0 := b0.c0
  have x1 := b0.c1
  clear hC hS1 hS2 hb0 hZ hW0 hok sa ha hcan
  go_enter Tryz.func28, Tryz.ntmps28
  go_wp2_with fail
  rw [HW.out, HZ.out]
  refine HC.out.mono ?_
  rintro e w1 ⟨A1, k1, A2, k2, rfl, o1, hb1⟩
  have z1 := b0.later hb1
  have y0 := z1.c0
  have y1 := z1.c1
  have lz := z1.lt
  have q1 := below_al (Nat.le_refl _) (.cells #[.slice A1 a.1.length k1, .slice A2 a.2.length k2] 47) hb1
  have r1 := (o1.alloc (.cells #[.slice A1 a.1.length k1, .slice A2 a.2.length k2] 47)).at
  have n1 := Box2.new w1 47 (.slice A1 a.1.length k1) (.slice A2 a.2.length k2)
  have z2 := z1.alloc (.cells #[.slice A1 a.1.length k1, .slice A2 a.2.length k2] 47)
  have hz : Z ≤ W0.heap.size := by have := HB0.out.size; have := HZ.out; omega
  clear x0 x1
  go_wp2_with fail
  obtain ⟨W1, hW1⟩ : ∃ W1, w1.alloc (.cells #[.slice A1 a.1.length k1, .slice A2 a.2.length k2] 47) = W1 := ⟨_, rfl⟩
  rw [hW1] at q1 r1 n1 z2 ⊢
  refine (HS1.out _ _ _ q1 r1.1).mono ?_
  rintro e w2 ⟨rfl, hb2⟩
  have u1 := (n1.later hb2).c1
  have u2 := (z2.later hb2).c1
  have q2 := below_later q1 hb2
  clear hW1
  go_wp2_with fail
  refine (HS2.out _ _ _ q2 (r1.2.later hb2)).mono ?_
  rintro e w3 ⟨rfl, hb3⟩
  have q3 := below_later q2 hb3
  go_wp2_with fail
  go_ret
  exact ⟨rfl, HB0.out.trans (q3.mono hz)⟩

end Go.Proofs.YtnibcffcbnjllaaGreatDoor
/- ScriptSets: plain facts on memory. -/
namespace Go.Proofs.YtnibcffcbnjllaaGreatDoor
open Go.RowKit Go.Sort

/-- Two boxes that were made, with what they hold. -/
def GotW (wr : World) (a b : Wo) (s1 s2 : Value) (W : World) : Prop :=
  ∃ P Q A1 c1 A2 c2 A3 c3 A4 c4, s1 = .pointer (some ⟨P, 0, none⟩) ∧ s2 = .pointer (some ⟨Q, 0, none⟩) ∧ Box2 W P 47 (.slice A1 a.1.length c1) (.slice A2 a.2.length c2) ∧ Box2 W Q 47 (.slice A3 b.1.length c3) (.slice A4 b.2.length c4) ∧
    WoAt W A1 A2 a ∧ WoAt W A3 A4 b ∧ Below wr.heap.size wr W
section
variable {wr W7 : World} {a b : Wo} {A1 A2 A3 A4 : Option Addr} {c1 c2 c3 c4 : Nat}
structure LeftW (wr W7 : World) (a b : Wo) (A1 A2 A3 A4 : Option Addr) (c1 c2 c3 c4 : Nat) : Prop where
  o1 : OwnW W7 wr.heap.size A1 A2 c1 c2 a
  o2 : OwnW W7 wr.heap.size A3 A4 c3 c4 b
  r : Below wr.heap.size wr W7
theorem LeftW.alloc (h : LeftW wr W7 a b A1 A2 A3 A4 c1 c2 c3 c4) (o : Obj) : LeftW wr (W7.alloc o) a b A1 A2 A3 A4 c1 c2 c3 c4 := ⟨h.o1.alloc o, h.o2.alloc o, below_al (Nat.le_refl _) o h.r⟩
theorem LeftW.set {P o : Nat} {u v : Value} (h : LeftW wr W7 a b A1 A2 A3 A4 c1 c2 c3 c4) (hb : Box2 W7 P 47 u v) (hP : wr.heap.size ≤ P) (x : Value) : LeftW wr (W7.setCell ⟨P, o, none⟩ x) a b A1 A2 A3 A4 c1 c2 c3 c4 :=
  ⟨h.o1.set hb x, h.o2.set hb x, below_set x hP h.r⟩
theorem LeftW.got {P Q : Nat} (h : LeftW wr W7 a b A1 A2 A3 A4 c1 c2 c3 c4) (hP : Box2 W7 P 47 (.slice A1 a.1.length c1) (.slice A2 a.2.length c2)) (hQ : Box2 W7 Q 47 (.slice A3 b.1.length c3) (.slice A4 b.2.length c4)) :
    GotW wr a b (.pointer (some ⟨P, 0, none⟩)) (.pointer (some ⟨Q, 0, none⟩)) W7 :=
  ⟨P, Q, A1, c1, A2, c2, A3, c3, A4, c4, rfl, rfl, hP, hQ, h.o1.at, h.o2.at, h.r⟩
theorem gotW_I (h : LeftW wr W7 a b A1 A2 A3 A4 c1 c2 c3 c4) : GotW wr a b (.pointer (some ⟨W7.heap.size, 0, none⟩)) (.pointer (some ⟨W7.heap.size + 1, 0, none⟩)) ((W7.alloc (.cells #[.slice A1 a.1.length c1, .slice A2 a.2.length c2] 47)).alloc (.cells #[.slice A3 b.1.length c3, .slice A4 b.2.length c4] 47)) :=
  ((h.alloc _).alloc _).got ((Box2.new W7 _ _ _).alloc _) (box2_new' (by simp))
theorem gotW_J (h : LeftW wr W7 a b A1 A2 A3 A4 c1 c2 c3 c4) : GotW wr a b (.pointer (some ⟨W7.heap.size + 1, 0, none⟩)) (.pointer (some ⟨W7.heap.size, 0, none⟩)) ((W7.alloc (.cells #[.slice A3 b.1.length c3, .slice A4 b.2.length c4] 47)).alloc (.cells #[.slice A1 a.1.length c1, .slice A2 a.2.length c2] 47)) :=
  ((h.alloc _).alloc _).got (box2_new' (by simp)) ((Box2.new W7 _ _ _).alloc _)
theorem gotW_K {P : Nat} {u v : Value} (h : LeftW wr W7 a b A1 A2 A3 A4 c1 c2 c3 c4) (hb : Box2 W7 P 47 u v) (hP : wr.heap.size ≤ P) :
    GotW wr a b (.pointer (some ⟨P, 0, none⟩)) (.pointer (some ⟨W7.heap.size, 0, none⟩)) (((W7.setCell ⟨P, 0, none⟩ (.slice A1 a.1.length c1)).setCell ⟨P, 1, none⟩ (.slice A2 a.2.length c2)).alloc (.cells #[.slice A3 b.1.length c3, .slice A4 b.2.length c4] 47)) :=
  (((h.set hb hP _).set (hb.set0 _) hP _).alloc _).got (((hb.set0 _).set1 _).alloc _) (box2_new' (by simp))
theorem gotW_L {P : Nat} {u v : Value} (h : LeftW wr W7 a b A1 A2 A3 A4 c1 c2 c3 c4) (hb : Box2 W7 P 47 u v) (hP : wr.heap.size ≤ P) :
    GotW wr a b (.pointer (some ⟨W7.heap.size, 0, none⟩)) (.pointer (some ⟨P, 0, none⟩)) (((W7.setCell ⟨P, 0, none⟩ (.slice A3 b.1.length c3)).setCell ⟨P, 1, none⟩ (.slice A4 b.2.length c4)).alloc (.cells #[.slice A1 a.1.length c1, .slice A2 a.2.length c2] 47)) :=
  (((h.set hb hP _).set (hb.set0 _) hP _).alloc _).got (box2_new' (by simp)) (((hb.set0 _).set1 _).alloc _)
theorem gotW_M {P Q : Nat} {u v u' v' : Value} (h : LeftW wr W7 a b A1 A2 A3 A4 c1 c2 c3 c4) (hb : Box2 W7 P 47 u v) (hb' : Box2 W7 Q 47 u' v') (hP : wr.heap.size ≤ P) (hQ : wr.heap.size ≤ Q) (hne : P ≠ Q) :
    GotW wr a b (.pointer (some ⟨P, 0, none⟩)) (.pointer (some ⟨Q, 0, none⟩)) ((((W7.setCell ⟨P, 0, none⟩ (.slice A1 a.1.length c1)).setCell ⟨P, 1, none⟩ (.slice A2 a.2.length c2)).setCell ⟨Q, 0, none⟩ (.slice A3 b.1.length c3)).setCell ⟨Q, 1, none⟩ (.slice A4 b.2.length c4)) :=
  ((((h.set hb hP _).set (hb.set0 _) hP _).set ((hb'.other hne.symm _).other hne.symm _) hQ _).set (((hb'.other hne.symm _).other hne.symm _).set0 _) hQ _).got ((((hb.set0 _).set1 _).other hne _).other hne _) ((((hb'.other hne.symm _).other hne.symm _).set0 _).set1 _)
end

/-- One box that was made. -/
def GotS (wr : World) (a : Wo) (s : Value) (W : World) : Prop :=
  ∃ P A1 c1 A2 c2, s = .pointer (some ⟨P, 0, none⟩) ∧ Box2 W P 47 (.slice A1 a.1.length c1) (.slice A2 a.2.length c2) ∧ WoAt W A1 A2 a ∧ Below wr.heap.size wr W
section
variable {wr W7 : World} {a : Wo} {A1 A2 : Option Addr} {c1 c2 : Nat}
theorem gotS_I (o : OwnW W7 wr.heap.size A1 A2 c1 c2 a) (r : Below wr.heap.size wr W7) : GotS wr a (.pointer (some ⟨W7.heap.size, 0, none⟩)) (W7.alloc (.cells #[.slice A1 a.1.length c1, .slice A2 a.2.length c2] 47)) :=
  ⟨_, _, _, _, _, rfl, Box2.new W7 _ _ _, (o.alloc _).at, below_al (Nat.le_refl _) _ r⟩
theorem gotS_K {P : Nat} {u v : Value} (o : OwnW W7 wr.heap.size A1 A2 c1 c2 a) (r : Below wr.heap.size wr W7) (hb : Box2 W7 P 47 u v) (hP : wr.heap.size ≤ P) : GotS wr a (.pointer (some ⟨P, 0, none⟩)) ((W7.setCell ⟨P, 0, none⟩ (.slice A1 a.1.length c1)).setCell ⟨P, 1, none⟩ (.slice A2 a.2.length c2)) :=
  ⟨_, _, _, _, _, rfl, (hb.set0 _).set1 _, ((o.set hb _).set (hb.set0 _) _).at, below_set _ hP (below_set _ hP r)⟩
end

theorem S4c.alloc {P Q : Nat} {x0 x1 x2 x3 : Value} {W : World} (o : Obj) (h : S4c P Q x0 x1 x2 x3 W) : S4c P Q x0 x1 x2 x3 (W.alloc o) :=
  ⟨Lib.cell?_alloc_some _ h.1, Lib.cell?_alloc_some _ h.2.1, Lib.cell?_alloc_some _ h.2.2.1, Lib.cell?_alloc_some _ h.2.2.2⟩
/-- An append onto a row keeps a row of another type. -/
theorem own_other' {wr w1 : World} {base : Nat} {e e' : TypeId} {size size' n n' : Nat} {v v' : Value} {xs xs' : List Value} (hown : wr.ownsRow base e size v n xs) (hown2 : wr.ownsRow base e' size' v' n' xs') (hne : e ≠ e') (hgrow : wr.grownBy w1 v.ownBlock) : w1.ownsRow base e' size' v' n' xs' := by
  refine hown2.kept hgrow ?_
  rcases hown2.2 with ⟨rfl, _⟩ | ⟨g', cap', cur', rfl, _, hh', _⟩
  · exact .inl rfl
  · refine .inr fun e2 => ?_
    rcases hown.2 with ⟨rfl, _⟩ | ⟨g, cap, cur, rfl, _, hh, _⟩
    · simp [Value.ownBlock] at e2
    · have : g' = g := by simpa [Value.ownBlock] using e2
      subst this
      rw [hh] at hh'
      injection hh' with hh'
      injection hh' with _ h2
      exact hne h2
/-- The loops over what remains. -/
def RestR1 (wr : World) (R : Nat) (n : Nat) (xs ys : List Int) (i : Value) (W : World) : Prop :=
  ∃ k v ts, k ≤ n ∧ i = .int .i64 (k : Int) ∧ ts = (xs.take k).filter (fun x => !decide (x ∈ ys)) ∧ Box2 W R 47 v (.slice none 0 0) ∧ W.ownsRow wr.heap.size 3 1 v ts.length (ts.map encI) ∧ Below wr.heap.size wr W
def RestR2 (wr : World) (R : Nat) (n : Nat) (vI : Value) (zs : List Int) (xs ys : List Nm) (i : Value) (W : World) : Prop :=
  ∃ k v ts, k ≤ n ∧ i = .int .i64 (k : Int) ∧ ts = (xs.take k).filter (fun x => !decide (x ∈ ys)) ∧ Box2 W R 47 vI v ∧ W.ownsRow wr.heap.size 3 1 vI zs.length (zs.map encI) ∧ W.ownsRow wr.heap.size 53 1 v ts.length (ts.map encN) ∧ Below wr.heap.size wr W
/-- Behind 'rest.Inputs = append(rest.Inputs, x)'. -/
theorem rest_step {wr W w1 : World} {R e n m o : Nat} {u u' v v' : Value} {xs ys : List Value} {tmp : Obj} {t : TypeId} (b : Box2 W R t u u') (hR : wr.heap.size ≤ R) (hown : W.ownsRow wr.heap.size e 1 v n xs)
    (hbr : Below wr.heap.size wr W) (hown' : w1.ownsRow wr.heap.size e 1 v' m ys) (hgrow : (W.alloc tmp).grownBy w1 v.ownBlock) (hte : t ≠ e := by decide) :
    Box2 w1 R t u u' ∧ (w1.setCell ⟨R, o, none⟩ v').ownsRow wr.heap.size e 1 v' m ys ∧ Below wr.heap.size wr (w1.setCell ⟨R, o, none⟩ v') := by
  have c := (b.alloc tmp).kept hgrow (b.not_row hte hown)
  exact ⟨c, own_set hown' c hte _, ((hbr.alloc hbr.size tmp).grown hgrow (by have := hbr.size; simp; omega) (own_block_le hown)).setCell (p := ⟨R, o, none⟩) hR _⟩

/-- What an append leaves of the rest. -/
structure AppK (wc w w' : World) (e : TypeId) : Prop where
  below : Below wc.heap.size wc w'
  row : ∀ (e' : TypeId) (v : Value) (n : Nat) (xs : List Value), e ≠ e' → w.ownsRow wc.heap.size e' 1 v n xs → w'.ownsRow wc.heap.size e' 1 v n xs
  box : ∀ (B : Nat) (t : TypeId) (u v : Value), t ≠ e → Box2 w B t u v → Box2 w' B t u v
/-- An append in a region whose order is drawn. -/
theorem step_app {P : Program} (wc w : World) {ops : Array Oper} {o : Oper} {a : Act} {K : Act → World → Prop} {Q : Exit → Act → World → Prop} {E : Prop} (hgd : o.guard = none) (s x : Operand) (t : TypeId)
    (ho : o.op = .call { callee := .builtin .append, args := #[s, x], argTypes := #[t, t] })
    (e : TypeId) (i : TypeInfo) (z : Value) (bytes : Nat) (ht : P.underlying t = some (.slice e)) (hi : P.info? e = some i) (hz : i.zero = some z)
    (hsize : i.size = 1) (hby : i.bytes = bytes) (hzs : z.cells.size = 1) (v : Value) (n : Nat) (xs : List Value) (hs : a.eval s = v) (hB : Below wc.heap.size wc w) (hown : w.ownsRow wc.heap.size e 1 v n xs)
    (A : Option Addr) (m c : Nat) (news : List Value) (hx : a.eval x = .slice A m c) (hrow : Row w w.heap.size 1 A m news) (h1 : ∀ u ∈ news, u.oneCell' = true)
    (h63 : n + m ≤ maxLen) (hbytes : (n + m) * bytes ≤ 140737488355328)
    (h : ∀ v' w', w'.ownsRow wc.heap.size e 1 v' (n + m) (xs ++ news) → AppK wc w w' e → K (a.put o.dst v') w') :
    if Region.wanted o (yielded ops a.tmps) = true then Oper.wp P o a w K Q else E :=
  step_append_row w hgd s x t ho wc.heap.size e i z bytes ht hi hz hsize hby hzs v n xs hs hown w.heap.size A m c news hx hrow h1 h63 hbytes hB.size fun v' w' h2 h3 =>
    h v' w' h2 ⟨hB.grown h3 hB.size (own_block_le hown), fun _ _ _ _ hne ho2 => own_other' hown ho2 hne h3, fun _ _ _ _ hne hb => hb.kept h3 (hb.not_row hne hown)⟩
theorem hp_new {W : World} {o : Obj} {X : Nat} (h : X = W.heap.size) : (W.alloc o).heap[X]? = some o := by subst h; exact World.alloc_heap_new W o
theorem hp_old {W : World} {o r : Obj} {X : Nat} (h : W.heap[X]? = some r) : (W.alloc o).heap[X]? = some r := by
  rw [← h]
  exact ((Below.refl _ W).alloc (Nat.le_refl _) o).block X (Array.getElem?_eq_some_iff.1 h).1
theorem hp_drew {W : World} {r : Obj} {X : Nat} (h : W.heap[X]? = some r) : W.drew.heap[X]? = some r := h
/-- An empty slice that was built. -/
theorem emp_at {W : World} {base X : Nat} {e : TypeId} (hb : base ≤ X) (h : W.heap[X]? = some (.cells #[] e (0, 0))) : W.ownsRow base e 1 (.slice (some ⟨X, 0, none⟩) 0 0) 0 [] :=
  ⟨by simp, .inr ⟨X, 0, #[], rfl, hb, h, Nat.le_refl _, Nat.zero_le _, by simp, by simp⟩⟩
theorem own_al {W : World} {base e n : Nat} {v : Value} {xs : List Value} (o : Obj) (h : W.ownsRow base e 1 v n xs) : (W.alloc o).ownsRow base e 1 v n xs := h.alloc o
theorem own_dr {W : World} {base e n : Nat} {v : Value} {xs : List Value} (h : W.ownsRow base e 1 v n xs) : W.drew.ownsRow base e 1 v n xs := own_later h ((Below.refl _ W).drew)
theorem row_one {W : World} {o : Value} {t X : Nat} (h : X = W.heap.size) : Row (W.alloc (.cells #[o] t)) (W.alloc (.cells #[o] t)).heap.size 1 (some ⟨X, 0, none⟩) 1 [o] := by
  subst h
  refine ⟨by simp, fun _ => ⟨W.heap.size, 0, rfl, by simp, fun j u hj => ?_⟩⟩
  obtain rfl : j = 0 := by have := (List.getElem?_eq_some_iff.1 hj).1; simp at this; omega
  simp at hj
  subst hj
  have hh := World.alloc_heap_new W (.cells #[o] t)
  unfold World.cell?
  simp only [hh]
  rfl

theorem plus_len (a b : Wo) : (plus a b).1.length ≤ a.1.length + b.1.length ∧ (plus a b).2.length ≤ a.2.length + b.2.length := by
  have := can_len (a.1 ++ b.1, a.2 ++ b.2)
  simpa [plus] using this
theorem Sm.plus {a b : Wo} (ha : Sm a) (hb : Sm b) (h1 : a.1.length + b.1.length ≤ 300) (h2 : a.2.length + b.2.length ≤ 300) : Sm (plus a b) := by
  have hl := plus_len a b
  refine ⟨by omega, by omega, fun x hx => ?_, fun x hx => ?_⟩
  · rcases List.mem_append.1 (can_sub hx) with h | h
    · exact ha.nm x h
    · exact hb.nm x h
  · rcases List.mem_append.1 (can_subI hx) with h | h
    · exact ha.ii x h
    · exact hb.ii x h
/-- What remains, as the law collects it. -/
def restW (ca cb : Wo) : Wo := (ca.1.filter (fun x => !decide (x ∈ cb.1)), ca.2.filter (fun x => !decide (x ∈ cb.2)))
theorem minus_rest (a b : Wo) : minus a b = can (restW (can a) (can b)) := rfl
theorem Sm.rest {a b : Wo} (h : Sm a) : Sm (restW a b) :=
  ⟨Nat.le_trans (List.length_filter_le _ _) h.n1, Nat.le_trans (List.length_filter_le _ _) h.n2, fun x hx => h.nm x (List.mem_filter.1 hx).1, fun x hx => h.ii x (List.mem_filter.1 hx).1⟩

theorem box_hp {W : World} {P : Nat} {t : TypeId} {u v : Value} (h : W.heap[P]? = some (.cells #[u, v] t (0, 0))) : Box2 W P t u v := h
theorem own_cat {α : Type} {W : World} {base e : Nat} {v : Value} {f : α → Value} {l m : List α} (h : W.ownsRow base e 1 v (0 + l.length + m.length) ([] ++ l.map f ++ m.map f)) :
    ∃ A c, v = .slice A (l ++ m).length c ∧ W.ownsRow base e 1 v (l ++ m).length ((l ++ m).map f) := by
  have e1 : 0 + l.length + m.length = (l ++ m).length := by simp
  have e2 : [] ++ l.map f ++ m.map f = (l ++ m).map f := by simp
  rw [e1, e2] at h
  obtain ⟨A, c, hv, _⟩ := own_form h
  exact ⟨A, c, hv, h⟩
theorem row_own {W : World} {base e n c : Nat} {A : Option Addr} {xs : List Value} (h : W.ownsRow base e 1 (.slice A n c) n xs) : Row W W.heap.size 1 A n xs := Row.of_own h

end Go.Proofs.YtnibcffcbnjllaaGreatDoor
/- ScriptSets: the states of the region that makes the sum. -/
namespace Go.Proofs.YtnibcffcbnjllaaGreatDoor
open Go.RowKit Go.Sort

/-- How far the region has come: p of its six steps in a row; bb: the empty list of names is built; al: the variable is made. -/
structure St (wk : World) (a b s : Wo) (xs : List Int) (ys : List Nm) (p : Nat) (bb al : Bool) (u38 u41 u44 u45 u48 u51 u53 u9 : Value) (W : World) : Prop where
  hx : a.1 ++ b.1 = xs
  hy : a.2 ++ b.2 = ys
  bl : Below wk.heap.size wk W
  e1 : p = 1 → W.ownsRow wk.heap.size 3 1 u38 0 []
  e2 : p = 2 → W.ownsRow wk.heap.size 3 1 u41 (0 + a.1.length) ([] ++ a.1.map encI)
  e3 : 3 ≤ p → ∃ A c, u44 = .slice A xs.length c ∧ W.ownsRow wk.heap.size 3 1 u44 xs.length (xs.map encI)
  e4 : bb = true → p ≤ 3 → W.ownsRow wk.heap.size 53 1 u45 0 []
  e5 : p = 4 → W.ownsRow wk.heap.size 53 1 u48 (0 + a.2.length) ([] ++ a.2.map encN)
  e6 : 5 ≤ p → ∃ A c, u51 = .slice A ys.length c ∧ W.ownsRow wk.heap.size 53 1 u51 ys.length (ys.map encN)
  e7 : p = 6 → ∃ A c A' d, u53 = .agg #[.slice A s.1.length c, .slice A' s.2.length d] ∧ OwnW W wk.heap.size A A' c d s
  e8 : al = true → ∃ Bx, u9 = .pointer (some ⟨Bx, 0, none⟩) ∧ wk.heap.size ≤ Bx ∧ Box2 W Bx 47 (.slice none 0 0) (.slice none 0 0)
section
variable {wk : World} {a b s : Wo} {xs : List Int} {ys : List Nm} {p : Nat} {bb al : Bool} {u38 u41 u44 u45 u48 u51 u53 u9 : Value} {W W' : World}
theorem St.later (h : St wk a b s xs ys p bb al u38 u41 u44 u45 u48 u51 u53 u9 W) (hb : Below W.heap.size W W') : St wk a b s xs ys p bb al u38 u41 u44 u45 u48 u51 u53 u9 W' := by
  refine ⟨h.hx, h.hy, below_later h.bl hb, fun k => own_later (h.e1 k) hb, fun k => own_later (h.e2 k) hb, fun k => ?_, fun k1 k2 => own_later (h.e4 k1 k2) hb, fun k => own_later (h.e5 k) hb, fun k => ?_, fun k => ?_, fun k => ?_⟩
  · obtain ⟨A, c, h1, h2⟩ := h.e3 k
    exact ⟨A, c, h1, own_later h2 hb⟩
  · obtain ⟨A, c, h1, h2⟩ := h.e6 k
    exact ⟨A, c, h1, own_later h2 hb⟩
  · obtain ⟨A, c, A', d, h1, h2⟩ := h.e7 k
    exact ⟨A, c, A', d, h1, h2.later hb⟩
  · obtain ⟨Bx, h1, h2, h3⟩ := h.e8 k
    exact ⟨Bx, h1, h2, h3.later hb⟩
/-- The variable is made. -/
theorem St.mk9 (h : St wk a b s xs ys p bb false u38 u41 u44 u45 u48 u51 u53 u9 W) : St wk a b s xs ys p bb true u38 u41 u44 u45 u48 u51 u53 (.pointer (some ⟨W.heap.size, 0, none⟩)) (W.alloc (.cells #[.slice none 0 0, .slice none 0 0] 47)) := by
  have q := h.later (al_self W (.cells #[.slice none 0 0, .slice none 0 0] 47))
  exact ⟨q.hx, q.hy, q.bl, q.e1, q.e2, q.e3, q.e4, q.e5, q.e6, q.e7, fun _ => ⟨_, rfl, h.bl.size, Box2.new W _ _ _⟩⟩
theorem St.b38 (h : St wk a b s xs ys 0 bb al u38 u41 u44 u45 u48 u51 u53 u9 W) : St wk a b s xs ys 1 bb al (.slice (some ⟨W.heap.size, 0, none⟩) 0 0) u41 u44 u45 u48 u51 u53 u9 (W.alloc (.cells #[] 3)) := by
  have q := h.later (al_self W (.cells #[] 3))
  exact ⟨q.hx, q.hy, q.bl, fun _ => emp_at h.bl.size (hp_new rfl), fun k => by omega, fun k => by omega, fun k _ => q.e4 k (by omega), fun k => by omega, fun k => by omega, fun k => by omega, q.e8⟩
theorem St.b45 (h : St wk a b s xs ys p false al u38 u41 u44 u45 u48 u51 u53 u9 W) : St wk a b s xs ys p true al u38 u41 u44 (.slice (some ⟨W.heap.size, 0, none⟩) 0 0) u48 u51 u53 u9 (W.alloc (.cells #[] 53)) := by
  have q := h.later (al_self W (.cells #[] 53))
  exact ⟨q.hx, q.hy, q.bl, q.e1, q.e2, q.e3, fun _ _ => emp_at h.bl.size (hp_new rfl), q.e5, q.e6, q.e7, q.e8⟩
theorem St.e8k {e : TypeId} (h : St wk a b s xs ys p bb al u38 u41 u44 u45 u48 u51 u53 u9 W) (k : AppK wk W W' e) (hne : 47 ≠ e) : al = true → ∃ Bx, u9 = .pointer (some ⟨Bx, 0, none⟩) ∧ wk.heap.size ≤ Bx ∧ Box2 W' Bx 47 (.slice none 0 0) (.slice none 0 0) := fun ha => by
  obtain ⟨Bx, h1, h2, h3⟩ := h.e8 ha
  exact ⟨Bx, h1, h2, k.box _ _ _ _ hne h3⟩
theorem St.i1 {v : Value} (h : St wk a b s xs ys 1 bb al u38 u41 u44 u45 u48 u51 u53 u9 W) (o : W'.ownsRow wk.heap.size 3 1 v (0 + a.1.length) ([] ++ a.1.map encI)) (k : AppK wk W W' 3) : St wk a b s xs ys 2 bb al u38 v u44 u45 u48 u51 u53 u9 W' :=
  ⟨h.hx, h.hy, k.below, fun k => by omega, fun _ => o, fun k => by omega, fun hb _ => k.row _ _ _ _ (by decide) (h.e4 hb (by omega)), fun k => by omega, fun k => by omega, fun k => by omega, h.e8k k (by decide)⟩
theorem St.i2 {v : Value} (h : St wk a b s xs ys 2 bb al u38 u41 u44 u45 u48 u51 u53 u9 W) (o : W'.ownsRow wk.heap.size 3 1 v (0 + a.1.length + b.1.length) ([] ++ a.1.map encI ++ b.1.map encI)) (k : AppK wk W W' 3) : St wk a b s xs ys 3 bb al u38 u41 v u45 u48 u51 u53 u9 W' :=
  ⟨h.hx, h.hy, k.below, fun k => by omega, fun k => by omega, fun _ => (by have q := own_cat o; rw [h.hx] at q; exact q), fun hb _ => k.row _ _ _ _ (by decide) (h.e4 hb (by omega)), fun k => by omega, fun k => by omega, fun k => by omega, h.e8k k (by decide)⟩
theorem St.e3k (h : St wk a b s xs ys p bb al u38 u41 u44 u45 u48 u51 u53 u9 W) (hp : 3 ≤ p) (k : AppK wk W W' 53) : ∃ A c, u44 = .slice A xs.length c ∧ W'.ownsRow wk.heap.size 3 1 u44 xs.length (xs.map encI) := by
  obtain ⟨A, c, h1, h2⟩ := h.e3 hp
  exact ⟨A, c, h1, k.row _ _ _ _ (by decide) h2⟩
theorem St.n1 {v : Value} (h : St wk a b s xs ys 3 bb al u38 u41 u44 u45 u48 u51 u53 u9 W) (o : W'.ownsRow wk.heap.size 53 1 v (0 + a.2.length) ([] ++ a.2.map encN)) (k : AppK wk W W' 53) : St wk a b s xs ys 4 bb al u38 u41 u44 u45 v u51 u53 u9 W' :=
  ⟨h.hx, h.hy, k.below, fun k => by omega, fun k => by omega, fun _ => h.e3k (by omega) k, fun _ k => by omega, fun _ => o, fun k => by omega, fun k => by omega, h.e8k k (by decide)⟩
theorem St.n2 {v : Value} (h : St wk a b s xs ys 4 bb al u38 u41 u44 u45 u48 u51 u53 u9 W) (o : W'.ownsRow wk.heap.size 53 1 v (0 + a.2.length + b.2.length) ([] ++ a.2.map encN ++ b.2.map encN)) (k : AppK wk W W' 53) : St wk a b s xs ys 5 bb al u38 u41 u44 u45 u48 v u53 u9 W' :=
  ⟨h.hx, h.hy, k.below, fun k => by omega, fun k => by omega, fun _ => h.e3k (by omega) k, fun _ k => by omega, fun k => by omega, fun _ => (by have q := own_cat o; rw [h.hy] at q; exact q), fun k => by omega, h.e8k k (by decide)⟩
theorem St.c6 {A A' : Option Addr} {c d : Nat} (h : St wk a b s xs ys 5 bb al u38 u41 u44 u45 u48 u51 u53 u9 W) (hb : Below W.heap.size W W') (o : OwnW W' wk.heap.size A A' c d s) : St wk a b s xs ys 6 bb al u38 u41 u44 u45 u48 u51 (.agg #[.slice A s.1.length c, .slice A' s.2.length d]) u9 W' := by
  have q := h.later hb
  exact ⟨q.hx, q.hy, q.bl, fun k => by omega, fun k => by omega, fun _ => q.e3 (by omega), fun _ k => by omega, fun k => by omega, fun _ => q.e6 (by omega), fun _ => ⟨A, c, A', d, rfl, o⟩, q.e8⟩
theorem St.start (hx : a.1 ++ b.1 = xs) (hy : a.2 ++ b.2 = ys) (hB : Below wk.heap.size wk W) : St wk a b s xs ys 0 false false u38 u41 u44 u45 u48 u51 u53 u9 W :=
  ⟨hx, hy, hB, fun k => by omega, fun k => by omega, fun k => by omega, fun k => (by cases k), fun k => by omega, fun k => by omega, fun k => by omega, fun k => (by cases k)⟩
end

end Go.Proofs.YtnibcffcbnjllaaGreatDoor
/- ScriptSets: the contracts of its last regions, against one fixed world. -/
namespace Go.Proofs.YtnibcffcbnjllaaGreatDoor
open Go.RowKit Go.Sort

/-- Something taken back came, in a row of its own; nothing that lay was turned. -/
def ResK (wq W : World) (a : Wo) (e : Ending) (w' : World) : Prop :=
  ∃ A c A' d, e = .returned (.agg #[.slice A a.1.length c, .slice A' a.2.length d]) ∧ WoAt w' A A' a ∧ Below W.heap.size W w' ∧ Below wq.heap.size wq w'
/-- A truth value came. -/
def BoK (wq : World) (r : Bool) (e : Ending) (w' : World) : Prop := e = .returned (.bool r) ∧ Below wq.heap.size wq w'
section
variable {wq W : World} {a b : Wo} {A A' B B' : Option Addr} {c d c2 d2 : Nat}
theorem ResW.toK (hB : Below wq.heap.size wq W) {e : Ending} {w' : World} (h : ResW W a e w') : ResK wq W a e w' := by
  obtain ⟨A, c, A', d, h1, h2, h3⟩ := h
  exact ⟨A, c, A', d, h1, h2.at, h3, below_later hB h3⟩
theorem plusK (hB : Below wq.heap.size wq W) (hok : Ok W) (sa : Sm a) (sb : Sm b) (ha : WoAt W A A' a) (hb : WoAt W B B' b) {r : Wo} (hr : plus a b = r) :
    Calls Tryz.prog 26 #[.agg #[.slice A a.1.length c, .slice A' a.2.length d], .agg #[.slice B b.1.length c2, .slice B' b.2.length d2]] W (ResK wq W r) := by
  subst hr
  exact (Plus_any a b A A' B B' c d c2 d2 W hok sa sb ha hb).mono fun _ _ h => h.toK hB
theorem minusK (hB : Below wq.heap.size wq W) (hok : Ok W) (sa : Sm a) (sb : Sm b) (ha : WoAt W A A' a) (hb : WoAt W B B' b) {r : Wo} (hr : minus a b = r) :
    Calls Tryz.prog 27 #[.agg #[.slice A a.1.length c, .slice A' a.2.length d], .agg #[.slice B b.1.length c2, .slice B' b.2.length d2]] W (ResK wq W r) := by
  subst hr
  exact (Minus_any a b A A' B B' c d c2 d2 W hok sa sb ha hb).mono fun _ _ h => h.toK hB
theorem equalK (hB : Below wq.heap.size wq W) (hok : Ok W) (sa : Sm a) (sb : Sm b) (ha : WoAt W A A' a) (hb : WoAt W B B' b) {q : Bool} (hq : decide (can a = can b) = q) :
    Calls Tryz.prog 29 #[.agg #[.slice A a.1.length c, .slice A' a.2.length d], .agg #[.slice B b.1.length c2, .slice B' b.2.length d2]] W (BoK wq q) := by
  subst hq
  exact (EqualW_any a b A A' B B' c d c2 d2 W hok sa sb ha hb).mono fun _ _ h => ⟨h.1, below_later hB h.2⟩
theorem isCanK (hB : Below wq.heap.size wq W) (hok : Ok W) (sa : Sm a) (ha : WoAt W A A' a) (hc : can a = a) :
    Calls Tryz.prog 28 #[.agg #[.slice A a.1.length c, .slice A' a.2.length d]] W (BoK wq true) :=
  (isCanonical_any a A A' c d W hok sa ha hc).mono fun _ _ h => ⟨h.1, below_later hB h.2⟩
theorem sameNK (hB : Below wq.heap.size wq W) (sa : Sm a) (sb : Sm b) (ha : WoAt W A A' a) (hb : WoAt W B B' b) {q : Bool} (hq : decide (a.1 = b.1) = q) :
    Calls Tryz.prog 13 #[.slice A a.1.length c, .slice B b.1.length c2] W (BoK wq q) := by
  subst hq
  exact (sameNumbers_any A B a.1.length b.1.length c c2 a.1 b.1 W (Nat.le_trans sa.n1 (by omega)) (Nat.le_trans sb.n1 (by omega)) ha.1 hb.1).mono (by
    rintro e w' ⟨rfl, q, rfl⟩
    exact ⟨rfl, below_draws hB⟩)
theorem sameSK (hB : Below wq.heap.size wq W) (sa : Sm a) (sb : Sm b) (ha : WoAt W A A' a) (hb : WoAt W B B' b) {q : Bool} (hq : decide (a.2 = b.2) = q) :
    Calls Tryz.prog 14 #[.slice A' a.2.length d, .slice B' b.2.length d2] W (BoK wq q) := by
  subst hq
  exact (sameNames_any A' B' a.2.length b.2.length d d2 a.2 b.2 W (Nat.le_trans sa.n2 (by omega)) (Nat.le_trans sb.n2 (by omega)) ha.2 hb.2).mono (by
    rintro e w' ⟨rfl, q, rfl⟩
    exact ⟨rfl, below_draws hB⟩)
theorem emptyK (hB : Below wq.heap.size wq W) (hok : Ok W) (sa : Sm a) (ha : WoAt W A A' a) (hc : can a = ([], [])) :
    Calls Tryz.prog 19 #[.agg #[.slice A a.1.length c, .slice A' a.2.length d]] W (BoK wq true) :=
  (Empty_any A A' a.1.length c a.2.length d a.1 a.2 W hok (Nat.le_trans sa.n1 (by omega)) (Nat.le_trans sa.n2 (by omega)) sa.nm ha.1 ha.2).mono (by
    rintro e w' ⟨rfl, hb⟩
    have e1 : canI a.1 = [] := congrArg Prod.fst hc
    have e2 : canL (canI a.1) a.2 = [] := congrArg Prod.snd hc
    exact ⟨by rw [e1] at e2 ⊢; rw [e2]; rfl, below_later hB hb⟩)
end
theorem plus_rev (a b : Wo) : plus b a = plus a b := plus_comm b a
theorem can_self (a : Wo) : decide (can a = can a) = true := decide_eq_true rfl
theorem can_eq_rest (a b : Wo) : decide (can (minus a b) = can (restW (can a) (can b))) = true := decide_eq_true (by rw [can_minus, minus_rest])
theorem can_eq_assoc (a b c : Wo) : decide (can (plus a (plus b c)) = can (plus (plus a b) c)) = true := decide_eq_true (by rw [plus_assoc])
theorem can_eq_self (a : Wo) : decide (can (plus a a) = can a) = true := decide_eq_true (by rw [plus_self, can_idem])
theorem can_minus_self (a : Wo) : can (minus a a) = ([], []) := by rw [minus_self, can_nil]
theorem can_eq_split (a b : Wo) : decide (can a = can b) = (decide ((can a).1 = (can b).1) && decide ((can a).2 = (can b).2)) := by
  rw [Bool.eq_iff_iff]; simp [Prod.ext_iff]
theorem can_eq_flip (a b : Wo) : decide (can b = can a) = decide (can a = can b) := by
  rw [Bool.eq_iff_iff]; simp only [decide_eq_true_eq]; exact eq_comm
theorem Sm.minus {a b : Wo} (ha : Sm a) : Sm (minus a b) := by
  rw [minus_rest]
  exact (Sm.rest (b := Go.Proofs.YtnibcffcbnjllaaGreatDoor.can b) ha.can).can
/-- Not more than thirty each. -/
structure Sm30 (a : Wo) : Prop where
  l1 : a.1.length ≤ 30
  l2 : a.2.length ≤ 30
theorem Sm30.of_few {xs : List Int} {ns : List Nm} (h : fewB xs ns = true) : Sm30 (xs, ns) := by
  obtain ⟨h1, h2, _⟩ := fewB_true h
  exact ⟨h1, h2⟩
theorem Sm.plus2 {a b : Wo} (ha : Sm a) (hb : Sm b) (la : Sm30 a) (lb : Sm30 b) : Sm (Go.Proofs.YtnibcffcbnjllaaGreatDoor.plus a b) :=
  ha.plus hb (by have := la.l1; have := lb.l1; omega) (by have := la.l2; have := lb.l2; omega)
theorem Sm.plus3 {a b c : Wo} (ha : Sm a) (hb : Sm b) (hc : Sm c) (la : Sm30 a) (lb : Sm30 b) (lc : Sm30 c) : Sm (Go.Proofs.YtnibcffcbnjllaaGreatDoor.plus a (Go.Proofs.YtnibcffcbnjllaaGreatDoor.plus b c)) :=
  ha.plus (hb.plus2 hc lb lc) (by have := la.l1; have := lb.l1; have := lc.l1; have := (plus_len b c).1; omega) (by have := la.l2; have := lb.l2; have := lc.l2; have := (plus_len b c).2; omega)
theorem Sm.plus3' {a b c : Wo} (ha : Sm a) (hb : Sm b) (hc : Sm c) (la : Sm30 a) (lb : Sm30 b) (lc : Sm30 c) : Sm (Go.Proofs.YtnibcffcbnjllaaGreatDoor.plus (Go.Proofs.YtnibcffcbnjllaaGreatDoor.plus a b) c) :=
  (ha.plus2 hb la lb).plus hc (by have := la.l1; have := lb.l1; have := lc.l1; have := (plus_len a b).1; omega) (by have := la.l2; have := lb.l2; have := lc.l2; have := (plus_len a b).2; omega)

/-- The cells of three arguments. -/
abbrev S6q (Z ZB ZC : Nat) (x0 x1 x2 x3 x4 x5 : Value) (W : World) : Prop :=
  W.cell? ⟨Z, 0, none⟩ = some x0 ∧ W.cell? ⟨Z, 1, none⟩ = some x1 ∧ W.cell? ⟨ZB, 0, none⟩ = some x2 ∧ W.cell? ⟨ZB, 1, none⟩ = some x3 ∧ W.cell? ⟨ZC, 0, none⟩ = some x4 ∧ W.cell? ⟨ZC, 1, none⟩ = some x5
/-- The cells of three arguments and of four variables. -/
abbrev S14q (Z ZB ZC P M S R : Nat) (x0 x1 x2 x3 x4 x5 y0 y1 y2 y3 y4 y5 y6 y7 : Value) (W : World) : Prop :=
  W.cell? ⟨Z, 0, none⟩ = some x0 ∧ W.cell? ⟨Z, 1, none⟩ = some x1 ∧ W.cell? ⟨ZB, 0, none⟩ = some x2 ∧ W.cell? ⟨ZB, 1, none⟩ = some x3 ∧ W.cell? ⟨ZC, 0, none⟩ = some x4 ∧ W.cell? ⟨ZC, 1, none⟩ = some x5 ∧
  W.cell? ⟨P, 0, none⟩ = some y0 ∧ W.cell? ⟨P, 1, none⟩ = some y1 ∧ W.cell? ⟨M, 0, none⟩ = some y2 ∧ W.cell? ⟨M, 1, none⟩ = some y3 ∧ W.cell? ⟨S, 0, none⟩ = some y4 ∧ W.cell? ⟨S, 1, none⟩ = some y5 ∧ W.cell? ⟨R, 0, none⟩ = some y6 ∧ W.cell? ⟨R, 1, none⟩ = some y7
theorem S14q.of {Z ZB ZC P M S R t0 t1 t2 t3 t4 t5 t6 : Nat} {x0 x1 x2 x3 x4 x5 y0 y1 y2 y3 y4 y5 y6 y7 : Value} {W W' : World} (h0 : Box2 W Z t0 x0 x1) (h1 : Box2 W ZB t1 x2 x3) (h2 : Box2 W ZC t2 x4 x5)
    (h3 : Box2 W P t3 y0 y1) (h4 : Box2 W M t4 y2 y3) (h5 : Box2 W S t5 y4 y5) (h6 : Box2 W R t6 y6 y7) (hb : Below W.heap.size W W') : S14q Z ZB ZC P M S R x0 x1 x2 x3 x4 x5 y0 y1 y2 y3 y4 y5 y6 y7 W' :=
  ⟨(h0.later hb).c0, (h0.later hb).c1, (h1.later hb).c0, (h1.later hb).c1, (h2.later hb).c0, (h2.later hb).c1, (h3.later hb).c0, (h3.later hb).c1, (h4.later hb).c0, (h4.later hb).c1, (h5.later hb).c0, (h5.later hb).c1, (h6.later hb).c0, (h6.later hb).c1⟩

end Go.Proofs.YtnibcffcbnjllaaGreatDoor
