/- Contracts of the statement's own file: few; and of (Name).Last, Within. -/
import Derived.Test.YtnibcffcbnjllaaGreatDoorLaw1
import Derived.Test.YtnibcffcbnjllaaGreatDoorLin4
namespace Go.Proofs.YtnibcffcbnjllaaGreatDoor
open Go.RowKit

def fewB (xs : List Int) (ns : List Nm) : Bool := decide (xs.length ≤ 30) && decide (ns.length ≤ 30) && !longB ns

set_option maxHeartbeats 1000000 in
theorem few_any (A A' : Option Addr) (n m c d : Nat) (xs : List Int) (ns : List Nm) (w : World) (hn : n ≤ 4611686018427387904) (hm : m ≤ 4611686018427387904)
    (ha : Row w w.heap.size 1 A n (xs.map encI)) (hb : Row w w.heap.size 1 A' m (ns.map encN)) :
    Calls Tryz.prog 16 #[.agg #[.slice A n c, .slice A' m d]] w fun e w' => e = .returned (.bool (fewB xs ns)) ∧ Below w.heap.size w w' := by
  have hlx := Lib.hid ha.len1
  have hly := Lib.hid hb.len1
  by_cases h1 : n ≤ 30
  · by_cases h2 : m ≤ 30
    · have e : fewB xs ns = !longB ns := by unfold fewB; rw [hlx.out, hly.out]; simp [h1, h2]
      have HE := Lib.hid e
      clear e
      go_enter Tryz.func16, Tryz.ntmps16
      go_wp2_with (go_at_call 35; refine (long_any A' m d ns _ hm ((hb.below ((Below.refl _ w).alloc (Nat.le_refl _) _)).more (by simp))).mono ?_; rintro e w' ⟨rfl, rfl⟩)
      go_ret
      exact ⟨by rw [HE.out]; rfl, (Below.refl _ _).alloc (Nat.le_refl _) _⟩
    · have e : fewB xs ns = false := by unfold fewB; rw [hlx.out, hly.out]; simp [h2]
      have HE := Lib.hid e
      clear e
      go_enter Tryz.func16, Tryz.ntmps16
      go_wp2_with fail
      go_ret
      exact ⟨by rw [HE.out]; rfl, (Below.refl _ _).alloc (Nat.le_refl _) _⟩
  · have e : fewB xs ns = false := by unfold fewB; rw [hlx.out, hly.out]; simp [h1]
    have HE := Lib.hid e
    clear e
    go_enter Tryz.func16, Tryz.ntmps16
    go_wp2_with fail
    go_ret
    exact ⟨by rw [HE.out]; rfl, (Below.refl _ _).alloc (Nat.le_refl _) _⟩

/-- The last ordinal of a name, or 0. -/
def lastOf (s : Nm) : Nat := (ordsOf s).getLast?.getD 0

set_option maxHeartbeats 1000000 in
theorem Last_any (s : ByteArray) (w : World) (hs : s.size ≤ 9223372036854775000) :
    Calls Tryz.prog 45 #[.string s] w fun e w' => e = .returned (.int .i64 (lastOf s.data.toList : Int)) ∧ Below w.heap.size w w' := by
  go_enter Tryz.func45, Tryz.ntmps45
  go_wp2_with fail
  refine (Ordinals_any s _ hs).mono ?_
  rintro e w' ⟨v, rfl, hown, hb⟩
  obtain ⟨A, c, rfl, hrow⟩ := own_form hown
  have hlen : (ordsOf s.data.toList).length ≤ 10 := by
    unfold ordsOf
    split
    · have := partsOf_len s.data.toList; simpa using this
    · simp
  have hlast : lastOf s.data.toList = ((ordsOf s.data.toList)[(ordsOf s.data.toList).length - 1]?).getD 0 := by
    unfold lastOf; rw [List.getLast?_eq_getElem?]
  have HL := Lib.hid hlast
  clear hlast hown
  generalize ordsOf s.data.toList = l at hrow hlen HL ⊢
  by_cases h0 : l.length = 0
  · have t : ((l.length : Int) == 0) = true := by simp [h0]
    have H0 := Lib.hid h0
    clear h0
    go_wp2
    go_ret
    refine ⟨?_, hb⟩
    rw [HL.out, List.length_eq_zero_iff.1 H0.out]
    rfl
  · have t : ((l.length : Int) == 0) = false := by simp [h0]
    obtain ⟨b, off, u, rfl, _, hu, hc⟩ := hrow.at1 (k := l.length - 1) (by omega)
    rw [List.getElem?_map] at hu
    obtain ⟨x, hx, rfl⟩ := Option.map_eq_some_iff.1 hu
    have HX := Lib.hid hx
    clear hx hu hrow
    have ht : ((l.length : Int) - 1).toNat = l.length - 1 := by omega
    unfold encNat at hc
    go_wp2
    go_ret
    refine ⟨?_, hb⟩
    rw [HL.out, HX.out]
    rfl

end Go.Proofs.YtnibcffcbnjllaaGreatDoor
