/- (Name).Root, Within; what the worlds of a call bear of the library's variables. -/
import Derived.Test.YtnibcffcbnjllaaGreatDoorLaw2
import Derived.Test.YtnibcffcbnjllaaGreatDoorShelf
namespace Go.Proofs.YtnibcffcbnjllaaGreatDoor
open Go.RowKit

/-- What a call takes of the library's variables: a number in MaxLen, and the table of powers of ten. -/
structure Ok (w : World) : Prop where
  maxLen : ∃ m, w.cell? ⟨2, 0, none⟩ = some (.int .i64 m)
  pow10 : Lib.TabIs Tryz.prog w "internal/strconv.uint64pow10" .u64 Lib.pow10Tab
  low : 8 ≤ w.heap.size

theorem Ok.later {w w' : World} (h : Ok w) (hb : Below w.heap.size w w') : Ok w' := by
  have hl := h.low
  refine ⟨?_, ?_, Nat.le_trans h.low hb.size⟩
  · obtain ⟨m, hm⟩ := h.maxLen
    exact ⟨m, (hb.cell (p := ⟨2, 0, none⟩) (by simp; omega)).trans hm⟩
  · exact var?_below hb (g := 3) (by kernel_rfl) (by omega) h.pow10

/-- The name of the first ancestor below the kernel. -/
def rootOf (s : Nm) : Nm := if validB s then (Lib.cut s [46]).1 else []

set_option maxHeartbeats 1000000 in
theorem Root44_any (s : ByteArray) (w : World) (hok : Ok w) (hs : s.size ≤ 4294967280) :
    Calls Tryz.prog 44 #[.string s] w fun e w' => e = .returned (encN (rootOf s.data.toList)) ∧ Below w.heap.size w w' := by
  by_cases hv : validB s.data.toList = true
  · have e : rootOf s.data.toList = (Lib.cut s.data.toList [46]).1 := by unfold rootOf; rw [if_pos hv]
    have HE := Lib.hid e
    clear e
    have hc := fun (W : World) (hb : Below w.heap.size w W) => (hok.later hb).maxLen
    have HC := Lib.hid hc
    clear hc
    go_enter Tryz.func44, Tryz.ntmps44
    go_wp2_with fail
    refine (Valid_any s _ (by omega)).mono ?_
    rintro e w1 ⟨rfl, hb1⟩
    go_wp2_with fail
    obtain ⟨m, hm⟩ := HC.out w1 hb1
    refine (Tryz.strings_Cut s ⟨#[46]⟩ m w1 (by omega) hm).mono ?_
    rintro e w2 ⟨rfl, q, rfl⟩
    go_wp2_with fail
    go_ret
    refine ⟨?_, below_drewN hb1 q⟩
    rw [HE.out]
    rfl
  · have e : rootOf s.data.toList = [] := by unfold rootOf; rw [if_neg hv]
    have HE := Lib.hid e
    have hv' : validB s.data.toList = false := by simpa using hv
    clear e hv
    go_enter Tryz.func44, Tryz.ntmps44
    go_wp2_with fail
    refine (Valid_any s _ (by omega)).mono ?_
    rintro e w1 ⟨rfl, hb1⟩
    go_wp2_with fail
    go_ret
    refine ⟨?_, hb1⟩
    rw [HE.out]
    rfl

/-- Whether a name is another one or that of a descendant of it. -/
def withinB (n a : Nm) : Bool := validB n && validB a && (decide (n = a) || decide (a = []) || Lib.hasPrefix n (a ++ [46]))

set_option maxHeartbeats 1000000 in
theorem Within_any (n a : ByteArray) (w : World) (hn : n.size ≤ 4294967280) (ha : a.size ≤ 4294967280) :
    Calls Tryz.prog 48 #[.string n, .string a] w fun e w' => e = .returned (.bool (withinB n.data.toList a.data.toList)) ∧ Below w.heap.size w w' := by
  by_cases hv : validB n.data.toList = true
  · by_cases hv2 : validB a.data.toList = true
    · have e : withinB n.data.toList a.data.toList = (decide (n.data.toList = a.data.toList) || decide (a.data.toList = []) || Lib.hasPrefix n.data.toList (a.data.toList ++ [46])) := by simp [withinB, hv, hv2]
      have HE := Lib.hid e
      clear e
      by_cases h1 : n.data.toList = a.data.toList
      · have t1 := bytes_eq h1
        have HE2 : Hid (withinB n.data.toList a.data.toList = true) := by rw [HE.out, decide_eq_true h1]; rfl
        clear h1 HE
        go_enter Tryz.func48, Tryz.ntmps48
        go_wp2_with fail
        refine (Valid_any n _ (by omega)).mono ?_
        rintro e w1 ⟨rfl, hb1⟩
        go_wp2_with fail
        refine (Valid_any a _ (by omega)).mono ?_
        rintro e w2 ⟨rfl, hb2⟩
        go_wp2_with fail
        go_ret
        exact ⟨by rw [HE2.out]; rfl, hb1.trans (hb2.mono hb1.size)⟩
      · have t1 := bytes_ne h1
        by_cases h2 : a.data.toList = []
        · have t2 := isEmpty_of_nil h2
          have HE2 : Hid (withinB n.data.toList a.data.toList = true) := by rw [HE.out, decide_eq_true h2, Bool.or_true, Bool.true_or]; exact rfl
          clear h1 h2 HE
          go_enter Tryz.func48, Tryz.ntmps48
          go_wp2_with fail
          refine (Valid_any n _ (by omega)).mono ?_
          rintro e w1 ⟨rfl, hb1⟩
          go_wp2_with fail
          refine (Valid_any a _ (by omega)).mono ?_
          rintro e w2 ⟨rfl, hb2⟩
          go_wp2_with fail
          go_ret
          exact ⟨by rw [HE2.out]; rfl, hb1.trans (hb2.mono hb1.size)⟩
        · have t2 := isEmpty_of_ne h2
          have HE2 : Hid (withinB n.data.toList a.data.toList = Lib.hasPrefix n.data.toList (a.data.toList ++ [46])) := by rw [HE.out, decide_eq_false h1, decide_eq_false h2]; rfl
          clear h1 h2 HE
          go_enter Tryz.func48, Tryz.ntmps48
          go_wp2_with fail
          refine (Valid_any n _ (by omega)).mono ?_
          rintro e w1 ⟨rfl, hb1⟩
          go_wp2_with fail
          refine (Valid_any a _ (by omega)).mono ?_
          rintro e w2 ⟨rfl, hb2⟩
          go_wp2_with fail
          refine (Tryz.strings_HasPrefix _ _ _).mono ?_
          rintro e w3 ⟨rfl, rfl⟩
          have hd : Lib.hasPrefix n.data.toList (a ++ ⟨#[46]⟩ : ByteArray).data.toList = withinB n.data.toList a.data.toList := by rw [HE2.out]; congr 1
          rw [hd]
          clear hd HE2
          generalize hr : withinB n.data.toList a.data.toList = r
          have HR := Lib.hid hr
          clear hr
          go_wp2_with fail
          go_ret
          exact ⟨by rw [HR.out]; rfl, hb1.trans (hb2.mono hb1.size)⟩
    · have hv2' : validB a.data.toList = false := by simpa using hv2
      have HE2 : Hid (withinB n.data.toList a.data.toList = false) := by simp [Hid, withinB, hv2']
      clear hv2
      go_enter Tryz.func48, Tryz.ntmps48
      go_wp2_with fail
      refine (Valid_any n _ (by omega)).mono ?_
      rintro e w1 ⟨rfl, hb1⟩
      go_wp2_with fail
      refine (Valid_any a _ (by omega)).mono ?_
      rintro e w2 ⟨rfl, hb2⟩
      go_wp2_with fail
      go_ret
      exact ⟨by rw [HE2.out]; rfl, hb1.trans (hb2.mono hb1.size)⟩
  · have hv' : validB n.data.toList = false := by simpa using hv
    have HE2 : Hid (withinB n.data.toList a.data.toList = false) := by simp [Hid, withinB, hv']
    clear hv
    go_enter Tryz.func48, Tryz.ntmps48
    go_wp2_with fail
    refine (Valid_any n _ (by omega)).mono ?_
    rintro e w1 ⟨rfl, hb1⟩
    go_wp2_with fail
    go_ret
    exact ⟨by rw [HE2.out]; rfl, hb1⟩

end Go.Proofs.YtnibcffcbnjllaaGreatDoor
