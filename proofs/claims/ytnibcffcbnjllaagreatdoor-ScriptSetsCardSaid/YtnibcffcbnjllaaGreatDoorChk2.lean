/- (Packet).Check, (Input).superfluous, checkInstall: each returns some number (or Bool) and does not panic. -/
import Derived.Test.YtnibcffcbnjllaaGreatDoorChk1
namespace Go.Proofs.YtnibcffcbnjllaaGreatDoor
open Go.RowKit

set_option maxHeartbeats 1000000 in
theorem PacketCheck_any (f t : ByteArray) (w : World) (hf : f.size ≤ 9223372036854775000) : Calls Tryz.prog 67 #[.agg #[.string f, .string t]] w fun e w' => SomeInt w e w' := by
  have hW := fun W => Word_any f W hf
  have HW := Lib.hid hW
  clear hW
  go_enter Tryz.func67, Tryz.ntmps67
  go_wp2_with fail
  refine (HW.out _).mono ?_
  rintro e w1 ⟨r, rfl, hb1⟩
  have hb : Below w.heap.size w w1 := ((Below.refl _ w).alloc (Nat.le_refl _) _).trans (hb1.mono (by simp))
  obtain ⟨hc, hfz⟩ := bcell hb1
  have hz : w.heap.size < w1.heap.size := by have := hb1.size; simp at this; omega
  cases r with
  | false =>
    go_wp2_with fail
    go_ret
    exact ⟨_, rfl, hb⟩
  | true =>
    go_wp2_with fail
    all_goals
      go_ret
      exact ⟨_, rfl, hb⟩

/-- What superfluous says of an Advance. -/
def SupRes (w : World) (k : Int) (f d t : ByteArray) (e : Ending) (w' : World) : Prop :=
  ∃ r : Bool, e = .returned (.bool r) ∧ Below w.heap.size w w' ∧ (k = 4 → f.data.toList = [] → d.data.toList = [] → t.data.toList = [] → r = false)

set_option maxRecDepth 100000 in
set_option maxHeartbeats 1000000 in
theorem superfluous_any (k n : Int) (f d t : ByteArray) (w : World) :
    Calls Tryz.prog 65 #[.agg #[.int .i64 k, .int .i64 n, .string f, .string d, .string t]] w fun e w' => SupRes w k f d t e w' := by
  by_cases h4 : k = 4
  · subst h4
    by_cases hf : f.data.toList = []
    · by_cases hd : d.data.toList = []
      · by_cases ht : t.data.toList = []
        · have e1 := isEmpty_of_nil hf
          have e2 := isEmpty_of_nil hd
          have e3 := isEmpty_of_nil ht
          clear hf hd ht
          go_enter Tryz.func65, Tryz.ntmps65
          go_wp2
          go_ret
          exact ⟨_, rfl, (Below.refl _ w).alloc (Nat.le_refl _) _, fun _ _ _ _ => rfl⟩
        · have HT := Lib.hid ht
          clear ht hf hd
          go_enter Tryz.func65, Tryz.ntmps65
          go_wp2
          all_goals
            go_ret
            exact ⟨_, rfl, (Below.refl _ w).alloc (Nat.le_refl _) _, fun _ _ _ h => absurd h HT.out⟩
      · have HT := Lib.hid hd
        clear hf hd
        go_enter Tryz.func65, Tryz.ntmps65
        go_wp2
        all_goals
          go_ret
          exact ⟨_, rfl, (Below.refl _ w).alloc (Nat.le_refl _) _, fun _ _ h _ => absurd h HT.out⟩
    · have HT := Lib.hid hf
      clear hf
      go_enter Tryz.func65, Tryz.ntmps65
      go_wp2
      all_goals
        go_ret
        exact ⟨_, rfl, (Below.refl _ w).alloc (Nat.le_refl _) _, fun _ h _ _ => absurd h HT.out⟩
  · have HK := Lib.hid h4
    have t4 : (k == 4) = false := by simp [h4]
    clear h4
    by_cases h5 : k = 5
    · subst h5
      go_enter Tryz.func65, Tryz.ntmps65
      go_wp2
      all_goals
        go_ret
        exact ⟨_, rfl, (Below.refl _ w).alloc (Nat.le_refl _) _, fun h _ _ _ => absurd h HK.out⟩
    · have t5 : (k == 5) = false := by simp [h5]
      clear h5
      go_enter Tryz.func65, Tryz.ntmps65
      go_wp2
      all_goals
        go_ret
        exact ⟨_, rfl, (Below.refl _ w).alloc (Nat.le_refl _) _, fun h _ _ _ => absurd h HK.out⟩

set_option maxRecDepth 100000 in
set_option maxHeartbeats 1000000 in
theorem checkInstall_any (k n : Int) (f d t : ByteArray) (w : World) :
    Calls Tryz.prog 69 #[.agg #[.int .i64 k, .int .i64 n, .string f, .string d, .string t]] w fun e w' => SomeInt w e w' := by
  go_enter Tryz.func69, Tryz.ntmps69
  go_wp2
  all_goals
    go_ret
    exact ⟨_, rfl, (Below.refl _ w).alloc (Nat.le_refl _) _⟩

end Go.Proofs.YtnibcffcbnjllaaGreatDoor
