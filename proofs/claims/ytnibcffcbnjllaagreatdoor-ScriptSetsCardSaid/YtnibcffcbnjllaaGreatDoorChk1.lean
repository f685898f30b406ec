/- The checks of texts: each returns some number (or Bool) and does not panic. -/
import Derived.Test.YtnibcffcbnjllaaGreatDoorLaw2
import Derived.Test.YtnibcffcbnjllaaGreatDoorScr2
namespace Go.Proofs.YtnibcffcbnjllaaGreatDoor
open Go.RowKit

theorem size_nm0 (s : ByteArray) : s.size = s.data.toList.length := by rw [Array.length_toList]; rfl
/-- Some number came back; nothing that lay was turned. -/
def SomeInt (w : World) (e : Ending) (w' : World) : Prop := ∃ r : Int, e = .returned (.int .i64 r) ∧ Below w.heap.size w w'
def SomeBool (w : World) (e : Ending) (w' : World) : Prop := ∃ r : Bool, e = .returned (.bool r) ∧ Below w.heap.size w w'
def ScanRel (s : ByteArray) (i : Value) : Prop := ∃ k : Nat, k ≤ s.size ∧ i = .int .i64 (k : Int)

set_option maxRecDepth 100000 in
set_option maxHeartbeats 1000000 in
theorem CheckLine_any (s : ByteArray) (w : World) (hs : s.size ≤ 9223372036854775000) : Calls Tryz.prog 66 #[.string s] w fun e w' => SomeInt w e w' := by
  go_enter Tryz.func66, Tryz.ntmps66
  go_wp2
  all_goals first
    | (go_ret; exact ⟨_, rfl, Below.refl _ _⟩)
    | (go_loop [9] (ScanRel s) (fun i => s.size - (intOf i).toNat)
       case atStart => exact ⟨0, by omega, rfl⟩
       case round =>
         obtain ⟨k, hk, rfl⟩ := hrel
         by_cases hlt : k < s.size
         · go_wp2
           all_goals first
             | (go_ret; exact ⟨_, rfl, Below.refl _ _⟩)
             | (go_round
                case rel => exact ⟨k + 1, by omega, by go_num⟩
                case measure => simp [intOf]; omega)
         · go_wp2
           go_ret
           exact ⟨_, rfl, Below.refl _ _⟩)

set_option maxRecDepth 100000 in
set_option maxHeartbeats 1000000 in
theorem Word_any (s : ByteArray) (w : World) (hs : s.size ≤ 9223372036854775000) : Calls Tryz.prog 93 #[.string s] w fun e w' => SomeBool w e w' := by
  by_cases h0 : s.data.toList = []
  · have hem := isEmpty_of_nil h0
    clear h0
    go_enter Tryz.func93, Tryz.ntmps93
    go_wp2
    go_ret
    exact ⟨_, rfl, Below.refl _ _⟩
  · have hem := isEmpty_of_ne h0
    clear h0
    by_cases h32 : 32 < s.size
    · go_enter Tryz.func93, Tryz.ntmps93
      go_wp2
      go_ret
      exact ⟨_, rfl, Below.refl _ _⟩
    · go_enter Tryz.func93, Tryz.ntmps93
      go_wp2
      go_loop [13] (ScanRel s) (fun i => s.size - (intOf i).toNat)
      case atStart => exact ⟨0, by omega, rfl⟩
      case round =>
        obtain ⟨k, hk, rfl⟩ := hrel
        by_cases hlt : k < s.size
        · by_cases g1 : s[k].toNat < 33
          · go_wp2
            all_goals first
              | (go_ret; exact ⟨_, rfl, Below.refl _ _⟩)
              | (go_round
                 case rel => exact ⟨k + 1, by omega, by go_num⟩
                 case measure => simp [intOf]; omega)
          · by_cases g2 : 126 < s[k].toNat
            · go_wp2
              all_goals first
                | (go_ret; exact ⟨_, rfl, Below.refl _ _⟩)
                | (go_round
                   case rel => exact ⟨k + 1, by omega, by go_num⟩
                   case measure => simp [intOf]; omega)
            · by_cases g3 : s[k].toNat = 47
              · go_wp2
                all_goals first
                  | (go_ret; exact ⟨_, rfl, Below.refl _ _⟩)
                  | (go_round
                     case rel => exact ⟨k + 1, by omega, by go_num⟩
                     case measure => simp [intOf]; omega)
              · go_wp2
                all_goals first
                  | (go_ret; exact ⟨_, rfl, Below.refl _ _⟩)
                  | (go_round
                     case rel => exact ⟨k + 1, by omega, by go_num⟩
                     case measure => simp [intOf]; omega)
        · go_wp2
          go_ret
          exact ⟨_, rfl, Below.refl _ _⟩
set_option maxRecDepth 100000 in
set_option maxHeartbeats 1000000 in
theorem CheckName_any (s : ByteArray) (w : World) (hs : s.size ≤ 9223372036854775000) : Calls Tryz.prog 94 #[.string s] w fun e w' => SomeInt w e w' := by
  by_cases h0 : s.data.toList = []
  · have hem := isEmpty_of_nil h0
    clear h0
    go_enter Tryz.func94, Tryz.ntmps94
    go_wp2
    go_ret
    exact ⟨_, rfl, Below.refl _ _⟩
  · have hem := isEmpty_of_ne h0
    have hpos : 0 < s.size := by
      have := size_nm0 s
      have := List.length_pos_iff.2 h0
      omega
    clear h0
    by_cases h32 : 32 < s.size
    · go_enter Tryz.func94, Tryz.ntmps94
      go_wp2
      all_goals
        go_ret
        exact ⟨_, rfl, Below.refl _ _⟩
    · by_cases f1 : s[0].toNat < 97
      · go_enter Tryz.func94, Tryz.ntmps94
        go_wp2
        all_goals
          go_ret
          exact ⟨_, rfl, Below.refl _ _⟩
      · by_cases f2 : 122 < s[0].toNat
        · go_enter Tryz.func94, Tryz.ntmps94
          go_wp2
          all_goals
            go_ret
            exact ⟨_, rfl, Below.refl _ _⟩
        · go_enter Tryz.func94, Tryz.ntmps94
          go_wp2
          all_goals first
            | (go_ret; exact ⟨_, rfl, Below.refl _ _⟩)
            | skip
          go_loop [24] (ScanRel s) (fun i => s.size - (intOf i).toNat)
          case atStart => exact ⟨0, by omega, rfl⟩
          case round =>
            obtain ⟨k, hk, rfl⟩ := hrel
            by_cases hlt : k < s.size
            · by_cases g1 : s[k].toNat < 97
              · by_cases g3 : s[k].toNat < 48
                · go_wp2
                  all_goals first
                    | (go_ret; exact ⟨_, rfl, Below.refl _ _⟩)
                    | (go_round
                       case rel => exact ⟨k + 1, by omega, by go_num⟩
                       case measure => simp [intOf]; omega)
                · by_cases g4 : 57 < s[k].toNat
                  · go_wp2
                    all_goals first
                      | (go_ret; exact ⟨_, rfl, Below.refl _ _⟩)
                      | (go_round
                         case rel => exact ⟨k + 1, by omega, by go_num⟩
                         case measure => simp [intOf]; omega)
                  · go_wp2
                    all_goals first
                      | (go_ret; exact ⟨_, rfl, Below.refl _ _⟩)
                      | (go_round
                         case rel => exact ⟨k + 1, by omega, by go_num⟩
                         case measure => simp [intOf]; omega)
              · by_cases g2 : 122 < s[k].toNat
                · go_wp2
                  all_goals first
                    | (go_ret; exact ⟨_, rfl, Below.refl _ _⟩)
                    | (go_round
                       case rel => exact ⟨k + 1, by omega, by go_num⟩
                       case measure => simp [intOf]; omega)
                · go_wp2
                  all_goals first
                    | (go_ret; exact ⟨_, rfl, Below.refl _ _⟩)
                    | (go_round
                       case rel => exact ⟨k + 1, by omega, by go_num⟩
                       case measure => simp [intOf]; omega)
            · go_wp2
              go_ret
              exact ⟨_, rfl, Below.refl _ _⟩
set_option maxRecDepth 100000 in
set_option maxHeartbeats 1000000 in
theorem checkHost_any (s : ByteArray) (w : World) (hs : s.size ≤ 9223372036854775000) : Calls Tryz.prog 120 #[.string s] w fun e w' => SomeInt w e w' := by
  go_enter Tryz.func120, Tryz.ntmps120
  go_wp2
  all_goals first
    | (go_ret; exact ⟨_, rfl, Below.refl _ _⟩)
    | (go_loop [10] (ScanRel s) (fun i => s.size - (intOf i).toNat)
       case atStart => exact ⟨0, by omega, rfl⟩
       case round =>
         obtain ⟨k, hk, rfl⟩ := hrel
         by_cases hlt : k < s.size
         · go_wp2
           all_goals first
             | (go_ret; exact ⟨_, rfl, Below.refl _ _⟩)
             | (go_round
                case rel => exact ⟨k + 1, by omega, by go_num⟩
                case measure => simp [intOf]; omega)
         · go_wp2
           go_ret
           exact ⟨_, rfl, Below.refl _ _⟩)

end Go.Proofs.YtnibcffcbnjllaaGreatDoor
