/- slices.Equal of numbers and of names. -/
import Derived.Test.YtnibcffcbnjllaaGreatDoorLaw1
namespace Go.Proofs.YtnibcffcbnjllaaGreatDoor
open Go.RowKit

set_option maxHeartbeats 1000000 in
theorem EqI_any (A A' : Option Addr) (n m c d : Nat) (xs ys : List Int) (w : World) (hn : n ≤ 4611686018427387904) (_hm : m ≤ 4611686018427387904)
    (ha : Row w w.heap.size 1 A n (xs.map encI)) (hb : Row w w.heap.size 1 A' m (ys.map encI)) :
    Calls Tryz.prog 55 #[.slice A n c, .slice A' m d] w fun e w' => e = .returned (.bool (decide (xs = ys))) ∧ ∃ q, w' = w.drewN q := by
  have hlx := Lib.hid ha.len1
  have hly := Lib.hid hb.len1
  by_cases hnm : n = m
  · have t : ((n : Int) != (m : Int)) = false := by simp [hnm]
    have HNM := Lib.hid hnm
    clear hnm
    go_enter Tryz.func55, Tryz.ntmps55
    go_wp2
    go_loopw [13] (fun i wr => ∃ k : Nat, k ≤ n ∧ i = .int .i64 k ∧ (∀ j, j < k → xs[j]? = ys[j]?) ∧ ∃ q, wr = w.drewN q) (fun i _ => n - (intOf i).toNat)
    case atStart => exact ⟨0, by omega, rfl, fun j hj => absurd hj (by omega), 0, rfl⟩
    case round =>
      obtain ⟨k, hk, rfl, hall, q, rfl⟩ := hrel
      have HALL := Lib.hid hall
      clear hall
      by_cases hlt : k < n
      · have hlt' : k < m := by have := HNM.out; omega
        obtain ⟨b1, o1, x, rfl, _, hx, cx⟩ := ha.int hlt
        obtain ⟨b2, o2, y, rfl, _, hy, cy⟩ := hb.int hlt'
        have HX := Lib.hid hx
        have HY := Lib.hid hy
        clear hx hy
        by_cases hxy : x = y
        · have t2 : (x != y) = false := by simp [hxy]
          have HXY := Lib.hid hxy
          clear hxy
          go_wp2
          go_quiet (fail)
          go_wp2
          go_roundw
          case rel => exact ⟨k + 1, by omega, by go_num, fun j hj => by
            rcases Nat.lt_or_ge j k with h | h
            · exact HALL.out j h
            · obtain rfl : j = k := by omega
              rw [HX.out, HY.out, HXY.out], _, by first | rfl | exact World.drewN_drewN _ _ _⟩
          case measure => simp [intOf]; omega
        · have t2 : (x != y) = true := by simp [hxy]
          go_wp2
          go_quiet (fail)
          go_wp2
          go_ret
          refine ⟨?_, _, by first | rfl | exact World.drewN_drewN _ _ _⟩
          rw [decide_eq_false (fun e => hxy (by have := HX.out; rw [e, HY.out] at this; injection this with this; exact this.symm))]
          rfl
      · go_wp2
        go_ret
        refine ⟨?_, _, rfl⟩
        rw [decide_eq_true (list_eq_of hlx.out (by rw [hly.out, HNM.out]) (fun j hj => HALL.out j (by omega)))]
        rfl
  · have t : ((n : Int) != (m : Int)) = true := by rw [bne_iff_ne]; omega
    go_enter Tryz.func55, Tryz.ntmps55
    go_wp2
    go_ret
    refine ⟨?_, 0, rfl⟩
    rw [decide_eq_false (fun e => hnm (by rw [← hlx.out, ← hly.out, e]))]
    rfl

set_option maxHeartbeats 1000000 in
theorem EqN_any (A A' : Option Addr) (n m c d : Nat) (xs ys : List Nm) (w : World) (hn : n ≤ 4611686018427387904) (_hm : m ≤ 4611686018427387904)
    (ha : Row w w.heap.size 1 A n (xs.map encN)) (hb : Row w w.heap.size 1 A' m (ys.map encN)) :
    Calls Tryz.prog 56 #[.slice A n c, .slice A' m d] w fun e w' => e = .returned (.bool (decide (xs = ys))) ∧ ∃ q, w' = w.drewN q := by
  have hlx := Lib.hid ha.len1
  have hly := Lib.hid hb.len1
  by_cases hnm : n = m
  · have t : ((n : Int) != (m : Int)) = false := by simp [hnm]
    have HNM := Lib.hid hnm
    clear hnm
    go_enter Tryz.func56, Tryz.ntmps56
    go_wp2
    go_loopw [13] (fun i wr => ∃ k : Nat, k ≤ n ∧ i = .int .i64 k ∧ (∀ j, j < k → xs[j]? = ys[j]?) ∧ ∃ q, wr = w.drewN q) (fun i _ => n - (intOf i).toNat)
    case atStart => exact ⟨0, by omega, rfl, fun j hj => absurd hj (by omega), 0, rfl⟩
    case round =>
      obtain ⟨k, hk, rfl, hall, q, rfl⟩ := hrel
      have HALL := Lib.hid hall
      clear hall
      by_cases hlt : k < n
      · have hlt' : k < m := by have := HNM.out; omega
        obtain ⟨b1, o1, x, rfl, _, hx, cx⟩ := ha.str hlt
        obtain ⟨b2, o2, y, rfl, _, hy, cy⟩ := hb.str hlt'
        have HX := Lib.hid hx
        have HY := Lib.hid hy
        clear hx hy
        by_cases hxy : x.data.toList = y.data.toList
        · have t3 := bytes_eq hxy
          have t2 : (!(x.toList == y.toList)) = false := by simp [t3]
          have HXY := Lib.hid hxy
          clear hxy
          go_wp2
          go_quiet (fail)
          go_wp2
          go_roundw
          case rel => exact ⟨k + 1, by omega, by go_num, fun j hj => by
            rcases Nat.lt_or_ge j k with h | h
            · exact HALL.out j h
            · obtain rfl : j = k := by omega
              rw [HX.out, HY.out, HXY.out], _, by first | rfl | exact World.drewN_drewN _ _ _⟩
          case measure => simp [intOf]; omega
        · have t3 := bytes_ne hxy
          have t2 : (!(x.toList == y.toList)) = true := by simp [t3]
          go_wp2
          go_quiet (fail)
          go_wp2
          go_ret
          refine ⟨?_, _, by first | rfl | exact World.drewN_drewN _ _ _⟩
          rw [decide_eq_false (fun e => hxy (by have := HX.out; rw [e, HY.out] at this; injection this with this; exact this.symm))]
          rfl
      · go_wp2
        go_ret
        refine ⟨?_, _, rfl⟩
        rw [decide_eq_true (list_eq_of hlx.out (by rw [hly.out, HNM.out]) (fun j hj => HALL.out j (by omega)))]
        rfl
  · have t : ((n : Int) != (m : Int)) = true := by rw [bne_iff_ne]; omega
    go_enter Tryz.func56, Tryz.ntmps56
    go_wp2
    go_ret
    refine ⟨?_, 0, rfl⟩
    rw [decide_eq_false (fun e => hnm (by rw [← hlx.out, ← hly.out, e]))]
    rfl

end Go.Proofs.YtnibcffcbnjllaaGreatDoor
