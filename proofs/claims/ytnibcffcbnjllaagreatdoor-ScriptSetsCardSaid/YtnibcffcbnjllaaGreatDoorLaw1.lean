/- Contracts of the small loops of the statement's own file: sameNumbers, sameNames, has, listed, long, few. -/
import Derived.Test.YtnibcffcbnjllaaGreatDoorBase
namespace Go.Proofs.YtnibcffcbnjllaaGreatDoor
open Go.RowKit

theorem Row.int {w : World} {B n k : Nat} {A : Option Addr} {xs : List Int} (h : Row w B 1 A n (xs.map encI)) (hk : k < n) : ∃ b off x, A = some ⟨b, off, none⟩ ∧ b < B ∧ xs[k]? = some x ∧ w.cell? ⟨b, off + k, none⟩ = some (.int .i64 x) := by
  obtain ⟨b, off, u, e, hb, hu, hc⟩ := h.at1 hk
  rw [List.getElem?_map] at hu
  obtain ⟨x, hx, rfl⟩ := Option.map_eq_some_iff.1 hu
  exact ⟨b, off, x, e, hb, hx, hc⟩
theorem Row.str {w : World} {B n k : Nat} {A : Option Addr} {xs : List Nm} (h : Row w B 1 A n (xs.map encN)) (hk : k < n) : ∃ (b off : Nat) (s : ByteArray), A = some ⟨b, off, none⟩ ∧ b < B ∧ xs[k]? = some s.data.toList ∧ w.cell? ⟨b, off + k, none⟩ = some (.string s) := by
  obtain ⟨b, off, u, e, hb, hu, hc⟩ := h.at1 hk
  rw [List.getElem?_map] at hu
  obtain ⟨x, hx, rfl⟩ := Option.map_eq_some_iff.1 hu
  exact ⟨b, off, ⟨x.toArray⟩, e, hb, hx, hc⟩
theorem Row.len1 {α : Type} {w : World} {B n : Nat} {A : Option Addr} {f : α → Value} {xs : List α} (h : Row w B 1 A n (xs.map f)) : xs.length = n := by
  have := h.1; simpa using this

theorem list_eq_of {α : Type} {xs ys : List α} {n : Nat} (hx : xs.length = n) (hy : ys.length = n) (h : ∀ j, j < n → xs[j]? = ys[j]?) : xs = ys := by
  apply List.ext_getElem?
  intro i
  rcases Nat.lt_or_ge i n with hi | hi
  · exact h i hi
  · rw [List.getElem?_eq_none (by omega), List.getElem?_eq_none (by omega)]

set_option maxHeartbeats 1000000 in
theorem sameNumbers_any (A A' : Option Addr) (n m c d : Nat) (xs ys : List Int) (w : World) (hn : n ≤ 4611686018427387904) (_hm : m ≤ 4611686018427387904)
    (ha : Row w w.heap.size 1 A n (xs.map encI)) (hb : Row w w.heap.size 1 A' m (ys.map encI)) :
    Calls Tryz.prog 13 #[.slice A n c, .slice A' m d] w fun e w' => e = .returned (.bool (decide (xs = ys))) ∧ ∃ q, w' = w.drewN q := by
  have hlx := Lib.hid ha.len1
  have hly := Lib.hid hb.len1
  by_cases hnm : n = m
  · have t : ((n : Int) != (m : Int)) = false := by simp [hnm]
    have HNM := Lib.hid hnm
    clear hnm
    go_enter Tryz.func13, Tryz.ntmps13
    go_wp2
    go_loopw [5] (fun i wr => ∃ k : Nat, k ≤ n ∧ i = .int .i64 k ∧ (∀ j, j < k → xs[j]? = ys[j]?) ∧ ∃ q, wr = w.drewN q) (fun i _ => n - (intOf i).toNat)
    case atStart => exact ⟨0, by omega, rfl, fun j hj => absurd hj (by omega), 0, rfl⟩
    case round =>
      obtain ⟨k, hk, rfl, hall, q, rfl⟩ := hrel
      have HALL := Lib.hid hall
      clear hall
      by_cases hlt : k < n
      · have hlt' : k < m := by have := HNM.out; omega
        obtain ⟨b1, o1, x, rfl, _, hx, cx⟩ := ha.int hlt
        obtain ⟨b2, o2, y, rfl, _, hy, cy⟩ := hb.int hlt'
        have HX := Lib.hid hx
        have HY := Lib.hid hy
        clear hx hy
        by_cases hxy : x = y
        · have t2 : (x != y) = false := by simp [hxy]
          have HXY := Lib.hid hxy
          clear hxy
          go_wp2
          go_quiet (fail)
          go_wp2
          go_roundw
          case rel => exact ⟨k + 1, by omega, by go_num, fun j hj => by
            rcases Nat.lt_or_ge j k with h | h
            · exact HALL.out j h
            · obtain rfl : j = k := by omega
              rw [HX.out, HY.out, HXY.out], _, by first | rfl | exact World.drewN_drewN _ _ _⟩
          case measure => simp [intOf]; omega
        · have t2 : (x != y) = true := by simp [hxy]
          go_wp2
          go_quiet (fail)
          go_wp2
          go_ret
          refine ⟨?_, _, by first | rfl | exact World.drewN_drewN _ _ _⟩
          rw [decide_eq_false (fun e => hxy (by have := HX.out; rw [e, HY.out] at this; injection this with this; exact this.symm))]
          rfl
      · go_wp2
        go_ret
        refine ⟨?_, _, rfl⟩
        rw [decide_eq_true (list_eq_of hlx.out (by rw [hly.out, HNM.out]) (fun j hj => HALL.out j (by omega)))]
        rfl
  · have t : ((n : Int) != (m : Int)) = true := by rw [bne_iff_ne]; omega
    go_enter Tryz.func13, Tryz.ntmps13
    go_wp2
    go_ret
    refine ⟨?_, 0, rfl⟩
    rw [decide_eq_false (fun e => hnm (by rw [← hlx.out, ← hly.out, e]))]
    rfl

set_option maxHeartbeats 1000000 in
theorem sameNames_any (A A' : Option Addr) (n m c d : Nat) (xs ys : List Nm) (w : World) (hn : n ≤ 4611686018427387904) (_hm : m ≤ 4611686018427387904)
    (ha : Row w w.heap.size 1 A n (xs.map encN)) (hb : Row w w.heap.size 1 A' m (ys.map encN)) :
    Calls Tryz.prog 14 #[.slice A n c, .slice A' m d] w fun e w' => e = .returned (.bool (decide (xs = ys))) ∧ ∃ q, w' = w.drewN q := by
  have hlx := Lib.hid ha.len1
  have hly := Lib.hid hb.len1
  by_cases hnm : n = m
  · have t : ((n : Int) != (m : Int)) = false := by simp [hnm]
    have HNM := Lib.hid hnm
    clear hnm
    go_enter Tryz.func14, Tryz.ntmps14
    go_wp2
    go_loopw [5] (fun i wr => ∃ k : Nat, k ≤ n ∧ i = .int .i64 k ∧ (∀ j, j < k → xs[j]? = ys[j]?) ∧ ∃ q, wr = w.drewN q) (fun i _ => n - (intOf i).toNat)
    case atStart => exact ⟨0, by omega, rfl, fun j hj => absurd hj (by omega), 0, rfl⟩
    case round =>
      obtain ⟨k, hk, rfl, hall, q, rfl⟩ := hrel
      have HALL := Lib.hid hall
      clear hall
      by_cases hlt : k < n
      · have hlt' : k < m := by have := HNM.out; omega
        obtain ⟨b1, o1, x, rfl, _, hx, cx⟩ := ha.str hlt
        obtain ⟨b2, o2, y, rfl, _, hy, cy⟩ := hb.str hlt'
        have HX := Lib.hid hx
        have HY := Lib.hid hy
        clear hx hy
        by_cases hxy : x.data.toList = y.data.toList
        · have t3 := bytes_eq hxy
          have t2 : (!(x.toList == y.toList)) = false := by simp [t3]
          have HXY := Lib.hid hxy
          clear hxy
          go_wp2
          go_quiet (fail)
          go_wp2
          go_roundw
          case rel => exact ⟨k + 1, by omega, by go_num, fun j hj => by
            rcases Nat.lt_or_ge j k with h | h
            · exact HALL.out j h
            · obtain rfl : j = k := by omega
              rw [HX.out, HY.out, HXY.out], _, by first | rfl | exact World.drewN_drewN _ _ _⟩
          case measure => simp [intOf]; omega
        · have t3 := bytes_ne hxy
          have t2 : (!(x.toList == y.toList)) = true := by simp [t3]
          go_wp2
          go_quiet (fail)
          go_wp2
          go_ret
          refine ⟨?_, _, by first | rfl | exact World.drewN_drewN _ _ _⟩
          rw [decide_eq_false (fun e => hxy (by have := HX.out; rw [e, HY.out] at this; injection this with this; exact this.symm))]
          rfl
      · go_wp2
        go_ret
        refine ⟨?_, _, rfl⟩
        rw [decide_eq_true (list_eq_of hlx.out (by rw [hly.out, HNM.out]) (fun j hj => HALL.out j (by omega)))]
        rfl
  · have t : ((n : Int) != (m : Int)) = true := by rw [bne_iff_ne]; omega
    go_enter Tryz.func14, Tryz.ntmps14
    go_wp2
    go_ret
    refine ⟨?_, 0, rfl⟩
    rw [decide_eq_false (fun e => hnm (by rw [← hlx.out, ← hly.out, e]))]
    rfl

set_option maxHeartbeats 1000000 in
theorem has_any (A : Option Addr) (n c : Nat) (xs : List Int) (x : Int) (w : World) (hn : n ≤ 4611686018427387904) (ha : Row w w.heap.size 1 A n (xs.map encI)) :
    Calls Tryz.prog 21 #[.slice A n c, .int .i64 x] w fun e w' => e = .returned (.bool (decide (x ∈ xs))) ∧ w = w' := by
  have hlx := Lib.hid ha.len1
  go_enter Tryz.func21, Tryz.ntmps21
  go_wp2
  go_loop [5] (fun i => ∃ k : Nat, k ≤ n ∧ i = .int .i64 k ∧ (∀ j, j < k → xs[j]? ≠ some x)) (fun i => n - (intOf i).toNat)
  case atStart => exact ⟨0, by omega, rfl, fun j hj => absurd hj (by omega)⟩
  case round =>
    obtain ⟨k, hk, rfl, hall⟩ := hrel
    have HALL := Lib.hid hall
    clear hall
    by_cases hlt : k < n
    · obtain ⟨b1, o1, y, rfl, _, hy, cy⟩ := ha.int hlt
      have HY := Lib.hid hy
      clear hy
      by_cases hxy : y = x
      · have t2 : (y == x) = true := by simp [hxy]
        have HXY := Lib.hid hxy
        clear hxy
        go_wp2
        go_ret
        refine ⟨?_, rfl⟩
        rw [decide_eq_true (List.mem_of_getElem? (by rw [HY.out, HXY.out]))]
        rfl
      · have t2 : (y == x) = false := by simp [hxy]
        go_wp2
        go_round
        case rel => exact ⟨k + 1, by omega, by go_num, fun j hj => by
          rcases Nat.lt_or_ge j k with h | h
          · exact HALL.out j h
          · obtain rfl : j = k := by omega
            rw [HY.out]; simpa using hxy⟩
        case measure => simp [intOf]; omega
    · go_wp2
      go_ret
      refine ⟨?_, rfl⟩
      rw [decide_eq_false (fun hm => by
        obtain ⟨j, hj⟩ := List.getElem?_of_mem hm
        have hjl := (List.getElem?_eq_some_iff.1 hj).1
        exact HALL.out j (by rw [hlx.out] at hjl; omega) hj)]
      rfl

set_option maxHeartbeats 1000000 in
theorem listed_any (A : Option Addr) (n c : Nat) (xs : List Nm) (x : ByteArray) (w : World) (hn : n ≤ 4611686018427387904) (ha : Row w w.heap.size 1 A n (xs.map encN)) :
    Calls Tryz.prog 25 #[.slice A n c, .string x] w fun e w' => e = .returned (.bool (decide (x.data.toList ∈ xs))) ∧ w = w' := by
  have hlx := Lib.hid ha.len1
  go_enter Tryz.func25, Tryz.ntmps25
  go_wp2
  go_loop [5] (fun i => ∃ k : Nat, k ≤ n ∧ i = .int .i64 k ∧ (∀ j, j < k → xs[j]? ≠ some x.data.toList)) (fun i => n - (intOf i).toNat)
  case atStart => exact ⟨0, by omega, rfl, fun j hj => absurd hj (by omega)⟩
  case round =>
    obtain ⟨k, hk, rfl, hall⟩ := hrel
    have HALL := Lib.hid hall
    clear hall
    by_cases hlt : k < n
    · obtain ⟨b1, o1, y, rfl, _, hy, cy⟩ := ha.str hlt
      have HY := Lib.hid hy
      clear hy
      by_cases hxy : y.data.toList = x.data.toList
      · have t2 := bytes_eq hxy
        have HXY := Lib.hid hxy
        clear hxy
        go_wp2
        go_ret
        refine ⟨?_, rfl⟩
        rw [decide_eq_true (List.mem_of_getElem? (by rw [HY.out, HXY.out]))]
        rfl
      · have t2 := bytes_ne hxy
        go_wp2
        go_round
        case rel => exact ⟨k + 1, by omega, by go_num, fun j hj => by
          rcases Nat.lt_or_ge j k with h | h
          · exact HALL.out j h
          · obtain rfl : j = k := by omega
            rw [HY.out]; simpa using hxy⟩
        case measure => simp [intOf]; omega
    · go_wp2
      go_ret
      refine ⟨?_, rfl⟩
      rw [decide_eq_false (fun hm => by
        obtain ⟨j, hj⟩ := List.getElem?_of_mem hm
        have hjl := (List.getElem?_eq_some_iff.1 hj).1
        exact HALL.out j (by rw [hlx.out] at hjl; omega) hj)]
      rfl

/-- Whether there are more than 100 names, or one of more than 100 bytes. -/
def longB (xs : List Nm) : Bool := xs.any (fun x => decide (100 < x.length)) || decide (100 < xs.length)

set_option maxHeartbeats 1000000 in
theorem long_any (A : Option Addr) (n c : Nat) (xs : List Nm) (w : World) (hn : n ≤ 4611686018427387904) (ha : Row w w.heap.size 1 A n (xs.map encN)) :
    Calls Tryz.prog 35 #[.slice A n c] w fun e w' => e = .returned (.bool (longB xs)) ∧ w = w' := by
  have hlx := Lib.hid ha.len1
  go_enter Tryz.func35, Tryz.ntmps35
  go_wp2
  go_loop [3] (fun i => ∃ k : Nat, k ≤ n ∧ i = .int .i64 k ∧ (∀ j x, j < k → xs[j]? = some x → x.length ≤ 100)) (fun i => n - (intOf i).toNat)
  case atStart => exact ⟨0, by omega, rfl, fun j _ hj => absurd hj (by omega)⟩
  case round =>
    obtain ⟨k, hk, rfl, hall⟩ := hrel
    have HALL := Lib.hid hall
    clear hall
    by_cases hlt : k < n
    · obtain ⟨b1, o1, y, rfl, _, hy, cy⟩ := ha.str hlt
      have HY := Lib.hid hy
      clear hy
      by_cases hxy : 100 < y.size
      · go_wp2
        go_ret
        refine ⟨?_, rfl⟩
        have e : longB xs = true := by
          unfold longB
          rw [List.any_eq_true.2 ⟨_, List.mem_of_getElem? HY.out, by simpa using hxy⟩]
          rfl
        rw [e]
        rfl
      · go_wp2
        go_round
        case rel => exact ⟨k + 1, by omega, by go_num, fun j z hj hz => by
          rcases Nat.lt_or_ge j k with h | h
          · exact HALL.out j z h hz
          · obtain rfl : j = k := by omega
            rw [HY.out] at hz; injection hz with hz; subst hz; simp; omega⟩
        case measure => simp [intOf]; omega
    · have e : longB xs = decide (100 < n) := by
        unfold longB
        have h0 : xs.any (fun x => decide (100 < x.length)) = false := by
          rw [List.any_eq_false]
          intro x hx
          obtain ⟨j, hj⟩ := List.getElem?_of_mem hx
          have hjl := (List.getElem?_eq_some_iff.1 hj).1
          have := HALL.out j x (by rw [hlx.out] at hjl; omega) hj
          simp; omega
        rw [h0, hlx.out]
        rfl
      have HE := Lib.hid e
      clear e
      go_wp2
      go_ret
      refine ⟨?_, rfl⟩
      rw [HE.out]
      have e2 : decide (100 < (n : Int)) = decide (100 < n) := by rw [Bool.eq_iff_iff]; simp; omega
      rw [← e2]
      rfl

end Go.Proofs.YtnibcffcbnjllaaGreatDoor
