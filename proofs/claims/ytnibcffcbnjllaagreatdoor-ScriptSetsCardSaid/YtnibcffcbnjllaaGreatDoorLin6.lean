/- slices.Compare at ints, lineage.Compare at valid names. -/
import Derived.Test.YtnibcffcbnjllaaGreatDoorStep1
import Derived.Test.YtnibcffcbnjllaaGreatDoorDrawn
namespace Go.Proofs.YtnibcffcbnjllaaGreatDoor
open Go.RowKit Go.Sort

/-- A world of which all that lay is as it was, and in which no draw was taken back. -/
theorem grow_of_below {w w' : World} (h : Below w.heap.size w w') (hd : w.drawn ≤ w'.drawn) : ∃ q os, w' = grow (w.drewN q) os := by
  refine ⟨w'.drawn - w.drawn, w'.heap.extract w.heap.size w'.heap.size, ?_⟩
  obtain ⟨heap, tape, drawn, os, output⟩ := w'
  obtain ⟨h1, h2, h3, h4, h5⟩ := h
  simp only at h1 h2 h3 h4 h5 hd
  subst h1 h2 h3
  have hh : heap = w.heap ++ heap.extract w.heap.size heap.size := by
    apply Array.ext
    · simp; omega
    · intro i hi1 hi2
      rcases Nat.lt_or_ge i w.heap.size with hlt | hge
      · have := h5 i hlt
        rw [Array.getElem?_eq_getElem hi1, Array.getElem?_eq_getElem hlt] at this
        injection this with this
        rw [this, Array.getElem_append_left hlt]
      · rw [Array.getElem_append_right hge]
        simp
        congr 1
        omega
  have hdr : drawn = w.drawn + (drawn - w.drawn) := by omega
  show (⟨heap, w.tape, drawn, w.os, w.output⟩ : World) = ⟨w.heap ++ heap.extract w.heap.size heap.size, w.tape, w.drawn + (drawn - w.drawn), w.os, w.output⟩
  rw [← hh, ← hdr]

theorem calls_grow {P : Program} {f : FuncId} {args : Array Value} {w : World} {v : Value} (h : Calls P f args w fun e w' => e = .returned v ∧ Below w.heap.size w w') :
    Calls P f args w fun e w' => e = .returned v ∧ ∃ q os, w' = grow (w.drewN q) os :=
  (calls_drawn h (fun w' hh => by cases hh.1)).mono fun _ _ ⟨⟨he, hb⟩, hd⟩ => ⟨he, grow_of_below hb hd⟩

/-- Lists of numbers, compared number by number. -/
def cmpL : List Nat → List Nat → Int
  | [], [] => 0
  | [], _ :: _ => -1
  | _ :: _, [] => 1
  | x :: xs, y :: ys => if x < y then -1 else if y < x then 1 else cmpL xs ys

theorem cmpL_drop {xs ys : List Nat} : ∀ (k : Nat), (∀ j, j < k → xs[j]? = ys[j]?) → k ≤ xs.length → k ≤ ys.length → cmpL xs ys = cmpL (xs.drop k) (ys.drop k)
  | 0, _, _, _ => by simp
  | k + 1, h, hx, hy => by
    rw [cmpL_drop k (fun j hj => h j (by omega)) (by omega) (by omega)]
    rw [List.drop_eq_getElem_cons (i := k) (by omega), List.drop_eq_getElem_cons (l := ys) (i := k) (by omega)]
    have e := h k (by omega)
    rw [List.getElem?_eq_getElem (by omega), List.getElem?_eq_getElem (by omega)] at e
    injection e with e
    rw [cmpL, if_neg (by omega), if_neg (by omega)]

set_option maxHeartbeats 1000000 in
theorem sliceCompare_any (A A' : Option Addr) (n m c d : Nat) (xs ys : List Nat) (w : World) (hn : n ≤ 1000) (hm : m ≤ 1000) (hbx : ∀ x ∈ xs, x ≤ 10000000) (hby : ∀ x ∈ ys, x ≤ 10000000)
    (ha : Row w w.heap.size 1 A n (xs.map encNat)) (hb : Row w w.heap.size 1 A' m (ys.map encNat)) :
    Calls Tryz.prog 135 #[.slice A n c, .slice A' m d] w fun e w' => e = .returned (.int .i64 (cmpL xs ys)) ∧ w = w' := by
  have hlx := Lib.hid ha.len1
  have hly := Lib.hid hb.len1
  have HBX := Lib.hid hbx
  have HBY := Lib.hid hby
  clear hbx hby
  go_enter Tryz.func135, Tryz.ntmps135
  go_wp2
  go_loop [11] (fun i => ∃ k : Nat, k ≤ n ∧ k ≤ m ∧ i = .int .i64 k ∧ (∀ j, j < k → xs[j]? = ys[j]?)) (fun i => n - (intOf i).toNat)
  case atStart => exact ⟨0, by omega, by omega, rfl, fun j hj => absurd hj (by omega)⟩
  case round =>
    obtain ⟨k, hk, hkm, rfl, hall⟩ := hrel
    have hd := cmpL_drop k hall (by rw [hlx.out]; exact hk) (by rw [hly.out]; exact hkm)
    have HD := Lib.hid hd
    have HALL := Lib.hid hall
    clear hall hd
    by_cases hlt : k < n
    · obtain ⟨b1, o1, u, rfl, _, hx0, cx⟩ := ha.at1 hlt
      rw [List.getElem?_map] at hx0
      obtain ⟨x, hx, rfl⟩ := Option.map_eq_some_iff.1 hx0
      clear hx0
      have hxb := HBX.out x (List.mem_of_getElem? hx)
      have hdx : xs.drop k = x :: xs.drop (k + 1) := by
        have hl := (List.getElem?_eq_some_iff.1 hx).1
        rw [List.drop_eq_getElem_cons hl, (List.getElem?_eq_some_iff.1 hx).2]
      have HX := Lib.hid hx
      have HDX := Lib.hid hdx
      clear hx hdx
      unfold encNat at cx
      by_cases hltm : k < m
      · obtain ⟨b2, o2, u, rfl, _, hy0, cy⟩ := hb.at1 hltm
        rw [List.getElem?_map] at hy0
        obtain ⟨y, hy, rfl⟩ := Option.map_eq_some_iff.1 hy0
        clear hy0
        have hyb := HBY.out y (List.mem_of_getElem? hy)
        have hdy : ys.drop k = y :: ys.drop (k + 1) := by
          have hl := (List.getElem?_eq_some_iff.1 hy).1
          rw [List.drop_eq_getElem_cons hl, (List.getElem?_eq_some_iff.1 hy).2]
        have HY := Lib.hid hy
        have HDY := Lib.hid hdy
        clear hy hdy
        unfold encNat at cy
        have call := fun W => Tryz.cmp_Compare_int (x : Int) (y : Int) W
        by_cases hxy : x < y
        · have hc : Lib.compareInt (x : Int) (y : Int) = -1 := by unfold Lib.compareInt; rw [if_pos (by omega)]
          rw [hc] at call
          have CALL := Lib.hid call
          clear call hc
          go_wp2_with fail
          refine (CALL.out _).mono ?_
          rintro e w' ⟨rfl, rfl⟩
          go_wp2_with fail
          go_ret
          refine ⟨?_, rfl⟩
          rw [HD.out, HDX.out, HDY.out, cmpL, if_pos hxy]
          rfl
        · by_cases hyx : y < x
          · have hc : Lib.compareInt (x : Int) (y : Int) = 1 := by unfold Lib.compareInt; rw [if_neg (by omega), if_pos (by omega)]
            rw [hc] at call
            have CALL := Lib.hid call
            clear call hc
            go_wp2_with fail
            refine (CALL.out _).mono ?_
            rintro e w' ⟨rfl, rfl⟩
            go_wp2_with fail
            go_ret
            refine ⟨?_, rfl⟩
            rw [HD.out, HDX.out, HDY.out, cmpL, if_neg hxy, if_pos hyx]
            rfl
          · have hc : Lib.compareInt (x : Int) (y : Int) = 0 := by unfold Lib.compareInt; rw [if_neg (by omega), if_neg (by omega)]
            have hee : x = y := by omega
            have HEE := Lib.hid hee
            rw [hc] at call
            have CALL := Lib.hid call
            clear call hc hee
            go_wp2_with fail
            refine (CALL.out _).mono ?_
            rintro e w' ⟨rfl, rfl⟩
            go_wp2_with fail
            go_round
            case rel => exact ⟨k + 1, by omega, by omega, by go_num, fun j hj => by
              rcases Nat.lt_or_ge j k with h | h
              · exact HALL.out j h
              · obtain rfl : j = k := by omega
                rw [HX.out, HY.out, HEE.out]⟩
            case measure => simp [intOf]; omega
      · go_wp2_with fail
        go_ret
        refine ⟨?_, rfl⟩
        rw [HD.out, HDX.out, List.drop_eq_nil_of_le (show ys.length ≤ _ by rw [hly.out]; omega)]
        rfl
    · by_cases hnm : n < m
      · obtain ⟨y, ys', hy⟩ : ∃ y ys', ys.drop k = y :: ys' := ⟨_, _, List.drop_eq_getElem_cons (by rw [hly.out]; omega)⟩
        have HY := Lib.hid hy
        clear hy
        go_wp2_with fail
        go_ret
        refine ⟨?_, rfl⟩
        rw [HD.out, HY.out, List.drop_eq_nil_of_le (by rw [hlx.out]; omega)]
        rfl
      · go_wp2_with fail
        go_ret
        refine ⟨?_, rfl⟩
        rw [HD.out, List.drop_eq_nil_of_le (show ys.length ≤ _ by rw [hly.out]; omega), List.drop_eq_nil_of_le (by rw [hlx.out]; omega)]
        rfl

theorem ordsOf_len (s : Nm) : (ordsOf s).length ≤ 10 := by
  unfold ordsOf
  split
  · have := partsOf_len s; simpa using this
  · simp

theorem firstP_small (s : Nm) (a c : Nat) : (firstP s a c).1.1 ≤ 10000000 := by
  unfold firstP
  split
  · simp only
    have hd : ∀ x ∈ (s.drop a).take (run7 s a), isD x = true := by
      intro x hx
      have e : (s.drop a).take (run7 s a) = ((s.drop a).take 7).takeWhile isD := by
        unfold run7
        have h1 : ((s.drop a).take 7).takeWhile isD <+: (s.drop a) := (List.takeWhile_prefix _).trans (List.take_prefix _ _)
        exact (List.prefix_iff_eq_take.1 h1).symm
      rw [e] at hx
      have := List.all_takeWhile (p := isD) (l := (s.drop a).take 7)
      rw [List.all_eq_true] at this
      exact this x hx
    have h1 := val10_lt _ hd
    have h2 : ((s.drop a).take (run7 s a)).length ≤ 7 := by
      have := List.length_take_le (run7 s a) (s.drop a)
      have := run7_le s a
      omega
    have h3 : 10 ^ ((s.drop a).take (run7 s a)).length ≤ 10 ^ 7 := Nat.pow_le_pow_right (by omega) h2
    omega
  · simp
theorem partsN_small : ∀ (f : Nat) (s : Nm) (a c : Nat), ∀ x ∈ partsN f s a c, x.1 ≤ 10000000
  | 0, _, _, _, x, hx => by simp [partsN] at hx
  | f + 1, s, a, c, x, hx => by
    rw [partsN, List.mem_cons] at hx
    rcases hx with h | h
    · rw [h]; exact firstP_small s a c
    · split at h
      · simp at h
      · split at h
        · rw [List.mem_singleton] at h; rw [h]; simp
        · exact partsN_small f s _ _ x h
theorem ordsOf_small (s : Nm) : ∀ x ∈ ordsOf s, x ≤ 10000000 := by
  intro x hx
  unfold ordsOf at hx
  split at hx
  · obtain ⟨y, hy, rfl⟩ := List.mem_map.1 hx
    unfold partsOf at hy
    split at hy
    · simp at hy
    · exact partsN_small 9 s 0 0 y hy
  · simp at hx

theorem cmpL_self : ∀ l : List Nat, cmpL l l = 0
  | [] => rfl
  | x :: l => by rw [cmpL, if_neg (by omega), if_neg (by omega)]; exact cmpL_self l

set_option maxHeartbeats 1000000 in
theorem Compare_valid (x y : ByteArray) (w : World) (hx : x.size ≤ 4294967280) (hy : y.size ≤ 4294967280) (vx : validB x.data.toList = true) (vy : validB y.data.toList = true) :
    Calls Tryz.prog 101 #[.string x, .string y] w fun e w' => e = .returned (.int .i64 (cmpL (ordsOf x.data.toList) (ordsOf y.data.toList))) ∧ Below w.heap.size w w' := by
  by_cases h1 : x.data.toList = y.data.toList
  · have t1 := bytes_eq h1
    have HE : Hid (cmpL (ordsOf x.data.toList) (ordsOf y.data.toList) = 0) := by unfold Hid; rw [h1]; exact cmpL_self _
    clear h1
    go_enter Tryz.func101, Tryz.ntmps101
    go_wp2_with fail
    go_ret
    exact ⟨by rw [HE.out]; rfl, Below.refl _ _⟩
  · have t1 := bytes_ne h1
    clear h1
    go_enter Tryz.func101, Tryz.ntmps101
    go_wp2_with fail
    refine (Valid_any x _ (by omega)).mono ?_
    rintro e w1 ⟨rfl, hb1⟩
    go_wp2_with fail
    refine (Valid_any y _ (by omega)).mono ?_
    rintro e w2 ⟨rfl, hb2⟩
    go_wp2_with fail
    refine (Ordinals_any x _ (by omega)).mono ?_
    rintro e w3 ⟨v3, rfl, ho3, hb3⟩
    obtain ⟨A3, c3, rfl, hr3⟩ := own_form ho3
    go_wp2_with fail
    refine (Ordinals_any y _ (by omega)).mono ?_
    rintro e w4 ⟨v4, rfl, ho4, hb4⟩
    obtain ⟨A4, c4, rfl, hr4⟩ := own_form ho4
    have hr3' := (hr3.below hb4).more hb4.size
    have hl3 := ordsOf_len x.data.toList
    have hl4 := ordsOf_len y.data.toList
    clear ho3 ho4
    go_wp2_with fail
    refine (sliceCompare_any A3 A4 _ _ c3 c4 _ _ w4 (by omega) (by omega) (ordsOf_small _) (ordsOf_small _) hr3' hr4).mono ?_
    rintro e w5 ⟨rfl, rfl⟩
    go_wp2_with fail
    go_ret
    exact ⟨rfl, ((hb1.trans (hb2.mono hb1.size)).trans (hb3.mono (Nat.le_trans hb1.size hb2.size))).trans (hb4.mono (Nat.le_trans (Nat.le_trans hb1.size hb2.size) hb3.size))⟩

theorem SortFn_valid (x y : ByteArray) (w : World) (hx : x.size ≤ 4294967280) (hy : y.size ≤ 4294967280) (vx : validB x.data.toList = true) (vy : validB y.data.toList = true) :
    Calls Tryz.prog 100 #[.string x, .string y] w fun e w' => e = .returned (.int .i64 (cmpL (ordsOf x.data.toList) (ordsOf y.data.toList))) ∧ Below w.heap.size w w' := by
  have call := Compare_valid x y w hx hy vx vy
  generalize cmpL (ordsOf x.data.toList) (ordsOf y.data.toList) = r at call ⊢
  have CALL := Lib.hid call
  clear call
  go_enter Tryz.func100, Tryz.ntmps100
  go_wp2_with fail
  refine CALL.out.mono ?_
  rintro e w1 ⟨rfl, hb1⟩
  go_wp2_with fail
  go_ret
  exact ⟨rfl, hb1⟩

end Go.Proofs.YtnibcffcbnjllaaGreatDoor
