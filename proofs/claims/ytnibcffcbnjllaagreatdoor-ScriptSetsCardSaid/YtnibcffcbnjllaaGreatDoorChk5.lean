/- check, over a contract of (Input).Check. -/
import Derived.Test.YtnibcffcbnjllaaGreatDoorChk3
namespace Go.Proofs.YtnibcffcbnjllaaGreatDoor
open Go.RowKit

/-- What the first two tests of check say. -/
def ChkS (S : Scr) : Prop := 0 ≤ S.lo ∧ 0 ≤ S.before ∧ S.lo ≤ S.hi ∧ S.hi ≤ 1073741824 ∧ S.hi - S.lo ≤ 65536 ∧ S.inputs.length ≤ 65536 ∧ S.before ≤ 999999 - S.inputs.length ∧ S.sched.length ≤ S.hi - S.lo
def ChkRes (w : World) (S : Scr) (e : Ending) (w' : World) : Prop := ∃ r : Int, e = .returned (.int .i64 r) ∧ Below w.heap.size w w' ∧ (r = 0 → ChkS S)

/-- (Input).Check returns some number. -/
def InpChk (w : World) : Prop := ∀ (W : World) (k n : Int) (f d t : ByteArray), Below w.heap.size w W → f.size ≤ 4294967280 → d.size ≤ 4294967280 → t.size ≤ 4294967280 →
  Calls Tryz.prog 36 #[.agg #[.int .i64 k, .int .i64 n, .string f, .string d, .string t]] W fun e w' => SomeInt W e w'

def ChR (W1 : World) (n : Nat) (i : Value) (wr : World) : Prop := ∃ k, k ≤ n ∧ i = .int .i64 (k : Int) ∧ Below W1.heap.size W1 wr


set_option maxRecDepth 100000 in
set_option maxHeartbeats 4000000 in
theorem check_core (S : Scr) (A A' : Option Addr) (n m c d : Nat) (w : World) (hS : ScrAt w w.heap.size A A' n m S) (h1 : I64 S.lo) (h2 : I64 S.hi) (h3 : I64 S.before) (hsm : SmallS S) (hIC : InpChk w) :
    Calls Tryz.prog 9 #[scrVal S A A' n m c d] w fun e w' => ChkRes w S e w' := by
  obtain ⟨hr, hl, hs2, hn, hm⟩ := hS
  have hl2 : S.sched.length = m := by obtain ⟨_, _, h, _⟩ := hs2; exact h
  obtain ⟨lo, hi, bf, ins, sch⟩ := S
  obtain ⟨s1, s2, s3, s4⟩ := hsm
  simp only at hr hl hs2 hl2 h1 h2 h3 s1 s2 s3 s4
  have HS3 := Lib.hid s3
  have HS4 := Lib.hid s4
  have HIC := Lib.hid hIC
  clear s3 s4 hIC
  unfold scrVal
  simp only
  have b0 := BoxN.new w 25 #[.int .i64 lo, .int .i64 hi, .int .i64 bf, .slice A n c, .slice A' m d]
  have hb0 : Below w.heap.size w (w.alloc (.cells #[.int .i64 lo, .int .i64 hi, .int .i64 bf, .slice A n c, .slice A' m d] 25)) := (Below.refl _ w).alloc (Nat.le_refl _) _
  obtain ⟨W1, hW1⟩ : ∃ W1, w.alloc (.cells #[.int .i64 lo, .int .i64 hi, .int .i64 bf, .slice A n c, .slice A' m d] 25) = W1 := ⟨_, rfl⟩
  rw [hW1] at b0 hb0
  have hr1 := hr.below hb0
  have hs1 := hs2.below hb0
  have HW := Lib.hid hW1
  have hsz0 := hb0.size
  obtain ⟨Z, hZ⟩ : ∃ Z, w.heap.size = Z := ⟨_, rfl⟩
  rw [hZ] at b0 hb0 hr1 hs1 hsz0
  have HZ := Lib.hid hZ
  unfold I64 at h1 h2 h3
  clear hW1 hr hs2 hZ
  by_cases t1 : lo < 0
  · go_enter Tryz.func9, Tryz.ntmps9
    go_wp2_with fail
    rw [HW.out]
    go_ret
    exact ⟨_, rfl, (by rw [HZ.out]; exact hb0), fun h => absurd h (by decide)⟩
  by_cases t2 : bf < 0
  · go_enter Tryz.func9, Tryz.ntmps9
    go_wp2_with fail
    rw [HW.out]
    go_ret
    exact ⟨_, rfl, (by rw [HZ.out]; exact hb0), fun h => absurd h (by decide)⟩
  by_cases t3 : hi < lo
  · go_enter Tryz.func9, Tryz.ntmps9
    go_wp2_with fail
    rw [HW.out]
    go_ret
    exact ⟨_, rfl, (by rw [HZ.out]; exact hb0), fun h => absurd h (by decide)⟩
  by_cases t4 : 1073741824 < hi
  · go_enter Tryz.func9, Tryz.ntmps9
    go_wp2_with fail
    rw [HW.out]
    go_ret
    exact ⟨_, rfl, (by rw [HZ.out]; exact hb0), fun h => absurd h (by decide)⟩
  by_cases t5 : 65536 < hi - lo
  · go_enter Tryz.func9, Tryz.ntmps9
    go_wp2_with fail
    rw [HW.out]
    go_ret
    exact ⟨_, rfl, (by rw [HZ.out]; exact hb0), fun h => absurd h (by decide)⟩
  have t6 : ¬ 65536 < (n : Int) := by omega
  by_cases t7 : 999999 - (n : Int) < bf
  · go_enter Tryz.func9, Tryz.ntmps9
    go_wp2_with fail
    rw [HW.out]
    go_ret
    exact ⟨_, rfl, (by rw [HZ.out]; exact hb0), fun h => absurd h (by decide)⟩
  by_cases t8 : hi - lo < (m : Int)
  · go_enter Tryz.func9, Tryz.ntmps9
    go_wp2_with fail
    rw [HW.out]
    go_ret
    exact ⟨_, rfl, (by rw [HZ.out]; exact hb0), fun h => absurd h (by decide)⟩
  go_enter Tryz.func9, Tryz.ntmps9
  go_wp2_with fail
  rw [HW.out, HZ.out]
  go_loopw [3] (ChR W1 n) (fun i _ => n - (intOf i).toNat)
  case atStart => exact ⟨0, by omega, rfl, Below.refl _ _⟩
  case round =>
    obtain ⟨k, hk, rfl, hbr⟩ := hrel
    have bR := b0.later hbr
    have hsz := hbr.size
    have q3 := bR.c 3
    have q4 := bR.c 4
    have q0 := bR.c 0
    have q1 := bR.c 1
    simp only [List.getElem?_toArray, List.getElem?_cons_zero, List.getElem?_cons_succ] at q3 q4 q0 q1
    by_cases hlt : k < n
    · obtain ⟨b, off, tick, kind, number, fs, ds, ts, rfl, hb, ht, c0, c1, c2, c3, c4, c5⟩ := hr1.tm hl hlt
      have g0 := (hbr.cell (p := ⟨b, off + k * 6, none⟩) (by simp; omega)).trans c0
      have g1 := (hbr.cell (p := ⟨b, off + k * 6 + 1, none⟩) (by simp; omega)).trans c1
      have g2 := (hbr.cell (p := ⟨b, off + k * 6 + 2, none⟩) (by simp; omega)).trans c2
      have g3 := (hbr.cell (p := ⟨b, off + k * 6 + 3, none⟩) (by simp; omega)).trans c3
      have g4 := (hbr.cell (p := ⟨b, off + k * 6 + 4, none⟩) (by simp; omega)).trans c4
      have g5 := (hbr.cell (p := ⟨b, off + k * 6 + 5, none⟩) (by simp; omega)).trans c5
      have hq := HS3.out _ (List.mem_of_getElem? ht)
      simp only at hq
      have hI := HIC.out wr kind number fs ds ts (by rw [HZ.out]; exact hb0.trans (hbr.mono hsz0)) (by rw [size_nm0]; omega) (by rw [size_nm0]; omega) (by rw [size_nm0]; omega)
      have HI := Lib.hid hI
      clear ht c0 c1 c2 c3 c4 c5 q4 hq hI
      by_cases u1 : tick < lo
      · go_wp2_with fail
        go_ret
        exact ⟨_, rfl, (by rw [HZ.out]; exact hb0.trans (hbr.mono hsz0)), fun h => absurd h (by decide)⟩
      by_cases u2 : hi ≤ tick
      · go_wp2_with fail
        go_ret
        exact ⟨_, rfl, (by rw [HZ.out]; exact hb0.trans (hbr.mono hsz0)), fun h => absurd h (by decide)⟩
      by_cases hk0 : 0 < k
      · obtain ⟨b', off', tick', kind', number', fs', ds', ts', e', hb', ht', c0', _⟩ := hr1.tm (k := k - 1) hl (by omega)
        injection e' with e'
        injection e' with e1 e2
        subst e1 e2
        have g0' := (hbr.cell (p := ⟨b, off + (k - 1) * 6, none⟩) (by simp; omega)).trans c0'
        have hk1 : ((k : Int) - 1).toNat = k - 1 := by omega
        clear ht' c0'
        by_cases u3 : tick < tick'
        · go_wp2_with fail
          go_ret
          exact ⟨_, rfl, (by rw [HZ.out]; exact hb0.trans (hbr.mono hsz0)), fun h => absurd h (by decide)⟩
        go_wp2_with fail
        refine HI.out.mono ?_
        rintro e w2 ⟨r, rfl, hb2⟩
        have hbr2 := hbr.trans (hb2.mono hsz)
        by_cases hr0 : r = 0
        · have hr0' : (r != 0) = false := by simp [hr0]
          clear hr0
          go_wp2_with fail
          go_roundw
          case rel => exact ⟨k + 1, by omega, by go_num, hbr2⟩
          case measure => simp [intOf]; omega
        · have hr0' : (r != 0) = true := by simp [hr0]
          go_wp2_with fail
          go_ret
          exact ⟨_, rfl, (by rw [HZ.out]; exact hb0.trans (hbr2.mono hsz0)), fun h => absurd h hr0⟩
      · go_wp2_with fail
        refine HI.out.mono ?_
        rintro e w2 ⟨r, rfl, hb2⟩
        have hbr2 := hbr.trans (hb2.mono hsz)
        by_cases hr0 : r = 0
        · have hr0' : (r != 0) = false := by simp [hr0]
          clear hr0
          go_wp2_with fail
          go_roundw
          case rel => exact ⟨k + 1, by omega, by go_num, hbr2⟩
          case measure => simp [intOf]; omega
        · have hr0' : (r != 0) = true := by simp [hr0]
          go_wp2_with fail
          go_ret
          exact ⟨_, rfl, (by rw [HZ.out]; exact hb0.trans (hbr2.mono hsz0)), fun h => absurd h hr0⟩
    · obtain rfl : k = n := by omega
      clear hr1 q0 q1 hlt hk
      go_wp2_with fail
      go_loopw [6] (ChR W1 m) (fun i _ => m - (intOf i).toNat)
      case atStart => exact ⟨0, by omega, rfl, hbr⟩
      case round =>
        obtain ⟨k2, hk2, rfl, hbr2⟩ := hrel
        clear bR q4 q3
        have bR := b0.later hbr2
        have hsz2 := hbr2.size
        have q4 := bR.c 4
        simp only [List.getElem?_toArray, List.getElem?_cons_zero, List.getElem?_cons_succ] at q4
        by_cases hlt : k2 < m
        · obtain ⟨b, off, x, A2, c2, rfl, hb, hx, hc, hrow2, hlen2⟩ := hs1.at hlt
          have g := (hbr2.cell (p := ⟨b, off + k2, none⟩) (by simp; omega)).trans hc
          have hx4 := HS4.out _ (List.mem_of_getElem? hx)
          have hxl : ∀ y ∈ x, y.length ≤ 100 := by
            intro y hy
            have h := hx4.2
            unfold longB at h
            rw [Bool.or_eq_false_iff, List.any_eq_false] at h
            have := h.1 y hy
            simpa using this
          have HXL := Lib.hid hxl
          clear hx hx4 hxl
          by_cases h64 : 64 < x.length
          · go_wp2_with fail
            go_ret
            exact ⟨_, rfl, (by rw [HZ.out]; exact hb0.trans (hbr2.mono hsz0)), fun h => absurd h (by decide)⟩
          go_wp2_with fail
          go_loopw [7] (ChR W1 x.length) (fun i _ => x.length - (intOf i).toNat)
          case atStart => exact ⟨0, by omega, rfl, hbr2⟩
          case round =>
            obtain ⟨k3, hk3, rfl, hbr3⟩ := hrel
            clear bR q4 g
            have bR := b0.later hbr3
            have hsz3 := hbr3.size
            have q4 := bR.c 4
            simp only [List.getElem?_toArray, List.getElem?_cons_zero, List.getElem?_cons_succ] at q4
            have g := (hbr3.cell (p := ⟨b, off + k2, none⟩) (by simp; omega)).trans hc
            by_cases hlt3 : k3 < x.length
            · obtain ⟨b3, o3, s, rfl, hb3, hx3, cx3⟩ := hrow2.str hlt3
              have g3 := (hbr3.cell (p := ⟨b3, o3 + k3, none⟩) (by simp; omega)).trans cx3
              have hsl := HXL.out _ (List.mem_of_getElem? hx3)
              have hV := Valid_any s wr (by rw [size_nm0]; omega)
              clear hx3 cx3 hsl
              by_cases hs0 : s.data.toList = []
              · have hem := isEmpty_of_nil hs0
                clear hs0 hV
                go_wp2_with fail
                go_ret
                exact ⟨_, rfl, (by rw [HZ.out]; exact hb0.trans (hbr3.mono hsz0)), fun h => absurd h (by decide)⟩
              have hem := isEmpty_of_ne hs0
              clear hs0
              cases hvb : validB s.data.toList with
              | true =>
                rw [hvb] at hV
                have HV := Lib.hid hV
                clear hV hvb
                go_wp2_with fail
                refine HV.out.mono ?_
                rintro e w4 ⟨rfl, hb4⟩
                go_wp2_with fail
                go_roundw
                case rel => exact ⟨k3 + 1, by omega, by go_num, hbr3.trans (hb4.mono hsz3)⟩
                case measure => simp [intOf]; omega
              | false =>
                rw [hvb] at hV
                have HV := Lib.hid hV
                clear hV hvb
                go_wp2_with fail
                refine HV.out.mono ?_
                rintro e w4 ⟨rfl, hb4⟩
                have hbr4 := hbr3.trans (hb4.mono hsz3)
                go_wp2_with fail
                go_ret
                exact ⟨_, rfl, (by rw [HZ.out]; exact hb0.trans (hbr4.mono hsz0)), fun h => absurd h (by decide)⟩
            · obtain rfl : k3 = x.length := by omega
              go_wp2_with fail
              go_roundw
              case rel => exact ⟨k2 + 1, by omega, by go_num, hbr3⟩
              case measure => simp [intOf]; omega
        · obtain rfl : k2 = m := by omega
          go_wp2_with fail
          go_ret
          exact ⟨_, rfl, (by rw [HZ.out]; exact hb0.trans (hbr2.mono hsz0)), fun _ => ⟨by simp only; omega, by simp only; omega, by simp only; omega, by simp only; omega, by simp only; omega, by simp only; omega, by simp only; omega, by simp only; omega⟩⟩

end Go.Proofs.YtnibcffcbnjllaaGreatDoor
