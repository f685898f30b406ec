/- ScriptParts. -/
import Derived.Test.YtnibcffcbnjllaaGreatDoorPar1
namespace Go.Proofs.YtnibcffcbnjllaaGreatDoor
open Go.RowKit Go.Sort

/-- What is known of known. -/
def Knows : Prop := ∀ W, Ok W → Calls Tryz.prog 7 #[] W fun e w' => e = .returned (.bool true) ∧ Below W.heap.size W w'
def RetTrue (w : World) (e : Ending) (w' : World) : Prop := e = .returned (.bool true) ∧ Below w.heap.size w w'


def ParR (W1 : World) (n : Nat) (i : Value) (wr : World) : Prop := ∃ k, k ≤ n ∧ i = .int .i64 (k : Int) ∧ Below W1.heap.size W1 wr

theorem map_num (S : Scr) (l : List Nat) : (l.map fun i => encI (numAt S i)) = (l.map (numAt S)).map encI := by rw [List.map_map]; rfl

set_option maxRecDepth 100000 in
set_option maxHeartbeats 4000000 in
theorem ScriptParts_any (hK : Knows) (S : Scr) (A A' : Option Addr) (n m c d : Nat) (num t : Int) (w : World) (hok : Ok w) (hS : ScrAt w w.heap.size A A' n m S) (h1 : I64 S.lo) (h2 : I64 S.hi) (h3 : I64 S.before) (h4 : I64 num) (h5 : I64 t) :
    Calls Tryz.prog 3 #[scrVal S A A' n m c d, .int .i64 num, .int .i64 t] w fun e w' => RetTrue w e w' := by
  have HSm := Lib.hid (fun (W : World) (hb : Below w.heap.size w W) => small_any S A A' n m c d W ((hS.below hb).more hb.size) h1 h2)
  have HCh := Lib.hid (fun (W : World) (hb : Below w.heap.size w W) (hs : SmallS S) => check_any S A A' n m c d W (hok.later hb) ((hS.below hb).more hb.size) h1 h2 h3 hs)
  have HIn := Lib.hid (fun (W : World) (hb : Below w.heap.size w W) => Input_any S A A' n m c d num W ((hS.below hb).more hb.size) h4 h3)
  have HAt := Lib.hid (fun (W : World) (hb : Below w.heap.size w W) => At_any S A A' n m c d t W ((hS.below hb).more hb.size) h5 h1)
  have HNu := Lib.hid (fun (W : World) (hb : Below w.heap.size w W) => numbers_any S A A' n m c d t W ((hS.below hb).more hb.size))
  have HSc := Lib.hid (fun (W : World) (hb : Below w.heap.size w W) => schedule15_any S A A' n m c d t W ((hS.below hb).more hb.size))
  have HK := Lib.hid (fun (W : World) (hb : Below w.heap.size w W) => hK W (hok.later hb))
  have hl : S.inputs.length = n := hS.2.1
  have HROW := Lib.hid hS.1
  have b0 := BoxN.new w 25 #[.int .i64 S.lo, .int .i64 S.hi, .int .i64 S.before, .slice A n c, .slice A' m d]
  have hb0 : Below w.heap.size w (w.alloc (.cells #[.int .i64 S.lo, .int .i64 S.hi, .int .i64 S.before, .slice A n c, .slice A' m d] 25)) := (Below.refl _ w).alloc (Nat.le_refl _) _
  obtain ⟨W0, hW0⟩ : ∃ W0, w.alloc (.cells #[.int .i64 S.lo, .int .i64 S.hi, .int .i64 S.before, .slice A n c, .slice A' m d] 25) = W0 := ⟨_, rfl⟩
  rw [hW0] at b0 hb0
  have HW := Lib.hid hW0
  unfold RetTrue
  unfold scrVal at HSm HCh HIn HAt ⊢
  obtain ⟨Z, hZ⟩ : ∃ Z, w.heap.size = Z := ⟨_, rfl⟩
  rw [hZ] at b0 hb0 HSm HCh HIn HAt HNu HSc HK HROW ⊢
  have HZ := Lib.hid hZ
  have hz0 : Z ≤ W0.heap.size := by have := b0.lt; omega
  clear hW0 hZ hK hok hS
  unfold I64 at h1 h2 h3 h4 h5
  go_enter Tryz.func3, Tryz.ntmps3
  go_wp2_with fail
  rw [HW.out, HZ.out]
  refine (HK.out W0 hb0).mono ?_
  rintro e w1 ⟨rfl, hb1⟩
  have hB1 := hb0.trans (hb1.mono hz0)
  have x1 := b0.later hb1
  have q0 := x1.c 0
  have q1 := x1.c 1
  have q2 := x1.c 2
  have q3 := x1.c 3
  have q4 := x1.c 4
  simp only [List.getElem?_toArray, List.getElem?_cons_zero, List.getElem?_cons_succ] at q0 q1 q2 q3 q4
  go_wp2_with fail
  refine (HSm.out w1 hB1).mono ?_
  rintro e w2 ⟨r2, rfl, hb2, hsm⟩
  have hb2' := hb1.trans (hb2.mono hb1.size)
  have hB2 := hb0.trans (hb2'.mono hz0)
  have HSM := Lib.hid hsm
  clear hsm q0 q1 q2 q3 q4 x1
  have x2 := b0.later hb2'
  have q0 := x2.c 0
  have q1 := x2.c 1
  have q2 := x2.c 2
  have q3 := x2.c 3
  have q4 := x2.c 4
  simp only [List.getElem?_toArray, List.getElem?_cons_zero, List.getElem?_cons_succ] at q0 q1 q2 q3 q4
  cases r2 with
  | false =>
    go_wp2_with fail
    refine (HK.out w2 hB2).mono ?_
    rintro e w3 ⟨rfl, hb3⟩
    go_wp2_with fail
    go_ret
    exact ⟨rfl, hB2.trans (hb3.mono (by have := x2.lt; omega))⟩
  | true =>
    have hsm := HSM.out rfl
    have HS := Lib.hid hsm
    clear hsm HSM
    go_wp2_with fail
    refine (HCh.out w2 hB2 HS.out).mono ?_
    rintro e w3 ⟨r3, rfl, hb3, hch⟩
    have hb3' := hb2'.trans (hb3.mono hb2'.size)
    have hB3 := hb0.trans (hb3'.mono hz0)
    have HCHK := Lib.hid hch
    clear hch q0 q1 q2 q3 q4 x2
    have x3 := b0.later hb3'
    by_cases hr3 : r3 = 0
    · have hr3' : (r3 != 0) = false := by simp [hr3]
      obtain ⟨k1, k2, k3, k4, k5, k6, k7, k8⟩ := HCHK.out hr3
      obtain ⟨s1, s2, s3, s4⟩ := HS.out
      clear hr3 HCHK HS s3
      have HS4 := Lib.hid s4
      have hln : n ≤ 10 := by omega
      have q0 := x3.c 0
      have q1 := x3.c 1
      have q2 := x3.c 2
      have q3 := x3.c 3
      have q4 := x3.c 4
      simp only [List.getElem?_toArray, List.getElem?_cons_zero, List.getElem?_cons_succ] at q0 q1 q2 q3 q4
      clear s4
      have hsl : (schedOf S t).length ≤ 70 := by
        unfold schedOf
        split
        · cases hx : S.sched[(t - S.lo).toNat]? with
          | none => simp
          | some x => exact (HS4.out x (List.mem_of_getElem? hx)).1
        · simp
      have HAT := Lib.hid (fun W hb => HAt.out W hb k2 (by omega) (by omega) (by omega))
      have HNU := Lib.hid (fun W hb => HNu.out W hb k2 (by omega) (by omega))
      have HSC := Lib.hid (fun W hb => HSc.out W hb k1 k4)
      clear HAt HNu HSc HCh HSm HS4 HK
      cases hin : inS S num with
      | true =>
        have hI := HIn.out w3 hB3
        have hin2 := inS_iff S num
        rw [hin, hl] at hin2
        simp only [Bool.true_eq, Bool.and_eq_true, decide_eq_true_eq] at hin2
        obtain ⟨hlt, hle⟩ := hin2
        obtain ⟨i, hti⟩ : ∃ i, (num - S.before - 1).toNat = i := ⟨_, rfl⟩
        have hin' : i < n := by omega
        obtain ⟨b, off, tick, kind, number, fs, ds, ts, rfl, hb, ht, c0, c1, c2, c3, c4, c5⟩ := HROW.out.tm hl hin'
        have hio : inputOf S num = ⟨tick, ⟨kind, number, fs.data.toList, ds.data.toList, ts.data.toList⟩⟩ := by
          unfold inputOf
          rw [if_pos hin, hti, ht]
          rfl
        rw [hin, hio] at hI
        have HI : Hid (Calls Tryz.prog 10 _ w3 fun e w' => e = .returned (.tuple #[.agg #[.int .i64 tick, .int .i64 kind, .int .i64 number, .string fs, .string ds, .string ts], .bool true]) ∧ Below w3.heap.size w3 w') := hI
        clear hI hin hio ht
        go_wp2_with fail
        refine HI.out.mono ?_
        rintro e w4 ⟨rfl, hb4⟩
        have hb4' := hb3'.trans (hb4.mono hb3'.size)
        have hB4 := hb0.trans (hb4'.mono hz0)
        clear q0 q1 q2 q3 q4
        have x4 := b0.later hb4'
        have zlt := x4.lt
        have q0 := x4.c 0
        have q1 := x4.c 1
        have q2 := x4.c 2
        have q3 := x4.c 3
        have q4 := x4.c 4
        simp only [List.getElem?_toArray, List.getElem?_cons_zero, List.getElem?_cons_succ] at q0 q1 q2 q3 q4
        have g0 := (hB4.cell (p := ⟨b, off + i * 6, none⟩) hb).trans c0
        have g1 := (hB4.cell (p := ⟨b, off + i * 6 + 1, none⟩) hb).trans c1
        have g2 := (hB4.cell (p := ⟨b, off + i * 6 + 2, none⟩) hb).trans c2
        have g3 := (hB4.cell (p := ⟨b, off + i * 6 + 3, none⟩) hb).trans c3
        have g4 := (hB4.cell (p := ⟨b, off + i * 6 + 4, none⟩) hb).trans c4
        have g5 := (hB4.cell (p := ⟨b, off + i * 6 + 5, none⟩) hb).trans c5
        clear c0 c1 c2 c3 c4 c5
        have hblt : b < w4.heap.size := by omega
        have hb45 : Below w4.heap.size w4 (w4.alloc (.cells #[.int .i64 tick, .int .i64 kind, .int .i64 number, .string fs, .string ds, .string ts] 33)) := (Below.refl _ w4).alloc (Nat.le_refl _) _
        go_wp2_with fail
        go_quiet (fail)
        have hb46 := below_drewN hb45 nq
        generalize (w4.alloc (.cells #[.int .i64 tick, .int .i64 kind, .int .i64 number, .string fs, .string ds, .string ts] 33)).drewN nq = W6 at hb46 ⊢
        clear g0 g1 g2 g3 g4 g5 hb45
        have hb06 := hb4'.trans (hb46.mono hb4'.size)
        have hB6 := hb0.trans (hb06.mono hz0)
        clear q0 q1 q2 q3 q4
        have x6 := b0.later hb06
        have q0 := x6.c 0
        have q1 := x6.c 1
        have q2 := x6.c 2
        have q3 := x6.c 3
        have q4 := x6.c 4
        simp only [List.getElem?_toArray, List.getElem?_cons_zero, List.getElem?_cons_succ] at q0 q1 q2 q3 q4
        have hz6 : Z ≤ W6.heap.size := by have := x6.lt; omega
        go_wp2_with fail
        refine (HAT.out W6 hB6).mono ?_
        rintro e w7 ⟨v1, v2, v3, rfl, ho1, ho2, ho3, hb7⟩
        obtain ⟨A1, c1, rfl, hr1⟩ := own_form ho1
        obtain ⟨A2, c2, rfl, hr2⟩ := own_form ho2
        obtain ⟨A3, c3, rfl, hr3⟩ := own_form ho3
        have hb07 := hb06.trans (hb7.mono hb06.size)
        have hB7 := hb0.trans (hb07.mono hz0)
        clear q0 q1 q2 q3 q4
        have x7 := b0.later hb07
        have q0 := x7.c 0
        have q1 := x7.c 1
        have q2 := x7.c 2
        have q3 := x7.c 3
        have q4 := x7.c 4
        simp only [List.getElem?_toArray, List.getElem?_cons_zero, List.getElem?_cons_succ] at q0 q1 q2 q3 q4
        have hz7 : Z ≤ w7.heap.size := by have := x7.lt; omega
        clear ho1 ho2 ho3
        go_wp2_with fail
        refine (HNU.out w7 hB7).mono ?_
        rintro e w8 ⟨v4, rfl, ho4, hb8⟩
        obtain ⟨A4, c4, rfl, hr4⟩ := own_form ho4
        have hb08 := hb07.trans (hb8.mono hb07.size)
        have hB8 := hb0.trans (hb08.mono hz0)
        have hr18 := hr1.later hb8
        have hr28 := hr2.later hb8
        have hr38 := hr3.later hb8
        clear q0 q1 q2 q3 q4 ho4 hr1 hr2 hr3
        rw [map_num] at hr18 hr4
        have hpl : (placesOf S t).length ≤ 10 := by have := placesOf_len S t; omega
        have hil : (inputsOf S t).length = (placesOf S t).length := inputsOf_len S t
        rw [hil] at hr28 ⊢
        have HIL := Lib.hid hil
        have HPA := Lib.hid (inputsOf_at S t)
        clear hil
        obtain ⟨np, hnp⟩ : ∃ np, (placesOf S t).length = np := ⟨_, rfl⟩
        rw [hnp] at hr18 hr28 hr4 hpl HIL HPA ⊢
        have HNP := Lib.hid hnp
        clear hnp
        have hsN := sameNumbers_any A1 A4 np np c1 c4 _ _ w8 (by omega) (by omega) hr18 hr4
        rw [decide_eq_true rfl] at hsN
        have HSN := Lib.hid hsN
        have HR4 := Lib.hid hr4
        have HR2 := Lib.hid hr28
        have HR3 := Lib.hid hr38
        clear hsN hr18 hr4 hr28 hr38 x7 x6 x4 hB7 hB6 hb7 hb8 hb07 hb06 hb46 hz7 hz6 HAT HNU HIn HI
        go_wp2_with fail
        refine HSN.out.mono ?_
        rintro e w9 ⟨rfl, q, rfl⟩
        have hb89 : Below w8.heap.size w8 (w8.drewN q) := below_drewN (Below.refl _ _) q
        generalize w8.drewN q = W9 at hb89 ⊢
        have hb09 := hb08.trans (hb89.mono hb08.size)
        have hB9 := hb0.trans (hb09.mono hz0)
        have x9 := b0.later hb09
        have q0 := x9.c 0
        have q1 := x9.c 1
        have q2 := x9.c 2
        have q3 := x9.c 3
        have q4 := x9.c 4
        simp only [List.getElem?_toArray, List.getElem?_cons_zero, List.getElem?_cons_succ] at q0 q1 q2 q3 q4
        have hz9 : Z ≤ W9.heap.size := by have := x9.lt; omega
        clear HSN
        go_wp2_with fail
        refine (HSC.out W9 hB9).mono ?_
        rintro e w10 ⟨⟨A5, c5, rfl, hr5, hl5⟩, hb10⟩
        have hb89' := hb89.trans (hb10.mono hb89.size)
        have hsS := sameNames_any A3 A5 (schedOf S t).length (schedOf S t).length c3 c5 (schedOf S t) (schedOf S t) w10 (by omega) (by omega) (HR3.out.later hb89') (hr5.later hb10)
        rw [decide_eq_true rfl] at hsS
        have HSS := Lib.hid hsS
        clear hsS hr5 hl5
        go_wp2_with fail
        refine HSS.out.mono ?_
        rintro e w11 ⟨rfl, q, rfl⟩
        have hb1011 : Below w10.heap.size w10 (w10.drewN q) := below_drewN (Below.refl _ _) q
        generalize w10.drewN q = W11 at hb1011 ⊢
        have hb811 := hb89'.trans (hb1011.mono hb89'.size)
        have hb011 := hb08.trans (hb811.mono hb08.size)
        have hr4' := HR4.out.later hb811
        have hr2' := HR2.out.later hb811
        clear q0 q1 q2 q3 q4 HSS HSC x9 hB9 hb09 hb89 hb10 hb89' hb1011 HR3 HR4 HR2 hz9
        go_wp2_with fail
        go_loopw [14] (ParR W11 np) (fun i _ => np - (intOf i).toNat)
        case atStart => exact ⟨0, by omega, rfl, Below.refl _ _⟩
        case round =>
          obtain ⟨k, hk, rfl, hbr⟩ := hrel
          have hb0r := hb011.trans (hbr.mono hb011.size)
          have hBr := hb0.trans (hb0r.mono hz0)
          have xr := b0.later hb0r
          have q0 := xr.c 0
          have q1 := xr.c 1
          have q2 := xr.c 2
          have q3 := xr.c 3
          have q4 := xr.c 4
          simp only [List.getElem?_toArray, List.getElem?_cons_zero, List.getElem?_cons_succ] at q0 q1 q2 q3 q4
          by_cases hlt : k < np
          · obtain ⟨i, x, hpi, hil, hxi, hip⟩ := HPA.out k hlt
            rw [hl] at hil
            obtain ⟨b5, o5, rfl, hb5, d0, d1, d2, d3, d4⟩ := hr2'.in5 hlt hip
            obtain ⟨b4, o4, u4, rfl, hb4x, hu4, e4⟩ := hr4'.at1 hlt
            rw [List.getElem?_map, List.getElem?_map, hpi] at hu4
            simp only [Option.map_some, Option.some.injEq] at hu4
            subst hu4
            obtain ⟨b6, o6, tick6, kind6, number6, fs6, ds6, ts6, hA6, hb6, ht6, c60, c61, c62, c63, c64, c65⟩ := HROW.out.tm hl hil
            rw [hxi] at ht6
            injection ht6 with ht6
            subst ht6
            simp only at d0 d1 d2 d3 d4
            have j0 := (hbr.cell (p := ⟨b5, o5 + k * 5, none⟩) hb5).trans d0
            have j1 := (hbr.cell (p := ⟨b5, o5 + k * 5 + 1, none⟩) hb5).trans d1
            have j2 := (hbr.cell (p := ⟨b5, o5 + k * 5 + 2, none⟩) hb5).trans d2
            have j3 := (hbr.cell (p := ⟨b5, o5 + k * 5 + 3, none⟩) hb5).trans d3
            have j4 := (hbr.cell (p := ⟨b5, o5 + k * 5 + 4, none⟩) hb5).trans d4
            have n4 := (hbr.cell (p := ⟨b4, o4 + k, none⟩) hb4x).trans e4
            have g1 := (hBr.cell (p := ⟨b6, o6 + i * 6 + 1, none⟩) hb6).trans c61
            have g2 := (hBr.cell (p := ⟨b6, o6 + i * 6 + 2, none⟩) hb6).trans c62
            have g3 := (hBr.cell (p := ⟨b6, o6 + i * 6 + 3, none⟩) hb6).trans c63
            have g4 := (hBr.cell (p := ⟨b6, o6 + i * 6 + 4, none⟩) hb6).trans c64
            have g5 := (hBr.cell (p := ⟨b6, o6 + i * 6 + 5, none⟩) hb6).trans c65
            rw [encN_eq] at j2 j3 j4
            unfold encI numAt at n4
            rw [hA6] at q3
            obtain ⟨y, hy⟩ : ∃ y, S.before + (i : Int) + 1 = y := ⟨_, rfl⟩
            rw [hy] at n4
            have hy1 : (y - S.before - 1).toNat = i := by omega
            have hy2 : 0 ≤ y - S.before - 1 := by omega
            have hy3 : y - S.before - 1 < n := by omega
            have hy4 : 0 ≤ y ∧ y ≤ 2000000 := by omega
            have hlt' : (k : Int) < (np : Int) := by omega
            clear hy d0 d1 d2 d3 d4 e4 c60 c61 c62 c63 c64 c65 hpi hip hxi
            go_wp2_with fail
            go_quiet (fail)
            have hbq := below_drewN hbr nq
            go_wp2_with fail
            go_roundw
            case rel => exact ⟨k + 1, by omega, by go_num, hbq⟩
            case measure => simp [intOf]; omega
          · obtain rfl : k = np := by omega
            go_wp2_with fail
            go_ret
            exact ⟨rfl, hBr⟩
      | false =>
        have hI := HIn.out w3 hB3
        have hin2 := inS_iff S num
        rw [hin, hl] at hin2
        have hio : inputOf S num = tmdZero := by
          unfold inputOf
          rw [if_neg (by rw [hin]; simp)]
        rw [hin, hio] at hI
        have HI : Hid (Calls Tryz.prog 10 _ w3 fun e w' => e = .returned (.tuple #[.agg #[.int .i64 0, .int .i64 0, .int .i64 0, .string ⟨#[]⟩, .string ⟨#[]⟩, .string ⟨#[]⟩], .bool false]) ∧ Below w3.heap.size w3 w') := hI
        have hor : ¬ S.before < num ∨ ¬ num ≤ S.before + (n : Int) := by
          by_cases h : S.before < num
          · right
            intro h'
            simp [h, h'] at hin2
          · exact .inl h
        clear hI hin hio hin2
        go_wp2_with fail
        refine HI.out.mono ?_
        rintro e w4 ⟨rfl, hb4⟩
        have hb4' := hb3'.trans (hb4.mono hb3'.size)
        have hB4 := hb0.trans (hb4'.mono hz0)
        clear q0 q1 q2 q3 q4
        have x4 := b0.later hb4'
        have zlt := x4.lt
        have q0 := x4.c 0
        have q1 := x4.c 1
        have q2 := x4.c 2
        have q3 := x4.c 3
        have q4 := x4.c 4
        simp only [List.getElem?_toArray, List.getElem?_cons_zero, List.getElem?_cons_succ] at q0 q1 q2 q3 q4
        have hb45 : Below w4.heap.size w4 (w4.alloc (.cells #[.int .i64 0, .int .i64 0, .int .i64 0, .string ⟨#[]⟩, .string ⟨#[]⟩, .string ⟨#[]⟩] 33)) := (Below.refl _ w4).alloc (Nat.le_refl _) _
        rcases hor with hor | hor
        · have hd : decide (S.before < num) = false := decide_eq_false (by omega)
          go_wp2_with fail
          go_quiet (fail)
          have hb46 := below_drewN hb45 nq
          generalize (w4.alloc (.cells #[.int .i64 0, .int .i64 0, .int .i64 0, .string ⟨#[]⟩, .string ⟨#[]⟩, .string ⟨#[]⟩] 33)).drewN nq = W6 at hb46 ⊢
          clear hb45
          have hb06 := hb4'.trans (hb46.mono hb4'.size)
          have hB6 := hb0.trans (hb06.mono hz0)
          clear q0 q1 q2 q3 q4
          have x6 := b0.later hb06
          have q0 := x6.c 0
          have q1 := x6.c 1
          have q2 := x6.c 2
          have q3 := x6.c 3
          have q4 := x6.c 4
          simp only [List.getElem?_toArray, List.getElem?_cons_zero, List.getElem?_cons_succ] at q0 q1 q2 q3 q4
          have hz6 : Z ≤ W6.heap.size := by have := x6.lt; omega
          go_wp2_with fail
          refine (HAT.out W6 hB6).mono ?_
          rintro e w7 ⟨v1, v2, v3, rfl, ho1, ho2, ho3, hb7⟩
          obtain ⟨A1, c1, rfl, hr1⟩ := own_form ho1
          obtain ⟨A2, c2, rfl, hr2⟩ := own_form ho2
          obtain ⟨A3, c3, rfl, hr3⟩ := own_form ho3
          have hb07 := hb06.trans (hb7.mono hb06.size)
          have hB7 := hb0.trans (hb07.mono hz0)
          clear q0 q1 q2 q3 q4
          have x7 := b0.later hb07
          have q0 := x7.c 0
          have q1 := x7.c 1
          have q2 := x7.c 2
          have q3 := x7.c 3
          have q4 := x7.c 4
          simp only [List.getElem?_toArray, List.getElem?_cons_zero, List.getElem?_cons_succ] at q0 q1 q2 q3 q4
          have hz7 : Z ≤ w7.heap.size := by have := x7.lt; omega
          clear ho1 ho2 ho3
          go_wp2_with fail
          refine (HNU.out w7 hB7).mono ?_
          rintro e w8 ⟨v4, rfl, ho4, hb8⟩
          obtain ⟨A4, c4, rfl, hr4⟩ := own_form ho4
          have hb08 := hb07.trans (hb8.mono hb07.size)
          have hB8 := hb0.trans (hb08.mono hz0)
          have hr18 := hr1.later hb8
          have hr28 := hr2.later hb8
          have hr38 := hr3.later hb8
          clear q0 q1 q2 q3 q4 ho4 hr1 hr2 hr3
          rw [map_num] at hr18 hr4
          have hpl : (placesOf S t).length ≤ 10 := by have := placesOf_len S t; omega
          have hil : (inputsOf S t).length = (placesOf S t).length := inputsOf_len S t
          rw [hil] at hr28 ⊢
          have HIL := Lib.hid hil
          have HPA := Lib.hid (inputsOf_at S t)
          clear hil
          obtain ⟨np, hnp⟩ : ∃ np, (placesOf S t).length = np := ⟨_, rfl⟩
          rw [hnp] at hr18 hr28 hr4 hpl HIL HPA ⊢
          have HNP := Lib.hid hnp
          clear hnp
          have hsN := sameNumbers_any A1 A4 np np c1 c4 _ _ w8 (by omega) (by omega) hr18 hr4
          rw [decide_eq_true rfl] at hsN
          have HSN := Lib.hid hsN
          have HR4 := Lib.hid hr4
          have HR2 := Lib.hid hr28
          have HR3 := Lib.hid hr38
          clear hsN hr18 hr4 hr28 hr38 x7 x6 x4 hB7 hB6 hb7 hb8 hb07 hb06 hb46 hz7 hz6 HAT HNU HIn HI
          go_wp2_with fail
          refine HSN.out.mono ?_
          rintro e w9 ⟨rfl, q, rfl⟩
          have hb89 : Below w8.heap.size w8 (w8.drewN q) := below_drewN (Below.refl _ _) q
          generalize w8.drewN q = W9 at hb89 ⊢
          have hb09 := hb08.trans (hb89.mono hb08.size)
          have hB9 := hb0.trans (hb09.mono hz0)
          have x9 := b0.later hb09
          have q0 := x9.c 0
          have q1 := x9.c 1
          have q2 := x9.c 2
          have q3 := x9.c 3
          have q4 := x9.c 4
          simp only [List.getElem?_toArray, List.getElem?_cons_zero, List.getElem?_cons_succ] at q0 q1 q2 q3 q4
          have hz9 : Z ≤ W9.heap.size := by have := x9.lt; omega
          clear HSN
          go_wp2_with fail
          refine (HSC.out W9 hB9).mono ?_
          rintro e w10 ⟨⟨A5, c5, rfl, hr5, hl5⟩, hb10⟩
          have hb89' := hb89.trans (hb10.mono hb89.size)
          have hsS := sameNames_any A3 A5 (schedOf S t).length (schedOf S t).length c3 c5 (schedOf S t) (schedOf S t) w10 (by omega) (by omega) (HR3.out.later hb89') (hr5.later hb10)
          rw [decide_eq_true rfl] at hsS
          have HSS := Lib.hid hsS
          clear hsS hr5 hl5
          go_wp2_with fail
          refine HSS.out.mono ?_
          rintro e w11 ⟨rfl, q, rfl⟩
          have hb1011 : Below w10.heap.size w10 (w10.drewN q) := below_drewN (Below.refl _ _) q
          generalize w10.drewN q = W11 at hb1011 ⊢
          have hb811 := hb89'.trans (hb1011.mono hb89'.size)
          have hb011 := hb08.trans (hb811.mono hb08.size)
          have hr4' := HR4.out.later hb811
          have hr2' := HR2.out.later hb811
          clear q0 q1 q2 q3 q4 HSS HSC x9 hB9 hb09 hb89 hb10 hb89' hb1011 HR3 HR4 HR2 hz9
          go_wp2_with fail
          go_loopw [14] (ParR W11 np) (fun i _ => np - (intOf i).toNat)
          case atStart => exact ⟨0, by omega, rfl, Below.refl _ _⟩
          case round =>
            obtain ⟨k, hk, rfl, hbr⟩ := hrel
            have hb0r := hb011.trans (hbr.mono hb011.size)
            have hBr := hb0.trans (hb0r.mono hz0)
            have xr := b0.later hb0r
            have q0 := xr.c 0
            have q1 := xr.c 1
            have q2 := xr.c 2
            have q3 := xr.c 3
            have q4 := xr.c 4
            simp only [List.getElem?_toArray, List.getElem?_cons_zero, List.getElem?_cons_succ] at q0 q1 q2 q3 q4
            by_cases hlt : k < np
            · obtain ⟨i, x, hpi, hil, hxi, hip⟩ := HPA.out k hlt
              rw [hl] at hil
              obtain ⟨b5, o5, rfl, hb5, d0, d1, d2, d3, d4⟩ := hr2'.in5 hlt hip
              obtain ⟨b4, o4, u4, rfl, hb4x, hu4, e4⟩ := hr4'.at1 hlt
              rw [List.getElem?_map, List.getElem?_map, hpi] at hu4
              simp only [Option.map_some, Option.some.injEq] at hu4
              subst hu4
              obtain ⟨b6, o6, tick6, kind6, number6, fs6, ds6, ts6, hA6, hb6, ht6, c60, c61, c62, c63, c64, c65⟩ := HROW.out.tm hl hil
              rw [hxi] at ht6
              injection ht6 with ht6
              subst ht6
              simp only at d0 d1 d2 d3 d4
              have j0 := (hbr.cell (p := ⟨b5, o5 + k * 5, none⟩) hb5).trans d0
              have j1 := (hbr.cell (p := ⟨b5, o5 + k * 5 + 1, none⟩) hb5).trans d1
              have j2 := (hbr.cell (p := ⟨b5, o5 + k * 5 + 2, none⟩) hb5).trans d2
              have j3 := (hbr.cell (p := ⟨b5, o5 + k * 5 + 3, none⟩) hb5).trans d3
              have j4 := (hbr.cell (p := ⟨b5, o5 + k * 5 + 4, none⟩) hb5).trans d4
              have n4 := (hbr.cell (p := ⟨b4, o4 + k, none⟩) hb4x).trans e4
              have g1 := (hBr.cell (p := ⟨b6, o6 + i * 6 + 1, none⟩) hb6).trans c61
              have g2 := (hBr.cell (p := ⟨b6, o6 + i * 6 + 2, none⟩) hb6).trans c62
              have g3 := (hBr.cell (p := ⟨b6, o6 + i * 6 + 3, none⟩) hb6).trans c63
              have g4 := (hBr.cell (p := ⟨b6, o6 + i * 6 + 4, none⟩) hb6).trans c64
              have g5 := (hBr.cell (p := ⟨b6, o6 + i * 6 + 5, none⟩) hb6).trans c65
              rw [encN_eq] at j2 j3 j4
              unfold encI numAt at n4
              rw [hA6] at q3
              obtain ⟨y, hy⟩ : ∃ y, S.before + (i : Int) + 1 = y := ⟨_, rfl⟩
              rw [hy] at n4
              have hy1 : (y - S.before - 1).toNat = i := by omega
              have hy2 : 0 ≤ y - S.before - 1 := by omega
              have hy3 : y - S.before - 1 < n := by omega
              have hy4 : 0 ≤ y ∧ y ≤ 2000000 := by omega
              have hlt' : (k : Int) < (np : Int) := by omega
              clear hy d0 d1 d2 d3 d4 e4 c60 c61 c62 c63 c64 c65 hpi hip hxi
              go_wp2_with fail
              go_quiet (fail)
              have hbq := below_drewN hbr nq
              go_wp2_with fail
              go_roundw
              case rel => exact ⟨k + 1, by omega, by go_num, hbq⟩
              case measure => simp [intOf]; omega
            · obtain rfl : k = np := by omega
              go_wp2_with fail
              go_ret
              exact ⟨rfl, hBr⟩
        · have hd : decide (num ≤ S.before + (n : Int)) = false := decide_eq_false (by omega)
          have hor2 : S.before < num := by omega
          have hd2 : decide (S.before < num) = true := decide_eq_true hor2
          go_wp2_with fail
          go_quiet (fail)
          have hb46 := below_drewN hb45 nq
          generalize (w4.alloc (.cells #[.int .i64 0, .int .i64 0, .int .i64 0, .string ⟨#[]⟩, .string ⟨#[]⟩, .string ⟨#[]⟩] 33)).drewN nq = W6 at hb46 ⊢
          clear hb45
          have hb06 := hb4'.trans (hb46.mono hb4'.size)
          have hB6 := hb0.trans (hb06.mono hz0)
          clear q0 q1 q2 q3 q4
          have x6 := b0.later hb06
          have q0 := x6.c 0
          have q1 := x6.c 1
          have q2 := x6.c 2
          have q3 := x6.c 3
          have q4 := x6.c 4
          simp only [List.getElem?_toArray, List.getElem?_cons_zero, List.getElem?_cons_succ] at q0 q1 q2 q3 q4
          have hz6 : Z ≤ W6.heap.size := by have := x6.lt; omega
          go_wp2_with fail
          refine (HAT.out W6 hB6).mono ?_
          rintro e w7 ⟨v1, v2, v3, rfl, ho1, ho2, ho3, hb7⟩
          obtain ⟨A1, c1, rfl, hr1⟩ := own_form ho1
          obtain ⟨A2, c2, rfl, hr2⟩ := own_form ho2
          obtain ⟨A3, c3, rfl, hr3⟩ := own_form ho3
          have hb07 := hb06.trans (hb7.mono hb06.size)
          have hB7 := hb0.trans (hb07.mono hz0)
          clear q0 q1 q2 q3 q4
          have x7 := b0.later hb07
          have q0 := x7.c 0
          have q1 := x7.c 1
          have q2 := x7.c 2
          have q3 := x7.c 3
          have q4 := x7.c 4
          simp only [List.getElem?_toArray, List.getElem?_cons_zero, List.getElem?_cons_succ] at q0 q1 q2 q3 q4
          have hz7 : Z ≤ w7.heap.size := by have := x7.lt; omega
          clear ho1 ho2 ho3
          go_wp2_with fail
          refine (HNU.out w7 hB7).mono ?_
          rintro e w8 ⟨v4, rfl, ho4, hb8⟩
          obtain ⟨A4, c4, rfl, hr4⟩ := own_form ho4
          have hb08 := hb07.trans (hb8.mono hb07.size)
          have hB8 := hb0.trans (hb08.mono hz0)
          have hr18 := hr1.later hb8
          have hr28 := hr2.later hb8
          have hr38 := hr3.later hb8
          clear q0 q1 q2 q3 q4 ho4 hr1 hr2 hr3
          rw [map_num] at hr18 hr4
          have hpl : (placesOf S t).length ≤ 10 := by have := placesOf_len S t; omega
          have hil : (inputsOf S t).length = (placesOf S t).length := inputsOf_len S t
          rw [hil] at hr28 ⊢
          have HIL := Lib.hid hil
          have HPA := Lib.hid (inputsOf_at S t)
          clear hil
          obtain ⟨np, hnp⟩ : ∃ np, (placesOf S t).length = np := ⟨_, rfl⟩
          rw [hnp] at hr18 hr28 hr4 hpl HIL HPA ⊢
          have HNP := Lib.hid hnp
          clear hnp
          have hsN := sameNumbers_any A1 A4 np np c1 c4 _ _ w8 (by omega) (by omega) hr18 hr4
          rw [decide_eq_true rfl] at hsN
          have HSN := Lib.hid hsN
          have HR4 := Lib.hid hr4
          have HR2 := Lib.hid hr28
          have HR3 := Lib.hid hr38
          clear hsN hr18 hr4 hr28 hr38 x7 x6 x4 hB7 hB6 hb7 hb8 hb07 hb06 hb46 hz7 hz6 HAT HNU HIn HI
          go_wp2_with fail
          refine HSN.out.mono ?_
          rintro e w9 ⟨rfl, q, rfl⟩
          have hb89 : Below w8.heap.size w8 (w8.drewN q) := below_drewN (Below.refl _ _) q
          generalize w8.drewN q = W9 at hb89 ⊢
          have hb09 := hb08.trans (hb89.mono hb08.size)
          have hB9 := hb0.trans (hb09.mono hz0)
          have x9 := b0.later hb09
          have q0 := x9.c 0
          have q1 := x9.c 1
          have q2 := x9.c 2
          have q3 := x9.c 3
          have q4 := x9.c 4
          simp only [List.getElem?_toArray, List.getElem?_cons_zero, List.getElem?_cons_succ] at q0 q1 q2 q3 q4
          have hz9 : Z ≤ W9.heap.size := by have := x9.lt; omega
          clear HSN
          go_wp2_with fail
          refine (HSC.out W9 hB9).mono ?_
          rintro e w10 ⟨⟨A5, c5, rfl, hr5, hl5⟩, hb10⟩
          have hb89' := hb89.trans (hb10.mono hb89.size)
          have hsS := sameNames_any A3 A5 (schedOf S t).length (schedOf S t).length c3 c5 (schedOf S t) (schedOf S t) w10 (by omega) (by omega) (HR3.out.later hb89') (hr5.later hb10)
          rw [decide_eq_true rfl] at hsS
          have HSS := Lib.hid hsS
          clear hsS hr5 hl5
          go_wp2_with fail
          refine HSS.out.mono ?_
          rintro e w11 ⟨rfl, q, rfl⟩
          have hb1011 : Below w10.heap.size w10 (w10.drewN q) := below_drewN (Below.refl _ _) q
          generalize w10.drewN q = W11 at hb1011 ⊢
          have hb811 := hb89'.trans (hb1011.mono hb89'.size)
          have hb011 := hb08.trans (hb811.mono hb08.size)
          have hr4' := HR4.out.later hb811
          have hr2' := HR2.out.later hb811
          clear q0 q1 q2 q3 q4 HSS HSC x9 hB9 hb09 hb89 hb10 hb89' hb1011 HR3 HR4 HR2 hz9
          go_wp2_with fail
          go_loopw [14] (ParR W11 np) (fun i _ => np - (intOf i).toNat)
          case atStart => exact ⟨0, by omega, rfl, Below.refl _ _⟩
          case round =>
            obtain ⟨k, hk, rfl, hbr⟩ := hrel
            have hb0r := hb011.trans (hbr.mono hb011.size)
            have hBr := hb0.trans (hb0r.mono hz0)
            have xr := b0.later hb0r
            have q0 := xr.c 0
            have q1 := xr.c 1
            have q2 := xr.c 2
            have q3 := xr.c 3
            have q4 := xr.c 4
            simp only [List.getElem?_toArray, List.getElem?_cons_zero, List.getElem?_cons_succ] at q0 q1 q2 q3 q4
            by_cases hlt : k < np
            · obtain ⟨i, x, hpi, hil, hxi, hip⟩ := HPA.out k hlt
              rw [hl] at hil
              obtain ⟨b5, o5, rfl, hb5, d0, d1, d2, d3, d4⟩ := hr2'.in5 hlt hip
              obtain ⟨b4, o4, u4, rfl, hb4x, hu4, e4⟩ := hr4'.at1 hlt
              rw [List.getElem?_map, List.getElem?_map, hpi] at hu4
              simp only [Option.map_some, Option.some.injEq] at hu4
              subst hu4
              obtain ⟨b6, o6, tick6, kind6, number6, fs6, ds6, ts6, hA6, hb6, ht6, c60, c61, c62, c63, c64, c65⟩ := HROW.out.tm hl hil
              rw [hxi] at ht6
              injection ht6 with ht6
              subst ht6
              simp only at d0 d1 d2 d3 d4
              have j0 := (hbr.cell (p := ⟨b5, o5 + k * 5, none⟩) hb5).trans d0
              have j1 := (hbr.cell (p := ⟨b5, o5 + k * 5 + 1, none⟩) hb5).trans d1
              have j2 := (hbr.cell (p := ⟨b5, o5 + k * 5 + 2, none⟩) hb5).trans d2
              have j3 := (hbr.cell (p := ⟨b5, o5 + k * 5 + 3, none⟩) hb5).trans d3
              have j4 := (hbr.cell (p := ⟨b5, o5 + k * 5 + 4, none⟩) hb5).trans d4
              have n4 := (hbr.cell (p := ⟨b4, o4 + k, none⟩) hb4x).trans e4
              have g1 := (hBr.cell (p := ⟨b6, o6 + i * 6 + 1, none⟩) hb6).trans c61
              have g2 := (hBr.cell (p := ⟨b6, o6 + i * 6 + 2, none⟩) hb6).trans c62
              have g3 := (hBr.cell (p := ⟨b6, o6 + i * 6 + 3, none⟩) hb6).trans c63
              have g4 := (hBr.cell (p := ⟨b6, o6 + i * 6 + 4, none⟩) hb6).trans c64
              have g5 := (hBr.cell (p := ⟨b6, o6 + i * 6 + 5, none⟩) hb6).trans c65
              rw [encN_eq] at j2 j3 j4
              unfold encI numAt at n4
              rw [hA6] at q3
              obtain ⟨y, hy⟩ : ∃ y, S.before + (i : Int) + 1 = y := ⟨_, rfl⟩
              rw [hy] at n4
              have hy1 : (y - S.before - 1).toNat = i := by omega
              have hy2 : 0 ≤ y - S.before - 1 := by omega
              have hy3 : y - S.before - 1 < n := by omega
              have hy4 : 0 ≤ y ∧ y ≤ 2000000 := by omega
              have hlt' : (k : Int) < (np : Int) := by omega
              clear hy d0 d1 d2 d3 d4 e4 c60 c61 c62 c63 c64 c65 hpi hip hxi
              go_wp2_with fail
              go_quiet (fail)
              have hbq := below_drewN hbr nq
              go_wp2_with fail
              go_roundw
              case rel => exact ⟨k + 1, by omega, by go_num, hbq⟩
              case measure => simp [intOf]; omega
            · obtain rfl : k = np := by omega
              go_wp2_with fail
              go_ret
              exact ⟨rfl, hBr⟩
    · have hr3' : (r3 != 0) = true := by simp [hr3]
      clear hr3 HCHK
      go_wp2_with fail
      refine (HK.out w3 hB3).mono ?_
      rintro e w4 ⟨rfl, hb4⟩
      go_wp2_with fail
      go_ret
      exact ⟨rfl, hB3.trans (hb4.mono (by have := x3.lt; omega))⟩

end Go.Proofs.YtnibcffcbnjllaaGreatDoor
