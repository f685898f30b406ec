/- (Script).At. -/
import Derived.Test.YtnibcffcbnjllaaGreatDoorText
namespace Go.Proofs.YtnibcffcbnjllaaGreatDoor
open Go.RowKit Go.Sort

theorem Tryz.infoInp : (Tryz.prog.info? 31).map (fun i => (i.zero, i.size, i.bytes)) = some (some (.agg #[.int .i64 0, .int .i64 0, .string ⟨#[]⟩, .string ⟨#[]⟩, .string ⟨#[]⟩]), 5, 64) := by kernel_rfl

/-- The inputs of a tick. -/
def inputsN (l : List Tmd) (t : Int) (k : Nat) : List Inp := ((l.take k).filter fun x => decide (x.tick = t)).map (·.inp)
def inputsOf (S : Scr) (t : Int) : List Inp := if S.lo ≤ t ∧ t < S.hi then inputsN S.inputs t S.inputs.length else []
theorem inputsN_yes {l : List Tmd} {t : Int} {k : Nat} {x : Tmd} (h : l[k]? = some x) (ht : x.tick = t) : inputsN l t (k + 1) = inputsN l t k ++ [x.inp] := by
  unfold inputsN; rw [filter_take_succ _ l k x h, if_pos (by simpa using ht)]; simp
theorem inputsN_no {l : List Tmd} {t : Int} {k : Nat} {x : Tmd} (h : l[k]? = some x) (ht : x.tick ≠ t) : inputsN l t (k + 1) = inputsN l t k := by
  unfold inputsN; rw [filter_take_succ _ l k x h, if_neg (by simpa using ht)]; simp
theorem inputsN_len (l : List Tmd) (t : Int) (k : Nat) : (inputsN l t k).length ≤ k := by
  unfold inputsN; rw [List.length_map]; exact filter_take_len _ _ _

def AtR (W1 : World) (n : Nat) (S : Scr) (t : Int) (v u i : Value) (wr : World) : Prop :=
  ∃ k, k ≤ n ∧ i = .int .i64 (k : Int) ∧ wr.ownsRow W1.heap.size 3 1 v (placesN S.inputs t k).length ((placesN S.inputs t k).map fun i => encI (numAt S i)) ∧
    wr.ownsRow W1.heap.size 31 5 u (inputsN S.inputs t k).length ((inputsN S.inputs t k).flatMap inpCells) ∧ Below W1.heap.size W1 wr

/-- Another row of the call's own, of another type, kept behind an append (both laid behind W1). -/
theorem cells5_new (w : World) (a b : Int) (x y z : ByteArray) (t : TypeId) : ∀ j u, ([.int .i64 a, .int .i64 b, .string x, .string y, .string z] : List Value)[j]? = some u → (w.alloc (.cells #[.int .i64 a, .int .i64 b, .string x, .string y, .string z] t)).cell? ((⟨w.heap.size, 0, none⟩ : Addr).add j) = some u := by
  intro j u hj
  rw [Addr.add_lit, Nat.zero_add]
  have h := (BoxN.new w t #[.int .i64 a, .int .i64 b, .string x, .string y, .string z]).c j
  rw [h]
  simpa using hj

set_option maxRecDepth 100000 in
set_option maxHeartbeats 2000000 in
theorem At_any (S : Scr) (A A' : Option Addr) (n m c d : Nat) (t : Int) (w : World) (hS : ScrAt w w.heap.size A A' n m S) (ht64 : I64 t) (hlo64 : I64 S.lo) (h0 : 0 ≤ S.before) (h1 : S.before ≤ 999999) (hn1 : n ≤ 65536) (hsl : (schedOf S t).length ≤ 1000) :
    Calls Tryz.prog 11 #[scrVal S A A' n m c d, .int .i64 t] w fun e w' => ∃ v1 v2 v3, e = .returned (.tuple #[v1, v2, v3]) ∧
      w'.ownsRow w.heap.size 3 1 v1 (placesOf S t).length ((placesOf S t).map fun i => encI (numAt S i)) ∧ w'.ownsRow w.heap.size 31 5 v2 (inputsOf S t).length ((inputsOf S t).flatMap inpCells) ∧
      w'.ownsRow w.heap.size 53 1 v3 (schedOf S t).length ((schedOf S t).map encN) ∧ Below w.heap.size w w' := by
  have hS0 := hS
  obtain ⟨hr, hl, hs2, hn, hm⟩ := hS
  obtain ⟨i0, hi, hz0, hz1, hz2⟩ := info_parts Tryz.infoInt
  obtain ⟨i1, hi1, hy0, hy1, hy2⟩ := info_parts Tryz.infoInp
  have HL := Lib.hid hl
  have HSC := Lib.hid (fun (W : World) (hb : Below w.heap.size w W) => schedule40_any S A A' n m c d t W ((hS0.below hb).more hb.size) ht64 hlo64)
  clear hl hs2 hS0 ht64 hlo64
  unfold scrVal
  have b0 := BoxN.new w 25 #[.int .i64 S.lo, .int .i64 S.hi, .int .i64 S.before, .slice A n c, .slice A' m d]
  have hb0 : Below w.heap.size w (w.alloc (.cells #[.int .i64 S.lo, .int .i64 S.hi, .int .i64 S.before, .slice A n c, .slice A' m d] 25)) := (Below.refl _ w).alloc (Nat.le_refl _) _
  obtain ⟨W1, hW1⟩ : ∃ W1, w.alloc (.cells #[.int .i64 S.lo, .int .i64 S.hi, .int .i64 S.before, .slice A n c, .slice A' m d] 25) = W1 := ⟨_, rfl⟩
  rw [hW1] at b0 hb0
  have HW := Lib.hid hW1
  clear hW1
  by_cases hh : S.lo ≤ t ∧ t < S.hi
  · have hp : placesOf S t = placesN S.inputs t n := by unfold placesOf; rw [if_pos hh, HL.out]
    have hq : inputsOf S t = inputsN S.inputs t n := by unfold inputsOf; rw [if_pos hh, HL.out]
    have hs : hasB S.lo S.hi t = true := by simp [hasB, hh]
    have HP := Lib.hid hp
    have HQ := Lib.hid hq
    clear hp hq hh
    go_enter Tryz.func11, Tryz.ntmps11
    go_wp2_with fail
    rw [HW.out]
    refine (has38_any S.lo S.hi S.before t (.slice A n c) (.slice A' m d) W1 A A' n m c d rfl rfl).mono ?_
    rintro e w2 ⟨rfl, hb2⟩
    rw [hs]
    have b2 := b0.later hb2
    have hbw2 := hb0.trans (hb2.mono hb0.size)
    have k3 := b2.c 3
    simp only [List.getElem?_toArray, List.getElem?_cons_zero, List.getElem?_cons_succ] at k3
    have hr2 := (hr.below hbw2).more hbw2.size
    obtain ⟨Z, hZ⟩ : ∃ Z, w.heap.size = Z := ⟨_, rfl⟩
    rw [hZ] at b2 k3 hbw2 HSC ⊢
    have HZ := Lib.hid hZ
    clear hr hb0 b0 HW hZ hb2
    go_wp2_with fail
    go_loopw [4, 5, 16] (AtR w2 n S t) (fun _ _ i _ => n - (intOf i).toNat)
    case atStart => exact ⟨0, by omega, rfl, World.ownsRow_nil _ _ _ _, World.ownsRow_nil _ _ _ _, Below.refl _ _⟩
    case round =>
      obtain ⟨k, hk, rfl, hown, hown2, hbr⟩ := hrel
      have hpl := placesN_len S.inputs t k
      have hil := inputsN_len S.inputs t k
      have hsz := hbr.size
      have bR := b2.later hbr
      have q2 := bR.c 2
      simp only [List.getElem?_toArray, List.getElem?_cons_zero, List.getElem?_cons_succ] at q2
      by_cases hlt : k < n
      · obtain ⟨b, off, tick, kind, number, fs, ds, ts, rfl, hb, ht, c0, c1, c2, c3, c4, c5⟩ := hr2.tm HL.out hlt
        have g0 := (hbr.cell (p := ⟨b, off + k * 6, none⟩) hb).trans c0
        have g1 := (hbr.cell (p := ⟨b, off + k * 6 + 1, none⟩) hb).trans c1
        have g2 := (hbr.cell (p := ⟨b, off + k * 6 + 2, none⟩) hb).trans c2
        have g3 := (hbr.cell (p := ⟨b, off + k * 6 + 3, none⟩) hb).trans c3
        have g4 := (hbr.cell (p := ⟨b, off + k * 6 + 4, none⟩) hb).trans c4
        have g5 := (hbr.cell (p := ⟨b, off + k * 6 + 5, none⟩) hb).trans c5
        have HT := Lib.hid ht
        clear ht c0 c1 c2 c3 c4 c5
        by_cases htick : tick = t
        · have t1 : (tick == t) = true := by simp [htick]
          have HS := Lib.hid (placesN_yes HT.out htick)
          have HI := Lib.hid (inputsN_yes HT.out htick)
          clear htick
          have bt := BoxN.new wr 33 #[.int .i64 tick, .int .i64 kind, .int .i64 number, .string fs, .string ds, .string ts]
          have q3 := (bR.alloc (.cells #[.int .i64 tick, .int .i64 kind, .int .i64 number, .string fs, .string ds, .string ts] 33)).c 2
          simp only [List.getElem?_toArray, List.getElem?_cons_zero, List.getElem?_cons_succ] at q3
          have ho3 := hown.alloc (.cells #[.int .i64 tick, .int .i64 kind, .int .i64 number, .string fs, .string ds, .string ts] 33)
          have ho32 := hown2.alloc (.cells #[.int .i64 tick, .int .i64 kind, .int .i64 number, .string fs, .string ds, .string ts] 33)
          have hb3 := hbr.alloc hsz (.cells #[.int .i64 tick, .int .i64 kind, .int .i64 number, .string fs, .string ds, .string ts] 33)
          go_wp2_with (first
            | (at_builtin; refine wpList_append_own _ rfl _ _ 36 rfl w2.heap.size 3 i0 (.int .i64 0) 1 8 Tryz.underlying36 hi hz0 hz1 hz2 rfl (by decide) _ _ _ rfl (ho3.alloc _) ⟨wr.heap.size + 1, 0, none⟩ 1 1 [.int .i64 (S.before + k + 1)] rfl rfl (by simpa using cell_one_new (wr.alloc (.cells #[.int .i64 tick, .int .i64 kind, .int .i64 number, .string fs, .string ds, .string ts] 33)) _ _) (by simp [Value.oneCell']) (by unfold maxLen; omega) (by omega) (by simp; omega) ?_; intro v' w4 hown' hgrow _; have R1 := Lib.hid (own_step ho3 hb3 hgrow); have bt4 := (bt.alloc _).kept hgrow (bt.not_row (by decide) ho3); have ho42 := own_other ho3 ho32 (by decide) hgrow; clear hgrow; have m1 := bt4.c 1; have m2 := bt4.c 2; have m3 := bt4.c 3; have m4 := bt4.c 4; have m5 := bt4.c 5; simp only [List.getElem?_toArray, List.getElem?_cons_zero, List.getElem?_cons_succ] at m1 m2 m3 m4 m5; have z4 := R1.out.size)
            | (at_builtin; refine wpList_append_own _ rfl _ _ 37 rfl w2.heap.size 31 i1 _ 5 64 Tryz.underlying37 hi1 hy0 hy1 hy2 rfl (by decide) _ _ _ rfl (ho42.alloc _) ⟨w4.heap.size, 0, none⟩ 1 1 [.int .i64 kind, .int .i64 number, .string fs, .string ds, .string ts] rfl rfl (cells5_new w4 kind number fs ds ts _) (by simp [Value.oneCell']) (by unfold maxLen; omega) (by omega) (by simp; omega) ?_; intro v2' w5 hown2' hgrow2 _; have R2 := Lib.hid (own_step ho42 R1.out hgrow2); have ho5 := own_other ho42 hown' (by decide) hgrow2; clear hgrow2))
          go_roundw
          case rel => exact ⟨k + 1, by omega, by go_num, by rw [HS.out, List.length_append, List.map_append]; exact ho5, by rw [HI.out, List.length_append, List.flatMap_append]; exact hown2', R2.out⟩
          case measure => simp [intOf]; omega
        · have t1 : (tick == t) = false := by simp [htick]
          have HS := Lib.hid (placesN_no HT.out htick)
          have HI := Lib.hid (inputsN_no HT.out htick)
          go_wp2_with fail
          go_roundw
          case rel => exact ⟨k + 1, by omega, by go_num, by rw [HS.out]; exact hown.alloc _, by rw [HI.out]; exact hown2.alloc _, hbr.alloc hsz _⟩
          case measure => simp [intOf]; omega
      · obtain rfl : k = n := by omega
        have hbR := hbw2.trans (hbr.mono (by have := hbw2.size; have := HZ.out; omega))
        have hSc := HSC.out wr hbR
        have HSc := Lib.hid hSc
        have y0 := bR.c 0
        have y1 := bR.c 1
        have y2 := bR.c 2
        have y3 := bR.c 3
        have y4 := bR.c 4
        simp only [List.getElem?_toArray, List.getElem?_cons_zero, List.getElem?_cons_succ] at y0 y1 y2 y3 y4
        clear hSc hlt hr2 HSC
        go_wp2_with fail
        refine HSc.out.mono ?_
        rintro e w6 ⟨⟨A6, c6, rfl, hr6, _⟩, hb6⟩
        have hC := CloneN_any A6 (schedOf S t).length c6 w6.heap.size ((schedOf S t).map encN) w6 (by omega) ((hr6.below hb6).more hb6.size) (by
          intro u hu
          obtain ⟨x, _, rfl⟩ := List.mem_map.1 hu
          rfl)
        have HC := Lib.hid hC
        clear hC hr6
        go_wp2_with fail
        refine HC.out.mono ?_
        rintro e w7 ⟨v7, rfl, ho7, hb7⟩
        go_wp2_with fail
        have hb67 := hb6.trans (hb7.mono hb6.size)
        have o1 := own_later hown hb67
        have o2 := own_later hown2 hb67
        have hzz : w.heap.size ≤ w2.heap.size := hbw2.size
        have hzr : w.heap.size ≤ w6.heap.size := by have := hb6.size; omega
        rw [← HP.out] at o1
        rw [← HQ.out] at o2
        have hbF : Below w.heap.size w w7 := (by rw [HZ.out]; exact hbR : Below w.heap.size w wr).trans (hb67.mono (by omega))
        exact bodyPost_ret (v := .tuple #[u4, u5, v7]) (by simp [results, Tryz.f11, go_sem]) rfl ⟨_, _, _, rfl, own_base o1 hzz, own_base o2 hzz, own_base ho7 hzr, hbF⟩
  · have hp : placesOf S t = [] := by unfold placesOf; rw [if_neg hh]
    have hq : inputsOf S t = [] := by unfold inputsOf; rw [if_neg hh]
    have hq2 : schedOf S t = [] := by unfold schedOf; rw [if_neg hh]
    have hs : hasB S.lo S.hi t = false := by simp only [hasB, Bool.and_eq_false_iff, decide_eq_false_iff_not]; omega
    rw [hp, hq, hq2]
    clear hp hq hh hq2 hsl
    go_enter Tryz.func11, Tryz.ntmps11
    go_wp2_with fail
    rw [HW.out]
    refine (has38_any S.lo S.hi S.before t (.slice A n c) (.slice A' m d) W1 A A' n m c d rfl rfl).mono ?_
    rintro e w2 ⟨rfl, hb2⟩
    rw [hs]
    go_wp2_with fail
    exact bodyPost_ret (v := .tuple #[.slice none 0 0, .slice none 0 0, .slice none 0 0]) (by simp [results, Tryz.f11, go_sem]) rfl ⟨_, _, _, rfl, World.ownsRow_nil _ _ _ _, World.ownsRow_nil _ _ _ _, World.ownsRow_nil _ _ _ _, hb0.trans (hb2.mono hb0.size)⟩

end Go.Proofs.YtnibcffcbnjllaaGreatDoor
