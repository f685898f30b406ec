/- ScriptTakes. -/
import Derived.Test.YtnibcffcbnjllaaGreatDoorTak1
namespace Go.Proofs.YtnibcffcbnjllaaGreatDoor
open Go.RowKit Go.Sort


set_option maxRecDepth 100000 in
set_option maxHeartbeats 8000000 in
theorem ScriptTakes_any (hK : Knows) (S : Scr) (As As' : Option Addr) (sn sm sc sd : Nat) (A A' : Option Addr) (n c m d : Nat) (xs : List Int) (ns : List Nm) (B B' : Option Addr) (n2 c2 m2 d2 : Nat) (ys : List Int) (ms : List Nm) (w : World) (hok : Ok w)
    (hS : ScrAt w w.heap.size As As' sn sm S) (h1 : I64 S.lo) (h2 : I64 S.hi) (h3 : I64 S.before)
    (hr : Row w w.heap.size 1 A n (xs.map encI)) (hr' : Row w w.heap.size 1 A' m (ns.map encN)) (hn : n ≤ 4611686018427387904) (hm : m ≤ 4611686018427387904) (hxs : ∀ y ∈ xs, I64 y)
    (hq : Row w w.heap.size 1 B n2 (ys.map encI)) (hq' : Row w w.heap.size 1 B' m2 (ms.map encN)) (hn2 : n2 ≤ 4611686018427387904) (hm2 : m2 ≤ 4611686018427387904) :
    Calls Tryz.prog 4 #[scrVal S As As' sn sm sc sd, .agg #[.slice A n c, .slice A' m d], .agg #[.slice B n2 c2, .slice B' m2 d2]] w fun e w' => RetTrue w e w' := by
  obtain ⟨ii0, hii, hzz0, hzz1, hzz2⟩ := info_parts Tryz.infoInt
  have HSm := Lib.hid (fun (W : World) (hb : Below w.heap.size w W) => small_any S As As' sn sm sc sd W ((hS.below hb).more hb.size) h1 h2)
  have HCh := Lib.hid (fun (W : World) (hb : Below w.heap.size w W) (hs : SmallS S) => check_any S As As' sn sm sc sd W (hok.later hb) ((hS.below hb).more hb.size) h1 h2 h3 hs)
  have HF1 := Lib.hid (fun (W : World) (hb : Below w.heap.size w W) => few_any A A' n m c d xs ns W hn hm ((hr.below hb).more hb.size) ((hr'.below hb).more hb.size))
  have HF2 := Lib.hid (fun (W : World) (hb : Below w.heap.size w W) => few_any B B' n2 m2 c2 d2 ys ms W hn2 hm2 ((hq.below hb).more hb.size) ((hq'.below hb).more hb.size))
  have HIn := Lib.hid (fun (W : World) (hb : Below w.heap.size w W) (x : Int) (hx : x ∈ xs) => Input_any S As As' sn sm sc sd x W ((hS.below hb).more hb.size) (hxs x hx) h3)
  have HTk := Lib.hid (fun (W : World) (hb : Below w.heap.size w W) => Take_any S As As' sn sm sc sd A A' n c m d xs ns W (hok.later hb) ((hS.below hb).more hb.size) h3 hxs)
  have HK := Lib.hid (fun (W : World) (hb : Below w.heap.size w W) => hK W (hok.later hb))
  have HOK := Lib.hid (fun (W : World) (hb : Below w.heap.size w W) => hok.later hb)
  have hlx : xs.length = n := by simpa using hr.1
  have hlm : ns.length = m := by simpa using hr'.1
  have hly : ys.length = n2 := by simpa using hq.1
  have hlz : ms.length = m2 := by simpa using hq'.1
  have HR := Lib.hid hr
  have HR' := Lib.hid hr'
  have HQ := Lib.hid hq
  have HQ' := Lib.hid hq'
  have b0 := ((BoxN.new w 25 #[.int .i64 S.lo, .int .i64 S.hi, .int .i64 S.before, .slice As sn sc, .slice As' sm sd]).alloc (.cells #[.slice A n c, .slice A' m d] 47)).alloc (.cells #[.slice B n2 c2, .slice B' m2 d2] 47)
  have b1 := (Box2.new (w.alloc (.cells #[.int .i64 S.lo, .int .i64 S.hi, .int .i64 S.before, .slice As sn sc, .slice As' sm sd] 25)) 47 (.slice A n c) (.slice A' m d)).alloc (.cells #[.slice B n2 c2, .slice B' m2 d2] 47)
  have b2 := Box2.new ((w.alloc (.cells #[.int .i64 S.lo, .int .i64 S.hi, .int .i64 S.before, .slice As sn sc, .slice As' sm sd] 25)).alloc (.cells #[.slice A n c, .slice A' m d] 47)) 47 (.slice B n2 c2) (.slice B' m2 d2)
  have hb0 : Below w.heap.size w (((w.alloc (.cells #[.int .i64 S.lo, .int .i64 S.hi, .int .i64 S.before, .slice As sn sc, .slice As' sm sd] 25)).alloc (.cells #[.slice A n c, .slice A' m d] 47)).alloc (.cells #[.slice B n2 c2, .slice B' m2 d2] 47)) := (((Below.refl _ w).alloc (Nat.le_refl _) _).alloc (by simp) _).alloc (by simp; omega) _
  simp only [World.size_alloc] at b1 b2
  obtain ⟨W0, hW0⟩ : ∃ W0, ((w.alloc (.cells #[.int .i64 S.lo, .int .i64 S.hi, .int .i64 S.before, .slice As sn sc, .slice As' sm sd] 25)).alloc (.cells #[.slice A n c, .slice A' m d] 47)).alloc (.cells #[.slice B n2 c2, .slice B' m2 d2] 47) = W0 := ⟨_, rfl⟩
  rw [hW0] at b0 b1 b2 hb0
  have HW := Lib.hid hW0
  unfold RetTrue
  unfold scrVal at HSm HCh HIn HTk ⊢
  obtain ⟨Z, hZ⟩ : ∃ Z, w.heap.size = Z := ⟨_, rfl⟩
  rw [hZ] at b0 b1 b2 hb0 HSm HCh HF1 HF2 HIn HTk HK HOK HR HR' HQ HQ' ⊢
  have HZ := Lib.hid hZ
  have hz0 : Z ≤ W0.heap.size := by have := b0.lt; omega
  clear hW0 hZ hK hok hS hr hr' hq hq'
  unfold I64 at h1 h2 h3
  go_enter Tryz.func4, Tryz.ntmps4
  go_wp2_with fail
  rw [HW.out, HZ.out]
  obtain ⟨ZW, hZW⟩ : ∃ ZW, Z + 1 = ZW := ⟨_, rfl⟩
  obtain ⟨ZA, hZA⟩ : ∃ ZA, ZW + 1 = ZA := ⟨_, rfl⟩
  rw [hZW] at b1 b2 ⊢
  rw [hZA] at b2 ⊢
  have hzw : Z < ZW := by omega
  have hza : ZW < ZA := by omega
  clear hZW hZA
  refine (HK.out W0 hb0).mono ?_
  rintro e w1 ⟨rfl, hb1⟩
  have hB1 := hb0.trans (hb1.mono hz0)
  have x1 := b0.later hb1
  have q0 := x1.c 0
  have q1 := x1.c 1
  have q2 := x1.c 2
  have q3 := x1.c 3
  have q4 := x1.c 4
  simp only [List.getElem?_toArray, List.getElem?_cons_zero, List.getElem?_cons_succ] at q0 q1 q2 q3 q4
  go_wp2_with fail
  refine (HSm.out w1 hB1).mono ?_
  rintro e w2 ⟨r2, rfl, hb2, hsm⟩
  have hb2' := hb1.trans (hb2.mono hb1.size)
  have hB2 := hb0.trans (hb2'.mono hz0)
  have HSM := Lib.hid hsm
  clear hsm q0 q1 q2 q3 q4 x1
  have x2 := b0.later hb2'
  have y2 := b1.later hb2'
  have j0 := y2.c0
  have j1 := y2.c1
  cases r2 with
  | false =>
    go_wp2_with fail
    refine (HK.out w2 hB2).mono ?_
    rintro e w99 ⟨rfl, hb99⟩
    go_wp2_with fail
    go_ret
    exact ⟨rfl, hB2.trans (hb99.mono (by have := x2.lt; omega))⟩
  | true =>
    have HSMT := Lib.hid (HSM.out rfl)
    clear HSM
    go_wp2_with fail
    refine (HF1.out w2 hB2).mono ?_
    rintro e w3 ⟨rfl, hb3⟩
    have hb3' := hb2'.trans (hb3.mono hb2'.size)
    have hB3 := hb0.trans (hb3'.mono hz0)
    clear j0 j1 y2 x2
    have x3 := b0.later hb3'
    have y3 := b2.later hb3'
    have j0 := y3.c0
    have j1 := y3.c1
    cases hf1 : fewB xs ns with
    | false =>
      go_wp2_with fail
      refine (HK.out w3 hB3).mono ?_
      rintro e w99 ⟨rfl, hb99⟩
      go_wp2_with fail
      go_ret
      exact ⟨rfl, hB3.trans (hb99.mono (by have := x3.lt; omega))⟩
    | true =>
      have HF1T := Lib.hid hf1
      clear hf1
      go_wp2_with fail
      refine (HF2.out w3 hB3).mono ?_
      rintro e w4 ⟨rfl, hb4⟩
      have hb4' := hb3'.trans (hb4.mono hb3'.size)
      have hB4 := hb0.trans (hb4'.mono hz0)
      clear j0 j1 y3 x3
      have x4 := b0.later hb4'
      have q0 := x4.c 0
      have q1 := x4.c 1
      have q2 := x4.c 2
      have q3 := x4.c 3
      have q4 := x4.c 4
      simp only [List.getElem?_toArray, List.getElem?_cons_zero, List.getElem?_cons_succ] at q0 q1 q2 q3 q4
      cases hf2 : fewB ys ms with
      | false =>
        go_wp2_with fail
        refine (HK.out w4 hB4).mono ?_
        rintro e w99 ⟨rfl, hb99⟩
        go_wp2_with fail
        go_ret
        exact ⟨rfl, hB4.trans (hb99.mono (by have := x4.lt; omega))⟩
      | true =>
        have HF2T := Lib.hid hf2
        clear hf2
        go_wp2_with fail
        refine (HCh.out w4 hB4 HSMT.out).mono ?_
        rintro e w5 ⟨r5, rfl, hb5, hch⟩
        have hb5' := hb4'.trans (hb5.mono hb4'.size)
        have hB5 := hb0.trans (hb5'.mono hz0)
        have HCHK := Lib.hid hch
        clear hch q0 q1 q2 q3 q4 x4
        have x5 := b0.later hb5'
        have y5 := b1.later hb5'
        have z5 := b2.later hb5'
        by_cases hr5 : r5 = 0
        · have hr5' : (r5 != 0) = false := by simp [hr5]
          obtain ⟨k1, k2, k3, k4, k5, k6, k7, k8⟩ := HCHK.out hr5
          obtain ⟨f1, f2, f3⟩ := fewB_true HF1T.out
          obtain ⟨f4, f5, f6⟩ := fewB_true HF2T.out
          have HF3 := Lib.hid f3
          have HF6 := Lib.hid f6
          have hn30 : n ≤ 30 := by omega
          have hm30 : m ≤ 30 := by omega
          have hn230 : n2 ≤ 30 := by omega
          have hm230 : m2 ≤ 30 := by omega
          clear hr5 HCHK HSMT HF1 HF2 HF1T HF2T HCh HSm HK f1 f2 f3 f4 f5 f6 hb1 hb2 hb3 hb4 hb5 hb2' hb3' hb4' hB1 hB2 hB3 hB4 hb5'
          have hz5 : Z ≤ w5.heap.size := by have := x5.lt; omega
          go_wp2_with fail
          go_loopw [7, 8] (TksR1 S w5 n xs) (fun _ i _ => n - (intOf i).toNat)
          case atStart => exact ⟨0, [], by omega, rfl, rfl, World.ownsRow_nil _ _ _ _, Below.refl _ _⟩
          case round =>
            obtain ⟨k, ts, hk, rfl, hts, hown, hbr⟩ := hrel
            have htl : ts.length ≤ k := by rw [hts]; exact filter_take_len _ _ _
            have HTS := Lib.hid hts
            have hsz := hbr.size
            have hBr := hB5.trans (hbr.mono hz5)
            have xr := x5.later hbr
            have yr := y5.later hbr
            have zr := z5.later hbr
            have i0 := yr.c0
            clear hts
            by_cases hlt : k < n
            · obtain ⟨bx, ox, u, rfl, hbx, hx0, cx0⟩ := HR.out.at1 hlt
              rw [List.getElem?_map] at hx0
              obtain ⟨x, hx, rfl⟩ := Option.map_eq_some_iff.1 hx0
              clear hx0
              have cxr := (hBr.cell (p := ⟨bx, ox + k, none⟩) hbx).trans cx0
              unfold encI at cxr
              have hstep := filter_take_succ (inS S) xs k x hx
              have hIn := fun W hb => HIn.out W hb x (List.mem_of_getElem? hx)
              obtain ⟨t1, t2, t3, s1, s2, s3, htm⟩ := tmd_form (inputOf S x)
              rw [htm] at hIn
              have hlt' : (k : Int) < (n : Int) := by omega
              have q0 := xr.c 0
              have q1 := xr.c 1
              have q2 := xr.c 2
              have q3 := xr.c 3
              have q4 := xr.c 4
              simp only [List.getElem?_toArray, List.getElem?_cons_zero, List.getElem?_cons_succ] at q0 q1 q2 q3 q4
              have s7 : S7 Z ZW bx (ox + k) (.int .i64 S.lo) (.int .i64 S.hi) (.int .i64 S.before) (.slice As sn sc) (.slice As' sm sd) (.slice (some ⟨bx, ox, none⟩) n c) (.int .i64 x) wr := ⟨q0, q1, q2, q3, q4, i0, cxr⟩
              have S70 := Lib.hid s7
              have zl := xr.lt
              have zwl := yr.lt
              have bxl : bx < wr.heap.size := by omega
              have ne1 : Z ≠ wr.heap.size := by omega
              have ne2 : ZW ≠ wr.heap.size := by omega
              have ne3 : bx ≠ wr.heap.size := by omega
              have hzr : Z ≤ wr.heap.size := by omega
              have HIN := Lib.hid hIn
              have HST := Lib.hid hstep
              clear hIn htm s7 hstep hx cx0
              go_wp2_with fail
              go_region_held3 (fun W => W.cell? ⟨Z, 0, none⟩ = some (.int .i64 S.lo) ∧ W.cell? ⟨Z, 1, none⟩ = some (.int .i64 S.hi) ∧ W.cell? ⟨Z, 2, none⟩ = some (.int .i64 S.before) ∧ W.cell? ⟨Z, 3, none⟩ = some (.slice As sn sc) ∧ W.cell? ⟨Z, 4, none⟩ = some (.slice As' sm sd) ∧ W.cell? ⟨ZW, 0, none⟩ = some (.slice (some ⟨bx, ox, none⟩) n c) ∧ W.cell? ⟨bx, ox + k, none⟩ = some (.int .i64 x)) (first | with_reducible exact S70.out | with_reducible exact S70.out.drew | with_reducible exact S71 | with_reducible exact S71.alloc _ | with_reducible exact S70.out.allocd _ | with_reducible exact S70.out.alloc _ | with_reducible exact S72 | with_reducible exact S72.set6 ne1 ne2 ne3) (first
                | (go_at_call 10; with_reducible refine (HIN.out _ hBr.drew).mono ?_; rintro e w6 ⟨rfl, hb6⟩; replace hb6 := below_of_drew hb6; have S71 := S7.below hb6 S70.out zl zwl bxl)
                | (go_at_call 10; with_reducible refine (HIN.out _ (hBr.alloc hzr _).drew).mono ?_; rintro e w6 ⟨rfl, hb6⟩; replace hb6 := below_of_drew hb6; have S72 := S7.below hb6 (S7.alloc _ S70.out) (by simp; omega) (by simp; omega) (by simp; omega); have bx9 := (BoxN.new wr 33 #[.int .i64 0, .int .i64 0, .int .i64 0, .string ⟨#[]⟩, .string ⟨#[]⟩, .string ⟨#[]⟩]).later hb6; have f0 := bx9.f 0; have f1 := bx9.f 1; have f2 := bx9.f 2; have f3 := bx9.f 3; have f4 := bx9.f 4; have f5 := bx9.f 5; have e0 := bx9.c 0; have e1 := bx9.c 1; have e2 := bx9.c 2; have e3 := bx9.c 3; have e4 := bx9.c 4; have e5 := bx9.c 5; simp only [List.getElem?_toArray, List.getElem?_cons_zero, List.getElem?_cons_succ] at e0 e1 e2 e3 e4 e5))
              · have hown6 := (own_later hown hb6).alloc (.cells #[.int .i64 t1, .int .i64 t2, .int .i64 t3, .string s1, .string s2, .string s3] 33)
                have hb56 := (hbr.trans (hb6.mono hsz)).alloc (Nat.le_trans hsz hb6.size) (.cells #[.int .i64 t1, .int .i64 t2, .int .i64 t3, .string s1, .string s2, .string s3] 33)
                have hs7 := S71.alloc (.cells #[.int .i64 t1, .int .i64 t2, .int .i64 t3, .string s1, .string s2, .string s3] 33)
                obtain ⟨W6, hW6⟩ : ∃ W6, w6.alloc (.cells #[.int .i64 t1, .int .i64 t2, .int .i64 t3, .string s1, .string s2, .string s3] 33) = W6 := ⟨_, rfl⟩
                rw [hW6] at hown6 hb56 hs7 ⊢
                clear hW6
                generalize w6.heap.size = P9
                obtain ⟨_, _, _, _, _, i6, c6⟩ := hs7
                have hsz6 := hb56.size
                clear q0 q1 q2 q3 q4 i0 cxr S70 HIN
                cases hin : inS S x with
                | true =>
                  have hst := HST.out
                  rw [if_pos hin, ← HTS.out] at hst
                  have HST2 := Lib.hid hst
                  clear hst HST hin
                  go_wp2_with (at_builtin; refine wpList_append_own _ rfl _ _ 36 rfl w5.heap.size 3 ii0 (.int .i64 0) 1 8 Tryz.underlying36 hii hzz0 hzz1 hzz2 rfl (by decide) _ _ _ rfl (hown6.alloc _) ⟨W6.heap.size, 0, none⟩ 1 1 [.int .i64 x] rfl rfl (cell_one_new _ _ _) (by simp [Value.oneCell']) (by unfold maxLen; omega) (by omega) (by simp; omega) ?_; intro v' w7 hown' hgrow _; have R := Lib.hid (own_step hown6 hb56 hgrow); clear hgrow)
                  go_roundw
                  case rel => exact ⟨k + 1, ts ++ [x], by omega, by go_num, HST2.out.symm, by rw [List.map_append, List.length_append]; exact hown', R.out⟩
                  case measure => simp [intOf]; omega
                | false =>
                  have hst := HST.out
                  rw [if_neg (by rw [hin]; simp), ← HTS.out, List.append_nil] at hst
                  have HST2 := Lib.hid hst
                  clear hst HST hin
                  go_wp2_with fail
                  go_roundw
                  case rel => exact ⟨k + 1, ts, by omega, by go_num, HST2.out.symm, hown6, hb56⟩
                  case measure => simp [intOf]; omega
              · have hown6 := own_set6 (own_later (hown.alloc (.cells #[.int .i64 0, .int .i64 0, .int .i64 0, .string ⟨#[]⟩, .string ⟨#[]⟩, .string ⟨#[]⟩] 33)) hb6) bx9 (by decide) (.int .i64 t1) (.int .i64 t2) (.int .i64 t3) (.string s1) (.string s2) (.string s3)
                have hb56 := below_set6 (P := wr.heap.size) ((hbr.alloc hsz (.cells #[.int .i64 0, .int .i64 0, .int .i64 0, .string ⟨#[]⟩, .string ⟨#[]⟩, .string ⟨#[]⟩] 33)).trans (hb6.mono (by simp; omega))) hsz (.int .i64 t1) (.int .i64 t2) (.int .i64 t3) (.string s1) (.string s2) (.string s3)
                have hs7 := S7.set6 (v0 := .int .i64 t1) (v1 := .int .i64 t2) (v2 := .int .i64 t3) (v3 := .string s1) (v4 := .string s2) (v5 := .string s3) S72 ne1 ne2 ne3
                unfold set6 at hown6 hb56 hs7
                obtain ⟨W6, hW6⟩ : ∃ W6, (((((w6.setCell ⟨wr.heap.size, 0, none⟩ (.int .i64 t1)).setCell ⟨wr.heap.size, 1, none⟩ (.int .i64 t2)).setCell ⟨wr.heap.size, 2, none⟩ (.int .i64 t3)).setCell ⟨wr.heap.size, 3, none⟩ (.string s1)).setCell ⟨wr.heap.size, 4, none⟩ (.string s2)).setCell ⟨wr.heap.size, 5, none⟩ (.string s3) = W6 := ⟨_, rfl⟩
                rw [hW6] at hown6 hb56 hs7 ⊢
                clear hW6 f0 f1 f2 f3 f4 f5 e0 e1 e2 e3 e4 e5
                generalize wr.heap.size = P9
                obtain ⟨_, _, _, _, _, i6, c6⟩ := hs7
                have hsz6 := hb56.size
                clear q0 q1 q2 q3 q4 i0 cxr S70 HIN
                cases hin : inS S x with
                | true =>
                  have hst := HST.out
                  rw [if_pos hin, ← HTS.out] at hst
                  have HST2 := Lib.hid hst
                  clear hst HST hin
                  go_wp2_with (at_builtin; refine wpList_append_own _ rfl _ _ 36 rfl w5.heap.size 3 ii0 (.int .i64 0) 1 8 Tryz.underlying36 hii hzz0 hzz1 hzz2 rfl (by decide) _ _ _ rfl (hown6.alloc _) ⟨W6.heap.size, 0, none⟩ 1 1 [.int .i64 x] rfl rfl (cell_one_new _ _ _) (by simp [Value.oneCell']) (by unfold maxLen; omega) (by omega) (by simp; omega) ?_; intro v' w7 hown' hgrow _; have R := Lib.hid (own_step hown6 hb56 hgrow); clear hgrow)
                  go_roundw
                  case rel => exact ⟨k + 1, ts ++ [x], by omega, by go_num, HST2.out.symm, by rw [List.map_append, List.length_append]; exact hown', R.out⟩
                  case measure => simp [intOf]; omega
                | false =>
                  have hst := HST.out
                  rw [if_neg (by rw [hin]; simp), ← HTS.out, List.append_nil] at hst
                  have HST2 := Lib.hid hst
                  clear hst HST hin
                  go_wp2_with fail
                  go_roundw
                  case rel => exact ⟨k + 1, ts, by omega, by go_num, HST2.out.symm, hown6, hb56⟩
                  case measure => simp [intOf]; omega
            · obtain rfl : k = n := by omega
              have hte : ts = xs.filter (inS S) := by rw [HTS.out, ← hlx, List.take_length]
              obtain ⟨At, ct, rfl, hrt⟩ := own_form hown
              obtain ⟨fx, hfx⟩ : ∃ fx, xs.filter (inS S) = fx := ⟨_, rfl⟩
              obtain ⟨cx, hcx⟩ : ∃ cx, canI fx = cx := ⟨_, rfl⟩
              obtain ⟨cl, hcl⟩ : ∃ cl, canL cx ns = cl := ⟨_, rfl⟩
              have hte' : ts = fx := hte.trans hfx
              subst hte'
              have hTK := fun W hb => (HTk.out W hb (by omega) (by omega) (fun x hx => by have := HF3.out x hx; omega) ((HR.out.below hb).more (by rw [← HZ.out]; exact hb.size)) ((HR'.out.below hb).more (by rw [← HZ.out]; exact hb.size)))
              rw [hfx, hcx, hcl] at hTK
              have hTK2 : ∀ W, Below Z w W → Calls Tryz.prog 17 #[.agg #[.int .i64 S.lo, .int .i64 S.hi, .int .i64 S.before, .slice As sn sc, .slice As' sm sd], .slice A k c, .slice A' m d] W fun e w' => CanRes W Z cx cl e w' := fun W (hb : Below Z w W) => (hTK W hb).mono fun e w' h => canRes_of (Z := Z) (by rw [← HZ.out]; exact hb.size) h
              have hCN : ∀ W, Below Z w W → Below wr.heap.size wr W → Calls Tryz.prog 18 #[.agg #[.slice At ts.length ct, .slice A' m d]] W fun e w' => CanRes W Z cx cl e w' := fun (W : World) (hb : Below Z w W) (hb2 : Below wr.heap.size wr W) => (canonical44_any At A' ts.length ct m d ts ns W (HOK.out W hb) (by omega) (by omega) (fun x hx => by have := HF3.out x hx; omega) (hrt.later hb2) ((HR'.out.below hb).more (by rw [← HZ.out]; exact hb.size)) cx (by rw [canI_law, hcx]) cl (by rw [canL_law, hcl])).mono fun e w' h => canRes_of (Z := Z) (by rw [← HZ.out]; exact hb.size) h
              have HTK := Lib.hid hTK2
              have HCN := Lib.hid hCN
              have HCX := Lib.hid hcx
              have HCL := Lib.hid hcl
              clear hTK hTK2 hCN hte HTS hfx hcx hcl HTk HIn hown hrt
              have q0 := xr.c 0
              have q1 := xr.c 1
              have q2 := xr.c 2
              have q3 := xr.c 3
              have q4 := xr.c 4
              simp only [List.getElem?_toArray, List.getElem?_cons_zero, List.getElem?_cons_succ] at q0 q1 q2 q3 q4
              have i1 := yr.c1
              have s8 : S8 Z ZW (.int .i64 S.lo) (.int .i64 S.hi) (.int .i64 S.before) (.slice As sn sc) (.slice As' sm sd) (.slice A k c) (.slice A' m d) wr := ⟨q0, q1, q2, q3, q4, i0, i1⟩
              have S80 := Lib.hid s8
              have zl := xr.lt
              have zwl := yr.lt
              have hz : Z ≤ w.heap.size := Nat.le_of_eq HZ.out.symm
              have hzr : Z ≤ wr.heap.size := by omega
              clear s8
              go_wp2_with fail
              go_cut [11, 12] (fun s11 s12 W => Got w wr Z cx cl s11 s12 W)
              case first =>
                go_region_held3 (fun W => W.cell? ⟨Z, 0, none⟩ = some (.int .i64 S.lo) ∧ W.cell? ⟨Z, 1, none⟩ = some (.int .i64 S.hi) ∧ W.cell? ⟨Z, 2, none⟩ = some (.int .i64 S.before) ∧ W.cell? ⟨Z, 3, none⟩ = some (.slice As sn sc) ∧ W.cell? ⟨Z, 4, none⟩ = some (.slice As' sm sd) ∧ W.cell? ⟨ZW, 0, none⟩ = some (.slice A k c) ∧ W.cell? ⟨ZW, 1, none⟩ = some (.slice A' m d)) (repeat (first | with_reducible exact S80.out | with_reducible assumption | with_reducible refine S8.drew ?_ | with_reducible refine S8.alloc _ ?_ | (with_reducible refine S8.set _ ?_ (by omega) (by omega)))) (first
                  | (go_at_call 17; (with_reducible refine (HTK.out _ hBr.drew).mono ?_); rintro e w6 ⟨A6, c6, A7, c7, rfl, o6, o7, hb6⟩; replace hb6 := below_of_drew hb6; have r6 := hb6; have S86 := S8.below r6 S80.out zl zwl; have hB6 := hBr.trans (r6.mono hzr); have z6 := r6.size)
                  | (go_at_call 17; (with_reducible refine (HTK.out _ (below_al hz _ hBr).drew).mono ?_); rintro e w6 ⟨A6, c6, A7, c7, rfl, o6, o7, hb6⟩; replace hb6 := below_of_drew hb6; have r6 := (al_self wr (.cells #[.slice none 0 0, .slice none 0 0] 47)).trans (hb6.mono (by simp)); have S86 := S8.below r6 S80.out zl zwl; have hB6 := hBr.trans (r6.mono hzr); have z6 := r6.size; have bT1 := (Box2.new wr 47 (.slice none 0 0) (.slice none 0 0)).later hb6; have tl1 := bT1.lt)
                  | (go_at_call 17; (with_reducible refine (HTK.out _ (below_al hz _ (below_al hz _ hBr)).drew).mono ?_); rintro e w6 ⟨A6, c6, A7, c7, rfl, o6, o7, hb6⟩; replace hb6 := below_of_drew hb6; have r6 := (al_self2 wr (.cells #[.slice none 0 0, .slice none 0 0] 47) (.cells #[.slice none 0 0, .slice none 0 0] 47)).trans (hb6.mono (by simp; omega)); have S86 := S8.below r6 S80.out zl zwl; have hB6 := hBr.trans (r6.mono hzr); have z6 := r6.size; have bT1 := ((Box2.new wr 47 (.slice none 0 0) (.slice none 0 0)).alloc (.cells #[.slice none 0 0, .slice none 0 0] 47)).later hb6; have bT2 := (Box2.new (wr.alloc (.cells #[.slice none 0 0, .slice none 0 0] 47)) 47 (.slice none 0 0) (.slice none 0 0)).later hb6; simp only [World.size_alloc] at bT2; have tl1 := bT1.lt; have tl2 := bT2.lt)
                  | (go_at_call 18; (with_reducible refine (HCN.out _ hB6 r6).mono ?_); rintro e w7 ⟨A8, c8, A9, c9, rfl, o8, o9, hb7⟩; have h67 := hb7; have r7 := r6.trans (h67.mono z6); have S87 := S8.below r7 S80.out zl zwl; have hB7 := hBr.trans (r7.mono hzr); have z7 := h67.size; have p6 := own_later o6 h67; have p7 := own_later o7 h67; (try (have bU1 := bT1.later h67; have uf0 := bU1.f0; have uf1 := bU1.f1; have uc0 := bU1.c0; have uc1 := bU1.c1; have ul := bU1.lt)); (try (have bU2 := bT2.later h67; have vf0 := bU2.f0; have vf1 := bU2.f1; have vc0 := bU2.c0; have vc1 := bU2.c1; have vl := bU2.lt)))
                  | (go_at_call 18; (with_reducible refine (HCN.out _ (below_al hz _ hB6) (below_al (Nat.le_refl _) _ r6)).mono ?_); rintro e w7 ⟨A8, c8, A9, c9, rfl, o8, o9, hb7⟩; have h67 := (al_self w6 (.cells #[.slice none 0 0, .slice none 0 0] 47)).trans (hb7.mono (by simp)); have r7 := r6.trans (h67.mono z6); have S87 := S8.below r7 S80.out zl zwl; have hB7 := hBr.trans (r7.mono hzr); have z7 := h67.size; have p6 := own_later o6 h67; have p7 := own_later o7 h67; (try (have bU1 := bT1.later h67; have uf0 := bU1.f0; have uf1 := bU1.f1; have uc0 := bU1.c0; have uc1 := bU1.c1; have ul := bU1.lt)); have bU3 := (Box2.new w6 47 (.slice none 0 0) (.slice none 0 0)).later hb7; have yf0 := bU3.f0; have yf1 := bU3.f1; have yc0 := bU3.c0; have yc1 := bU3.c1; have yl := bU3.lt)
                  | (go_at_call 18; (with_reducible refine (HCN.out _ (below_al hz _ (below_al hz _ hB6)) (below_al (Nat.le_refl _) _ (below_al (Nat.le_refl _) _ r6))).mono ?_); rintro e w7 ⟨A8, c8, A9, c9, rfl, o8, o9, hb7⟩; have h67 := (al_self2 w6 (.cells #[.slice none 0 0, .slice none 0 0] 47) (.cells #[.slice none 0 0, .slice none 0 0] 47)).trans (hb7.mono (by simp; omega)); have r7 := r6.trans (h67.mono z6); have S87 := S8.below r7 S80.out zl zwl; have hB7 := hBr.trans (r7.mono hzr); have z7 := h67.size; have p6 := own_later o6 h67; have p7 := own_later o7 h67; have bU3 := ((Box2.new w6 47 (.slice none 0 0) (.slice none 0 0)).alloc (.cells #[.slice none 0 0, .slice none 0 0] 47)).later hb7; have yf0 := bU3.f0; have yf1 := bU3.f1; have yc0 := bU3.c0; have yc1 := bU3.c1; have yl := bU3.lt; have bU4 := (Box2.new (w6.alloc (.cells #[.slice none 0 0, .slice none 0 0] 47)) 47 (.slice none 0 0) (.slice none 0 0)).later hb7; simp only [World.size_alloc] at bU4; have zf0 := bU4.f0; have zf1 := bU4.f1; have zc0 := bU4.c0; have zc1 := bU4.c1; have zl := bU4.lt))
                all_goals
                  go_wp2_with fail
                  go_meet
                  have L4 : Left4 w wr w7 Z cx cl A6 A7 A8 A9 c6 c7 c8 c9 := ⟨p6, p7, o8, o9, r7, hB7, hz, hzr⟩
                  have lz : wr.heap.size ≤ wr.heap.size := Nat.le_refl _
                  have lz1 : wr.heap.size ≤ wr.heap.size + 1 := Nat.le_succ _
                  have lz6 : wr.heap.size ≤ w6.heap.size + 1 := Nat.le_succ_of_le z6
                  first
                    | with_reducible exact got_I L4
                    | with_reducible exact got_J L4
                    | with_reducible exact got_K L4 bU1 lz
                    | with_reducible exact got_K L4 bU3 z6
                    | with_reducible exact got_L L4 bU1 lz
                    | with_reducible exact got_L L4 bU3 z6
                    | with_reducible exact got_M L4 bU3 bU4 z6 lz6 (by omega)
                    | with_reducible exact got_M L4 bU4 bU3 lz6 z6 (by omega)
                    | with_reducible exact got_M L4 bU1 bU3 lz z6 (by omega)
                    | with_reducible exact got_M L4 bU3 bU1 z6 lz (by omega)
                    | with_reducible exact got_M L4 bU1 bU2 lz lz1 (by omega)
                    | with_reducible exact got_M L4 bU2 bU1 lz1 lz (by omega)
              case rest =>
                obtain ⟨P, Q, A6, c6, A7, c7, A8, c8, A9, c9, rfl, rfl, bP, bQ, o6, o7, o8, o9, rc, hBc⟩ := hcut
                have R6 := Lib.hid (Row.of_own o6)
                have R7 := Lib.hid (Row.of_own o7)
                have R8 := Lib.hid (Row.of_own o8)
                have R9 := Lib.hid (Row.of_own o9)
                have hcI : canI cx = cx := by rw [← HCX.out]; exact canI_idem _
                have hcL : canL cx cl = cl := by rw [← HCL.out]; exact canL_idem _ _
                have hcx1 : ∀ x ∈ cx, 1 ≤ x := fun x hx => by rw [← HCX.out] at hx; exact (((canI_spec ts).2 x).1 hx).2
                have hclo : ∀ x ∈ cl, okN x = true ∧ x ∈ ns := fun x hx => by rw [← HCL.out] at hx; exact canL_ok hx
                have hcxl : cx.length ≤ 30 := by
                  rw [← HCX.out]
                  have h1 := sortI_len (ts.filter fun x => decide (1 ≤ x))
                  have h2 := List.length_filter_le (fun x => decide (1 ≤ x)) ts
                  unfold canI
                  omega
                have hcll : cl.length ≤ 30 := by
                  rw [← HCL.out]
                  have h1 := List.length_filter_le (fun x => !decide (rootOf x ∈ rootsN cx)) (topsN (ns.filter okN))
                  have h2 := topsN_len (ns.filter okN)
                  have h3 := List.length_filter_le okN ns
                  unfold canL
                  omega
                have hclx : ∀ x ∈ cl, x.length ≤ 1000 := fun x hx => by have := HF3.out x (hclo x hx).2; omega
                have hSN : ∀ W, Below wc.heap.size wc W → Calls Tryz.prog 13 #[.slice A6 cx.length c6, .slice A8 cx.length c8] W fun e w' => e = .returned (.bool true) ∧ Below wc.heap.size wc w' := fun W hb =>
                  (sameNumbers_any A6 A8 cx.length cx.length c6 c8 cx cx W (by omega) (by omega) (R6.out.later hb) (R8.out.later hb)).mono (by
                    rintro e w' ⟨rfl, q, rfl⟩
                    exact ⟨by rw [decide_eq_true rfl], below_draws hb⟩)
                have hSS : ∀ W, Below wc.heap.size wc W → Calls Tryz.prog 14 #[.slice A7 cl.length c7, .slice A9 cl.length c9] W fun e w' => e = .returned (.bool true) ∧ Below wc.heap.size wc w' := fun W hb =>
                  (sameNames_any A7 A9 cl.length cl.length c7 c9 cl cl W (by omega) (by omega) (R7.out.later hb) (R9.out.later hb)).mono (by
                    rintro e w' ⟨rfl, q, rfl⟩
                    exact ⟨by rw [decide_eq_true rfl], below_draws hb⟩)
                have hEM : ∀ W, Below wc.heap.size wc W → Calls Tryz.prog 19 #[.agg #[.slice A6 cx.length c6, .slice A7 cl.length c7]] W fun e w' => e = .returned (.bool (((cx.length : Int) == 0) && ((cl.length : Int) == 0))) ∧ Below wc.heap.size wc w' := fun W hb => by
                  have h := Empty_any A6 A7 cx.length c6 cl.length c7 cx cl W (HOK.out W (hBc.trans (hb.mono (Nat.le_trans hzr rc.size)))) (by omega) (by omega) hclx (R6.out.later hb) (R7.out.later hb)
                  rw [hcI, hcL] at h
                  refine h.mono ?_
                  rintro e w' ⟨rfl, hb'⟩
                  refine ⟨?_, below_later hb hb'⟩
                  have e1 : decide (cx = []) = ((cx.length : Int) == 0) := by rw [Bool.eq_iff_iff]; simp
                  have e2 : decide (cl = []) = ((cl.length : Int) == 0) := by rw [Bool.eq_iff_iff]; simp
                  rw [e1, e2]
                have HSN := Lib.hid hSN
                have HSS := Lib.hid hSS
                have HEM := Lib.hid hEM
                have HCI := Lib.hid hcI
                have HCL2 := Lib.hid hcL
                have HCX1 := Lib.hid hcx1
                have HCLO := Lib.hid hclo
                have HCLX := Lib.hid hclx
                have s4 := S4c.of bP bQ (Below.refl _ wc)
                have SQ := Lib.hid s4
                have HSQ := Lib.hid (fun W (hb : Below wc.heap.size wc W) => S4c.of bP bQ hb)
                have hwc := Below.refl wc.heap.size wc
                clear hSN hSS hEM hcI hcL hcx1 hclo hclx s4 o6 o7 o8 o9
                clear q0 q1 q2 q3 q4 i0 i1 S80 HTK HCN HR HR'
                go_wp2_with fail
                go_cut [104] (fun s104 W => s104 = .bool false ∧ Below wc.heap.size wc W)
                case first =>
                  clear HQ HQ' HOK hb0 b0 b1 b2 hB5 x5 y5 z5 xr yr zr hBr hbr HF3 HF6 HCX HCL HCI HCL2 HCX1 HCLO HCLX rc hBc R6 R7 R8 R9
                  clear h1 h2 h3 hm hn2 hm2 hxs hlm hly hlz hz0 hzw hza k1 k2 k3 k4 k5 k6 k7 k8 hn30 hm30 hn230 hm230 hz5 hzr hz zl zwl hsz htl hii hzz0 hzz1 hzz2 HZ hlx
                  cases e1 : ((cx.length : Int) == 0) with
                  | true =>
                    cases e2 : ((cl.length : Int) == 0) with
                    | true =>
                      rw [e1, e2] at HEM
                      go_region_held3 (fun W => W.cell? ⟨P, 0, none⟩ = some (.slice A6 cx.length c6) ∧ W.cell? ⟨P, 1, none⟩ = some (.slice A7 cl.length c7) ∧ W.cell? ⟨Q, 0, none⟩ = some (.slice A8 cx.length c8) ∧ W.cell? ⟨Q, 1, none⟩ = some (.slice A9 cl.length c9)) (first | with_reducible exact SQ.out | with_reducible exact SQ.out.drew | with_reducible assumption) (first
                        | (go_at_call 13; (with_reducible refine (HSN.out _ hwc.drew).mono ?_); rintro e w6 ⟨rfl, hb6⟩; have S6 := HSQ.out _ hb6)
                        | (go_at_call 14; (with_reducible refine (HSS.out _ hb6).mono ?_); rintro e w7 ⟨rfl, hb7⟩; have S7' := HSQ.out _ hb7)
                        | (go_at_call 19; (with_reducible refine (HEM.out _ hb7).mono ?_); rintro e w8 ⟨rfl, hb8⟩; have S8' := HSQ.out _ hb8))
                      go_wp2_with fail
                      go_meet
                      exact ⟨rfl, hb8⟩
                    | false =>
                      rw [e1, e2] at HEM
                      go_region_held3 (fun W => W.cell? ⟨P, 0, none⟩ = some (.slice A6 cx.length c6) ∧ W.cell? ⟨P, 1, none⟩ = some (.slice A7 cl.length c7) ∧ W.cell? ⟨Q, 0, none⟩ = some (.slice A8 cx.length c8) ∧ W.cell? ⟨Q, 1, none⟩ = some (.slice A9 cl.length c9)) (first | with_reducible exact SQ.out | with_reducible exact SQ.out.drew | with_reducible assumption) (first
                        | (go_at_call 13; (with_reducible refine (HSN.out _ hwc.drew).mono ?_); rintro e w6 ⟨rfl, hb6⟩; have S6 := HSQ.out _ hb6)
                        | (go_at_call 14; (with_reducible refine (HSS.out _ hb6).mono ?_); rintro e w7 ⟨rfl, hb7⟩; have S7' := HSQ.out _ hb7)
                        | (go_at_call 19; (with_reducible refine (HEM.out _ hb7).mono ?_); rintro e w8 ⟨rfl, hb8⟩; have S8' := HSQ.out _ hb8))
                      go_wp2_with fail
                      go_meet
                      exact ⟨rfl, hb8⟩
                  | false =>
                    rw [e1] at HEM
                    refine wp_region_held_drew (S := fun W => W.cell? ⟨P, 0, none⟩ = some (.slice A6 cx.length c6) ∧ W.cell? ⟨P, 1, none⟩ = some (.slice A7 cl.length c7) ∧ W.cell? ⟨Q, 0, none⟩ = some (.slice A8 cx.length c8) ∧ W.cell? ⟨Q, 1, none⟩ = some (.slice A9 cl.length c9)) (by kernel_rfl) SQ.out.drew (fun hHeld => ?_)
                    refine wpAnyH_take (i := 0) (v := ?_) rfl (by kernel_rfl) (by kernel_rfl) (by kernel_rfl) (fun _ _ _ h => h) (Or.inl ⟨by rfl, ?_⟩) (by assumption) ?_
                    rotate_left
                    · intro wS hSw
                      obtain ⟨g0, g1, g2, g3⟩ := hSw
                      go_simp
                      try with_reducible rfl
                    try simp only [Act.put, List.getElem_toArray, List.getElem_cons_zero, List.setIfInBounds_toArray, List.set_cons_zero, List.set_cons_succ]
                    refine wpAnyH_take (i := 1) (v := ?_) rfl (by kernel_rfl) (by kernel_rfl) (by kernel_rfl) (fun _ _ _ h => h) (Or.inl ⟨by rfl, ?_⟩) (by assumption) ?_
                    rotate_left
                    · intro wS hSw
                      obtain ⟨g0, g1, g2, g3⟩ := hSw
                      go_simp
                      try with_reducible rfl
                    try simp only [Act.put, List.getElem_toArray, List.getElem_cons_zero, List.getElem_cons_succ, List.setIfInBounds_toArray, List.set_cons_zero, List.set_cons_succ]
                    refine wpAnyH_take (i := 2) (v := ?_) rfl (by kernel_rfl) (by kernel_rfl) (by kernel_rfl) (fun _ _ _ h => h) (Or.inl ⟨by rfl, ?_⟩) (by assumption) ?_
                    rotate_left
                    · intro wS hSw
                      obtain ⟨g0, g1, g2, g3⟩ := hSw
                      go_simp
                      try with_reducible rfl
                    try simp only [Act.put, List.getElem_toArray, List.getElem_cons_zero, List.getElem_cons_succ, List.setIfInBounds_toArray, List.set_cons_zero, List.set_cons_succ]
                    refine wpAnyH_take (i := 3) (v := ?_) rfl (by kernel_rfl) (by kernel_rfl) (by kernel_rfl) (fun _ _ _ h => h) (Or.inl ⟨by rfl, ?_⟩) (by assumption) ?_
                    rotate_left
                    · intro wS hSw
                      obtain ⟨g0, g1, g2, g3⟩ := hSw
                      go_simp
                      try with_reducible rfl
                    try simp only [Act.put, List.getElem_toArray, List.getElem_cons_zero, List.getElem_cons_succ, List.setIfInBounds_toArray, List.set_cons_zero, List.set_cons_succ]
                    refine wpAnyH_ready (rs := [4]) (by kernel_rfl) (by simp) ?_
                    refine AllReadyH.cons rfl (fun K hK => ?_) AllReadyH.nil
                    go_simp
                    go_at_call 13
                    refine (HSN.out _ hwc.drew).mono ?_
                    rintro e w6 ⟨rfl, hb6⟩
                    refine hK.out _ _ (HSQ.out _ hb6) (fun hHeld => ?_)
                    clear hK K
                    try simp only [Act.put, List.getElem_toArray, List.getElem_cons_zero, List.getElem_cons_succ, List.setIfInBounds_toArray, List.set_cons_zero, List.set_cons_succ]
                    refine wpAnyH_take (i := 5) (v := ?_) rfl (by kernel_rfl) (by kernel_rfl) (by kernel_rfl) (fun _ _ _ h => h) (Or.inl ⟨by rfl, ?_⟩) (by assumption) ?_
                    rotate_left
                    · intro wS hSw
                      obtain ⟨g0, g1, g2, g3⟩ := hSw
                      go_simp
                      try with_reducible rfl
                    try simp only [Act.put, List.getElem_toArray, List.getElem_cons_zero, List.getElem_cons_succ, List.setIfInBounds_toArray, List.set_cons_zero, List.set_cons_succ]
                    refine wpAnyH_take (i := 6) (v := ?_) rfl (by kernel_rfl) (by kernel_rfl) (by kernel_rfl) (fun _ _ _ h => h) (Or.inl ⟨by rfl, ?_⟩) (by assumption) ?_
                    rotate_left
                    · intro wS hSw
                      obtain ⟨g0, g1, g2, g3⟩ := hSw
                      go_simp
                      try with_reducible rfl
                    try simp only [Act.put, List.getElem_toArray, List.getElem_cons_zero, List.getElem_cons_succ, List.setIfInBounds_toArray, List.set_cons_zero, List.set_cons_succ]
                    refine wpAnyH_take (i := 7) (v := ?_) rfl (by kernel_rfl) (by kernel_rfl) (by kernel_rfl) (fun _ _ _ h => h) (Or.inl ⟨by rfl, ?_⟩) (by assumption) ?_
                    rotate_left
                    · intro wS hSw
                      obtain ⟨g0, g1, g2, g3⟩ := hSw
                      go_simp
                      try with_reducible rfl
                    try simp only [Act.put, List.getElem_toArray, List.getElem_cons_zero, List.getElem_cons_succ, List.setIfInBounds_toArray, List.set_cons_zero, List.set_cons_succ]
                    refine wpAnyH_take (i := 8) (v := ?_) rfl (by kernel_rfl) (by kernel_rfl) (by kernel_rfl) (fun _ _ _ h => h) (Or.inl ⟨by rfl, ?_⟩) (by assumption) ?_
                    rotate_left
                    · intro wS hSw
                      obtain ⟨g0, g1, g2, g3⟩ := hSw
                      go_simp
                      try with_reducible rfl
                    try simp only [Act.put, List.getElem_toArray, List.getElem_cons_zero, List.getElem_cons_succ, List.setIfInBounds_toArray, List.set_cons_zero, List.set_cons_succ]
                    refine wpAnyH_take (i := 9) (v := ?_) rfl (by kernel_rfl) (by kernel_rfl) (by kernel_rfl) (fun _ _ _ h => h) (Or.inl ⟨by rfl, ?_⟩) (by assumption) ?_
                    rotate_left
                    · intro wS hSw
                      obtain ⟨g0, g1, g2, g3⟩ := hSw
                      go_simp
                      try with_reducible rfl
                    try simp only [Act.put, List.getElem_toArray, List.getElem_cons_zero, List.getElem_cons_succ, List.setIfInBounds_toArray, List.set_cons_zero, List.set_cons_succ]
                    refine wpAnyH_take (i := 10) (v := ?_) rfl (by kernel_rfl) (by kernel_rfl) (by kernel_rfl) (fun _ _ _ h => h) (Or.inl ⟨by rfl, ?_⟩) (by assumption) ?_
                    rotate_left
                    · intro wS hSw
                      obtain ⟨g0, g1, g2, g3⟩ := hSw
                      go_simp
                      try with_reducible rfl
                    try simp only [Act.put, List.getElem_toArray, List.getElem_cons_zero, List.getElem_cons_succ, List.setIfInBounds_toArray, List.set_cons_zero, List.set_cons_succ]
                    refine wpAnyH_ready (rs := [11]) (by kernel_rfl) (by simp) ?_
                    refine AllReadyH.cons rfl (fun K hK => ?_) AllReadyH.nil
                    go_simp
                    go_at_call 14
                    refine (HSS.out _ hb6).mono ?_
                    rintro e w7 ⟨rfl, hb7⟩
                    refine hK.out _ _ (HSQ.out _ hb7) (fun hHeld => ?_)
                    clear hK K
                    try simp only [Act.put, List.getElem_toArray, List.getElem_cons_zero, List.getElem_cons_succ, List.setIfInBounds_toArray, List.set_cons_zero, List.set_cons_succ]
                    refine wpAnyH_take (i := 12) (v := ?_) rfl (by kernel_rfl) (by kernel_rfl) (by kernel_rfl) (fun _ _ _ h => h) (Or.inl ⟨by rfl, ?_⟩) (by assumption) ?_
                    rotate_left
                    · intro wS hSw
                      obtain ⟨g0, g1, g2, g3⟩ := hSw
                      go_simp
                      try with_reducible rfl
                    try simp only [Act.put, List.getElem_toArray, List.getElem_cons_zero, List.getElem_cons_succ, List.setIfInBounds_toArray, List.set_cons_zero, List.set_cons_succ]
                    refine wpAnyH_take (i := 13) (v := ?_) rfl (by kernel_rfl) (by kernel_rfl) (by kernel_rfl) (fun _ _ _ h => h) (Or.inl ⟨by rfl, ?_⟩) (by assumption) ?_
                    rotate_left
                    · intro wS hSw
                      obtain ⟨g0, g1, g2, g3⟩ := hSw
                      go_simp
                      try with_reducible rfl
                    try simp only [Act.put, List.getElem_toArray, List.getElem_cons_zero, List.getElem_cons_succ, List.setIfInBounds_toArray, List.set_cons_zero, List.set_cons_succ]
                    refine wpAnyH_take (i := 14) (v := ?_) rfl (by kernel_rfl) (by kernel_rfl) (by kernel_rfl) (fun _ _ _ h => h) (Or.inl ⟨by rfl, ?_⟩) (by assumption) ?_
                    rotate_left
                    · intro wS hSw
                      obtain ⟨g0, g1, g2, g3⟩ := hSw
                      go_simp
                      try with_reducible rfl
                    try simp only [Act.put, List.getElem_toArray, List.getElem_cons_zero, List.getElem_cons_succ, List.setIfInBounds_toArray, List.set_cons_zero, List.set_cons_succ]
                    refine wpAnyH_take (i := 15) (v := ?_) rfl (by kernel_rfl) (by kernel_rfl) (by kernel_rfl) (fun _ _ _ h => h) (Or.inl ⟨by rfl, ?_⟩) (by assumption) ?_
                    rotate_left
                    · intro wS hSw
                      obtain ⟨g0, g1, g2, g3⟩ := hSw
                      go_simp
                      try with_reducible rfl
                    try simp only [Act.put, List.getElem_toArray, List.getElem_cons_zero, List.getElem_cons_succ, List.setIfInBounds_toArray, List.set_cons_zero, List.set_cons_succ]
                    refine wpAnyH_take (i := 17) (v := ?_) rfl (by kernel_rfl) (by kernel_rfl) (by kernel_rfl) (fun _ _ _ h => h) (Or.inl ⟨by rfl, ?_⟩) (by assumption) ?_
                    rotate_left
                    · intro wS hSw
                      obtain ⟨g0, g1, g2, g3⟩ := hSw
                      go_simp
                      try with_reducible rfl
                    try simp only [Act.put, List.getElem_toArray, List.getElem_cons_zero, List.getElem_cons_succ, List.setIfInBounds_toArray, List.set_cons_zero, List.set_cons_succ]
                    refine wpAnyH_take (i := 18) (v := ?_) rfl (by kernel_rfl) (by kernel_rfl) (by kernel_rfl) (fun _ _ _ h => h) (Or.inl ⟨by rfl, ?_⟩) (by assumption) ?_
                    rotate_left
                    · intro wS hSw
                      obtain ⟨g0, g1, g2, g3⟩ := hSw
                      go_simp
                      try with_reducible rfl
                    try simp only [Act.put, List.getElem_toArray, List.getElem_cons_zero, List.getElem_cons_succ, List.setIfInBounds_toArray, List.set_cons_zero, List.set_cons_succ]
                    refine wpAnyH_take (i := 19) (v := ?_) rfl (by kernel_rfl) (by kernel_rfl) (by kernel_rfl) (fun _ _ _ h => h) (Or.inl ⟨by rfl, ?_⟩) (by assumption) ?_
                    rotate_left
                    · intro wS hSw
                      obtain ⟨g0, g1, g2, g3⟩ := hSw
                      go_simp
                      try with_reducible rfl
                    try simp only [Act.put, List.getElem_toArray, List.getElem_cons_zero, List.getElem_cons_succ, List.setIfInBounds_toArray, List.set_cons_zero, List.set_cons_succ]
                    refine wpAnyH_take (i := 20) (v := ?_) rfl (by kernel_rfl) (by kernel_rfl) (by kernel_rfl) (fun _ _ _ h => h) (Or.inl ⟨by rfl, ?_⟩) (by assumption) ?_
                    rotate_left
                    · intro wS hSw
                      obtain ⟨g0, g1, g2, g3⟩ := hSw
                      go_simp
                      try with_reducible rfl
                    try simp only [Act.put, List.getElem_toArray, List.getElem_cons_zero, List.getElem_cons_succ, List.setIfInBounds_toArray, List.set_cons_zero, List.set_cons_succ]
                    refine wpAnyH_ready (rs := [16]) (by kernel_rfl) (by simp) ?_
                    refine AllReadyH.cons rfl (fun K hK => ?_) AllReadyH.nil
                    go_simp
                    go_at_call 19
                    refine (HEM.out _ hb7).mono ?_
                    rintro e w8 ⟨rfl, hb8⟩
                    refine hK.out _ _ (HSQ.out _ hb8) (fun hHeld => ?_)
                    clear hK K
                    try simp only [Act.put, List.getElem_toArray, List.getElem_cons_zero, List.getElem_cons_succ, List.setIfInBounds_toArray, List.set_cons_zero, List.set_cons_succ]
                    refine wpAnyH_take (i := 21) (v := ?_) rfl (by kernel_rfl) (by kernel_rfl) (by kernel_rfl) (fun _ _ _ h => h) (Or.inl ⟨by rfl, ?_⟩) (by assumption) ?_
                    rotate_left
                    · intro wS hSw
                      obtain ⟨g0, g1, g2, g3⟩ := hSw
                      go_simp
                      try with_reducible rfl
                    try simp only [Act.put, List.getElem_toArray, List.getElem_cons_zero, List.getElem_cons_succ, List.setIfInBounds_toArray, List.set_cons_zero, List.set_cons_succ]
                    refine wpAnyH_take (i := 22) (v := undef) rfl (by kernel_rfl) (by kernel_rfl) (by kernel_rfl) (fun _ _ _ h => h) (Or.inr ⟨by rfl, rfl⟩) (by assumption) ?_
                    try simp only [Act.put, List.getElem_toArray, List.getElem_cons_zero, List.getElem_cons_succ, List.setIfInBounds_toArray, List.set_cons_zero, List.set_cons_succ]
                    refine wpAnyH_take (i := 23) (v := undef) rfl (by kernel_rfl) (by kernel_rfl) (by kernel_rfl) (fun _ _ _ h => h) (Or.inr ⟨by rfl, rfl⟩) (by assumption) ?_
                    try simp only [Act.put, List.getElem_toArray, List.getElem_cons_zero, List.getElem_cons_succ, List.setIfInBounds_toArray, List.set_cons_zero, List.set_cons_succ]
                    refine wpAnyH_take (i := 24) (v := undef) rfl (by kernel_rfl) (by kernel_rfl) (by kernel_rfl) (fun _ _ _ h => h) (Or.inr ⟨by rfl, rfl⟩) (by assumption) ?_
                    try simp only [Act.put, List.getElem_toArray, List.getElem_cons_zero, List.getElem_cons_succ, List.setIfInBounds_toArray, List.set_cons_zero, List.set_cons_succ]
                    refine wpAnyH_take (i := 25) (v := undef) rfl (by kernel_rfl) (by kernel_rfl) (by kernel_rfl) (fun _ _ _ h => h) (Or.inr ⟨by rfl, rfl⟩) (by assumption) ?_
                    try simp only [Act.put, List.getElem_toArray, List.getElem_cons_zero, List.getElem_cons_succ, List.setIfInBounds_toArray, List.set_cons_zero, List.set_cons_succ]
                    refine wpAnyH_take (i := 26) (v := ?_) rfl (by kernel_rfl) (by kernel_rfl) (by kernel_rfl) (fun _ _ _ h => h) (Or.inl ⟨by rfl, ?_⟩) (by assumption) ?_
                    rotate_left
                    · intro wS hSw
                      obtain ⟨g0, g1, g2, g3⟩ := hSw
                      go_simp
                      try with_reducible rfl
                    try simp only [Act.put, List.getElem_toArray, List.getElem_cons_zero, List.getElem_cons_succ, List.setIfInBounds_toArray, List.set_cons_zero, List.set_cons_succ]
                    refine wpAnyH_take (i := 27) (v := ?_) rfl (by kernel_rfl) (by kernel_rfl) (by kernel_rfl) (fun _ _ _ h => h) (Or.inl ⟨by rfl, ?_⟩) (by assumption) ?_
                    rotate_left
                    · intro wS hSw
                      obtain ⟨g0, g1, g2, g3⟩ := hSw
                      go_simp
                      try with_reducible rfl
                    try simp only [Act.put, List.getElem_toArray, List.getElem_cons_zero, List.getElem_cons_succ, List.setIfInBounds_toArray, List.set_cons_zero, List.set_cons_succ]
                    refine wpAnyH_take (i := 28) (v := ?_) rfl (by kernel_rfl) (by kernel_rfl) (by kernel_rfl) (fun _ _ _ h => h) (Or.inl ⟨by rfl, ?_⟩) (by assumption) ?_
                    rotate_left
                    · intro wS hSw
                      obtain ⟨g0, g1, g2, g3⟩ := hSw
                      go_simp
                      try with_reducible rfl
                    try simp only [Act.put, List.getElem_toArray, List.getElem_cons_zero, List.getElem_cons_succ, List.setIfInBounds_toArray, List.set_cons_zero, List.set_cons_succ]
                    refine wpAnyH_done (by kernel_rfl) ?_ _
                    all_goals
                      go_wp2_with fail
                      go_meet
                      exact ⟨rfl, hb8⟩
                case rest =>
                  obtain ⟨rfl, hbw⟩ := hcut
                  have bP2 := bP.later hbw
                  have bQ2 := bQ.later hbw
                  have zc2 := (zr.later rc).later hbw
                  have hB2 := hBc.trans (hbw.mono (Nat.le_trans hzr rc.size))
                  have R62 := Lib.hid (R6.out.later hbw)
                  have R72 := Lib.hid (R7.out.later hbw)
                  have R82 := Lib.hid (R8.out.later hbw)
                  have R92 := Lib.hid (R9.out.later hbw)
                  have hz2 : Z ≤ wc.heap.size := by have := bP2.lt; have := hB2.size; omega
                  clear HSN HSS HEM HSQ SQ hwc bP bQ R6 R7 R8 R9 hbw xr yr zr hBr hbr x5 y5 z5 hB5 b0 b1 b2 hb0 HCI HCL2 rc hBc
                  go_wp2_with fail
                  go_loopw [13] (ParR wc n2) (fun i _ => n2 - (intOf i).toNat)
                  case atStart => exact ⟨0, by omega, rfl, Below.refl _ _⟩
                  case round =>
                    obtain ⟨k, hk, rfl, hbq⟩ := hrel
                    have bPr := bP2.later hbq
                    have bQr := bQ2.later hbq
                    have zr := zc2.later hbq
                    have hBq := hB2.trans (hbq.mono hz2)
                    have p0 := bPr.c0
                    have p1 := bPr.c1
                    have p2 := bQr.c0
                    have p3 := zr.c0
                    by_cases hlt : k < n2
                    · obtain ⟨bx, ox, u, rfl, hbx, hx0, cx0⟩ := HQ.out.at1 hlt
                      rw [List.getElem?_map] at hx0
                      obtain ⟨y, hy, rfl⟩ := Option.map_eq_some_iff.1 hx0
                      clear hx0
                      have cxr := (hBq.cell (p := ⟨bx, ox + k, none⟩) hbx).trans cx0
                      unfold encI at cxr
                      have hHI : ∀ W, Below wc.heap.size wc W → Calls Tryz.prog 20 #[.agg #[.slice A6 cx.length c6, .slice A7 cl.length c7], .int .i64 y] W fun e w' => e = .returned (.bool (decide (y ∈ cx))) ∧ Below wc.heap.size wc w' := fun W hb => by
                        have h := HasInput_any A6 A7 cx.length c6 cl.length c7 cx y W (by omega) (R62.out.later hb)
                        rw [hasInB_can HCX1.out] at h
                        exact h.mono (fun e w' h => ⟨h.1, below_later hb h.2⟩)
                      have hHS : ∀ W, Below wc.heap.size wc W → Calls Tryz.prog 21 #[.slice A8 cx.length c8, .int .i64 y] W fun e w' => e = .returned (.bool (decide (y ∈ cx))) ∧ Below wc.heap.size wc w' := fun W hb => by
                        have h := has_any A8 cx.length c8 cx y W (by omega) (R82.out.later hb)
                        exact h.mono (fun e w' h => ⟨h.1, h.2 ▸ hb⟩)
                      generalize decide (y ∈ cx) = bb at hHI hHS
                      have HHI := Lib.hid hHI
                      have HHS := Lib.hid hHS
                      have hlt' : (k : Int) < (n2 : Int) := by omega
                      have bxw : bx < wc.heap.size := by omega
                      have s5 : S5c P Q ZA bx (ox + k) (.slice A6 cx.length c6) (.slice A7 cl.length c7) (.slice A8 cx.length c8) (.slice (some ⟨bx, ox, none⟩) n2 c2) (.int .i64 y) wc := ⟨bP2.c0, bP2.c1, bQ2.c0, zc2.c0, (hB2.cell (p := ⟨bx, ox + k, none⟩) hbx).trans cx0⟩
                      have HS5 := Lib.hid (fun W (hb : Below wc.heap.size wc W) => S5c.below hb s5 bP2.lt bQ2.lt zc2.lt bxw)
                      have S50 := Lib.hid (HS5.out wr hbq)
                      clear hHI hHS s5 hy cx0
                      cases bb with
                      | true =>
                        go_wp2_with fail
                        go_region_held3 (fun W => W.cell? ⟨P, 0, none⟩ = some (.slice A6 cx.length c6) ∧ W.cell? ⟨P, 1, none⟩ = some (.slice A7 cl.length c7) ∧ W.cell? ⟨Q, 0, none⟩ = some (.slice A8 cx.length c8) ∧ W.cell? ⟨ZA, 0, none⟩ = some (.slice (some ⟨bx, ox, none⟩) n2 c2) ∧ W.cell? ⟨bx, ox + k, none⟩ = some (.int .i64 y)) (first | with_reducible exact S50.out | with_reducible exact S50.out.drew | with_reducible assumption) (first
                          | (go_at_call 20; (with_reducible refine (HHI.out _ hbq.drew).mono ?_); rintro e w6 ⟨rfl, hb6⟩; have S56 := HS5.out _ hb6)
                          | (go_at_call 21; (with_reducible refine (HHS.out _ hb6).mono ?_); rintro e w7 ⟨rfl, hb7⟩; have S57 := HS5.out _ hb7))
                        go_wp2_with fail
                        go_roundw
                        case rel => exact ⟨k + 1, by omega, by go_num, hb7⟩
                        case measure => simp [intOf]; omega
                      | false =>
                        go_wp2_with fail
                        go_region_held3 (fun W => W.cell? ⟨P, 0, none⟩ = some (.slice A6 cx.length c6) ∧ W.cell? ⟨P, 1, none⟩ = some (.slice A7 cl.length c7) ∧ W.cell? ⟨Q, 0, none⟩ = some (.slice A8 cx.length c8) ∧ W.cell? ⟨ZA, 0, none⟩ = some (.slice (some ⟨bx, ox, none⟩) n2 c2) ∧ W.cell? ⟨bx, ox + k, none⟩ = some (.int .i64 y)) (first | with_reducible exact S50.out | with_reducible exact S50.out.drew | with_reducible assumption) (first
                          | (go_at_call 20; (with_reducible refine (HHI.out _ hbq.drew).mono ?_); rintro e w6 ⟨rfl, hb6⟩; have S56 := HS5.out _ hb6)
                          | (go_at_call 21; (with_reducible refine (HHS.out _ hb6).mono ?_); rintro e w7 ⟨rfl, hb7⟩; have S57 := HS5.out _ hb7))
                        go_wp2_with fail
                        go_roundw
                        case rel => exact ⟨k + 1, by omega, by go_num, hb7⟩
                        case measure => simp [intOf]; omega
                    · obtain rfl : k = n2 := by omega
                      have HSQ := Lib.hid (fun W (hb : Below wc.heap.size wc W) => S4c.of bP2 bQ2 hb)
                      clear bPr bQr zr p0 p1 p2
                      go_wp2_with fail
                      go_loopw [14] (ParR wc m2) (fun i _ => m2 - (intOf i).toNat)
                      case atStart => exact ⟨0, by omega, rfl, hbq⟩
                      case round =>
                        obtain ⟨k3, hk3, rfl, hbs⟩ := hrel
                        have zr := zc2.later hbs
                        have hBs := hB2.trans (hbs.mono hz2)
                        have p4 := zr.c1
                        by_cases hlt3 : k3 < m2
                        · obtain ⟨bx, ox, s, rfl, hbx, hx, cx0⟩ := HQ'.out.str hlt3
                          have cxr := (hBs.cell (p := ⟨bx, ox + k3, none⟩) hbx).trans cx0
                          have hsl := HF6.out _ (List.mem_of_getElem? hx)
                          have hss := size_nm s
                          have hCV : ∀ W, Below wc.heap.size wc W → Calls Tryz.prog 22 #[.agg #[.slice A6 cx.length c6, .slice A7 cl.length c7], .string s] W fun e w' => e = .returned (.bool (rootedB cx s.data.toList || cl.any fun a => withinB s.data.toList a)) ∧ Below wc.heap.size wc w' := fun W hb => by
                            have h := ScrCovers_any A6 A7 cx.length c6 cl.length c7 cx cl s W (HOK.out W (hB2.trans (hb.mono hz2))) (by omega) (by omega) HCLX.out (by omega) (R62.out.later hb) (R72.out.later hb)
                            rw [covers_can (fun x hx => (HCLO.out x hx).1)] at h
                            exact h.mono (fun e w' h => ⟨h.1, below_later hb h.2⟩)
                          have hRT : ∀ W, Below wc.heap.size wc W → Calls Tryz.prog 23 #[.slice A8 cx.length c8, .string s] W fun e w' => e = .returned (.bool (rootedB cx s.data.toList)) ∧ Below wc.heap.size wc w' := fun W hb =>
                            (rooted_any A8 cx.length c8 cx s W (HOK.out W (hB2.trans (hb.mono hz2))) (by omega) (by omega) (R82.out.later hb)).mono (fun e w' h => ⟨h.1, below_later hb h.2⟩)
                          have hLC : ∀ W, Below wc.heap.size wc W → Calls Tryz.prog 24 #[.slice A9 cl.length c9, .string s] W fun e w' => e = .returned (.bool (cl.any fun a => withinB s.data.toList a)) ∧ Below wc.heap.size wc w' := fun W hb =>
                            (LinCovers_any A9 cl.length c9 cl s W (by omega) HCLX.out (by omega) (R92.out.later hb)).mono (fun e w' h => ⟨h.1, below_later hb h.2⟩)
                          generalize rootedB cx s.data.toList = r1 at hCV hRT
                          generalize (cl.any fun a => withinB s.data.toList a) = r2 at hCV hLC
                          have HCV := Lib.hid hCV
                          have HRT := Lib.hid hRT
                          have HLC := Lib.hid hLC
                          have SQ := Lib.hid (HSQ.out wr hbs)
                          have hlt' : (k3 : Int) < (m2 : Int) := by omega
                          clear hCV hRT hLC hx cx0 hsl hss
                          go_wp2_with fail
                          cases r1 with
                          | true =>
                            refine wp_region_held_drew (S := fun W => W.cell? ⟨P, 0, none⟩ = some (.slice A6 cx.length c6) ∧ W.cell? ⟨P, 1, none⟩ = some (.slice A7 cl.length c7) ∧ W.cell? ⟨Q, 0, none⟩ = some (.slice A8 cx.length c8) ∧ W.cell? ⟨Q, 1, none⟩ = some (.slice A9 cl.length c9)) (by kernel_rfl) SQ.out.drew (fun hHeld => ?_)
                            refine wpAnyH_take (i := 0) (v := ?_) rfl (by kernel_rfl) (by kernel_rfl) (by kernel_rfl) (fun _ _ _ h => h) (Or.inl ⟨by rfl, ?_⟩) (by assumption) ?_
                            rotate_left
                            · intro wS hSw
                              obtain ⟨g0, g1, g2, g3⟩ := hSw
                              go_simp
                              try with_reducible rfl
                            try simp only [Act.put, List.getElem_toArray, List.getElem_cons_zero, List.setIfInBounds_toArray, List.set_cons_zero, List.set_cons_succ]
                            refine wpAnyH_take (i := 1) (v := ?_) rfl (by kernel_rfl) (by kernel_rfl) (by kernel_rfl) (fun _ _ _ h => h) (Or.inl ⟨by rfl, ?_⟩) (by assumption) ?_
                            rotate_left
                            · intro wS hSw
                              obtain ⟨g0, g1, g2, g3⟩ := hSw
                              go_simp
                              try with_reducible rfl
                            try simp only [Act.put, List.getElem_toArray, List.getElem_cons_zero, List.getElem_cons_succ, List.setIfInBounds_toArray, List.set_cons_zero, List.set_cons_succ]
                            refine wpAnyH_take (i := 3) (v := ?_) rfl (by kernel_rfl) (by kernel_rfl) (by kernel_rfl) (fun _ _ _ h => h) (Or.inl ⟨by rfl, ?_⟩) (by assumption) ?_
                            rotate_left
                            · intro wS hSw
                              obtain ⟨g0, g1, g2, g3⟩ := hSw
                              go_simp
                              try with_reducible rfl
                            try simp only [Act.put, List.getElem_toArray, List.getElem_cons_zero, List.getElem_cons_succ, List.setIfInBounds_toArray, List.set_cons_zero, List.set_cons_succ]
                            refine wpAnyH_take (i := 4) (v := ?_) rfl (by kernel_rfl) (by kernel_rfl) (by kernel_rfl) (fun _ _ _ h => h) (Or.inl ⟨by rfl, ?_⟩) (by assumption) ?_
                            rotate_left
                            · intro wS hSw
                              obtain ⟨g0, g1, g2, g3⟩ := hSw
                              go_simp
                              try with_reducible rfl
                            try simp only [Act.put, List.getElem_toArray, List.getElem_cons_zero, List.getElem_cons_succ, List.setIfInBounds_toArray, List.set_cons_zero, List.set_cons_succ]
                            refine wpAnyH_take (i := 5) (v := ?_) rfl (by kernel_rfl) (by kernel_rfl) (by kernel_rfl) (fun _ _ _ h => h) (Or.inl ⟨by rfl, ?_⟩) (by assumption) ?_
                            rotate_left
                            · intro wS hSw
                              obtain ⟨g0, g1, g2, g3⟩ := hSw
                              go_simp
                              try with_reducible rfl
                            try simp only [Act.put, List.getElem_toArray, List.getElem_cons_zero, List.getElem_cons_succ, List.setIfInBounds_toArray, List.set_cons_zero, List.set_cons_succ]
                            refine wpAnyH_ready (rs := [2]) (by kernel_rfl) (by simp) ?_
                            refine AllReadyH.cons rfl (fun K hK => ?_) AllReadyH.nil
                            go_simp
                            go_at_call 22
                            refine (HCV.out _ hbs.drew).mono ?_
                            rintro e w6 ⟨rfl, hb6⟩
                            refine hK.out _ _ (HSQ.out _ hb6) (fun hHeld => ?_)
                            clear hK K
                            try simp only [Act.put, List.getElem_toArray, List.getElem_cons_zero, List.getElem_cons_succ, List.setIfInBounds_toArray, List.set_cons_zero, List.set_cons_succ]
                            refine wpAnyH_ready (rs := [6]) (by kernel_rfl) (by simp) ?_
                            refine AllReadyH.cons rfl (fun K hK => ?_) AllReadyH.nil
                            go_simp
                            go_at_call 23
                            refine (HRT.out _ hb6).mono ?_
                            rintro e w7 ⟨rfl, hb7⟩
                            refine hK.out _ _ (HSQ.out _ hb7) (fun hHeld => ?_)
                            clear hK K
                            try simp only [Act.put, List.getElem_toArray, List.getElem_cons_zero, List.getElem_cons_succ, List.setIfInBounds_toArray, List.set_cons_zero, List.set_cons_succ]
                            refine wpAnyH_take (i := 7) (v := ?_) rfl (by kernel_rfl) (by kernel_rfl) (by kernel_rfl) (fun _ _ _ h => h) (Or.inl ⟨by rfl, ?_⟩) (by assumption) ?_
                            rotate_left
                            · intro wS hSw
                              obtain ⟨g0, g1, g2, g3⟩ := hSw
                              go_simp
                              try with_reducible rfl
                            try simp only [Act.put, List.getElem_toArray, List.getElem_cons_zero, List.getElem_cons_succ, List.setIfInBounds_toArray, List.set_cons_zero, List.set_cons_succ]
                            refine wpAnyH_take (i := 8) (v := undef) rfl (by kernel_rfl) (by kernel_rfl) (by kernel_rfl) (fun _ _ _ h => h) (Or.inr ⟨by rfl, rfl⟩) (by assumption) ?_
                            try simp only [Act.put, List.getElem_toArray, List.getElem_cons_zero, List.getElem_cons_succ, List.setIfInBounds_toArray, List.set_cons_zero, List.set_cons_succ]
                            refine wpAnyH_take (i := 9) (v := undef) rfl (by kernel_rfl) (by kernel_rfl) (by kernel_rfl) (fun _ _ _ h => h) (Or.inr ⟨by rfl, rfl⟩) (by assumption) ?_
                            try simp only [Act.put, List.getElem_toArray, List.getElem_cons_zero, List.getElem_cons_succ, List.setIfInBounds_toArray, List.set_cons_zero, List.set_cons_succ]
                            refine wpAnyH_take (i := 10) (v := undef) rfl (by kernel_rfl) (by kernel_rfl) (by kernel_rfl) (fun _ _ _ h => h) (Or.inr ⟨by rfl, rfl⟩) (by assumption) ?_
                            try simp only [Act.put, List.getElem_toArray, List.getElem_cons_zero, List.getElem_cons_succ, List.setIfInBounds_toArray, List.set_cons_zero, List.set_cons_succ]
                            refine wpAnyH_take (i := 11) (v := undef) rfl (by kernel_rfl) (by kernel_rfl) (by kernel_rfl) (fun _ _ _ h => h) (Or.inr ⟨by rfl, rfl⟩) (by assumption) ?_
                            try simp only [Act.put, List.getElem_toArray, List.getElem_cons_zero, List.getElem_cons_succ, List.setIfInBounds_toArray, List.set_cons_zero, List.set_cons_succ]
                            refine wpAnyH_take (i := 12) (v := ?_) rfl (by kernel_rfl) (by kernel_rfl) (by kernel_rfl) (fun _ _ _ h => h) (Or.inl ⟨by rfl, ?_⟩) (by assumption) ?_
                            rotate_left
                            · intro wS hSw
                              obtain ⟨g0, g1, g2, g3⟩ := hSw
                              go_simp
                              try with_reducible rfl
                            try simp only [Act.put, List.getElem_toArray, List.getElem_cons_zero, List.getElem_cons_succ, List.setIfInBounds_toArray, List.set_cons_zero, List.set_cons_succ]
                            refine wpAnyH_take (i := 13) (v := ?_) rfl (by kernel_rfl) (by kernel_rfl) (by kernel_rfl) (fun _ _ _ h => h) (Or.inl ⟨by rfl, ?_⟩) (by assumption) ?_
                            rotate_left
                            · intro wS hSw
                              obtain ⟨g0, g1, g2, g3⟩ := hSw
                              go_simp
                              try with_reducible rfl
                            try simp only [Act.put, List.getElem_toArray, List.getElem_cons_zero, List.getElem_cons_succ, List.setIfInBounds_toArray, List.set_cons_zero, List.set_cons_succ]
                            refine wpAnyH_done (by kernel_rfl) ?_ _
                            go_wp2_with fail
                            go_roundw
                            case rel => exact ⟨k3 + 1, by omega, by go_num, hb7⟩
                            case measure => simp [intOf]; omega
                          | false =>
                            cases r2 with
                            | true =>
                              go_region_held3 (fun W => W.cell? ⟨P, 0, none⟩ = some (.slice A6 cx.length c6) ∧ W.cell? ⟨P, 1, none⟩ = some (.slice A7 cl.length c7) ∧ W.cell? ⟨Q, 0, none⟩ = some (.slice A8 cx.length c8) ∧ W.cell? ⟨Q, 1, none⟩ = some (.slice A9 cl.length c9)) (first | with_reducible exact SQ.out | with_reducible exact SQ.out.drew | with_reducible assumption) (first
                                | (go_at_call 22; (with_reducible refine (HCV.out _ hbs.drew).mono ?_); rintro e w6 ⟨rfl, hb6⟩; have S6 := HSQ.out _ hb6)
                                | (go_at_call 23; (with_reducible refine (HRT.out _ hb6).mono ?_); rintro e w7 ⟨rfl, hb7⟩; have S7' := HSQ.out _ hb7)
                                | (go_at_call 24; (with_reducible refine (HLC.out _ hb7).mono ?_); rintro e w8 ⟨rfl, hb8⟩; have S8' := HSQ.out _ hb8))
                              go_wp2_with fail
                              go_roundw
                              case rel => exact ⟨k3 + 1, by omega, by go_num, hb8⟩
                              case measure => simp [intOf]; omega
                            | false =>
                              go_region_held3 (fun W => W.cell? ⟨P, 0, none⟩ = some (.slice A6 cx.length c6) ∧ W.cell? ⟨P, 1, none⟩ = some (.slice A7 cl.length c7) ∧ W.cell? ⟨Q, 0, none⟩ = some (.slice A8 cx.length c8) ∧ W.cell? ⟨Q, 1, none⟩ = some (.slice A9 cl.length c9)) (first | with_reducible exact SQ.out | with_reducible exact SQ.out.drew | with_reducible assumption) (first
                                | (go_at_call 22; (with_reducible refine (HCV.out _ hbs.drew).mono ?_); rintro e w6 ⟨rfl, hb6⟩; have S6 := HSQ.out _ hb6)
                                | (go_at_call 23; (with_reducible refine (HRT.out _ hb6).mono ?_); rintro e w7 ⟨rfl, hb7⟩; have S7' := HSQ.out _ hb7)
                                | (go_at_call 24; (with_reducible refine (HLC.out _ hb7).mono ?_); rintro e w8 ⟨rfl, hb8⟩; have S8' := HSQ.out _ hb8))
                              go_wp2_with fail
                              go_roundw
                              case rel => exact ⟨k3 + 1, by omega, by go_num, hb8⟩
                              case measure => simp [intOf]; omega
                        · obtain rfl : k3 = m2 := by omega
                          go_wp2_with fail
                          go_ret
                          exact ⟨rfl, hBs⟩
        · have hr5' : (r5 != 0) = true := by simp [hr5]
          clear hr5 HCHK
          go_wp2_with fail
          refine (HK.out w5 hB5).mono ?_
          rintro e w99 ⟨rfl, hb99⟩
          go_wp2_with fail
          go_ret
          exact ⟨rfl, hB5.trans (hb99.mono (by have := x5.lt; omega))⟩

end Go.Proofs.YtnibcffcbnjllaaGreatDoor
