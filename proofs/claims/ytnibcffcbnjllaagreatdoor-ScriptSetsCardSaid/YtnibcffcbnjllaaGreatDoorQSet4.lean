/- ScriptSets. -/
import Derived.Deep.DeepCutAuto
import Derived.Test.YtnibcffcbnjllaaGreatDoorQSet6
import Derived.Test.YtnibcffcbnjllaaGreatDoorPar2
namespace Go.Proofs.YtnibcffcbnjllaaGreatDoor
open Go.RowKit Go.Sort
attribute [local go_sem ↓] Go.wp_at_zero Go.wp_at_succ



set_option maxRecDepth 100000 in
set_option maxHeartbeats 8000000 in
theorem ScriptSets_any (hK : Knows) (a b c : Wo) (A A' B B' C C' : Option Addr) (ca da cb db cc dc : Nat) (w : World) (hok : Ok w)
    (ha : WoAt w A A' a) (hb : WoAt w B B' b) (hc : WoAt w C C' c) (ia : ∀ x ∈ a.1, I64 x) (ib : ∀ x ∈ b.1, I64 x) (ic : ∀ x ∈ c.1, I64 x)
    (la : a.1.length ≤ 4611686018427387904) (la' : a.2.length ≤ 4611686018427387904) (lb : b.1.length ≤ 4611686018427387904) (lb' : b.2.length ≤ 4611686018427387904) (lc : c.1.length ≤ 4611686018427387904) (lc' : c.2.length ≤ 4611686018427387904) :
    Calls Tryz.prog 5 #[.agg #[.slice A a.1.length ca, .slice A' a.2.length da], .agg #[.slice B b.1.length cb, .slice B' b.2.length db], .agg #[.slice C c.1.length cc, .slice C' c.2.length dc]] w fun e w' => RetTrue w e w' := by
  have HF1 := Lib.hid (fun (W : World) (h : Below w.heap.size w W) => few_any A A' a.1.length a.2.length ca da a.1 a.2 W la la' (ha.later h).1 (ha.later h).2)
  have HF2 := Lib.hid (fun (W : World) (h : Below w.heap.size w W) => few_any B B' b.1.length b.2.length cb db b.1 b.2 W lb lb' (hb.later h).1 (hb.later h).2)
  have HF3 := Lib.hid (fun (W : World) (h : Below w.heap.size w W) => few_any C C' c.1.length c.2.length cc dc c.1 c.2 W lc lc' (hc.later h).1 (hc.later h).2)
  have HK := Lib.hid (fun (W : World) (h : Below w.heap.size w W) => hK W (hok.later h))
  have HOK := Lib.hid (fun (W : World) (h : Below w.heap.size w W) => hok.later h)
  have HRA := Lib.hid (fun (W : World) (h : Below w.heap.size w W) => ha.later h)
  have HRB := Lib.hid (fun (W : World) (h : Below w.heap.size w W) => hb.later h)
  have HRC := Lib.hid (fun (W : World) (h : Below w.heap.size w W) => hc.later h)
  have HIA := Lib.hid ia
  have HIB := Lib.hid ib
  have HIC := Lib.hid ic
  have b0 := ((Box2.new w 47 (.slice A a.1.length ca) (.slice A' a.2.length da)).alloc (.cells #[.slice B b.1.length cb, .slice B' b.2.length db] 47)).alloc (.cells #[.slice C c.1.length cc, .slice C' c.2.length dc] 47)
  have b1 := (Box2.new (w.alloc (.cells #[.slice A a.1.length ca, .slice A' a.2.length da] 47)) 47 (.slice B b.1.length cb) (.slice B' b.2.length db)).alloc (.cells #[.slice C c.1.length cc, .slice C' c.2.length dc] 47)
  have b2 := Box2.new ((w.alloc (.cells #[.slice A a.1.length ca, .slice A' a.2.length da] 47)).alloc (.cells #[.slice B b.1.length cb, .slice B' b.2.length db] 47)) 47 (.slice C c.1.length cc) (.slice C' c.2.length dc)
  have hb0 : Below w.heap.size w (((w.alloc (.cells #[.slice A a.1.length ca, .slice A' a.2.length da] 47)).alloc (.cells #[.slice B b.1.length cb, .slice B' b.2.length db] 47)).alloc (.cells #[.slice C c.1.length cc, .slice C' c.2.length dc] 47)) := (((Below.refl _ w).alloc (Nat.le_refl _) _).alloc (by simp) _).alloc (by simp; omega) _
  simp only [World.size_alloc] at b1 b2
  obtain ⟨W0, hW0⟩ : ∃ W0, ((w.alloc (.cells #[.slice A a.1.length ca, .slice A' a.2.length da] 47)).alloc (.cells #[.slice B b.1.length cb, .slice B' b.2.length db] 47)).alloc (.cells #[.slice C c.1.length cc, .slice C' c.2.length dc] 47) = W0 := ⟨_, rfl⟩
  rw [hW0] at b0 b1 b2 hb0
  have HW := Lib.hid hW0
  unfold RetTrue
  obtain ⟨Z, hZ⟩ : ∃ Z, w.heap.size = Z := ⟨_, rfl⟩
  rw [hZ] at b0 b1 b2 hb0 HF1 HF2 HF3 HK HOK HRA HRB HRC ⊢
  have HZ := Lib.hid hZ
  have hz0 : Z ≤ W0.heap.size := by have := b0.lt; omega
  clear hW0 hZ hK hok ha hb hc ia ib ic
  go_enter Tryz.func5, Tryz.ntmps5
  go_wp2_with fail
  rw [HW.out, HZ.out]
  obtain ⟨ZB, hZB⟩ : ∃ ZB, Z + 1 = ZB := ⟨_, rfl⟩
  obtain ⟨ZC, hZC⟩ : ∃ ZC, ZB + 1 = ZC := ⟨_, rfl⟩
  rw [hZB] at b1 b2 ⊢
  rw [hZC] at b2 ⊢
  clear hZB hZC
  refine (HK.out W0 hb0).mono ?_
  rintro e w1 ⟨rfl, hb1⟩
  have hB1 := hb0.trans (hb1.mono hz0)
  have x0 := (b0.later hb1).c0
  have x1 := (b0.later hb1).c1
  go_wp2_with fail
  refine (HF1.out w1 hB1).mono ?_
  rintro e w2 ⟨rfl, hb2⟩
  replace hb2 := below_later hb1 hb2
  have hB2 := hb0.trans (hb2.mono hz0)
  clear x0 x1
  have x0 := (b1.later hb2).c0
  have x1 := (b1.later hb2).c1
  cases hf1 : fewB a.1 a.2 with
  | false =>
    go_wp2_with fail
    refine (HK.out w2 hB2).mono ?_
    rintro e w99 ⟨rfl, hb99⟩
    go_wp2_with fail
    go_ret
    exact ⟨rfl, hB2.trans (hb99.mono (by have := hB2.size; have := HZ.out; omega))⟩
  | true =>
    have HF1T := Lib.hid hf1
    clear hf1
    go_wp2_with fail
    refine (HF2.out w2 hB2).mono ?_
    rintro e w3 ⟨rfl, hb3⟩
    replace hb3 := below_later hb2 hb3
    have hB3 := hb0.trans (hb3.mono hz0)
    clear x0 x1
    have x0 := (b2.later hb3).c0
    have x1 := (b2.later hb3).c1
    cases hf2 : fewB b.1 b.2 with
    | false =>
      go_wp2_with fail
      refine (HK.out w3 hB3).mono ?_
      rintro e w99 ⟨rfl, hb99⟩
      go_wp2_with fail
      go_ret
      exact ⟨rfl, hB3.trans (hb99.mono (by have := hB3.size; have := HZ.out; omega))⟩
    | true =>
      have HF2T := Lib.hid hf2
      clear hf2
      go_wp2_with fail
      refine (HF3.out w3 hB3).mono ?_
      rintro e w4 ⟨rfl, hb4⟩
      replace hb4 := below_later hb3 hb4
      have hB4 := hb0.trans (hb4.mono hz0)
      clear x0 x1
      cases hf3 : fewB c.1 c.2 with
      | false =>
        go_wp2_with fail
        refine (HK.out w4 hB4).mono ?_
        rintro e w99 ⟨rfl, hb99⟩
        go_wp2_with fail
        go_ret
        exact ⟨rfl, hB4.trans (hb99.mono (by have := hB4.size; have := HZ.out; omega))⟩
      | true =>
        have SA := Lib.hid (Sm.of_few HF1T.out HIA.out)
        have SB := Lib.hid (Sm.of_few HF2T.out HIB.out)
        have SC := Lib.hid (Sm.of_few hf3 HIC.out)
        have LA := Lib.hid (show Sm30 a from Sm30.of_few HF1T.out)
        have LB := Lib.hid (show Sm30 b from Sm30.of_few HF2T.out)
        have LC := Lib.hid (show Sm30 c from Sm30.of_few hf3)
        clear hf3 HF1T HF2T HIA HIB HIC HF1 HF2 HF3 HK
        replace b0 := b0.later hb4
        replace b1 := b1.later hb4
        replace b2 := b2.later hb4
        clear hb0 hb1 hb2 hb3 hb4 hB1 hB2 hB3 hz0 HW
        obtain ⟨wr, hwr⟩ : ∃ wr, wr = w4 := ⟨_, rfl⟩
        subst hwr
        have hzr : Z ≤ wr.heap.size := by have := hB4.size; have := HZ.out; omega
        have HCA := Lib.hid (fun (W : World) (h : Below wr.heap.size wr W) => (canL_any44 A A' ca da W (HOK.out W (hB4.trans (h.mono hzr))) SA.out (HRA.out W (hB4.trans (h.mono hzr)))).mono fun e w' (k : ResW W (can a) e w') => k.toZ h.size)
        have HCB := Lib.hid (fun (W : World) (h : Below wr.heap.size wr W) => (canL_any44 B B' cb db W (HOK.out W (hB4.trans (h.mono hzr))) SB.out (HRB.out W (hB4.trans (h.mono hzr)))).mono fun e w' (k : ResW W (can b) e w') => k.toZ h.size)
        have S0 := Lib.hid (S4c.of b0 b1 (Below.refl _ wr))
        have HS := Lib.hid (fun W (hb : Below wr.heap.size wr W) => S4c.of b0 b1 hb)
        have lt0 := b0.lt
        have lt1 := b1.lt
        go_wp2_with fail
        go_cut [7, 8] (fun s7 s8 W => GotW wr (can a) (can b) s7 s8 W)
        case first =>
          go_region_held3 (fun W => W.cell? ⟨Z, 0, none⟩ = some (.slice A a.1.length ca) ∧ W.cell? ⟨Z, 1, none⟩ = some (.slice A' a.2.length da) ∧ W.cell? ⟨ZB, 0, none⟩ = some (.slice B b.1.length cb) ∧ W.cell? ⟨ZB, 1, none⟩ = some (.slice B' b.2.length db)) (first | with_reducible exact S0.out | ((with_reducible refine HS.out _ ?_); (repeat (first | with_reducible assumption | with_reducible exact Below.refl _ _ | with_reducible refine below_dr ?_ | with_reducible refine below_al (Nat.le_refl _) _ ?_ | with_reducible refine below_later ?_ hb6 | with_reducible refine below_later ?_ hb7)); done) | (repeat (first | ((with_reducible refine HS.out _ ?_); (repeat (first | with_reducible assumption | with_reducible exact Below.refl _ _ | with_reducible refine below_dr ?_ | with_reducible refine below_al (Nat.le_refl _) _ ?_ | with_reducible refine below_later ?_ hb6 | with_reducible refine below_later ?_ hb7)); done) | (with_reducible refine S4c.set _ ?_ (by omega) (by omega)) | (with_reducible refine S4c.alloc _ ?_)))) (first
            | (go_at_call 18; (with_reducible refine (HCA.out _ ?_).mono ?_); (· (repeat (first | with_reducible assumption | with_reducible exact Below.refl _ _ | with_reducible refine below_dr ?_ | with_reducible refine below_al (Nat.le_refl _) _ ?_ | with_reducible refine below_later ?_ hb6 | with_reducible refine below_later ?_ hb6))); rintro e w6 ⟨A6, c6, A7, c7, rfl, o6, hb6⟩; have r6 : Below wr.heap.size wr w6 := (by (repeat (first | with_reducible assumption | with_reducible exact Below.refl _ _ | with_reducible refine below_dr ?_ | with_reducible refine below_al (Nat.le_refl _) _ ?_ | with_reducible refine below_later ?_ hb6 | with_reducible refine below_later ?_ hb6))); have z6 := r6.size; (try (have bT1 := (Box2.new wr 47 (.slice none 0 0) (.slice none 0 0)).later (below_of_drew hb6); have tl1 := bT1.lt)); (try (have bT1 := ((Box2.new wr 47 (.slice none 0 0) (.slice none 0 0)).alloc (.cells #[.slice none 0 0, .slice none 0 0] 47)).later (below_of_drew hb6); have bT2 := (Box2.new (wr.alloc (.cells #[.slice none 0 0, .slice none 0 0] 47)) 47 (.slice none 0 0) (.slice none 0 0)).later (below_of_drew hb6); simp only [World.size_alloc] at bT2; have tl1 := bT1.lt; have tl2 := bT2.lt)))
            | (go_at_call 18; (with_reducible refine (HCB.out _ ?_).mono ?_); (· (repeat (first | with_reducible assumption | with_reducible exact Below.refl _ _ | with_reducible refine below_dr ?_ | with_reducible refine below_al (Nat.le_refl _) _ ?_ | with_reducible refine below_later ?_ hb6 | with_reducible refine below_later ?_ hb6))); rintro e w7 ⟨A8, c8, A9, c9, rfl, o8, hb7⟩; have r7 : Below wr.heap.size wr w7 := (by (repeat (first | with_reducible assumption | with_reducible exact Below.refl _ _ | with_reducible refine below_dr ?_ | with_reducible refine below_al (Nat.le_refl _) _ ?_ | with_reducible refine below_later ?_ hb6 | with_reducible refine below_later ?_ hb7))); have q67 : Below w6.heap.size w6 w7 := (by (repeat (first | with_reducible assumption | with_reducible exact Below.refl _ _ | with_reducible refine below_dr ?_ | with_reducible refine below_al (Nat.le_refl _) _ ?_ | with_reducible refine below_later ?_ hb7 | with_reducible refine below_later ?_ hb7))); have z7 := q67.size; have p6 := o6.later q67; (try (have bU1 := bT1.later q67; have uf0 := bU1.f0; have uf1 := bU1.f1; have uc0 := bU1.c0; have uc1 := bU1.c1; have ul := bU1.lt)); (try (have bU2 := bT2.later q67; have vf0 := bU2.f0; have vf1 := bU2.f1; have vc0 := bU2.c0; have vc1 := bU2.c1; have vl := bU2.lt)); (try (have bU3 := (Box2.new w6 47 (.slice none 0 0) (.slice none 0 0)).later hb7; have yf0 := bU3.f0; have yf1 := bU3.f1; have yc0 := bU3.c0; have yc1 := bU3.c1; have yl := bU3.lt)); (try (have bU3 := ((Box2.new w6 47 (.slice none 0 0) (.slice none 0 0)).alloc (.cells #[.slice none 0 0, .slice none 0 0] 47)).later hb7; have yf0 := bU3.f0; have yf1 := bU3.f1; have yc0 := bU3.c0; have yc1 := bU3.c1; have yl := bU3.lt; have bU4 := (Box2.new (w6.alloc (.cells #[.slice none 0 0, .slice none 0 0] 47)) 47 (.slice none 0 0) (.slice none 0 0)).later hb7; simp only [World.size_alloc] at bU4; have zf0 := bU4.f0; have zf1 := bU4.f1; have zc0 := bU4.c0; have zc1 := bU4.c1; have zl := bU4.lt)))
            )
          all_goals
            go_wp2_with fail
            go_meet
            have LW : LeftW wr w7 _ _ A6 A7 A8 A9 c6 c7 c8 c9 := ⟨p6, o8, r7⟩
            have lz : wr.heap.size ≤ wr.heap.size := Nat.le_refl _
            have lz1 : wr.heap.size ≤ wr.heap.size + 1 := Nat.le_succ _
            have lz6 : wr.heap.size ≤ w6.heap.size + 1 := Nat.le_succ_of_le z6
            first
              | with_reducible exact gotW_I LW
              | with_reducible exact gotW_J LW
              | with_reducible exact gotW_K LW bU1 lz
              | with_reducible exact gotW_K LW bU3 z6
              | with_reducible exact gotW_L LW bU1 lz
              | with_reducible exact gotW_L LW bU3 z6
              | with_reducible exact gotW_M LW bU3 bU4 z6 lz6 (by omega)
              | with_reducible exact gotW_M LW bU4 bU3 lz6 z6 (by omega)
              | with_reducible exact gotW_M LW bU1 bU3 lz z6 (by omega)
              | with_reducible exact gotW_M LW bU3 bU1 z6 lz (by omega)
              | with_reducible exact gotW_M LW bU1 bU2 lz lz1 (by omega)
              | with_reducible exact gotW_M LW bU2 bU1 lz1 lz (by omega)
        case rest =>
          obtain ⟨P, Q, A1, c1, A2, c2, A3, c3, A4, c4, rfl, rfl, bP, bQ, ra, rb, rc⟩ := hcut
          obtain ⟨wk, hwk⟩ : ∃ x, x = wc := ⟨_, rfl⟩
          subst hwk
          have xa := b0.later rc
          have xb := b1.later rc
          have xc := b2.later rc
          have hBc := hB4.trans (rc.mono hzr)
          have hzc : Z ≤ wk.heap.size := Nat.le_trans hzr rc.size
          have HRc := Lib.hid rc
          have S0c := Lib.hid (S4c.of xa xb (Below.refl _ wk))
          have HSc := Lib.hid (fun W (hb : Below wk.heap.size wk W) => S4c.of xa xb hb)
          have HA1 := Lib.hid (fun W (hb : Below wk.heap.size wk W) => (HRA.out W (hBc.trans (hb.mono hzc))).1)
          have HA2 := Lib.hid (fun W (hb : Below wk.heap.size wk W) => (HRA.out W (hBc.trans (hb.mono hzc))).2)
          have HB1 := Lib.hid (fun W (hb : Below wk.heap.size wk W) => (HRB.out W (hBc.trans (hb.mono hzc))).1)
          have HB2 := Lib.hid (fun W (hb : Below wk.heap.size wk W) => (HRB.out W (hBc.trans (hb.mono hzc))).2)
          have l0 := xa.lt
          have l1 := xb.lt
          obtain ⟨i0, hi, hz0, hz1, hz2⟩ := info_parts Tryz.infoInt
          obtain ⟨i1, hi1, hy0, hy1, hy2⟩ := info_parts Tryz.infoName
          have one : ∀ l : List Int, ∀ u ∈ l.map encI, u.oneCell' = true := fun l u hu => by
            obtain ⟨x, _, rfl⟩ := List.mem_map.1 hu
            rfl
          have ONE := Lib.hid one
          have oneN : ∀ l : List Nm, ∀ u ∈ l.map encN, u.oneCell' = true := fun l u hu => by
            obtain ⟨x, _, rfl⟩ := List.mem_map.1 hu
            rfl
          have ONEN := Lib.hid oneN
          have sa1 : a.1.length ≤ 300 := SA.out.n1
          have sa2 : a.2.length ≤ 300 := SA.out.n2
          have sb1 : b.1.length ≤ 300 := SB.out.n1
          have sb2 : b.2.length ≤ 300 := SB.out.n2
          have hcn : ∀ (W : World) (A1 A2 : Option Addr) (c1 c2 : Nat), Below wk.heap.size wk W → Row W W.heap.size 1 A1 (a.1 ++ b.1).length ((a.1 ++ b.1).map encI) → Row W W.heap.size 1 A2 (a.2 ++ b.2).length ((a.2 ++ b.2).map encN) →
              Calls Tryz.prog 18 #[.agg #[.slice A1 (a.1 ++ b.1).length c1, .slice A2 (a.2 ++ b.2).length c2]] W (ResZ wk.heap.size W (plus a b)) := fun W A1 A2 c1 c2 hB h1 h2 =>
            (canonical44_any A1 A2 (a.1 ++ b.1).length c1 (a.2 ++ b.2).length c2 (a.1 ++ b.1) (a.2 ++ b.2) W (HOK.out W (hBc.trans (hB.mono hzc))) (by rw [List.length_append]; omega) (by rw [List.length_append]; omega) (fun x hx => by rcases List.mem_append.1 hx with h | h; exact SA.out.nm x h; exact SB.out.nm x h) h1 h2 (plus a b).1 (by rw [canI_law]; rfl) (plus a b).2 (by rw [canL_law]; rfl)).mono (by
              rintro e w' ⟨v1, v2, rfl, h1, h2, hb⟩
              obtain ⟨A1, c1, rfl, _⟩ := own_form h1
              obtain ⟨A2, c2, rfl, _⟩ := own_form h2
              exact ResW.toZ ⟨A1, c1, A2, c2, rfl, ⟨h1, h2⟩, hb⟩ hB.size)
          generalize hxs : a.1 ++ b.1 = xs at hcn
          generalize hys : a.2 ++ b.2 = ys at hcn
          have HXS := Lib.hid hxs
          have HYS := Lib.hid hys
          clear hxs hys
          have HCN := Lib.hid hcn
          generalize hpab : plus a b = pab at HCN
          have HPAB := Lib.hid hpab
          clear HCA HCB S0 HS lt0 lt1 one oneN hcn hpab
          go_wp2_with fail
          go_cut [9] (fun s9 W => GotS wk pab s9 W)
          case first =>
            clear la la' lb lb' lc lc' bP bQ ra rb b0 b1 b2 xa xb xc HOK HRA HRB HRC SA SB SC hB4 HRc HZ hzr rc hBc hzc HPAB
            refine wp_region_held_drew (S := fun W => W.cell? ⟨Z, 0, none⟩ = some (.slice A a.1.length ca) ∧ W.cell? ⟨Z, 1, none⟩ = some (.slice A' a.2.length da) ∧ W.cell? ⟨ZB, 0, none⟩ = some (.slice B b.1.length cb) ∧ W.cell? ⟨ZB, 1, none⟩ = some (.slice B' b.2.length db)) (by kernel_rfl) S0c.out.drew (fun hHeld => ?_)
            refine wpAnyH_take (i := 1) (v := ?_) rfl (by kernel_rfl) (by kernel_rfl) (by kernel_rfl) (fun _ _ _ h => h) (Or.inl ⟨by rfl, ?_⟩) (by assumption) ?_
            rotate_left
            · intro wS hSw
              obtain ⟨g0, g1, g2, g3⟩ := hSw
              go_simp
              try with_reducible rfl
            try simp only [Act.put, List.getElem_toArray, List.getElem_cons_zero, List.getElem_cons_succ, List.setIfInBounds_toArray, List.set_cons_zero, List.set_cons_succ]
            refine wpAnyH_take (i := 2) (v := ?_) rfl (by kernel_rfl) (by kernel_rfl) (by kernel_rfl) (fun _ _ _ h => h) (Or.inl ⟨by rfl, ?_⟩) (by assumption) ?_
            rotate_left
            · intro wS hSw
              obtain ⟨g0, g1, g2, g3⟩ := hSw
              go_simp
              try with_reducible rfl
            try simp only [Act.put, List.getElem_toArray, List.getElem_cons_zero, List.getElem_cons_succ, List.setIfInBounds_toArray, List.set_cons_zero, List.set_cons_succ]
            refine wpAnyH_take (i := 4) (v := ?_) rfl (by kernel_rfl) (by kernel_rfl) (by kernel_rfl) (fun _ _ _ h => h) (Or.inl ⟨by rfl, ?_⟩) (by assumption) ?_
            rotate_left
            · intro wS hSw
              obtain ⟨g0, g1, g2, g3⟩ := hSw
              go_simp
              try with_reducible rfl
            try simp only [Act.put, List.getElem_toArray, List.getElem_cons_zero, List.getElem_cons_succ, List.setIfInBounds_toArray, List.set_cons_zero, List.set_cons_succ]
            refine wpAnyH_take (i := 5) (v := ?_) rfl (by kernel_rfl) (by kernel_rfl) (by kernel_rfl) (fun _ _ _ h => h) (Or.inl ⟨by rfl, ?_⟩) (by assumption) ?_
            rotate_left
            · intro wS hSw
              obtain ⟨g0, g1, g2, g3⟩ := hSw
              go_simp
              try with_reducible rfl
            try simp only [Act.put, List.getElem_toArray, List.getElem_cons_zero, List.getElem_cons_succ, List.setIfInBounds_toArray, List.set_cons_zero, List.set_cons_succ]
            refine wpAnyH_take (i := 8) (v := ?_) rfl (by kernel_rfl) (by kernel_rfl) (by kernel_rfl) (fun _ _ _ h => h) (Or.inl ⟨by rfl, ?_⟩) (by assumption) ?_
            rotate_left
            · intro wS hSw
              obtain ⟨g0, g1, g2, g3⟩ := hSw
              go_simp
              try with_reducible rfl
            try simp only [Act.put, List.getElem_toArray, List.getElem_cons_zero, List.getElem_cons_succ, List.setIfInBounds_toArray, List.set_cons_zero, List.set_cons_succ]
            refine wpAnyH_take (i := 9) (v := ?_) rfl (by kernel_rfl) (by kernel_rfl) (by kernel_rfl) (fun _ _ _ h => h) (Or.inl ⟨by rfl, ?_⟩) (by assumption) ?_
            rotate_left
            · intro wS hSw
              obtain ⟨g0, g1, g2, g3⟩ := hSw
              go_simp
              try with_reducible rfl
            try simp only [Act.put, List.getElem_toArray, List.getElem_cons_zero, List.getElem_cons_succ, List.setIfInBounds_toArray, List.set_cons_zero, List.set_cons_succ]
            refine wpAnyH_take (i := 11) (v := ?_) rfl (by kernel_rfl) (by kernel_rfl) (by kernel_rfl) (fun _ _ _ h => h) (Or.inl ⟨by rfl, ?_⟩) (by assumption) ?_
            rotate_left
            · intro wS hSw
              obtain ⟨g0, g1, g2, g3⟩ := hSw
              go_simp
              try with_reducible rfl
            try simp only [Act.put, List.getElem_toArray, List.getElem_cons_zero, List.getElem_cons_succ, List.setIfInBounds_toArray, List.set_cons_zero, List.set_cons_succ]
            refine wpAnyH_take (i := 12) (v := ?_) rfl (by kernel_rfl) (by kernel_rfl) (by kernel_rfl) (fun _ _ _ h => h) (Or.inl ⟨by rfl, ?_⟩) (by assumption) ?_
            rotate_left
            · intro wS hSw
              obtain ⟨g0, g1, g2, g3⟩ := hSw
              go_simp
              try with_reducible rfl
            try simp only [Act.put, List.getElem_toArray, List.getElem_cons_zero, List.getElem_cons_succ, List.setIfInBounds_toArray, List.set_cons_zero, List.set_cons_succ]
            generalize hG : wpAnyH _ _ _ _ _ = G
            have st_611 : ∀ (n : Nat) (L : Array Bool) (x38 x41 x44 x45 x48 x51 x52 x53 x9 : Value) (W : World), n = 1 → L = #[true, true, true, true, true, true, true, true, true, true, true, true, true, true, true, true, true, false] → St wk a b pab xs ys 6 true true x38 x41 x44 x45 x48 x51 x53 x9 W → G n L { tmps := #[.agg #[.slice A a.1.length ca, .slice A' a.2.length da], .agg #[.slice B b.1.length cb, .slice B' b.2.length db], .agg #[.slice C c.1.length cc, .slice C' c.2.length dc], .pointer (some ⟨Z, 0, none⟩), .pointer (some ⟨ZB, 0, none⟩), .pointer (some ⟨ZC, 0, none⟩), .bool false, .pointer (some ⟨P, 0, none⟩), .pointer (some ⟨Q, 0, none⟩), x9, undef, undef, undef, undef, undef, undef, u16, u17, u18, u19, u20, u21, u22, u23, u24, u25, u26, u27, u28, u29, u30, u31, u32, u33, u34, u35, u36, u37, x38, .pointer (some ⟨Z, 0, none⟩), .slice A a.1.length ca, x41, .pointer (some ⟨ZB, 0, none⟩), .slice B b.1.length cb, x44, x45, .pointer (some ⟨Z, 1, none⟩), .slice A' a.2.length da, x48, .pointer (some ⟨ZB, 1, none⟩), .slice B' b.2.length db, x51, x52, x53, u54, u55, u56, u57, u58, u59, u60, u61, u62, u63, u64, u65, u66, u67, u68, u69, u70, u71, u72, u73, u74, u75, u76, u77, u78, u79, u80, u81, u82, u83, u84, u85, u86, u87, u88, u89, u90, u91, u92, u93, u94, u95, u96, u97, u98, u99, u100, u101, u102, u103, u104, u105, u106, u107, u108, u109, u110, u111, u112, u113, u114, u115, u116, u117, u118, u119, u120, u121, u122, u123, u124, u125, u126, u127, u128, u129, u130, u131, u132, u133, u134, u135, u136, u137, u138, u139, u140, u141, u142, u143, u144, u145, u146, u147, u148, u149, u150, u151, u152, u153, u154, u155, u156, u157, u158, u159, u160, u161, u162, u163, u164, u165, u166, u167, u168, u169, u170, u171, u172, u173, u174, u175, u176, u177, u178, u179, u180, u181, u182, u183, u184, u185, u186, u187, u188, u189, u190, u191, u192, u193, u194, u195, u196, u197, u198], defers := [] } W := by
              rintro _ _ x38 x41 x44 x45 x48 x51 x52 x53 x9 W rfl rfl h
              rw [← hG]
              obtain ⟨AC, cC, AD, cD, rfl, oC⟩ := h.e7 rfl
              obtain ⟨Bx, rfl, hBx, bR⟩ := h.e8 rfl
              have f0 := bR.f0
              have f1 := bR.f1
              have g0 := bR.c0
              have g1 := bR.c1
              refine wpAnyH_ready (rs := [17]) (by kernel_rfl) (by simp) ?_
              refine AllReadyH.cons rfl (fun K hK => ?_) AllReadyH.nil
              go_simp
              refine hK.out _ _ (S4c.set _ (S4c.set _ (HSc.out _ h.bl) (by omega) (by omega)) (by omega) (by omega)) (fun hHeld => ?_)
              clear hK K
              try simp only [List.setIfInBounds_toArray, List.set_cons_zero, List.set_cons_succ]
              refine wpAnyH_done (by kernel_rfl) ?_ _
              go_wp2_with fail
              go_meet
              exact gotS_K oC h.bl bR hBx
            have st_610 : ∀ (n : Nat) (L : Array Bool) (x38 x41 x44 x45 x48 x51 x52 x53 x9 : Value) (W : World), n = 2 → L = #[true, true, true, true, true, true, true, true, true, true, true, true, true, true, true, true, false, false] → St wk a b pab xs ys 6 true false x38 x41 x44 x45 x48 x51 x53 x9 W → G n L { tmps := #[.agg #[.slice A a.1.length ca, .slice A' a.2.length da], .agg #[.slice B b.1.length cb, .slice B' b.2.length db], .agg #[.slice C c.1.length cc, .slice C' c.2.length dc], .pointer (some ⟨Z, 0, none⟩), .pointer (some ⟨ZB, 0, none⟩), .pointer (some ⟨ZC, 0, none⟩), .bool false, .pointer (some ⟨P, 0, none⟩), .pointer (some ⟨Q, 0, none⟩), x9, undef, undef, undef, undef, undef, undef, u16, u17, u18, u19, u20, u21, u22, u23, u24, u25, u26, u27, u28, u29, u30, u31, u32, u33, u34, u35, u36, u37, x38, .pointer (some ⟨Z, 0, none⟩), .slice A a.1.length ca, x41, .pointer (some ⟨ZB, 0, none⟩), .slice B b.1.length cb, x44, x45, .pointer (some ⟨Z, 1, none⟩), .slice A' a.2.length da, x48, .pointer (some ⟨ZB, 1, none⟩), .slice B' b.2.length db, x51, x52, x53, u54, u55, u56, u57, u58, u59, u60, u61, u62, u63, u64, u65, u66, u67, u68, u69, u70, u71, u72, u73, u74, u75, u76, u77, u78, u79, u80, u81, u82, u83, u84, u85, u86, u87, u88, u89, u90, u91, u92, u93, u94, u95, u96, u97, u98, u99, u100, u101, u102, u103, u104, u105, u106, u107, u108, u109, u110, u111, u112, u113, u114, u115, u116, u117, u118, u119, u120, u121, u122, u123, u124, u125, u126, u127, u128, u129, u130, u131, u132, u133, u134, u135, u136, u137, u138, u139, u140, u141, u142, u143, u144, u145, u146, u147, u148, u149, u150, u151, u152, u153, u154, u155, u156, u157, u158, u159, u160, u161, u162, u163, u164, u165, u166, u167, u168, u169, u170, u171, u172, u173, u174, u175, u176, u177, u178, u179, u180, u181, u182, u183, u184, u185, u186, u187, u188, u189, u190, u191, u192, u193, u194, u195, u196, u197, u198], defers := [] } W := by
              rintro _ _ x38 x41 x44 x45 x48 x51 x52 x53 x9 W rfl rfl h
              rw [← hG]
              obtain ⟨A7, c7, rfl, o7⟩ := h.e3 (by omega)
              refine wpAnyH_ready (rs := [16]) (by kernel_rfl) (by simp) ?_
              refine (AllReadyH.cons rfl (fun K hK => ?_) AllReadyH.nil)
              · go_simp
                refine hK.out _ _ (HSc.out _ (below_al (Nat.le_refl _) _ h.bl)) (fun hHeld => ?_)
                clear hK K
                try simp only [List.setIfInBounds_toArray, List.set_cons_zero, List.set_cons_succ]
                rw [hG]
                exact st_611 _ _ _ _ _ _ _ _ _ _ _ _ rfl (by kernel_rfl) h.mk9
            have st_511 : ∀ (n : Nat) (L : Array Bool) (x38 x41 x44 x45 x48 x51 x52 x53 x9 : Value) (W : World), n = 2 → L = #[true, true, true, true, true, true, true, true, true, true, true, true, true, true, true, false, true, false] → St wk a b pab xs ys 5 true true x38 x41 x44 x45 x48 x51 x53 x9 W → x52 = .agg #[x44, x51] → G n L { tmps := #[.agg #[.slice A a.1.length ca, .slice A' a.2.length da], .agg #[.slice B b.1.length cb, .slice B' b.2.length db], .agg #[.slice C c.1.length cc, .slice C' c.2.length dc], .pointer (some ⟨Z, 0, none⟩), .pointer (some ⟨ZB, 0, none⟩), .pointer (some ⟨ZC, 0, none⟩), .bool false, .pointer (some ⟨P, 0, none⟩), .pointer (some ⟨Q, 0, none⟩), x9, undef, undef, undef, undef, undef, undef, u16, u17, u18, u19, u20, u21, u22, u23, u24, u25, u26, u27, u28, u29, u30, u31, u32, u33, u34, u35, u36, u37, x38, .pointer (some ⟨Z, 0, none⟩), .slice A a.1.length ca, x41, .pointer (some ⟨ZB, 0, none⟩), .slice B b.1.length cb, x44, x45, .pointer (some ⟨Z, 1, none⟩), .slice A' a.2.length da, x48, .pointer (some ⟨ZB, 1, none⟩), .slice B' b.2.length db, x51, x52, x53, u54, u55, u56, u57, u58, u59, u60, u61, u62, u63, u64, u65, u66, u67, u68, u69, u70, u71, u72, u73, u74, u75, u76, u77, u78, u79, u80, u81, u82, u83, u84, u85, u86, u87, u88, u89, u90, u91, u92, u93, u94, u95, u96, u97, u98, u99, u100, u101, u102, u103, u104, u105, u106, u107, u108, u109, u110, u111, u112, u113, u114, u115, u116, u117, u118, u119, u120, u121, u122, u123, u124, u125, u126, u127, u128, u129, u130, u131, u132, u133, u134, u135, u136, u137, u138, u139, u140, u141, u142, u143, u144, u145, u146, u147, u148, u149, u150, u151, u152, u153, u154, u155, u156, u157, u158, u159, u160, u161, u162, u163, u164, u165, u166, u167, u168, u169, u170, u171, u172, u173, u174, u175, u176, u177, u178, u179, u180, u181, u182, u183, u184, u185, u186, u187, u188, u189, u190, u191, u192, u193, u194, u195, u196, u197, u198], defers := [] } W := by
              rintro _ _ x38 x41 x44 x45 x48 x51 x52 x53 x9 W rfl rfl h rfl
              rw [← hG]
              obtain ⟨A7, c7, rfl, o7⟩ := h.e3 (by omega)
              obtain ⟨A8, c8, rfl, o8⟩ := h.e6 (by omega)
              have q5 := HCN.out W A7 A8 c7 c8 h.bl (row_own o7) (row_own o8)
              refine wpAnyH_ready (rs := [15]) (by kernel_rfl) (by simp) ?_
              refine (AllReadyH.cons rfl (fun K hK => ?_) AllReadyH.nil)
              · go_simp
                go_at_call 18
                with_reducible refine q5.mono ?_
                rintro e wC ⟨AC, cC, AD, cD, rfl, oC, hbC⟩
                refine hK.out _ _ (HSc.out _ (below_later h.bl hbC)) (fun hHeld => ?_)
                clear hK K
                try simp only [List.setIfInBounds_toArray, List.set_cons_zero, List.set_cons_succ]
                rw [hG]
                exact st_611 _ _ _ _ _ _ _ _ _ _ _ _ rfl (by kernel_rfl) (h.c6 hbC oC)
            have st_510 : ∀ (n : Nat) (L : Array Bool) (x38 x41 x44 x45 x48 x51 x52 x53 x9 : Value) (W : World), n = 3 → L = #[true, true, true, true, true, true, true, true, true, true, true, true, true, true, true, false, false, false] → St wk a b pab xs ys 5 true false x38 x41 x44 x45 x48 x51 x53 x9 W → x52 = .agg #[x44, x51] → G n L { tmps := #[.agg #[.slice A a.1.length ca, .slice A' a.2.length da], .agg #[.slice B b.1.length cb, .slice B' b.2.length db], .agg #[.slice C c.1.length cc, .slice C' c.2.length dc], .pointer (some ⟨Z, 0, none⟩), .pointer (some ⟨ZB, 0, none⟩), .pointer (some ⟨ZC, 0, none⟩), .bool false, .pointer (some ⟨P, 0, none⟩), .pointer (some ⟨Q, 0, none⟩), x9, undef, undef, undef, undef, undef, undef, u16, u17, u18, u19, u20, u21, u22, u23, u24, u25, u26, u27, u28, u29, u30, u31, u32, u33, u34, u35, u36, u37, x38, .pointer (some ⟨Z, 0, none⟩), .slice A a.1.length ca, x41, .pointer (some ⟨ZB, 0, none⟩), .slice B b.1.length cb, x44, x45, .pointer (some ⟨Z, 1, none⟩), .slice A' a.2.length da, x48, .pointer (some ⟨ZB, 1, none⟩), .slice B' b.2.length db, x51, x52, x53, u54, u55, u56, u57, u58, u59, u60, u61, u62, u63, u64, u65, u66, u67, u68, u69, u70, u71, u72, u73, u74, u75, u76, u77, u78, u79, u80, u81, u82, u83, u84, u85, u86, u87, u88, u89, u90, u91, u92, u93, u94, u95, u96, u97, u98, u99, u100, u101, u102, u103, u104, u105, u106, u107, u108, u109, u110, u111, u112, u113, u114, u115, u116, u117, u118, u119, u120, u121, u122, u123, u124, u125, u126, u127, u128, u129, u130, u131, u132, u133, u134, u135, u136, u137, u138, u139, u140, u141, u142, u143, u144, u145, u146, u147, u148, u149, u150, u151, u152, u153, u154, u155, u156, u157, u158, u159, u160, u161, u162, u163, u164, u165, u166, u167, u168, u169, u170, u171, u172, u173, u174, u175, u176, u177, u178, u179, u180, u181, u182, u183, u184, u185, u186, u187, u188, u189, u190, u191, u192, u193, u194, u195, u196, u197, u198], defers := [] } W := by
              rintro _ _ x38 x41 x44 x45 x48 x51 x52 x53 x9 W rfl rfl h rfl
              rw [← hG]
              obtain ⟨A7, c7, rfl, o7⟩ := h.e3 (by omega)
              obtain ⟨A8, c8, rfl, o8⟩ := h.e6 (by omega)
              have q5 := HCN.out W A7 A8 c7 c8 h.bl (row_own o7) (row_own o8)
              refine wpAnyH_ready (rs := [15, 16]) (by kernel_rfl) (by simp) ?_
              refine (AllReadyH.cons rfl (fun K hK => ?_) (AllReadyH.cons rfl (fun K hK => ?_) AllReadyH.nil))
              · go_simp
                go_at_call 18
                with_reducible refine q5.mono ?_
                rintro e wC ⟨AC, cC, AD, cD, rfl, oC, hbC⟩
                refine hK.out _ _ (HSc.out _ (below_later h.bl hbC)) (fun hHeld => ?_)
                clear hK K
                try simp only [List.setIfInBounds_toArray, List.set_cons_zero, List.set_cons_succ]
                rw [hG]
                exact st_610 _ _ _ _ _ _ _ _ _ _ _ _ rfl (by kernel_rfl) (h.c6 hbC oC)
              · go_simp
                refine hK.out _ _ (HSc.out _ (below_al (Nat.le_refl _) _ h.bl)) (fun hHeld => ?_)
                clear hK K
                try simp only [List.setIfInBounds_toArray, List.set_cons_zero, List.set_cons_succ]
                rw [hG]
                exact st_511 _ _ _ _ _ _ _ _ _ _ _ _ rfl (by kernel_rfl) h.mk9 rfl
            have st_411 : ∀ (n : Nat) (L : Array Bool) (x38 x41 x44 x45 x48 x51 x52 x53 x9 : Value) (W : World), n = 4 → L = #[true, true, true, true, true, true, true, true, true, true, true, true, true, false, false, false, true, false] → St wk a b pab xs ys 4 true true x38 x41 x44 x45 x48 x51 x53 x9 W → G n L { tmps := #[.agg #[.slice A a.1.length ca, .slice A' a.2.length da], .agg #[.slice B b.1.length cb, .slice B' b.2.length db], .agg #[.slice C c.1.length cc, .slice C' c.2.length dc], .pointer (some ⟨Z, 0, none⟩), .pointer (some ⟨ZB, 0, none⟩), .pointer (some ⟨ZC, 0, none⟩), .bool false, .pointer (some ⟨P, 0, none⟩), .pointer (some ⟨Q, 0, none⟩), x9, undef, undef, undef, undef, undef, undef, u16, u17, u18, u19, u20, u21, u22, u23, u24, u25, u26, u27, u28, u29, u30, u31, u32, u33, u34, u35, u36, u37, x38, .pointer (some ⟨Z, 0, none⟩), .slice A a.1.length ca, x41, .pointer (some ⟨ZB, 0, none⟩), .slice B b.1.length cb, x44, x45, .pointer (some ⟨Z, 1, none⟩), .slice A' a.2.length da, x48, .pointer (some ⟨ZB, 1, none⟩), .slice B' b.2.length db, x51, x52, x53, u54, u55, u56, u57, u58, u59, u60, u61, u62, u63, u64, u65, u66, u67, u68, u69, u70, u71, u72, u73, u74, u75, u76, u77, u78, u79, u80, u81, u82, u83, u84, u85, u86, u87, u88, u89, u90, u91, u92, u93, u94, u95, u96, u97, u98, u99, u100, u101, u102, u103, u104, u105, u106, u107, u108, u109, u110, u111, u112, u113, u114, u115, u116, u117, u118, u119, u120, u121, u122, u123, u124, u125, u126, u127, u128, u129, u130, u131, u132, u133, u134, u135, u136, u137, u138, u139, u140, u141, u142, u143, u144, u145, u146, u147, u148, u149, u150, u151, u152, u153, u154, u155, u156, u157, u158, u159, u160, u161, u162, u163, u164, u165, u166, u167, u168, u169, u170, u171, u172, u173, u174, u175, u176, u177, u178, u179, u180, u181, u182, u183, u184, u185, u186, u187, u188, u189, u190, u191, u192, u193, u194, u195, u196, u197, u198], defers := [] } W := by
              rintro _ _ x38 x41 x44 x45 x48 x51 x52 x53 x9 W rfl rfl h
              rw [← hG]
              obtain ⟨A7, c7, rfl, o7⟩ := h.e3 (by omega)
              refine wpAnyH_ready (rs := [13]) (by kernel_rfl) (by simp) ?_
              refine (AllReadyH.cons rfl (fun K hK => ?_) AllReadyH.nil)
              · refine step_app wk _ rfl _ _ 38 rfl 53 i1 (.string ⟨#[]⟩) 16 Tryz.underlying38 hi1 hy0 hy1 hy2 rfl x48 _ _ rfl h.bl (h.e5 rfl) B' b.2.length db (b.2.map encN) rfl (HB2.out _ h.bl) (ONEN.out _) (by unfold maxLen; omega) (by omega) ?_
                intro v' w1 o k
                obtain ⟨A8, c8, rfl, o8⟩ : ∃ A c, v' = .slice A ys.length c ∧ True := (by obtain ⟨A8, c8, e8, _⟩ := own_cat o; rw [h.hy] at e8; exact ⟨A8, c8, e8, trivial⟩)
                refine hK.out _ _ (HSc.out _ k.below) (fun hHeld => ?_)
                clear hK K
                try simp only [Act.put, List.getElem_toArray, List.getElem_cons_zero, List.getElem_cons_succ, List.setIfInBounds_toArray, List.set_cons_zero, List.set_cons_succ]
                refine wpAnyH_take (i := 14) (v := ?_) rfl (by kernel_rfl) (by kernel_rfl) (by kernel_rfl) (fun _ _ _ h => h) (Or.inl ⟨by rfl, ?_⟩) (by assumption) ?_
                rotate_left
                · intro wS hSw
                  go_simp
                  try with_reducible rfl
                try simp only [Act.put, List.getElem_toArray, List.getElem_cons_zero, List.getElem_cons_succ, List.setIfInBounds_toArray, List.set_cons_zero, List.set_cons_succ]
                rw [hG]
                exact st_511 _ _ _ _ _ _ _ _ _ _ _ _ rfl (by kernel_rfl) (h.n2 o k) rfl
            have st_410 : ∀ (n : Nat) (L : Array Bool) (x38 x41 x44 x45 x48 x51 x52 x53 x9 : Value) (W : World), n = 5 → L = #[true, true, true, true, true, true, true, true, true, true, true, true, true, false, false, false, false, false] → St wk a b pab xs ys 4 true false x38 x41 x44 x45 x48 x51 x53 x9 W → G n L { tmps := #[.agg #[.slice A a.1.length ca, .slice A' a.2.length da], .agg #[.slice B b.1.length cb, .slice B' b.2.length db], .agg #[.slice C c.1.length cc, .slice C' c.2.length dc], .pointer (some ⟨Z, 0, none⟩), .pointer (some ⟨ZB, 0, none⟩), .pointer (some ⟨ZC, 0, none⟩), .bool false, .pointer (some ⟨P, 0, none⟩), .pointer (some ⟨Q, 0, none⟩), x9, undef, undef, undef, undef, undef, undef, u16, u17, u18, u19, u20, u21, u22, u23, u24, u25, u26, u27, u28, u29, u30, u31, u32, u33, u34, u35, u36, u37, x38, .pointer (some ⟨Z, 0, none⟩), .slice A a.1.length ca, x41, .pointer (some ⟨ZB, 0, none⟩), .slice B b.1.length cb, x44, x45, .pointer (some ⟨Z, 1, none⟩), .slice A' a.2.length da, x48, .pointer (some ⟨ZB, 1, none⟩), .slice B' b.2.length db, x51, x52, x53, u54, u55, u56, u57, u58, u59, u60, u61, u62, u63, u64, u65, u66, u67, u68, u69, u70, u71, u72, u73, u74, u75, u76, u77, u78, u79, u80, u81, u82, u83, u84, u85, u86, u87, u88, u89, u90, u91, u92, u93, u94, u95, u96, u97, u98, u99, u100, u101, u102, u103, u104, u105, u106, u107, u108, u109, u110, u111, u112, u113, u114, u115, u116, u117, u118, u119, u120, u121, u122, u123, u124, u125, u126, u127, u128, u129, u130, u131, u132, u133, u134, u135, u136, u137, u138, u139, u140, u141, u142, u143, u144, u145, u146, u147, u148, u149, u150, u151, u152, u153, u154, u155, u156, u157, u158, u159, u160, u161, u162, u163, u164, u165, u166, u167, u168, u169, u170, u171, u172, u173, u174, u175, u176, u177, u178, u179, u180, u181, u182, u183, u184, u185, u186, u187, u188, u189, u190, u191, u192, u193, u194, u195, u196, u197, u198], defers := [] } W := by
              rintro _ _ x38 x41 x44 x45 x48 x51 x52 x53 x9 W rfl rfl h
              rw [← hG]
              obtain ⟨A7, c7, rfl, o7⟩ := h.e3 (by omega)
              refine wpAnyH_ready (rs := [13, 16]) (by kernel_rfl) (by simp) ?_
              refine (AllReadyH.cons rfl (fun K hK => ?_) (AllReadyH.cons rfl (fun K hK => ?_) AllReadyH.nil))
              · refine step_app wk _ rfl _ _ 38 rfl 53 i1 (.string ⟨#[]⟩) 16 Tryz.underlying38 hi1 hy0 hy1 hy2 rfl x48 _ _ rfl h.bl (h.e5 rfl) B' b.2.length db (b.2.map encN) rfl (HB2.out _ h.bl) (ONEN.out _) (by unfold maxLen; omega) (by omega) ?_
                intro v' w1 o k
                obtain ⟨A8, c8, rfl, o8⟩ : ∃ A c, v' = .slice A ys.length c ∧ True := (by obtain ⟨A8, c8, e8, _⟩ := own_cat o; rw [h.hy] at e8; exact ⟨A8, c8, e8, trivial⟩)
                refine hK.out _ _ (HSc.out _ k.below) (fun hHeld => ?_)
                clear hK K
                try simp only [Act.put, List.getElem_toArray, List.getElem_cons_zero, List.getElem_cons_succ, List.setIfInBounds_toArray, List.set_cons_zero, List.set_cons_succ]
                refine wpAnyH_take (i := 14) (v := ?_) rfl (by kernel_rfl) (by kernel_rfl) (by kernel_rfl) (fun _ _ _ h => h) (Or.inl ⟨by rfl, ?_⟩) (by assumption) ?_
                rotate_left
                · intro wS hSw
                  go_simp
                  try with_reducible rfl
                try simp only [Act.put, List.getElem_toArray, List.getElem_cons_zero, List.getElem_cons_succ, List.setIfInBounds_toArray, List.set_cons_zero, List.set_cons_succ]
                rw [hG]
                exact st_510 _ _ _ _ _ _ _ _ _ _ _ _ rfl (by kernel_rfl) (h.n2 o k) rfl
              · go_simp
                refine hK.out _ _ (HSc.out _ (below_al (Nat.le_refl _) _ h.bl)) (fun hHeld => ?_)
                clear hK K
                try simp only [List.setIfInBounds_toArray, List.set_cons_zero, List.set_cons_succ]
                rw [hG]
                exact st_411 _ _ _ _ _ _ _ _ _ _ _ _ rfl (by kernel_rfl) h.mk9
            have st_311 : ∀ (n : Nat) (L : Array Bool) (x38 x41 x44 x45 x48 x51 x52 x53 x9 : Value) (W : World), n = 5 → L = #[true, true, true, true, true, true, true, true, true, true, false, true, true, false, false, false, true, false] → St wk a b pab xs ys 3 true true x38 x41 x44 x45 x48 x51 x53 x9 W → G n L { tmps := #[.agg #[.slice A a.1.length ca, .slice A' a.2.length da], .agg #[.slice B b.1.length cb, .slice B' b.2.length db], .agg #[.slice C c.1.length cc, .slice C' c.2.length dc], .pointer (some ⟨Z, 0, none⟩), .pointer (some ⟨ZB, 0, none⟩), .pointer (some ⟨ZC, 0, none⟩), .bool false, .pointer (some ⟨P, 0, none⟩), .pointer (some ⟨Q, 0, none⟩), x9, undef, undef, undef, undef, undef, undef, u16, u17, u18, u19, u20, u21, u22, u23, u24, u25, u26, u27, u28, u29, u30, u31, u32, u33, u34, u35, u36, u37, x38, .pointer (some ⟨Z, 0, none⟩), .slice A a.1.length ca, x41, .pointer (some ⟨ZB, 0, none⟩), .slice B b.1.length cb, x44, x45, .pointer (some ⟨Z, 1, none⟩), .slice A' a.2.length da, x48, .pointer (some ⟨ZB, 1, none⟩), .slice B' b.2.length db, x51, x52, x53, u54, u55, u56, u57, u58, u59, u60, u61, u62, u63, u64, u65, u66, u67, u68, u69, u70, u71, u72, u73, u74, u75, u76, u77, u78, u79, u80, u81, u82, u83, u84, u85, u86, u87, u88, u89, u90, u91, u92, u93, u94, u95, u96, u97, u98, u99, u100, u101, u102, u103, u104, u105, u106, u107, u108, u109, u110, u111, u112, u113, u114, u115, u116, u117, u118, u119, u120, u121, u122, u123, u124, u125, u126, u127, u128, u129, u130, u131, u132, u133, u134, u135, u136, u137, u138, u139, u140, u141, u142, u143, u144, u145, u146, u147, u148, u149, u150, u151, u152, u153, u154, u155, u156, u157, u158, u159, u160, u161, u162, u163, u164, u165, u166, u167, u168, u169, u170, u171, u172, u173, u174, u175, u176, u177, u178, u179, u180, u181, u182, u183, u184, u185, u186, u187, u188, u189, u190, u191, u192, u193, u194, u195, u196, u197, u198], defers := [] } W := by
              rintro _ _ x38 x41 x44 x45 x48 x51 x52 x53 x9 W rfl rfl h
              rw [← hG]
              refine wpAnyH_ready (rs := [10]) (by kernel_rfl) (by simp) ?_
              refine (AllReadyH.cons rfl (fun K hK => ?_) AllReadyH.nil)
              · refine step_app wk _ rfl _ _ 38 rfl 53 i1 (.string ⟨#[]⟩) 16 Tryz.underlying38 hi1 hy0 hy1 hy2 rfl x45 0 [] rfl h.bl (h.e4 rfl (by omega)) A' a.2.length da (a.2.map encN) rfl (HA2.out _ h.bl) (ONEN.out _) (by unfold maxLen; omega) (by omega) ?_
                intro v' w1 o k
                refine hK.out _ _ (HSc.out _ k.below) (fun hHeld => ?_)
                clear hK K
                try simp only [Act.put, List.getElem_toArray, List.getElem_cons_zero, List.getElem_cons_succ, List.setIfInBounds_toArray, List.set_cons_zero, List.set_cons_succ]
                rw [hG]
                exact st_411 _ _ _ _ _ _ _ _ _ _ _ _ rfl (by kernel_rfl) (h.n1 o k)
            have st_310 : ∀ (n : Nat) (L : Array Bool) (x38 x41 x44 x45 x48 x51 x52 x53 x9 : Value) (W : World), n = 6 → L = #[true, true, true, true, true, true, true, true, true, true, false, true, true, false, false, false, false, false] → St wk a b pab xs ys 3 true false x38 x41 x44 x45 x48 x51 x53 x9 W → G n L { tmps := #[.agg #[.slice A a.1.length ca, .slice A' a.2.length da], .agg #[.slice B b.1.length cb, .slice B' b.2.length db], .agg #[.slice C c.1.length cc, .slice C' c.2.length dc], .pointer (some ⟨Z, 0, none⟩), .pointer (some ⟨ZB, 0, none⟩), .pointer (some ⟨ZC, 0, none⟩), .bool false, .pointer (some ⟨P, 0, none⟩), .pointer (some ⟨Q, 0, none⟩), x9, undef, undef, undef, undef, undef, undef, u16, u17, u18, u19, u20, u21, u22, u23, u24, u25, u26, u27, u28, u29, u30, u31, u32, u33, u34, u35, u36, u37, x38, .pointer (some ⟨Z, 0, none⟩), .slice A a.1.length ca, x41, .pointer (some ⟨ZB, 0, none⟩), .slice B b.1.length cb, x44, x45, .pointer (some ⟨Z, 1, none⟩), .slice A' a.2.length da, x48, .pointer (some ⟨ZB, 1, none⟩), .slice B' b.2.length db, x51, x52, x53, u54, u55, u56, u57, u58, u59, u60, u61, u62, u63, u64, u65, u66, u67, u68, u69, u70, u71, u72, u73, u74, u75, u76, u77, u78, u79, u80, u81, u82, u83, u84, u85, u86, u87, u88, u89, u90, u91, u92, u93, u94, u95, u96, u97, u98, u99, u100, u101, u102, u103, u104, u105, u106, u107, u108, u109, u110, u111, u112, u113, u114, u115, u116, u117, u118, u119, u120, u121, u122, u123, u124, u125, u126, u127, u128, u129, u130, u131, u132, u133, u134, u135, u136, u137, u138, u139, u140, u141, u142, u143, u144, u145, u146, u147, u148, u149, u150, u151, u152, u153, u154, u155, u156, u157, u158, u159, u160, u161, u162, u163, u164, u165, u166, u167, u168, u169, u170, u171, u172, u173, u174, u175, u176, u177, u178, u179, u180, u181, u182, u183, u184, u185, u186, u187, u188, u189, u190, u191, u192, u193, u194, u195, u196, u197, u198], defers := [] } W := by
              rintro _ _ x38 x41 x44 x45 x48 x51 x52 x53 x9 W rfl rfl h
              rw [← hG]
              refine wpAnyH_ready (rs := [10, 16]) (by kernel_rfl) (by simp) ?_
              refine (AllReadyH.cons rfl (fun K hK => ?_) (AllReadyH.cons rfl (fun K hK => ?_) AllReadyH.nil))
              · refine step_app wk _ rfl _ _ 38 rfl 53 i1 (.string ⟨#[]⟩) 16 Tryz.underlying38 hi1 hy0 hy1 hy2 rfl x45 0 [] rfl h.bl (h.e4 rfl (by omega)) A' a.2.length da (a.2.map encN) rfl (HA2.out _ h.bl) (ONEN.out _) (by unfold maxLen; omega) (by omega) ?_
                intro v' w1 o k
                refine hK.out _ _ (HSc.out _ k.below) (fun hHeld => ?_)
                clear hK K
                try simp only [Act.put, List.getElem_toArray, List.getElem_cons_zero, List.getElem_cons_succ, List.setIfInBounds_toArray, List.set_cons_zero, List.set_cons_succ]
                rw [hG]
                exact st_410 _ _ _ _ _ _ _ _ _ _ _ _ rfl (by kernel_rfl) (h.n1 o k)
              · go_simp
                refine hK.out _ _ (HSc.out _ (below_al (Nat.le_refl _) _ h.bl)) (fun hHeld => ?_)
                clear hK K
                try simp only [List.setIfInBounds_toArray, List.set_cons_zero, List.set_cons_succ]
                rw [hG]
                exact st_311 _ _ _ _ _ _ _ _ _ _ _ _ rfl (by kernel_rfl) h.mk9
            have st_301 : ∀ (n : Nat) (L : Array Bool) (x38 x41 x44 x45 x48 x51 x52 x53 x9 : Value) (W : World), n = 6 → L = #[true, true, true, true, true, true, true, false, true, true, false, true, true, false, false, false, true, false] → St wk a b pab xs ys 3 false true x38 x41 x44 x45 x48 x51 x53 x9 W → G n L { tmps := #[.agg #[.slice A a.1.length ca, .slice A' a.2.length da], .agg #[.slice B b.1.length cb, .slice B' b.2.length db], .agg #[.slice C c.1.length cc, .slice C' c.2.length dc], .pointer (some ⟨Z, 0, none⟩), .pointer (some ⟨ZB, 0, none⟩), .pointer (some ⟨ZC, 0, none⟩), .bool false, .pointer (some ⟨P, 0, none⟩), .pointer (some ⟨Q, 0, none⟩), x9, undef, undef, undef, undef, undef, undef, u16, u17, u18, u19, u20, u21, u22, u23, u24, u25, u26, u27, u28, u29, u30, u31, u32, u33, u34, u35, u36, u37, x38, .pointer (some ⟨Z, 0, none⟩), .slice A a.1.length ca, x41, .pointer (some ⟨ZB, 0, none⟩), .slice B b.1.length cb, x44, x45, .pointer (some ⟨Z, 1, none⟩), .slice A' a.2.length da, x48, .pointer (some ⟨ZB, 1, none⟩), .slice B' b.2.length db, x51, x52, x53, u54, u55, u56, u57, u58, u59, u60, u61, u62, u63, u64, u65, u66, u67, u68, u69, u70, u71, u72, u73, u74, u75, u76, u77, u78, u79, u80, u81, u82, u83, u84, u85, u86, u87, u88, u89, u90, u91, u92, u93, u94, u95, u96, u97, u98, u99, u100, u101, u102, u103, u104, u105, u106, u107, u108, u109, u110, u111, u112, u113, u114, u115, u116, u117, u118, u119, u120, u121, u122, u123, u124, u125, u126, u127, u128, u129, u130, u131, u132, u133, u134, u135, u136, u137, u138, u139, u140, u141, u142, u143, u144, u145, u146, u147, u148, u149, u150, u151, u152, u153, u154, u155, u156, u157, u158, u159, u160, u161, u162, u163, u164, u165, u166, u167, u168, u169, u170, u171, u172, u173, u174, u175, u176, u177, u178, u179, u180, u181, u182, u183, u184, u185, u186, u187, u188, u189, u190, u191, u192, u193, u194, u195, u196, u197, u198], defers := [] } W := by
              rintro _ _ x38 x41 x44 x45 x48 x51 x52 x53 x9 W rfl rfl h
              rw [← hG]
              refine wpAnyH_ready (rs := [7]) (by kernel_rfl) (by simp) ?_
              refine (AllReadyH.cons rfl (fun K hK => ?_) AllReadyH.nil)
              · go_simp
                refine hK.out _ _ (HSc.out _ (below_al (Nat.le_refl _) _ h.bl)) (fun hHeld => ?_)
                clear hK K
                try simp only [List.setIfInBounds_toArray, List.set_cons_zero, List.set_cons_succ]
                rw [hG]
                exact st_311 _ _ _ _ _ _ _ _ _ _ _ _ rfl (by kernel_rfl) h.b45
            have st_300 : ∀ (n : Nat) (L : Array Bool) (x38 x41 x44 x45 x48 x51 x52 x53 x9 : Value) (W : World), n = 7 → L = #[true, true, true, true, true, true, true, false, true, true, false, true, true, false, false, false, false, false] → St wk a b pab xs ys 3 false false x38 x41 x44 x45 x48 x51 x53 x9 W → G n L { tmps := #[.agg #[.slice A a.1.length ca, .slice A' a.2.length da], .agg #[.slice B b.1.length cb, .slice B' b.2.length db], .agg #[.slice C c.1.length cc, .slice C' c.2.length dc], .pointer (some ⟨Z, 0, none⟩), .pointer (some ⟨ZB, 0, none⟩), .pointer (some ⟨ZC, 0, none⟩), .bool false, .pointer (some ⟨P, 0, none⟩), .pointer (some ⟨Q, 0, none⟩), x9, undef, undef, undef, undef, undef, undef, u16, u17, u18, u19, u20, u21, u22, u23, u24, u25, u26, u27, u28, u29, u30, u31, u32, u33, u34, u35, u36, u37, x38, .pointer (some ⟨Z, 0, none⟩), .slice A a.1.length ca, x41, .pointer (some ⟨ZB, 0, none⟩), .slice B b.1.length cb, x44, x45, .pointer (some ⟨Z, 1, none⟩), .slice A' a.2.length da, x48, .pointer (some ⟨ZB, 1, none⟩), .slice B' b.2.length db, x51, x52, x53, u54, u55, u56, u57, u58, u59, u60, u61, u62, u63, u64, u65, u66, u67, u68, u69, u70, u71, u72, u73, u74, u75, u76, u77, u78, u79, u80, u81, u82, u83, u84, u85, u86, u87, u88, u89, u90, u91, u92, u93, u94, u95, u96, u97, u98, u99, u100, u101, u102, u103, u104, u105, u106, u107, u108, u109, u110, u111, u112, u113, u114, u115, u116, u117, u118, u119, u120, u121, u122, u123, u124, u125, u126, u127, u128, u129, u130, u131, u132, u133, u134, u135, u136, u137, u138, u139, u140, u141, u142, u143, u144, u145, u146, u147, u148, u149, u150, u151, u152, u153, u154, u155, u156, u157, u158, u159, u160, u161, u162, u163, u164, u165, u166, u167, u168, u169, u170, u171, u172, u173, u174, u175, u176, u177, u178, u179, u180, u181, u182, u183, u184, u185, u186, u187, u188, u189, u190, u191, u192, u193, u194, u195, u196, u197, u198], defers := [] } W := by
              rintro _ _ x38 x41 x44 x45 x48 x51 x52 x53 x9 W rfl rfl h
              rw [← hG]
              refine wpAnyH_ready (rs := [7, 16]) (by kernel_rfl) (by simp) ?_
              refine (AllReadyH.cons rfl (fun K hK => ?_) (AllReadyH.cons rfl (fun K hK => ?_) AllReadyH.nil))
              · go_simp
                refine hK.out _ _ (HSc.out _ (below_al (Nat.le_refl _) _ h.bl)) (fun hHeld => ?_)
                clear hK K
                try simp only [List.setIfInBounds_toArray, List.set_cons_zero, List.set_cons_succ]
                rw [hG]
                exact st_310 _ _ _ _ _ _ _ _ _ _ _ _ rfl (by kernel_rfl) h.b45
              · go_simp
                refine hK.out _ _ (HSc.out _ (below_al (Nat.le_refl _) _ h.bl)) (fun hHeld => ?_)
                clear hK K
                try simp only [List.setIfInBounds_toArray, List.set_cons_zero, List.set_cons_succ]
                rw [hG]
                exact st_301 _ _ _ _ _ _ _ _ _ _ _ _ rfl (by kernel_rfl) h.mk9
            have st_211 : ∀ (n : Nat) (L : Array Bool) (x38 x41 x44 x45 x48 x51 x52 x53 x9 : Value) (W : World), n = 6 → L = #[true, true, true, true, true, true, false, true, true, true, false, true, true, false, false, false, true, false] → St wk a b pab xs ys 2 true true x38 x41 x44 x45 x48 x51 x53 x9 W → G n L { tmps := #[.agg #[.slice A a.1.length ca, .slice A' a.2.length da], .agg #[.slice B b.1.length cb, .slice B' b.2.length db], .agg #[.slice C c.1.length cc, .slice C' c.2.length dc], .pointer (some ⟨Z, 0, none⟩), .pointer (some ⟨ZB, 0, none⟩), .pointer (some ⟨ZC, 0, none⟩), .bool false, .pointer (some ⟨P, 0, none⟩), .pointer (some ⟨Q, 0, none⟩), x9, undef, undef, undef, undef, undef, undef, u16, u17, u18, u19, u20, u21, u22, u23, u24, u25, u26, u27, u28, u29, u30, u31, u32, u33, u34, u35, u36, u37, x38, .pointer (some ⟨Z, 0, none⟩), .slice A a.1.length ca, x41, .pointer (some ⟨ZB, 0, none⟩), .slice B b.1.length cb, x44, x45, .pointer (some ⟨Z, 1, none⟩), .slice A' a.2.length da, x48, .pointer (some ⟨ZB, 1, none⟩), .slice B' b.2.length db, x51, x52, x53, u54, u55, u56, u57, u58, u59, u60, u61, u62, u63, u64, u65, u66, u67, u68, u69, u70, u71, u72, u73, u74, u75, u76, u77, u78, u79, u80, u81, u82, u83, u84, u85, u86, u87, u88, u89, u90, u91, u92, u93, u94, u95, u96, u97, u98, u99, u100, u101, u102, u103, u104, u105, u106, u107, u108, u109, u110, u111, u112, u113, u114, u115, u116, u117, u118, u119, u120, u121, u122, u123, u124, u125, u126, u127, u128, u129, u130, u131, u132, u133, u134, u135, u136, u137, u138, u139, u140, u141, u142, u143, u144, u145, u146, u147, u148, u149, u150, u151, u152, u153, u154, u155, u156, u157, u158, u159, u160, u161, u162, u163, u164, u165, u166, u167, u168, u169, u170, u171, u172, u173, u174, u175, u176, u177, u178, u179, u180, u181, u182, u183, u184, u185, u186, u187, u188, u189, u190, u191, u192, u193, u194, u195, u196, u197, u198], defers := [] } W := by
              rintro _ _ x38 x41 x44 x45 x48 x51 x52 x53 x9 W rfl rfl h
              rw [← hG]
              refine wpAnyH_ready (rs := [6]) (by kernel_rfl) (by simp) ?_
              refine (AllReadyH.cons rfl (fun K hK => ?_) AllReadyH.nil)
              · refine step_app wk _ rfl _ _ 36 rfl 3 i0 (.int .i64 0) 8 Tryz.underlying36 hi hz0 hz1 hz2 rfl x41 _ _ rfl h.bl (h.e2 rfl) B b.1.length cb (b.1.map encI) rfl (HB1.out _ h.bl) (ONE.out _) (by unfold maxLen; omega) (by omega) ?_
                intro v' w1 o k
                refine hK.out _ _ (HSc.out _ k.below) (fun hHeld => ?_)
                clear hK K
                try simp only [Act.put, List.getElem_toArray, List.getElem_cons_zero, List.getElem_cons_succ, List.setIfInBounds_toArray, List.set_cons_zero, List.set_cons_succ]
                rw [hG]
                exact st_311 _ _ _ _ _ _ _ _ _ _ _ _ rfl (by kernel_rfl) (h.i2 o k)
            have st_210 : ∀ (n : Nat) (L : Array Bool) (x38 x41 x44 x45 x48 x51 x52 x53 x9 : Value) (W : World), n = 7 → L = #[true, true, true, true, true, true, false, true, true, true, false, true, true, false, false, false, false, false] → St wk a b pab xs ys 2 true false x38 x41 x44 x45 x48 x51 x53 x9 W → G n L { tmps := #[.agg #[.slice A a.1.length ca, .slice A' a.2.length da], .agg #[.slice B b.1.length cb, .slice B' b.2.length db], .agg #[.slice C c.1.length cc, .slice C' c.2.length dc], .pointer (some ⟨Z, 0, none⟩), .pointer (some ⟨ZB, 0, none⟩), .pointer (some ⟨ZC, 0, none⟩), .bool false, .pointer (some ⟨P, 0, none⟩), .pointer (some ⟨Q, 0, none⟩), x9, undef, undef, undef, undef, undef, undef, u16, u17, u18, u19, u20, u21, u22, u23, u24, u25, u26, u27, u28, u29, u30, u31, u32, u33, u34, u35, u36, u37, x38, .pointer (some ⟨Z, 0, none⟩), .slice A a.1.length ca, x41, .pointer (some ⟨ZB, 0, none⟩), .slice B b.1.length cb, x44, x45, .pointer (some ⟨Z, 1, none⟩), .slice A' a.2.length da, x48, .pointer (some ⟨ZB, 1, none⟩), .slice B' b.2.length db, x51, x52, x53, u54, u55, u56, u57, u58, u59, u60, u61, u62, u63, u64, u65, u66, u67, u68, u69, u70, u71, u72, u73, u74, u75, u76, u77, u78, u79, u80, u81, u82, u83, u84, u85, u86, u87, u88, u89, u90, u91, u92, u93, u94, u95, u96, u97, u98, u99, u100, u101, u102, u103, u104, u105, u106, u107, u108, u109, u110, u111, u112, u113, u114, u115, u116, u117, u118, u119, u120, u121, u122, u123, u124, u125, u126, u127, u128, u129, u130, u131, u132, u133, u134, u135, u136, u137, u138, u139, u140, u141, u142, u143, u144, u145, u146, u147, u148, u149, u150, u151, u152, u153, u154, u155, u156, u157, u158, u159, u160, u161, u162, u163, u164, u165, u166, u167, u168, u169, u170, u171, u172, u173, u174, u175, u176, u177, u178, u179, u180, u181, u182, u183, u184, u185, u186, u187, u188, u189, u190, u191, u192, u193, u194, u195, u196, u197, u198], defers := [] } W := by
              rintro _ _ x38 x41 x44 x45 x48 x51 x52 x53 x9 W rfl rfl h
              rw [← hG]
              refine wpAnyH_ready (rs := [6, 16]) (by kernel_rfl) (by simp) ?_
              refine (AllReadyH.cons rfl (fun K hK => ?_) (AllReadyH.cons rfl (fun K hK => ?_) AllReadyH.nil))
              · refine step_app wk _ rfl _ _ 36 rfl 3 i0 (.int .i64 0) 8 Tryz.underlying36 hi hz0 hz1 hz2 rfl x41 _ _ rfl h.bl (h.e2 rfl) B b.1.length cb (b.1.map encI) rfl (HB1.out _ h.bl) (ONE.out _) (by unfold maxLen; omega) (by omega) ?_
                intro v' w1 o k
                refine hK.out _ _ (HSc.out _ k.below) (fun hHeld => ?_)
                clear hK K
                try simp only [Act.put, List.getElem_toArray, List.getElem_cons_zero, List.getElem_cons_succ, List.setIfInBounds_toArray, List.set_cons_zero, List.set_cons_succ]
                rw [hG]
                exact st_310 _ _ _ _ _ _ _ _ _ _ _ _ rfl (by kernel_rfl) (h.i2 o k)
              · go_simp
                refine hK.out _ _ (HSc.out _ (below_al (Nat.le_refl _) _ h.bl)) (fun hHeld => ?_)
                clear hK K
                try simp only [List.setIfInBounds_toArray, List.set_cons_zero, List.set_cons_succ]
                rw [hG]
                exact st_211 _ _ _ _ _ _ _ _ _ _ _ _ rfl (by kernel_rfl) h.mk9
            have st_201 : ∀ (n : Nat) (L : Array Bool) (x38 x41 x44 x45 x48 x51 x52 x53 x9 : Value) (W : World), n = 7 → L = #[true, true, true, true, true, true, false, false, true, true, false, true, true, false, false, false, true, false] → St wk a b pab xs ys 2 false true x38 x41 x44 x45 x48 x51 x53 x9 W → G n L { tmps := #[.agg #[.slice A a.1.length ca, .slice A' a.2.length da], .agg #[.slice B b.1.length cb, .slice B' b.2.length db], .agg #[.slice C c.1.length cc, .slice C' c.2.length dc], .pointer (some ⟨Z, 0, none⟩), .pointer (some ⟨ZB, 0, none⟩), .pointer (some ⟨ZC, 0, none⟩), .bool false, .pointer (some ⟨P, 0, none⟩), .pointer (some ⟨Q, 0, none⟩), x9, undef, undef, undef, undef, undef, undef, u16, u17, u18, u19, u20, u21, u22, u23, u24, u25, u26, u27, u28, u29, u30, u31, u32, u33, u34, u35, u36, u37, x38, .pointer (some ⟨Z, 0, none⟩), .slice A a.1.length ca, x41, .pointer (some ⟨ZB, 0, none⟩), .slice B b.1.length cb, x44, x45, .pointer (some ⟨Z, 1, none⟩), .slice A' a.2.length da, x48, .pointer (some ⟨ZB, 1, none⟩), .slice B' b.2.length db, x51, x52, x53, u54, u55, u56, u57, u58, u59, u60, u61, u62, u63, u64, u65, u66, u67, u68, u69, u70, u71, u72, u73, u74, u75, u76, u77, u78, u79, u80, u81, u82, u83, u84, u85, u86, u87, u88, u89, u90, u91, u92, u93, u94, u95, u96, u97, u98, u99, u100, u101, u102, u103, u104, u105, u106, u107, u108, u109, u110, u111, u112, u113, u114, u115, u116, u117, u118, u119, u120, u121, u122, u123, u124, u125, u126, u127, u128, u129, u130, u131, u132, u133, u134, u135, u136, u137, u138, u139, u140, u141, u142, u143, u144, u145, u146, u147, u148, u149, u150, u151, u152, u153, u154, u155, u156, u157, u158, u159, u160, u161, u162, u163, u164, u165, u166, u167, u168, u169, u170, u171, u172, u173, u174, u175, u176, u177, u178, u179, u180, u181, u182, u183, u184, u185, u186, u187, u188, u189, u190, u191, u192, u193, u194, u195, u196, u197, u198], defers := [] } W := by
              rintro _ _ x38 x41 x44 x45 x48 x51 x52 x53 x9 W rfl rfl h
              rw [← hG]
              refine wpAnyH_ready (rs := [6, 7]) (by kernel_rfl) (by simp) ?_
              refine (AllReadyH.cons rfl (fun K hK => ?_) (AllReadyH.cons rfl (fun K hK => ?_) AllReadyH.nil))
              · refine step_app wk _ rfl _ _ 36 rfl 3 i0 (.int .i64 0) 8 Tryz.underlying36 hi hz0 hz1 hz2 rfl x41 _ _ rfl h.bl (h.e2 rfl) B b.1.length cb (b.1.map encI) rfl (HB1.out _ h.bl) (ONE.out _) (by unfold maxLen; omega) (by omega) ?_
                intro v' w1 o k
                refine hK.out _ _ (HSc.out _ k.below) (fun hHeld => ?_)
                clear hK K
                try simp only [Act.put, List.getElem_toArray, List.getElem_cons_zero, List.getElem_cons_succ, List.setIfInBounds_toArray, List.set_cons_zero, List.set_cons_succ]
                rw [hG]
                exact st_301 _ _ _ _ _ _ _ _ _ _ _ _ rfl (by kernel_rfl) (h.i2 o k)
              · go_simp
                refine hK.out _ _ (HSc.out _ (below_al (Nat.le_refl _) _ h.bl)) (fun hHeld => ?_)
                clear hK K
                try simp only [List.setIfInBounds_toArray, List.set_cons_zero, List.set_cons_succ]
                rw [hG]
                exact st_211 _ _ _ _ _ _ _ _ _ _ _ _ rfl (by kernel_rfl) h.b45
            have st_200 : ∀ (n : Nat) (L : Array Bool) (x38 x41 x44 x45 x48 x51 x52 x53 x9 : Value) (W : World), n = 8 → L = #[true, true, true, true, true, true, false, false, true, true, false, true, true, false, false, false, false, false] → St wk a b pab xs ys 2 false false x38 x41 x44 x45 x48 x51 x53 x9 W → G n L { tmps := #[.agg #[.slice A a.1.length ca, .slice A' a.2.length da], .agg #[.slice B b.1.length cb, .slice B' b.2.length db], .agg #[.slice C c.1.length cc, .slice C' c.2.length dc], .pointer (some ⟨Z, 0, none⟩), .pointer (some ⟨ZB, 0, none⟩), .pointer (some ⟨ZC, 0, none⟩), .bool false, .pointer (some ⟨P, 0, none⟩), .pointer (some ⟨Q, 0, none⟩), x9, undef, undef, undef, undef, undef, undef, u16, u17, u18, u19, u20, u21, u22, u23, u24, u25, u26, u27, u28, u29, u30, u31, u32, u33, u34, u35, u36, u37, x38, .pointer (some ⟨Z, 0, none⟩), .slice A a.1.length ca, x41, .pointer (some ⟨ZB, 0, none⟩), .slice B b.1.length cb, x44, x45, .pointer (some ⟨Z, 1, none⟩), .slice A' a.2.length da, x48, .pointer (some ⟨ZB, 1, none⟩), .slice B' b.2.length db, x51, x52, x53, u54, u55, u56, u57, u58, u59, u60, u61, u62, u63, u64, u65, u66, u67, u68, u69, u70, u71, u72, u73, u74, u75, u76, u77, u78, u79, u80, u81, u82, u83, u84, u85, u86, u87, u88, u89, u90, u91, u92, u93, u94, u95, u96, u97, u98, u99, u100, u101, u102, u103, u104, u105, u106, u107, u108, u109, u110, u111, u112, u113, u114, u115, u116, u117, u118, u119, u120, u121, u122, u123, u124, u125, u126, u127, u128, u129, u130, u131, u132, u133, u134, u135, u136, u137, u138, u139, u140, u141, u142, u143, u144, u145, u146, u147, u148, u149, u150, u151, u152, u153, u154, u155, u156, u157, u158, u159, u160, u161, u162, u163, u164, u165, u166, u167, u168, u169, u170, u171, u172, u173, u174, u175, u176, u177, u178, u179, u180, u181, u182, u183, u184, u185, u186, u187, u188, u189, u190, u191, u192, u193, u194, u195, u196, u197, u198], defers := [] } W := by
              rintro _ _ x38 x41 x44 x45 x48 x51 x52 x53 x9 W rfl rfl h
              rw [← hG]
              refine wpAnyH_ready (rs := [6, 7, 16]) (by kernel_rfl) (by simp) ?_
              refine (AllReadyH.cons rfl (fun K hK => ?_) (AllReadyH.cons rfl (fun K hK => ?_) (AllReadyH.cons rfl (fun K hK => ?_) AllReadyH.nil)))
              · refine step_app wk _ rfl _ _ 36 rfl 3 i0 (.int .i64 0) 8 Tryz.underlying36 hi hz0 hz1 hz2 rfl x41 _ _ rfl h.bl (h.e2 rfl) B b.1.length cb (b.1.map encI) rfl (HB1.out _ h.bl) (ONE.out _) (by unfold maxLen; omega) (by omega) ?_
                intro v' w1 o k
                refine hK.out _ _ (HSc.out _ k.below) (fun hHeld => ?_)
                clear hK K
                try simp only [Act.put, List.getElem_toArray, List.getElem_cons_zero, List.getElem_cons_succ, List.setIfInBounds_toArray, List.set_cons_zero, List.set_cons_succ]
                rw [hG]
                exact st_300 _ _ _ _ _ _ _ _ _ _ _ _ rfl (by kernel_rfl) (h.i2 o k)
              · go_simp
                refine hK.out _ _ (HSc.out _ (below_al (Nat.le_refl _) _ h.bl)) (fun hHeld => ?_)
                clear hK K
                try simp only [List.setIfInBounds_toArray, List.set_cons_zero, List.set_cons_succ]
                rw [hG]
                exact st_210 _ _ _ _ _ _ _ _ _ _ _ _ rfl (by kernel_rfl) h.b45
              · go_simp
                refine hK.out _ _ (HSc.out _ (below_al (Nat.le_refl _) _ h.bl)) (fun hHeld => ?_)
                clear hK K
                try simp only [List.setIfInBounds_toArray, List.set_cons_zero, List.set_cons_succ]
                rw [hG]
                exact st_201 _ _ _ _ _ _ _ _ _ _ _ _ rfl (by kernel_rfl) h.mk9
            have st_111 : ∀ (n : Nat) (L : Array Bool) (x38 x41 x44 x45 x48 x51 x52 x53 x9 : Value) (W : World), n = 7 → L = #[true, true, true, false, true, true, false, true, true, true, false, true, true, false, false, false, true, false] → St wk a b pab xs ys 1 true true x38 x41 x44 x45 x48 x51 x53 x9 W → G n L { tmps := #[.agg #[.slice A a.1.length ca, .slice A' a.2.length da], .agg #[.slice B b.1.length cb, .slice B' b.2.length db], .agg #[.slice C c.1.length cc, .slice C' c.2.length dc], .pointer (some ⟨Z, 0, none⟩), .pointer (some ⟨ZB, 0, none⟩), .pointer (some ⟨ZC, 0, none⟩), .bool false, .pointer (some ⟨P, 0, none⟩), .pointer (some ⟨Q, 0, none⟩), x9, undef, undef, undef, undef, undef, undef, u16, u17, u18, u19, u20, u21, u22, u23, u24, u25, u26, u27, u28, u29, u30, u31, u32, u33, u34, u35, u36, u37, x38, .pointer (some ⟨Z, 0, none⟩), .slice A a.1.length ca, x41, .pointer (some ⟨ZB, 0, none⟩), .slice B b.1.length cb, x44, x45, .pointer (some ⟨Z, 1, none⟩), .slice A' a.2.length da, x48, .pointer (some ⟨ZB, 1, none⟩), .slice B' b.2.length db, x51, x52, x53, u54, u55, u56, u57, u58, u59, u60, u61, u62, u63, u64, u65, u66, u67, u68, u69, u70, u71, u72, u73, u74, u75, u76, u77, u78, u79, u80, u81, u82, u83, u84, u85, u86, u87, u88, u89, u90, u91, u92, u93, u94, u95, u96, u97, u98, u99, u100, u101, u102, u103, u104, u105, u106, u107, u108, u109, u110, u111, u112, u113, u114, u115, u116, u117, u118, u119, u120, u121, u122, u123, u124, u125, u126, u127, u128, u129, u130, u131, u132, u133, u134, u135, u136, u137, u138, u139, u140, u141, u142, u143, u144, u145, u146, u147, u148, u149, u150, u151, u152, u153, u154, u155, u156, u157, u158, u159, u160, u161, u162, u163, u164, u165, u166, u167, u168, u169, u170, u171, u172, u173, u174, u175, u176, u177, u178, u179, u180, u181, u182, u183, u184, u185, u186, u187, u188, u189, u190, u191, u192, u193, u194, u195, u196, u197, u198], defers := [] } W := by
              rintro _ _ x38 x41 x44 x45 x48 x51 x52 x53 x9 W rfl rfl h
              rw [← hG]
              refine wpAnyH_ready (rs := [3]) (by kernel_rfl) (by simp) ?_
              refine (AllReadyH.cons rfl (fun K hK => ?_) AllReadyH.nil)
              · refine step_app wk _ rfl _ _ 36 rfl 3 i0 (.int .i64 0) 8 Tryz.underlying36 hi hz0 hz1 hz2 rfl x38 0 [] rfl h.bl (h.e1 rfl) A a.1.length ca (a.1.map encI) rfl (HA1.out _ h.bl) (ONE.out _) (by unfold maxLen; omega) (by omega) ?_
                intro v' w1 o k
                refine hK.out _ _ (HSc.out _ k.below) (fun hHeld => ?_)
                clear hK K
                try simp only [Act.put, List.getElem_toArray, List.getElem_cons_zero, List.getElem_cons_succ, List.setIfInBounds_toArray, List.set_cons_zero, List.set_cons_succ]
                rw [hG]
                exact st_211 _ _ _ _ _ _ _ _ _ _ _ _ rfl (by kernel_rfl) (h.i1 o k)
            have st_110 : ∀ (n : Nat) (L : Array Bool) (x38 x41 x44 x45 x48 x51 x52 x53 x9 : Value) (W : World), n = 8 → L = #[true, true, true, false, true, true, false, true, true, true, false, true, true, false, false, false, false, false] → St wk a b pab xs ys 1 true false x38 x41 x44 x45 x48 x51 x53 x9 W → G n L { tmps := #[.agg #[.slice A a.1.length ca, .slice A' a.2.length da], .agg #[.slice B b.1.length cb, .slice B' b.2.length db], .agg #[.slice C c.1.length cc, .slice C' c.2.length dc], .pointer (some ⟨Z, 0, none⟩), .pointer (some ⟨ZB, 0, none⟩), .pointer (some ⟨ZC, 0, none⟩), .bool false, .pointer (some ⟨P, 0, none⟩), .pointer (some ⟨Q, 0, none⟩), x9, undef, undef, undef, undef, undef, undef, u16, u17, u18, u19, u20, u21, u22, u23, u24, u25, u26, u27, u28, u29, u30, u31, u32, u33, u34, u35, u36, u37, x38, .pointer (some ⟨Z, 0, none⟩), .slice A a.1.length ca, x41, .pointer (some ⟨ZB, 0, none⟩), .slice B b.1.length cb, x44, x45, .pointer (some ⟨Z, 1, none⟩), .slice A' a.2.length da, x48, .pointer (some ⟨ZB, 1, none⟩), .slice B' b.2.length db, x51, x52, x53, u54, u55, u56, u57, u58, u59, u60, u61, u62, u63, u64, u65, u66, u67, u68, u69, u70, u71, u72, u73, u74, u75, u76, u77, u78, u79, u80, u81, u82, u83, u84, u85, u86, u87, u88, u89, u90, u91, u92, u93, u94, u95, u96, u97, u98, u99, u100, u101, u102, u103, u104, u105, u106, u107, u108, u109, u110, u111, u112, u113, u114, u115, u116, u117, u118, u119, u120, u121, u122, u123, u124, u125, u126, u127, u128, u129, u130, u131, u132, u133, u134, u135, u136, u137, u138, u139, u140, u141, u142, u143, u144, u145, u146, u147, u148, u149, u150, u151, u152, u153, u154, u155, u156, u157, u158, u159, u160, u161, u162, u163, u164, u165, u166, u167, u168, u169, u170, u171, u172, u173, u174, u175, u176, u177, u178, u179, u180, u181, u182, u183, u184, u185, u186, u187, u188, u189, u190, u191, u192, u193, u194, u195, u196, u197, u198], defers := [] } W := by
              rintro _ _ x38 x41 x44 x45 x48 x51 x52 x53 x9 W rfl rfl h
              rw [← hG]
              refine wpAnyH_ready (rs := [3, 16]) (by kernel_rfl) (by simp) ?_
              refine (AllReadyH.cons rfl (fun K hK => ?_) (AllReadyH.cons rfl (fun K hK => ?_) AllReadyH.nil))
              · refine step_app wk _ rfl _ _ 36 rfl 3 i0 (.int .i64 0) 8 Tryz.underlying36 hi hz0 hz1 hz2 rfl x38 0 [] rfl h.bl (h.e1 rfl) A a.1.length ca (a.1.map encI) rfl (HA1.out _ h.bl) (ONE.out _) (by unfold maxLen; omega) (by omega) ?_
                intro v' w1 o k
                refine hK.out _ _ (HSc.out _ k.below) (fun hHeld => ?_)
                clear hK K
                try simp only [Act.put, List.getElem_toArray, List.getElem_cons_zero, List.getElem_cons_succ, List.setIfInBounds_toArray, List.set_cons_zero, List.set_cons_succ]
                rw [hG]
                exact st_210 _ _ _ _ _ _ _ _ _ _ _ _ rfl (by kernel_rfl) (h.i1 o k)
              · go_simp
                refine hK.out _ _ (HSc.out _ (below_al (Nat.le_refl _) _ h.bl)) (fun hHeld => ?_)
                clear hK K
                try simp only [List.setIfInBounds_toArray, List.set_cons_zero, List.set_cons_succ]
                rw [hG]
                exact st_111 _ _ _ _ _ _ _ _ _ _ _ _ rfl (by kernel_rfl) h.mk9
            have st_101 : ∀ (n : Nat) (L : Array Bool) (x38 x41 x44 x45 x48 x51 x52 x53 x9 : Value) (W : World), n = 8 → L = #[true, true, true, false, true, true, false, false, true, true, false, true, true, false, false, false, true, false] → St wk a b pab xs ys 1 false true x38 x41 x44 x45 x48 x51 x53 x9 W → G n L { tmps := #[.agg #[.slice A a.1.length ca, .slice A' a.2.length da], .agg #[.slice B b.1.length cb, .slice B' b.2.length db], .agg #[.slice C c.1.length cc, .slice C' c.2.length dc], .pointer (some ⟨Z, 0, none⟩), .pointer (some ⟨ZB, 0, none⟩), .pointer (some ⟨ZC, 0, none⟩), .bool false, .pointer (some ⟨P, 0, none⟩), .pointer (some ⟨Q, 0, none⟩), x9, undef, undef, undef, undef, undef, undef, u16, u17, u18, u19, u20, u21, u22, u23, u24, u25, u26, u27, u28, u29, u30, u31, u32, u33, u34, u35, u36, u37, x38, .pointer (some ⟨Z, 0, none⟩), .slice A a.1.length ca, x41, .pointer (some ⟨ZB, 0, none⟩), .slice B b.1.length cb, x44, x45, .pointer (some ⟨Z, 1, none⟩), .slice A' a.2.length da, x48, .pointer (some ⟨ZB, 1, none⟩), .slice B' b.2.length db, x51, x52, x53, u54, u55, u56, u57, u58, u59, u60, u61, u62, u63, u64, u65, u66, u67, u68, u69, u70, u71, u72, u73, u74, u75, u76, u77, u78, u79, u80, u81, u82, u83, u84, u85, u86, u87, u88, u89, u90, u91, u92, u93, u94, u95, u96, u97, u98, u99, u100, u101, u102, u103, u104, u105, u106, u107, u108, u109, u110, u111, u112, u113, u114, u115, u116, u117, u118, u119, u120, u121, u122, u123, u124, u125, u126, u127, u128, u129, u130, u131, u132, u133, u134, u135, u136, u137, u138, u139, u140, u141, u142, u143, u144, u145, u146, u147, u148, u149, u150, u151, u152, u153, u154, u155, u156, u157, u158, u159, u160, u161, u162, u163, u164, u165, u166, u167, u168, u169, u170, u171, u172, u173, u174, u175, u176, u177, u178, u179, u180, u181, u182, u183, u184, u185, u186, u187, u188, u189, u190, u191, u192, u193, u194, u195, u196, u197, u198], defers := [] } W := by
              rintro _ _ x38 x41 x44 x45 x48 x51 x52 x53 x9 W rfl rfl h
              rw [← hG]
              refine wpAnyH_ready (rs := [3, 7]) (by kernel_rfl) (by simp) ?_
              refine (AllReadyH.cons rfl (fun K hK => ?_) (AllReadyH.cons rfl (fun K hK => ?_) AllReadyH.nil))
              · refine step_app wk _ rfl _ _ 36 rfl 3 i0 (.int .i64 0) 8 Tryz.underlying36 hi hz0 hz1 hz2 rfl x38 0 [] rfl h.bl (h.e1 rfl) A a.1.length ca (a.1.map encI) rfl (HA1.out _ h.bl) (ONE.out _) (by unfold maxLen; omega) (by omega) ?_
                intro v' w1 o k
                refine hK.out _ _ (HSc.out _ k.below) (fun hHeld => ?_)
                clear hK K
                try simp only [Act.put, List.getElem_toArray, List.getElem_cons_zero, List.getElem_cons_succ, List.setIfInBounds_toArray, List.set_cons_zero, List.set_cons_succ]
                rw [hG]
                exact st_201 _ _ _ _ _ _ _ _ _ _ _ _ rfl (by kernel_rfl) (h.i1 o k)
              · go_simp
                refine hK.out _ _ (HSc.out _ (below_al (Nat.le_refl _) _ h.bl)) (fun hHeld => ?_)
                clear hK K
                try simp only [List.setIfInBounds_toArray, List.set_cons_zero, List.set_cons_succ]
                rw [hG]
                exact st_111 _ _ _ _ _ _ _ _ _ _ _ _ rfl (by kernel_rfl) h.b45
            have st_100 : ∀ (n : Nat) (L : Array Bool) (x38 x41 x44 x45 x48 x51 x52 x53 x9 : Value) (W : World), n = 9 → L = #[true, true, true, false, true, true, false, false, true, true, false, true, true, false, false, false, false, false] → St wk a b pab xs ys 1 false false x38 x41 x44 x45 x48 x51 x53 x9 W → G n L { tmps := #[.agg #[.slice A a.1.length ca, .slice A' a.2.length da], .agg #[.slice B b.1.length cb, .slice B' b.2.length db], .agg #[.slice C c.1.length cc, .slice C' c.2.length dc], .pointer (some ⟨Z, 0, none⟩), .pointer (some ⟨ZB, 0, none⟩), .pointer (some ⟨ZC, 0, none⟩), .bool false, .pointer (some ⟨P, 0, none⟩), .pointer (some ⟨Q, 0, none⟩), x9, undef, undef, undef, undef, undef, undef, u16, u17, u18, u19, u20, u21, u22, u23, u24, u25, u26, u27, u28, u29, u30, u31, u32, u33, u34, u35, u36, u37, x38, .pointer (some ⟨Z, 0, none⟩), .slice A a.1.length ca, x41, .pointer (some ⟨ZB, 0, none⟩), .slice B b.1.length cb, x44, x45, .pointer (some ⟨Z, 1, none⟩), .slice A' a.2.length da, x48, .pointer (some ⟨ZB, 1, none⟩), .slice B' b.2.length db, x51, x52, x53, u54, u55, u56, u57, u58, u59, u60, u61, u62, u63, u64, u65, u66, u67, u68, u69, u70, u71, u72, u73, u74, u75, u76, u77, u78, u79, u80, u81, u82, u83, u84, u85, u86, u87, u88, u89, u90, u91, u92, u93, u94, u95, u96, u97, u98, u99, u100, u101, u102, u103, u104, u105, u106, u107, u108, u109, u110, u111, u112, u113, u114, u115, u116, u117, u118, u119, u120, u121, u122, u123, u124, u125, u126, u127, u128, u129, u130, u131, u132, u133, u134, u135, u136, u137, u138, u139, u140, u141, u142, u143, u144, u145, u146, u147, u148, u149, u150, u151, u152, u153, u154, u155, u156, u157, u158, u159, u160, u161, u162, u163, u164, u165, u166, u167, u168, u169, u170, u171, u172, u173, u174, u175, u176, u177, u178, u179, u180, u181, u182, u183, u184, u185, u186, u187, u188, u189, u190, u191, u192, u193, u194, u195, u196, u197, u198], defers := [] } W := by
              rintro _ _ x38 x41 x44 x45 x48 x51 x52 x53 x9 W rfl rfl h
              rw [← hG]
              refine wpAnyH_ready (rs := [3, 7, 16]) (by kernel_rfl) (by simp) ?_
              refine (AllReadyH.cons rfl (fun K hK => ?_) (AllReadyH.cons rfl (fun K hK => ?_) (AllReadyH.cons rfl (fun K hK => ?_) AllReadyH.nil)))
              · refine step_app wk _ rfl _ _ 36 rfl 3 i0 (.int .i64 0) 8 Tryz.underlying36 hi hz0 hz1 hz2 rfl x38 0 [] rfl h.bl (h.e1 rfl) A a.1.length ca (a.1.map encI) rfl (HA1.out _ h.bl) (ONE.out _) (by unfold maxLen; omega) (by omega) ?_
                intro v' w1 o k
                refine hK.out _ _ (HSc.out _ k.below) (fun hHeld => ?_)
                clear hK K
                try simp only [Act.put, List.getElem_toArray, List.getElem_cons_zero, List.getElem_cons_succ, List.setIfInBounds_toArray, List.set_cons_zero, List.set_cons_succ]
                rw [hG]
                exact st_200 _ _ _ _ _ _ _ _ _ _ _ _ rfl (by kernel_rfl) (h.i1 o k)
              · go_simp
                refine hK.out _ _ (HSc.out _ (below_al (Nat.le_refl _) _ h.bl)) (fun hHeld => ?_)
                clear hK K
                try simp only [List.setIfInBounds_toArray, List.set_cons_zero, List.set_cons_succ]
                rw [hG]
                exact st_110 _ _ _ _ _ _ _ _ _ _ _ _ rfl (by kernel_rfl) h.b45
              · go_simp
                refine hK.out _ _ (HSc.out _ (below_al (Nat.le_refl _) _ h.bl)) (fun hHeld => ?_)
                clear hK K
                try simp only [List.setIfInBounds_toArray, List.set_cons_zero, List.set_cons_succ]
                rw [hG]
                exact st_101 _ _ _ _ _ _ _ _ _ _ _ _ rfl (by kernel_rfl) h.mk9
            have st_011 : ∀ (n : Nat) (L : Array Bool) (x38 x41 x44 x45 x48 x51 x52 x53 x9 : Value) (W : World), n = 8 → L = #[false, true, true, false, true, true, false, true, true, true, false, true, true, false, false, false, true, false] → St wk a b pab xs ys 0 true true x38 x41 x44 x45 x48 x51 x53 x9 W → G n L { tmps := #[.agg #[.slice A a.1.length ca, .slice A' a.2.length da], .agg #[.slice B b.1.length cb, .slice B' b.2.length db], .agg #[.slice C c.1.length cc, .slice C' c.2.length dc], .pointer (some ⟨Z, 0, none⟩), .pointer (some ⟨ZB, 0, none⟩), .pointer (some ⟨ZC, 0, none⟩), .bool false, .pointer (some ⟨P, 0, none⟩), .pointer (some ⟨Q, 0, none⟩), x9, undef, undef, undef, undef, undef, undef, u16, u17, u18, u19, u20, u21, u22, u23, u24, u25, u26, u27, u28, u29, u30, u31, u32, u33, u34, u35, u36, u37, x38, .pointer (some ⟨Z, 0, none⟩), .slice A a.1.length ca, x41, .pointer (some ⟨ZB, 0, none⟩), .slice B b.1.length cb, x44, x45, .pointer (some ⟨Z, 1, none⟩), .slice A' a.2.length da, x48, .pointer (some ⟨ZB, 1, none⟩), .slice B' b.2.length db, x51, x52, x53, u54, u55, u56, u57, u58, u59, u60, u61, u62, u63, u64, u65, u66, u67, u68, u69, u70, u71, u72, u73, u74, u75, u76, u77, u78, u79, u80, u81, u82, u83, u84, u85, u86, u87, u88, u89, u90, u91, u92, u93, u94, u95, u96, u97, u98, u99, u100, u101, u102, u103, u104, u105, u106, u107, u108, u109, u110, u111, u112, u113, u114, u115, u116, u117, u118, u119, u120, u121, u122, u123, u124, u125, u126, u127, u128, u129, u130, u131, u132, u133, u134, u135, u136, u137, u138, u139, u140, u141, u142, u143, u144, u145, u146, u147, u148, u149, u150, u151, u152, u153, u154, u155, u156, u157, u158, u159, u160, u161, u162, u163, u164, u165, u166, u167, u168, u169, u170, u171, u172, u173, u174, u175, u176, u177, u178, u179, u180, u181, u182, u183, u184, u185, u186, u187, u188, u189, u190, u191, u192, u193, u194, u195, u196, u197, u198], defers := [] } W := by
              rintro _ _ x38 x41 x44 x45 x48 x51 x52 x53 x9 W rfl rfl h
              rw [← hG]
              refine wpAnyH_ready (rs := [0]) (by kernel_rfl) (by simp) ?_
              refine (AllReadyH.cons rfl (fun K hK => ?_) AllReadyH.nil)
              · go_simp
                refine hK.out _ _ (HSc.out _ (below_al (Nat.le_refl _) _ h.bl)) (fun hHeld => ?_)
                clear hK K
                try simp only [List.setIfInBounds_toArray, List.set_cons_zero]
                rw [hG]
                exact st_111 _ _ _ _ _ _ _ _ _ _ _ _ rfl (by kernel_rfl) h.b38
            have st_010 : ∀ (n : Nat) (L : Array Bool) (x38 x41 x44 x45 x48 x51 x52 x53 x9 : Value) (W : World), n = 9 → L = #[false, true, true, false, true, true, false, true, true, true, false, true, true, false, false, false, false, false] → St wk a b pab xs ys 0 true false x38 x41 x44 x45 x48 x51 x53 x9 W → G n L { tmps := #[.agg #[.slice A a.1.length ca, .slice A' a.2.length da], .agg #[.slice B b.1.length cb, .slice B' b.2.length db], .agg #[.slice C c.1.length cc, .slice C' c.2.length dc], .pointer (some ⟨Z, 0, none⟩), .pointer (some ⟨ZB, 0, none⟩), .pointer (some ⟨ZC, 0, none⟩), .bool false, .pointer (some ⟨P, 0, none⟩), .pointer (some ⟨Q, 0, none⟩), x9, undef, undef, undef, undef, undef, undef, u16, u17, u18, u19, u20, u21, u22, u23, u24, u25, u26, u27, u28, u29, u30, u31, u32, u33, u34, u35, u36, u37, x38, .pointer (some ⟨Z, 0, none⟩), .slice A a.1.length ca, x41, .pointer (some ⟨ZB, 0, none⟩), .slice B b.1.length cb, x44, x45, .pointer (some ⟨Z, 1, none⟩), .slice A' a.2.length da, x48, .pointer (some ⟨ZB, 1, none⟩), .slice B' b.2.length db, x51, x52, x53, u54, u55, u56, u57, u58, u59, u60, u61, u62, u63, u64, u65, u66, u67, u68, u69, u70, u71, u72, u73, u74, u75, u76, u77, u78, u79, u80, u81, u82, u83, u84, u85, u86, u87, u88, u89, u90, u91, u92, u93, u94, u95, u96, u97, u98, u99, u100, u101, u102, u103, u104, u105, u106, u107, u108, u109, u110, u111, u112, u113, u114, u115, u116, u117, u118, u119, u120, u121, u122, u123, u124, u125, u126, u127, u128, u129, u130, u131, u132, u133, u134, u135, u136, u137, u138, u139, u140, u141, u142, u143, u144, u145, u146, u147, u148, u149, u150, u151, u152, u153, u154, u155, u156, u157, u158, u159, u160, u161, u162, u163, u164, u165, u166, u167, u168, u169, u170, u171, u172, u173, u174, u175, u176, u177, u178, u179, u180, u181, u182, u183, u184, u185, u186, u187, u188, u189, u190, u191, u192, u193, u194, u195, u196, u197, u198], defers := [] } W := by
              rintro _ _ x38 x41 x44 x45 x48 x51 x52 x53 x9 W rfl rfl h
              rw [← hG]
              refine wpAnyH_ready (rs := [0, 16]) (by kernel_rfl) (by simp) ?_
              refine (AllReadyH.cons rfl (fun K hK => ?_) (AllReadyH.cons rfl (fun K hK => ?_) AllReadyH.nil))
              · go_simp
                refine hK.out _ _ (HSc.out _ (below_al (Nat.le_refl _) _ h.bl)) (fun hHeld => ?_)
                clear hK K
                try simp only [List.setIfInBounds_toArray, List.set_cons_zero]
                rw [hG]
                exact st_110 _ _ _ _ _ _ _ _ _ _ _ _ rfl (by kernel_rfl) h.b38
              · go_simp
                refine hK.out _ _ (HSc.out _ (below_al (Nat.le_refl _) _ h.bl)) (fun hHeld => ?_)
                clear hK K
                try simp only [List.setIfInBounds_toArray, List.set_cons_zero, List.set_cons_succ]
                rw [hG]
                exact st_011 _ _ _ _ _ _ _ _ _ _ _ _ rfl (by kernel_rfl) h.mk9
            have st_001 : ∀ (n : Nat) (L : Array Bool) (x38 x41 x44 x45 x48 x51 x52 x53 x9 : Value) (W : World), n = 9 → L = #[false, true, true, false, true, true, false, false, true, true, false, true, true, false, false, false, true, false] → St wk a b pab xs ys 0 false true x38 x41 x44 x45 x48 x51 x53 x9 W → G n L { tmps := #[.agg #[.slice A a.1.length ca, .slice A' a.2.length da], .agg #[.slice B b.1.length cb, .slice B' b.2.length db], .agg #[.slice C c.1.length cc, .slice C' c.2.length dc], .pointer (some ⟨Z, 0, none⟩), .pointer (some ⟨ZB, 0, none⟩), .pointer (some ⟨ZC, 0, none⟩), .bool false, .pointer (some ⟨P, 0, none⟩), .pointer (some ⟨Q, 0, none⟩), x9, undef, undef, undef, undef, undef, undef, u16, u17, u18, u19, u20, u21, u22, u23, u24, u25, u26, u27, u28, u29, u30, u31, u32, u33, u34, u35, u36, u37, x38, .pointer (some ⟨Z, 0, none⟩), .slice A a.1.length ca, x41, .pointer (some ⟨ZB, 0, none⟩), .slice B b.1.length cb, x44, x45, .pointer (some ⟨Z, 1, none⟩), .slice A' a.2.length da, x48, .pointer (some ⟨ZB, 1, none⟩), .slice B' b.2.length db, x51, x52, x53, u54, u55, u56, u57, u58, u59, u60, u61, u62, u63, u64, u65, u66, u67, u68, u69, u70, u71, u72, u73, u74, u75, u76, u77, u78, u79, u80, u81, u82, u83, u84, u85, u86, u87, u88, u89, u90, u91, u92, u93, u94, u95, u96, u97, u98, u99, u100, u101, u102, u103, u104, u105, u106, u107, u108, u109, u110, u111, u112, u113, u114, u115, u116, u117, u118, u119, u120, u121, u122, u123, u124, u125, u126, u127, u128, u129, u130, u131, u132, u133, u134, u135, u136, u137, u138, u139, u140, u141, u142, u143, u144, u145, u146, u147, u148, u149, u150, u151, u152, u153, u154, u155, u156, u157, u158, u159, u160, u161, u162, u163, u164, u165, u166, u167, u168, u169, u170, u171, u172, u173, u174, u175, u176, u177, u178, u179, u180, u181, u182, u183, u184, u185, u186, u187, u188, u189, u190, u191, u192, u193, u194, u195, u196, u197, u198], defers := [] } W := by
              rintro _ _ x38 x41 x44 x45 x48 x51 x52 x53 x9 W rfl rfl h
              rw [← hG]
              refine wpAnyH_ready (rs := [0, 7]) (by kernel_rfl) (by simp) ?_
              refine (AllReadyH.cons rfl (fun K hK => ?_) (AllReadyH.cons rfl (fun K hK => ?_) AllReadyH.nil))
              · go_simp
                refine hK.out _ _ (HSc.out _ (below_al (Nat.le_refl _) _ h.bl)) (fun hHeld => ?_)
                clear hK K
                try simp only [List.setIfInBounds_toArray, List.set_cons_zero]
                rw [hG]
                exact st_101 _ _ _ _ _ _ _ _ _ _ _ _ rfl (by kernel_rfl) h.b38
              · go_simp
                refine hK.out _ _ (HSc.out _ (below_al (Nat.le_refl _) _ h.bl)) (fun hHeld => ?_)
                clear hK K
                try simp only [List.setIfInBounds_toArray, List.set_cons_zero, List.set_cons_succ]
                rw [hG]
                exact st_011 _ _ _ _ _ _ _ _ _ _ _ _ rfl (by kernel_rfl) h.b45
            have st_000 : ∀ (n : Nat) (L : Array Bool) (x38 x41 x44 x45 x48 x51 x52 x53 x9 : Value) (W : World), n = 10 → L = #[false, true, true, false, true, true, false, false, true, true, false, true, true, false, false, false, false, false] → St wk a b pab xs ys 0 false false x38 x41 x44 x45 x48 x51 x53 x9 W → G n L { tmps := #[.agg #[.slice A a.1.length ca, .slice A' a.2.length da], .agg #[.slice B b.1.length cb, .slice B' b.2.length db], .agg #[.slice C c.1.length cc, .slice C' c.2.length dc], .pointer (some ⟨Z, 0, none⟩), .pointer (some ⟨ZB, 0, none⟩), .pointer (some ⟨ZC, 0, none⟩), .bool false, .pointer (some ⟨P, 0, none⟩), .pointer (some ⟨Q, 0, none⟩), x9, undef, undef, undef, undef, undef, undef, u16, u17, u18, u19, u20, u21, u22, u23, u24, u25, u26, u27, u28, u29, u30, u31, u32, u33, u34, u35, u36, u37, x38, .pointer (some ⟨Z, 0, none⟩), .slice A a.1.length ca, x41, .pointer (some ⟨ZB, 0, none⟩), .slice B b.1.length cb, x44, x45, .pointer (some ⟨Z, 1, none⟩), .slice A' a.2.length da, x48, .pointer (some ⟨ZB, 1, none⟩), .slice B' b.2.length db, x51, x52, x53, u54, u55, u56, u57, u58, u59, u60, u61, u62, u63, u64, u65, u66, u67, u68, u69, u70, u71, u72, u73, u74, u75, u76, u77, u78, u79, u80, u81, u82, u83, u84, u85, u86, u87, u88, u89, u90, u91, u92, u93, u94, u95, u96, u97, u98, u99, u100, u101, u102, u103, u104, u105, u106, u107, u108, u109, u110, u111, u112, u113, u114, u115, u116, u117, u118, u119, u120, u121, u122, u123, u124, u125, u126, u127, u128, u129, u130, u131, u132, u133, u134, u135, u136, u137, u138, u139, u140, u141, u142, u143, u144, u145, u146, u147, u148, u149, u150, u151, u152, u153, u154, u155, u156, u157, u158, u159, u160, u161, u162, u163, u164, u165, u166, u167, u168, u169, u170, u171, u172, u173, u174, u175, u176, u177, u178, u179, u180, u181, u182, u183, u184, u185, u186, u187, u188, u189, u190, u191, u192, u193, u194, u195, u196, u197, u198], defers := [] } W := by
              rintro _ _ x38 x41 x44 x45 x48 x51 x52 x53 x9 W rfl rfl h
              rw [← hG]
              refine wpAnyH_ready (rs := [0, 7, 16]) (by kernel_rfl) (by simp) ?_
              refine (AllReadyH.cons rfl (fun K hK => ?_) (AllReadyH.cons rfl (fun K hK => ?_) (AllReadyH.cons rfl (fun K hK => ?_) AllReadyH.nil)))
              · go_simp
                refine hK.out _ _ (HSc.out _ (below_al (Nat.le_refl _) _ h.bl)) (fun hHeld => ?_)
                clear hK K
                try simp only [List.setIfInBounds_toArray, List.set_cons_zero]
                rw [hG]
                exact st_100 _ _ _ _ _ _ _ _ _ _ _ _ rfl (by kernel_rfl) h.b38
              · go_simp
                refine hK.out _ _ (HSc.out _ (below_al (Nat.le_refl _) _ h.bl)) (fun hHeld => ?_)
                clear hK K
                try simp only [List.setIfInBounds_toArray, List.set_cons_zero, List.set_cons_succ]
                rw [hG]
                exact st_010 _ _ _ _ _ _ _ _ _ _ _ _ rfl (by kernel_rfl) h.b45
              · go_simp
                refine hK.out _ _ (HSc.out _ (below_al (Nat.le_refl _) _ h.bl)) (fun hHeld => ?_)
                clear hK K
                try simp only [List.setIfInBounds_toArray, List.set_cons_zero, List.set_cons_succ]
                rw [hG]
                exact st_001 _ _ _ _ _ _ _ _ _ _ _ _ rfl (by kernel_rfl) h.mk9
            exact st_000 _ _ _ _ _ _ _ _ _ _ _ _ rfl (by kernel_rfl) (St.start HXS.out HYS.out ((Below.refl _ wk).drew))
          case rest =>
            obtain ⟨S9, A5, c5, A6, c6, rfl, bS, rs, rd⟩ := hcut
            obtain ⟨wd, hwd⟩ : ∃ x, x = wc := ⟨_, rfl⟩
            subst hwd
            have hBd := hBc.trans (rd.mono hzc)
            have hzd : Z ≤ wd.heap.size := Nat.le_trans hzc rd.size
            replace bP := bP.later rd
            replace bQ := bQ.later rd
            replace ra := ra.later rd
            replace rb := rb.later rd
            replace xa := xa.later rd
            replace xb := xb.later rd
            replace xc := xc.later rd
            clear S0c HSc HA1 HA2 HB1 HB2 l0 l1 HCN b0 b1 b2 rc HRc HXS HYS hB4 hzr hBc hzc rd
            generalize hca : can a = cA at *
            generalize hcb : can b = cB at *
            have HCA := Lib.hid hca
            have HCB := Lib.hid hcb
            have n1 : cA.1.length ≤ 300 := by rw [← hca]; exact SA.out.can.n1
            have n2 : cA.2.length ≤ 300 := by rw [← hca]; exact SA.out.can.n2
            have n3 : cB.1.length ≤ 300 := by rw [← hcb]; exact SB.out.can.n1
            have n4 : cB.2.length ≤ 300 := by rw [← hcb]; exact SB.out.can.n2
            obtain ⟨R, hR⟩ : ∃ R, wd.heap.size = R := ⟨_, rfl⟩
            have bR := Box2.new wd 47 (.slice none 0 0) (.slice none 0 0)
            rw [hR] at bR
            have hRd : wd.heap.size ≤ R := by omega
            clear hca hcb
            go_wp2_with fail
            try rw [hR]
            have HR := Lib.hid hR
            clear hR
            go_loopw [11] (RestR1 wd R cA.1.length cA.1 cB.1) (fun i _ => cA.1.length - (intOf i).toNat)
            case atStart => exact ⟨0, _, [], by omega, rfl, by simp, bR, World.ownsRow_nil _ _ _ _, al_self wd _⟩
            case round =>
              obtain ⟨k, v, ts, hk, rfl, hts, bRr, hown, hbr⟩ := hrel
              have htl : ts.length ≤ k := by rw [hts]; exact filter_take_len _ _ _
              have HTS := Lib.hid hts
              have p0 := (bP.later hbr).c0
              clear hts bR
              by_cases hlt : k < cA.1.length
              · obtain ⟨bx, ox, x, rfl, hbx, hx, cx⟩ := ra.1.int hlt
                have cxr := (hbr.cell (p := ⟨bx, ox + k, none⟩) hbx).trans cx
                have hst := filter_take_succ (fun x => !decide (x ∈ cB.1)) cA.1 k x hx
                have hHS : ∀ W, Below wd.heap.size wd W → Calls Tryz.prog 21 #[.slice A3 cB.1.length c3, .int .i64 x] W fun e w' => e = .returned (.bool (decide (x ∈ cB.1))) ∧ W = w' := fun W hb => has_any A3 cB.1.length c3 cB.1 x W (by omega) (rb.1.later hb)
                have hlt' : (k : Int) < (cA.1.length : Int) := by omega
                have S30 := Lib.hid (show wr.cell? ⟨Q, 0, none⟩ = some (.slice A3 cB.1.length c3) ∧ wr.cell? ⟨P, 0, none⟩ = some (.slice (some ⟨bx, ox, none⟩) cA.1.length c1) ∧ wr.cell? ⟨bx, ox + k, none⟩ = some (.int .i64 x) from ⟨(bQ.later hbr).c0, p0, cxr⟩)
                have HSX := Lib.hid (fun (W : World) (hb : Below wd.heap.size wd W) => show W.cell? ⟨P, 0, none⟩ = some (.slice (some ⟨bx, ox, none⟩) cA.1.length c1) ∧ W.cell? ⟨bx, ox + k, none⟩ = some (.int .i64 x) from ⟨(bP.later hb).c0, (hb.cell (p := ⟨bx, ox + k, none⟩) hbx).trans cx⟩)
                cases hin : decide (x ∈ cB.1) with
                | true =>
                  rw [hin] at hHS
                  have HHS := Lib.hid hHS
                  rw [if_neg (by rw [hin]; simp), ← HTS.out, List.append_nil] at hst
                  have HST := Lib.hid hst
                  clear hst hHS hx cx hin
                  go_wp2_with fail
                  go_region_held3 (fun W => W.cell? ⟨Q, 0, none⟩ = some (.slice A3 cB.1.length c3) ∧ W.cell? ⟨P, 0, none⟩ = some (.slice (some ⟨bx, ox, none⟩) cA.1.length c1) ∧ W.cell? ⟨bx, ox + k, none⟩ = some (.int .i64 x)) (first | with_reducible exact S30.out | exact S30.out) (first
                    | (go_at_call 21; (with_reducible refine (HHS.out _ hbr.drew).mono ?_); rintro e w6 ⟨rfl, rfl⟩))
                  go_wp2_with fail
                  go_roundw
                  case rel => exact ⟨k + 1, v, ts, by omega, by go_num, HST.out.symm, bRr, own_dr hown, hbr.drew⟩
                  case measure => simp [intOf]; omega
                | false =>
                  rw [hin] at hHS
                  have HHS := Lib.hid hHS
                  rw [if_pos (by rw [hin]; rfl), ← HTS.out] at hst
                  have HST := Lib.hid hst
                  clear hst hHS hx cx hin
                  go_wp2_with fail
                  go_region_held3 (fun W => W.cell? ⟨Q, 0, none⟩ = some (.slice A3 cB.1.length c3) ∧ W.cell? ⟨P, 0, none⟩ = some (.slice (some ⟨bx, ox, none⟩) cA.1.length c1) ∧ W.cell? ⟨bx, ox + k, none⟩ = some (.int .i64 x)) (first | with_reducible exact S30.out | exact S30.out) (first
                    | (go_at_call 21; (with_reducible refine (HHS.out _ hbr.drew).mono ?_); rintro e w6 ⟨rfl, rfl⟩))
                  go_wp2_with fail
                  refine wp_region_held_drew (S := fun W => W.cell? ⟨P, 0, none⟩ = some (.slice (some ⟨bx, ox, none⟩) cA.1.length c1) ∧ W.cell? ⟨bx, ox + k, none⟩ = some (.int .i64 x)) (by kernel_rfl) (HSX.out _ hbr.drew.drew) (fun hHeld => ?_)
                  have by0 : Box2 wr.drew.drew R 47 v (.slice none 0 0) := bRr
                  have oy0 := own_dr (own_dr hown)
                  have hby := hbr.drew.drew
                  generalize wr.drew.drew = wy at *
                  have y0 := by0.c0
                  have bz := by0.alloc (.cells #[.int .i64 x] 3)
                  have z0 := bz.c0
                  have owz := own_al (.cells #[.int .i64 x] 3) oy0
                  have hbz := below_al (Nat.le_refl _) (.cells #[.int .i64 x] 3) hby
                  clear S30 bRr hown hbr HHS p0 cxr
                  refine wpAnyH_take (i := 0) (v := ?_) rfl (by kernel_rfl) (by kernel_rfl) (by kernel_rfl) (fun _ _ _ h => h) (Or.inl ⟨by rfl, ?_⟩) (by assumption) ?_
                  rotate_left
                  · intro wS hSw
                    obtain ⟨g0, g1⟩ := hSw
                    go_simp
                    try with_reducible rfl
                  try simp only [Act.put, List.getElem_toArray, List.getElem_cons_zero, List.setIfInBounds_toArray, List.set_cons_zero, List.set_cons_succ]
                  refine wpAnyH_take (i := 2) (v := ?_) rfl (by kernel_rfl) (by kernel_rfl) (by kernel_rfl) (fun _ _ _ h => h) (Or.inl ⟨by rfl, ?_⟩) (by assumption) ?_
                  rotate_left
                  · intro wS hSw
                    obtain ⟨g0, g1⟩ := hSw
                    go_simp
                    try with_reducible rfl
                  try simp only [Act.put, List.getElem_toArray, List.getElem_cons_zero, List.getElem_cons_succ, List.setIfInBounds_toArray, List.set_cons_zero, List.set_cons_succ]
                  refine wpAnyH_take (i := 3) (v := ?_) rfl (by kernel_rfl) (by kernel_rfl) (by kernel_rfl) (fun _ _ _ h => h) (Or.inl ⟨by rfl, ?_⟩) (by assumption) ?_
                  rotate_left
                  · intro wS hSw
                    obtain ⟨g0, g1⟩ := hSw
                    go_simp
                    try with_reducible rfl
                  try simp only [Act.put, List.getElem_toArray, List.getElem_cons_zero, List.getElem_cons_succ, List.setIfInBounds_toArray, List.set_cons_zero, List.set_cons_succ]
                  refine wpAnyH_take (i := 4) (v := ?_) rfl (by kernel_rfl) (by kernel_rfl) (by kernel_rfl) (fun _ _ _ h => h) (Or.inl ⟨by rfl, ?_⟩) (by assumption) ?_
                  rotate_left
                  · intro wS hSw
                    obtain ⟨g0, g1⟩ := hSw
                    go_simp
                    try with_reducible rfl
                  try simp only [Act.put, List.getElem_toArray, List.getElem_cons_zero, List.getElem_cons_succ, List.setIfInBounds_toArray, List.set_cons_zero, List.set_cons_succ]
                  refine wpAnyH_take (i := 5) (v := ?_) rfl (by kernel_rfl) (by kernel_rfl) (by kernel_rfl) (fun _ _ _ h => h) (Or.inl ⟨by rfl, ?_⟩) (by assumption) ?_
                  rotate_left
                  · intro wS hSw
                    obtain ⟨g0, g1⟩ := hSw
                    go_simp
                    try with_reducible rfl
                  try simp only [Act.put, List.getElem_toArray, List.getElem_cons_zero, List.getElem_cons_succ, List.setIfInBounds_toArray, List.set_cons_zero, List.set_cons_succ]
                  refine wpAnyH_take (i := 6) (v := ?_) rfl (by kernel_rfl) (by kernel_rfl) (by kernel_rfl) (fun _ _ _ h => h) (Or.inl ⟨by rfl, ?_⟩) (by assumption) ?_
                  rotate_left
                  · intro wS hSw
                    obtain ⟨g0, g1⟩ := hSw
                    go_simp
                    try with_reducible rfl
                  try simp only [Act.put, List.getElem_toArray, List.getElem_cons_zero, List.getElem_cons_succ, List.setIfInBounds_toArray, List.set_cons_zero, List.set_cons_succ]
                  refine wpAnyH_ready (rs := [1, 7]) (by kernel_rfl) (by simp) ?_
                  refine (AllReadyH.cons rfl (fun K hK => ?_) (AllReadyH.cons rfl (fun K hK => ?_) AllReadyH.nil))
                  · go_simp
                    refine hK.out _ _ (HSX.out _ hby) (fun hHeld => ?_)
                    clear hK K
                    try simp only [Act.put, List.getElem_toArray, List.getElem_cons_zero, List.getElem_cons_succ, List.setIfInBounds_toArray, List.set_cons_zero, List.set_cons_succ]
                    refine wpAnyH_ready (rs := [7]) (by kernel_rfl) (by simp) ?_
                    refine AllReadyH.cons rfl (fun K hK => ?_) AllReadyH.nil
                    go_simp
                    refine hK.out _ _ (HSX.out _ hbz) (fun hHeld => ?_)
                    clear hK K
                    try simp only [Act.put, List.getElem_toArray, List.getElem_cons_zero, List.getElem_cons_succ, List.setIfInBounds_toArray, List.set_cons_zero, List.set_cons_succ]
                    refine wpAnyH_ready (rs := [8]) (by kernel_rfl) (by simp) ?_
                    refine AllReadyH.cons rfl (fun K hK => ?_) AllReadyH.nil
                    refine step_app wd _ rfl _ _ 36 rfl 3 i0 (.int .i64 0) 8 Tryz.underlying36 hi hz0 hz1 hz2 rfl v ts.length (ts.map encI) rfl hbz owz (some ⟨wy.heap.size, 0, none⟩) 1 1 [.int .i64 x] rfl (row_one rfl) (fun u hu => by rw [List.mem_singleton] at hu; subst hu; rfl) (by unfold maxLen; omega) (by omega) ?_
                    intro v' w1 o1 k1
                    obtain ⟨A8, c8, hv8, _⟩ := own_form o1
                    subst hv8
                    refine hK.out _ _ (HSX.out _ k1.below) (fun hHeld => ?_)
                    clear hK K
                    try simp only [Act.put, List.getElem_toArray, List.getElem_cons_zero, List.getElem_cons_succ, List.setIfInBounds_toArray, List.set_cons_zero, List.set_cons_succ]
                    have bR1 := k1.box _ _ _ _ (by decide) bz
                    have f0 := bR1.f0
                    have f1 := bR1.f1
                    have f2 := bR1.c0
                    have f3 := bR1.c1
                    have fl := bR1.lt
                    refine wpAnyH_take (i := 9) (v := ?_) rfl (by kernel_rfl) (by kernel_rfl) (by kernel_rfl) (fun _ _ _ h => h) (Or.inl ⟨by rfl, ?_⟩) (by assumption) ?_
                    rotate_left
                    · intro wS hSw
                      obtain ⟨g0, g1⟩ := hSw
                      go_simp
                      try with_reducible rfl
                    try simp only [Act.put, List.getElem_toArray, List.getElem_cons_zero, List.getElem_cons_succ, List.setIfInBounds_toArray, List.set_cons_zero, List.set_cons_succ]
                    refine wpAnyH_ready (rs := [10]) (by kernel_rfl) (by simp) ?_
                    refine AllReadyH.cons rfl (fun K hK => ?_) AllReadyH.nil
                    go_simp
                    refine hK.out _ _ (HSX.out _ (below_set _ hRd k1.below)) (fun hHeld => ?_)
                    clear hK K
                    try simp only [Act.put, List.getElem_toArray, List.getElem_cons_zero, List.getElem_cons_succ, List.setIfInBounds_toArray, List.set_cons_zero, List.set_cons_succ]
                    refine wpAnyH_done (by kernel_rfl) ?_ _
                    go_wp2_with fail
                    go_roundw
                    case rel => exact ⟨k + 1, _, ts ++ [x], by omega, by go_num, HST.out.symm, bR1.set0 _, by rw [List.map_append, List.length_append]; exact own_set o1 bR1 (by decide) _, below_set _ hRd k1.below⟩
                    case measure => simp [intOf]; omega
                  · go_simp
                    refine hK.out _ _ (HSX.out _ hbz) (fun hHeld => ?_)
                    clear hK K
                    try simp only [Act.put, List.getElem_toArray, List.getElem_cons_zero, List.getElem_cons_succ, List.setIfInBounds_toArray, List.set_cons_zero, List.set_cons_succ]
                    refine wpAnyH_ready (rs := [1]) (by kernel_rfl) (by simp) ?_
                    refine AllReadyH.cons rfl (fun K hK => ?_) AllReadyH.nil
                    go_simp
                    refine hK.out _ _ (HSX.out _ hbz) (fun hHeld => ?_)
                    clear hK K
                    try simp only [Act.put, List.getElem_toArray, List.getElem_cons_zero, List.getElem_cons_succ, List.setIfInBounds_toArray, List.set_cons_zero, List.set_cons_succ]
                    refine wpAnyH_ready (rs := [8]) (by kernel_rfl) (by simp) ?_
                    refine AllReadyH.cons rfl (fun K hK => ?_) AllReadyH.nil
                    refine step_app wd _ rfl _ _ 36 rfl 3 i0 (.int .i64 0) 8 Tryz.underlying36 hi hz0 hz1 hz2 rfl v ts.length (ts.map encI) rfl hbz owz (some ⟨wy.heap.size, 0, none⟩) 1 1 [.int .i64 x] rfl (row_one rfl) (fun u hu => by rw [List.mem_singleton] at hu; subst hu; rfl) (by unfold maxLen; omega) (by omega) ?_
                    intro v' w1 o1 k1
                    obtain ⟨A8, c8, hv8, _⟩ := own_form o1
                    subst hv8
                    refine hK.out _ _ (HSX.out _ k1.below) (fun hHeld => ?_)
                    clear hK K
                    try simp only [Act.put, List.getElem_toArray, List.getElem_cons_zero, List.getElem_cons_succ, List.setIfInBounds_toArray, List.set_cons_zero, List.set_cons_succ]
                    have bR1 := k1.box _ _ _ _ (by decide) bz
                    have f0 := bR1.f0
                    have f1 := bR1.f1
                    have f2 := bR1.c0
                    have f3 := bR1.c1
                    have fl := bR1.lt
                    refine wpAnyH_take (i := 9) (v := ?_) rfl (by kernel_rfl) (by kernel_rfl) (by kernel_rfl) (fun _ _ _ h => h) (Or.inl ⟨by rfl, ?_⟩) (by assumption) ?_
                    rotate_left
                    · intro wS hSw
                      obtain ⟨g0, g1⟩ := hSw
                      go_simp
                      try with_reducible rfl
                    try simp only [Act.put, List.getElem_toArray, List.getElem_cons_zero, List.getElem_cons_succ, List.setIfInBounds_toArray, List.set_cons_zero, List.set_cons_succ]
                    refine wpAnyH_ready (rs := [10]) (by kernel_rfl) (by simp) ?_
                    refine AllReadyH.cons rfl (fun K hK => ?_) AllReadyH.nil
                    go_simp
                    refine hK.out _ _ (HSX.out _ (below_set _ hRd k1.below)) (fun hHeld => ?_)
                    clear hK K
                    try simp only [Act.put, List.getElem_toArray, List.getElem_cons_zero, List.getElem_cons_succ, List.setIfInBounds_toArray, List.set_cons_zero, List.set_cons_succ]
                    refine wpAnyH_done (by kernel_rfl) ?_ _
                    go_wp2_with fail
                    go_roundw
                    case rel => exact ⟨k + 1, _, ts ++ [x], by omega, by go_num, HST.out.symm, bR1.set0 _, by rw [List.map_append, List.length_append]; exact own_set o1 bR1 (by decide) _, below_set _ hRd k1.below⟩
                    case measure => simp [intOf]; omega
              · obtain rfl : k = cA.1.length := by omega
                have hte : ts = cA.1.filter (fun x => !decide (x ∈ cB.1)) := by rw [HTS.out, List.take_length]
                obtain ⟨r1, hr1⟩ : ∃ r, cA.1.filter (fun x => !decide (x ∈ cB.1)) = r := ⟨_, rfl⟩
                obtain rfl : ts = r1 := hte.trans hr1
                have HR1 := Lib.hid hr1
                clear hte hr1 HTS
                have q0 := (bP.later hbr).c1
                go_wp2_with fail
                go_loopw [12] (RestR2 wd R cA.2.length v ts cA.2 cB.2) (fun i _ => cA.2.length - (intOf i).toNat)
                case atStart => exact ⟨0, _, [], by omega, rfl, by simp, bRr, hown, World.ownsRow_nil _ _ _ _, hbr⟩
                case round =>
                  clear bRr hown hbr p0 q0
                  obtain ⟨k, v2, t2, hk, rfl, hts, bRr, hown, hown2, hbr⟩ := hrel
                  have htl2 : t2.length ≤ k := by rw [hts]; exact filter_take_len _ _ _
                  have HTS := Lib.hid hts
                  have p0 := (bP.later hbr).c1
                  clear hts
                  by_cases hlt : k < cA.2.length
                  · obtain ⟨bx, ox, x, rfl, hbx, hx, cx⟩ := ra.2.str hlt
                    have cxr := (hbr.cell (p := ⟨bx, ox + k, none⟩) hbx).trans cx
                    have hst := filter_take_succ (fun x => !decide (x ∈ cB.2)) cA.2 k x.data.toList hx
                    have hHS : ∀ W, Below wd.heap.size wd W → Calls Tryz.prog 25 #[.slice A4 cB.2.length c4, .string x] W fun e w' => e = .returned (.bool (decide (x.data.toList ∈ cB.2))) ∧ W = w' := fun W hb => listed_any A4 cB.2.length c4 cB.2 x W (by omega) (rb.2.later hb)
                    have hlt' : (k : Int) < (cA.2.length : Int) := by omega
                    have S30 := Lib.hid (show wr.cell? ⟨Q, 1, none⟩ = some (.slice A4 cB.2.length c4) ∧ wr.cell? ⟨P, 1, none⟩ = some (.slice (some ⟨bx, ox, none⟩) cA.2.length c2) ∧ wr.cell? ⟨bx, ox + k, none⟩ = some (.string x) from ⟨(bQ.later hbr).c1, p0, cxr⟩)
                    have HSX := Lib.hid (fun (W : World) (hb : Below wd.heap.size wd W) => show W.cell? ⟨P, 1, none⟩ = some (.slice (some ⟨bx, ox, none⟩) cA.2.length c2) ∧ W.cell? ⟨bx, ox + k, none⟩ = some (.string x) from ⟨(bP.later hb).c1, (hb.cell (p := ⟨bx, ox + k, none⟩) hbx).trans cx⟩)
                    cases hin : decide (x.data.toList ∈ cB.2) with
                    | true =>
                      rw [hin] at hHS
                      have HHS := Lib.hid hHS
                      rw [if_neg (by rw [hin]; simp), ← HTS.out, List.append_nil] at hst
                      have HST := Lib.hid hst
                      clear hst hHS hx cx hin
                      go_wp2_with fail
                      go_region_held3 (fun W => W.cell? ⟨Q, 1, none⟩ = some (.slice A4 cB.2.length c4) ∧ W.cell? ⟨P, 1, none⟩ = some (.slice (some ⟨bx, ox, none⟩) cA.2.length c2) ∧ W.cell? ⟨bx, ox + k, none⟩ = some (.string x)) (first | with_reducible exact S30.out | exact S30.out) (first
                        | (go_at_call 25; (with_reducible refine (HHS.out _ hbr.drew).mono ?_); rintro e w6 ⟨rfl, rfl⟩))
                      go_wp2_with fail
                      go_roundw
                      case rel => exact ⟨k + 1, v2, t2, by omega, by go_num, HST.out.symm, bRr, own_dr hown, own_dr hown2, hbr.drew⟩
                      case measure => simp [intOf]; omega
                    | false =>
                      rw [hin] at hHS
                      have HHS := Lib.hid hHS
                      rw [if_pos (by rw [hin]; rfl), ← HTS.out] at hst
                      have HST := Lib.hid hst
                      clear hst hHS hx cx hin
                      go_wp2_with fail
                      go_region_held3 (fun W => W.cell? ⟨Q, 1, none⟩ = some (.slice A4 cB.2.length c4) ∧ W.cell? ⟨P, 1, none⟩ = some (.slice (some ⟨bx, ox, none⟩) cA.2.length c2) ∧ W.cell? ⟨bx, ox + k, none⟩ = some (.string x)) (first | with_reducible exact S30.out | exact S30.out) (first
                        | (go_at_call 25; (with_reducible refine (HHS.out _ hbr.drew).mono ?_); rintro e w6 ⟨rfl, rfl⟩))
                      go_wp2_with fail
                      refine wp_region_held_drew (S := fun W => W.cell? ⟨P, 1, none⟩ = some (.slice (some ⟨bx, ox, none⟩) cA.2.length c2) ∧ W.cell? ⟨bx, ox + k, none⟩ = some (.string x)) (by kernel_rfl) (HSX.out _ hbr.drew.drew) (fun hHeld => ?_)
                      have by0 : Box2 wr.drew.drew R 47 v v2 := bRr
                      have oy0 := own_dr (own_dr hown2)
                      have oi0 := own_dr (own_dr hown)
                      have hby := hbr.drew.drew
                      generalize wr.drew.drew = wy at *
                      have y0 := by0.c1
                      have bz := by0.alloc (.cells #[.string x] 53)
                      have z0 := bz.c1
                      have owz := own_al (.cells #[.string x] 53) oy0
                      have oiz := own_al (.cells #[.string x] 53) oi0
                      have hbz := below_al (Nat.le_refl _) (.cells #[.string x] 53) hby
                      clear S30 bRr hown hown2 hbr HHS p0 cxr
                      refine wpAnyH_take (i := 0) (v := ?_) rfl (by kernel_rfl) (by kernel_rfl) (by kernel_rfl) (fun _ _ _ h => h) (Or.inl ⟨by rfl, ?_⟩) (by assumption) ?_
                      rotate_left
                      · intro wS hSw
                        obtain ⟨g0, g1⟩ := hSw
                        go_simp
                        try with_reducible rfl
                      try simp only [Act.put, List.getElem_toArray, List.getElem_cons_zero, List.setIfInBounds_toArray, List.set_cons_zero, List.set_cons_succ]
                      refine wpAnyH_take (i := 2) (v := ?_) rfl (by kernel_rfl) (by kernel_rfl) (by kernel_rfl) (fun _ _ _ h => h) (Or.inl ⟨by rfl, ?_⟩) (by assumption) ?_
                      rotate_left
                      · intro wS hSw
                        obtain ⟨g0, g1⟩ := hSw
                        go_simp
                        try with_reducible rfl
                      try simp only [Act.put, List.getElem_toArray, List.getElem_cons_zero, List.getElem_cons_succ, List.setIfInBounds_toArray, List.set_cons_zero, List.set_cons_succ]
                      refine wpAnyH_take (i := 3) (v := ?_) rfl (by kernel_rfl) (by kernel_rfl) (by kernel_rfl) (fun _ _ _ h => h) (Or.inl ⟨by rfl, ?_⟩) (by assumption) ?_
                      rotate_left
                      · intro wS hSw
                        obtain ⟨g0, g1⟩ := hSw
                        go_simp
                        try with_reducible rfl
                      try simp only [Act.put, List.getElem_toArray, List.getElem_cons_zero, List.getElem_cons_succ, List.setIfInBounds_toArray, List.set_cons_zero, List.set_cons_succ]
                      refine wpAnyH_take (i := 4) (v := ?_) rfl (by kernel_rfl) (by kernel_rfl) (by kernel_rfl) (fun _ _ _ h => h) (Or.inl ⟨by rfl, ?_⟩) (by assumption) ?_
                      rotate_left
                      · intro wS hSw
                        obtain ⟨g0, g1⟩ := hSw
                        go_simp
                        try with_reducible rfl
                      try simp only [Act.put, List.getElem_toArray, List.getElem_cons_zero, List.getElem_cons_succ, List.setIfInBounds_toArray, List.set_cons_zero, List.set_cons_succ]
                      refine wpAnyH_take (i := 5) (v := ?_) rfl (by kernel_rfl) (by kernel_rfl) (by kernel_rfl) (fun _ _ _ h => h) (Or.inl ⟨by rfl, ?_⟩) (by assumption) ?_
                      rotate_left
                      · intro wS hSw
                        obtain ⟨g0, g1⟩ := hSw
                        go_simp
                        try with_reducible rfl
                      try simp only [Act.put, List.getElem_toArray, List.getElem_cons_zero, List.getElem_cons_succ, List.setIfInBounds_toArray, List.set_cons_zero, List.set_cons_succ]
                      refine wpAnyH_take (i := 6) (v := ?_) rfl (by kernel_rfl) (by kernel_rfl) (by kernel_rfl) (fun _ _ _ h => h) (Or.inl ⟨by rfl, ?_⟩) (by assumption) ?_
                      rotate_left
                      · intro wS hSw
                        obtain ⟨g0, g1⟩ := hSw
                        go_simp
                        try with_reducible rfl
                      try simp only [Act.put, List.getElem_toArray, List.getElem_cons_zero, List.getElem_cons_succ, List.setIfInBounds_toArray, List.set_cons_zero, List.set_cons_succ]
                      refine wpAnyH_ready (rs := [1, 7]) (by kernel_rfl) (by simp) ?_
                      refine (AllReadyH.cons rfl (fun K hK => ?_) (AllReadyH.cons rfl (fun K hK => ?_) AllReadyH.nil))
                      · go_simp
                        refine hK.out _ _ (HSX.out _ hby) (fun hHeld => ?_)
                        clear hK K
                        try simp only [Act.put, List.getElem_toArray, List.getElem_cons_zero, List.getElem_cons_succ, List.setIfInBounds_toArray, List.set_cons_zero, List.set_cons_succ]
                        refine wpAnyH_ready (rs := [7]) (by kernel_rfl) (by simp) ?_
                        refine AllReadyH.cons rfl (fun K hK => ?_) AllReadyH.nil
                        go_simp
                        refine hK.out _ _ (HSX.out _ hbz) (fun hHeld => ?_)
                        clear hK K
                        try simp only [Act.put, List.getElem_toArray, List.getElem_cons_zero, List.getElem_cons_succ, List.setIfInBounds_toArray, List.set_cons_zero, List.set_cons_succ]
                        refine wpAnyH_ready (rs := [8]) (by kernel_rfl) (by simp) ?_
                        refine AllReadyH.cons rfl (fun K hK => ?_) AllReadyH.nil
                        refine step_app wd _ rfl _ _ 38 rfl 53 i1 (.string ⟨#[]⟩) 16 Tryz.underlying38 hi1 hy0 hy1 hy2 rfl v2 t2.length (t2.map encN) rfl hbz owz (some ⟨wy.heap.size, 0, none⟩) 1 1 [.string x] rfl (row_one rfl) (fun u hu => by rw [List.mem_singleton] at hu; subst hu; rfl) (by unfold maxLen; omega) (by omega) ?_
                        intro v' w1 o1 k1
                        obtain ⟨A8, c8, hv8, _⟩ := own_form o1
                        subst hv8
                        refine hK.out _ _ (HSX.out _ k1.below) (fun hHeld => ?_)
                        clear hK K
                        try simp only [Act.put, List.getElem_toArray, List.getElem_cons_zero, List.getElem_cons_succ, List.setIfInBounds_toArray, List.set_cons_zero, List.set_cons_succ]
                        have bR1 := k1.box _ _ _ _ (by decide) bz
                        have f0 := bR1.f0
                        have f1 := bR1.f1
                        have f2 := bR1.c0
                        have f3 := bR1.c1
                        have fl := bR1.lt
                        refine wpAnyH_take (i := 9) (v := ?_) rfl (by kernel_rfl) (by kernel_rfl) (by kernel_rfl) (fun _ _ _ h => h) (Or.inl ⟨by rfl, ?_⟩) (by assumption) ?_
                        rotate_left
                        · intro wS hSw
                          obtain ⟨g0, g1⟩ := hSw
                          go_simp
                          try with_reducible rfl
                        try simp only [Act.put, List.getElem_toArray, List.getElem_cons_zero, List.getElem_cons_succ, List.setIfInBounds_toArray, List.set_cons_zero, List.set_cons_succ]
                        refine wpAnyH_ready (rs := [10]) (by kernel_rfl) (by simp) ?_
                        refine AllReadyH.cons rfl (fun K hK => ?_) AllReadyH.nil
                        go_simp
                        refine hK.out _ _ (HSX.out _ (below_set _ hRd k1.below)) (fun hHeld => ?_)
                        clear hK K
                        try simp only [Act.put, List.getElem_toArray, List.getElem_cons_zero, List.getElem_cons_succ, List.setIfInBounds_toArray, List.set_cons_zero, List.set_cons_succ]
                        refine wpAnyH_done (by kernel_rfl) ?_ _
                        go_wp2_with fail
                        go_roundw
                        case rel => exact ⟨k + 1, _, t2 ++ [x.data.toList], by omega, by go_num, HST.out.symm, bR1.set1 _, own_set (k1.row _ _ _ _ (by decide) oiz) bR1 (by decide) _, by rw [List.map_append, List.length_append]; exact own_set o1 bR1 (by decide) _, below_set _ hRd k1.below⟩
                        case measure => simp [intOf]; omega
                      · go_simp
                        refine hK.out _ _ (HSX.out _ hbz) (fun hHeld => ?_)
                        clear hK K
                        try simp only [Act.put, List.getElem_toArray, List.getElem_cons_zero, List.getElem_cons_succ, List.setIfInBounds_toArray, List.set_cons_zero, List.set_cons_succ]
                        refine wpAnyH_ready (rs := [1]) (by kernel_rfl) (by simp) ?_
                        refine AllReadyH.cons rfl (fun K hK => ?_) AllReadyH.nil
                        go_simp
                        refine hK.out _ _ (HSX.out _ hbz) (fun hHeld => ?_)
                        clear hK K
                        try simp only [Act.put, List.getElem_toArray, List.getElem_cons_zero, List.getElem_cons_succ, List.setIfInBounds_toArray, List.set_cons_zero, List.set_cons_succ]
                        refine wpAnyH_ready (rs := [8]) (by kernel_rfl) (by simp) ?_
                        refine AllReadyH.cons rfl (fun K hK => ?_) AllReadyH.nil
                        refine step_app wd _ rfl _ _ 38 rfl 53 i1 (.string ⟨#[]⟩) 16 Tryz.underlying38 hi1 hy0 hy1 hy2 rfl v2 t2.length (t2.map encN) rfl hbz owz (some ⟨wy.heap.size, 0, none⟩) 1 1 [.string x] rfl (row_one rfl) (fun u hu => by rw [List.mem_singleton] at hu; subst hu; rfl) (by unfold maxLen; omega) (by omega) ?_
                        intro v' w1 o1 k1
                        obtain ⟨A8, c8, hv8, _⟩ := own_form o1
                        subst hv8
                        refine hK.out _ _ (HSX.out _ k1.below) (fun hHeld => ?_)
                        clear hK K
                        try simp only [Act.put, List.getElem_toArray, List.getElem_cons_zero, List.getElem_cons_succ, List.setIfInBounds_toArray, List.set_cons_zero, List.set_cons_succ]
                        have bR1 := k1.box _ _ _ _ (by decide) bz
                        have f0 := bR1.f0
                        have f1 := bR1.f1
                        have f2 := bR1.c0
                        have f3 := bR1.c1
                        have fl := bR1.lt
                        refine wpAnyH_take (i := 9) (v := ?_) rfl (by kernel_rfl) (by kernel_rfl) (by kernel_rfl) (fun _ _ _ h => h) (Or.inl ⟨by rfl, ?_⟩) (by assumption) ?_
                        rotate_left
                        · intro wS hSw
                          obtain ⟨g0, g1⟩ := hSw
                          go_simp
                          try with_reducible rfl
                        try simp only [Act.put, List.getElem_toArray, List.getElem_cons_zero, List.getElem_cons_succ, List.setIfInBounds_toArray, List.set_cons_zero, List.set_cons_succ]
                        refine wpAnyH_ready (rs := [10]) (by kernel_rfl) (by simp) ?_
                        refine AllReadyH.cons rfl (fun K hK => ?_) AllReadyH.nil
                        go_simp
                        refine hK.out _ _ (HSX.out _ (below_set _ hRd k1.below)) (fun hHeld => ?_)
                        clear hK K
                        try simp only [Act.put, List.getElem_toArray, List.getElem_cons_zero, List.getElem_cons_succ, List.setIfInBounds_toArray, List.set_cons_zero, List.set_cons_succ]
                        refine wpAnyH_done (by kernel_rfl) ?_ _
                        go_wp2_with fail
                        go_roundw
                        case rel => exact ⟨k + 1, _, t2 ++ [x.data.toList], by omega, by go_num, HST.out.symm, bR1.set1 _, own_set (k1.row _ _ _ _ (by decide) oiz) bR1 (by decide) _, by rw [List.map_append, List.length_append]; exact own_set o1 bR1 (by decide) _, below_set _ hRd k1.below⟩
                        case measure => simp [intOf]; omega
                  · obtain rfl : k = cA.2.length := by omega
                    have hte : t2 = cA.2.filter (fun x => !decide (x ∈ cB.2)) := by rw [HTS.out, List.take_length]
                    obtain ⟨r2, hr2⟩ : ∃ r, cA.2.filter (fun x => !decide (x ∈ cB.2)) = r := ⟨_, rfl⟩
                    obtain rfl : t2 = r2 := hte.trans hr2
                    have HR2 := Lib.hid hr2
                    clear hte hr2 HTS
                    go_upto_region 16 with fail
                    obtain ⟨A11, c11, rfl, _⟩ := own_form hown
                    obtain ⟨A12, c12, rfl, _⟩ := own_form hown2
                    have rr : WoAt wr A11 A12 ((ts, t2) : Wo) := ⟨Row.of_own hown, Row.of_own hown2⟩
                    have hBr := hBd.trans (hbr.mono hzd)
                    have hzr : Z ≤ wr.heap.size := Nat.le_trans hzd hbr.size
                    have hrst : restW cA cB = ((ts, t2) : Wo) := by unfold restW; rw [HR1.out, HR2.out]
                    refine sets16 _ _ ?hk a b c A A' B B' C C' ca da cb db cc dc w wr Z ZB ZC P Q R S9 A1 A2 A3 A4 A5 A6 A11 A12 c1 c2 c3 c4 c5 c6 c11 c12 cA cB pab (minus a b) ts t2 HOK.out HRA.out HRB.out HRC.out SA.out SB.out SC.out LA.out LB.out LC.out HPAB.out rfl HCA.out HCB.out hrst hBr hzr (xa.later hbr) (xb.later hbr) (xc.later hbr) (bP.later hbr) (bQ.later hbr) (bS.later hbr) bRr (ra.later hbr) (rb.later hbr) (rs.later hbr) rr ?hKK _ _ _ _ _ _ _ _ _ _ _ _ _ _ _ _ _ _ _ _ _ _ _ _ _ _ _ _ _ _ _ _ _ _ _ _ _ _ _ _ _ _ _ _ _ _ _ _ _ _ _ _ _ _ _ _ _ _ _ _ _ _ _ _ _ _ _ _ _ _ _ _ _ _ _ _ _ _ _ _ _ _ _ _ _ _ _ _ _ _ _ _ _ _ _ _ _ _ _ _ _ _ _ _ _ _ _ _ _ _ _ _ _ _ _ _ _ _ _ _ _ _ _ _ _ _ _ _ _ _ _ _ _ _ _ _ _ _ _ _ _ _ _ _ _ _ _ _ _ _ _ _ _ _ _ _ _ _ _ _ _ _ _ _ _ _ _ _ _ _ _ _ _ _ _ _ _ _ _ _ _ _ _ _ _ _ _ _ _ _ _
                    case hk => assumption
                    case hKK =>
                      intro l W h6 hW
                      exact bodyPost_ret (v := .bool true) (by simp [results, Tryz.f5, go_sem]; simpa using h6) rfl ⟨rfl, hW⟩

end Go.Proofs.YtnibcffcbnjllaaGreatDoor
