/- ScriptSets: its sixteenth region. -/
import Derived.Test.YtnibcffcbnjllaaGreatDoorQSet7
namespace Go.Proofs.YtnibcffcbnjllaaGreatDoor
open Go.RowKit Go.Sort
attribute [local go_sem ↓] Go.wp_at_zero Go.wp_at_succ
noncomputable def setsMid : Code := match (Tryz.f5).body.bind (fromReg 16) with
  | some (.seq a _) => a
  | _ => .skip

set_option maxRecDepth 100000 in
set_option maxHeartbeats 8000000 in
theorem sets16 (KA : Act → World → Prop) (KK : Exit → Act → World → Prop) (hk : ∀ (a : Act) (w : World), Code.wp Tryz.prog setsTail KK a w → KA a w) (a b c : Wo) (A A' B B' C C' : Option Addr) (ca da cb db cc dc : Nat) (w wr : World) (Z ZB ZC P Q R S9 : Nat) (A1 A2 A3 A4 A5 A6 A11 A12 : Option Addr) (c1 c2 c3 c4 c5 c6 c11 c12 : Nat) (cA cB pab mab : Wo) (ts : List Int) (t2 : List Nm)
    (hOK : ∀ W, Below Z w W → Ok W) (hRA : ∀ W, Below Z w W → WoAt W A A' a) (hRB : ∀ W, Below Z w W → WoAt W B B' b) (hRC : ∀ W, Below Z w W → WoAt W C C' c) (sa : Sm a) (sb : Sm b) (sc : Sm c) (la : Sm30 a) (lb : Sm30 b) (lc : Sm30 c)
    (hP : plus a b = pab) (hM : minus a b = mab) (hA : can a = cA) (hB : can b = cB) (hrst : restW cA cB = ((ts, t2) : Wo)) (hBr : Below Z w wr) (hzr : Z ≤ wr.heap.size)
    (xa : Box2 wr Z 47 (.slice A a.1.length ca) (.slice A' a.2.length da)) (xb : Box2 wr ZB 47 (.slice B b.1.length cb) (.slice B' b.2.length db)) (xc : Box2 wr ZC 47 (.slice C c.1.length cc) (.slice C' c.2.length dc))
    (bP : Box2 wr P 47 (.slice A1 cA.1.length c1) (.slice A2 cA.2.length c2)) (bQ : Box2 wr Q 47 (.slice A3 cB.1.length c3) (.slice A4 cB.2.length c4)) (bS : Box2 wr S9 47 (.slice A5 pab.1.length c5) (.slice A6 pab.2.length c6)) (bR : Box2 wr R 47 (.slice A11 ts.length c11) (.slice A12 t2.length c12))
    (ra : WoAt wr A1 A2 cA) (rb : WoAt wr A3 A4 cB) (rs : WoAt wr A5 A6 pab) (rr : WoAt wr A11 A12 ((ts, t2) : Wo))
    (hK : ∀ (l : Array Value) (W : World), l.getD 6 undef = .bool true → Below Z w W → KK .ret ⟨l, []⟩ W)
    (u0 u1 u2 u11 u12 u13 u14 u15 u16 u17 u18 u19 u20 u21 u22 u23 u24 u25 u26 u27 u28 u29 u30 u31 u32 u33 u34 u35 u36 u37 u38 u39 u40 u41 u42 u43 u44 u45 u46 u47 u48 u49 u50 u51 u52 u53 u54 u55 u56 u57 u58 u59 u60 u61 u62 u63 u64 u65 u66 u67 u68 u69 u70 u71 u72 u73 u74 u75 u76 u77 u78 u79 u80 u81 u82 u83 u84 u85 u86 u87 u88 u89 u90 u91 u92 u93 u94 u95 u96 u97 u98 u99 u100 u101 u102 u103 u104 u105 u106 u107 u108 u109 u110 u111 u112 u113 u114 u115 u116 u117 u118 u119 u120 u121 u122 u123 u124 u125 u126 u127 u128 u129 u130 u131 u132 u133 u134 u135 u136 u137 u138 u139 u140 u141 u142 u143 u144 u145 u146 u147 u148 u149 u150 u151 u152 u153 u154 u155 u156 u157 u158 u159 u160 u161 u162 u163 u164 u165 u166 u167 u168 u169 u170 u171 u172 u173 u174 u175 u176 u177 u178 u179 u180 u181 u182 u183 u184 u185 u186 u187 u188 u189 u190 u191 u192 u193 u194 u195 u196 u197 u198 : Value) :
    Code.wp Tryz.prog setsMid (Exit.then KA KK) ⟨List.toArray (u0 :: u1 :: u2 :: .pointer (some ⟨Z, 0, none⟩) :: .pointer (some ⟨ZB, 0, none⟩) :: .pointer (some ⟨ZC, 0, none⟩) :: .bool false :: .pointer (some ⟨P, 0, none⟩) :: .pointer (some ⟨Q, 0, none⟩) :: .pointer (some ⟨S9, 0, none⟩) :: .pointer (some ⟨R, 0, none⟩) :: u11 :: u12 :: u13 :: u14 :: u15 :: u16 :: u17 :: u18 :: u19 :: u20 :: u21 :: u22 :: u23 :: u24 :: u25 :: u26 :: u27 :: u28 :: u29 :: u30 :: u31 :: u32 :: u33 :: u34 :: u35 :: u36 :: u37 :: u38 :: u39 :: u40 :: u41 :: u42 :: u43 :: u44 :: u45 :: u46 :: u47 :: u48 :: u49 :: u50 :: u51 :: u52 :: u53 :: u54 :: u55 :: u56 :: u57 :: u58 :: u59 :: u60 :: u61 :: u62 :: u63 :: u64 :: u65 :: u66 :: u67 :: u68 :: u69 :: u70 :: u71 :: u72 :: u73 :: u74 :: u75 :: u76 :: u77 :: u78 :: u79 :: u80 :: u81 :: u82 :: u83 :: u84 :: u85 :: u86 :: u87 :: u88 :: u89 :: u90 :: u91 :: u92 :: u93 :: u94 :: u95 :: u96 :: u97 :: u98 :: u99 :: u100 :: u101 :: u102 :: u103 :: u104 :: u105 :: u106 :: u107 :: u108 :: u109 :: u110 :: u111 :: u112 :: u113 :: u114 :: u115 :: u116 :: u117 :: u118 :: u119 :: u120 :: u121 :: u122 :: u123 :: u124 :: u125 :: u126 :: u127 :: u128 :: u129 :: u130 :: u131 :: u132 :: u133 :: u134 :: u135 :: u136 :: u137 :: u138 :: u139 :: u140 :: u141 :: u142 :: u143 :: u144 :: u145 :: u146 :: u147 :: u148 :: u149 :: u150 :: u151 :: u152 :: u153 :: u154 :: u155 :: u156 :: u157 :: u158 :: u159 :: u160 :: u161 :: u162 :: u163 :: u164 :: u165 :: u166 :: u167 :: u168 :: u169 :: u170 :: u171 :: u172 :: u173 :: u174 :: u175 :: u176 :: u177 :: u178 :: u179 :: u180 :: u181 :: u182 :: u183 :: u184 :: u185 :: u186 :: u187 :: u188 :: u189 :: u190 :: u191 :: u192 :: u193 :: u194 :: u195 :: u196 :: u197 :: u198 :: []), []⟩ wr := by
  conv => arg 2; whnf
  have HPL := Lib.hid (fun (W : World) (h : Below wr.heap.size wr W) => (Plus_any a b A A' B B' ca da cb db W (hOK W (hBr.trans (h.mono hzr))) sa sb (hRA W (hBr.trans (h.mono hzr))) (hRB W (hBr.trans (h.mono hzr)))).mono fun e w' (k : ResW W (plus a b) e w') => show ResZ wr.heap.size W pab e w' from hP ▸ k.toZ h.size)
  have HMI := Lib.hid (fun (W : World) (h : Below wr.heap.size wr W) => (Minus_any a b A A' B B' ca da cb db W (hOK W (hBr.trans (h.mono hzr))) sa sb (hRA W (hBr.trans (h.mono hzr))) (hRB W (hBr.trans (h.mono hzr)))).mono fun e w' (k : ResW W (minus a b) e w') => show ResZ wr.heap.size W mab e w' from hM ▸ k.toZ h.size)
  have S0 := Lib.hid (S4c.of xa xb (Below.refl _ wr))
  have HS := Lib.hid (fun W (hb : Below wr.heap.size wr W) => S4c.of xa xb hb)
  have lt0 := xa.lt
  have lt1 := xb.lt
  have HALL := Lib.hid (fun (wq : World) (rcc : Below wr.heap.size wr wq) => sets17 KK a b c A A' B B' C C' ca da cb db cc dc w wq Z ZB ZC P Q R S9 A1 A2 A3 A4 A5 A6 A11 A12 c1 c2 c3 c4 c5 c6 c11 c12 cA cB pab mab ts t2 hOK hRA hRB hRC sa sb sc la lb lc hP hM hA hB hrst (hBr.trans (rcc.mono hzr)) (Nat.le_trans hzr rcc.size)
    (xa.later rcc) (xb.later rcc) (xc.later rcc) (bP.later rcc) (bQ.later rcc) (bS.later rcc) (bR.later rcc) (ra.later rcc) (rb.later rcc) (rs.later rcc) (rr.later rcc) hK)
  clear hOK hRA hRB hRC sa sb sc la lb lc hP hM hA hB hrst hK bP bQ bS bR ra rb rs rr xc hBr hzr
  go_cut [13, 14] from 16 to 198 (fun s13 s14 W => GotW wr pab mab s13 s14 W)
  case first =>
    go_region_held3 (fun W => W.cell? ⟨Z, 0, none⟩ = some (.slice A a.1.length ca) ∧ W.cell? ⟨Z, 1, none⟩ = some (.slice A' a.2.length da) ∧ W.cell? ⟨ZB, 0, none⟩ = some (.slice B b.1.length cb) ∧ W.cell? ⟨ZB, 1, none⟩ = some (.slice B' b.2.length db)) (first | with_reducible exact S0.out | ((with_reducible refine HS.out _ ?_); (repeat (first | with_reducible assumption | with_reducible exact Below.refl _ _ | with_reducible refine below_dr ?_ | with_reducible refine below_al (Nat.le_refl _) _ ?_ | with_reducible refine below_later ?_ hb6 | with_reducible refine below_later ?_ hb7)); done) | (repeat (first | ((with_reducible refine HS.out _ ?_); (repeat (first | with_reducible assumption | with_reducible exact Below.refl _ _ | with_reducible refine below_dr ?_ | with_reducible refine below_al (Nat.le_refl _) _ ?_ | with_reducible refine below_later ?_ hb6 | with_reducible refine below_later ?_ hb7)); done) | (with_reducible refine S4c.set _ ?_ (by omega) (by omega)) | (with_reducible refine S4c.alloc _ ?_)))) (first
      | (go_at_call 26; (with_reducible refine (HPL.out _ ?_).mono ?_); (· (repeat (first | with_reducible assumption | with_reducible exact Below.refl _ _ | with_reducible refine below_dr ?_ | with_reducible refine below_al (Nat.le_refl _) _ ?_ | with_reducible refine below_later ?_ hb6 | with_reducible refine below_later ?_ hb6))); rintro e w6 ⟨A6, c6, A7, c7, rfl, o6, hb6⟩; have r6 : Below wr.heap.size wr w6 := (by (repeat (first | with_reducible assumption | with_reducible exact Below.refl _ _ | with_reducible refine below_dr ?_ | with_reducible refine below_al (Nat.le_refl _) _ ?_ | with_reducible refine below_later ?_ hb6 | with_reducible refine below_later ?_ hb6))); have z6 := r6.size; (try (have bT1 := (Box2.new wr 47 (.slice none 0 0) (.slice none 0 0)).later (below_of_drew hb6); have tl1 := bT1.lt)); (try (have bT1 := ((Box2.new wr 47 (.slice none 0 0) (.slice none 0 0)).alloc (.cells #[.slice none 0 0, .slice none 0 0] 47)).later (below_of_drew hb6); have bT2 := (Box2.new (wr.alloc (.cells #[.slice none 0 0, .slice none 0 0] 47)) 47 (.slice none 0 0) (.slice none 0 0)).later (below_of_drew hb6); simp only [World.size_alloc] at bT2; have tl1 := bT1.lt; have tl2 := bT2.lt)))
      | (go_at_call 27; (with_reducible refine (HMI.out _ ?_).mono ?_); (· (repeat (first | with_reducible assumption | with_reducible exact Below.refl _ _ | with_reducible refine below_dr ?_ | with_reducible refine below_al (Nat.le_refl _) _ ?_ | with_reducible refine below_later ?_ hb6 | with_reducible refine below_later ?_ hb6))); rintro e w7 ⟨A8, c8, A9, c9, rfl, o8, hb7⟩; have r7 : Below wr.heap.size wr w7 := (by (repeat (first | with_reducible assumption | with_reducible exact Below.refl _ _ | with_reducible refine below_dr ?_ | with_reducible refine below_al (Nat.le_refl _) _ ?_ | with_reducible refine below_later ?_ hb6 | with_reducible refine below_later ?_ hb7))); have q67 : Below w6.heap.size w6 w7 := (by (repeat (first | with_reducible assumption | with_reducible exact Below.refl _ _ | with_reducible refine below_dr ?_ | with_reducible refine below_al (Nat.le_refl _) _ ?_ | with_reducible refine below_later ?_ hb7 | with_reducible refine below_later ?_ hb7))); have z7 := q67.size; have p6 := o6.later q67; (try (have bU1 := bT1.later q67; have uf0 := bU1.f0; have uf1 := bU1.f1; have uc0 := bU1.c0; have uc1 := bU1.c1; have ul := bU1.lt)); (try (have bU2 := bT2.later q67; have vf0 := bU2.f0; have vf1 := bU2.f1; have vc0 := bU2.c0; have vc1 := bU2.c1; have vl := bU2.lt)); (try (have bU3 := (Box2.new w6 47 (.slice none 0 0) (.slice none 0 0)).later hb7; have yf0 := bU3.f0; have yf1 := bU3.f1; have yc0 := bU3.c0; have yc1 := bU3.c1; have yl := bU3.lt)); (try (have bU3 := ((Box2.new w6 47 (.slice none 0 0) (.slice none 0 0)).alloc (.cells #[.slice none 0 0, .slice none 0 0] 47)).later hb7; have yf0 := bU3.f0; have yf1 := bU3.f1; have yc0 := bU3.c0; have yc1 := bU3.c1; have yl := bU3.lt; have bU4 := (Box2.new (w6.alloc (.cells #[.slice none 0 0, .slice none 0 0] 47)) 47 (.slice none 0 0) (.slice none 0 0)).later hb7; simp only [World.size_alloc] at bU4; have zf0 := bU4.f0; have zf1 := bU4.f1; have zc0 := bU4.c0; have zc1 := bU4.c1; have zl := bU4.lt)))
      )
    all_goals
      go_wp2_with fail
      go_meet
      have LW : LeftW wr w7 _ _ A6 A7 A8 A9 c6 c7 c8 c9 := ⟨p6, o8, r7⟩
      have lz : wr.heap.size ≤ wr.heap.size := Nat.le_refl _
      have lz1 : wr.heap.size ≤ wr.heap.size + 1 := Nat.le_succ _
      have lz6 : wr.heap.size ≤ w6.heap.size + 1 := Nat.le_succ_of_le z6
      first
        | with_reducible exact gotW_I LW
        | with_reducible exact gotW_J LW
        | with_reducible exact gotW_K LW bU1 lz
        | with_reducible exact gotW_K LW bU3 z6
        | with_reducible exact gotW_L LW bU1 lz
        | with_reducible exact gotW_L LW bU3 z6
        | with_reducible exact gotW_M LW bU3 bU4 z6 lz6 (by omega)
        | with_reducible exact gotW_M LW bU4 bU3 lz6 z6 (by omega)
        | with_reducible exact gotW_M LW bU1 bU3 lz z6 (by omega)
        | with_reducible exact gotW_M LW bU3 bU1 z6 lz (by omega)
        | with_reducible exact gotW_M LW bU1 bU2 lz lz1 (by omega)
        | with_reducible exact gotW_M LW bU2 bU1 lz1 lz (by omega)
  case rest =>
    obtain ⟨PP, PM, A7, c7, A8, c8, A9, c9, A10, c10, rfl, rfl, bPP, bPM, rp, rm, rcc⟩ := hcut
    refine hk _ _ ?_
    exact HALL.out wc rcc PP PM A7 A8 A9 A10 c7 c8 c9 c10 bPP bPM rp rm _ _ _ _ _ _ _ _ _ _ _ _ _ _ _ _ _ _ _ _ _ _ _ _ _ _ _ _ _ _ _ _ _ _ _ _ _ _ _ _ _ _ _ _ _ _ _ _ _ _ _ _ _ _ _ _ _ _ _ _ _ _ _ _ _ _ _ _ _ _ _ _ _ _ _ _ _ _ _ _ _ _ _ _ _ _ _ _ _ _ _ _ _ _ _ _ _ _ _ _ _ _ _ _ _ _ _ _ _ _ _ _ _ _ _ _ _ _ _ _ _ _ _ _ _ _ _ _ _ _ _ _ _ _ _ _ _ _ _ _ _ _ _ _ _ _ _ _ _ _ _ _ _ _ _ _ _ _ _ _ _ _ _ _ _ _ _ _ _ _ _ _ _ _ _ _ _ _ _ _ _ _ _ _ _ _ _ _ _

end Go.Proofs.YtnibcffcbnjllaaGreatDoor
