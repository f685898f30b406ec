/- ScriptSets: its last regions (17, 19, 20). -/
import Derived.Deep.DeepCutAuto
import Derived.Test.YtnibcffcbnjllaaGreatDoorQSet0
import Derived.Test.YtnibcffcbnjllaaGreatDoorPar2
namespace Go.Proofs.YtnibcffcbnjllaaGreatDoor
open Go.RowKit Go.Sort
attribute [local go_sem ↓] Go.wp_at_zero Go.wp_at_succ
/-- The first region of a code. -/
def headReg : Code → Option Nat
  | .region k _ _ => some k
  | .seq a _ => headReg a
  | .block _ c => headReg c
  | .scope c => headReg c
  | .loop c => headReg c
  | _ => none
/-- The code from a region on. -/
def fromReg (n : Nat) : Code → Option Code
  | .seq a b => if headReg a = some n then some (.seq a b) else match fromReg n b with
    | some c => some c
    | none => fromReg n a
  | .block _ c => fromReg n c
  | .scope c => fromReg n c
  | .loop c => fromReg n c
  | _ => none
noncomputable def setsTail : Code := ((Tryz.f5).body.bind (fromReg 17)).getD .skip

set_option maxRecDepth 100000 in
set_option maxHeartbeats 8000000 in
theorem sets17 (KK : Exit → Act → World → Prop) (a b c : Wo) (A A' B B' C C' : Option Addr) (ca da cb db cc dc : Nat) (w wq : World) (Z ZB ZC P Q R S9 : Nat) (A1 A2 A3 A4 A5 A6 A11 A12 : Option Addr) (c1 c2 c3 c4 c5 c6 c11 c12 : Nat) (cA cB pab mab : Wo) (ts : List Int) (t2 : List Nm)
    (hOK : ∀ W, Below Z w W → Ok W) (hRA : ∀ W, Below Z w W → WoAt W A A' a) (hRB : ∀ W, Below Z w W → WoAt W B B' b) (hRC : ∀ W, Below Z w W → WoAt W C C' c) (sa : Sm a) (sb : Sm b) (sc : Sm c) (la : Sm30 a) (lb : Sm30 b) (lc : Sm30 c)
    (hP : plus a b = pab) (hM : minus a b = mab) (hA : can a = cA) (hB : can b = cB) (hrst : restW cA cB = ((ts, t2) : Wo)) (hBq : Below Z w wq) (hzq : Z ≤ wq.heap.size)
    (xa : Box2 wq Z 47 (.slice A a.1.length ca) (.slice A' a.2.length da)) (xb : Box2 wq ZB 47 (.slice B b.1.length cb) (.slice B' b.2.length db)) (xc : Box2 wq ZC 47 (.slice C c.1.length cc) (.slice C' c.2.length dc))
    (bP : Box2 wq P 47 (.slice A1 cA.1.length c1) (.slice A2 cA.2.length c2)) (bQ : Box2 wq Q 47 (.slice A3 cB.1.length c3) (.slice A4 cB.2.length c4)) (bS : Box2 wq S9 47 (.slice A5 pab.1.length c5) (.slice A6 pab.2.length c6)) (bR : Box2 wq R 47 (.slice A11 ts.length c11) (.slice A12 t2.length c12))
    (ra : WoAt wq A1 A2 cA) (rb : WoAt wq A3 A4 cB) (rs : WoAt wq A5 A6 pab) (rr : WoAt wq A11 A12 ((ts, t2) : Wo))
    (hK : ∀ (l : Array Value) (W : World), l.getD 6 undef = .bool true → Below Z w W → KK .ret ⟨l, []⟩ W)
    (PP PM : Nat) (A7 A8 A9 A10 : Option Addr) (c7 c8 c9 c10 : Nat) (bPP : Box2 wq PP 47 (.slice A7 pab.1.length c7) (.slice A8 pab.2.length c8)) (bPM : Box2 wq PM 47 (.slice A9 mab.1.length c9) (.slice A10 mab.2.length c10)) (rp : WoAt wq A7 A8 pab) (rm : WoAt wq A9 A10 mab)
    (u0 u1 u2 u11 u12 u15 u16 u17 u18 u19 u20 u21 u22 u23 u24 u25 u26 u27 u28 u29 u30 u31 u32 u33 u34 u35 u36 u37 u38 u39 u40 u41 u42 u43 u44 u45 u46 u47 u48 u49 u50 u51 u52 u53 u54 u55 u56 u57 u58 u59 u60 u61 u62 u63 u64 u65 u66 u67 u68 u69 u70 u71 u72 u73 u74 u75 u76 u77 u78 u79 u80 u81 u82 u83 u84 u85 u86 u87 u88 u89 u90 u91 u92 u93 u94 u95 u96 u97 u98 u99 u100 u101 u102 u103 u104 u105 u106 u107 u108 u109 u110 u111 u112 u113 u114 u115 u116 u117 u118 u119 u120 u121 u122 u123 u124 u125 u126 u127 u128 u129 u130 u131 u132 u133 u134 u135 u136 u137 u138 u139 u140 u141 u142 u143 u144 u145 u146 u147 u148 u149 u150 u151 u152 u153 u154 u155 u156 u157 u158 u159 u160 u161 u162 u163 u164 u165 u166 u167 u168 u169 u170 u171 u172 u173 u174 u175 u176 u177 u178 u179 u180 u181 u182 u183 u184 u185 u186 u187 u188 u189 u190 u191 u192 u193 u194 u195 u196 u197 u198 : Value) :
    Code.wp Tryz.prog setsTail KK ⟨List.toArray (u0 :: u1 :: u2 :: .pointer (some ⟨Z, 0, none⟩) :: .pointer (some ⟨ZB, 0, none⟩) :: .pointer (some ⟨ZC, 0, none⟩) :: .bool false :: .pointer (some ⟨P, 0, none⟩) :: .pointer (some ⟨Q, 0, none⟩) :: .pointer (some ⟨S9, 0, none⟩) :: .pointer (some ⟨R, 0, none⟩) :: u11 :: u12 :: .pointer (some ⟨PP, 0, none⟩) :: .pointer (some ⟨PM, 0, none⟩) :: u15 :: u16 :: u17 :: u18 :: u19 :: u20 :: u21 :: u22 :: u23 :: u24 :: u25 :: u26 :: u27 :: u28 :: u29 :: u30 :: u31 :: u32 :: u33 :: u34 :: u35 :: u36 :: u37 :: u38 :: u39 :: u40 :: u41 :: u42 :: u43 :: u44 :: u45 :: u46 :: u47 :: u48 :: u49 :: u50 :: u51 :: u52 :: u53 :: u54 :: u55 :: u56 :: u57 :: u58 :: u59 :: u60 :: u61 :: u62 :: u63 :: u64 :: u65 :: u66 :: u67 :: u68 :: u69 :: u70 :: u71 :: u72 :: u73 :: u74 :: u75 :: u76 :: u77 :: u78 :: u79 :: u80 :: u81 :: u82 :: u83 :: u84 :: u85 :: u86 :: u87 :: u88 :: u89 :: u90 :: u91 :: u92 :: u93 :: u94 :: u95 :: u96 :: u97 :: u98 :: u99 :: u100 :: u101 :: u102 :: u103 :: u104 :: u105 :: u106 :: u107 :: u108 :: u109 :: u110 :: u111 :: u112 :: u113 :: u114 :: u115 :: u116 :: u117 :: u118 :: u119 :: u120 :: u121 :: u122 :: u123 :: u124 :: u125 :: u126 :: u127 :: u128 :: u129 :: u130 :: u131 :: u132 :: u133 :: u134 :: u135 :: u136 :: u137 :: u138 :: u139 :: u140 :: u141 :: u142 :: u143 :: u144 :: u145 :: u146 :: u147 :: u148 :: u149 :: u150 :: u151 :: u152 :: u153 :: u154 :: u155 :: u156 :: u157 :: u158 :: u159 :: u160 :: u161 :: u162 :: u163 :: u164 :: u165 :: u166 :: u167 :: u168 :: u169 :: u170 :: u171 :: u172 :: u173 :: u174 :: u175 :: u176 :: u177 :: u178 :: u179 :: u180 :: u181 :: u182 :: u183 :: u184 :: u185 :: u186 :: u187 :: u188 :: u189 :: u190 :: u191 :: u192 :: u193 :: u194 :: u195 :: u196 :: u197 :: u198 :: []), []⟩ wq := by
  conv => arg 2; whnf
  have HOK := Lib.hid hOK
  have HRA := Lib.hid hRA
  have HRB := Lib.hid hRB
  have HRC := Lib.hid hRC
  have SA := Lib.hid sa
  have SB := Lib.hid sb
  have SC := Lib.hid sc
  have LA := Lib.hid la
  have LB := Lib.hid lb
  have LC := Lib.hid lc
  have HPAB := Lib.hid hP
  have HM := Lib.hid hM
  have HCA := Lib.hid hA
  have HCB := Lib.hid hB
  have HRST := Lib.hid hrst
  have bRr := bR
  clear hOK hRA hRB hRC sa sb sc la lb lc hP hM hA hB hrst bR
  obtain ⟨bc, hbc⟩ : ∃ r, plus b c = r := ⟨_, rfl⟩
  obtain ⟨abc, habc⟩ : ∃ r, plus a bc = r := ⟨_, rfl⟩
  obtain ⟨pc, hpc⟩ : ∃ r, plus pab c = r := ⟨_, rfl⟩
  obtain ⟨aa, haa⟩ : ∃ r, plus a a = r := ⟨_, rfl⟩
  obtain ⟨ma, hma⟩ : ∃ r, minus a a = r := ⟨_, rfl⟩
  obtain ⟨q1, hq1⟩ : ∃ q, decide (cA.1 = cB.1) = q := ⟨_, rfl⟩
  obtain ⟨q2, hq2⟩ : ∃ q, decide (cA.2 = cB.2) = q := ⟨_, rfl⟩
  have smP : Sm pab := by rw [← HPAB.out]; exact SA.out.plus2 SB.out LA.out LB.out
  have smM : Sm mab := by rw [← HM.out]; exact Sm.minus SA.out
  have smBC : Sm bc := by rw [← hbc]; exact SB.out.plus2 SC.out LB.out LC.out
  have smABC : Sm abc := by rw [← habc, ← hbc]; exact Sm.plus3 SA.out SB.out SC.out LA.out LB.out LC.out
  have smPC : Sm pc := by rw [← hpc, ← HPAB.out]; exact Sm.plus3' SA.out SB.out SC.out LA.out LB.out LC.out
  have smAA : Sm aa := by rw [← haa]; exact SA.out.plus2 SA.out LA.out LA.out
  have smMA : Sm ma := by rw [← hma]; exact Sm.minus SA.out
  have smR : Sm ((ts, t2) : Wo) := by rw [← HRST.out, ← HCA.out]; exact Sm.rest SA.out.can
  have smCA : Sm cA := by rw [← HCA.out]; exact SA.out.can
  have smCB : Sm cB := by rw [← HCB.out]; exact SB.out.can
  have J1 := Lib.hid (fun (W : World) (hb : Below wq.heap.size wq W) => isCanK (c := c7) (d := c8) hb (HOK.out W (hBq.trans (hb.mono hzq))) smP (rp.later hb) (by rw [← HPAB.out]; exact can_plus a b))
  have J2 := Lib.hid (fun (W : World) (hb : Below wq.heap.size wq W) => isCanK (c := c9) (d := c10) hb (HOK.out W (hBq.trans (hb.mono hzq))) smM (rm.later hb) (by rw [← HM.out]; exact can_minus a b))
  have J3 := Lib.hid (fun (W : World) (hb : Below wq.heap.size wq W) => sameNK (c := c7) (c2 := c5) hb smP smP (rp.later hb) (rs.later hb) (decide_eq_true rfl))
  have J4 := Lib.hid (fun (W : World) (hb : Below wq.heap.size wq W) => sameSK (d := c8) (d2 := c6) hb smP smP (rp.later hb) (rs.later hb) (decide_eq_true rfl))
  have J5 := Lib.hid (fun (W : World) (hb : Below wq.heap.size wq W) => (show Calls Tryz.prog 29 #[.agg #[.slice A9 mab.1.length c9, .slice A10 mab.2.length c10], .agg #[.slice A11 ts.length c11, .slice A12 t2.length c12]] W (BoK wq true) from equalK (b := (ts, t2)) hb (HOK.out W (hBq.trans (hb.mono hzq))) smM smR (rm.later hb) (rr.later hb) (by rw [← HM.out, ← HRST.out, ← HCA.out, ← HCB.out]; exact can_eq_rest a b)))
  have J6 := Lib.hid (fun (W : World) (hb : Below wq.heap.size wq W) => plusK (c := cb) (d := db) (c2 := ca) (d2 := da) hb (HOK.out W (hBq.trans (hb.mono hzq))) SB.out SA.out (HRB.out W (hBq.trans (hb.mono hzq))) (HRA.out W (hBq.trans (hb.mono hzq))) (r := pab) (by rw [← HPAB.out]; exact plus_rev a b))
  have J7 := Lib.hid (fun (W : World) (E E' : Option Addr) (d d' : Nat) (hb : Below wq.heap.size wq W) (h : WoAt W E E' pab) => equalK (c := c7) (d := c8) (c2 := d) (d2 := d') hb (HOK.out W (hBq.trans (hb.mono hzq))) smP smP (rp.later hb) h (can_self pab))
  have J8 := Lib.hid (fun (W : World) (hb : Below wq.heap.size wq W) => plusK (c := cb) (d := db) (c2 := cc) (d2 := dc) hb (HOK.out W (hBq.trans (hb.mono hzq))) SB.out SC.out (HRB.out W (hBq.trans (hb.mono hzq))) (HRC.out W (hBq.trans (hb.mono hzq))) hbc)
  have J9 := Lib.hid (fun (W : World) (E E' : Option Addr) (d d' : Nat) (hb : Below wq.heap.size wq W) (h : WoAt W E E' bc) => plusK (c := ca) (d := da) (c2 := d) (d2 := d') hb (HOK.out W (hBq.trans (hb.mono hzq))) SA.out smBC (HRA.out W (hBq.trans (hb.mono hzq))) h habc)
  have J10 := Lib.hid (fun (W : World) (hb : Below wq.heap.size wq W) => plusK (c := c7) (d := c8) (c2 := cc) (d2 := dc) hb (HOK.out W (hBq.trans (hb.mono hzq))) smP SC.out (rp.later hb) (HRC.out W (hBq.trans (hb.mono hzq))) hpc)
  have J11 := Lib.hid (fun (W : World) (E E' : Option Addr) (d d' : Nat) (G G' : Option Addr) (g g' : Nat) (hb : Below wq.heap.size wq W) (h : WoAt W E E' abc) (h2 : WoAt W G G' pc) => equalK (c := d) (d := d') (c2 := g) (d2 := g') hb (HOK.out W (hBq.trans (hb.mono hzq))) smABC smPC h h2 (q := true) (by rw [← habc, ← hbc, ← hpc, ← HPAB.out]; exact can_eq_assoc a b c))
  have J12 := Lib.hid (fun (W : World) (hb : Below wq.heap.size wq W) => sameNK (c := c1) (c2 := c3) hb smCA smCB (ra.later hb) (rb.later hb) hq1)
  have J13 := Lib.hid (fun (W : World) (hb : Below wq.heap.size wq W) => sameSK (d := c2) (d2 := c4) hb smCA smCB (ra.later hb) (rb.later hb) hq2)
  have hqq : decide (can a = can b) = (q1 && q2) := by rw [can_eq_split, HCA.out, HCB.out, hq1, hq2]
  have J14 := Lib.hid (fun (W : World) (hb : Below wq.heap.size wq W) => equalK (c := ca) (d := da) (c2 := cb) (d2 := db) hb (HOK.out W (hBq.trans (hb.mono hzq))) SA.out SB.out (HRA.out W (hBq.trans (hb.mono hzq))) (HRB.out W (hBq.trans (hb.mono hzq))) hqq)
  have J15 := Lib.hid (fun (W : World) (hb : Below wq.heap.size wq W) => equalK (c := cb) (d := db) (c2 := ca) (d2 := da) hb (HOK.out W (hBq.trans (hb.mono hzq))) SB.out SA.out (HRB.out W (hBq.trans (hb.mono hzq))) (HRA.out W (hBq.trans (hb.mono hzq))) ((can_eq_flip a b).trans hqq))
  have J16 := Lib.hid (fun (W : World) (hb : Below wq.heap.size wq W) => plusK (c := ca) (d := da) (c2 := ca) (d2 := da) hb (HOK.out W (hBq.trans (hb.mono hzq))) SA.out SA.out (HRA.out W (hBq.trans (hb.mono hzq))) (HRA.out W (hBq.trans (hb.mono hzq))) haa)
  have J17 := Lib.hid (fun (W : World) (E E' : Option Addr) (d d' : Nat) (hb : Below wq.heap.size wq W) (h : WoAt W E E' aa) => equalK (c := d) (d := d') (c2 := ca) (d2 := da) hb (HOK.out W (hBq.trans (hb.mono hzq))) smAA SA.out h (HRA.out W (hBq.trans (hb.mono hzq))) (q := true) (by rw [← haa]; exact can_eq_self a))
  have J18 := Lib.hid (fun (W : World) (hb : Below wq.heap.size wq W) => minusK (c := ca) (d := da) (c2 := ca) (d2 := da) hb (HOK.out W (hBq.trans (hb.mono hzq))) SA.out SA.out (HRA.out W (hBq.trans (hb.mono hzq))) (HRA.out W (hBq.trans (hb.mono hzq))) hma)
  have J19 := Lib.hid (fun (W : World) (E E' : Option Addr) (d d' : Nat) (hb : Below wq.heap.size wq W) (h : WoAt W E E' ma) => emptyK (c := d) (d := d') hb (HOK.out W (hBq.trans (hb.mono hzq))) smMA h (by rw [← hma]; exact can_minus_self a))
  have SQ := Lib.hid (S14q.of xa xb xc bPP bPM bS bRr (Below.refl _ wq))
  have HSQ := Lib.hid (fun W (hb : Below wq.heap.size wq W) => S14q.of xa xb xc bPP bPM bS bRr hb)
  have HSA := Lib.hid (fun W (hb : Below wq.heap.size wq W) => S4c.of xa xb hb)
  have HPQ := Lib.hid (fun W (hb : Below wq.heap.size wq W) => S4c.of bP bQ hb)
  have hq0 := (Below.refl wq.heap.size wq).drew
  clear smP smM smBC smABC smPC smAA smMA smR smCA smCB hbc habc hpc haa hma hq1 hq2 hqq HPAB HM HRST HCA HCB HOK HRA HRB HRC SA SB SC LA LB LC
  clear bP bQ ra rb rs rr bS bRr xa xb xc bPP bPM rp rm
  go_wp2_with fail
  go_region_held3 (fun W => W.cell? ⟨Z, 0, none⟩ = some (.slice A a.1.length ca) ∧ W.cell? ⟨Z, 1, none⟩ = some (.slice A' a.2.length da) ∧ W.cell? ⟨ZB, 0, none⟩ = some (.slice B b.1.length cb) ∧ W.cell? ⟨ZB, 1, none⟩ = some (.slice B' b.2.length db) ∧ W.cell? ⟨ZC, 0, none⟩ = some (.slice C c.1.length cc) ∧ W.cell? ⟨ZC, 1, none⟩ = some (.slice C' c.2.length dc) ∧ W.cell? ⟨PP, 0, none⟩ = some (.slice A7 pab.1.length c7) ∧ W.cell? ⟨PP, 1, none⟩ = some (.slice A8 pab.2.length c8) ∧ W.cell? ⟨PM, 0, none⟩ = some (.slice A9 mab.1.length c9) ∧ W.cell? ⟨PM, 1, none⟩ = some (.slice A10 mab.2.length c10) ∧ W.cell? ⟨S9, 0, none⟩ = some (.slice A5 pab.1.length c5) ∧ W.cell? ⟨S9, 1, none⟩ = some (.slice A6 pab.2.length c6) ∧ W.cell? ⟨R, 0, none⟩ = some (.slice A11 ts.length c11) ∧ W.cell? ⟨R, 1, none⟩ = some (.slice A12 t2.length c12)) (first | with_reducible exact SQ.out | with_reducible exact HSQ.out _ hq0 | with_reducible assumption) (first
    | (go_at_call 28; (with_reducible refine (J1.out _ hq0).mono ?_); rintro e w1 ⟨rfl, hq1⟩; have T1 := HSQ.out _ hq1)
    | (go_at_call 28; (with_reducible refine (J2.out _ hq1).mono ?_); rintro e w2 ⟨rfl, hq2⟩; have T2 := HSQ.out _ hq2)
    | (go_at_call 13; (with_reducible refine (J3.out _ hq2).mono ?_); rintro e w3 ⟨rfl, hq3⟩; have T3 := HSQ.out _ hq3)
    | (go_at_call 14; (with_reducible refine (J4.out _ hq3).mono ?_); rintro e w4 ⟨rfl, hq4⟩; have T4 := HSQ.out _ hq4)
    | (go_at_call 29; (with_reducible refine (J5.out _ hq4).mono ?_); rintro e w5 ⟨rfl, hq5⟩; have T5 := HSQ.out _ hq5)
    | (go_at_call 26; (with_reducible refine (J6.out _ hq5).mono ?_); rintro e w6 ⟨B6, d6, E6, g6, rfl, o6, hx6, hq6⟩; have T6 := HSQ.out _ hq6)
    | (go_at_call 29; (with_reducible refine (J7.out _ _ _ _ _ hq6 o6).mono ?_); rintro e w7 ⟨rfl, hq7⟩; have T7 := HSQ.out _ hq7)
    | (go_at_call 26; (with_reducible refine (J8.out _ hq7).mono ?_); rintro e w8 ⟨B8, d8, E8, g8, rfl, o8, hx8, hq8⟩; have T8 := HSQ.out _ hq8)
    | (go_at_call 26; (with_reducible refine (J9.out _ _ _ _ _ hq8 o8).mono ?_); rintro e w9 ⟨B9, d9, E9, g9, rfl, o9, hx9, hq9⟩; have T9 := HSQ.out _ hq9)
    | (go_at_call 26; (with_reducible refine (J10.out _ hq9).mono ?_); rintro e w10 ⟨B10, d10, E10, g10, rfl, o10, hx10, hq10⟩; have T10 := HSQ.out _ hq10; have o99 := o9.later hx10)
    | (go_at_call 29; (with_reducible refine (J11.out _ _ _ _ _ _ _ _ _ hq10 o99 o10).mono ?_); rintro e w11 ⟨rfl, hq11⟩; have T11 := HSQ.out _ hq11))
  have pq := HPQ.out _ hq11
  obtain ⟨e0, e1, e2, e3⟩ := pq
  go_upto_region 19 with fail
  go_cut [15] from 16 to 198 (fun s15 W => s15 = .bool (q1 && q2) ∧ Below wq.heap.size wq W)
  case first =>
    cases q1 with
    | false =>
      go_wp2_with fail
      refine (J12.out _ hq11).mono ?_
      rintro e w12 ⟨rfl, hq12⟩
      go_wp2_with fail
      go_meet
      exact ⟨rfl, hq12⟩
    | true =>
      go_wp2_with fail
      refine (J12.out _ hq11).mono ?_
      rintro e w12 ⟨rfl, hq12⟩
      obtain ⟨e0, e1, e2, e3⟩ := HPQ.out _ hq12
      go_wp2_with fail
      refine (J13.out _ hq12).mono ?_
      rintro e w13 ⟨rfl, hq13⟩
      go_wp2_with fail
      go_meet
      exact ⟨by simp, hq13⟩
  case rest =>
    obtain ⟨rfl, hqc⟩ := hcut
    generalize (q1 && q2) = qq at *
    clear J1 J2 J3 J4 J5 J6 J7 J8 J9 J10 J11 J12 J13 SQ HSQ HPQ e0 e1 e2 e3
    have SZ := Lib.hid (HSA.out _ hqc)
    have hqd := hqc.drew
    go_wp2_with fail
    cases qq with
    | false =>
      go_region_held3 (fun W => W.cell? ⟨Z, 0, none⟩ = some (.slice A a.1.length ca) ∧ W.cell? ⟨Z, 1, none⟩ = some (.slice A' a.2.length da) ∧ W.cell? ⟨ZB, 0, none⟩ = some (.slice B b.1.length cb) ∧ W.cell? ⟨ZB, 1, none⟩ = some (.slice B' b.2.length db)) (first | with_reducible exact SZ.out | with_reducible exact HSA.out _ hqd | with_reducible assumption) (first
        | (go_at_call 29; (with_reducible refine (J14.out _ hqd).mono ?_); rintro e w1 ⟨rfl, hz1⟩; have T1 := HSA.out _ hz1)
        | (go_at_call 29; (with_reducible refine (J15.out _ hz1).mono ?_); rintro e w2 ⟨rfl, hz2⟩; have T2 := HSA.out _ hz2)
        | (go_at_call 26; (with_reducible refine (J16.out _ hz2).mono ?_); rintro e w3 ⟨B6, d6, E6, g6, rfl, o6, hx6, hz3⟩; have T3 := HSA.out _ hz3)
        | (go_at_call 29; (with_reducible refine (J17.out _ _ _ _ _ hz3 o6).mono ?_); rintro e w4 ⟨rfl, hz4⟩; have T4 := HSA.out _ hz4)
        | (go_at_call 27; (with_reducible refine (J18.out _ hz4).mono ?_); rintro e w5 ⟨B8, d8, E8, g8, rfl, o8, hx8, hz5⟩; have T5 := HSA.out _ hz5)
        | (go_at_call 19; (with_reducible refine (J19.out _ _ _ _ _ hz5 o8).mono ?_); rintro e w6 ⟨rfl, hz6⟩; have T6 := HSA.out _ hz6))
      go_wp2_with fail
      exact hK _ _ rfl (hBq.trans (hz6.mono hzq))
    | true =>
      go_region_held3 (fun W => W.cell? ⟨Z, 0, none⟩ = some (.slice A a.1.length ca) ∧ W.cell? ⟨Z, 1, none⟩ = some (.slice A' a.2.length da) ∧ W.cell? ⟨ZB, 0, none⟩ = some (.slice B b.1.length cb) ∧ W.cell? ⟨ZB, 1, none⟩ = some (.slice B' b.2.length db)) (first | with_reducible exact SZ.out | with_reducible exact HSA.out _ hqd | with_reducible assumption) (first
        | (go_at_call 29; (with_reducible refine (J14.out _ hqd).mono ?_); rintro e w1 ⟨rfl, hz1⟩; have T1 := HSA.out _ hz1)
        | (go_at_call 29; (with_reducible refine (J15.out _ hz1).mono ?_); rintro e w2 ⟨rfl, hz2⟩; have T2 := HSA.out _ hz2)
        | (go_at_call 26; (with_reducible refine (J16.out _ hz2).mono ?_); rintro e w3 ⟨B6, d6, E6, g6, rfl, o6, hx6, hz3⟩; have T3 := HSA.out _ hz3)
        | (go_at_call 29; (with_reducible refine (J17.out _ _ _ _ _ hz3 o6).mono ?_); rintro e w4 ⟨rfl, hz4⟩; have T4 := HSA.out _ hz4)
        | (go_at_call 27; (with_reducible refine (J18.out _ hz4).mono ?_); rintro e w5 ⟨B8, d8, E8, g8, rfl, o8, hx8, hz5⟩; have T5 := HSA.out _ hz5)
        | (go_at_call 19; (with_reducible refine (J19.out _ _ _ _ _ hz5 o8).mono ?_); rintro e w6 ⟨rfl, hz6⟩; have T6 := HSA.out _ hz6))
      go_wp2_with fail
      exact hK _ _ rfl (hBq.trans (hz6.mono hzq))

end Go.Proofs.YtnibcffcbnjllaaGreatDoor
