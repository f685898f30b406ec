/- versions: Build at the three actions. -/
import Derived.Test.YtlpmiimgacfmkaaGreatDoorRVe2
set_option linter.all false
namespace Go.Proofs.YtlpmiimgacfmkaaGreatDoor
open Go.RowKit
set_option maxRecDepth 100000
set_option maxHeartbeats 4000000
def VerDone (w:World) (b:Nat):Prop:=∃ pb pl mw mr A c K kc g0 g1 c0 c1,BoxN w b 196 #[.pointer (some ⟨pb,0,none⟩),.slice A 3 c,.slice K 1 kc,.pointer (some ⟨pl,0,none⟩),.map (some mw),.map (some mr)]∧StAt w pb .nil ∧
 MapIs Tryz.prog 31 w mw [(portV 1,.slice (some ⟨g0,0,none⟩) 1 c0),(portV 2,.slice (some ⟨g1,0,none⟩) 1 c1)]∧Cs w g1 [.int .i64 1,.string ⟨#[121,122]⟩,.bool false]
theorem VerDone.fr0 {w w':World} {b:Nat} (h:VerDone w b) (hf:Fr [] w w'):VerDone w' b:=by
 obtain⟨pb,pl,mw,mr,A,c,K,kc,g0,g1,c0,c1,h1,h2,h3,h4⟩:=h
 exact⟨pb,pl,mw,mr,A,c,K,kc,g0,g1,c0,c1,h1.fr hf (by simp),h2.fr0 hf,h3.fr hf (by simp),h4.fr0 hf⟩
theorem cmp10:cmpK a1.k a0.k=1:=by decide
theorem cmp21:cmpK a2.k a1.k=1:=by decide
theorem lt_a0:∀ x:AV,x.a=a0→∀ w,x.ok w→∃ cb xd,x=AV.mk ⟨1,.nil,.one 1 ⟨#[120]⟩ false⟩ none 0 (some ⟨cb,0,none⟩) xd:=by
 rintro⟨_,A,c,B,d⟩ rfl w h
 obtain⟨hA,hc⟩:=h.nr rfl
 obtain⟨cb,hB,_⟩:=h.w
 dsimp only at hA hc hB
 subst hA hc hB
 exact⟨cb,d,rfl⟩
theorem lt_a1:∀ x:AV,x.a=a1→∀ w,x.ok w→∃ ca xc cb xd,x=AV.mk ⟨2,.one 1 ⟨#[120]⟩ false,.one 2 ⟨#[121,122]⟩ false⟩ (some ⟨ca,0,none⟩) xc (some ⟨cb,0,none⟩) xd:=by
 rintro⟨_,A,c,B,d⟩ rfl w h
 obtain⟨ca,hA,_⟩:=h.r
 obtain⟨cb,hB,_⟩:=h.w
 dsimp only at hA hB
 subst hA hB
 exact⟨ca,c,cb,d,rfl⟩
theorem lt_a2:∀ x:AV,x.a=a2→∀ w,x.ok w→∃ ca xc,x=AV.mk ⟨3,.one 3 ⟨#[]⟩ true,.nil⟩ (some ⟨ca,0,none⟩) xc none 0:=by
 rintro⟨_,A,c,B,d⟩ rfl w h
 obtain⟨hB,hd⟩:=h.nw rfl
 obtain⟨ca,hA,_⟩:=h.r
 dsimp only at hA hB hd
 subst hA hB hd
 exact⟨ca,c,rfl⟩
theorem VBuild_3 (p L cL:Nat) (y0 y1 y2:AV) (w:World) (hok:Ok w) (h:StAt w p .nil) (hL:Cs w L ([y0,y1,y2].flatMap AV.cs)) (h0:y0.ok w) (h1:y1.ok w) (h2:y2.ok w) (e0:y0.a=a0) (e1:y1.a=a1) (e2:y2.a=a2) :
 Calls Tryz.prog 42 #[.pointer (some ⟨p,0,none⟩),.slice (some ⟨L,0,none⟩) 3 cL] w fun e w'=>∃ b,e=.returned (.tuple #[.pointer (some ⟨b,0,none⟩),.int .i64 0])∧VerDone w' b∧Fr [] w w':=by
 obtain⟨cb0,xd0,rfl⟩:=lt_a0 y0 e0 w h0
 obtain⟨ca1,xc1,cb1,xd1,rfl⟩:=lt_a1 y1 e1 w h1
 obtain⟨ca2,xc2,rfl⟩:=lt_a2 y2 e2 w h2
 have hmk:=run_makeMap w 193
 obtain⟨w1,hw1⟩:=nmd (w.alloc (.map #[] 0))
 have hm1:MapIs Tryz.prog 31 w1 w.heap.size []:=by rw[←hw1];exact MapIs.new w
 have hf1:Fr [] w w1:=by rw[←hw1];exact (Fr.refl [] w).alloc _
 have hz1:w1.heap.size=w.heap.size+1:=by rw[←hw1];simp
 rw[hw1] at hmk
 have hmk2:=run_makeMap w1 194
 obtain⟨w2,hw2⟩:=nmd (w1.alloc (.map #[] 0))
 have hm2:MapIs Tryz.prog 31 w2 w1.heap.size []:=by rw[←hw2];exact MapIs.new w1
 have hf2:Fr [] w1 w2:=by rw[←hw2];exact (Fr.refl [] w1).alloc _
 have hz2:w2.heap.size=w1.heap.size+1:=by rw[←hw2];simp
 rw[hw2] at hmk2
 have HZ:=Hd (And.intro hz1 hz2)
 have HM1:=Hd (hm1.fr hf2 (by simp))
 have HM2:=Hd hm2
 have HF2:=Hd (hf1.then hf2)
 have HP0:=Hd (And.intro h (And.intro hL (And.intro h0 (And.intro h1 h2))))
 have HOK:=Hd hok
 clear hw1 hm1 hf1 hw2 hm2 hf2 hz1 hz2 h hL h0 h1 h2 e0 e1 e2 hok
 go_enter Tryz.func42,Tryz.ntmps42
 go_upto_region 4 with fail
 obtain⟨w3,hw3,hb3,hf3⟩:=bxn w2 #[.pointer (some ⟨p,0,none⟩),.slice none 0 0,.slice none 0 0,.pointer (some ⟨p,0,none⟩),.map (some w.heap.size),.map (some w1.heap.size)] 196
 rw[hw3]
 have hm1:=HM1.out.fr hf3 (by simp)
 have hm2:=HM2.out.fr hf3 (by simp)
 have hz:=HZ.out
 clear hw3 hmk hmk2
 obtain⟨mw,hmw⟩:=nmd (w.heap.size)
 obtain⟨mr,hmr⟩:=nmd (w1.heap.size)
 obtain⟨b,hbb⟩:=nmd (w2.heap.size)
 rw[hmw] at hm1 hb3 ⊢
 rw[hmr] at hm2 hb3 ⊢
 rw[hbb] at hb3 ⊢
 obtain⟨PW,hPW⟩:∃ PW:World→Prop,PW=fun W=>StAt W p .nil∧Cs W L ([(AV.mk ⟨1,.nil,.one 1 ⟨#[120]⟩ false⟩ none 0 (some ⟨cb0,0,none⟩) xd0),(AV.mk ⟨2,.one 1 ⟨#[120]⟩ false,.one 2 ⟨#[121,122]⟩ false⟩ (some ⟨ca1,0,none⟩) xc1 (some ⟨cb1,0,none⟩) xd1),(AV.mk ⟨3,.one 3 ⟨#[]⟩ true,.nil⟩ (some ⟨ca2,0,none⟩) xc2 none 0)].flatMap AV.cs)∧(AV.mk ⟨1,.nil,.one 1 ⟨#[120]⟩ false⟩ none 0 (some ⟨cb0,0,none⟩) xd0).ok W∧(AV.mk ⟨2,.one 1 ⟨#[120]⟩ false,.one 2 ⟨#[121,122]⟩ false⟩ (some ⟨ca1,0,none⟩) xc1 (some ⟨cb1,0,none⟩) xd1).ok W∧(AV.mk ⟨3,.one 3 ⟨#[]⟩ true,.nil⟩ (some ⟨ca2,0,none⟩) xc2 none 0).ok W:=⟨_,rfl⟩
 have hP0:∀ W,Fr [] w W→PW W:=fun W hW=>by
  rw[hPW]
  exact⟨HP0.out.1.fr0 hW,HP0.out.2.1.fr0 hW,HP0.out.2.2.1.fr0 hW,HP0.out.2.2.2.1.fr0 hW,HP0.out.2.2.2.2.fr0 hW⟩
 have hPW2:∀ W,PW W→StAt W p .nil∧Cs W L ([(AV.mk ⟨1,.nil,.one 1 ⟨#[120]⟩ false⟩ none 0 (some ⟨cb0,0,none⟩) xd0),(AV.mk ⟨2,.one 1 ⟨#[120]⟩ false,.one 2 ⟨#[121,122]⟩ false⟩ (some ⟨ca1,0,none⟩) xc1 (some ⟨cb1,0,none⟩) xd1),(AV.mk ⟨3,.one 3 ⟨#[]⟩ true,.nil⟩ (some ⟨ca2,0,none⟩) xc2 none 0)].flatMap AV.cs)∧(AV.mk ⟨1,.nil,.one 1 ⟨#[120]⟩ false⟩ none 0 (some ⟨cb0,0,none⟩) xd0).ok W∧(AV.mk ⟨2,.one 1 ⟨#[120]⟩ false,.one 2 ⟨#[121,122]⟩ false⟩ (some ⟨ca1,0,none⟩) xc1 (some ⟨cb1,0,none⟩) xd1).ok W∧(AV.mk ⟨3,.one 3 ⟨#[]⟩ true,.nil⟩ (some ⟨ca2,0,none⟩) xc2 none 0).ok W:=fun W h=>by rw[hPW] at h;exact h
 have HPW:=Hd hPW2
 have HVM3:Hid (∀ k∈VM b mw mr none none,w.heap.size≤k):=Hd (by simp[VM,blk];omega)
 have HV3:Hid (VerIs w3 b p p mw mr none 0 0 none 0 0 [] [] [] [] PW):=Hd ⟨hb3,Own.nil _ _ _,Own.nil _ _ _,hm1,hm2,by simp[blk];omega,by simp[blk];omega,by simp[blk],fun W hW=>hP0 W ((HF2.out.then hf3).trans hW (fun k hk=>.inr (HVM3.out k hk)))⟩
 have HF3:=Hd (HF2.out.then hf3)
 have HPZ:=Hd hP0
 clear hb3 hf3 hm1 hm2 hz hmw hmr hbb hPW hPW2 hP0 HM1 HM2 HF2 HP0 HZ
 go_wp2_with fail
 refine wp_loop_rounds 4 ?_
 have hp:=HPW.out _ (HV3.out.kept.now)
 rw[rounds_succ]
 have hcs:=(hp).2.1
 have z0:(w3).cell? ⟨L,0,none⟩=some (.int .i64 1):=hcs.2 0 _ rfl
 have z1:(w3).cell? ⟨L,1,none⟩=some (.int .i64 0):=hcs.2 1 _ rfl
 have z2:(w3).cell? ⟨L,2,none⟩=some (.int .i64 1):=hcs.2 2 _ rfl
 have z3:(w3).cell? ⟨L,3,none⟩=some (.string ⟨#[]⟩):=hcs.2 3 _ rfl
 have z4:(w3).cell? ⟨L,4,none⟩=some (.slice none 0 0):=hcs.2 4 _ rfl
 have z5:(w3).cell? ⟨L,5,none⟩=some (.slice (some ⟨cb0,0,none⟩) 1 xd0):=hcs.2 5 _ rfl
 clear hcs
 go_upto_region 7 with fail
 obtain⟨Y0,hY,nY,fY⟩:=bxn w3 #[.int .i64 1,.int .i64 0,.int .i64 1,.string ⟨#[]⟩,.slice none 0 0,.slice (some ⟨cb0,0,none⟩) 1 xd0] 91
 rw[hY]
 have HFY:=Hd fY
 have HVY:=Hd (HV3.out.fr0 fY)
 obtain⟨u0,u1,u2,u3,u4,u5⟩:=nY.m6
 clear hY nY fY z0 z1 z2 z3 z4 z5
 have hpY:=HPW.out _ (HVY.out.kept.now)
 have hokY:Ok Y0:=HOK.out.fr0 (HF3.out.then HFY.out)
 have hA:Calls Tryz.prog 98 #[.pointer (some ⟨b,0,none⟩),.agg #[.int .i64 1,.int .i64 0,.int .i64 1,.string ⟨#[]⟩,.slice none 0 0,.slice (some ⟨cb0,0,none⟩) 1 xd0]] Y0 _:=VAppend_0 1 1 ⟨#[120]⟩ cb0 xd0 b p p mw mr 0 0 none none [] [] [] PW .nil (fun r=>∃ n,r=sing n 1 ⟨#[120]⟩) Y0 HVY.out hpY.1 (fun k hk hm=>by
  have h1:=HVM3.out k hm
  have h2:=(HPW.out _ (HPZ.out w (Fr.refl [] w))).1.lt k hk
  omega) hokY (HVY.out.kept.imp (fun W h=>(HPW.out W h).2.2.1)) a0_good (by simp) keyOf_port1
  (fun W hW=>ApplyS_first p cb0 xd0 1 ⟨#[120]⟩ _ W (hokY.fr0 hW) (hpY.1.fr0 hW) (CLat.cs (hpY.2.2.1.w.fr0 hW)) good1)
 have HA:=Hd hA
 clear hA hpY hokY hp
 go_wp2_with ((go_at_call 98;(with_reducible refine HA.out.mono ?_);rintro e X4 ⟨rfl,pl4,t4,A4,c4,K4,kc4,ks4,q0,g0,gc0,hq0,⟨n4,rfl⟩,hst4,hd4,hV4,hfr4,hM4⟩;have HV4:=Hd hV4;have HST4:=Hd (And.intro hst4 hd4);have HVM4:=Hd (fun k hk=>show w.heap.size≤k from (hM4 k hk).elim (fun h=>HVM3.out k h) (fun h=>Nat.le_trans (HF3.out.then HFY.out).size h));have HF4:Hid (Fr [] w X4):=Hd ((HF3.out.then HFY.out).trans hfr4 (fun k hk=>.inr (HVM3.out k hk)));have HQ0:=Hd hq0;clear hst4 hd4 hV4 hfr4 hM4 hq0))
 clear HA HVY HFY HV3 u0 u1 u2 u3 u4 u5
 have hp:=HPW.out _ (HV4.out.kept.now).1.1
 rw[rounds_succ]
 have hcs:=(hp).2.1
 have z0:(X4).cell? ⟨L,6,none⟩=some (.int .i64 2):=hcs.2 6 _ rfl
 have z1:(X4).cell? ⟨L,7,none⟩=some (.int .i64 0):=hcs.2 7 _ rfl
 have z2:(X4).cell? ⟨L,8,none⟩=some (.int .i64 2):=hcs.2 8 _ rfl
 have z3:(X4).cell? ⟨L,9,none⟩=some (.string ⟨#[]⟩):=hcs.2 9 _ rfl
 have z4:(X4).cell? ⟨L,10,none⟩=some (.slice (some ⟨ca1,0,none⟩) 1 xc1):=hcs.2 10 _ rfl
 have z5:(X4).cell? ⟨L,11,none⟩=some (.slice (some ⟨cb1,0,none⟩) 1 xd1):=hcs.2 11 _ rfl
 clear hcs
 go_upto_region 7 with fail
 obtain⟨Y1,hY,nY,fY⟩:=bxn X4 #[.int .i64 2,.int .i64 0,.int .i64 2,.string ⟨#[]⟩,.slice (some ⟨ca1,0,none⟩) 1 xc1,.slice (some ⟨cb1,0,none⟩) 1 xd1] 91
 rw[hY]
 have HFY:=Hd fY
 have HVY:=Hd (HV4.out.fr0 fY)
 obtain⟨u0,u1,u2,u3,u4,u5⟩:=nY.m6
 clear hY nY fY z0 z1 z2 z3 z4 z5
 have hpY:=HPW.out _ (HVY.out.kept.now).1.1
 have hokY:Ok Y1:=HOK.out.fr0 (HF4.out.then HFY.out)
 have hstY:=HST4.out.1.fr0 HFY.out
 have hA:Calls Tryz.prog 98 #[.pointer (some ⟨b,0,none⟩),.agg #[.int .i64 2,.int .i64 0,.int .i64 2,.string ⟨#[]⟩,.slice (some ⟨ca1,0,none⟩) 1 xc1,.slice (some ⟨cb1,0,none⟩) 1 xd1]] Y1 _:=VAppend_1 2 1 ⟨#[120]⟩ false 2 ⟨#[121,122]⟩ cb1 xd1 q0 ca1 xc1 b p pl4 mw mr c4 kc4 A4 K4 ks4 _ [] _ (sing n4 1 ⟨#[120]⟩) (fun r=>∃ b3 b2,r=two b3 1 ⟨#[120]⟩ b2 2 ⟨#[121,122]⟩) Y1 HVY.out hstY HST4.out.2 hokY (HVY.out.kept.imp (fun W h=>(HPW.out W h.1.1).2.2.2.1)) a1_good (by rw[HQ0.out];exact cmp10) (by simp[portV]) keyOf_port2 (by simp) keyOf_port1
  (fun W hW=>ApplyS_second pl4 n4 cb1 xd1 1 2 ⟨#[120]⟩ ⟨#[121,122]⟩ _ W (hokY.fr0 hW) (hstY.fr0 hW) (by decide) (CLat.cs (hpY.2.2.2.1.w.fr0 hW)) good2 (by decide))
 have HA:=Hd hA
 clear hA hpY hokY hp hstY
 go_wp2_with ((go_at_call 98;(with_reducible refine HA.out.mono ?_);rintro e X5 ⟨rfl,pl5,t5,A5,c5,q1,g1,gc1,rv1,hq1,⟨b3,b2,rfl⟩,hst5,hd5,hV5,hfr5,hM5⟩;have HV5:=Hd hV5;have HST5:=Hd (And.intro hst5 hd5);have HVM5:=Hd (fun k hk=>show w.heap.size≤k from (hM5 k hk).elim (fun h=>HVM4.out k h) (fun h=>Nat.le_trans (HF4.out.then HFY.out).size h));have HF5:Hid (Fr [] w X5):=Hd ((HF4.out.then HFY.out).trans hfr5 (fun k hk=>.inr (HVM4.out k hk)));have HQ1:=Hd hq1;clear hst5 hd5 hV5 hfr5 hM5 hq1))
 clear HA HVY HFY HV4 HST4 u0 u1 u2 u3 u4 u5
 have hp:=HPW.out _ (HV5.out.kept.now).1.1.1.1
 rw[rounds_succ]
 have hcs:=(hp).2.1
 have z0:(X5).cell? ⟨L,12,none⟩=some (.int .i64 3):=hcs.2 12 _ rfl
 have z1:(X5).cell? ⟨L,13,none⟩=some (.int .i64 0):=hcs.2 13 _ rfl
 have z2:(X5).cell? ⟨L,14,none⟩=some (.int .i64 3):=hcs.2 14 _ rfl
 have z3:(X5).cell? ⟨L,15,none⟩=some (.string ⟨#[]⟩):=hcs.2 15 _ rfl
 have z4:(X5).cell? ⟨L,16,none⟩=some (.slice (some ⟨ca2,0,none⟩) 1 xc2):=hcs.2 16 _ rfl
 have z5:(X5).cell? ⟨L,17,none⟩=some (.slice none 0 0):=hcs.2 17 _ rfl
 clear hcs
 go_upto_region 7 with fail
 obtain⟨Y2,hY,nY,fY⟩:=bxn X5 #[.int .i64 3,.int .i64 0,.int .i64 3,.string ⟨#[]⟩,.slice (some ⟨ca2,0,none⟩) 1 xc2,.slice none 0 0] 91
 rw[hY]
 have HFY:=Hd fY
 have HVY:=Hd (HV5.out.fr0 fY)
 obtain⟨u0,u1,u2,u3,u4,u5⟩:=nY.m6
 clear hY nY fY z0 z1 z2 z3 z4 z5
 have hpY:=HPW.out _ (HVY.out.kept.now).1.1.1.1
 have hokY:Ok Y2:=HOK.out.fr0 (HF5.out.then HFY.out)
 have hstY:=HST5.out.1.fr0 HFY.out
 have hA:Calls Tryz.prog 98 #[.pointer (some ⟨b,0,none⟩),.agg #[.int .i64 3,.int .i64 0,.int .i64 3,.string ⟨#[]⟩,.slice (some ⟨ca2,0,none⟩) 1 xc2,.slice none 0 0]] Y2 _:=VAppend_2 3 3 ⟨#[]⟩ true q0 q1 ca2 xc2 b p pl5 mw mr c5 kc4 A5 K4 ks4 _ _ _ (two b3 1 ⟨#[120]⟩ b2 2 ⟨#[121,122]⟩) (fun r=>r=two b3 1 ⟨#[120]⟩ b2 2 ⟨#[121,122]⟩) Y2 HVY.out hstY HST5.out.2 hokY (HVY.out.kept.imp (fun W h=>(HPW.out W h.1.1.1.1).2.2.2.2)) a2_good (by rw[HQ1.out];exact cmp21) (by simp[portV]) keyOf_port3
  (fun W hW=>ApplyS_none pl5 0 none _ W (hstY.fr0 hW))
 have HA:=Hd hA
 clear hA hpY hokY hp hstY
 go_wp2_with ((go_at_call 98;(with_reducible refine HA.out.mono ?_);rintro e X6 ⟨rfl,pl6,t6,A6,c6,q2,rv2,hq2,ht6,hst6,hd6,hV6,hfr6,hM6⟩;have HV6:=Hd hV6;have HF6:Hid (Fr [] w X6):=Hd ((HF5.out.then HFY.out).trans hfr6 (fun k hk=>.inr (HVM5.out k hk)));clear hst6 hd6 hV6 hfr6 hM6 hq2 ht6))
 clear HA HVY HFY HV5 HST5 u0 u1 u2 u3 u4 u5
 rw[rounds_succ]
 go_wp2_with fail
 go_ret2
 have hV:=HV6.out
 have hPW:=hV.kept.now
 exact⟨b,rfl,⟨p,pl6,mw,mr,A6,c6,K4,kc4,g0,g1,gc0,gc1,hV.box,(HPW.out _ hPW.1.1.1.1.1).1,hV.wm,hPW.1.2⟩,HF6.out⟩
theorem Own.new (w:World) (e:TypeId) (size n:Nat) (cs:List Value) (hl:cs.length=n*size) (hn:n≤maxLen):Own (w.alloc (.cells cs.toArray e)) e size (some ⟨w.heap.size,0,none⟩) n n cs :=
 ⟨hl,.inr ⟨w.heap.size,n,cs.toArray,rfl,Nat.zero_le _,World.alloc_heap_new w _,Nat.le_refl _,hn,by simpa using hl,by rw[←hl];simp⟩⟩
theorem LenV_any (b:Nat) (w:World) (h:VerDone w b):Calls Tryz.prog 99 #[.pointer (some ⟨b,0,none⟩)] w fun e w'=>e=.returned (.int .i64 3)∧w=w':=by
 obtain⟨pb,pl,mw,mr,A,c,K,kc,g0,g1,c0,c1,h1,h2,h3,h4⟩:=h
 obtain⟨x0,x1⟩:=h1.m2
 have HN:=Hd (noneV_any b pb w x0)
 clear h1 h2 h3 h4
 go_enter Tryz.func99,Tryz.ntmps99
 go_wp2_with ((go_at_call 157;(with_reducible refine HN.out.mono ?_);rintro e w' ⟨rfl,rfl⟩))
 go_ret
 exact⟨rfl,rfl⟩
theorem FirstV_any (b:Nat) (i:Int) (w:World) (h:VerDone w b):Calls Tryz.prog 192 #[.pointer (some ⟨b,0,none⟩),portV i] w (RetPost w (.agg #[.int .i64 (-1),.string ⟨#[]⟩,.bool true])):=by
 obtain⟨pb,pl,mw,mr,A,c,K,kc,g0,g1,c0,c1,h1,h2,h3,h4⟩:=h
 obtain⟨w1,hw1,hn1,hf1⟩:=bxn w #[.int .i64 16,.string ⟨#[]⟩,.int .i64 i,.int .i64 0,.string ⟨#[]⟩] 31
 have hz1:w1.heap.size=w.heap.size+1:=by rw[←hw1];simp
 obtain⟨w2,hw2⟩:=nmd (w1.alloc (.cells #[.int .i64 0,.string ⟨#[]⟩,.bool false] 201))
 have hn2:BoxN w2 (w.heap.size+1) 201 #[.int .i64 0,.string ⟨#[]⟩,.bool false]:=by rw[←hw2,←hz1];exact BoxN.new w1 _ _
 have hf2:Fr [] w1 w2:=by rw[←hw2];exact (Fr.refl [] w1).alloc _
 have hf02:=hf1.then hf2
 have hG:∀ W,Fr [] w2 W→Calls Tryz.prog 40 #[.pointer (some ⟨pb,0,none⟩),.agg #[.int .i64 16,.string ⟨#[]⟩,.int .i64 i,.int .i64 0,.string ⟨#[]⟩]] W (RetPost W (.tuple #[.string ⟨#[]⟩,.bool false])):=fun W hW=>Get_nil pb i W (h2.fr0 (hf02.then hW))
 have hCell:∀ W,Fr [] w2 W→W.cell? ⟨b,0,none⟩=some (.pointer (some ⟨pb,0,none⟩))∧W.cell? ⟨w.heap.size,0,none⟩=some (.int .i64 16)∧W.cell? ⟨w.heap.size,1,none⟩=some (.string ⟨#[]⟩)∧W.cell? ⟨w.heap.size,2,none⟩=some (.int .i64 i)∧W.cell? ⟨w.heap.size,3,none⟩=some (.int .i64 0)∧W.cell? ⟨w.heap.size,4,none⟩=some (.string ⟨#[]⟩):=fun W hW=>by
  have k1:=h1.fr (hf02.then hW) (by simp)
  have k2:=hn1.fr (hf2.then hW) (by simp)
  exact⟨k1.c 0,k2.c 0,k2.c 1,k2.c 2,k2.c 3,k2.c 4⟩
 have HG:=Hd hG
 have HSS:=Hd hCell
 have HN2:=Hd hn2
 have HF2:=Hd hf02
 have HW:=Hd (And.intro hw1 hw2)
 unfold portV
 clear hG hCell hn2 hf02 hw1 hw2 hn1 hf1 hz1 hf2 h1 h2 h3 h4
 go_enter Tryz.func192,Tryz.ntmps192
 go_upto_region 1 with fail
 rw[HW.out.1,HW.out.2]
 have hC:Fr [] w2 w2.drew:=(Fr.refl [] w2).drew
 refine wp_region_head (fun W:World=>Fr [] w2 W) 10 (by kernel_rfl) ?_ (by decide)
 show headJ 0 _ _ _ _ _ _ _ _ _ _ _
 iterate 5
  refine hdJ (v:=?_) rfl (Or.inl ⟨by rfl,?_⟩) ?_
  rotate_left
  ·intro W hW;obtain⟨b0,y0,y1,y2,y3,y4⟩:=HSS.out W hW;go_simp;try with_reducible rfl
  try simp only[Act.put,qA,qB,qC,qD,qE,qF]
 refine headI_only (i:=5) (by kernel_rfl) (by decide) rfl (fun K hK=>?_)
 rw[if_pos (by rfl)]
 go_simp
 go_at_call 40
 (with_reducible refine (HG.out _ hC).mono ?_)
 rintro e w4 ⟨rfl,hf4⟩
 have hC4:=hC.then hf4
 refine hK _ _ hC4 ?_
 clear hK K hC hf4
 try simp only[Act.put,qA,qB,qC,qD,qE,qF]
 show headJ 6 _ _ _ _ _ _ _ _ _ _ _
 iterate 4
  refine hdJ (v:=?_) rfl (Or.inl ⟨by rfl,?_⟩) ?_
  rotate_left
  ·intro W hW;obtain⟨b0,y0,y1,y2,y3,y4⟩:=HSS.out W hW;go_simp;try with_reducible rfl
  try simp only[Act.put,qA,qB,qC,qD,qE,qF]
 refine headI_done ⟨by kernel_rfl,?_⟩
 simp only[List.drop_succ_cons,List.drop_zero]
 have hn:=HN2.out.fr hC4 (by simp)
 obtain⟨u0,u1,u2⟩:=hn.m3
 have g0:=hn.f 0
 have g1:=hn.f 1
 have g2:=hn.f 2
 have HN:=Hd hn
 have HF:=Hd (HF2.out.then hC4)
 clear hn hC4 HSS HG
 go_wp2_with fail
 obtain⟨w5,hw5⟩:=nmd (((w4.setCell ⟨w.heap.size+1,0,none⟩ (.int .i64 (-1))).setCell ⟨w.heap.size+1,1,none⟩ (.string ⟨#[]⟩)).setCell ⟨w.heap.size+1,2,none⟩ (.bool true))
 have hb5:BoxN w5 (w.heap.size+1) 201 #[.int .i64 (-1),.string ⟨#[]⟩,.bool true]:=by rw[←hw5];exact (((HN.out.setAt 0 _).setAt 1 _).setAt 2 _)
 have hf5:Fr [] w w5:=by rw[←hw5];exact ((HF.out.set (.inr (by simp)) _).set (.inr (by simp)) _).set (.inr (by simp)) _
 obtain⟨t0,t1,t2⟩:=hb5.m3
 have HF5:=Hd hf5
 rw[hw5]
 clear hw5 hb5 hf5 u0 u1 u2 g0 g1 g2
 exact bodyPost_ret (v:=.agg #[.int .i64 (-1),.string ⟨#[]⟩,.bool true]) (by simp[results,Tryz.results192,go_sem,t0,t1,t2]) rfl ⟨rfl,HF5.out⟩
def verC:List Value:=[.int .i64 (-1),.string ⟨#[]⟩,.bool true,.int .i64 1,.string ⟨#[121,122]⟩,.bool false]
theorem OfV_any (b:Nat) (w:World) (h:VerDone w b):Calls Tryz.prog 162 #[.pointer (some ⟨b,0,none⟩),portV 2] w fun e w'=>∃ g c,e=.returned (.slice (some ⟨g,0,none⟩) 2 c)∧Cs w' g verC∧Fr [] w w'∧w.heap.size≤g:=by
 have hFv:∀ W,Fr [] w W→Calls Tryz.prog 192 #[.pointer (some ⟨b,0,none⟩),.agg #[.int .i64 16,.string ⟨#[]⟩,.int .i64 2,.int .i64 0,.string ⟨#[]⟩]] W (RetPost W (.agg #[.int .i64 (-1),.string ⟨#[]⟩,.bool true])):=fun W hW=>FirstV_any b 2 W (h.fr0 hW)
 obtain⟨pb,pl,mw,mr,A,c,K,kc,g0,g1,c0,c1,h1,h2,h3,h4⟩:=h
 obtain⟨w1,hw1,hn1,hf1⟩:=bxn w #[.int .i64 16,.string ⟨#[]⟩,.int .i64 2,.int .i64 0,.string ⟨#[]⟩] 31
 obtain⟨kl,hkl⟩:=keyOf_port2
 have hCell:∀ W,Fr [] w1 W→(W.cell? ⟨b,4,none⟩=some (.map (some mw))∧(Instr.lookup 193 (.map (some mw)) (.agg #[.int .i64 16,.string ⟨#[]⟩,.int .i64 2,.int .i64 0,.string ⟨#[]⟩]) false).run Tryz.prog W=.ok (.slice (some ⟨g1,0,none⟩) 1 c1) W)∧W.cell? ⟨w.heap.size,0,none⟩=some (.int .i64 16)∧W.cell? ⟨w.heap.size,1,none⟩=some (.string ⟨#[]⟩)∧W.cell? ⟨w.heap.size,2,none⟩=some (.int .i64 2)∧W.cell? ⟨w.heap.size,3,none⟩=some (.int .i64 0)∧W.cell? ⟨w.heap.size,4,none⟩=some (.string ⟨#[]⟩):=fun W hW=>by
  have k1:=h1.fr (hf1.then hW) (by simp)
  have k2:=hn1.fr hW (by simp)
  have k3:=MapIs.look_some key_name Tryz.underlying193 (h3.fr (hf1.then hW) (by simp)) hkl (v:=.slice (some ⟨g1,0,none⟩) 1 c1) (by simp) false
  exact⟨⟨k1.c 4,k3⟩,k2.c 0,k2.c 1,k2.c 2,k2.c 3,k2.c 4⟩
 have x0:w1.cell? ⟨b,0,none⟩=some (.pointer (some ⟨pb,0,none⟩)):=(h1.fr hf1 (by simp)).c 0
 have HN:=Hd (noneV_any b pb w1 x0)
 have HFV:=Hd (fun (W:World) (hW:Fr [] w1 W)=>hFv W (hf1.then hW))
 have HSS:=Hd hCell
 have HF1:=Hd hf1
 have HW1:=Hd hw1
 have HG1:=Hd h4
 unfold portV
 clear hFv h1 h2 h3 h4 hw1 hn1 hf1 hkl hCell
 go_enter Tryz.func162,Tryz.ntmps162
 go_upto_region 1 with fail
 rw[HW1.out]
 go_upto_region 3 with ((go_at_call 157;(with_reducible refine HN.out.mono ?_);rintro e w' ⟨rfl,rfl⟩))
 have hC:Fr [] w1 w1.drew:=(Fr.refl [] w1).drew
 refine wp_region_head (fun W:World=>Fr [] w1 W) 10 (by kernel_rfl) ?_ (by decide)
 show headJ 0 _ _ _ _ _ _ _ _ _ _ _
 iterate 2
  refine hdJ (v:=?_) rfl (Or.inl ⟨by rfl,?_⟩) ?_
  rotate_left
  ·intro W hW;obtain⟨⟨b4,lk⟩,y0,y1,y2,y3,y4⟩:=HSS.out W hW;go_simp;try with_reducible rfl
  try simp only[Act.put,qA,qB,qC,qD,qE,qF]
 show headJ 4 _ _ _ _ _ _ _ _ _ _ _
 iterate 6
  refine hdJ (v:=?_) rfl (Or.inl ⟨by rfl,?_⟩) ?_
  rotate_left
  ·intro W hW;obtain⟨⟨b4,lk⟩,y0,y1,y2,y3,y4⟩:=HSS.out W hW;go_simp;try with_reducible rfl
  try simp only[Act.put,qA,qB,qC,qD,qE,qF]
 refine headI_only (i:=2) (by kernel_rfl) (by decide) rfl (fun K hK=>?_)
 rw[if_pos (by rfl)]
 go_simp
 go_at_call 192
 (with_reducible refine (HFV.out _ hC).mono ?_)
 rintro e w4 ⟨rfl,hf4⟩
 have hC4:=hC.then hf4
 refine hK _ _ hC4 ?_
 clear hK K hC hf4
 try simp only[Act.put,qA,qB,qC,qD,qE,qF]
 refine headI_only (i:=3) (by kernel_rfl) (by decide) rfl (fun K hK=>?_)
 rw[if_pos (by rfl)]
 go_simp
 obtain⟨w5,hw5⟩:=nmd (w4.alloc (.cells #[.int .i64 (-1),.string ⟨#[]⟩,.bool true] 201))
 have ho5:Own w5 201 3 (some ⟨w4.heap.size,0,none⟩) 1 1 [.int .i64 (-1),.string ⟨#[]⟩,.bool true]:=by rw[←hw5];exact Own.new w4 _ 3 1 _ rfl (by unfold maxLen;omega)
 have hf5:Fr [] w4 w5:=by rw[←hw5];exact (Fr.refl [] w4).alloc _
 rw[hw5]
 have hC5:=hC4.then hf5
 refine hK _ _ hC5 ?_
 clear hK K hw5
 try simp only[Act.put,qA,qB,qC,qD,qE,qF]
 refine headI_done ⟨by kernel_rfl,?_⟩
 simp only[List.drop_succ_cons,List.drop_zero]
 have HO5:=Hd ho5
 have HF5:=Hd (HF1.out.then hC5)
 have HZ5:=Hd (And.intro hC4.size HF1.out.size)
 have hcg:=HG1.out.fr0 HF5.out
 have HCG:=Hd hcg.2
 clear ho5 hC5 hC4 hf5 hcg HSS HFV
 obtain⟨jj,hjj,jz0,jz1,jz2⟩:=info_ver
 go_wp2_with (at_builtin;(with_reducible refine wpList_app (w:=w5) rfl (.tmp 10) (.tmp 16) 280 rfl 201 jj _ 3 32 Tryz.underlying280 hjj jz0 jz1 jz2 rfl (by decide) (some ⟨w4.heap.size,0,none⟩) 1 1 [.int .i64 (-1),.string ⟨#[]⟩,.bool true] rfl HO5.out ⟨g1,0,none⟩ 1 c1 [.int .i64 1,.string ⟨#[121,122]⟩,.bool false] rfl rfl (fun j u hu=>by rw[add_mid'];exact HCG.out j u hu) (by simp[Value.oneCell']) (by unfold maxLen;omega) (by omega) ?_);intro A6 c6 w6 ho6 hf6 hA6;have HO6:=Hd ho6;have HF6:=Hd hf6;have HA6:=Hd hA6;clear ho6 hf6 hA6)
 go_ret
 obtain⟨gg,rfl,hgg⟩:=Cs.of_own HO6.out (by omega)
 refine⟨gg,c6,rfl,hgg,HF5.out.trans HF6.out (by simp[blk];have:=HZ5.out;omega),?_⟩
 have hz:=HZ5.out
 have hz5:=HF5.out.size
 rcases HA6.out gg (by simp[blk]) with h | h
 ·simp[blk] at h;omega
 ·omega
end Go.Proofs.YtlpmiimgacfmkaaGreatDoor
