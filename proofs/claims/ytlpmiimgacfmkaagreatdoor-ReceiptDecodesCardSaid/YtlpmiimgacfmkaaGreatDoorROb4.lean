/- object: (Name).Encode. -/
import Derived.Lib.ConvBytes
import Derived.Test.YtlpmiimgacfmkaaGreatDoorROb2
import Derived.Test.YtlpmiimgacfmkaaGreatDoorRWr4
import Derived.Test.YtlpmiimgacfmkaaGreatDoorRRd3
set_option linter.all false
namespace Go.Proofs.YtlpmiimgacfmkaaGreatDoor
open Go.RowKit
set_option maxRecDepth 100000
set_option maxHeartbeats 4000000
def encOu (u:Usage) (n:ON):Nm :=
 ((((encU n.kind.toNat)++(if u.owner then encT n.owner else []))++(if u.number then encU n.number.toNat else []))++(if u.index then encU n.index.toNat else []))++(if u.text then encT n.text else [])
def encOn (n:ON):Nm:=encOu (us n.kind.toNat) n
def EncPost (w:World) (s:Nm) (r:Int) (e:Ending) (w':World):Prop:=e=.returned (.tuple #[encN s,.int .i64 r])∧Fr [] w w'
theorem EncodeO_bad (n:ON) (w:World) (hok:Ok w) (ho:n.owner.length≤4294967280) (ht:n.text.length≤4294967280) (r:Int) (hr:checkO n=r) (h0:r≠0):Calls Tryz.prog 55 #[encO n] w (EncPost w [] r):=by
 have hC:=fun W h=>Check_any n W h ho ht
 rw[hr] at hC
 have h1:(r != 0)=true:=by simpa using h0
 obtain⟨kind,owner,number,index,text⟩:=n
 unfold encO at hC ⊢
 simp only at hC ⊢
 obtain⟨os,hos,_,_⟩:=str_of owner
 obtain⟨ts,hts,_,_⟩:=str_of text
 rw[hos,hts] at hC ⊢
 obtain⟨w1,hw1,hb1,hf1⟩:=bxn w #[.int .i64 kind,.string os,.int .i64 number,.int .i64 index,.string ts] 31
 obtain⟨x0,x1,x2,x3,x4⟩:=hb1.m5
 have hC1:=hC w1 (hok.fr0 hf1)
 have HC1:=Hd hC1
 have HF1:=Hd hf1
 have HW1:=Hd hw1
 clear hC hC1 hf1 hw1 hb1 hos hts hok hr h0
 go_enter Tryz.func55,Tryz.ntmps55
 go_upto_region 1 with fail
 rw[HW1.out]
 go_wp2_with ((go_at_call 53;(with_reducible refine HC1.out.mono ?_);rintro e w2 ⟨rfl,hf2⟩;have HF2:=Hd (HF1.out.then hf2);clear hf2))
 go_ret2
 exact⟨rfl,HF2.out⟩
theorem us_most {k:Nat} (h:k<21):(us k).most≤1073741824:=by
 have:∀ y:Fin 21,(us y.val).most≤1073741824:=by decide
 exact this ⟨k,h⟩
theorem checkU_zero {u:Usage} {n:ON} (h:checkU u n=0):(u.number=true→withinB n.number 1073741824=true)∧(u.index=true→withinB n.index u.most=true)∧(u.text=true→wordB n.text=true):=by
 unfold checkU at h
 split at h
 ·simp at h
 split at h
 ·simp at h
 split at h
 ·simp at h
 split at h
 ·simp at h
 split at h
 ·simp at h
 split at h
 ·simp at h
 rename_i h6
 split at h
 ·simp at h
 rename_i h7
 split at h
 ·simp at h
 rename_i h8
 unfold tN at h6
 unfold tI at h7
 unfold tW at h8
 refine⟨fun e=>?_,fun e=>?_,fun e=>?_⟩
 ·rw[e] at h6;simpa using h6
 ·rw[e] at h7;simpa using h7
 ·rw[e] at h8;simpa using h8
def EncCut (a:World) (u:List Value) (s5 s6:Value) (W:World):Prop:=∃ P b,s5=.pointer (some ⟨P,0,none⟩)∧s6=.pointer (some ⟨b,0,none⟩)∧WrS W b [] W∧BoxN W P 216 u.toArray∧P≠b∧a.heap.size≤P∧a.heap.size≤b∧Fr [] a W
theorem name_cells {W:World} {B:Nat} {a b c d e:Value} {t:TypeId} (h:BoxN W B t #[a,b,c,d,e]):W.cell? ⟨B,1,none⟩=some b∧W.cell? ⟨B,2,none⟩=some c∧W.cell? ⟨B,3,none⟩=some d∧W.cell? ⟨B,4,none⟩=some e:=⟨h.c 1,h.c 2,h.c 3,h.c 4⟩
theorem use_cells {W:World} {B:Nat} {a b c d e f:Value} {t:TypeId} (h:BoxN W B t #[a,b,c,d,e,f]):W.cell? ⟨B,1,none⟩=some b∧W.cell? ⟨B,2,none⟩=some c∧W.cell? ⟨B,3,none⟩=some d∧W.cell? ⟨B,4,none⟩=some e:=⟨h.c 1,h.c 2,h.c 3,h.c 4⟩
theorem EncodeO_ok (n:ON) (w:World) (hok:Ok w) (ho:n.owner.length≤16777216) (ht:n.text.length≤4294967280) (hr:checkO n=0):Calls Tryz.prog 55 #[encO n] w (EncPost w (encOn n) 0):=by
 have hC:=fun W h=>Check_any n W h (by omega) ht
 rw[hr] at hC
 have hkb:kindB n.kind=true:=by
  unfold checkO at hr
  by_cases h:kindB n.kind=true
  ·exact h
  ·rw[if_neg h] at hr
   simp at hr
 obtain⟨k,hk,hk21⟩:∃ k:Nat,n.kind=(k:Int)∧k<21:=by
  simp only[kindB,decide_eq_true_eq] at hkb
  exact⟨n.kind.toNat,by omega,by omega⟩
 unfold checkO at hr
 rw[if_pos hkb] at hr
 unfold encOn
 obtain⟨kind,owner,number,index,text⟩:=n
 simp only at hk
 subst hk
 simp only[show ((k:Nat):Int).toNat=k from rfl] at hr ⊢
 obtain⟨q,hq⟩:=nmd (encOu (us k) ⟨(k:Int),owner,number,index,text⟩)
 rw[hq]
 unfold encOu at hq
 have hz:=checkU_zero hr
 have hmo:=us_most hk21
 clear hr
 unfold encO at hC ⊢
 simp only at hC hz hq ho ht ⊢
 obtain⟨os,hos,_,_⟩:=str_of owner
 obtain⟨ts,hts,_,_⟩:=str_of text
 rw[hos,hts] at hC ⊢
 obtain⟨w1,hw1,hb1,hf1⟩:=bxn w #[.int .i64 (k:Int),.string os,.int .i64 number,.int .i64 index,.string ts] 31
 obtain⟨x0,x1,x2,x3,x4⟩:=hb1.m5
 have hC1:=hC w1 (hok.fr0 hf1)
 have HOK:=Hd (hok.fr0 hf1)
 have HC1:=Hd hC1
 have HF1:=Hd hf1
 have HB1:=Hd hb1
 have HW1:=Hd hw1
 have HR:=Hd hz
 have HMO:=Hd hmo
 have HQ:=Hd hq
 have HOS:=Hd hos
 have HTS:=Hd hts
 have hk0:(k:Int)<21:=by omega
 clear hC hC1 hf1 hw1 hb1 hos hts hok hz hmo hq hkb
 go_enter Tryz.func55,Tryz.ntmps55
 go_upto_region 1 with fail
 rw[HW1.out]
 go_upto_region 4 with ((go_at_call 53;(with_reducible refine HC1.out.mono ?_);rintro e w2 ⟨rfl,hf2⟩;have HB2:=Hd (HB1.out.fr hf2 (by simp));have HF2:=Hd (HF1.out.then hf2);have HOK2:=Hd (HOK.out.fr0 hf2);clear hf2))
 clear HC1 HOK HB1 x0 x1 x2 x3 x4
 obtain⟨e0,e1,e2,e3,e4,e5⟩:=us_cells HOK2.out hk21
 obtain⟨u,hu⟩:=nmd (us k)
 rw[hu] at e0 e1 e2 e3 e4 e5 HR HQ HMO
 obtain⟨uw,uo,un,ui,ut,um⟩:=u
 simp only at e0 e1 e2 e3 e4 e5
 obtain⟨us,hus,_,_⟩:=str_of uw
 rw[hus] at e0
 obtain⟨x0,x1⟩:=HB2.out.m2
 clear hu hus
 have hlow:=HOK2.out.low
 have hlt:=HB2.out.lt
 have hss:∀ W,Fr [] w2 W→W.cell? ⟨w.heap.size,0,none⟩=some (.int .i64 (k:Int))∧W.cell? ⟨0,k*6,none⟩=some (.string us)∧W.cell? ⟨0,k*6+1,none⟩=some (.bool uo)∧W.cell? ⟨0,k*6+2,none⟩=some (.bool un)∧W.cell? ⟨0,k*6+3,none⟩=some (.bool ui)∧W.cell? ⟨0,k*6+4,none⟩=some (.bool ut)∧W.cell? ⟨0,k*6+5,none⟩=some (.int .i64 um):=fun W hf=>⟨(hf.cell hlt (by simp)).trans x0,(hf.cell (p:=⟨0,_,none⟩) (by show 0<_;omega) (by simp)).trans e0,(hf.cell (p:=⟨0,_,none⟩) (by show 0<_;omega) (by simp)).trans e1,(hf.cell (p:=⟨0,_,none⟩) (by show 0<_;omega) (by simp)).trans e2,(hf.cell (p:=⟨0,_,none⟩) (by show 0<_;omega) (by simp)).trans e3,(hf.cell (p:=⟨0,_,none⟩) (by show 0<_;omega) (by simp)).trans e4,(hf.cell (p:=⟨0,_,none⟩) (by show 0<_;omega) (by simp)).trans e5⟩
 have HSS:=Hd hss
 clear hss hlow hlt
 go_cut [5,6] from 14 to 18 (fun s5 s6 W=>EncCut w2 [.string us,.bool uo,.bool un,.bool ui,.bool ut,.int .i64 um] s5 s6 W)
 case first =>
  clear e0 e1 e2 e3 e4 e5 x0 x1
  go_region_held3 (fun W=>W.cell? ⟨w.heap.size,0,none⟩=some (.int .i64 (k:Int))∧W.cell? ⟨0,k*6,none⟩=some (.string us)∧W.cell? ⟨0,k*6+1,none⟩=some (.bool uo)∧W.cell? ⟨0,k*6+2,none⟩=some (.bool un)∧W.cell? ⟨0,k*6+3,none⟩=some (.bool ui)∧W.cell? ⟨0,k*6+4,none⟩=some (.bool ut)∧W.cell? ⟨0,k*6+5,none⟩=some (.int .i64 um)) (with_reducible refine HSS.out _ ?_;(repeat (first | exact Fr.refl _ _ | exact hfN | refine Fr.drew ?_ | refine Fr.alloc ?_ _ | refine Fr.set ?_ (.inr (by simp)) _ | refine Fr.setCells ?_ (.inr (by simp)) _ _ | refine Fr.then ?_ hfN | refine Fr.then ?_ hfN.undrew));done) (first
   | (go_at_call 54;(with_reducible refine (NewWriter_any ((w2.alloc (.cells #[.string ⟨#[]⟩,.bool false,.bool false,.bool false,.bool false,.int .i64 0] 216)).drew)).mono ?_);rintro e w3 ⟨rfl,hwr,hfN⟩;have hz:=(BoxN.new w2 216 #[.string ⟨#[]⟩,.bool false,.bool false,.bool false,.bool false,.int .i64 0]).drew.fr hfN (by simp);have g0:=hz.f 0;have g1:=hz.f 1;have g2:=hz.f 2;have g3:=hz.f 3;have g4:=hz.f 4;have g5:=hz.f 5;have d0:=hz.c 0;have d1:=hz.c 1;have d2:=hz.c 2;have d3:=hz.c 3;have d4:=hz.c 4;have d5:=hz.c 5;simp only[List.getElem?_toArray,List.getElem?_cons_zero,List.getElem?_cons_succ] at d0 d1 d2 d3 d4 d5)
   | (go_at_call 54;(with_reducible refine (NewWriter_any _).mono ?_);rintro e w3 ⟨rfl,hwr,hfN⟩))
  ·go_wp2_with fail
   go_meet
   have hl:=hwr.lt
   have hs:=hfN.size
   exact⟨_,_,rfl,rfl,WrS.new (hwr.fr ((Fr.refl [] w3).alloc _) (by simp) (by simp)),BoxN.new w3 _ _,Nat.ne_of_gt hl,hs,Nat.le_refl _,hfN.undrew.alloc _⟩
  ·go_wp2_with fail
   go_meet
   have e:((w2.alloc (.cells #[.string ⟨#[]⟩,.bool false,.bool false,.bool false,.bool false,.int .i64 0] 216)).drew).heap.size=w2.heap.size+1:=World.size_alloc ..
   rw[e] at hwr
   have hs:=hfN.size
   exact⟨_,_,rfl,rfl,WrS.new (hwr.fr (S:=[w2.heap.size]) ((((((Fr.refl _ w3).set (.inl (by simp)) _).set (.inl (by simp)) _).set (.inl (by simp)) _).set (.inl (by simp)) _).set (.inl (by simp)) _ |>.set (.inl (by simp)) _) (by simp) (by simp[blk])),((((((hz.setAt 0 _).setAt 1 _).setAt 2 _).setAt 3 _).setAt 4 _).setAt 5 _),by omega,Nat.le_refl _,by omega,(((((((((Fr.refl [] w2).alloc _).drew).then hfN).set (.inr (Nat.le_refl _)) _).set (.inr (Nat.le_refl _)) _).set (.inr (Nat.le_refl _)) _).set (.inr (Nat.le_refl _)) _).set (.inr (Nat.le_refl _)) _).set (.inr (Nat.le_refl _)) _⟩
 case rest =>
 obtain⟨P,b,rfl,rfl,hws,hbu,hPb,hP,hb,hf3⟩:=hcut
 obtain⟨w4,hw4⟩:=nmd (wc)
 rw[hw4] at hws hbu hf3 ⊢
 clear hw4 e0 e1 e2 e3 e4 e5 x0 x1 HSS
 have HF4:=Hd (HF2.out.then hf3)
 have hB0:=HB2.out.lt
 have HN4:=Hd (HB2.out.fr hf3 (by simp))
 have HU4:=Hd hbu
 have hB0b:w.heap.size≠b:=by omega
 have hPb':P≠b:=hPb
 have hwb:w.heap.size≤b:=by omega
 clear hbu hf3
 have n0:=HN4.out.k0
 go_upto_region 6 with ((go_at_call 57;(with_reducible refine (Number_ws hws k (by omega) (by simp)).mono ?_);rintro e w5 ⟨rfl,hws⟩))
 have hbl:(([]:Nm)++encU k).length≤9:=by simpa using encU_len9 (u:=k) (by omega)
 obtain⟨bs0,hbs0⟩:=nmd (([]:Nm)++encU k)
 rw[hbs0] at hws hbl
 obtain⟨hnum,hidx,htxt⟩:=HR.out
 have hmo:=HMO.out
 have hl1:(bs0++(if uo then encT owner else [])).length≤20000000:=by
  have:=encT_len (s:=owner) (by omega)
  rw[List.length_append]
  split
  ·omega
  ·simp;omega
 have HW5:=Hd hws
 have hN5:=HN4.out.fr hws.fr (by simpa using hB0b)
 have hU5:=HU4.out.fr hws.fr (by simpa using hPb)
 clear hws
 obtain⟨n1,n2,n3,n4⟩:=name_cells hN5
 obtain⟨v1,v2,v3,v4⟩:=use_cells hU5
 clear hN5 hU5
 go_upto_if 24 with fail
 go_cut [4] from 24 to 28 (fun s4 W=>s4=.int .i64 0∧WrS w4 b (bs0++(if uo then encT owner else [])) W)
 case first =>
  cases hfl:uo with
  | false =>
   go_wp2_with fail
   go_meet
   exact⟨rfl,by rw[hfl];simpa using HW5.out⟩
  | true =>
   go_wp2_with (((go_at_call 56;have hT:=Text_ws HW5.out owner (by omega) (by omega);rw[HOS.out] at hT;(with_reducible refine hT.mono ?_);rintro e w6 ⟨rfl,hws⟩)))
   go_meet
   exact⟨rfl,by rw[hfl];simpa using hws⟩
 case rest =>
 obtain⟨rfl,hws⟩:=hcut
 clear HW5 n1 n2 n3 n4 v1 v2 v3 v4
 obtain⟨w5,hw5⟩:=nmd (wc)
 rw[hw5] at hws ⊢
 clear hw5
 obtain⟨bs1,hbs1⟩:=nmd (bs0++(if uo then encT owner else []))
 rw[hbs1] at hws hl1
 have hl2:(bs1++(if un then encU number.toNat else [])).length≤20000010:=by
  rw[List.length_append]
  split
  ·rename_i h
   have:=hnum h
   simp only[withinB,decide_eq_true_eq] at this
   have:=encU_len9 (u:=number.toNat) (by omega)
   omega
  ·simp;omega
 have HW5:=Hd hws
 have hN5:=HN4.out.fr hws.fr (by simpa using hB0b)
 have hU5:=HU4.out.fr hws.fr (by simpa using hPb)
 clear hws
 obtain⟨n1,n2,n3,n4⟩:=name_cells hN5
 obtain⟨v1,v2,v3,v4⟩:=use_cells hU5
 clear hN5 hU5
 go_upto_if 30 with fail
 go_cut [4] from 30 to 34 (fun s4 W=>s4=.int .i64 0∧WrS w4 b (bs1++(if un then encU number.toNat else [])) W)
 case first =>
  cases hfl:un with
  | false =>
   go_wp2_with fail
   go_meet
   exact⟨rfl,by rw[hfl];simpa using HW5.out⟩
  | true =>
   go_wp2_with (((go_at_call 57;have hW:=hnum hfl;simp only[withinB,decide_eq_true_eq] at hW;have hT:=Number_ws HW5.out number.toNat (by omega) (by omega);rw[show ((number.toNat:Nat):Int)=number by omega] at hT;(with_reducible refine hT.mono ?_);rintro e w6 ⟨rfl,hws⟩)))
   go_meet
   exact⟨rfl,by rw[hfl];simpa using hws⟩
 case rest =>
 obtain⟨rfl,hws⟩:=hcut
 clear HW5 n1 n2 n3 n4 v1 v2 v3 v4
 obtain⟨w5,hw5⟩:=nmd (wc)
 rw[hw5] at hws ⊢
 clear hw5
 obtain⟨bs2,hbs2⟩:=nmd (bs1++(if un then encU number.toNat else []))
 rw[hbs2] at hws hl2
 have hl3:(bs2++(if ui then encU index.toNat else [])).length≤20000020:=by
  rw[List.length_append]
  split
  ·rename_i h
   have:=hidx h
   simp only[withinB,decide_eq_true_eq] at this
   have:=encU_len9 (u:=index.toNat) (by omega)
   omega
  ·simp;omega
 have HW5:=Hd hws
 have hN5:=HN4.out.fr hws.fr (by simpa using hB0b)
 have hU5:=HU4.out.fr hws.fr (by simpa using hPb)
 clear hws
 obtain⟨n1,n2,n3,n4⟩:=name_cells hN5
 obtain⟨v1,v2,v3,v4⟩:=use_cells hU5
 clear hN5 hU5
 go_upto_if 36 with fail
 go_cut [4] from 36 to 40 (fun s4 W=>s4=.int .i64 0∧WrS w4 b (bs2++(if ui then encU index.toNat else [])) W)
 case first =>
  cases hfl:ui with
  | false =>
   go_wp2_with fail
   go_meet
   exact⟨rfl,by rw[hfl];simpa using HW5.out⟩
  | true =>
   go_wp2_with (((go_at_call 57;have hW:=hidx hfl;simp only[withinB,decide_eq_true_eq] at hW;have hT:=Number_ws HW5.out index.toNat (by omega) (by omega);rw[show ((index.toNat:Nat):Int)=index by omega] at hT;(with_reducible refine hT.mono ?_);rintro e w6 ⟨rfl,hws⟩)))
   go_meet
   exact⟨rfl,by rw[hfl];simpa using hws⟩
 case rest =>
 obtain⟨rfl,hws⟩:=hcut
 clear HW5 n1 n2 n3 n4 v1 v2 v3 v4
 obtain⟨w5,hw5⟩:=nmd (wc)
 rw[hw5] at hws ⊢
 clear hw5
 obtain⟨bs3,hbs3⟩:=nmd (bs2++(if ui then encU index.toNat else []))
 rw[hbs3] at hws hl3
 have hw32:ut=true→text.length≤32:=fun h=>by
  have:=htxt h
  simp only[wordB,Bool.and_eq_true,decide_eq_true_eq] at this
  exact this.1.2
 have hl4:(bs3++(if ut then encT text else [])).length≤20000100:=by
  rw[List.length_append]
  split
  ·rename_i h
   have:=hw32 h
   have:=encT_len (s:=text) (by omega)
   omega
  ·simp;omega
 have HW5:=Hd hws
 have hN5:=HN4.out.fr hws.fr (by simpa using hB0b)
 have hU5:=HU4.out.fr hws.fr (by simpa using hPb)
 clear hws
 obtain⟨n1,n2,n3,n4⟩:=name_cells hN5
 obtain⟨v1,v2,v3,v4⟩:=use_cells hU5
 clear hN5 hU5
 go_upto_if 42 with fail
 go_cut [4] from 42 to 46 (fun s4 W=>s4=.int .i64 0∧WrS w4 b (bs3++(if ut then encT text else [])) W)
 case first =>
  cases hfl:ut with
  | false =>
   go_wp2_with fail
   go_meet
   exact⟨rfl,by rw[hfl];simpa using HW5.out⟩
  | true =>
   go_wp2_with (((go_at_call 56;have hW:=hw32 hfl;have hT:=Text_ws HW5.out text (by omega) (by omega);rw[HTS.out] at hT;(with_reducible refine hT.mono ?_);rintro e w6 ⟨rfl,hws⟩)))
   go_meet
   exact⟨rfl,by rw[hfl];simpa using hws⟩
 case rest =>
 obtain⟨rfl,hws⟩:=hcut
 clear HW5 n1 n2 n3 n4 v1 v2 v3 v4
 obtain⟨w5,hw5⟩:=nmd (wc)
 rw[hw5] at hws ⊢
 clear hw5
 obtain⟨bs4,hbs4⟩:=nmd (bs3++(if ut then encT text else []))
 rw[hbs4] at hws hl4
 have hq:bs4=q:=by
  rw[←HQ.out,←hbs4,←hbs3,←hbs2,←hbs1,←hbs0]
  simp
 subst hq
 have HFE:=Hd (HF4.out.trans hws.fr (fun x hx=>by rw[List.mem_singleton] at hx;subst hx;exact .inr hwb))
 go_wp2_with ((go_at_call 58;(with_reducible refine (Bytes_ws hws (by omega)).mono ?_);rintro e w6 ⟨A',c',rfl,ho6,hf6,_⟩;have hcv:=run_row_str ho6.row 49 5 Tryz.underlying49 Tryz.underlying5 9 Tryz.underlying9 c';have HFF:=Hd (HFE.out.then hf6);clear ho6 hf6))
 go_ret2
 exact⟨rfl,HFF.out⟩
theorem EncodeO_any (n:ON) (w:World) (hok:Ok w) (ho:n.owner.length≤16777216) (ht:n.text.length≤4294967280):Calls Tryz.prog 55 #[encO n] w (EncPost w (if checkO n=0 then encOn n else []) (checkO n)):=by
 by_cases h:checkO n=0
 ·rw[if_pos h,h];exact EncodeO_ok n w hok ho ht h
 ·rw[if_neg h];exact EncodeO_bad n w hok (by omega) ht _ rfl h
theorem str_row (s:ByteArray) (w:World):∃ cap w',(convert 9 49 (.string s)).run Tryz.prog w=.ok (.slice (some ⟨w.heap.size,0,none⟩) s.size cap) w'∧Fr [] w w'∧Row w' w'.heap.size 1 (some ⟨w.heap.size,0,none⟩) s.size (dCells s.data.toList):=by
 refine⟨_,_,Lib.run_convert_string_bytes w 9 49 5 s Tryz.underlying9 Tryz.underlying49 Tryz.underlying5,?_,?_⟩
 ·exact⟨rfl,rfl,rfl,by rw[Lib.bytesWorld_size];omega,fun k hk _=>Lib.bytesWorld_at_old w _ s k hk⟩
 ·refine⟨by rw[dcells_len,←len_data];omega,fun _=>⟨_,0,rfl,by rw[Lib.bytesWorld_size];omega,fun j u hu=>?_⟩⟩
  have hj:j<s.size:=by
   have:=(List.getElem?_eq_some_iff.1 hu).1
   rw[dcells_len,←len_data] at this
   exact this
  rw[Nat.zero_add]
  refine (Lib.bytesWorld_cell w _ s j hj).trans ?_
  rw[←hu]
  unfold dCells
  have hj2:j<s.data.toList.length:=by rw[←len_data];exact hj
  rw[List.getElem?_map,List.getElem?_eq_getElem hj2,List.getD_eq_getElem?_getD,List.getElem?_eq_getElem hj2]
  rfl
theorem numR_le (m:Nat) (l:Nm) (h:(numR m l).2.2=0):0≤(numR m l).1∧(numR m l).1≤(m:Int):=by
 unfold numR at h ⊢
 simp only at h ⊢
 split at h
 ·simp at h
 ·rename_i hx
  refine⟨by omega,?_⟩
  have:¬ m<(parseN l).1:=fun hm=>hx ⟨h,hm⟩
  omega
theorem rdNum_le (m:Nat) (r:RS):0≤(rdNum m r).1∧(rdNum m r).1≤(m:Int):=by
 unfold rdNum rstep
 split
 ·simp
 ·split
  ·simp
  ·rename_i h
   exact numR_le m r.l (by simpa using h)
theorem rdText_len (m:Nat) (r:RS):(rdText m r).1.length≤16777216:=by
 unfold rdText rstep
 split
 ·simp
 ·split
  ·simp
  ·unfold textR
   split
   ·simp
   ·split
    ·simp
    ·split
     ·simp
     ·rename_i h _
      have:=List.length_take_le (parseN r.l).1 (r.l.drop (parseN r.l).2.1)
      simp only[not_or] at h
      show ((r.l.drop (parseN r.l).2.1).take (parseN r.l).1).length≤_
      omega
def decF (u:Usage) (k:Int) (r0:RS):ON × RS :=
 let o:=if u.owner then rdText 16777216 r0 else ([],r0)
 let n:=if u.number then rdNum 1073741824 o.2 else (0,o.2)
 let i:=if u.index then rdNum u.most.toNat n.2 else (0,n.2)
 let t:=if u.text then rdText 32 i.2 else ([],i.2)
 (⟨k,o.1,n.1,i.1,t.1⟩,t.2)
def decN (s:Nm):ON × RS:=decF (us (rdNum 20 ⟨s,0,0⟩).1.toNat) (rdNum 20 ⟨s,0,0⟩).1 (rdNum 20 ⟨s,0,0⟩).2
def onZ:ON:=⟨0,[],0,0,[]⟩
def decO (s:Nm):ON × Int:=if rdClose (decN s).2≠0 ∨ checkO (decN s).1≠0 then (onZ,3) else ((decN s).1,0)
def zC:Array Value:=#[.int .i64 0,.string ⟨#[]⟩,.int .i64 0,.int .i64 0,.string ⟨#[]⟩]
structure DSt (w:World) (c0 c1 b D U:Nat) (uc:Array Value) (nm:ON) (r:RS) (W:World):Prop where
 rd:RdS c0 c1 b r W
 nmb:BoxN W D 31 nm.cells.toArray
 ub:BoxN W U 216 uc
 zb:BoxN W w.heap.size 31 zC
 fr:Fr [] w W
 h0:w.heap.size<c0
 h1:c1≤D
 h2:D<U
section
variable {w W W':World} {c0 c1 b D U:Nat} {uc:Array Value} {nm nm':ON} {r r':RS}
theorem DSt.bb (h:DSt w c0 c1 b D U uc nm r W):c0≤b∧b<c1:=by obtain⟨A,_,h1,h2,_⟩:=h.rd;exact⟨h1,h2⟩
theorem DSt.called (h:DSt w c0 c1 b D U uc nm r W) (hr:RdS c0 c1 b r' W') (hf:Fr [b] W W'):DSt w c0 c1 b D U uc nm r' W':=by
 have hb:=h.bb
 have e0:=h.h0;have e1:=h.h1;have e2:=h.h2
 exact⟨hr,h.nmb.fr hf (by simp;omega),h.ub.fr hf (by simp;omega),h.zb.fr hf (by simp;omega),h.fr.trans hf (by simp;omega),e0,e1,e2⟩
theorem DSt.quiet (h:DSt w c0 c1 b D U uc nm r W) (hf:Fr [] W W'):DSt w c0 c1 b D U uc nm r W' :=
 ⟨h.rd.fr0 hf,h.nmb.fr hf (by simp),h.ub.fr hf (by simp),h.zb.fr hf (by simp),h.fr.then hf,h.h0,h.h1,h.h2⟩
theorem DSt.set (h:DSt w c0 c1 b D U uc nm r W) (j:Nat) (v:Value) (hn:nm.cells.toArray.setIfInBounds j v=nm'.cells.toArray):DSt w c0 c1 b D U uc nm' r (W.setCell ⟨D,j,none⟩ v):=by
 have hb:=h.bb
 have e0:=h.h0;have e1:=h.h1;have e2:=h.h2
 have hf:Fr [D] W (W.setCell ⟨D,j,none⟩ v):=(Fr.refl [D] W).set (.inl (by simp)) _
 refine⟨h.rd.fr hf (by simp;omega),?_,h.ub.fr hf (by simp;omega),h.zb.fr hf (by simp;omega),h.fr.set (.inr (by show _≤D;omega)) _,e0,e1,e2⟩
 rw[←hn]
 exact h.nmb.setAt j v
end
def DecPost (w:World) (p:ON × Int) (e:Ending) (w':World):Prop:=e=.returned (.tuple #[encO p.1,.int .i64 p.2])∧Fr [] w w'
theorem DecodeO_any (s:ByteArray) (w:World) (hok:Ok w) (hs:s.size≤70368744177664):Calls Tryz.prog 48 #[.string s] w (DecPost w (decO s.data.toList)):=by
 obtain⟨q,hq⟩:=nmd (decO s.data.toList)
 rw[hq]
 unfold decO decN at hq
 obtain⟨w1,hw1,hz1,hf1⟩:=bxn w (zC) 31
 obtain⟨cap,w2,hcv,hf2,hr2⟩:=str_row s w1
 have hsz1:w.heap.size<w2.heap.size:=by have:=hz1.lt;have:=hf2.size;omega
 have hNR:=NewReader_rs _ s.size cap _ _ w2 hr2 (by rintro a h;injection h with h;rw[←h]) hs
 have HZ:=Hd (hz1.fr hf2 (by simp))
 have HF:=Hd (hf1.then hf2)
 have HN:=Hd hNR
 have HW1:=Hd hw1
 have HQ:=Hd hq
 clear hq hw1 hz1 hf1 hf2 hr2 hNR
 unfold zC at HW1
 go_enter Tryz.func48,Tryz.ntmps48
 go_upto_region 1 with fail
 rw[HW1.out]
 go_upto_region 2 with ((go_at_call 47;(with_reducible refine HN.out.mono ?_);rintro e w3 ⟨b,rfl,hrd,hf3⟩))
 obtain⟨c0,hc0⟩:=nmd (w2.heap.size)
 obtain⟨c1,hc1⟩:=nmd (w3.heap.size)
 rw[hc0,hc1] at hrd
 rw[hc0] at hsz1
 have hbb:c0≤b∧b<c1:=by obtain⟨A,_,h1,h2,_⟩:=hrd;exact⟨h1,h2⟩
 have HZ3:=Hd (HZ.out.fr hf3 (by simp))
 have HF3:=Hd (HF.out.then hf3)
 have hT:=Number_rs hrd 20
 rw[show ((20:Nat):Int)=20 from rfl] at hT
 have hk:=rdNum_le 20 ⟨s.data.toList,0,0⟩
 obtain⟨R1,hR1⟩:=nmd (rdNum 20 ⟨s.data.toList,0,0⟩)
 rw[hR1] at hT hk HQ
 obtain⟨kI,r1⟩:=R1
 simp only at hT hk HQ
 obtain⟨k,rfl⟩:∃ k:Nat,kI=(k:Int):=⟨kI.toNat,by omega⟩
 have HT:=Hd hT
 clear hT hR1 hrd HN HW1 HZ HF hf3 hcv
 go_upto_region 3 with ((go_at_call 50;(with_reducible refine HT.out.mono ?_);rintro e w4 ⟨rfl,hrd,hf4⟩))
 have hk21:k<21:=by omega
 have hk0:(k:Int)<21:=by omega
 have hf4':Fr [] w w4:=HF3.out.trans hf4 (by simp;omega)
 have hz4:=HZ3.out.fr hf4 (by simp;omega)
 have hc4:c1≤w4.heap.size:=by rw[←hc1];exact hf4.size
 obtain⟨w5,hw5⟩:=nmd (w4.alloc (.cells #[.int .i64 (k:Int),.string ⟨#[]⟩,.int .i64 0,.int .i64 0,.string ⟨#[]⟩] 31))
 rw[hw5]
 have hn5:BoxN w5 w4.heap.size 31 #[.int .i64 (k:Int),.string ⟨#[]⟩,.int .i64 0,.int .i64 0,.string ⟨#[]⟩]:=by rw[←hw5];exact BoxN.new w4 _ _
 have hf45:Fr [] w4 w5:=by rw[←hw5];exact (Fr.refl [] w4).alloc _
 have hf5:=hf4'.then hf45
 have hrd5:=hrd.fr0 hf45
 have hz5:=hz4.fr hf45 (by simp)
 obtain⟨D,hD⟩:=nmd (w4.heap.size)
 rw[hD] at hc4 hn5 ⊢
 obtain⟨e0,e1,e2,e3,e4,e5⟩:=us_cells (hok.fr0 hf5) hk21
 have hmo:=us_most hk21
 have hmo0:0≤(us k).most:=by
  have:∀ y:Fin 21,0≤(us y.val).most:=by decide
  exact this ⟨k,hk21⟩
 rw[show ((k:Nat):Int).toNat=k from rfl] at HQ
 obtain⟨u,hu⟩:=nmd (us k)
 rw[hu] at e0 e1 e2 e3 e4 e5 HQ hmo hmo0
 obtain⟨uw,uo,un,ui,ut,um⟩:=u
 simp only at e0 e1 e2 e3 e4 e5 hmo hmo0
 obtain⟨us,hus,_,_⟩:=str_of uw
 rw[hus] at e0
 have x0:=hn5.k0
 have HN5:=Hd hn5
 have HF5:=Hd hf5
 have HRD5:=Hd hrd5
 have HZ5:=Hd hz5
 have HM:=Hd (And.intro hmo hmo0)
 clear hu hus hn5 hf4' hf45 hf5 hrd5 hz5 hz4 hmo hmo0 hrd hf4 hw5 HT HZ3 HF3 hk
 go_upto_region 4 with fail
 obtain⟨w6,hw6⟩:=nmd (w5.alloc (.cells #[.string us,.bool uo,.bool un,.bool ui,.bool ut,.int .i64 um] 216))
 rw[hw6]
 have hf56:Fr [] w5 w6:=by rw[←hw6];exact (Fr.refl [] w5).alloc _
 have hst:DSt w c0 c1 b D w5.heap.size #[.string us,.bool uo,.bool un,.bool ui,.bool ut,.int .i64 um] ⟨(k:Int),[],0,0,[]⟩ r1 w6 :=
  ⟨HRD5.out.fr0 hf56,HN5.out.fr hf56 (by simp),by rw[←hw6];exact BoxN.new w5 _ _,HZ5.out.fr hf56 (by simp),HF5.out.then hf56,hsz1,hc4,HN5.out.lt⟩
 obtain⟨U,hU⟩:=nmd (w5.heap.size)
 rw[hU] at hst ⊢
 clear e0 e1 e2 e3 e4 e5 x0 hw6 hf56 HRD5 HN5 HZ5 HF5
 have hq2:=HQ.out
 unfold decF at hq2
 simp only at hq2
 clear HQ
 obtain⟨p1,hp1⟩:=nmd ((if uo=true then rdText 16777216 r1 else ([],r1)))
 rw[hp1] at hq2
 obtain⟨p2,hp2⟩:=nmd ((if un=true then rdNum 1073741824 p1.2 else (0,p1.2)))
 rw[hp2] at hq2
 obtain⟨p3,hp3⟩:=nmd ((if ui=true then rdNum um.toNat p2.2 else (0,p2.2)))
 rw[hp3] at hq2
 obtain⟨p4,hp4⟩:=nmd ((if ut=true then rdText 32 p3.2 else ([],p3.2)))
 rw[hp4] at hq2
 have HQ:=Hd hq2
 have HP1:=Hd hp1
 have HP2:=Hd hp2
 have HP3:=Hd hp3
 have HP4:=Hd hp4
 clear hq2 hp1 hp2 hp3 hp4
 have hum:((um.toNat:Nat):Int)=um:=by have:=HM.out.2;omega
 have HS:=Hd hst
 obtain⟨v1,v2,v3,v4⟩:=use_cells hst.ub
 have v5:_=some (Value.int .i64 um):=hst.ub.c 5
 clear hst
 go_upto_if 18 with fail
 go_cut [3] from 16 to 21 (fun s3 W=>s3=.int .i64 0∧DSt w c0 c1 b D U #[.string us,.bool uo,.bool un,.bool ui,.bool ut,.int .i64 um] ⟨(k:Int),p1.1,0,0,[]⟩ p1.2 W)
 case first =>
  cases hfl:uo with
  | false =>
   go_wp2_with fail
   go_meet
   have e:([],r1)=p1:=by have h:=HP1.out;rw[hfl] at h;exact h
   exact⟨rfl,by rw[←e];exact HS.out⟩
  | true =>
   go_wp2_with (go_at_call 49;have hT:=Text_rs HS.out.rd 16777216;obtain⟨str,hstr,_,_⟩:=str_of (rdText 16777216 r1).1;rw[hstr,show (((16777216:Nat)):Int)=16777216 from rfl] at hT;(with_reducible refine hT.mono ?_);rintro e w7 ⟨rfl,hrd,hf7⟩;have h7:=HS.out.called hrd hf7;have hfin:=fun nm' hh=>h7.set (nm':=nm') 1 (.string str) hh;rw[←hstr] at hfin;have dc:=h7.nmb.c 1;have df:=h7.nmb.f 1;simp only[ON.cells,List.getElem?_toArray,List.getElem?_cons_zero,List.getElem?_cons_succ] at dc;have HFN:=Hd hfin;have HST:=Hd hstr;clear hrd hf7 h7 hT hfin hstr)
   go_meet
   have e:rdText 16777216 r1=p1:=by have h:=HP1.out;rw[hfl] at h;exact h
   refine⟨rfl,?_⟩
   rw[←e]
   first
   | (rw[←HST.out];exact HFN.out _ rfl)
   | exact HFN.out _ rfl
 case rest =>
 obtain⟨rfl,hst⟩:=hcut
 clear HS v1 v2 v3 v4 v5
 obtain⟨w6,hw6⟩:=nmd (wc)
 rw[hw6] at hst ⊢
 clear hw6
 have HS:=Hd hst
 obtain⟨v1,v2,v3,v4⟩:=use_cells hst.ub
 have v5:_=some (Value.int .i64 um):=hst.ub.c 5
 clear hst
 go_upto_if 23 with fail
 go_cut [3] from 23 to 26 (fun s3 W=>s3=.int .i64 0∧DSt w c0 c1 b D U #[.string us,.bool uo,.bool un,.bool ui,.bool ut,.int .i64 um] ⟨(k:Int),p1.1,p2.1,0,[]⟩ p2.2 W)
 case first =>
  cases hfl:un with
  | false =>
   go_wp2_with fail
   go_meet
   have e:(0,p1.2)=p2:=by have h:=HP2.out;rw[hfl] at h;exact h
   exact⟨rfl,by rw[←e];exact HS.out⟩
  | true =>
   go_wp2_with (go_at_call 50;have hT:=Number_rs HS.out.rd 1073741824;rw[show (((1073741824:Nat)):Int)=1073741824 from rfl] at hT;(with_reducible refine hT.mono ?_);rintro e w7 ⟨rfl,hrd,hf7⟩;have h7:=HS.out.called hrd hf7;have hfin:=fun nm' hh=>h7.set (nm':=nm') 2 (.int .i64 (rdNum 1073741824 p1.2).1) hh;have dc:=h7.nmb.c 2;have df:=h7.nmb.f 2;simp only[ON.cells,List.getElem?_toArray,List.getElem?_cons_zero,List.getElem?_cons_succ] at dc;have HFN:=Hd hfin;have HST:=Hd (rfl:(0:Nat)=0);clear hrd hf7 h7 hT hfin)
   go_meet
   have e:rdNum 1073741824 p1.2=p2:=by have h:=HP2.out;rw[hfl] at h;exact h
   refine⟨rfl,?_⟩
   rw[←e]
   first
   | (rw[←HST.out];exact HFN.out _ rfl)
   | exact HFN.out _ rfl
 case rest =>
 obtain⟨rfl,hst⟩:=hcut
 clear HS v1 v2 v3 v4 v5
 obtain⟨w6,hw6⟩:=nmd (wc)
 rw[hw6] at hst ⊢
 clear hw6
 have HS:=Hd hst
 obtain⟨v1,v2,v3,v4⟩:=use_cells hst.ub
 have v5:_=some (Value.int .i64 um):=hst.ub.c 5
 clear hst
 go_upto_if 28 with fail
 go_cut [3] from 28 to 33 (fun s3 W=>s3=.int .i64 0∧DSt w c0 c1 b D U #[.string us,.bool uo,.bool un,.bool ui,.bool ut,.int .i64 um] ⟨(k:Int),p1.1,p2.1,p3.1,[]⟩ p3.2 W)
 case first =>
  cases hfl:ui with
  | false =>
   go_wp2_with fail
   go_meet
   have e:(0,p2.2)=p3:=by have h:=HP3.out;rw[hfl] at h;exact h
   exact⟨rfl,by rw[←e];exact HS.out⟩
  | true =>
   go_wp2_with (go_at_call 50;have hT:=Number_rs HS.out.rd um.toNat;rw[show (((um.toNat:Nat)):Int)=um from hum] at hT;(with_reducible refine hT.mono ?_);rintro e w7 ⟨rfl,hrd,hf7⟩;have h7:=HS.out.called hrd hf7;have hfin:=fun nm' hh=>h7.set (nm':=nm') 3 (.int .i64 (rdNum um.toNat p2.2).1) hh;have dc:=h7.nmb.c 3;have df:=h7.nmb.f 3;simp only[ON.cells,List.getElem?_toArray,List.getElem?_cons_zero,List.getElem?_cons_succ] at dc;have HFN:=Hd hfin;have HST:=Hd (rfl:(0:Nat)=0);clear hrd hf7 h7 hT hfin)
   go_meet
   have e:rdNum um.toNat p2.2=p3:=by have h:=HP3.out;rw[hfl] at h;exact h
   refine⟨rfl,?_⟩
   rw[←e]
   first
   | (rw[←HST.out];exact HFN.out _ rfl)
   | exact HFN.out _ rfl
 case rest =>
 obtain⟨rfl,hst⟩:=hcut
 clear HS v1 v2 v3 v4 v5
 obtain⟨w6,hw6⟩:=nmd (wc)
 rw[hw6] at hst ⊢
 clear hw6
 have HS:=Hd hst
 obtain⟨v1,v2,v3,v4⟩:=use_cells hst.ub
 have v5:_=some (Value.int .i64 um):=hst.ub.c 5
 clear hst
 go_upto_if 35 with fail
 go_cut [3] from 35 to 38 (fun s3 W=>s3=.int .i64 0∧DSt w c0 c1 b D U #[.string us,.bool uo,.bool un,.bool ui,.bool ut,.int .i64 um] ⟨(k:Int),p1.1,p2.1,p3.1,p4.1⟩ p4.2 W)
 case first =>
  cases hfl:ut with
  | false =>
   go_wp2_with fail
   go_meet
   have e:([],p3.2)=p4:=by have h:=HP4.out;rw[hfl] at h;exact h
   exact⟨rfl,by rw[←e];exact HS.out⟩
  | true =>
   go_wp2_with (go_at_call 49;have hT:=Text_rs HS.out.rd 32;obtain⟨str,hstr,_,_⟩:=str_of (rdText 32 p3.2).1;rw[hstr,show (((32:Nat)):Int)=32 from rfl] at hT;(with_reducible refine hT.mono ?_);rintro e w7 ⟨rfl,hrd,hf7⟩;have h7:=HS.out.called hrd hf7;have hfin:=fun nm' hh=>h7.set (nm':=nm') 4 (.string str) hh;rw[←hstr] at hfin;have dc:=h7.nmb.c 4;have df:=h7.nmb.f 4;simp only[ON.cells,List.getElem?_toArray,List.getElem?_cons_zero,List.getElem?_cons_succ] at dc;have HFN:=Hd hfin;have HST:=Hd hstr;clear hrd hf7 h7 hT hfin hstr)
   go_meet
   have e:rdText 32 p3.2=p4:=by have h:=HP4.out;rw[hfl] at h;exact h
   refine⟨rfl,?_⟩
   rw[←e]
   first
   | (rw[←HST.out];exact HFN.out _ rfl)
   | exact HFN.out _ rfl
 case rest =>
 obtain⟨rfl,hst⟩:=hcut
 clear HS v1 v2 v3 v4 v5
 obtain⟨w6,hw6⟩:=nmd (wc)
 rw[hw6] at hst ⊢
 clear hw6
 have hl1:p1.1.length≤16777216:=by
  rw[←HP1.out]
  split
  ·exact rdText_len _ _
  ·simp
 have hl4:p4.1.length≤16777216:=by
  rw[←HP4.out]
  split
  ·exact rdText_len _ _
  ·simp
 have hCh:=Check_any ⟨(k:Int),p1.1,p2.1,p3.1,p4.1⟩ w6 (hok.fr0 hst.fr) (by show p1.1.length≤_;omega) (by show p4.1.length≤_;omega)
 have hCl:=Close_rs hst.rd
 obtain⟨nm,hnm⟩:∃ nm:ON,(⟨(k:Int),p1.1,p2.1,p3.1,p4.1⟩:ON)=nm:=⟨_,rfl⟩
 obtain⟨r5,hr5⟩:=nmd (rdClose p4.2)
 obtain⟨c5,hc5⟩:=nmd (checkO nm)
 have hq3:=HQ.out
 rw[hnm] at hCh hst hq3
 rw[hc5] at hCh hq3
 rw[hr5] at hCl hq3
 clear HQ HP1 HP2 HP3 HP4 hnm hr5 hc5 hl1 hl4 HM
 obtain⟨nk,no,nn,ni,nt⟩:=nm
 obtain⟨os,hos,_,_⟩:=str_of no
 obtain⟨ts,hts,_,_⟩:=str_of nt
 unfold encO at hCh
 simp only at hCh
 rw[hos,hts] at hCh
 have hcells:=hst.nmb
 unfold ON.cells at hcells
 simp only at hcells
 rw[hos,hts] at hcells
 obtain⟨d0,d1,d2,d3,d4⟩:=hcells.m5
 have HS:=Hd hst
 have HCL:=Hd hCl
 have HCH:=Hd hCh
 have HCE:=Hd hcells
 have HOS:=Hd hos
 have HTS:=Hd hts
 have HQ:=Hd hq3
 clear hst hCl hCh hcells hos hts hq3
 by_cases h1:r5=0
 ·have h1b:(r5 != 0)=false:=by simpa using h1
  by_cases h2:c5=0
  ·have h2b:(c5 != 0)=false:=by simpa using h2
   have e:=HQ.out
   rw[if_neg (by simp[h1,h2])] at e
   subst e
   clear HQ h1 h2
   go_wp2_with (first
    | (go_at_call 52;(with_reducible refine HCL.out.mono ?_);rintro e w7 ⟨rfl,rfl⟩)
    | (go_at_call 53;(with_reducible refine HCH.out.mono ?_);rintro e w7 ⟨rfl,hf7⟩;((have h7:=HS.out.quiet hf7;have hz7:=h7.zb;have HZ7:=Hd hz7;have HCE7:=HCE.out.fr hf7 (by simp);clear d0 d1 d2 d3 d4;obtain⟨d1,d2,d3,d4⟩:=name_cells HCE7;have d0:_=some (Value.int .i64 nk):=HCE7.c 0;have g0:=hz7.f 0;have g1:=hz7.f 1;have g2:=hz7.f 2;have g3:=hz7.f 3;have g4:=hz7.f 4;unfold zC at hz7;obtain⟨y1,y2,y3,y4⟩:=name_cells hz7;have y0:_=some (Value.int .i64 0):=hz7.c 0;have H7:=Hd h7.fr;clear h7 hf7 hz7 HCE7))))
   obtain⟨w8,hw8⟩:=nmd ((((((w7.setCell ⟨w.heap.size,0,none⟩ (.int .i64 nk)).setCell ⟨w.heap.size,1,none⟩ (.string os)).setCell ⟨w.heap.size,2,none⟩ (.int .i64 nn)).setCell ⟨w.heap.size,3,none⟩ (.int .i64 ni)).setCell ⟨w.heap.size,4,none⟩ (.string ts)))
   have h8:BoxN w8 w.heap.size 31 #[.int .i64 nk,.string os,.int .i64 nn,.int .i64 ni,.string ts]:=by rw[←hw8];exact (((((HZ7.out.setAt 0 _).setAt 1 _).setAt 2 _).setAt 3 _).setAt 4 _)
   have f8:Fr [] w w8:=by rw[←hw8];exact ((((H7.out.set (.inr (Nat.le_refl _)) _).set (.inr (Nat.le_refl _)) _).set (.inr (Nat.le_refl _)) _).set (.inr (Nat.le_refl _)) _).set (.inr (Nat.le_refl _)) _
   rw[hw8]
   clear hw8
   have F8:=Hd f8
   obtain⟨t0,t1,t2,t3,t4⟩:=h8.m5
   clear h8 f8
   exact bodyPost_ret (v:=.tuple #[.agg #[.int .i64 nk,.string os,.int .i64 nn,.int .i64 ni,.string ts],.int .i64 0]) (by simp[results,Tryz.results48,go_sem,t0,t1,t2,t3,t4]) rfl ⟨by rw[←HOS.out,←HTS.out];rfl,F8.out⟩
  ·have h2b:(c5 != 0)=true:=by simpa using h2
   have e:=HQ.out
   rw[if_pos (.inr h2)] at e
   subst e
   clear HQ h1 h2
   go_wp2_with (first
    | (go_at_call 52;(with_reducible refine HCL.out.mono ?_);rintro e w7 ⟨rfl,rfl⟩)
    | (go_at_call 53;(with_reducible refine HCH.out.mono ?_);rintro e w7 ⟨rfl,hf7⟩;((have h7:=HS.out.quiet hf7;have hz7:=h7.zb;have HZ7:=Hd hz7;have HCE7:=HCE.out.fr hf7 (by simp);clear d0 d1 d2 d3 d4;obtain⟨d1,d2,d3,d4⟩:=name_cells HCE7;have d0:_=some (Value.int .i64 nk):=HCE7.c 0;have g0:=hz7.f 0;have g1:=hz7.f 1;have g2:=hz7.f 2;have g3:=hz7.f 3;have g4:=hz7.f 4;unfold zC at hz7;obtain⟨y1,y2,y3,y4⟩:=name_cells hz7;have y0:_=some (Value.int .i64 0):=hz7.c 0;have H7:=Hd h7.fr;clear h7 hf7 hz7 HCE7))))
   obtain⟨w8,hw8⟩:=nmd ((((((w7.setCell ⟨w.heap.size,0,none⟩ (.int .i64 0)).setCell ⟨w.heap.size,1,none⟩ (.string ⟨#[]⟩)).setCell ⟨w.heap.size,2,none⟩ (.int .i64 0)).setCell ⟨w.heap.size,3,none⟩ (.int .i64 0)).setCell ⟨w.heap.size,4,none⟩ (.string ⟨#[]⟩)))
   have h8:BoxN w8 w.heap.size 31 #[.int .i64 0,.string ⟨#[]⟩,.int .i64 0,.int .i64 0,.string ⟨#[]⟩]:=by rw[←hw8];exact (((((HZ7.out.setAt 0 _).setAt 1 _).setAt 2 _).setAt 3 _).setAt 4 _)
   have f8:Fr [] w w8:=by rw[←hw8];exact ((((H7.out.set (.inr (Nat.le_refl _)) _).set (.inr (Nat.le_refl _)) _).set (.inr (Nat.le_refl _)) _).set (.inr (Nat.le_refl _)) _).set (.inr (Nat.le_refl _)) _
   rw[hw8]
   clear hw8
   have F8:=Hd f8
   obtain⟨t0,t1,t2,t3,t4⟩:=h8.m5
   clear h8 f8
   exact bodyPost_ret (v:=.tuple #[.agg #[.int .i64 0,.string ⟨#[]⟩,.int .i64 0,.int .i64 0,.string ⟨#[]⟩],.int .i64 3]) (by simp[results,Tryz.results48,go_sem,t0,t1,t2,t3,t4]) rfl ⟨rfl,F8.out⟩
 ·have h1b:(r5 != 0)=true:=by simpa using h1
  have e:=HQ.out
  rw[if_pos (.inl h1)] at e
  subst e
  clear HQ h1
  have hf7:=Fr.refl [] w6
  ((have h7:=HS.out.quiet hf7;have hz7:=h7.zb;have HZ7:=Hd hz7;have HCE7:=HCE.out.fr hf7 (by simp);clear d0 d1 d2 d3 d4;obtain⟨d1,d2,d3,d4⟩:=name_cells HCE7;have d0:_=some (Value.int .i64 nk):=HCE7.c 0;have g0:=hz7.f 0;have g1:=hz7.f 1;have g2:=hz7.f 2;have g3:=hz7.f 3;have g4:=hz7.f 4;unfold zC at hz7;obtain⟨y1,y2,y3,y4⟩:=name_cells hz7;have y0:_=some (Value.int .i64 0):=hz7.c 0;have H7:=Hd h7.fr;clear h7 hf7 hz7 HCE7))
  clear d0 d1 d2 d3 d4
  go_wp2_with ((go_at_call 52;(with_reducible refine HCL.out.mono ?_);rintro e w7 ⟨rfl,rfl⟩))
  obtain⟨w8,hw8⟩:=nmd ((((((w6.setCell ⟨w.heap.size,0,none⟩ (.int .i64 0)).setCell ⟨w.heap.size,1,none⟩ (.string ⟨#[]⟩)).setCell ⟨w.heap.size,2,none⟩ (.int .i64 0)).setCell ⟨w.heap.size,3,none⟩ (.int .i64 0)).setCell ⟨w.heap.size,4,none⟩ (.string ⟨#[]⟩)))
  have h8:BoxN w8 w.heap.size 31 #[.int .i64 0,.string ⟨#[]⟩,.int .i64 0,.int .i64 0,.string ⟨#[]⟩]:=by rw[←hw8];exact (((((HZ7.out.setAt 0 _).setAt 1 _).setAt 2 _).setAt 3 _).setAt 4 _)
  have f8:Fr [] w w8:=by rw[←hw8];exact ((((H7.out.set (.inr (Nat.le_refl _)) _).set (.inr (Nat.le_refl _)) _).set (.inr (Nat.le_refl _)) _).set (.inr (Nat.le_refl _)) _).set (.inr (Nat.le_refl _)) _
  rw[hw8]
  clear hw8
  have F8:=Hd f8
  obtain⟨t0,t1,t2,t3,t4⟩:=h8.m5
  clear h8 f8
  exact bodyPost_ret (v:=.tuple #[.agg #[.int .i64 0,.string ⟨#[]⟩,.int .i64 0,.int .i64 0,.string ⟨#[]⟩],.int .i64 3]) (by simp[results,Tryz.results48,go_sem,t0,t1,t2,t3,t4]) rfl ⟨rfl,F8.out⟩
end Go.Proofs.YtlpmiimgacfmkaaGreatDoor
