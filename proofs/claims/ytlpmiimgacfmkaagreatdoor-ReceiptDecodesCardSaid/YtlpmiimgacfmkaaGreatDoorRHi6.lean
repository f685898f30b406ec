/- history: Actions. -/
import Derived.Test.YtlpmiimgacfmkaaGreatDoorRHi3
set_option linter.all false
namespace Go.Proofs.YtlpmiimgacfmkaaGreatDoor
open Go.RowKit
set_option maxRecDepth 100000
set_option maxHeartbeats 4000000
theorem made_act:madeCells (Value.agg actZ).cells 18=#[.int .i64 0,.int .i64 0,.int .i64 0,.string ⟨#[]⟩,.slice none 0 0,.slice none 0 0,.int .i64 0,.int .i64 0,.int .i64 0,.string ⟨#[]⟩,.slice none 0 0,.slice none 0 0,.int .i64 0,.int .i64 0,.int .i64 0,.string ⟨#[]⟩,.slice none 0 0,.slice none 0 0]:=by kernel_rfl
theorem run_makeAct (w:World):(Instr.makeSlice 22 (.int .i64 3) (.int .i64 3)).run Tryz.prog w=.ok (.slice (some ⟨w.heap.size,0,none⟩) 3 3) (w.alloc (.cells #[.int .i64 0,.int .i64 0,.int .i64 0,.string ⟨#[]⟩,.slice none 0 0,.slice none 0 0,.int .i64 0,.int .i64 0,.int .i64 0,.string ⟨#[]⟩,.slice none 0 0,.slice none 0 0,.int .i64 0,.int .i64 0,.int .i64 0,.string ⟨#[]⟩,.slice none 0 0,.slice none 0 0] 91)):=by
 obtain⟨i,hi,hz,hs,hb⟩:=info_act
 have h:=run_makeSlice (P:=Tryz.prog) (w:=w) 22 91 i (.agg actZ) Tryz.underlying22 hi hz .i64 .i64 3 3 (by omega) (by omega) (by rw[hs];decide) (by rw[hb];decide) (by omega)
 rw[h,hs]
 show Result.ok _ (w.alloc (.cells (madeCells (Value.agg actZ).cells 18) 91))=_
 rw[made_act]
 rfl
theorem ActionsH_3 (b:Nat) (q0 q1 q2:AV) (t:TR) (ds:List Nm) (kvs:List (Value × Value)) (M:List Nat) (w:World) (h:HistAt w b [q0,q1,q2] t ds kvs M) :
 Calls Tryz.prog 41 #[.pointer (some ⟨b,0,none⟩)] w fun e w'=>∃ L y0 y1 y2,e=.returned (.slice (some ⟨L,0,none⟩) 3 3)∧y0.a=q0.a∧y1.a=q1.a∧y2.a=q2.a∧Cs w' L ([y0,y1,y2].flatMap AV.cs)∧(∀ y∈[y0,y1,y2],y.ok w')∧Fr [] w w':=by
 obtain⟨pb,pl,bt,A,c,F,h,rfl⟩:=h
 obtain⟨g,rfl,hcs⟩:=Cs.of_own h.own (by simp)
 have hb:=h.box
 obtain⟨x0,x1⟩:=hb.m2
 have HN:=Hd (none_any b pb w x0)
 have HB:=Hd hb
 have HCS:=Hd hcs
 have HK:=Hd h.kept.now.2
 clear h hb hcs
 have hmk:=run_makeAct w
 obtain⟨X0,hX0,hb0,hf0⟩:=bxn w #[.int .i64 0,.int .i64 0,.int .i64 0,.string ⟨#[]⟩,.slice none 0 0,.slice none 0 0,.int .i64 0,.int .i64 0,.int .i64 0,.string ⟨#[]⟩,.slice none 0 0,.slice none 0 0,.int .i64 0,.int .i64 0,.int .i64 0,.string ⟨#[]⟩,.slice none 0 0,.slice none 0 0] 91
 rw[hX0] at hmk
 have hbb:=HB.out.fr hf0 (by simp)
 have y1:=hbb.k1
 clear hX0 hbb
 obtain⟨L,hL⟩:=nmd (w.heap.size)
 rw[hL] at hb0 hmk
 have HZL:=Hd hL
 clear hL
 go_enter Tryz.func41,Tryz.ntmps41
 go_wp2_with ((go_at_call 59;(with_reducible refine HN.out.mono ?_);rintro e w' ⟨rfl,rfl⟩))
 clear x0 x1 y1 hmk
 refine wp_loop_rounds 4 ?_
 rw[rounds_succ]
 have hcs:=HCS.out.fr0 hf0
 have z0:(X0).cell? ⟨g,0,none⟩=some (.int .i64 (q0).a.t):=hcs.2 0 _ rfl
 have z1:(X0).cell? ⟨g,1,none⟩=some (.int .i64 0):=hcs.2 1 _ rfl
 have z2:(X0).cell? ⟨g,2,none⟩=some (.int .i64 (q0).a.t):=hcs.2 2 _ rfl
 have z3:(X0).cell? ⟨g,3,none⟩=some (.string ⟨#[]⟩):=hcs.2 3 _ rfl
 have z4:(X0).cell? ⟨g,4,none⟩=some (.slice (q0).A (q0).a.r.len (q0).c):=hcs.2 4 _ rfl
 have z5:(X0).cell? ⟨g,5,none⟩=some (.slice (q0).B (q0).a.w.len (q0).d):=hcs.2 5 _ rfl
 clear hcs
 have HBX:=Hd hb0
 have HFX:=Hd hf0
 clear hb0 hf0
 go_upto_region 7 with fail
 obtain⟨X1,hX1,hb5,hf1⟩:=bxn X0 #[.int .i64 (q0).a.t,.int .i64 0,.int .i64 (q0).a.t,.string ⟨#[]⟩,.slice (q0).A (q0).a.r.len (q0).c,.slice (q0).B (q0).a.w.len (q0).d] 91
 rw[hX1]
 obtain⟨v0,v1,v2,v3,v4,v5⟩:=hb5.m6
 have hCp:=copiedH_av (q0) X1 ((HK.out (q0) (by simp)).fr0 (HFX.out.then hf1))
 unfold AV.v AV.cs CL.sl at hCp
 have HCP:=Hd hCp
 have HF1:=Hd hf1
 clear z0 z1 z2 z3 z4 z5 hX1 hb5 hf1 hCp
 go_wp2_with ((go_at_call 94;(with_reducible refine HCP.out.mono ?_);rintro e X2 ⟨⟨ya,A0,c0,B0,d0⟩,rfl,hya,hyk,hfy,hyb⟩;dsimp only at hya;subst hya;dsimp only;have hb2:=HBX.out.fr (HF1.out.then hfy) (by simp);have u0:=hb2.c 0;have u1:=hb2.c 1;have u2:=hb2.c 2;have u3:=hb2.c 3;have u4:=hb2.c 4;have u5:=hb2.c 5;simp only[List.getElem?_toArray,List.getElem?_cons_zero,List.getElem?_cons_succ] at u0 u1 u2 u3 u4 u5;have g0:=hb2.f 0;have g1:=hb2.f 1;have g2:=hb2.f 2;have g3:=hb2.f 3;have g4:=hb2.f 4;have g5:=hb2.f 5;have HB2:=Hd hb2;have HY:=Hd (And.intro hyk hyb);have HF2:=Hd ((HFX.out.then HF1.out).then hfy);have HF12:=Hd (HF1.out.then hfy);clear hyk hyb hfy hb2))
 obtain⟨XA,hX3⟩:=nmd (((((((X2.setCell ⟨L,0,none⟩ (.int .i64 q0.a.t)).setCell ⟨L,1,none⟩ (.int .i64 0)).setCell ⟨L,2,none⟩ (.int .i64 q0.a.t)).setCell ⟨L,3,none⟩ (.string ⟨#[]⟩)).setCell ⟨L,4,none⟩ (.slice A0 q0.a.r.len c0)).setCell ⟨L,5,none⟩ (.slice B0 q0.a.w.len d0)))
 have hb1:BoxN XA L 91 #[.int .i64 q0.a.t,.int .i64 0,.int .i64 q0.a.t,.string ⟨#[]⟩,.slice A0 q0.a.r.len c0,.slice B0 q0.a.w.len d0,.int .i64 0,.int .i64 0,.int .i64 0,.string ⟨#[]⟩,.slice none 0 0,.slice none 0 0,.int .i64 0,.int .i64 0,.int .i64 0,.string ⟨#[]⟩,.slice none 0 0,.slice none 0 0]:=by rw[←hX3];exact ((((((HB2.out.setAt 0 _).setAt 1 _).setAt 2 _).setAt 3 _).setAt 4 _).setAt 5 _)
 have f3:Fr [L] X2 XA:=by rw[←hX3];exact (((((((Fr.refl [L] X2).set (.inl (by simp)) _).set (.inl (by simp)) _).set (.inl (by simp)) _).set (.inl (by simp)) _).set (.inl (by simp)) _).set (.inl (by simp)) _)
 have hLs:w.heap.size≤L:=by rw[HZL.out];exact Nat.le_refl _
 have hLX:=HBX.out.lt
 have hf1:Fr [] w XA:=HF2.out.trans f3 (by simp;exact hLs)
 have HY0:Hid ((AV.mk q0.a A0 c0 B0 d0).ok XA∧∀ k∈(AV.mk q0.a A0 c0 B0 d0).bl,L<k):=Hd ⟨HY.out.1.fr f3 (fun k hk=>by have:=HY.out.2 k hk;have:=HF1.out.size;simp only[List.mem_singleton];omega),fun k hk=>by have:=HY.out.2 k hk;have:=HF1.out.size;omega⟩
 try rw[hX3]
 clear hX3 f3 hLs hLX HY HB2 HF2 HF12 HF1 HCP HBX HFX u0 u1 u2 u3 u4 u5 g0 g1 g2 g3 g4 g5 v0 v1 v2 v3 v4 v5
 rw[rounds_succ]
 have hcs:=HCS.out.fr0 hf1
 have z0:(XA).cell? ⟨g,6,none⟩=some (.int .i64 (q1).a.t):=hcs.2 6 _ rfl
 have z1:(XA).cell? ⟨g,7,none⟩=some (.int .i64 0):=hcs.2 7 _ rfl
 have z2:(XA).cell? ⟨g,8,none⟩=some (.int .i64 (q1).a.t):=hcs.2 8 _ rfl
 have z3:(XA).cell? ⟨g,9,none⟩=some (.string ⟨#[]⟩):=hcs.2 9 _ rfl
 have z4:(XA).cell? ⟨g,10,none⟩=some (.slice (q1).A (q1).a.r.len (q1).c):=hcs.2 10 _ rfl
 have z5:(XA).cell? ⟨g,11,none⟩=some (.slice (q1).B (q1).a.w.len (q1).d):=hcs.2 11 _ rfl
 clear hcs
 have HBX:=Hd hb1
 have HFX:=Hd hf1
 clear hb1 hf1
 go_upto_region 7 with fail
 obtain⟨X1,hX1,hb5,hf1⟩:=bxn XA #[.int .i64 (q1).a.t,.int .i64 0,.int .i64 (q1).a.t,.string ⟨#[]⟩,.slice (q1).A (q1).a.r.len (q1).c,.slice (q1).B (q1).a.w.len (q1).d] 91
 rw[hX1]
 obtain⟨v0,v1,v2,v3,v4,v5⟩:=hb5.m6
 have hCp:=copiedH_av (q1) X1 ((HK.out (q1) (by simp)).fr0 (HFX.out.then hf1))
 unfold AV.v AV.cs CL.sl at hCp
 have HCP:=Hd hCp
 have HF1:=Hd hf1
 clear z0 z1 z2 z3 z4 z5 hX1 hb5 hf1 hCp
 go_wp2_with ((go_at_call 94;(with_reducible refine HCP.out.mono ?_);rintro e X2 ⟨⟨ya,A1,c1,B1,d1⟩,rfl,hya,hyk,hfy,hyb⟩;dsimp only at hya;subst hya;dsimp only;have hb2:=HBX.out.fr (HF1.out.then hfy) (by simp);have u0:=hb2.c 6;have u1:=hb2.c 7;have u2:=hb2.c 8;have u3:=hb2.c 9;have u4:=hb2.c 10;have u5:=hb2.c 11;simp only[List.getElem?_toArray,List.getElem?_cons_zero,List.getElem?_cons_succ] at u0 u1 u2 u3 u4 u5;have g0:=hb2.f 6;have g1:=hb2.f 7;have g2:=hb2.f 8;have g3:=hb2.f 9;have g4:=hb2.f 10;have g5:=hb2.f 11;have HB2:=Hd hb2;have HY:=Hd (And.intro hyk hyb);have HF2:=Hd ((HFX.out.then HF1.out).then hfy);have HF12:=Hd (HF1.out.then hfy);clear hyk hyb hfy hb2))
 obtain⟨XB,hX3⟩:=nmd (((((((X2.setCell ⟨L,6,none⟩ (.int .i64 q1.a.t)).setCell ⟨L,7,none⟩ (.int .i64 0)).setCell ⟨L,8,none⟩ (.int .i64 q1.a.t)).setCell ⟨L,9,none⟩ (.string ⟨#[]⟩)).setCell ⟨L,10,none⟩ (.slice A1 q1.a.r.len c1)).setCell ⟨L,11,none⟩ (.slice B1 q1.a.w.len d1)))
 have hb2:BoxN XB L 91 #[.int .i64 q0.a.t,.int .i64 0,.int .i64 q0.a.t,.string ⟨#[]⟩,.slice A0 q0.a.r.len c0,.slice B0 q0.a.w.len d0,.int .i64 q1.a.t,.int .i64 0,.int .i64 q1.a.t,.string ⟨#[]⟩,.slice A1 q1.a.r.len c1,.slice B1 q1.a.w.len d1,.int .i64 0,.int .i64 0,.int .i64 0,.string ⟨#[]⟩,.slice none 0 0,.slice none 0 0]:=by rw[←hX3];exact ((((((HB2.out.setAt 6 _).setAt 7 _).setAt 8 _).setAt 9 _).setAt 10 _).setAt 11 _)
 have f3:Fr [L] X2 XB:=by rw[←hX3];exact (((((((Fr.refl [L] X2).set (.inl (by simp)) _).set (.inl (by simp)) _).set (.inl (by simp)) _).set (.inl (by simp)) _).set (.inl (by simp)) _).set (.inl (by simp)) _)
 have hLs:w.heap.size≤L:=by rw[HZL.out];exact Nat.le_refl _
 have hLX:=HBX.out.lt
 have hf2:Fr [] w XB:=HF2.out.trans f3 (by simp;exact hLs)
 have HY1:Hid ((AV.mk q1.a A1 c1 B1 d1).ok XB∧∀ k∈(AV.mk q1.a A1 c1 B1 d1).bl,L<k):=Hd ⟨HY.out.1.fr f3 (fun k hk=>by have:=HY.out.2 k hk;have:=HF1.out.size;simp only[List.mem_singleton];omega),fun k hk=>by have:=HY.out.2 k hk;have:=HF1.out.size;omega⟩
 replace HY0:Hid ((AV.mk q0.a A0 c0 B0 d0).ok XB∧∀ k∈(AV.mk q0.a A0 c0 B0 d0).bl,L<k):=Hd ⟨(HY0.out.1.fr0 HF12.out).fr f3 (fun k hk=>by have:=HY0.out.2 k hk;simp only[List.mem_singleton];omega),HY0.out.2⟩
 try rw[hX3]
 clear hX3 f3 hLs hLX HY HB2 HF2 HF12 HF1 HCP HBX HFX u0 u1 u2 u3 u4 u5 g0 g1 g2 g3 g4 g5 v0 v1 v2 v3 v4 v5
 rw[rounds_succ]
 have hcs:=HCS.out.fr0 hf2
 have z0:(XB).cell? ⟨g,12,none⟩=some (.int .i64 (q2).a.t):=hcs.2 12 _ rfl
 have z1:(XB).cell? ⟨g,13,none⟩=some (.int .i64 0):=hcs.2 13 _ rfl
 have z2:(XB).cell? ⟨g,14,none⟩=some (.int .i64 (q2).a.t):=hcs.2 14 _ rfl
 have z3:(XB).cell? ⟨g,15,none⟩=some (.string ⟨#[]⟩):=hcs.2 15 _ rfl
 have z4:(XB).cell? ⟨g,16,none⟩=some (.slice (q2).A (q2).a.r.len (q2).c):=hcs.2 16 _ rfl
 have z5:(XB).cell? ⟨g,17,none⟩=some (.slice (q2).B (q2).a.w.len (q2).d):=hcs.2 17 _ rfl
 clear hcs
 have HBX:=Hd hb2
 have HFX:=Hd hf2
 clear hb2 hf2
 go_upto_region 7 with fail
 obtain⟨X1,hX1,hb5,hf1⟩:=bxn XB #[.int .i64 (q2).a.t,.int .i64 0,.int .i64 (q2).a.t,.string ⟨#[]⟩,.slice (q2).A (q2).a.r.len (q2).c,.slice (q2).B (q2).a.w.len (q2).d] 91
 rw[hX1]
 obtain⟨v0,v1,v2,v3,v4,v5⟩:=hb5.m6
 have hCp:=copiedH_av (q2) X1 ((HK.out (q2) (by simp)).fr0 (HFX.out.then hf1))
 unfold AV.v AV.cs CL.sl at hCp
 have HCP:=Hd hCp
 have HF1:=Hd hf1
 clear z0 z1 z2 z3 z4 z5 hX1 hb5 hf1 hCp
 go_wp2_with ((go_at_call 94;(with_reducible refine HCP.out.mono ?_);rintro e X2 ⟨⟨ya,A2,c2,B2,d2⟩,rfl,hya,hyk,hfy,hyb⟩;dsimp only at hya;subst hya;dsimp only;have hb2:=HBX.out.fr (HF1.out.then hfy) (by simp);have u0:=hb2.c 12;have u1:=hb2.c 13;have u2:=hb2.c 14;have u3:=hb2.c 15;have u4:=hb2.c 16;have u5:=hb2.c 17;simp only[List.getElem?_toArray,List.getElem?_cons_zero,List.getElem?_cons_succ] at u0 u1 u2 u3 u4 u5;have g0:=hb2.f 12;have g1:=hb2.f 13;have g2:=hb2.f 14;have g3:=hb2.f 15;have g4:=hb2.f 16;have g5:=hb2.f 17;have HB2:=Hd hb2;have HY:=Hd (And.intro hyk hyb);have HF2:=Hd ((HFX.out.then HF1.out).then hfy);have HF12:=Hd (HF1.out.then hfy);clear hyk hyb hfy hb2))
 obtain⟨XC,hX3⟩:=nmd (((((((X2.setCell ⟨L,12,none⟩ (.int .i64 q2.a.t)).setCell ⟨L,13,none⟩ (.int .i64 0)).setCell ⟨L,14,none⟩ (.int .i64 q2.a.t)).setCell ⟨L,15,none⟩ (.string ⟨#[]⟩)).setCell ⟨L,16,none⟩ (.slice A2 q2.a.r.len c2)).setCell ⟨L,17,none⟩ (.slice B2 q2.a.w.len d2)))
 have hb3:BoxN XC L 91 #[.int .i64 q0.a.t,.int .i64 0,.int .i64 q0.a.t,.string ⟨#[]⟩,.slice A0 q0.a.r.len c0,.slice B0 q0.a.w.len d0,.int .i64 q1.a.t,.int .i64 0,.int .i64 q1.a.t,.string ⟨#[]⟩,.slice A1 q1.a.r.len c1,.slice B1 q1.a.w.len d1,.int .i64 q2.a.t,.int .i64 0,.int .i64 q2.a.t,.string ⟨#[]⟩,.slice A2 q2.a.r.len c2,.slice B2 q2.a.w.len d2]:=by rw[←hX3];exact ((((((HB2.out.setAt 12 _).setAt 13 _).setAt 14 _).setAt 15 _).setAt 16 _).setAt 17 _)
 have f3:Fr [L] X2 XC:=by rw[←hX3];exact (((((((Fr.refl [L] X2).set (.inl (by simp)) _).set (.inl (by simp)) _).set (.inl (by simp)) _).set (.inl (by simp)) _).set (.inl (by simp)) _).set (.inl (by simp)) _)
 have hLs:w.heap.size≤L:=by rw[HZL.out];exact Nat.le_refl _
 have hLX:=HBX.out.lt
 have hf3:Fr [] w XC:=HF2.out.trans f3 (by simp;exact hLs)
 have HY2:Hid ((AV.mk q2.a A2 c2 B2 d2).ok XC∧∀ k∈(AV.mk q2.a A2 c2 B2 d2).bl,L<k):=Hd ⟨HY.out.1.fr f3 (fun k hk=>by have:=HY.out.2 k hk;have:=HF1.out.size;simp only[List.mem_singleton];omega),fun k hk=>by have:=HY.out.2 k hk;have:=HF1.out.size;omega⟩
 replace HY0:Hid ((AV.mk q0.a A0 c0 B0 d0).ok XC∧∀ k∈(AV.mk q0.a A0 c0 B0 d0).bl,L<k):=Hd ⟨(HY0.out.1.fr0 HF12.out).fr f3 (fun k hk=>by have:=HY0.out.2 k hk;simp only[List.mem_singleton];omega),HY0.out.2⟩
 replace HY1:Hid ((AV.mk q1.a A1 c1 B1 d1).ok XC∧∀ k∈(AV.mk q1.a A1 c1 B1 d1).bl,L<k):=Hd ⟨(HY1.out.1.fr0 HF12.out).fr f3 (fun k hk=>by have:=HY1.out.2 k hk;simp only[List.mem_singleton];omega),HY1.out.2⟩
 try rw[hX3]
 clear hX3 f3 hLs hLX HY HB2 HF2 HF12 HF1 HCP HBX HFX u0 u1 u2 u3 u4 u5 g0 g1 g2 g3 g4 g5 v0 v1 v2 v3 v4 v5
 rw[rounds_succ]
 have HB3:=Hd hb3
 have HF3:=Hd hf3
 clear hb3 hf3
 go_wp2_with fail
 go_ret
 refine⟨L,⟨q0.a,A0,c0,B0,d0⟩,⟨q1.a,A1,c1,B1,d1⟩,⟨q2.a,A2,c2,B2,d2⟩,rfl,rfl,rfl,rfl,Cs.of_box HB3.out,?_,HF3.out⟩
 intro y hy
 simp only[List.mem_cons,List.not_mem_nil,or_false] at hy
 rcases hy with rfl | rfl | rfl
 ·exact HY0.out.1
 ·exact HY1.out.1
 ·exact HY2.out.1
end Go.Proofs.YtlpmiimgacfmkaaGreatDoor
