/- history: Len, Base, Root, Prove. -/
import Derived.Test.YtlpmiimgacfmkaaGreatDoorRHi2
set_option linter.all false
namespace Go.Proofs.YtlpmiimgacfmkaaGreatDoor
open Go.RowKit
set_option maxRecDepth 100000
set_option maxHeartbeats 4000000
theorem LenH_any (b:Nat) (l:List AV) (t:TR) (ds:List Nm) (kvs:List (Value × Value)) (M:List Nat) (w:World) (h:HistAt w b l t ds kvs M) (hl:l.length=3):Calls Tryz.prog 19 #[.pointer (some ⟨b,0,none⟩)] w fun e w'=>e=.returned (.int .i64 3)∧w=w':=by
 obtain⟨pb,pl,bt,A,c,F,h,rfl⟩:=h
 have hb:=h.box
 rw[hl] at hb
 have x0:w.cell? ⟨b,0,none⟩=some (.pointer (some ⟨pb,0,none⟩)):=hb.c 0
 have x1:w.cell? ⟨b,1,none⟩=some (.slice A 3 c):=hb.c 1
 have HN:=Hd (none_any b pb w x0)
 clear h hb
 go_enter Tryz.func19,Tryz.ntmps19
 go_wp2_with ((go_at_call 59;(with_reducible refine HN.out.mono ?_);rintro e w' ⟨rfl,rfl⟩))
 go_ret
 exact⟨rfl,rfl⟩
theorem BaseH_any (b:Nat) (l:List AV) (t:TR) (ds:List Nm) (kvs:List (Value × Value)) (M:List Nat) (w:World) (h:HistAt w b l t ds kvs M):Calls Tryz.prog 43 #[.pointer (some ⟨b,0,none⟩)] w fun e w'=>∃ p,e=.returned (.pointer (some ⟨p,0,none⟩))∧StAt w p .nil∧w=w':=by
 obtain⟨pb,pl,bt,A,c,F,h,rfl⟩:=h
 have hb:=h.box
 have x0:w.cell? ⟨b,0,none⟩=some (.pointer (some ⟨pb,0,none⟩)):=hb.c 0
 have HN:=Hd (none_any b pb w x0)
 have HS:=Hd h.kept.now.1
 clear h hb
 go_enter Tryz.func43,Tryz.ntmps43
 go_wp2_with ((go_at_call 59;(with_reducible refine HN.out.mono ?_);rintro e w' ⟨rfl,rfl⟩))
 go_ret
 exact⟨pb,rfl,HS.out,rfl⟩
theorem RootH_any (b:Nat) (l:List AV) (t:TR) (ds:List Nm) (kvs:List (Value × Value)) (M:List Nat) (d:Nm) (w:World) (h:HistAt w b l t ds kvs M) (hl:l.length=3) (hds:ds.length=4) (hp:PartIs ds kvs 2 0 d) :
 Calls Tryz.prog 21 #[.pointer (some ⟨b,0,none⟩),.int .i64 3] w (TagPost w d):=by
 obtain⟨pb,pl,bt,A,c,F,h,rfl⟩:=h
 obtain⟨w1,hw1⟩:=nmd (w.alloc (.cells (z32) 57))
 have hf1:Fr [] w w1:=by rw[←hw1];exact (Fr.refl [] w).alloc _
 obtain⟨fR,hR⟩:∃ f,w1.rowIs w.heap.size 57 32 f:=by rw[←hw1];exact⟨_,row_new w _ _⟩
 have hC:=Root_4 bt ds kvs F d w1 (h.tree.at_.fr0 hf1) hds hp
 have hd32:=hp.1
 have hcl:(dCells d).length=32:=by rw[dcells_len,hd32]
 have hb:=h.box.fr hf1 (by simp)
 rw[hl] at hb
 have x0:w1.cell? ⟨b,0,none⟩=some (.pointer (some ⟨pb,0,none⟩)):=hb.c 0
 have x1:w1.cell? ⟨b,1,none⟩=some (.slice A 3 c):=hb.c 1
 have x4:w1.cell? ⟨b,4,none⟩=some (.pointer (some ⟨bt,0,none⟩)):=hb.c 4
 have HN:=Hd (none_any b pb w1 x0)
 have HC:=Hd hC
 have HR2:=Hd hR
 have HF2:=Hd hf1
 have HW1:=Hd hw1
 clear hC hR hf1 hw1 hb h hp
 go_enter Tryz.func21,Tryz.ntmps21
 go_upto_region 1 with fail
 rw[HW1.out]
 go_wp2_with (first
  | (go_at_call 59;(with_reducible refine HN.out.mono ?_);rintro e w' ⟨rfl,rfl⟩)
  | (go_at_call 62;(with_reducible refine HC.out.mono ?_);rintro e w3 ⟨rfl,hf3⟩;unfold encD;have hR3:=rowIs_fr HR2.out hf3 (by simp);have hst:=store_digest (d:=d) hR3 hd32;have hrd:=row_digest (d:=d) hR3 hd32;obtain⟨w4,hw4⟩:∃ X,w3.setCells w.heap.size 0 (dCells d)=X:=⟨_,rfl⟩;have hf4:Fr [] w w4:=(by rw[←hw4];exact ((HF2.out.then hf3).setCells (.inr (Nat.le_refl _)) _ _));rw[hw4] at hst hrd;have HRD:=Hd hrd.1;have HF4:=Hd hf4;clear hw4 hrd hf4 hR3 hf3))
 exact bodyPost_ret (v:=.tuple #[encD d,.int .i64 0]) (results_cell_mid2 (d:=.array 32 5) (p:=4) (u:=5) (ty:=57) (b:=w.heap.size) (o:=0) rfl rfl rfl HRD.out (by kernel_rfl) rfl (by rw[dcells_len,hd32];rfl)) rfl ⟨rfl,HF4.out⟩
def ProvePost (w:World) (i n:Int) (s:Nm) (xs:List Nm) (e:Ending) (w':World):Prop :=
 ∃ A c,e=.returned (.tuple #[.agg #[.int .i64 i,.int .i64 n,encN s,.slice A xs.length c],.int .i64 0])∧Own w' 57 32 A xs.length c (xs.flatMap dCells)∧Fr [] w w'∧∀ k∈blk A,w.heap.size≤k
theorem ProveH_0 (b:Nat) (q0 q1 q2:AV) (t:TR) (ds:List Nm) (kvs:List (Value × Value)) (M:List Nat) (xs:List Nm) (w:World) (h:HistAt w b [q0,q1,q2] t ds kvs M) (hok:Ok w) (hg:(q0).a.good)
 (hI:∀ W bt F,TreeAt W bt ds kvs F→Calls Tryz.prog 61 #[.pointer (some ⟨bt,0,none⟩),.int .i64 1,.int .i64 4] W (ListPost2 W xs)) :
 Calls Tryz.prog 20 #[.pointer (some ⟨b,0,none⟩),.int .i64 0,.int .i64 3] w (ProvePost w 0 3 (encA (q0).a) xs):=by
 obtain⟨pb,pl,bt,A,c,F,h,rfl⟩:=h
 obtain⟨g,rfl,hcs⟩:=Cs.of_own h.own (by simp)
 obtain⟨w1,hw1,hR1,hf1⟩:=bxn w #[.int .i64 0,.int .i64 0,.string ⟨#[]⟩,.slice none 0 0] 53
 have hyk:=h.kept.now.2 (q0) (by simp)
 have hE:Calls Tryz.prog 60 #[(q0).v] w1 (RetPost w1 (.tuple #[encN (encA (q0).a),.int .i64 0])):=EncodeA_any (q0).a (q0).A (q0).B (q0).c (q0).d w1 (hok.fr0 hf1) (hyk.fr0 hf1).r (hyk.fr0 hf1).w hg
 unfold AV.v AV.cs CL.sl at hE
 have hb:=h.box.fr hf1 (by simp)
 have hcs1:=hcs.fr0 hf1
 have x0:w1.cell? ⟨b,0,none⟩=some (.pointer (some ⟨pb,0,none⟩)):=hb.c 0
 have x1:w1.cell? ⟨b,1,none⟩=some (.slice (some ⟨g,0,none⟩) 3 c):=hb.c 1
 have z0:w1.cell? ⟨g,0,none⟩=some (.int .i64 (q0).a.t):=hcs1.2 0 _ rfl
 have z1:w1.cell? ⟨g,1,none⟩=some (.int .i64 0):=hcs1.2 1 _ rfl
 have z2:w1.cell? ⟨g,2,none⟩=some (.int .i64 (q0).a.t):=hcs1.2 2 _ rfl
 have z3:w1.cell? ⟨g,3,none⟩=some (.string ⟨#[]⟩):=hcs1.2 3 _ rfl
 have z4:w1.cell? ⟨g,4,none⟩=some (.slice (q0).A (q0).a.r.len (q0).c):=hcs1.2 4 _ rfl
 have z5:w1.cell? ⟨g,5,none⟩=some (.slice (q0).B (q0).a.w.len (q0).d):=hcs1.2 5 _ rfl
 have hIn:∀ W,Fr [] w1 W→Calls Tryz.prog 61 #[.pointer (some ⟨bt,0,none⟩),.int .i64 1,.int .i64 4] W (ListPost2 W xs):=fun W hW=>hI W bt F (h.tree.at_.fr0 (hf1.then hW))
 have HB:=Hd hb
 have HN:=Hd (none_any b pb w1 x0)
 have HE:=Hd hE
 have HI:=Hd hIn
 have HR1:=Hd hR1
 have HF1:=Hd hf1
 have HW1:=Hd hw1
 obtain⟨tx,htx⟩:=nmd ((⟨(encA (q0).a).toArray⟩:ByteArray))
 unfold encN at HE
 unfold ProvePost encN
 rw[htx] at HE ⊢
 clear h hb hE hI hIn hR1 hf1 hw1 hcs hcs1 hyk htx
 go_enter Tryz.func20,Tryz.ntmps20
 go_upto_region 1 with fail
 rw[HW1.out]
 go_wp2_with (first
  | (go_at_call 59;(with_reducible refine HN.out.mono ?_);rintro e w' ⟨rfl,rfl⟩)
  | (go_at_call 60;(with_reducible refine HE.out.mono ?_);rintro e w2 ⟨rfl,hf2⟩;have hb2:=HB.out.fr hf2 (by simp);have y4:w2.cell? ⟨b,4,none⟩=some (.pointer (some ⟨bt,0,none⟩)):=hb2.c 4;clear x0 x1 z0 z1 z2 z3 z4 z5 hb2)
  | (go_at_call 61;(with_reducible refine (HI.out _ hf2).mono ?_);rintro e w3 ⟨A3,c3,rfl,ho3,hf3,hs3⟩;have hr3:=HR1.out.fr (hf2.then hf3) (by simp);have u0:w3.cell? ⟨w.heap.size,0,none⟩=some (.int .i64 0):=hr3.c 0;have u1:w3.cell? ⟨w.heap.size,1,none⟩=some (.int .i64 0):=hr3.c 1;have u2:w3.cell? ⟨w.heap.size,2,none⟩=some (.string ⟨#[]⟩):=hr3.c 2;have u3:w3.cell? ⟨w.heap.size,3,none⟩=some (.slice none 0 0):=hr3.c 3;have g0:=hr3.f 0;have g1:=hr3.f 1;have g2:=hr3.f 2;have g3:=hr3.f 3;have HO3:=Hd ho3;have HF3:=Hd ((HF1.out.then hf2).then hf3);have HS3:=Hd hs3;have HR3:=Hd hr3;have HZ3:=hf2.size;clear ho3 hf3 hs3 hr3 y4))
 obtain⟨w4,hw4⟩:=nmd ((((w3.setCell ⟨w.heap.size,0,none⟩ (.int .i64 0)).setCell ⟨w.heap.size,1,none⟩ (.int .i64 3)).setCell ⟨w.heap.size,2,none⟩ (.string tx)).setCell ⟨w.heap.size,3,none⟩ (.slice A3 xs.length c3))
 have h4:BoxN w4 w.heap.size 53 #[.int .i64 0,.int .i64 3,.string tx,.slice A3 xs.length c3]:=by rw[←hw4];exact ((((HR3.out.setAt 0 _).setAt 1 _).setAt 2 _).setAt 3 _)
 have f4:Fr [w.heap.size] w3 w4:=by rw[←hw4];exact ((((Fr.refl [w.heap.size] w3).set (.inl (by simp)) _).set (.inl (by simp)) _).set (.inl (by simp)) _).set (.inl (by simp)) _
 have hsz:w.heap.size<w1.heap.size:=HR1.out.lt
 have t0:w4.cell? ⟨w.heap.size,0,none⟩=some (.int .i64 0):=h4.c 0
 have t1:w4.cell? ⟨w.heap.size,1,none⟩=some (.int .i64 3):=h4.c 1
 have t2:w4.cell? ⟨w.heap.size,2,none⟩=some (.string tx):=h4.c 2
 have t3:w4.cell? ⟨w.heap.size,3,none⟩=some (.slice A3 xs.length c3):=h4.c 3
 have HFIN:=Hd (And.intro (HO3.out.fr f4 (by intro k hk;have:=HS3.out k hk;simp only[List.mem_singleton];omega)) (HF3.out.trans f4 (T:=[w.heap.size]) (by simp)))
 rw[hw4]
 clear hw4 h4 f4 u0 u1 u2 u3 g0 g1 g2 g3
 refine bodyPost_ret (v:=.tuple #[.agg #[.int .i64 0,.int .i64 3,.string tx,.slice A3 xs.length c3],.int .i64 0]) (by simp[results,Tryz.results20,go_sem,t0,t1,t2,t3]) rfl ⟨A3,c3,rfl,HFIN.out.1,HFIN.out.2,fun k hk=>?_⟩
 have:=HS3.out k hk
 omega
theorem ProveH_1 (b:Nat) (q0 q1 q2:AV) (t:TR) (ds:List Nm) (kvs:List (Value × Value)) (M:List Nat) (xs:List Nm) (w:World) (h:HistAt w b [q0,q1,q2] t ds kvs M) (hok:Ok w) (hg:(q1).a.good)
 (hI:∀ W bt F,TreeAt W bt ds kvs F→Calls Tryz.prog 61 #[.pointer (some ⟨bt,0,none⟩),.int .i64 2,.int .i64 4] W (ListPost2 W xs)) :
 Calls Tryz.prog 20 #[.pointer (some ⟨b,0,none⟩),.int .i64 1,.int .i64 3] w (ProvePost w 1 3 (encA (q1).a) xs):=by
 obtain⟨pb,pl,bt,A,c,F,h,rfl⟩:=h
 obtain⟨g,rfl,hcs⟩:=Cs.of_own h.own (by simp)
 obtain⟨w1,hw1,hR1,hf1⟩:=bxn w #[.int .i64 0,.int .i64 0,.string ⟨#[]⟩,.slice none 0 0] 53
 have hyk:=h.kept.now.2 (q1) (by simp)
 have hE:Calls Tryz.prog 60 #[(q1).v] w1 (RetPost w1 (.tuple #[encN (encA (q1).a),.int .i64 0])):=EncodeA_any (q1).a (q1).A (q1).B (q1).c (q1).d w1 (hok.fr0 hf1) (hyk.fr0 hf1).r (hyk.fr0 hf1).w hg
 unfold AV.v AV.cs CL.sl at hE
 have hb:=h.box.fr hf1 (by simp)
 have hcs1:=hcs.fr0 hf1
 have x0:w1.cell? ⟨b,0,none⟩=some (.pointer (some ⟨pb,0,none⟩)):=hb.c 0
 have x1:w1.cell? ⟨b,1,none⟩=some (.slice (some ⟨g,0,none⟩) 3 c):=hb.c 1
 have z0:w1.cell? ⟨g,6,none⟩=some (.int .i64 (q1).a.t):=hcs1.2 6 _ rfl
 have z1:w1.cell? ⟨g,7,none⟩=some (.int .i64 0):=hcs1.2 7 _ rfl
 have z2:w1.cell? ⟨g,8,none⟩=some (.int .i64 (q1).a.t):=hcs1.2 8 _ rfl
 have z3:w1.cell? ⟨g,9,none⟩=some (.string ⟨#[]⟩):=hcs1.2 9 _ rfl
 have z4:w1.cell? ⟨g,10,none⟩=some (.slice (q1).A (q1).a.r.len (q1).c):=hcs1.2 10 _ rfl
 have z5:w1.cell? ⟨g,11,none⟩=some (.slice (q1).B (q1).a.w.len (q1).d):=hcs1.2 11 _ rfl
 have hIn:∀ W,Fr [] w1 W→Calls Tryz.prog 61 #[.pointer (some ⟨bt,0,none⟩),.int .i64 2,.int .i64 4] W (ListPost2 W xs):=fun W hW=>hI W bt F (h.tree.at_.fr0 (hf1.then hW))
 have HB:=Hd hb
 have HN:=Hd (none_any b pb w1 x0)
 have HE:=Hd hE
 have HI:=Hd hIn
 have HR1:=Hd hR1
 have HF1:=Hd hf1
 have HW1:=Hd hw1
 obtain⟨tx,htx⟩:=nmd ((⟨(encA (q1).a).toArray⟩:ByteArray))
 unfold encN at HE
 unfold ProvePost encN
 rw[htx] at HE ⊢
 clear h hb hE hI hIn hR1 hf1 hw1 hcs hcs1 hyk htx
 go_enter Tryz.func20,Tryz.ntmps20
 go_upto_region 1 with fail
 rw[HW1.out]
 go_wp2_with (first
  | (go_at_call 59;(with_reducible refine HN.out.mono ?_);rintro e w' ⟨rfl,rfl⟩)
  | (go_at_call 60;(with_reducible refine HE.out.mono ?_);rintro e w2 ⟨rfl,hf2⟩;have hb2:=HB.out.fr hf2 (by simp);have y4:w2.cell? ⟨b,4,none⟩=some (.pointer (some ⟨bt,0,none⟩)):=hb2.c 4;clear x0 x1 z0 z1 z2 z3 z4 z5 hb2)
  | (go_at_call 61;(with_reducible refine (HI.out _ hf2).mono ?_);rintro e w3 ⟨A3,c3,rfl,ho3,hf3,hs3⟩;have hr3:=HR1.out.fr (hf2.then hf3) (by simp);have u0:w3.cell? ⟨w.heap.size,0,none⟩=some (.int .i64 0):=hr3.c 0;have u1:w3.cell? ⟨w.heap.size,1,none⟩=some (.int .i64 0):=hr3.c 1;have u2:w3.cell? ⟨w.heap.size,2,none⟩=some (.string ⟨#[]⟩):=hr3.c 2;have u3:w3.cell? ⟨w.heap.size,3,none⟩=some (.slice none 0 0):=hr3.c 3;have g0:=hr3.f 0;have g1:=hr3.f 1;have g2:=hr3.f 2;have g3:=hr3.f 3;have HO3:=Hd ho3;have HF3:=Hd ((HF1.out.then hf2).then hf3);have HS3:=Hd hs3;have HR3:=Hd hr3;have HZ3:=hf2.size;clear ho3 hf3 hs3 hr3 y4))
 obtain⟨w4,hw4⟩:=nmd ((((w3.setCell ⟨w.heap.size,0,none⟩ (.int .i64 1)).setCell ⟨w.heap.size,1,none⟩ (.int .i64 3)).setCell ⟨w.heap.size,2,none⟩ (.string tx)).setCell ⟨w.heap.size,3,none⟩ (.slice A3 xs.length c3))
 have h4:BoxN w4 w.heap.size 53 #[.int .i64 1,.int .i64 3,.string tx,.slice A3 xs.length c3]:=by rw[←hw4];exact ((((HR3.out.setAt 0 _).setAt 1 _).setAt 2 _).setAt 3 _)
 have f4:Fr [w.heap.size] w3 w4:=by rw[←hw4];exact ((((Fr.refl [w.heap.size] w3).set (.inl (by simp)) _).set (.inl (by simp)) _).set (.inl (by simp)) _).set (.inl (by simp)) _
 have hsz:w.heap.size<w1.heap.size:=HR1.out.lt
 have t0:w4.cell? ⟨w.heap.size,0,none⟩=some (.int .i64 1):=h4.c 0
 have t1:w4.cell? ⟨w.heap.size,1,none⟩=some (.int .i64 3):=h4.c 1
 have t2:w4.cell? ⟨w.heap.size,2,none⟩=some (.string tx):=h4.c 2
 have t3:w4.cell? ⟨w.heap.size,3,none⟩=some (.slice A3 xs.length c3):=h4.c 3
 have HFIN:=Hd (And.intro (HO3.out.fr f4 (by intro k hk;have:=HS3.out k hk;simp only[List.mem_singleton];omega)) (HF3.out.trans f4 (T:=[w.heap.size]) (by simp)))
 rw[hw4]
 clear hw4 h4 f4 u0 u1 u2 u3 g0 g1 g2 g3
 refine bodyPost_ret (v:=.tuple #[.agg #[.int .i64 1,.int .i64 3,.string tx,.slice A3 xs.length c3],.int .i64 0]) (by simp[results,Tryz.results20,go_sem,t0,t1,t2,t3]) rfl ⟨A3,c3,rfl,HFIN.out.1,HFIN.out.2,fun k hk=>?_⟩
 have:=HS3.out k hk
 omega
theorem new_dig32 (W:World) (d:Nm) (hd:d.length=32):∃ Y,(storeCells ⟨W.heap.size,0,none⟩ (dCells d)).run Tryz.prog (W.alloc (.cells (#[.int .u8 0,.int .u8 0,.int .u8 0,.int .u8 0,.int .u8 0,.int .u8 0,.int .u8 0,.int .u8 0,.int .u8 0,.int .u8 0,.int .u8 0,.int .u8 0,.int .u8 0,.int .u8 0,.int .u8 0,.int .u8 0,.int .u8 0,.int .u8 0,.int .u8 0,.int .u8 0,.int .u8 0,.int .u8 0,.int .u8 0,.int .u8 0,.int .u8 0,.int .u8 0,.int .u8 0,.int .u8 0,.int .u8 0,.int .u8 0,.int .u8 0,.int .u8 0]) 56))=.ok () Y∧Fr [] W Y∧Y.rowIs W.heap.size 56 32 (fun j=>.int .u8 ((d.getD j 0).toNat:Int)):=by
 obtain⟨f,hf⟩:∃ f,(W.alloc (.cells (#[.int .u8 0,.int .u8 0,.int .u8 0,.int .u8 0,.int .u8 0,.int .u8 0,.int .u8 0,.int .u8 0,.int .u8 0,.int .u8 0,.int .u8 0,.int .u8 0,.int .u8 0,.int .u8 0,.int .u8 0,.int .u8 0,.int .u8 0,.int .u8 0,.int .u8 0,.int .u8 0,.int .u8 0,.int .u8 0,.int .u8 0,.int .u8 0,.int .u8 0,.int .u8 0,.int .u8 0,.int .u8 0,.int .u8 0,.int .u8 0,.int .u8 0,.int .u8 0]) 56)).rowIs W.heap.size 56 32 f:=⟨_,row_new W _ _⟩
 exact⟨_,store_digest hf hd,((Fr.refl [] W).alloc _).setCells (.inr (Nat.le_refl _)) _ _,(row_digest hf hd).2⟩
theorem row_bytes {X:World} {L:Nat} {t:TypeId} {d:Nm} (hr:X.rowIs L t 32 (fun j=>.int .u8 ((d.getD j 0).toNat:Int))) (hd:d.length=32):Row X X.heap.size 1 (some ⟨L,0,none⟩) 32 (dCells d) :=
 ⟨by rw[dcells_len,hd],fun _=>⟨L,0,rfl,hr.lt,row_range hr hd⟩⟩
def leaf0:Nm:=leafN (0::stD0)
theorem NewH_any (p:Nat) (w:World) (hok:Ok w) (h:StAt w p .nil):Calls Tryz.prog 32 #[.pointer (some ⟨p,0,none⟩)] w fun e w'=>∃ b M,e=.returned (.tuple #[.pointer (some ⟨b,0,none⟩),.int .i64 0])∧HistAt w' b [] .nil [leaf0] [] M∧Fr [] w w'∧∀ k∈M,w.heap.size≤k:=by
 have hd32:stD0.length=32:=shaN_len _
 have hcl:(dCells stD0).length=32:=by rw[dcells_len,hd32]
 have hDg:∀ W,Fr [] w W→Calls Tryz.prog 88 #[.pointer (some ⟨p,0,none⟩)] W (SumPost W stD0):=fun W hW=>DigestS_nil p W (hok.fr0 hW) (h.fr0 hW)
 have hLf:∀ W,Fr [] w W→Calls Tryz.prog 90 #[encN (0::stD0)] W (SumPost W leaf0):=fun W hW=>Leaf_any (0::stD0) W (hok.fr0 hW) (by simp[hd32])
 have hl32:leaf0.length=32:=shaN_len _
 generalize leaf0=dl at hLf hl32 ⊢
 generalize stD0=d at hDg hLf hd32 hcl
 have hadd:∀ W,(binOp .add 9 (.string ⟨#[0]⟩) (encN d)).run Tryz.prog W=.ok (encN (0::d)) W:=fun W=>by
  rw[←cons_str 0 d]
  exact run_add_str W _ _ (by simp[←ByteArray.size_data];omega)
 obtain⟨s1,hs1⟩:=nmd (encN d)
 obtain⟨s2,hs2⟩:=nmd (encN (0::d))
 rw[hs1] at hadd
 rw[hs2] at hadd hLf
 have HDG:=Hd hDg
 have HLF:=Hd hLf
 have HADD:=Hd hadd
 have HS1:=Hd hs1
 have HST:=Hd h
 have HOK:=Hd hok
 clear hDg hLf hadd hs1 hs2 h hok
 go_enter Tryz.func32,Tryz.ntmps32
 go_upto_region 4 with ((go_at_call 87;(with_reducible refine (NewTree_any w).mono ?_);rintro e w1 ⟨rfl,hbt,hf1⟩;have HBT:=Hd hbt;have HF1:=Hd hf1;have hz1:=hbt.lt;clear hbt hf1))
 obtain⟨w2,hw2,hb2,hf2⟩:=bxn w1 #[.pointer (some ⟨p,0,none⟩),.slice none 0 0,.slice none 0 0,.pointer (some ⟨p,0,none⟩),.pointer (some ⟨w.heap.size,0,none⟩)] 136
 rw[hw2]
 have HF02:=Hd (HF1.out.then hf2)
 have HB2:=Hd hb2
 have HBT2:=Hd (HBT.out.fr hf2 (by simp))
 clear hw2 hb2 hf2
 go_upto_region 5 with ((go_at_call 88;(with_reducible refine (HDG.out _ HF02.out).mono ?_);rintro e w3 ⟨rfl,hf3⟩;unfold encD;obtain⟨w4,hst4,hf4,hr4⟩:=new_dig32 w3 d hd32;have HF4:=Hd (hf3.then hf4);have HR4:=Hd hr4;clear hf3 hf4 hr4))
 have hz4:=HR4.out.lt
 have hz34:=HF4.out.size
 generalize w3.heap.size=R at HR4 hz4 ⊢
 have hC:Fr [] w4 w4.drew:=(Fr.refl [] w4).drew
 have hCell:∀ W,Fr [] w4 W→W.cell? ⟨w1.heap.size,4,none⟩=some (.pointer (some ⟨w.heap.size,0,none⟩))∧(convert 49 9 (.slice (some ⟨R,0,none⟩) 32 32)).run Tryz.prog W=.ok s1 W∧(binOp .add 9 (.string ⟨#[0]⟩) s1).run Tryz.prog W=.ok s2 W:=fun W hW=>by
  have hb:=(HB2.out.fr HF4.out (by simp)).fr hW (by simp)
  have hr:=rowIs_fr HR4.out hW (by simp)
  have hc:=run_row_str (P:=Tryz.prog) (row_bytes hr hd32) 49 5 Tryz.underlying49 Tryz.underlying5 9 Tryz.underlying9 32
  rw[HS1.out] at hc
  exact⟨hb.c 4,hc,HADD.out W⟩
 have HSS:=Hd hCell
 clear hCell hst4
 refine wp_region_head (fun W:World=>Fr [] w4 W) 8 (by kernel_rfl) ?_ (by decide)
 show headJ 0 _ _ _ _ _ _ _ _ _ _ _
 iterate 7
  refine hdJ (v:=?_) rfl (Or.inl ⟨by rfl,?_⟩) ?_
  rotate_left
  ·intro W hW;obtain⟨x4,hcv,had⟩:=HSS.out W hW;go_simp;try with_reducible rfl
  try simp only[Act.put,qA,qB,qC,qD,qE,qF]
 refine headI_only (i:=7) (by kernel_rfl) (by decide) rfl (fun K hK=>?_)
 rw[if_pos (by rfl)]
 go_simp
 go_at_call 90
 (with_reducible refine (HLF.out _ ((HF02.out.then HF4.out).then hC)).mono ?_)
 rintro e w6 ⟨rfl,hf6⟩
 have hC6:=hC.then hf6
 refine hK _ _ hC6 ?_
 clear hK K hC hf6
 try simp only[Act.put,qA,qB,qC,qD,qE,qF]
 refine headI_done ⟨by kernel_rfl,?_⟩
 simp only[List.drop_succ_cons,List.drop_zero]
 have hF46:=HF4.out.then hC6
 have hT6:=HBT2.out.fr hF46 (by simp)
 have hTI:TreeIs w6 w.heap.size none 0 none [] []:=⟨hT6,Own.nil _ _ _,by simp,by simp[blk],fun _=>rfl,by simp⟩
 have HAP:=Hd (Append_0 w.heap.size dl w6 hTI hl32)
 clear hTI hT6
 go_wp2_with ((go_at_call 89;(with_reducible refine HAP.out.mono ?_);rintro e w5 ⟨rfl,F',htm,hf5,hF5⟩;have HTM:=Hd (And.intro htm hF5);have HF5:=Hd hf5;clear htm hF5 hf5))
 go_ret2
 have hz2:=HB2.out.lt
 have hz12:=HF02.out.size
 have hz46:=hF46.size
 have hpl:=HST.out.1.lt
 have hb5:BoxN w5 w1.heap.size 136 #[.pointer (some ⟨p,0,none⟩),.slice none 0 0,.slice none 0 0,.pointer (some ⟨p,0,none⟩),.pointer (some ⟨w.heap.size,0,none⟩)]:=(HB2.out.fr hF46 (by simp)).fr HF5.out (by simp;omega)
 have hfin:Fr [] w w5:=(HF02.out.then hF46).trans HF5.out (by simp)
 have hM:∀ k∈w1.heap.size::(blk none++F'),w.heap.size≤k:=fun k hk=>by
  simp only[blk,Option.map_none,Option.toList_none,List.nil_append,List.mem_cons] at hk
  rcases hk with rfl | hk
  ·omega
  ·rcases HTM.out.2 k hk with rfl | h
   ·exact Nat.le_refl _
   ·omega
 have hMp:p ∉ w1.heap.size::(blk none++F'):=fun hm=>by have:=hM p hm;omega
 refine⟨w1.heap.size,_,rfl,⟨p,p,w.heap.size,none,0,F',⟨hb5,Own.nil _ _ _,HTM.out.1,by simp[blk],?_,by simp[blk],HST.out.fr0 hfin,?_,?_⟩,rfl⟩,hfin,hM⟩
 ·intro hm
  rcases HTM.out.2 _ hm with h | h
  ·omega
  ·omega
 ·intro k hk
  simp only[stB,TR.bl,List.mem_cons,List.not_mem_nil,or_false] at hk
  rw[hk]
  exact hMp
 ·intro W hW
  exact⟨(HST.out.fr0 hfin).fr hW (by simpa [stB,TR.bl] using hMp),by simp⟩
end Go.Proofs.YtlpmiimgacfmkaaGreatDoor
