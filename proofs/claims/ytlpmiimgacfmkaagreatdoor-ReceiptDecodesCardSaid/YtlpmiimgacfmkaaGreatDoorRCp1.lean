/- slices.Clone of changes; actions copied. -/
import Derived.Test.YtlpmiimgacfmkaaGreatDoorRSt7
import Derived.Test.YtlpmiimgacfmkaaGreatDoorRWr2
import Derived.Test.YtlpmiimgacfmkaaGreatDoorRLin2
set_option linter.all false
namespace Go.Proofs.YtlpmiimgacfmkaaGreatDoor
open Go.RowKit
set_option maxRecDepth 100000
set_option maxHeartbeats 4000000
def NilOk (l:CL) (A:Option Addr) (c:Nat):Prop:=l=.nil→A=none∧c=0
def ClPost (w:World) (l:CL) (e:Ending) (w':World):Prop:=∃ A c,e=.returned (l.sl A c)∧CLat w' A l∧NilOk l A c∧Fr [] w w'∧∀ k∈blk A,w.heap.size≤k
theorem chC_one (i:Int) (v:ByteArray) (a:Bool):∀ u∈chC i v a,u.oneCell'=true:=by
 intro u hu
 simp only[chC,List.mem_cons,List.not_mem_nil,or_false] at hu
 rcases hu with rfl | rfl | rfl | rfl | rfl | rfl | rfl <;> rfl
theorem CloneC_any (l:CL) (A:Option Addr) (c:Nat) (w:World) (h:CLat w A l) (hn:NilOk l A c):Calls Tryz.prog 154 #[l.sl A c] w (ClPost w l):=by
 cases l with
 | nil =>
  obtain⟨rfl,rfl⟩:=hn rfl
  unfold CL.sl CL.len
  have hq:=Lib.run_eql_slice_nil (P:=Tryz.prog) w 62 95 none 0 0 0 0 Tryz.underlying62
  simp only[Option.isNone_none] at hq
  go_enter Tryz.func154,Tryz.ntmps154
  go_wp2_with fail
  go_ret
  exact⟨none,0,rfl,trivial,fun _=>⟨rfl,rfl⟩,Fr.refl _ _,by simp[blk]⟩
 | one i v a =>
  obtain⟨b,rfl,hb⟩:=h
  unfold CL.sl CL.len
  obtain⟨ii,hii,iz0,iz1,iz2⟩:=info_chg
  have hbc:∀ j v',(chC i v a)[j]?=some v'→w.cell? ⟨b,j,none⟩=some v':=hb.2
  have HB:=Hd hbc
  have hcl:(chC i v a).length=1*7:=rfl
  have hq:=Lib.run_eql_slice_nil (P:=Tryz.prog) w 62 95 (some ⟨b,0,none⟩) 1 c 0 0 Tryz.underlying62
  simp only[Option.isNone_some] at hq
  clear hb hbc hn
  go_enter Tryz.func154,Tryz.ntmps154
  go_wp2_with (at_builtin;(with_reducible refine wpList_app (w:=w.alloc (.cells #[] 95)) rfl (.tmp 5) (.tmp 6) 62 rfl 95 ii _ 7 80 Tryz.underlying62 hii iz0 iz1 iz2 rfl (by decide) (some ⟨w.heap.size,0,none⟩) 0 0 [] rfl (Own.empty w _ _) ⟨b,0,none⟩ 1 c (chC i v a) rfl hcl (fun j u hu=>by rw[add_mid'];exact Lib.cell?_alloc_some _ (HB.out j u hu)) (chC_one i v a) (by unfold maxLen;omega) (by omega) ?_);intro A2 c2 w2 ho hf hs;have HO:=Hd ho;have HF:=Hd hf;have HS:=Hd hs;clear ho hf hs)
  go_ret
  have ho:=HO.out
  rw[List.nil_append,Nat.zero_add] at ho
  obtain⟨g,rfl,hg⟩:=Cs.of_own ho (by omega)
  have hsz:∀ k∈blk (some (⟨g,0,none⟩:Addr)),w.heap.size≤k:=fun k hk=>by
   rcases HS.out k hk with h | h
   ·simp[blk] at h;omega
   ·rw[World.size_alloc] at h;omega
  exact⟨some ⟨g,0,none⟩,c2,rfl,⟨g,rfl,hg⟩,by simp[NilOk],((Fr.refl [] w).alloc _).trans HF.out (fun x hx=>.inr (by simp[blk] at hx;omega)),hsz⟩
def ActAt (w:World) (a:AC) (v:Value) (L:List Nat):Prop:=∃ A c B d,v=a.val A c B d∧CLat w A a.r∧CLat w B a.w∧NilOk a.r A c∧NilOk a.w B d∧L=blk A++blk B
theorem ActAt.fr {w w':World} {a:AC} {v:Value} {L S:List Nat} (h:ActAt w a v L) (hf:Fr S w w') (hS:∀ k∈L,k ∉ S):ActAt w' a v L:=by
 obtain⟨A,c,B,d,rfl,h1,h2,h3,h4,rfl⟩:=h
 exact⟨A,c,B,d,rfl,h1.fr hf (fun k hk=>hS k (by simp[hk])),h2.fr hf (fun k hk=>hS k (by simp[hk])),h3,h4,rfl⟩
theorem ActAt.fr0 {w w':World} {a:AC} {v:Value} {L:List Nat} (h:ActAt w a v L) (hf:Fr [] w w'):ActAt w' a v L:=h.fr hf (by simp)
def CopyPost (w:World) (a:AC) (e:Ending) (w':World):Prop:=∃ v L,e=.returned v∧ActAt w' a v L∧Fr [] w w'∧∀ k∈L,w.heap.size≤k
theorem copiedH_any (a:AC) (v:Value) (L:List Nat) (w:World) (h:ActAt w a v L):Calls Tryz.prog 94 #[v] w (CopyPost w a):=by
 obtain⟨A,c,B,d,rfl,hA,hB,nA,nB,rfl⟩:=h
 obtain⟨w1,hw1,hb1,hf1⟩:=bxn w (actC a.t (a.r.sl A c) (a.w.sl B d)) 91
 obtain⟨w2,hw2,hb2,hf2⟩:=bxn w1 (actZ) 91
 have hf02:=hf1.then hf2
 have hs1:w1.heap.size=w.heap.size+1:=by rw[←hw1];exact World.size_alloc _ _
 have hCA:∀ W,Fr [] w2 W→Calls Tryz.prog 154 #[a.r.sl A c] W (ClPost W a.r):=fun W hW=>CloneC_any a.r A c W (hA.fr0 (hf02.then hW)) nA
 have hCB:∀ W,Fr [] w2 W→Calls Tryz.prog 154 #[a.w.sl B d] W (ClPost W a.w):=fun W hW=>CloneC_any a.w B d W (hB.fr0 (hf02.then hW)) nB
 have hIN:∀ W,Fr [] w2 W→W.cell? ⟨w.heap.size,0,none⟩=some (.int .i64 a.t)∧W.cell? ⟨w.heap.size,1,none⟩=some (.int .i64 0)∧W.cell? ⟨w.heap.size,2,none⟩=some (.int .i64 a.t)∧W.cell? ⟨w.heap.size,3,none⟩=some (.string ⟨#[]⟩)∧W.cell? ⟨w.heap.size,4,none⟩=some (a.r.sl A c)∧W.cell? ⟨w.heap.size,5,none⟩=some (a.w.sl B d):=fun W hW=>by
  have h:=(hb1.fr hf2 (by simp)).fr hW (by simp)
  exact⟨h.c 0,h.c 1,h.c 2,h.c 3,h.c 4,h.c 5⟩
 have HR2:=Hd hb2
 have HF02:=Hd hf02
 have HSS:=Hd hIN
 have HCA:=Hd hCA
 have HCB:=Hd hCB
 have HW1:=Hd hw1
 have HW2:=Hd hw2
 unfold AC.val
 unfold actC at HW1 ⊢
 unfold actZ at HW2
 obtain⟨rv,hrv⟩:=nmd (a.r.sl A c)
 obtain⟨wv,hwv⟩:=nmd (a.w.sl B d)
 rw[hrv,hwv] at HW1 HSS ⊢
 rw[hrv] at HCA
 rw[hwv] at HCB
 clear hw1 hw2 hb1 hb2 hf1 hf2 hf02 hCA hCB hIN hA hB
 go_enter Tryz.func94,Tryz.ntmps94
 go_upto_region 1 with fail
 rw[HW1.out,HW2.out,←hs1]
 have HR1:=Hd hs1
 clear hs1
 generalize w1.heap.size=R1 at HR1 HR2 ⊢
 have hC:Fr [] w2 w2.drew:=(Fr.refl [] w2).drew
 refine wp_region_head (fun W:World=>Fr [] w2 W) 8 (by kernel_rfl) ?_ (by decide)
 show headJ 0 _ _ _ _ _ _ _ _ _ _ _
 iterate 4
  refine hdJ (v:=?_) rfl (Or.inl ⟨by rfl,?_⟩) ?_
  rotate_left
  ·intro W hW;obtain⟨s0,s1,s2,s3,s4,s5⟩:=HSS.out W hW;go_simp;try with_reducible rfl
  try simp only[Act.put,qA,qB,qC,qD,qE,qF]
 show headJ 5 _ _ _ _ _ _ _ _ _ _ _
 iterate 2
  refine hdJ (v:=?_) rfl (Or.inl ⟨by rfl,?_⟩) ?_
  rotate_left
  ·intro W hW;obtain⟨s0,s1,s2,s3,s4,s5⟩:=HSS.out W hW;go_simp;try with_reducible rfl
  try simp only[Act.put,qA,qB,qC,qD,qE,qF]
 refine headI_only (i:=4) (by kernel_rfl) (by decide) rfl (fun K hK=>?_)
 rw[if_pos (by rfl)]
 go_simp
 go_at_call 154
 (with_reducible refine (HCA.out _ hC).mono ?_)
 rintro e y1 ⟨A1,c1,rfl,hA1,nA1,hf3,hs3⟩
 have hy1:=hC.then hf3
 refine hK _ _ hy1 ?_
 clear hK K
 try simp only[Act.put,qA,qB,qC,qD,qE,qF]
 refine headI_only (i:=7) (by kernel_rfl) (by decide) rfl (fun K hK=>?_)
 rw[if_pos (by rfl)]
 go_simp
 go_at_call 154
 (with_reducible refine (HCB.out _ hy1).mono ?_)
 rintro e y2 ⟨B1,d1,rfl,hB1,nB1,hf4,hs4⟩
 have hy2:=hy1.then hf4
 refine hK _ _ hy2 ?_
 clear hK K hC
 have hC:=hy2
 try simp only[Act.put,qA,qB,qC,qD,qE,qF]
 refine headI_done ⟨by kernel_rfl,?_⟩
 simp only[List.drop_succ_cons,List.drop_zero]
 have hb9:=HR2.out.fr hC (by simp)
 have g0:(y2).frozen? ⟨R1,0,none⟩=false:=hb9.f 0
 have g1:(y2).frozen? ⟨R1,1,none⟩=false:=hb9.f 1
 have g2:(y2).frozen? ⟨R1,2,none⟩=false:=hb9.f 2
 have g3:(y2).frozen? ⟨R1,3,none⟩=false:=hb9.f 3
 have g4:(y2).frozen? ⟨R1,4,none⟩=false:=hb9.f 4
 have g5:(y2).frozen? ⟨R1,5,none⟩=false:=hb9.f 5
 obtain⟨z0,z1,z2,z3,z4,z5⟩:=hb9.m6
 unfold CL.sl
 obtain⟨n1,hn1⟩:=nmd (a.r.len)
 obtain⟨m1,hm1⟩:=nmd (a.w.len)
 rw[hn1,hm1]
 have HN1:=Hd (And.intro hn1 hm1)
 clear hn1 hm1
 go_wp2_with fail
 obtain⟨w12,hw12⟩:=nmd (((((((y2).setCell ⟨R1,0,none⟩ (.int .i64 a.t)).setCell ⟨R1,1,none⟩ (.int .i64 0)).setCell ⟨R1,2,none⟩ (.int .i64 a.t)).setCell ⟨R1,3,none⟩ (.string ⟨#[]⟩)).setCell ⟨R1,4,none⟩ (.slice A1 n1 c1)).setCell ⟨R1,5,none⟩ (.slice B1 m1 d1))
 have h12:BoxN w12 R1 91 #[.int .i64 a.t,.int .i64 0,.int .i64 a.t,.string ⟨#[]⟩,.slice A1 n1 c1,.slice B1 m1 d1]:=by rw[←hw12];exact ((((((hb9.setAt 0 _).setAt 1 _).setAt 2 _).setAt 3 _).setAt 4 _).setAt 5 _)
 have f12:Fr [R1] (y2) w12:=by rw[←hw12];exact ((((((Fr.refl [R1] (y2)).set (.inl (by simp)) _).set (.inl (by simp)) _).set (.inl (by simp)) _).set (.inl (by simp)) _).set (.inl (by simp)) _).set (.inl (by simp)) _
 have hRlt:=HR2.out.lt
 have hz2:=HF02.out.size
 have hzy:=hy1.size
 have hcA:CLat w12 A1 a.r:=(hA1.fr0 hf4).fr f12 (by intro k hk;have:=hs3 k hk;simp only[World.drew,List.mem_singleton] at this ⊢;omega)
 have hcB:CLat w12 B1 a.w:=hB1.fr f12 (by intro k hk;have:=hs4 k hk;simp only[List.mem_singleton] at this ⊢;omega)
 have hfin:Fr [] w w12:=((HF02.out.then hC).trans f12 (T:=[R1]) (by simp;have:=HR1.out;omega))
 obtain⟨t0,t1,t2,t3,t4,t5⟩:=h12.m6
 have HFIN:=Hd (And.intro hcA (And.intro hcB hfin))
 rw[hw12]
 clear hw12 h12 f12 hcA hcB hfin z0 z1 z2 z3 z4 z5 g0 g1 g2 g3 g4 g5
 refine bodyPost_ret (v:=.agg #[.int .i64 a.t,.int .i64 0,.int .i64 a.t,.string ⟨#[]⟩,.slice A1 n1 c1,.slice B1 m1 d1]) (by simp[results,Tryz.results94,go_sem,t0,t1,t2,t3,t4,t5]) rfl ⟨_,_,rfl,⟨A1,c1,B1,d1,by unfold AC.val actC CL.sl;rw[HN1.out.1,HN1.out.2],HFIN.out.1,HFIN.out.2.1,nA1,nB1,rfl⟩,HFIN.out.2.2,fun k hk=>?_⟩
 rcases List.mem_append.1 hk with hk | hk
 ·have:=hs3 k hk;simp only[World.drew] at this;omega
 ·have:=hs4 k hk;omega
theorem copiedV_any (a:AC) (v:Value) (L:List Nat) (w:World) (h:ActAt w a v L):Calls Tryz.prog 159 #[v] w (CopyPost w a):=by
 obtain⟨A,c,B,d,rfl,hA,hB,nA,nB,rfl⟩:=h
 obtain⟨w1,hw1,hb1,hf1⟩:=bxn w (actC a.t (a.r.sl A c) (a.w.sl B d)) 91
 obtain⟨w2,hw2,hb2,hf2⟩:=bxn w1 (actZ) 91
 have hf02:=hf1.then hf2
 have hs1:w1.heap.size=w.heap.size+1:=by rw[←hw1];exact World.size_alloc _ _
 have hCA:∀ W,Fr [] w2 W→Calls Tryz.prog 154 #[a.r.sl A c] W (ClPost W a.r):=fun W hW=>CloneC_any a.r A c W (hA.fr0 (hf02.then hW)) nA
 have hCB:∀ W,Fr [] w2 W→Calls Tryz.prog 154 #[a.w.sl B d] W (ClPost W a.w):=fun W hW=>CloneC_any a.w B d W (hB.fr0 (hf02.then hW)) nB
 have hIN:∀ W,Fr [] w2 W→W.cell? ⟨w.heap.size,0,none⟩=some (.int .i64 a.t)∧W.cell? ⟨w.heap.size,1,none⟩=some (.int .i64 0)∧W.cell? ⟨w.heap.size,2,none⟩=some (.int .i64 a.t)∧W.cell? ⟨w.heap.size,3,none⟩=some (.string ⟨#[]⟩)∧W.cell? ⟨w.heap.size,4,none⟩=some (a.r.sl A c)∧W.cell? ⟨w.heap.size,5,none⟩=some (a.w.sl B d):=fun W hW=>by
  have h:=(hb1.fr hf2 (by simp)).fr hW (by simp)
  exact⟨h.c 0,h.c 1,h.c 2,h.c 3,h.c 4,h.c 5⟩
 have HR2:=Hd hb2
 have HF02:=Hd hf02
 have HSS:=Hd hIN
 have HCA:=Hd hCA
 have HCB:=Hd hCB
 have HW1:=Hd hw1
 have HW2:=Hd hw2
 unfold AC.val
 unfold actC at HW1 ⊢
 unfold actZ at HW2
 obtain⟨rv,hrv⟩:=nmd (a.r.sl A c)
 obtain⟨wv,hwv⟩:=nmd (a.w.sl B d)
 rw[hrv,hwv] at HW1 HSS ⊢
 rw[hrv] at HCA
 rw[hwv] at HCB
 clear hw1 hw2 hb1 hb2 hf1 hf2 hf02 hCA hCB hIN hA hB
 go_enter Tryz.func159,Tryz.ntmps159
 go_upto_region 1 with fail
 rw[HW1.out,HW2.out,←hs1]
 have HR1:=Hd hs1
 clear hs1
 generalize w1.heap.size=R1 at HR1 HR2 ⊢
 have hC:Fr [] w2 w2.drew:=(Fr.refl [] w2).drew
 refine wp_region_head (fun W:World=>Fr [] w2 W) 8 (by kernel_rfl) ?_ (by decide)
 show headJ 0 _ _ _ _ _ _ _ _ _ _ _
 iterate 4
  refine hdJ (v:=?_) rfl (Or.inl ⟨by rfl,?_⟩) ?_
  rotate_left
  ·intro W hW;obtain⟨s0,s1,s2,s3,s4,s5⟩:=HSS.out W hW;go_simp;try with_reducible rfl
  try simp only[Act.put,qA,qB,qC,qD,qE,qF]
 show headJ 5 _ _ _ _ _ _ _ _ _ _ _
 iterate 2
  refine hdJ (v:=?_) rfl (Or.inl ⟨by rfl,?_⟩) ?_
  rotate_left
  ·intro W hW;obtain⟨s0,s1,s2,s3,s4,s5⟩:=HSS.out W hW;go_simp;try with_reducible rfl
  try simp only[Act.put,qA,qB,qC,qD,qE,qF]
 refine headI_only (i:=4) (by kernel_rfl) (by decide) rfl (fun K hK=>?_)
 rw[if_pos (by rfl)]
 go_simp
 go_at_call 154
 (with_reducible refine (HCA.out _ hC).mono ?_)
 rintro e y1 ⟨A1,c1,rfl,hA1,nA1,hf3,hs3⟩
 have hy1:=hC.then hf3
 refine hK _ _ hy1 ?_
 clear hK K
 try simp only[Act.put,qA,qB,qC,qD,qE,qF]
 refine headI_only (i:=7) (by kernel_rfl) (by decide) rfl (fun K hK=>?_)
 rw[if_pos (by rfl)]
 go_simp
 go_at_call 154
 (with_reducible refine (HCB.out _ hy1).mono ?_)
 rintro e y2 ⟨B1,d1,rfl,hB1,nB1,hf4,hs4⟩
 have hy2:=hy1.then hf4
 refine hK _ _ hy2 ?_
 clear hK K hC
 have hC:=hy2
 try simp only[Act.put,qA,qB,qC,qD,qE,qF]
 refine headI_done ⟨by kernel_rfl,?_⟩
 simp only[List.drop_succ_cons,List.drop_zero]
 have hb9:=HR2.out.fr hC (by simp)
 have g0:(y2).frozen? ⟨R1,0,none⟩=false:=hb9.f 0
 have g1:(y2).frozen? ⟨R1,1,none⟩=false:=hb9.f 1
 have g2:(y2).frozen? ⟨R1,2,none⟩=false:=hb9.f 2
 have g3:(y2).frozen? ⟨R1,3,none⟩=false:=hb9.f 3
 have g4:(y2).frozen? ⟨R1,4,none⟩=false:=hb9.f 4
 have g5:(y2).frozen? ⟨R1,5,none⟩=false:=hb9.f 5
 obtain⟨z0,z1,z2,z3,z4,z5⟩:=hb9.m6
 unfold CL.sl
 obtain⟨n1,hn1⟩:=nmd (a.r.len)
 obtain⟨m1,hm1⟩:=nmd (a.w.len)
 rw[hn1,hm1]
 have HN1:=Hd (And.intro hn1 hm1)
 clear hn1 hm1
 go_wp2_with fail
 obtain⟨w12,hw12⟩:=nmd (((((((y2).setCell ⟨R1,0,none⟩ (.int .i64 a.t)).setCell ⟨R1,1,none⟩ (.int .i64 0)).setCell ⟨R1,2,none⟩ (.int .i64 a.t)).setCell ⟨R1,3,none⟩ (.string ⟨#[]⟩)).setCell ⟨R1,4,none⟩ (.slice A1 n1 c1)).setCell ⟨R1,5,none⟩ (.slice B1 m1 d1))
 have h12:BoxN w12 R1 91 #[.int .i64 a.t,.int .i64 0,.int .i64 a.t,.string ⟨#[]⟩,.slice A1 n1 c1,.slice B1 m1 d1]:=by rw[←hw12];exact ((((((hb9.setAt 0 _).setAt 1 _).setAt 2 _).setAt 3 _).setAt 4 _).setAt 5 _)
 have f12:Fr [R1] (y2) w12:=by rw[←hw12];exact ((((((Fr.refl [R1] (y2)).set (.inl (by simp)) _).set (.inl (by simp)) _).set (.inl (by simp)) _).set (.inl (by simp)) _).set (.inl (by simp)) _).set (.inl (by simp)) _
 have hRlt:=HR2.out.lt
 have hz2:=HF02.out.size
 have hzy:=hy1.size
 have hcA:CLat w12 A1 a.r:=(hA1.fr0 hf4).fr f12 (by intro k hk;have:=hs3 k hk;simp only[World.drew,List.mem_singleton] at this ⊢;omega)
 have hcB:CLat w12 B1 a.w:=hB1.fr f12 (by intro k hk;have:=hs4 k hk;simp only[List.mem_singleton] at this ⊢;omega)
 have hfin:Fr [] w w12:=((HF02.out.then hC).trans f12 (T:=[R1]) (by simp;have:=HR1.out;omega))
 obtain⟨t0,t1,t2,t3,t4,t5⟩:=h12.m6
 have HFIN:=Hd (And.intro hcA (And.intro hcB hfin))
 rw[hw12]
 clear hw12 h12 f12 hcA hcB hfin z0 z1 z2 z3 z4 z5 g0 g1 g2 g3 g4 g5
 refine bodyPost_ret (v:=.agg #[.int .i64 a.t,.int .i64 0,.int .i64 a.t,.string ⟨#[]⟩,.slice A1 n1 c1,.slice B1 m1 d1]) (by simp[results,Tryz.results159,go_sem,t0,t1,t2,t3,t4,t5]) rfl ⟨_,_,rfl,⟨A1,c1,B1,d1,by unfold AC.val actC CL.sl;rw[HN1.out.1,HN1.out.2],HFIN.out.1,HFIN.out.2.1,nA1,nB1,rfl⟩,HFIN.out.2.2,fun k hk=>?_⟩
 rcases List.mem_append.1 hk with hk | hk
 ·have:=hs3 k hk;simp only[World.drew] at this;omega
 ·have:=hs4 k hk;omega
set_option maxHeartbeats 1000000
theorem Port_any (i:Int) (w:World):Calls Tryz.prog 35 #[.int .i64 i] w (RetPost w (portV i)):=by
 unfold portV
 obtain⟨w1,hw1,n1,f1⟩:=bxn w #[.int .i64 0,.string ⟨#[]⟩,.int .i64 0,.int .i64 0,.string ⟨#[]⟩] 31
 have HW:=Hd (And.intro hw1 (And.intro n1 f1))
 clear hw1 n1 f1
 go_enter Tryz.func35,Tryz.ntmps35
 go_upto_region 1 with fail
 rw[HW.out.1]
 have n1:=HW.out.2.1
 have v0:=n1.f 0
 have v1:=n1.f 1
 have v2:=n1.f 2
 have v3:=n1.f 3
 have v4:=n1.f 4
 obtain⟨x0,x1,x2,x3,x4⟩:=n1.m5
 clear n1
 go_wp2_with fail
 obtain⟨w2,hw2⟩:=nmd ((((((w1.setCell ⟨w.heap.size,0,none⟩ (.int .i64 16)).setCell ⟨w.heap.size,1,none⟩ (.string ⟨#[]⟩)).setCell ⟨w.heap.size,2,none⟩ (.int .i64 i)).setCell ⟨w.heap.size,3,none⟩ (.int .i64 0)).setCell ⟨w.heap.size,4,none⟩ (.string ⟨#[]⟩)))
 have n2:BoxN w2 w.heap.size 31 #[.int .i64 16,.string ⟨#[]⟩,.int .i64 i,.int .i64 0,.string ⟨#[]⟩]:=by rw[←hw2];exact (((((HW.out.2.1.setAt 0 _).setAt 1 _).setAt 2 _).setAt 3 _).setAt 4 _)
 have f2:Fr [w.heap.size] w1 w2:=by rw[←hw2];exact (((((Fr.refl [w.heap.size] w1).set (.inl (by simp)) _).set (.inl (by simp)) _).set (.inl (by simp)) _).set (.inl (by simp)) _).set (.inl (by simp)) _
 rw[hw2]
 obtain⟨t0,t1,t2,t3,t4⟩:=n2.m5
 refine bodyPost_ret (v:=.agg #[.int .i64 16,.string ⟨#[]⟩,.int .i64 i,.int .i64 0,.string ⟨#[]⟩]) (by simp[results,Tryz.results35,go_sem,t0,t1,t2,t3,t4]) rfl ?_
 exact⟨rfl,HW.out.2.2.trans f2 (by simp)⟩
def lnkC:List Value:=[.int .i64 0,.int .i64 1,.int .i64 16,.string ⟨#[]⟩,.int .i64 1,.int .i64 0,.string ⟨#[]⟩]
theorem EqualL_any (a b ca cb:Nat) (w:World) (ha:Cs w a lnkC) (hb:Cs w b lnkC):Calls Tryz.prog 36 #[.slice (some ⟨a,0,none⟩) 1 ca,.slice (some ⟨b,0,none⟩) 1 cb] w (RetPost w (.bool true)):=by
 have HA:=Hd ha
 have HB:=Hd hb
 clear ha hb
 go_enter Tryz.func36,Tryz.ntmps36
 go_upto_region 4 with fail
 refine wp_loop_rounds 2 ?_
 rw[rounds_succ]
 go_upto_region 6 with fail
 have hwr:IntKind.i64.wrap 0=0:=by decide
 have hSS0:∀ W,Fr [] w W→Cs W a lnkC∧Cs W b lnkC:=fun W hW=>⟨HA.out.fr0 hW,HB.out.fr0 hW⟩
 unfold lnkC at hSS0
 have HSS:=Hd (fun (W:World) (hW:Fr [] w W)=>(⟨(hSS0 W hW).1.2 0 _ rfl,(hSS0 W hW).1.2 1 _ rfl,(hSS0 W hW).1.2 2 _ rfl,(hSS0 W hW).1.2 3 _ rfl,(hSS0 W hW).1.2 4 _ rfl,(hSS0 W hW).1.2 5 _ rfl,(hSS0 W hW).1.2 6 _ rfl,(hSS0 W hW).2.2 0 _ rfl,(hSS0 W hW).2.2 1 _ rfl,(hSS0 W hW).2.2 2 _ rfl,(hSS0 W hW).2.2 3 _ rfl,(hSS0 W hW).2.2 4 _ rfl,(hSS0 W hW).2.2 5 _ rfl,(hSS0 W hW).2.2 6 _ rfl⟩:W.cell? ⟨a,0,none⟩=some (.int .i64 0)∧W.cell? ⟨a,1,none⟩=some (.int .i64 1)∧W.cell? ⟨a,2,none⟩=some (.int .i64 16)∧W.cell? ⟨a,3,none⟩=some (.string ⟨#[]⟩)∧W.cell? ⟨a,4,none⟩=some (.int .i64 1)∧W.cell? ⟨a,5,none⟩=some (.int .i64 0)∧W.cell? ⟨a,6,none⟩=some (.string ⟨#[]⟩)∧W.cell? ⟨b,0,none⟩=some (.int .i64 0)∧W.cell? ⟨b,1,none⟩=some (.int .i64 1)∧W.cell? ⟨b,2,none⟩=some (.int .i64 16)∧W.cell? ⟨b,3,none⟩=some (.string ⟨#[]⟩)∧W.cell? ⟨b,4,none⟩=some (.int .i64 1)∧W.cell? ⟨b,5,none⟩=some (.int .i64 0)∧W.cell? ⟨b,6,none⟩=some (.string ⟨#[]⟩)))
 clear hSS0
 refine wp_region_qall (fun W=>Fr [] w W) (by kernel_rfl) (by kernel_rfl) ((Fr.refl _ w).drew) ?_
 repeat (
  first
  | go_big_quiet_skip
  | (go_big_quiet_want
     first
     | (go_big_quiet_op
        go_big_quiet_on)
     | (apply Exists.intro
        refine⟨fun W hW=>?_,?_⟩
        ·(obtain⟨a0,a1,a2,a3,a4,a5,a6,b0,b1,b2,b3,b4,b5,b6⟩:=HSS.out W hW
          go_simp
          first
          | done
          | (with_reducible exact rfl)
          | (with_reducible exact⟨rfl,rfl⟩)
          | (fail))
        simp only[Act.put,qA,qB,qC]
        go_big_quiet_on))
  )
 refine wpQuiet_nil ?_
 intro w2 hw2
 go_wp2_with fail
 rw[rounds_succ]
 go_wp2_with fail
 go_ret
 exact⟨rfl,hw2⟩
end Go.Proofs.YtlpmiimgacfmkaaGreatDoor
