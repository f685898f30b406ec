/- history: Actions. -/
import Derived.ProofKit
import Derived.OpenShut
import Derived.LaidMore
import Derived.Lib.LaidTab
import Derived.Stop.Joined
import Derived.Stop.LaidErr
import Derived.ChangeMaps5
import Derived.Shelf.Vars
import Derived.Deep.DeepHandedRow
import Derived.Lib.SmallJoins
import Derived.Test.YtlpmiimgacfmkaaGreatDoorMGq
import Derived.Test.YtlpmiimgacfmkaaGreatDoorMHsh2
import Derived.Test.YtlpmiimgacfmkaaGreatDoorMOkk
import Derived.Test.YtlpmiimgacfmkaaGreatDoorMPlain1
import Derived.Test.YtlpmiimgacfmkaaGreatDoorRows
set_option linter.all false
namespace Go.Proofs.YtlpmiimgacfmkaaGreatDoor
open Go.Proofs.Tryz
open Go.RowKit
set_option maxRecDepth 100000
set_option maxHeartbeats 4000000
structure ActL (w:World) (b:Nat) (N:Nat) (ys:List AX):Prop where
 row:∃ f,w.rowIs b 91 N f/\∀ j x,ys[j]?=some x->∀ o u,x.cs[o]?=some u->j*6+o<N/\f (j*6+o)=u
 ok:∀ y∈ys,y.ok w
section
variable {w w':World} {b N:Nat} {ys:List AX} {S:List Nat}
theorem ActL.fr0 (h:ActL w b N ys) (hf:Fr [] w w'):ActL w' b N ys:=by
 obtain⟨f,h1,h2⟩:=h.row;exact⟨⟨f,rowIs_fr h1 hf (by simp),h2⟩,fun y hy=>(h.ok y hy).fr0 hf⟩
theorem ActL.take (h:ActL w b N ys) (n:Nat):ActL w b N (ys.take n):=by
 obtain⟨f,h1,h2⟩:=h.row;exact⟨⟨f,h1,fun j x hx=>h2 j x (by rw[List.getElem?_take] at hx;split at hx <;> simp_all)⟩,fun y hy=>h.ok y (List.mem_of_mem_take hy)⟩
theorem ActL.c (h:ActL w b N ys) {j:Nat} {x:AX} (hx:ys[j]?=some x) (o:Nat) (u:Value) (hu:x.cs[o]?=some u):w.cell? ⟨b,j*6+o,none⟩=some u:=by
 obtain⟨f,h1,h2⟩:=h.row;obtain⟨h3,h4⟩:=h2 j x hx o u hu;rw[h1.cell h3,h4]
end
theorem ActL.snoc {w w':World} {b N:Nat} {ys:List AX} {y:AX} (h:ActL w b N ys) (hy:y.ok w) (hN:ys.length*6+6<=N)
 (hw:w'=(((((w.setCell ⟨b,ys.length*6,none⟩ (.int .i64 y.a.k.rnd)).setCell ⟨b,ys.length*6+1,none⟩ (.int .i64 y.a.k.phase)).setCell ⟨b,ys.length*6+2,none⟩ (.int .i64 y.a.k.idx)).setCell ⟨b,ys.length*6+3,none⟩ (.string y.sl)).setCell ⟨b,ys.length*6+4,none⟩ (.slice y.A y.a.r.length y.c)).setCell ⟨b,ys.length*6+5,none⟩ (.slice y.B y.a.w.length y.d)) :
 ActL w' b N (ys++[y])/\Fr [b] w w':=by
 obtain⟨f,h1,h2⟩:=h.row;have hf:Fr [b] w w':=by rw[hw];exact ((((((Fq [b] w).set (.inl (by simp)) _).set (.inl (by simp)) _).set (.inl (by simp)) _).set (.inl (by simp)) _).set (.inl (by simp)) _).set (.inl (by simp)) _
 have hNT:NoT tyS w [b]:=by
  obtain⟨c,h3,_⟩:=h1;intro k hk cur e z he;rw[lms] at hk;subst hk;rw[h3] at he
  cases he
  decide
 have hr:=(((((h1.set (ys.length*6) (.int .i64 y.a.k.rnd)).set (ys.length*6+1) (.int .i64 y.a.k.phase)).set (ys.length*6+2) (.int .i64 y.a.k.idx)).set (ys.length*6+3) (.string y.sl)).set (ys.length*6+4) (.slice y.A y.a.r.length y.c)).set (ys.length*6+5) (.slice y.B y.a.w.length y.d);rw[<-hw] at hr;refine⟨⟨⟨_,hr,fun j x hx o u hu=>?_⟩,fun x hx=>?_⟩,hf⟩
 ·have ho:o<6:=by have:=(lgs.1 hu).1;exact this
  by_cases hj:j<ys.length
  ·rw[List.getElem?_append_left hj] at hx
   obtain⟨h3,h4⟩:=h2 j x hx o u hu;refine⟨h3,?_⟩;have hlt:j*6+o<ys.length*6:=by omega
   rw[if_neg (by omega),if_neg (by omega),if_neg (by omega),if_neg (by omega),if_neg (by omega),if_neg (by omega),h4]
  ·have hj2:j=ys.length:=by
    have:=(lgs.1 hx).1;rw[lla] at this;simp at this;omega
   subst hj2;rw[List.getElem?_append_right (nlr _),Nat.sub_self,List.getElem?_cons_zero] at hx
   injection hx with hx
   subst hx;refine⟨by omega,?_⟩;unfold AX.cs at hu
   match o,ho with
   | 0,_=>rw[if_neg (by omega),if_neg (by omega),if_neg (by omega),if_neg (by omega),if_neg (by omega),if_pos (by omega)];simpa using hu
   | 1,_=>rw[if_neg (by omega),if_neg (by omega),if_neg (by omega),if_neg (by omega),if_pos rfl];simpa using hu
   | 2,_=>rw[if_neg (by omega),if_neg (by omega),if_neg (by omega),if_pos rfl];simpa using hu
   | 3,_=>rw[if_neg (by omega),if_neg (by omega),if_pos rfl];simpa using hu
   | 4,_=>rw[if_neg (by omega),if_pos rfl];simpa using hu
   | 5,_=>rw[if_pos rfl];simpa using hu
 ·rcases List.mem_append.1 hx with hx | hx
  ·exact (h.ok x hx).frT hf hNT
  ·rw[lms] at hx
   rw[hx];exact hy.frT hf hNT
theorem run_makeActs (w:World) (n:Nat) (hn:n<=1000):∃ w',(Instr.makeSlice 22 (.int .i64 (n:Int)) (.int .i64 (n:Int))).run prog w=.ok (.slice (some ⟨w.heap.size,0,none⟩) n n) w'/\ActL w' w.heap.size (n*6) []/\Fr [] w w':=by
 obtain⟨i,hi,hz,hs,hb⟩:=info_act;have h:=run_makeSlice (P:=prog) (w:=w) 22 91 i (.agg actZ) underlying22 hi hz .i64 .i64 n n (by omega) (by omega) (by rw[hs];omega) (by rw[hb];omega) (by omega);rw[hs] at h;refine⟨_,h,⟨?_,by simp⟩,(Fq [] w).alloc _⟩;have hr:=row_new w (madeCells (Value.agg actZ).cells (n*6)) 91;rw[size_madeCells] at hr;exact⟨_,hr,by simp⟩
def ActsPost (w:World) (xs:List AX) (e:Ending) (w':World):Prop:=∃ L ys,e=.returned (.slice (some ⟨L,0,none⟩) xs.length xs.length)/\ys.map AX.a=xs.map AX.a/\ActL w' L (xs.length*6) ys/\Fr [] w w'/\w.heap.size<=L
theorem Actions_h (b:Nat) (xs:List AX) (M:List Nat) (w:World) (h:HG w b xs M):Calls prog 41 #[.pointer (some ⟨b,0,none⟩)] w (ActsPost w xs):=by
 have hl12:=h.len12;obtain⟨pb,pl,bt,A,c,F,ns,ds,kvs,h,rfl⟩:=h;obtain⟨m,hm⟩:=nmd (xs.length);have hbx:=h.box;rw[hm] at hbx hl12;obtain⟨x0,x1⟩:=hbx.m2;obtain⟨X0,hmk,hac,hf0⟩:=run_makeActs w m (by omega);have z1:X0.cell? ⟨b,1,none⟩=some (.slice A m c):=(hbx.fr hf0 (by simp)).c 1;have HN:=Hd (none_any b pb w x0);have HH:=Hd h;have HM:=Hd hm;have HA0:=Hd (An hac hf0);clear h hbx hm hac hf0;unfold ActsPost;rw[HM.out]
 go_enter func41,ntmps41
 go_wp2_with ((go_at_call 59;(with_reducible refine HN.out.mono ?_);rintro e w' ⟨rfl,rfl⟩))
 clear x0 x1 z1 hmk;obtain⟨L,hL⟩:=nmd (w.heap.size);rw[hL] at HA0
 try rw[hL]
 have HLL:=Hd hL;clear hL
 go_loopw [19] (fun i W=>∃ (j:Nat) (ys:List AX),j<=m/\i=.int .i64 (j:Int)/\ys.length=j/\ys.map AX.a=(xs.take j).map AX.a/\ActL W L (m*6) ys/\Fr [] w W) (fun i _=>m - (intOf i).toNat)
 case atStart=>exact⟨0,[],Nat.zero_le _,rfl,rfl,by simp,HA0.out.1,HA0.out.2⟩
 case round =>
  obtain⟨j,ys,hj,rfl,hyl,hya,hac,hfr⟩:=hrel;have HF:=Hd (An hyl (An hya (An hac hfr)));clear hyl hya hac hfr
  by_cases hjl:j<m
  ·have hlt3:(j:Int)<(m:Int):=by omega
   have hrow:=(HH.out.own.rd:Rd w 6 A xs.length (xs.flatMap AX.cs));rw[HM.out] at hrow;obtain⟨g,off,rfl,hgl,hcl⟩:=row_get ax_len hrow (by omega);obtain⟨x,hx⟩:∃ x,xs[j]?=some x:=⟨_,lge (by rw[HM.out];omega)⟩;have hxw:=HH.out.run.wf x (lmg hx);have hxo:=(HH.out.xok x (lmg hx)).fr0 HF.out.2.2.2;have hcx:=hcl j x hx;unfold AX.cs at hcx;have hk:∀ o,wr.cell? ⟨g,o,none⟩=w.cell? ⟨g,o,none⟩:=fun o=>HF.out.2.2.2.cell (p:=⟨g,o,none⟩) hgl (by simp);have y0:wr.cell? ⟨g,off+j*6,none⟩=some (.int .i64 x.a.k.rnd):=(hk _).trans (hcx 0 (by omega));have y1:wr.cell? ⟨g,off+j*6+1,none⟩=some (.int .i64 x.a.k.phase):=(hk _).trans (hcx 1 (by omega));have y2:wr.cell? ⟨g,off+j*6+2,none⟩=some (.int .i64 x.a.k.idx):=(hk _).trans (hcx 2 (by omega));have y3:wr.cell? ⟨g,off+j*6+3,none⟩=some (.string x.sl):=(hk _).trans (hcx 3 (by omega));have y4:wr.cell? ⟨g,off+j*6+4,none⟩=some (.slice x.A x.a.r.length x.c):=(hk _).trans (hcx 4 (by omega));have y5:wr.cell? ⟨g,off+j*6+5,none⟩=some (.slice x.B x.a.w.length x.d):=(hk _).trans (hcx 5 (by omega));obtain⟨w1,hw1,hz1,n1,fw1⟩:=bxz wr #[.int .i64 x.a.k.rnd,.int .i64 x.a.k.phase,.int .i64 x.a.k.idx,.string x.sl,.slice x.A x.a.r.length x.c,.slice x.B x.a.w.length x.d] 91 wr.heap.size;have hCp:Calls prog 94 #[x.a.val x.sl x.A x.c x.B x.d] w1 (CopyG w1 x.a):=copiedH_g x.a x.sl x.A x.B x.c x.d w1 hxo.s (hxo.chr.fr0 fw1) (hxo.chw.fr0 fw1) hxw.2.1;unfold AG.val at hCp;have HCP:=Hd hCp;have HX:=Hd hx;clear hcx hk hxo hxw hx hCp hrow hcl
   go_upto_region 7 with fail
   try rw[hw1]
   clear y0 y1 y2 y3 y4 y5;obtain⟨x0,x1,x2,x3,x4,x5⟩:=n1.m6;have HW1:=Hd fw1;clear hw1 n1 fw1 hz1
   go_wp2_with ((go_at_call 94;(with_reducible refine HCP.out.mono ?_);rintro e w2 ⟨⟨ya,ys2,yA,yc,yB,yd⟩,hya2,rfl,hyk,hf2⟩;dsimp only at hya2;subst hya2;unfold AX.v AG.val;dsimp only;have HY:=Hd (An hyk hf2);have ha2:=HF.out.2.2.1.fr0 (HW1.out.then hf2);obtain⟨fr,hfr1,hfr2⟩:=ha2.row;clear hyk hf2;have q0:=hfr1.cell (i:=j*6) (by omega);have q1:=hfr1.cell (i:=j*6+1) (by omega);have q2:=hfr1.cell (i:=j*6+2) (by omega);have q3:=hfr1.cell (i:=j*6+3) (by omega);have q4:=hfr1.cell (i:=j*6+4) (by omega);have q5:=hfr1.cell (i:=j*6+5) (by omega);have g0:=hfr1.frozen (j*6);have g1:=hfr1.frozen (j*6+1);have g2:=hfr1.frozen (j*6+2);have g3:=hfr1.frozen (j*6+3);have g4:=hfr1.frozen (j*6+4);have g5:=hfr1.frozen (j*6+5);have HA2:=Hd ha2;clear hfr1 hfr2 ha2))
   obtain⟨w3,hw3⟩:=nmd ((((((w2.setCell ⟨L,j*6,none⟩ (.int .i64 x.a.k.rnd)).setCell ⟨L,j*6+1,none⟩ (.int .i64 x.a.k.phase)).setCell ⟨L,j*6+2,none⟩ (.int .i64 x.a.k.idx)).setCell ⟨L,j*6+3,none⟩ (.string ys2)).setCell ⟨L,j*6+4,none⟩ (.slice yA x.a.r.length yc)).setCell ⟨L,j*6+5,none⟩ (.slice yB x.a.w.length yd))
   try rw[hw3]
   have hyl:=HF.out.1;obtain⟨ha3,hf3⟩:=ActL.snoc (w':=w3) (y:=⟨x.a,ys2,yA,yc,yB,yd⟩) HA2.out HY.out.1 (by rw[hyl];omega) (by rw[hyl];exact hw3.symm);have hfin:Fr [] w w3:=(HF.out.2.2.2.then (HW1.out.then HY.out.2)).trans hf3 (by have:=HLL.out;simp;omega);have HFIN:=Hd (An ha3 hfin);clear ha3 hfin hf3
   go_roundw
   case rel =>
    refine⟨j+1,ys++[⟨x.a,ys2,yA,yc,yB,yd⟩],by omega,by go_num,by simp[hyl],?_,HFIN.out.1,HFIN.out.2⟩;rw[List.map_append,HF.out.2.1,List.take_add_one,HX.out,List.map_append];simp
   case measure=>simp[intOf];omega
  ·obtain rfl:j=m:=by omega
   go_wp2_with fail
   go_ret
   refine⟨L,ys,rfl,?_,HF.out.2.2.1,HF.out.2.2.2,by have:=HLL.out;omega⟩;rw[HF.out.2.1,List.take_of_length_le (by rw[HM.out];exact nlr _)]
def dsX (xs:List AX):List Nm:=leaf0::xs.map leafX
theorem dsX_len (xs:List AX):(dsX xs).length=xs.length+1:=by simp[dsX]
theorem dsX_32 (xs:List AX):∀ d∈dsX xs,d.length=32:=by
 intro d hd
 rcases List.mem_cons.1 hd with rfl | hd
 ·exact shaN_len _
 ·obtain⟨x,_,rfl⟩:=List.mem_map.1 hd
  exact shaN_len _
def pathX (xs:List AX) (i n:Nat):List Nm:=pth (dsX xs) (i+1) 0 (n+1)
theorem Prove_h (b:Nat) (xs:List AX) (M:List Nat) (i n:Nat) (y:AX) (w:World) (h:HG w b xs M) (hok:Ok w) (hy:xs[i]?=some y) (hin:i<n) (hn:n<=xs.length) :
 Calls prog 20 #[.pointer (some ⟨b,0,none⟩),.int .i64 (i:Int),.int .i64 (n:Int)] w (ProvePost w (i:Int) (n:Int) (encAG y.a) (pathX xs i n)):=by
 have hl12:=h.len12;obtain⟨pb,pl,bt,A,c,F,ns,ds,kvs,h,rfl⟩:=h;obtain⟨m,hm⟩:=nmd (xs.length);rw[hm] at hn hl12;have hds:ds=dsX xs:=h.ds;have hrow:=(h.own.rd:Rd w 6 A xs.length (xs.flatMap AX.cs));rw[hm] at hrow;obtain⟨g,off,rfl,hgl,hcl⟩:=row_get ax_len hrow (by omega);have hcx:=hcl i y hy;unfold AX.cs at hcx;have hyw:=h.run.wf y (lmg hy);obtain⟨w1,hw1,hz1,hR1,hf1⟩:=bxz w #[.int .i64 0,.int .i64 0,.string ⟨#[]⟩,.slice none 0 0] 53 w.heap.size;have hyo:=(h.xok y (lmg hy)).fr0 hf1;have hE:Calls prog 60 #[y.a.val y.sl y.A y.c y.B y.d] w1 (RetPost w1 (.tuple #[encN (encAG y.a),.int .i64 0])):=EncodeAG_ok y.a y.sl y.A y.B y.c y.d w1 (hok.fr0 hf1) hyo.s hyo.chr hyo.chw hyw.2.1 hyw.1;unfold AG.val at hE;have hb:=h.box.fr hf1 (by simp);rw[hm] at hb;have hk:∀ o,w1.cell? ⟨g,o,none⟩=w.cell? ⟨g,o,none⟩:=fun o=>hf1.cell (p:=⟨g,o,none⟩) hgl (by simp);obtain⟨x0,x1⟩:=hb.m2;have z0:w1.cell? ⟨g,off+i*6,none⟩=some (.int .i64 y.a.k.rnd):=(hk _).trans (hcx 0 (by omega));have z1:w1.cell? ⟨g,off+i*6+1,none⟩=some (.int .i64 y.a.k.phase):=(hk _).trans (hcx 1 (by omega));have z2:w1.cell? ⟨g,off+i*6+2,none⟩=some (.int .i64 y.a.k.idx):=(hk _).trans (hcx 2 (by omega));have z3:w1.cell? ⟨g,off+i*6+3,none⟩=some (.string y.sl):=(hk _).trans (hcx 3 (by omega));have z4:w1.cell? ⟨g,off+i*6+4,none⟩=some (.slice y.A y.a.r.length y.c):=(hk _).trans (hcx 4 (by omega));have z5:w1.cell? ⟨g,off+i*6+5,none⟩=some (.slice y.B y.a.w.length y.d):=(hk _).trans (hcx 5 (by omega));have hdl:ds.length=m+1:=by rw[hds,dsX_len,hm]
 have hIn:∀ W,Fr [] w1 W->Calls prog 61 #[.pointer (some ⟨bt,0,none⟩),.int .i64 ((i:Int)+1),.int .i64 ((n:Int)+1)] W (ListPost2 W (pathX xs i n)):=fun W hW=>by
  have:=Include_g bt ds kvs F h.parts (by rw[hds];exact dsX_32 xs) (by omega) (n+1) (i+1) W (h.tree.at_.fr0 (hf1.then hW)) (hok.fr0 (hf1.then hW)) (by omega) (by omega) (by omega);rw[hds] at this;exact this
 have hpl:(pathX xs i n).length<n+1:=pth_len (dsX xs) (n+1) (i+1) 0 (by omega) (by omega);obtain⟨ps,hps⟩:=nmd (pathX xs i n);rw[hps] at hIn hpl ⊢;have HB:=Hd hb;have HN:=Hd (none_any b pb w1 x0);have HE:=Hd hE;have HI:=Hd hIn;have HR1:=Hd hR1;have HF1:=Hd hf1;have HW1:=Hd hw1;obtain⟨tx,htx⟩:=nmd ((⟨(encAG y.a).toArray⟩:ByteArray));unfold encN at HE;unfold ProvePost encN;rw[htx] at HE ⊢;have hg0:decide ((n:Int)<0)=false:=by simp
 have hg1:decide (m<n)=false:=by simp;omega
 have hg2:decide ((i:Int)<0)=false:=by simp
 have hg3:decide (n<=i)=false:=by simp;omega
 have hil:(i:Int)<(m:Int):=by omega
 clear h hb hE hIn hR1 hf1 hw1 hcx hcl hrow hyo hyw hk htx hdl hds hm hy hok hps hz1
 go_enter func20,ntmps20
 go_upto_region 1 with fail
 rw[HW1.out]
 go_wp2_with (first
  | (go_at_call 59;(with_reducible refine HN.out.mono ?_);rintro e w' ⟨rfl,rfl⟩)
  | (go_at_call 60;(with_reducible refine HE.out.mono ?_);rintro e w2 ⟨rfl,hf2⟩;have hb2:=HB.out.fr hf2 (by simp);have y4:w2.cell? ⟨b,4,none⟩=some (.pointer (some ⟨bt,0,none⟩)):=hb2.c 4;clear x0 x1 z0 z1 z2 z3 z4 z5 hb2)
  | (go_at_call 61;(with_reducible refine (HI.out _ hf2).mono ?_);rintro e w3 ⟨A3,c3,rfl,ho3,hf3,hs3⟩;have hr3:=HR1.out.fr (hf2.then hf3) (by simp);have u0:w3.cell? ⟨w.heap.size,0,none⟩=some (.int .i64 0):=hr3.c 0;have u1:w3.cell? ⟨w.heap.size,1,none⟩=some (.int .i64 0):=hr3.c 1;have u2:w3.cell? ⟨w.heap.size,2,none⟩=some (.string ⟨#[]⟩):=hr3.c 2;have u3:w3.cell? ⟨w.heap.size,3,none⟩=some (.slice none 0 0):=hr3.c 3;have g0:=hr3.f 0;have g1:=hr3.f 1;have g2:=hr3.f 2;have g3:=hr3.f 3;have HO3:=Hd ho3;have HF3:=Hd ((HF1.out.then hf2).then hf3);have HS3:=Hd hs3;have HR3:=Hd hr3;have HZ3:=hf2.size;clear ho3 hf3 hs3 hr3 y4))
 obtain⟨w4,hW2⟩:=nmd (((((w3).setCell ⟨w.heap.size,0,none⟩ (.int .i64 (i:Int))).setCell ⟨w.heap.size,1,none⟩ (.int .i64 (n:Int))).setCell ⟨w.heap.size,2,none⟩ (.string tx)).setCell ⟨w.heap.size,3,none⟩ (.slice A3 ps.length c3));have h4:BoxN w4 (w.heap.size) 53 #[.int .i64 (i:Int),.int .i64 (n:Int),.string tx,.slice A3 ps.length c3]:=by rw[<-hW2];exact ((((HR3.out.setAt 0 _).setAt 1 _).setAt 2 _).setAt 3 _)
 have f4:Fr [w.heap.size] (w3) w4:=by rw[<-hW2];exact ((((Fq [w.heap.size] (w3)).set (.inl (by simp)) _).set (.inl (by simp)) _).set (.inl (by simp)) _).set (.inl (by simp)) _
 rw[hW2];clear hW2;have hsz:w.heap.size<w1.heap.size:=HR1.out.lt;obtain⟨t0,t1,t2,t3⟩:=h4.m4;have HFIN:=Hd (An (HO3.out.fr f4 (by intro k hk;have:=HS3.out k hk;simp only[lms];omega)) (HF3.out.trans f4 (T:=[w.heap.size]) (by simp)));clear h4 f4 u0 u1 u2 u3 g0 g1 g2 g3;refine bodyPost_ret (v:=.tuple #[.agg #[.int .i64 (i:Int),.int .i64 (n:Int),.string tx,.slice A3 ps.length c3],.int .i64 0]) (by simp[results,results20,go_sem,t0,t1,t2,t3]) rfl ⟨A3,c3,rfl,HFIN.out.1,HFIN.out.2,fun k hk=>?_⟩;have:=HS3.out k hk;omega
def rootX (xs:List AX) (n:Nat):Nm:=rt (dsX xs) 0 (n+1)
theorem Root_h (b:Nat) (xs:List AX) (M:List Nat) (n:Nat) (w:World) (h:HG w b xs M) (hok:Ok w) (hn:n<=xs.length) :
 Calls prog 21 #[.pointer (some ⟨b,0,none⟩),.int .i64 (n:Int)] w (TagPost w (rootX xs n)):=by
 have hl12:=h.len12;obtain⟨pb,pl,bt,A,c,F,ns,ds,kvs,h,rfl⟩:=h;obtain⟨m,hm⟩:=nmd (xs.length);rw[hm] at hn hl12;have hds:ds=dsX xs:=h.ds;have hdl:ds.length=m+1:=by rw[hds,dsX_len,hm]
 obtain⟨w1,hw1⟩:=nmd (w.alloc (.cells z32 57));have hf1:Fr [] w w1:=by rw[<-hw1];exact (Fq [] w).alloc _
 obtain⟨fR,hR⟩:∃ f,w1.rowIs w.heap.size 57 32 f:=by rw[<-hw1];exact⟨_,row_new w _ _⟩
 have hC:=Root_g bt ds kvs F h.parts (by rw[hds];exact dsX_32 xs) (by omega) (n+1) w1 (h.tree.at_.fr0 hf1) (hok.fr0 hf1) (by omega) (by omega);have hd32:(rootX xs n).length=32:=rt_len (dsX_32 xs) (n+1) 0 (by omega) (by rw[dsX_len];omega) (by omega);rw[hds,show rt (dsX xs) 0 (n+1)=rootX xs n from rfl,Int.natCast_add,show ((1:Nat):Int)=1 from rfl] at hC;obtain⟨d,hd⟩:=nmd (rootX xs n);rw[hd] at hC hd32 ⊢;have hcl:(dCells d).length=32:=by rw[dcells_len,hd32]
 have hb:=h.box.fr hf1 (by simp);rw[hm] at hb;obtain⟨x0,x1⟩:=hb.m2;have x4:=hb.k4;have hg0:decide ((n:Int)<0)=false:=by simp
 have hg1:decide (m<n)=false:=by simp;omega
 have HN:=Hd (none_any b pb w1 x0);have HC:=Hd hC;have HR2:=Hd hR;have HF2:=Hd hf1;have HW1:=Hd hw1;clear hC hR hf1 hw1 hb h hd hds hdl hm hok
 go_enter func21,ntmps21
 go_upto_region 1 with fail
 rw[HW1.out]
 go_wp2_with (first
  | (go_at_call 59;(with_reducible refine HN.out.mono ?_);rintro e w' ⟨rfl,rfl⟩)
  | (go_at_call 62;(with_reducible refine HC.out.mono ?_);rintro e w3 ⟨rfl,hf3⟩;unfold encD;have hR3:=rowIs_fr HR2.out hf3 (by simp);have hst:=store_digest (d:=d) hR3 hd32;have hrd:=row_digest (d:=d) hR3 hd32;obtain⟨w4,hw4⟩:∃ X,w3.setCells w.heap.size 0 (dCells d)=X:=⟨_,rfl⟩;have hf4:Fr [] w w4:=(by rw[<-hw4];exact ((HF2.out.then hf3).setCells (.inr (nlr _)) _ _));rw[hw4] at hst hrd;have HRD:=Hd hrd.1;have HF4:=Hd hf4;clear hw4 hrd hf4 hR3 hf3))
 exact bodyPost_ret (v:=.tuple #[encD d,.int .i64 0]) (results_cell_mid2 (d:=.array 32 5) (p:=4) (u:=5) (ty:=57) (b:=w.heap.size) (o:=0) rfl rfl rfl HRD.out (by kernel_rfl) rfl (by rw[dcells_len,hd32];rfl)) rfl ⟨rfl,HF4.out⟩
open Go.RowKit Go.ChangeShapes Go.WideShapes Go.Deep Go.Joins
theorem exists_list {α:Type} (p:Nat->α->Prop):∀ n,(∀ i,i<n->∃ x,p i x)->∃ l:List α,l.length=n/\∀ i x,l[i]?=some x->p i x
 | 0,_=>⟨[],rfl,fun i x h=>by simp at h⟩
 | n+1,h=>by
  obtain⟨l,hl,hp⟩:=exists_list p n (fun i hi=>h i (by omega));obtain⟨x,hx⟩:=h n (by omega);refine⟨l++[x],by simp[hl],fun i y hy=>?_⟩
  rcases Nat.lt_or_ge i n with hi | hi
  ·rw[List.getElem?_append_left (by omega)] at hy
   exact hp i y hy
  ·rw[List.getElem?_append_right (by omega)] at hy
   have:i=n:=by
    have:=(lgs.1 hy).1;simp at this;omega
   subst this;rw[hl,Nat.sub_self] at hy;simp at hy;subst hy;exact hx
section
variable {H:Type} {enc:TypeId × Value->H} {w:World} {fuel:Nat} {cs:List Value} {x:DataW H × List MemPlace}
theorem bounds_u8 {n:Int} (h:(Lit.int .u8 n).wf=true):0<=n/\n<256:=by
 simp[Lit.wf,IntKind.min,IntKind.max,IntKind.bits,IntKind.signed] at h;omega
end
def laid3 : List (String × DataW Unit) := [("replevin/sha256.initial", Rows.laid_replevin_sha256_initial), ("replevin/sha256.constants", Rows.laid_replevin_sha256_constants), ("replevin/object.usages", Rows.laid_replevin_object_usages)]
theorem low_of_shaped {W:World} (h:W.ShapedOpen prog):6<=W.heap.size:=by
 obtain⟨o,_,ho,_⟩:=h.2 6 (of_decide_eq_true (by kernel_rfl)) (of_decide_eq_true (by kernel_rfl));have:=(Array.getElem?_eq_some_iff.1 ho).1;omega
theorem initial_data:Rows.laid_replevin_sha256_initial (H:=Unit)=Lib.tabData .u32 ivL:=rfl
theorem constants_data:Rows.laid_replevin_sha256_constants (H:=Unit)=Lib.tabData .u32 kcL:=rfl
def usD (u:Usage):DataW Unit:=.agg [.lit (.string u.word),.lit (.bool u.owner),.lit (.bool u.number),.lit (.bool u.index),.lit (.bool u.text),.lit (.int .i64 u.most)]
theorem usages_data:Rows.laid_replevin_object_usages (H:=Unit)=.agg (usL.map usD):=rfl
theorem usage_cells {w:World} {fuel:Nat} {cs:List Value} {x:DataW Unit × List MemPlace} {u:Usage} (h:DataW.trod (fun _=>()) prog w 0 (fun _=>true) false fuel 216 cs=some x) (hx:x.1=usD u):cs=u.cells:=by
 obtain⟨xs,n,_,rfl,hlen,hxl,hf⟩:=DataW.trod_struct underlying216 h;have hlen':cs.length=6:=hlen.trans (by kernel_rfl)
 match cs,hlen' with
 | [c0,c1,c2,c3,c4,c5],_ =>
  have q:∀ j,j<6->∃ y,xs[j]?=some y:=fun j hj=>⟨_,lge (by rw[hxl];exact hj)⟩;obtain⟨y0,e0⟩:=q 0 (by omega);obtain⟨y1,e1⟩:=q 1 (by omega);obtain⟨y2,e2⟩:=q 2 (by omega);obtain⟨y3,e3⟩:=q 3 (by omega);obtain⟨y4,e4⟩:=q 4 (by omega);obtain⟨y5,e5⟩:=q 5 (by omega);have k9:prog.cellsOf 9=1:=by kernel_rfl
  have k4:prog.cellsOf 4=1:=by kernel_rfl
  have k3:prog.cellsOf 3=1:=by kernel_rfl
  have f0:DataW.trod (fun _=>()) prog w 0 (fun _=>true) false n 9 (([c0,c1,c2,c3,c4,c5].drop 0).take (prog.cellsOf 9))=some y0:=(hf 0 _ rfl).trans e0;have f1:DataW.trod (fun _=>()) prog w 0 (fun _=>true) false n 4 (([c0,c1,c2,c3,c4,c5].drop 1).take (prog.cellsOf 4))=some y1:=(hf 1 _ rfl).trans e1;have f2:DataW.trod (fun _=>()) prog w 0 (fun _=>true) false n 4 (([c0,c1,c2,c3,c4,c5].drop 2).take (prog.cellsOf 4))=some y2:=(hf 2 _ rfl).trans e2;have f3:DataW.trod (fun _=>()) prog w 0 (fun _=>true) false n 4 (([c0,c1,c2,c3,c4,c5].drop 3).take (prog.cellsOf 4))=some y3:=(hf 3 _ rfl).trans e3;have f4:DataW.trod (fun _=>()) prog w 0 (fun _=>true) false n 4 (([c0,c1,c2,c3,c4,c5].drop 4).take (prog.cellsOf 4))=some y4:=(hf 4 _ rfl).trans e4;have f5:DataW.trod (fun _=>()) prog w 0 (fun _=>true) false n 3 (([c0,c1,c2,c3,c4,c5].drop 5).take (prog.cellsOf 3))=some y5:=(hf 5 _ rfl).trans e5;rw[k9] at f0;rw[k4] at f1 f2 f3 f4;rw[k3] at f5;obtain⟨s0,g0,rfl,_⟩:=DataW.trod_string underlying9 f0;obtain⟨b1,g1,rfl⟩:=DataW.trod_bool underlying4 f1;obtain⟨b2,g2,rfl⟩:=DataW.trod_bool underlying4 f2;obtain⟨b3,g3,rfl⟩:=DataW.trod_bool underlying4 f3;obtain⟨b4,g4,rfl⟩:=DataW.trod_bool underlying4 f4;obtain⟨i5,g5,rfl,_⟩:=DataW.trod_int underlying3 f5
  match xs,hxl with
  | [x0,x1,x2,x3,x4,x5],_ =>
   simp at e0 e1 e2 e3 e4 e5;subst e0 e1 e2 e3 e4 e5;simp[usD] at hx;obtain⟨h0,h1,h2,h3,h4,h5⟩:=hx;simp at g0 g1 g2 g3 g4 g5;subst g0 g1 g2 g3 g4 g5;unfold Usage.cells;rw[<-h0,<-h1,<-h2,<-h3,<-h4,<-h5];rfl
theorem ok_of {W:World} (h:W.ShapedOpen prog) (hL:laidMetH prog laid3 W):Ok W:=by
 rw[MakeChecks.laidMetH_plain _ _ _ (by kernel_rfl)] at hL;unfold laid3 at hL;rw[initial_data,constants_data,usages_data] at hL;have h1:=Lib.tabIs_of_head (k:=.u32) (zs:=ivL) (g:=1) (by kernel_rfl) (by kernel_rfl) underlying162 underlying161 (by kernel_rfl) (by kernel_rfl) hL;have h2:=Lib.tabIs_of_head (k:=.u32) (zs:=kcL) (g:=2) (by kernel_rfl) (by kernel_rfl) underlying309 underlying161 (by kernel_rfl) (by kernel_rfl) hL.tail;refine⟨low_of_shaped h,fun j hj=>?_,fun j hj=>?_,fun k hk j v hv=>?_⟩
 ·exact h2.cell (g:=2) (by kernel_rfl) j (by rw[show kcL.length=64 from rfl];exact hj)
 ·exact h1.cell (g:=1) (by kernel_rfl) j (by rw[show ivL.length=8 from rfl];exact hj)
 ·obtain⟨ps,⟨g',t',cs,fuel,p,q,hg',ht',hvar,hd,_,_⟩,_⟩:=hL.tail.tail
  have hg : prog.globalNamed "replevin/object.usages" = some 0 := by kernel_rfl
  have hty:(prog.globals[0]?).map (·.type)=some 217:=by kernel_rfl
  obtain rfl:=Option.some.inj (hg.symm.trans hg');obtain rfl:=Option.some.inj (hty.symm.trans ht');obtain⟨xs,n,_,hx,hlen,hxl,hf⟩:=DataW.trod_array underlying217 hd;simp only[Prod.mk.injEq,DataW.agg.injEq] at hx;have hE:prog.cellsOf 216=6:=by kernel_rfl
  have hfk:=hf k hk;rw[hE] at hfk;obtain⟨y,hy⟩:∃ y,xs[k]?=some y:=⟨_,lge (by omega)⟩;rw[hy] at hfk
  have hyd:y.1=usD (us k):=by
   have h3:=congrArg (·[k]?) hx.1;simp only[List.getElem?_map,hy,Option.map_some] at h3;have hul:usL.length=21:=rfl;rw[lge (by omega)] at h3;simp only[Option.map_some,Option.some.injEq] at h3;rw[<-h3];unfold us;rw[List.getD_eq_getElem?_getD,lge (by omega)];rfl
  have hc:=usage_cells hfk hyd
  have hj:j<6:=by
   have:=(lgs.1 hv).1;simpa [Usage.cells] using this
  rw[World.var?_cell hg hvar];rw[<-hc] at hv;rw[List.getElem?_take_of_lt (by omega),List.getElem?_drop] at hv;simpa using hv
end Go.Proofs.YtlpmiimgacfmkaaGreatDoor
