/- For the law's statements on receipts: what Make gives, two zero receipts are equal. -/
import Derived.Test.YtlpmiimgacfmkaaGreatDoorOCa1
import Derived.Test.YtlpmiimgacfmkaaGreatDoorOGq
import Derived.Test.YtlpmiimgacfmkaaGreatDoorOMaps3
import Derived.Test.YtlpmiimgacfmkaaGreatDoorOVy7
set_option linter.all false
namespace Go.Proofs.YtlpmiimgacfmkaaGreatDoor
set_option maxRecDepth 100000
set_option maxHeartbeats 4000000
open Go.Proofs.Tryz
open Go.RowKit
theorem PrL.fr0 {w w':World} {n:Nat} {A:Option Addr} {c:Nat} {b:List PF} (h:PrL w n A c b) (a:Fr [] w w'):PrL w' n A c b:=⟨h.own.fr a qs,fun p d=>(h.ds p d).fr a qs⟩
theorem makeM_inr {xs:List AX} {nm:ON} {P:Nat} {b:Int} {L:List Nat} (h:makeM xs nm P b=.inr L):0<=b/\b.toNat<=xs.length/\L.length<=b.toNat:=by
 unfold makeM at h;split at h
 ·cases h
 ·rename_i f
  split at h
  ·cases h
  ·rename_i d
   injection h with h
   have g:((xs.map AX.a).take b.toNat).length<=b.toNat:=by rw[List.length_take];omega
   rcases oRes_nat ((xs.map AX.a).take b.toNat) nm P (by simpa using (not_or.1 d).1) with c | ⟨v,j,c⟩
   ·exact absurd c (not_or.1 d).2
   ·rw[c,Int.toNat_natCast] at h
    have e:=(causL_idx (n:=b.toNat) (i:=v) (lkA_down ((xs.map AX.a).take b.toNat)) qo).1;rw[h] at e;exact⟨qo,qo,e⟩
theorem Equal_zero (w:World):Calls prog 15 #[rcZ,rcZ] w (RetPost w (.bool true)):=by
 unfold rcZ;obtain⟨m,c,k,e,b⟩:=bxz w #[L0,S0,L0,L0,S0,L0,L0,gz] 39 w.heap.size;obtain⟨w2,d,l,f,a⟩:=bxz m #[L0,S0,L0,L0,S0,L0,L0,gz] 39 (w.heap.size+1);have i:=Hd c;have j:=Hd d;have h:=Hd (b.then a);have g:=e.fr a qs;obtain⟨n,o,p,q,r,s,t,u⟩:=g.m8;obtain⟨v,x,y,z,A,B,C,D⟩:=f.m8;clear c d b a e f g k l
 go_enter func15,ntmps15
 go_upto_region 1 with fail
 rw[i.out,j.out]
 go_wp2_with fail
 refine wp_loop_rounds 1 ?_;rw[rounds_succ]
 go_wp2_with fail
 go_ret
 exact⟨rfl,h.out⟩
def ActPost (w:World) (a:AG) (e:Ending) (w':World):Prop:=∃ x:AX,x.a=a/\e=.returned (.tuple #[x.v,.int .i64 0])/\x.ok w'/\Fr [] w w'
theorem Action_g (b:Nat) (xs:List AX) (ae:List Nat) (i:Nat) (y:AX) (w:World) (l:HG w b xs ae) (x:xs[i]?=some y) :
 Calls prog 72 #[.pointer (some ⟨b,0,none⟩),.int .i64 (i:Int)] w (ActPost w y.a):=by
 have ah:=l.len12;obtain⟨pb,pl,bt,aa,c,F,ns,ds,al,l,rfl⟩:=l;obtain⟨m,u⟩:=nmd (xs.length);have ag:i<m:=by rw[<-u];exact (lgs.1 x).1
 rw[u] at ah;have H:=(l.own.rd:Rd w 6 aa xs.length (xs.flatMap AX.cs));rw[u] at H;obtain⟨g,off,rfl,af,U⟩:=row_get ax_len H qo;have n:=U i y x;unfold AX.cs at n;have Z:=l.run.wf y (lmg x);obtain⟨j,W,ai,R,t⟩:=bxz w #[.int .i64 0,.int .i64 0,.int .i64 0,.string ⟨#[]⟩,.slice none 0 0,.slice none 0 0] 91 w.heap.size;have z:=(l.xok y (lmg x)).fr0 t;have D:Calls prog 94 #[y.a.val y.sl y.A y.c y.B y.d] j (CopyG j y.a):=copiedH_g y.a y.sl y.A y.B y.c y.d j z.s z.chr z.chw Z.2.1;unfold AG.val at D;have E:=l.box.fr t qs;rw[u] at E;have q:∀ o,j.cell? ⟨g,o,none⟩=w.cell? ⟨g,o,none⟩:=fun o=>t.cell (p:=⟨g,o,none⟩) af qs;obtain⟨x0,x1⟩:=E.m2;have am:j.cell? ⟨g,off+i*6,none⟩=some (.int .i64 y.a.k.rnd):=(q _).trans (n 0 qo);have z1:j.cell? ⟨g,off+i*6+1,none⟩=some (.int .i64 y.a.k.phase):=(q _).trans (n 1 qo);have z2:j.cell? ⟨g,off+i*6+2,none⟩=some (.int .i64 y.a.k.idx):=(q _).trans (n 2 qo);have z3:j.cell? ⟨g,off+i*6+3,none⟩=some (.string y.sl):=(q _).trans (n 3 qo);have z4:j.cell? ⟨g,off+i*6+4,none⟩=some (.slice y.A y.a.r.length y.c):=(q _).trans (n 4 qo);have z5:j.cell? ⟨g,off+i*6+5,none⟩=some (.slice y.B y.a.w.length y.d):=(q _).trans (n 5 qo);have HN:=Hd (none_any b pb j x0);have HE:=Hd D;have ac:=Hd R;have ab:=Hd t;have ad:=Hd W;have aj:decide ((i:Int)<0)=false:=qs
 have ak:decide (m<=i)=false:=by simp;omega
 have ag:(i:Int)<(m:Int):=qo
 unfold ActPost;clear l E D R t W n U H z Z q u x ai
 go_enter func72,ntmps72
 go_upto_region 1 with fail
 rw[ad.out]
 go_wp2_with (first
  | (go_at_call 59;(with_reducible refine HN.out.mono ?_);rintro e w' ⟨rfl,rfl⟩)
  | (go_at_call 94;(with_reducible refine HE.out.mono ?_);rintro e w2 ⟨⟨ya,M,I,K,J,L⟩,X,rfl,Y,G⟩;dsimp only at X;subst X;unfold AX.v AG.val;dsimp only;have P:=Hd (An Y G);have h:=ac.out.fr G qs;have u0:w2.cell? ⟨w.heap.size,0,none⟩=some (.int .i64 0):=h.c 0;have u1:w2.cell? ⟨w.heap.size,1,none⟩=some (.int .i64 0):=h.c 1;have u2:w2.cell? ⟨w.heap.size,2,none⟩=some (.int .i64 0):=h.c 2;have u3:w2.cell? ⟨w.heap.size,3,none⟩=some (.string ⟨#[]⟩):=h.c 3;have u4:w2.cell? ⟨w.heap.size,4,none⟩=some (.slice none 0 0):=h.c 4;have u5:w2.cell? ⟨w.heap.size,5,none⟩=some (.slice none 0 0):=h.c 5;have g0:=h.f 0;have g1:=h.f 1;have g2:=h.f 2;have g3:=h.f 3;have g4:=h.f 4;have g5:=h.f 5;have O:=Hd h;clear Y G h))
 obtain⟨w3,S,Q,C⟩:=sx6 (w2) (w.heap.size) O.out (.int .i64 y.a.k.rnd) (.int .i64 y.a.k.phase) (.int .i64 y.a.k.idx) (.string M) (.slice I y.a.r.length K) (.slice J y.a.w.length L);rw[S];clear S;obtain⟨t0,t1,t2,t3,t4,t5⟩:=Q.m6;have V:NoT tyS w2 [w.heap.size]:=NoT.box O.out qd;have N:=Hd (An (P.out.1.frT C V) ((ab.out.then P.out.2).trans C (T:=[w.heap.size]) qs));clear Q C u0 u1 u2 u3 u4 u5 g0 g1 g2 g3 g4 g5 V;refine bodyPost_ret (v:=.tuple #[.agg #[.int .i64 y.a.k.rnd,.int .i64 y.a.k.phase,.int .i64 y.a.k.idx,.string M,.slice I y.a.r.length K,.slice J y.a.w.length L],.int .i64 0]) (by simp[results,results72,go_sem,t0,t1,t2,t3,t4,t5]) rfl ⟨⟨y.a,M,I,K,J,L⟩,rfl,rfl,N.out.1,N.out.2⟩
set_option maxHeartbeats 16000000
theorem PrL.fz {w w':World} {n:Nat} {A:Option Addr} {c:Nat} {b:List PF} (h:PrL w n A c b) (a:Fr [] w w'):PrL w' n A c b:=⟨h.own.fr a qs,fun p d=>(h.ds p d).fr a qs⟩
theorem Grow_range (b:Nat) (xs:List AX) (M:List Nat) (k H D P m n:Int) (I J:ByteArray) (t:Option Addr) (G x:Nat) (w:World) (z:HG w b xs M) (N:n<m \/ (xs.length:Int)<n) :
 Calls prog 25 #[.pointer (some ⟨b,0,none⟩),rcV k I H D J P m (.slice t G x),.int .i64 n] w (RetPost w (.tuple #[rcZ,.int .i64 2])):=by
 unfold rcV;obtain⟨w1,B,O,E,y⟩:=bxz w #[k,I,H,D,J,P,m,.slice t G x] 39 w.heap.size;obtain⟨w2,C,Q,a,h⟩:=bxz w1 #[L0,S0,L0,L0,S0,L0,L0,gz] 39 (w.heap.size+1);have u:=Hd (An B C);have g:=y.then h;have F:=E.fr h qs;have x6:=F.k6;obtain⟨L,A⟩:=nmd (xs.length);have l:=Len_h b xs M w2 (z.fr0 g);rw[A] at l N;have K:=Hd l;clear B C E F y h O Q l A z
 go_enter func25,ntmps25
 go_upto_region 1 with fail
 rw[u.out.1,u.out.2]
 by_cases ab:n<m
 ·go_upto_region 4 with fail
  obtain⟨R,S,T,U,V,W,X,Y⟩:=a.m8;have Z:=a.f 0;have v1:=a.f 1;have v2:=a.f 2;have v3:=a.f 3;have v4:=a.f 4;have v5:=a.f 5;have v6:=a.f 6;have v7:=a.f 7;have c:=Hd (An a g);clear a g
  go_wp2_with fail
  obtain⟨wz,d,j,i⟩:=sx8 (w2) (w.heap.size+1) c.out.1 L0 S0 L0 L0 S0 L0 L0 gz;rw[d];clear d;obtain⟨o,t1,t2,t3,p,q,r,s⟩:=j.m8;refine bodyPost_ret (v:=.tuple #[rcZ,L2]) (by simp[results,results25,rcZ,go_sem,o,t1,t2,t3,p,q,r,s]) rfl ?_;exact⟨rfl,c.out.2.trans i qs⟩
 ·have aa:(L:Int)<n:=qo
  go_upto_region 4 with (go_at_call 19;(with_reducible refine K.out.mono ?_);rintro e w3 ⟨rfl,rfl⟩)
  obtain⟨R,S,T,U,V,W,X,Y⟩:=a.m8;have Z:=a.f 0;have v1:=a.f 1;have v2:=a.f 2;have v3:=a.f 3;have v4:=a.f 4;have v5:=a.f 5;have v6:=a.f 6;have v7:=a.f 7;have c:=Hd (An a g);clear a g
  go_wp2_with fail
  obtain⟨wz,d,j,i⟩:=sx8 (w2) (w.heap.size+1) c.out.1 L0 S0 L0 L0 S0 L0 L0 gz;rw[d];clear d;obtain⟨o,t1,t2,t3,p,q,r,s⟩:=j.m8;refine bodyPost_ret (v:=.tuple #[rcZ,L2]) (by simp[results,results25,rcZ,go_sem,o,t1,t2,t3,p,q,r,s]) rfl ?_;exact⟨rfl,c.out.2.trans i qs⟩
def GrowPost (w:World) (xs:List AX) (k:Int) (h:ByteArray) (g f:Int) (j:ByteArray) (P:Int) (n:Nat) (a:List PF) (e:Ending) (w':World):Prop :=
 ∃ A c b,e=.returned (.tuple #[rcV k h g f j P (n:Int) (.slice A a.length c),.int .i64 0])/\PrL w' n A c b/\(b.map fun p=>(p.i,p.s,p.d))=(a.map fun p=>(p.i,p.s,pathX xs p.i n))/\Fr [] w w'
def GrowR (a:Bool) (w:World) (xs:List AX) (k:Int) (f:ByteArray) (c b:Int) (g:ByteArray) (P:Int) (n:Nat) (d:List PF) (e:Ending) (w':World):Prop :=
 if a=true then GrowPost w xs k f c b g P n d e w' else RetPost w (.tuple #[rcZ,.int .i64 3]) e w'
theorem Grow_g (K:Bool) (b:Nat) (xs:List AX) (aj:List Nat) (k Q O P:Int) (S U:ByteArray) (m n L c0:Nat) (A0:Option Addr) (H:List PF) (w:World) (af:HG w b xs aj) (bd:Ok w) (cc:m<=n) (bQ:n<=xs.length) (bi:PrL w m A0 c0 H) (be:H.length=L) (b7:L<=12)
 (bk:∀ p∈H,p.i<n/\∃ y,xs[p.i]?=some y/\(K=true->p.s=encAG y.a)) (aV:K=false->∃ p y,H[0]?=some p/\xs[p.i]?=some y/\p.s≠encAG y.a) :
 Calls prog 25 #[.pointer (some ⟨b,0,none⟩),rcV k S Q O U P (m:Int) (.slice A0 L c0),.int .i64 (n:Int)] w (GrowR K w xs k S Q O U P n H):=by
 unfold rcV;obtain⟨w1,bp,bW,n1,f1⟩:=bxz w #[.int .i64 k,.string S,.int .i64 Q,.int .i64 O,.string U,.int .i64 P,.int .i64 (m:Int),.slice A0 L c0] 39 w.heap.size;obtain⟨w2,bq,bY,n2,f2⟩:=bxz w1 #[.int .i64 0,.string ⟨#[]⟩,.int .i64 0,.int .i64 0,.string ⟨#[]⟩,.int .i64 0,.int .i64 0,.slice none 0 0] 39 (w.heap.size+1);have HW:=Hd (An bp bq);have G:=f1.then f2;have n3:=n1.fr f2 (by simp);obtain⟨x0,x1,x2,x3,x4,x5,x6,x7⟩:=n3.m8;obtain⟨bE,hL⟩:=nmd (xs.length);have bP:=af.len12;rw[hL] at bQ bP
 have bm:Run xs:=by
  obtain⟨pb,pl,b5,b3,c,F,ns,b6,ce,hh,_⟩:=af;exact hh.run
 have aG:=Len_h b xs aj w2 (af.fr0 G);rw[hL] at aG;have HL:=Hd aG;have HH:=Hd (An (af.fr0 G) (An (bd.fr0 G) (An bm hL)));have I:=Hd (An bk (An aV (An be (bi.fz G))));obtain⟨RB,ag⟩:=nmd (w.heap.size+1);have bx:RB<w2.heap.size:=by rw[<-ag];exact n2.lt
 rw[ag] at n2;have Y:=Hd (An n3 (An n2 (An G (An bx ag))));have b8:decide (n<m)=false:=by simp;omega
 have b9:decide (bE<n)=false:=by simp;omega
 clear bp bq n1 n2 n3 f1 f2 bW bY aG hL af bd bm bk aV be bi G bx
 go_enter func25,ntmps25
 go_upto_region 1 with fail
 rw[HW.out.1,HW.out.2]
 try rw[ag]
 clear ag
 go_upto_region 5 with (go_at_call 19;(with_reducible refine HL.out.mono ?_);rintro e w3 ⟨rfl,rfl⟩)
 go_upto_region 6 with fail
 obtain⟨w3,br,bZ,n3,f3⟩:=bxz w2 #[.int .i64 k,.string S,.int .i64 Q,.int .i64 O,.string U,.int .i64 P,.int .i64 (n:Int),.slice none 0 0] 39 w2.heap.size
 try rw[br]
 obtain⟨D,hD⟩:=nmd (w2.heap.size);have HD:=Hd hD;rw[hD] at n3 ⊢;have m3:=Y.out.1.fr f3 (by simp);have z7:=m3.k7;have H3:=Hd (An n3 f3);clear x0 x1 x2 x3 x4 x5 x6 x7 n3 f3 m3 br bZ hD
 go_wp2_with fail
 clear z7
 go_loopw [37] (fun jx W=>∃ (j:Nat) (x:Option Addr) (R:Nat) (qs:List PF),j<=L/\jx=.int .i64 (j:Int)/\BoxN W D 39 #[.int .i64 k,.string S,.int .i64 Q,.int .i64 O,.string U,.int .i64 P,.int .i64 (n:Int),.slice x j R]/\PrL W n x R qs/\qs.length=j/\(qs.map fun p=>(p.i,p.s,p.d))=(H.take j).map (fun p=>(p.i,p.s,pathX xs p.i n))/\Fr [] w2 W/\(∀ q∈blk x,D<q)/\(K=false->j=0)) (fun j _=>L - (intOf j).toNat)
 case atStart=>exact⟨0,none,0,[],Nat.zero_le _,rfl,H3.out.1,⟨Own.nil _ _ _,by simp⟩,rfl,rfl,H3.out.2,by simp[blk],fun _=>rfl⟩
 case round =>
  obtain⟨j,x,R,qs,hj,rfl,hb,ar,ap,aq,ab,ao,am⟩:=hrel
  by_cases bO:j<L
  ·have cb:(j:Int)<(L:Int):=by omega
   have cd:IntKind.i64.wrap (j:Int)=(j:Int):=by simp only[IntKind.wrap_i64];omega
   obtain⟨p,u⟩:∃ y,H[j]?=some y:=⟨_,lge (by rw[I.out.2.2.1];exact bO)⟩;have bg:=lmg u;obtain⟨aJ,y,hy,bv⟩:=I.out.1 p bg;have aK:=(I.out.2.2.2.own.rd:Rd w2 4 A0 H.length (H.flatMap (PF.cs m)));rw[I.out.2.2.1] at aK;obtain⟨g,off,bL,a7,aW⟩:=row_get (pf_len m) aK (by omega);subst bL;have N:=aW j p u;unfold PF.cs at N;obtain⟨T,bn,bS,_⟩:=str_of p.s;obtain⟨sv,bU,bV,_⟩:=str_of (encAG y.a);rw[bn] at N;obtain⟨nd,bb⟩:=nmd (p.d.length);obtain⟨t,an⟩:=nmd (p.i);rw[bb,an] at N;rw[an] at aJ hy;have hk:∀ o,wr.cell? ⟨g,o,none⟩=w2.cell? ⟨g,o,none⟩:=fun o=>ab.cell (p:=⟨g,o,none⟩) a7 (by simp);have b2:wr.cell? ⟨g,off+j*4,none⟩=some (.int .i64 (t:Int)):=(hk _).trans (N 0 (by omega));have z1:wr.cell? ⟨g,off+j*4+1,none⟩=some (.int .i64 (m:Int)):=(hk _).trans (N 1 (by omega));have z2:wr.cell? ⟨g,off+j*4+2,none⟩=some (.string T):=(hk _).trans (N 2 (by omega));have z3:wr.cell? ⟨g,off+j*4+3,none⟩=some (.slice p.A nd p.c):=(hk _).trans (N 3 (by omega));have l:=Hd (An hb (An ar (An ap (An aq (An ab (An ao am))))));have C:=Hd (An u (An hy (An bv (An aJ an))));have ac:=Hd (An bn bU);clear hb ar ap aq ab ao am u bg bv aJ an aK a7 aW N hk bb
   go_upto_region 9 with fail
   obtain⟨w4,bs,b0,n4,f4⟩:=bxz wr #[.int .i64 (t:Int),.int .i64 (m:Int),.string T,.slice p.A nd p.c] 53 wr.heap.size
   try rw[bs]
   obtain⟨E4,bM⟩:=nmd (wr.heap.size);rw[bM] at n4 ⊢;have HA:=Hd (Action_g b xs aj t y w4 (HH.out.1.fr0 (l.out.2.2.2.2.1.then f4)) hy);have H4:=Hd (An n4 f4);have t0:=n4.k0;clear b2 z1 z2 z3 n4 f4 bs b0
   go_upto_region 10 with (go_at_call 72;(with_reducible refine HA.out.mono ?_);rintro e w5 ⟨⟨ya,aO,yA,yc,yB,yd⟩,bu,rfl,bw,aZ⟩;dsimp only at bu;subst bu;unfold AX.v AG.val;dsimp only;have H5:=Hd (An bw aZ);clear bw aZ)
   obtain⟨w6,bt,b1,n6,f6⟩:=bxz w5 #[.int .i64 y.a.k.rnd,.int .i64 y.a.k.phase,.int .i64 y.a.k.idx,.string aO,.slice yA y.a.r.length yc,.slice yB y.a.w.length yd] 91 w5.heap.size
   try rw[bt]
   obtain⟨E6,aS⟩:=nmd (w5.heap.size);rw[aS] at n6 ⊢;have aE:Fr [] wr w6:=H4.out.2.then (H5.out.2.then f6);have aL:=HH.out.2.2.1.wf y (lmg C.out.2.1);have au:=H5.out.1.fr0 f6;have hE:Calls prog 60 #[y.a.val aO yA yc yB yd] w6 (RetPost w6 (.tuple #[encN (encAG y.a),.int .i64 0])):=EncodeAG_ok y.a aO yA yB yc yd w6 (HH.out.2.1.fr0 (l.out.2.2.2.2.1.then aE)) au.s au.chr au.chw aL.2.1 aL.1;rw[ac.out.2] at hE;unfold AG.val at hE;have HE:=Hd hE;have H6:=Hd (An aE (H4.out.1.fr (H5.out.2.then f6) (by simp)));obtain⟨bF,bG,bH,bI,bJ,bK⟩:=n6.m6;clear t0 n6 bt f6 b1 hE aL au aE aS
   go_upto_region 13 with (go_at_call 60;(with_reducible refine HE.out.mono ?_);rintro e w7 ⟨rfl,aF⟩;have V:=Hd (An (H6.out.1.then aF) (H6.out.2.fr aF (by simp)));clear aF)
   clear bF bG bH bI bJ bK;have t2:=V.out.2.k2
   by_cases hc:p.s=encAG y.a
   ·have bT:T=sv:=by have:=ac.out.1;rw[hc,ac.out.2] at this;injection this with this;exact this.symm
    subst bT;have t0:=V.out.2.k0;have hP:=Prove_h b xs aj t n y w7 (HH.out.1.fr0 (l.out.2.2.2.2.1.then V.out.1)) (HH.out.2.1.fr0 (l.out.2.2.2.2.1.then V.out.1)) C.out.2.1 C.out.2.2.2.1 (by rw[HH.out.2.2.2];omega);obtain⟨d,hd⟩:=nmd (pathX xs t n);obtain⟨av,aH⟩:=nmd (d.length);unfold ProvePost at hP;rw[hd,aH,ac.out.2] at hP;have HP:=Hd hP;have aw:=Hd (An hd aH);have HC:=Hd hc;clear hP hd aH hc
    go_upto_region 16 with (go_at_call 20;(with_reducible refine HP.out.mono ?_);rintro e v9 ⟨B,E,rfl,bc,a3,ba⟩;have aP:=Hd (An bc (An a3 ba));clear bc a3 ba)
    clear t0 t2 HP;obtain⟨aN,bo,bX,aM,ay⟩:=bxz v9 #[.int .i64 (t:Int),.int .i64 (n:Int),.string T,.slice B av E] 53 v9.heap.size
    try rw[bo]
    obtain⟨b4,aR⟩:=nmd (v9.heap.size);rw[aR] at aM ⊢;have ak:Fr [] wr aN:=(V.out.1.then aP.out.2.1).then ay;have aD:=l.out.1.fr ak (by simp);obtain⟨y0,y1,y2,y3⟩:=aM.m4;have y7:=aD.k7;have aI:=l.out.2.1.own;rw[l.out.2.2.1] at aI;have ax:=Hd (aI.fr ak (by simp));have aQ:D ∉ blk x:=fun hm=>by have:=l.out.2.2.2.2.2.1 D hm;omega
    have aa:=Hd (An aD (An aQ ak));have HQ:=Hd (aP.out.1.fr ay (by simp));clear bo aM ay ak aD aI aQ bX aR;obtain⟨ii,a9,bz,bA,bB⟩:=info_proof
    go_upto_region 19 with (at_builtin;(with_reducible refine wpList_app_tmp (w:=aN) rfl (.tmp 78) (.tmp 80) 37 rfl 53 ii _ 4 56 underlying37 a9 bz bA bB rfl (by decide) x j R _ rfl ax.out 1 1 [.int .i64 (t:Int),.int .i64 (n:Int),.string T,.slice B av E] 53 rfl rfl (by simp[Value.oneCell']) (by unfold maxLen;omega) (by omega) ?_);intro AN cN ai ho G hs;have al:=aa.out.1.fr G aa.out.2.1;have e0:ai.cell? ⟨D,7,none⟩=some (.slice x j R):=al.c 7;have e1:=al.f 7;have M:=Hd (An ho (An G (An hs al)));clear ho G hs al)
    obtain⟨ad,hY⟩:=nmd (ai.setCell ⟨D,7,none⟩ (.slice AN (j+1) cN));have aU:BoxN ad D 39 #[.int .i64 k,.string S,.int .i64 Q,.int .i64 O,.string U,.int .i64 P,.int .i64 (n:Int),.slice AN (j+1) cN]:=by rw[<-hY];exact M.out.2.2.2.setAt 7 _
    have fY:Fr [D] ai ad:=by rw[<-hY];exact (Fq [D] ai).st _
    try rw[hY]
    clear y0 y1 y2 y3 y7 e0 e1 hY bz bA bB a9
    have az:∀ q∈blk AN,D<q:=fun q hq=>by
     rcases M.out.2.2.1 q hq with z | z
     ·exact l.out.2.2.2.2.2.1 q z
     ·have:=aa.out.1.lt;omega
    have aB:NoT [57] aN (blk x):=NoT.own ax.out (by decide);have aA:NoT [57] ai [D]:=NoT.box M.out.2.2.2 (by decide);have aX:PF.cs n ⟨t,encAG y.a,B,E,d⟩=[.int .i64 (t:Int),.int .i64 (n:Int),.string T,.slice B av E]:=by unfold PF.cs;simp only[ac.out.2,aw.out.2]
    have bj:PrL ad n AN cN (qs++[⟨t,encAG y.a,B,E,d⟩]):=by
     refine⟨?_,fun p u=>?_⟩
     ·rw[lla,List.flatMap_append,l.out.2.2.1]
      have z:[PF.mk t (encAG y.a) B E d].flatMap (PF.cs n)=[.int .i64 (t:Int),.int .i64 (n:Int),.string T,.slice B av E]:=by rw[<-aX];simp
      rw[z];exact M.out.1.fr fY (by intro q hq;simp only[lms];rintro rfl;exact absurd (az _ hq) (Nat.lt_irrefl _))
     ·rcases List.mem_append.1 u with u | u
      ·exact Own.frT (Own.frT ((l.out.2.1.ds p u).fr aa.out.2.2 (by simp)) M.out.2.1 aB (by simp)) fY aA (by simp)
      ·rw[lms] at u
       subst u;have z:=HQ.out
       show Own ad 57 32 B d.length E (d.flatMap dCells)
       rw[aw.out.2];exact Own.frT (Own.frT z M.out.2.1 aB (by simp)) fY aA (by simp)
    have bf:(qs++[PF.mk t (encAG y.a) B E d]).length=j+1:=by rw[lla,l.out.2.2.1];rfl
    have bh:((qs++[PF.mk t (encAG y.a) B E d]).map fun p=>(p.i,p.s,p.d))=(H.take (j+1)).map (fun p=>(p.i,p.s,pathX xs p.i n)):=by
     rw[List.map_append,l.out.2.2.2.1,List.take_add_one,C.out.1,List.map_append];simp[C.out.2.2.2.2,HC.out,aw.out.1]
    have aY:Fr [] w2 ad:=((l.out.2.2.2.2.1.then aa.out.2.2).trans M.out.2.1 (fun q hq=>.inr (by have z:=l.out.2.2.2.2.2.1 q hq;have h2:=HD.out;omega))).trans fY (by simp;have h2:=HD.out;omega)
    have a5:K=false->j+1=0:=fun Z=>by
     obtain⟨p',y',z,h2,h3⟩:=I.out.2.1 Z;have bN:=l.out.2.2.2.2.2.2 Z;rw[bN] at C;have e1:p'=p:=Option.some.inj (z.symm.trans C.out.1);subst e1;rw[C.out.2.2.2.2] at h2;have e2:y'=y:=Option.some.inj (h2.symm.trans C.out.2.1);subst e2;exact absurd HC.out h3
    have X:=Hd (An aU (An bj (An bf (An bh (An aY (An az a5))))));clear aU bj bf bh aY az a5 fY aB aA aX M HQ aa ax
    go_wp2_with fail
    go_roundw
    case rel=>exact⟨j+1,AN,cN,_,by omega,by go_num,X.out.1,X.out.2.1,X.out.2.2.1,X.out.2.2.2.1,X.out.2.2.2.2.1,X.out.2.2.2.2.2.1,X.out.2.2.2.2.2.2⟩
    case measure=>simp[intOf];omega
   ·have ca:(sv.toList == T.toList)=false:=beq_eq_false_iff_ne.2 fun e=>hc (by rw[ByteArray.toList_eq,ByteArray.toList_eq,bV,bS] at e;exact e.symm)
    have a6:K=false:=by
     cases Z:K with
     | false=>rfl
     | true=>exact absurd (C.out.2.2.1 Z) hc
    have h:=Y.out.2.1.fr (l.out.2.2.2.2.1.then V.out.1) (by simp);have a4:Fr [] w w7:=Y.out.2.2.1.then (l.out.2.2.2.2.1.then V.out.1);have bC:=Hd a6;clear hc a6
    go_upto_region 14 with fail
    clear t2;have bR:=Y.out.2.2.2.2;obtain⟨u0,u1,u2,u3,u4,u5,u6,u7⟩:=h.m8;have v0:=h.f 0;have v1:=h.f 1;have v2:=h.f 2;have v3:=h.f 3;have v4:=h.f 4;have v5:=h.f 5;have v6:=h.f 6;have v7:=h.f 7;have J:=Hd (An h a4);clear h a4
    go_wp2_with fail
    obtain⟨wz,ah,aC,ae⟩:=sx8 (w7) (RB) J.out.1 (.int .i64 0) (.string ⟨#[]⟩) (.int .i64 0) (.int .i64 0) (.string ⟨#[]⟩) (.int .i64 0) (.int .i64 0) (.slice none 0 0);rw[ah];clear ah;obtain⟨t0,t1,t2,t3,t4,t5,t6,t7⟩:=aC.m8;refine bodyPost_ret (v:=.tuple #[rcZ,.int .i64 3]) (by simp[results,results25,rcZ,go_sem,t0,t1,t2,t3,t4,t5,t6,t7]) rfl ?_;unfold GrowR;rw[if_neg (by rw[bC.out];simp)];exact⟨rfl,J.out.2.trans ae (by simp;omega)⟩
  ·obtain rfl:j=L:=by omega
   have a8:K=true:=by
    cases Z:K with
    | true=>rfl
    | false =>
     obtain⟨p',y',z,h2,h3⟩:=I.out.2.1 Z;have:=(lgs.1 z).1;rw[I.out.2.2.1,am Z] at this;exact absurd this (Nat.lt_irrefl _)
   have h:=Y.out.2.1.fr ab (by simp);obtain⟨g0,g1,g2,g3,g4,g5,g6,g7⟩:=hb.m8;obtain⟨u0,u1,u2,u3,u4,u5,u6,u7⟩:=h.m8;have v0:=h.f 0;have v1:=h.f 1;have v2:=h.f 2;have v3:=h.f 3;have v4:=h.f 4;have v5:=h.f 5;have v6:=h.f 6;have v7:=h.f 7;have J:=Hd (An h (An ab (An ar (An ap (An aq ao)))));have bD:=Hd a8;clear h ab ar ap aq ao hb am a8
   go_wp2_with fail
   obtain⟨wz,ah,aC,ae⟩:=sx8 (wr) (RB) J.out.1 (.int .i64 k) (.string S) (.int .i64 Q) (.int .i64 O) (.string U) (.int .i64 P) (.int .i64 (n:Int)) (.slice x j R);rw[ah];clear ah;obtain⟨t0,t1,t2,t3,t4,t5,t6,t7⟩:=aC.m8;have bR:=Y.out.2.2.2.2;refine bodyPost_ret (v:=.tuple #[rcV k S Q O U P (n:Int) (.slice x j R),.int .i64 0]) (by simp[results,results25,rcV,go_sem,t0,t1,t2,t3,t4,t5,t6,t7]) rfl ?_;unfold GrowR;rw[if_pos bD.out];have aT:NoT [53,57] wr [RB]:=NoT.box J.out.1 (by decide);refine⟨x,R,qs,by rw[I.out.2.2.1],⟨J.out.2.2.1.own.frT ae aT (by simp),fun p u=>(J.out.2.2.1.ds p u).frT ae aT (by simp)⟩,?_,(Y.out.2.2.1.then J.out.2.1).trans ae (by simp;omega)⟩;rw[J.out.2.2.2.2.1,List.take_of_length_le (by rw[I.out.2.2.1];exact nlr _)]
set_option maxHeartbeats 2000000
open Go.RowKit Go.Shelf
theorem CloneP_g (n c:Nat) (A:Option Addr) (xs:List Value) (w:World) (h:Rd w 4 A n xs) (o:∀ u∈xs,u.oneCell'=true) (K:n<=1000000):Calls prog 26 #[.slice A n c] w fun e w'=>∃ A' c',e=.returned (.slice A' n c')/\Own w' 53 4 A' n c' xs/\Fr [] w w'/\∀ k∈blk A',w.heap.size<=k:=by
 have s:=Lib.run_eql_slice_nil (P:=prog) w 37 53 A n c 0 0 underlying37
 cases A with
 | none =>
  have E:n=0:=by
   rcases Nat.eq_zero_or_pos n with d | d
   ·exact d
   ·obtain⟨b,off,e,_⟩:=h.2 d
    cases e
  subst E;have g:xs=[]:=by have:=h.1;simpa using this
  subst g;simp only[Option.isNone_none] at s
  go_enter func26,ntmps26
  go_wp2_with fail
  go_ret
  exact⟨none,0,rfl,Own.nil _ _ _,Fq _ _,by simp[blk]⟩
 | some a =>
  simp only[Option.isNone_some] at s;obtain⟨F,C,G,H,I⟩:=info_proof
  have p:∀ j u,xs[j]?=some u->w.cell? (a.add j)=some u:=by
   intro j u i
   rcases Nat.eq_zero_or_pos n with d | d
   ·have:=h.1;rw[d] at this;have g:xs=[]:=by simpa using this
    subst g;simp at i
   ·obtain⟨b,off,e,J,B⟩:=h.2 d
    cases e
    rw[Addr.add_mid];exact B j u i
  have r:=h.1;have l:=Hd (An p (An o r));clear p o r h
  go_enter func26,ntmps26
  go_wp2_with (at_builtin;(with_reducible refine wpList_app (w:=w.alloc (.cells #[] 53)) rfl (.tmp 5) (.tmp 6) 37 rfl 53 F _ 4 56 underlying37 C G H I rfl qd (some ⟨w.heap.size,0,none⟩) 0 0 [] rfl (Own.empty w _ _) a n c xs rfl l.out.2.2 (fun j u i=>Lib.cell?_alloc_some _ (l.out.1 j u i)) l.out.2.1 (by unfold maxLen;omega) qo ?_);intro A2 z w2 f q t;have v:=Hd f;have m:=Hd q;have y:=Hd t;clear f q t)
  go_ret
  have f:=v.out;rw[List.nil_append] at f;have L:=m.out.size;refine⟨A2,z,rfl,by rw[Nat.zero_add] at f;exact f,((Fq [] w).alloc _).trans m.out (fun x g=>.inr (by simp[blk] at g;omega)),fun k D=>?_⟩
  rcases y.out k D with h | h
  ·simp[blk] at h;omega
  ·rw[wsA] at h;omega
def actsOf (xs:List AX) (is:List Nat):List AG:=is.map fun i=>match xs[i]? with | some y=>y.a | none=>⟨⟨0,0,0,[]⟩,[],[]⟩
theorem one_g (xs:List AX) (q:Run xs) (nm:ON) (t u:ByteArray) (P n m:Nat) (k:Option Addr) (c:Nat) (b:List PF) (L:checkO nm=0) (G:encO nm=.agg #[.int .i64 nm.kind,.string t,.int .i64 nm.number,.int .i64 nm.index,.string u]) (F:P<65536) (M:n<=xs.length) (D:b.length=m) (J:0<m) (K:m<=12) (w:World) (z:Ok w) (B:PrL w n k c b)
 (E:∀ p∈b,p.i<n/\∃ y,xs[p.i]?=some y/\p.s=encAG y.a/\p.d=pathX xs p.i n) :
 Calls prog 22 #[encD (rootX xs n),rcV nm.kind t nm.number nm.index u (P:Int) (n:Int) (.slice k m c)] w (VerP nm P (b.map PF.i) (actsOf xs (b.map PF.i)) w):=by
 have U:=q.len
 have N:(rootX xs n).length=32:=by
  unfold rootX;exact rt_len (dsX_32 xs) (n+1) 0 qo (by rw[dsX_len];omega) qo
 have Q:∀ a∈actsOf xs (b.map PF.i),wfB a=true/\a.r.length<=10/\a.w.length<=10:=fun a l=>by
  obtain⟨i,H,rfl⟩:=List.mem_map.1 l;obtain⟨p,g,rfl⟩:=List.mem_map.1 H;obtain⟨_,y,f,_⟩:=E p g;rw[f];obtain⟨R,_,S,T⟩:=q.wf y (lmg f);exact⟨R,S,T⟩
 refine VerifyR_g _ N nm t u P n m k c b _ w z L G F B D J K (by unfold actsOf;rw[List.length_map,List.length_map,D]) Q fun j p a C o W hW=>?_;have g:=lmg C;obtain⟨I,y,f,O,v⟩:=E p g
 have l:a=y.a:=by
  unfold actsOf at o;rw[List.getElem?_map,List.getElem?_map,C] at o;have h:=Option.some.inj o;simp only[f] at h;exact h.symm
 have x:=(B.ds p g).fr hW qs;rw[v] at x;have h:=VerifyX_g xs q p.i n y f I M p.A p.c W (z.fr0 hW) x;rw[l]
 have e:Value.agg (p.cs n).toArray=.agg #[p.i,n,encN (encAG y.a),.slice p.A (pathX xs p.i n).length p.c]:=by
  unfold PF.cs;rw[O,v]
 rw[e];exact h
theorem acts_ok {xs:List AX} (d:Run xs) {is:List Nat} (h:∀ i∈is,i<xs.length):∀ a∈actsOf xs is,a.r.length<=10:=fun a b=>by
 obtain⟨i,c,rfl⟩:=List.mem_map.1 b;rw[lge (h i c)];exact (d.wf _ (List.getElem_mem _)).2.2.1
theorem pf_one (n:Nat) (d:List PF):∀ u∈d.flatMap (PF.cs n),u.oneCell'=true:=by
 intro u b;obtain⟨c,_,a⟩:=List.mem_flatMap.1 b;simp only[PF.cs,List.mem_cons,List.not_mem_nil,or_false] at a
 rcases a with rfl | rfl | rfl | rfl <;> first | rfl | exact encN_one _
def wrongP:List PF->List PF
 | []=>[]
 | p::r=>⟨p.i,p.s++[120],p.A,p.c,p.d⟩::r
theorem wrong_cs (n:Nat) (p:PF) (r:List PF) (u:Value) (a:u=encN (p.s++[120])):((p::r).flatMap (PF.cs n)).set 2 u=(wrongP (p::r)).flatMap (PF.cs n):=by
 subst a;rfl
theorem makeM_pos {xs:List AX} {nm:ON} {P:Nat} {b:Int} {L:List Nat} (h:makeM xs nm P b=.inr L):0<L.length/\∀ i∈L,i<b.toNat:=by
 unfold makeM at h;split at h
 ·cases h
 ·rename_i j
  split at h
  ·cases h
  ·rename_i d
   injection h with h
   have k:((xs.map AX.a).take b.toNat).length<=b.toNat:=by rw[List.length_take];omega
   rcases oRes_nat ((xs.map AX.a).take b.toNat) nm P (by simpa using (not_or.1 d).1) with c | ⟨v,l,c⟩
   ·exact absurd c (not_or.1 d).2
   ·rw[c,Int.toNat_natCast] at h
    have e:=(causL_idx (n:=b.toNat) (i:=v) (lkA_down ((xs.map AX.a).take b.toNat)) qo).2;rw[h] at e;refine⟨?_,e⟩;rw[<-h];unfold causL;rw[srt_len];obtain⟨f,g⟩:∃ f,b.toNat=f+1:=⟨b.toNat - 1,qo⟩;rw[g];exact vis_pos
theorem pf_each {xs:List AX} {n:Nat} {C:List Nat} {c:List PF} (q:n<=xs.length) (k:∀ i∈C,i<n) (h:(c.map fun p=>(p.i,p.s,p.d))=C.map (pfOf xs n)):c.map PF.i=C/\∀ p∈c,p.i<n/\∃ y,xs[p.i]?=some y/\p.s=encAG y.a/\p.d=pathX xs p.i n:=by
 constructor
 ·have:=congrArg (List.map fun x:Nat × Nm × List Nm=>x.1) h
  rw[List.map_map,List.map_map] at this;have e:((fun x:Nat × Nm × List Nm=>x.1) ∘ pfOf xs n)=id:=by funext i;rfl
  rw[e,List.map_id] at this;exact this
 ·intro p o
  have g:(p.i,p.s,p.d)∈C.map (pfOf xs n):=by rw[<-h];exact List.mem_map.2 ⟨p,o,rfl⟩
  obtain⟨i,l,b⟩:=List.mem_map.1 g;unfold pfOf at b;simp only[Prod.mk.injEq] at b;obtain⟨rfl,f,j⟩:=b;have m:=k _ l;refine⟨m,xs[p.i],lge qo,?_,j.symm⟩;rw[lge qo] at f;exact f.symm
theorem str_x {s:Nm} {a:ByteArray} (h:encN s=.string a):encN (s++[120])=.string (a++⟨#[120]⟩):=by
 unfold encN at h ⊢
 injection h with h
 rw[<-h]
 congr 1
theorem HG.frS {w w':World} {b:Nat} {xs:List AX} {M S:List Nat} (h:HG w b xs M) (a:Fr S w w') (d:∀ k∈M,k ∉ S) (e:NoT tyS w S):HG w' b xs M:=by
 obtain⟨n,o,g,A,c,F,m,i,l,h,rfl⟩:=h;exact⟨n,o,g,A,c,F,m,i,l,⟨h.box.fr a (d b qs),h.own.fr a (fun k f=>d k (by simp[f])),fun x j=>(h.xok x j).frT a e,h.base.frT a e,h.st.frT a e,h.nl,h.tree.fr a (fun k f=>d k (by simp[f])),h.parts,h.keys,h.ds,h.run⟩,rfl⟩
theorem ConV.fz {w w':World} {is:List Nat} {l:List AG} {b:UInt8} {s:LS} {v:Value} (h:ConV w is l b s v) (a:Fr [] w w'):ConV w' is l b s v:=by
 obtain⟨I,K,d,c,o,p,q,e,f,n,g,i,j,k,m⟩:=h.ex;exact⟨I,K,d,c,o,p,q,e,f,n,g.fr0 a,i.fr0 a,j.fr0 a,k.fr0 a,m⟩
theorem Grow_nil2 (k q o P m n:Int) (r s:ByteArray) (b:Option Addr) (p e:Nat) (w:World) :
 Calls prog 25 #[.pointer none,rcV k r q o s P m (.slice b p e),.int .i64 n] w (RetPost w (.tuple #[rcZ,.int .i64 1])):=by
 unfold rcV;obtain⟨F,j,x,z,g⟩:=bxz w #[k,r,q,o,s,P,m,.slice b p e] 39 w.heap.size;obtain⟨w2,l,y,a,h⟩:=bxz F #[L0,S0,L0,L0,S0,L0,L0,gz] 39 (w.heap.size+1);have d:=Hd (An j l);have c:=Hd (An a (g.then h));clear j l z g h x y
 go_enter func25,ntmps25
 go_upto_region 1 with fail
 rw[d.out.1,d.out.2];obtain⟨G,H,I,J,K,L,M,N⟩:=a.m8;have O:=a.f 0;have Q:=a.f 1;have R:=a.f 2;have S:=a.f 3;have T:=a.f 4;have U:=a.f 5;have V:=a.f 6;have W:=a.f 7;clear a
 go_wp2_with fail
 obtain⟨X,i,u,t⟩:=sx8 (w2) (w.heap.size+1) c.out.1 L0 S0 L0 L0 S0 L0 L0 gz;rw[i];clear i;obtain⟨A,t1,t2,t3,B,C,D,E⟩:=u.m8;refine bodyPost_ret (v:=.tuple #[rcZ,L1]) (by simp[results,results25,rcZ,go_sem,A,t1,t2,t3,B,C,D,E]) rfl ⟨rfl,c.out.2.trans t qs⟩
end Go.Proofs.YtlpmiimgacfmkaaGreatDoor
