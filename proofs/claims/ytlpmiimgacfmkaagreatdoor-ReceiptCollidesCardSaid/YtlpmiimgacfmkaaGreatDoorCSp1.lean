/- Part of the proof. -/
import Derived.LaidMore
import Derived.Stop.LaidErr
import Derived.Deep.DeepHandedRow
import Derived.Lib.SmallJoins
import Derived.Test.YtlpmiimgacfmkaaGreatDoorCCk1
import Derived.Test.YtlpmiimgacfmkaaGreatDoorRows
set_option linter.all false
set_option maxHeartbeats 8000000
set_option maxRecDepth 100000
namespace Go.Proofs.YtlpmiimgacfmkaaGreatDoor
open Go.Proofs.Tryz List
open Go.RowKit
def TG.wf.names:∀ {t:TG},t.wf->∀x∈t.ns,eY x=0
 | .nil,_,x,a=>by simp[TG.ns]at a
 | .node _ l n v h s y r,e,x,a=>by
  obtain⟨⟨c,d⟩,_,_,_,b,_⟩:=e;simp only[TG.ns,mem_append,mem_cons]at a
  rcases a with a|rfl|a
  ·exact TG.wf.names c x a
  ·exact b
  ·exact TG.wf.names d x a
def SG.names{w:World}{b:Nat}{a:List ON}(h:SG w b a):∀x∈a,eY x=0:=by
 obtain⟨d,k,_,⟨t,_,_,c,rfl,_⟩,_⟩:=h;exact c.names
def GJ(nm:ON)(a b:ByteArray)(P:Int):Value:=.agg #[.int .i64 nm.kind,.string a,.int .i64 nm.number,.int .i64 nm.index,.string b,.int .i64 P]
def B5(k:Nat)(w:World)(e:Ending)(w':World):Prop:=∃(nm:ON) (a b:ByteArray) (P n:Nat),e=.returned (.tuple #[GJ nm a b (P:Int),.int .i64 (n:Int)])/\(eY nm=0/\fu nm=.agg #[.int .i64 nm.kind,.string a,.int .i64 nm.number,.int .i64 nm.index,.string b])/\P<65536/\n<=k/\Fr [] w w'
def FM(l z at_:Int)(X:0<=l/\l<256)(Y:0<=z/\z<256)(h3:0<=at_/\at_<256)(b:Nat)(xs:List AX)(ap:List Nat)(w:World)(aG:Ok w)(h:HG w b xs ap):
 Calls prog 12 #[.agg #[.int .u8 l,.int .u8 z,.int .u8 at_],.pointer (some ⟨b,0,none⟩)] w (B5 xs.length w):=by
 have aX:=h.len12;have⟨m,hm⟩:=eR (xs.length);rw[hm]at aX;have⟨w1,aK,aO,n1,f1⟩:=ir w #[.int .u8 l,.int .u8 z,.int .u8 at_] 24 w.heap.size;have⟨w2,aL,bb,n2,f2⟩:=ir w1 #[L0,S0,L0,L0,S0,L0] 33 (w.heap.size+1);have U:=Hd (f1.then f2);have⟨RB,Z⟩:=eR (w.heap.size+1);have aP:=n2.lt;have HZ:=Hd (An Z aP);rw[Z]at n2;have A:=Hd (An (n1.fr f2 qs) n2);have HW:=Hd (An aK (An aL (An aO Z)));have HH:=Hd (h.fr0 U.out);have aQ:=Hd (aG.fr0 U.out);have HM:=Hd hm;have D:=Hd (An X (An Y h3))
 have aD:∀W,Fr [] w2 W->Calls prog 19 #[.pointer b] W λe w'=>e=.returned m/\W=w':=λW hW=>by
  have h:=GA b xs ap W (HH.fr0 hW);rw[hm]at h;exact h
 have HL:=Hd aD;rw[hm];clear aK aL n1 n2 f1 f2 aO bb aP h aG hm aD
 go_enter func12,ntmps12
 go_upto_region 1 with fail
 rw[HW.1,HW.2.1]
 try rw[HW.2.2.1]
 try rw[Z]
 have ba:IntKind.i64.wrap ((m:Int)+1)=(m:Int)+1:=by simp[IntKind.wrap,IntKind.bits,IntKind.signed];omega
 have aS:IntKind.i64.wrap l=l:=by have:=D.1;simp[IntKind.wrap,IntKind.bits,IntKind.signed];omega
 have aY:((m:Int)+1=0)=False:=by simp;omega
 obtain⟨q,hq,a4⟩:∃q:Nat,l.tmod ((m:Int)+1)=(q:Int)/\q<=m:=by
  have X:=D.1.1;rw[Int.tmod_eq_emod_of_nonneg X];have Y:=Int.emod_nonneg l (show (m:Int)+1≠0 by omega);have h3:=Int.emod_lt_of_pos l (show 0<(m:Int)+1 by omega);exact⟨(l % ((m:Int)+1)).toNat,qo,qo⟩
 have⟨n0,aZ⟩:=eR (m - q);have a7:IntKind.i64.wrap ((m:Int) - (q:Int))=(n0:Int):=by simp[IntKind.wrap,IntKind.bits,IntKind.signed];omega
 have HSS:=Hd (λ(W:World) (hW:Fr [] w2 W)=>(⟨(A.1.fr hW qs).c 0,(A.1.fr hW qs).c 1,(A.1.fr hW qs).c 2⟩:W.cell? ⟨w.heap.size,0,none⟩=some (.int .u8 l)/\W.cell? ⟨w.heap.size,1,none⟩=some (.int .u8 z)/\W.cell? ⟨w.heap.size,2,none⟩=some (.int .u8 at_)));have J:Fr [] w2 w2.drew:=(Fq _ w2).drew;clear Z;refine eU (λW=>Fr [] w2 W) 10 qk ?_ qd
 show fc 0 ..
 refine gJ rfl ?_;try simp only[qq]
 show fc 2 ..
 iterate 4 (refine gJ rfl ?_;try simp only[qq])
 refine hO (i:=1) rfl λK B=>?_;go_simp
 go_at_call 19
 (with_reducible refine(HL.out _ J).mono ?_);rintro e L ⟨rfl,rfl⟩;refine B _ _ J ?_;clear B K
 try simp only[qq]
 refine hO (i:=6) rfl λK B=>?_;go_simp
 go_at_call 19
 (with_reducible refine(HL.out _ J).mono ?_);rintro e L ⟨rfl,rfl⟩;refine B _ _ J ?_;clear B K
 try simp only[qq]
 show fc 7 ..
 iterate 3 (refine gJ rfl ?_;try simp only[qq])
 refine eV ⟨qk,?_⟩;simp only[qG,qH];have aE:n0<=m:=qo
 clear ba aS aY hq a4 a7 aZ HSS;have⟨w3,aM⟩:=eR (w2.drew);rw[aM]at J ⊢;have S:=Hd J;clear aM J;have x0:=(A.1.fr S.out qs).c 0
 go_upto_if 26 with fail
 go_cut [6]from 26 to 28 (λs W=>(∃n1:Nat,n1<=m/\s=n1)/\W=w3)
 case first =>
  rcases Decidable.em (l % 4=3)with h4|h4
  ·go_wp2_with (go_at_call 19;(with_reducible refine(HL.out _ S.out).mono ?_);rintro e L ⟨rfl,rfl⟩)
   go_meet
   exact⟨⟨n0,aE,rfl⟩,rfl⟩
  ·have h5:(l % 4 == 3)=false:=by simpa using h4
   have h6:(l % 4 != 3)=true:=by simpa using h4
   go_wp2_with (go_at_call 19;(with_reducible refine(HL.out _ S.out).mono ?_);rintro e L ⟨rfl,rfl⟩)
   go_meet
   exact⟨⟨m,fW m,rfl⟩,rfl⟩
 case rest =>
  obtain⟨⟨n,ak,rfl⟩,aN⟩:=hcut;rw[aN];clear aN aE x0;have T:=Fg b xs ap n w3 (aQ.fr0 S.out) (HH.fr0 S.out) (by rw[HM.out];exact ak);have aR:=Hd T;clear T
  go_upto_region 5 with(go_at_call 37;(with_reducible refine aR.out.mono ?_);rintro e M ⟨sb,ns,rfl,aH,aF,E⟩;have F:=Hd (An aH (An aF (S.then E)));clear aH aF E)
  have ah:=Hd (Gx sb ns M F.1);have⟨k,hk⟩:=eR (ns.length);rw[hk]at ah;have HK:=Hd hk
  rcases Nat.eq_zero_or_pos k with hz|a3
  ·subst hz
   go_upto_region 6 with(go_at_call 38;(with_reducible refine ah.out.mono ?_);rintro e L ⟨rfl,rfl⟩)
   have HSS:=Hd (λ(W:World) (hW:Fr [] M W)=>((A.1.fr (F.2.2.then hW) qs).c 2:W.cell? ⟨w.heap.size,2,none⟩=some (.int .u8 at_)));have bf:IntKind.i64.wrap at_=at_:=by have:=D.2.2;simp[IntKind.wrap,IntKind.bits,IntKind.signed];omega
   refine qz (λW=>Fr [] M W) 6 7 qk ((Fq _ M).drew) ?_ qd;refine kM (i:=1) (v:=?_) qk fh rfl qd qd qk (λ_ _ _ h=>h) (Or.inl ⟨qr,?_⟩) ?_
   rotate_left
   ·intro W hW
    obtain N:=HSS.out W hW;go_simp
    try with_reducible rfl
   try simp only[qq]
   refine kM (i:=2) (v:=?_) qk fh rfl qd qd qk (λ_ _ _ h=>h) (Or.inl ⟨qr,?_⟩) ?_
   rotate_left
   ·intro W hW
    obtain N:=HSS.out W hW;go_simp
    try with_reducible rfl
   try simp only[qq]
   refine kM (i:=3) (v:=?_) qk fh rfl qd qd qk (λ_ _ _ h=>h) (Or.inl ⟨qr,?_⟩) ?_
   rotate_left
   ·intro W hW
    obtain N:=HSS.out W hW;go_simp
    try with_reducible rfl
   try simp only[qq]
   refine wh (i:=5) (v:=?_) qk fh rfl qd qd qk (λ_ _ _ h=>h) (Or.inl ⟨qr,?_⟩) ?_
   rotate_left
   ·intro W hW
    go_simp
    try with_reducible rfl
   try simp only[qq]
   refine wi (i:=0) qk qd qd rfl (λK B=>?_);rw[if_pos qr];go_simp
   go_at_call 35
   (with_reducible refine(sR 1 M.drew).mono ?_);rintro e L ⟨rfl,aJ⟩;have aq:=((Fq _ M).drew).then aJ;refine B _ _ aq ?_;clear B K aJ
   try simp only[qq]
   unfold zW;refine kM (i:=4) (v:=?_) qk fh rfl qd qd qk (λ_ _ _ h=>h) (Or.inl ⟨qr,?_⟩) ?_
   rotate_left
   ·intro W hW
    obtain N:=HSS.out W hW;go_simp
    try with_reducible rfl
   try simp only[qq]
   have a:=A.2.fr (F.2.2.then aq) qs;have⟨o,p,t,u,y,C⟩:=a.m6;have ab:=a.f 0;have ac:=a.f 1;have ad:=a.f 2;have ae:=a.f 3;have af:=a.f 4;have ag:=a.f 5;refine uT qk qd rfl (λK B=>?_);rw[if_pos qr];go_simp
   have⟨u2,I,aa,V⟩:=rn (L) (RB) a (16:Int) S0 L1 L0 S0 at_;rw[I];clear I;refine B _ _ ?_;clear B K
   try simp only[qq]
   refine wj ⟨qk,?_⟩;simp only[qG,qH];clear o p t u y C ab ac ad ae af ag;have⟨o,p,t,u,y,C⟩:=aa.m6
   go_wp2
   obtain⟨P,hP⟩:∃P:Nat,at_=(P:Int):=⟨at_.toNat,by have:=D.2.2.1;omega⟩;subst hP;refine bodyPost_ret (v:=.tuple #[GJ (jE 1) ⟨#[]⟩ ⟨#[]⟩ (P:Int),n]) (by simp[results,results12,GJ,jE,go_sem,o,p,t,u,y,C]) rfl ?_;exact⟨jE 1,⟨#[]⟩,⟨#[]⟩,P,n,rfl,⟨qk,rfl⟩,by have:=D.2.2.2;omega,ak,(U.then (F.2.2.then aq)).trans V (by simp;have:=HZ.out;omega)⟩
  ·have bk:((k:Int) == 0)=false:=by simp;omega
   have bj:((k:Int)=0)=False:=by simp;omega
   go_upto_region 7 with(go_at_call 38;(with_reducible refine ah.out.mono ?_);rintro e L ⟨rfl,rfl⟩)
   have al:=Fe sb ns M F.1 (by have:=F.2.1;omega);unfold Du at al;rw[HK.out]at al;have aB:=Hd al;clear al
   go_upto_region 8 with(go_at_call 39;(with_reducible refine aB.out.mono ?_);rintro e w5 ⟨bd,c,rfl,ho,E,hA⟩;have Q:=Hd (An ho (An (F.2.2.then E) E));clear ho E hA)
   obtain⟨j,hj,aW⟩:∃j:Nat,z % (k:Int)=(j:Int)/\j<k:=by
    have Y:=Int.emod_nonneg z (show (k:Int)≠0 by omega);have h3:=Int.emod_lt_of_pos z (show 0<(k:Int) by omega);exact⟨(z % (k:Int)).toNat,qo,qo⟩
   have bi:z.tmod (k:Int)=(j:Int):=by rw[Int.tmod_eq_emod_of_nonneg D.2.1.1];exact hj
   obtain⟨r3,a5,bn⟩:∃r:Nat,at_ % 3=(r:Int)/\r<3:=⟨(at_ % 3).toNat,qo,qo⟩;have bo:at_.tmod 3=(r3:Int):=by rw[Int.tmod_eq_emod_of_nonneg D.2.2.1];exact a5
   have bg:IntKind.i64.wrap z=z:=by have:=D.2.1;simp[IntKind.wrap,IntKind.bits,IntKind.signed];omega
   have bh:IntKind.i64.wrap at_=at_:=by have:=D.2.2;simp[IntKind.wrap,IntKind.bits,IntKind.signed];omega
   obtain⟨nm,aw⟩:∃x,ns[j]?=some x:=⟨_,gg (by rw[HK.out];exact aW)⟩;obtain⟨g,off,rfl,aV,aC⟩:=fK pq (Q.1.rd) a3;have ai:=aC j nm aw;have⟨kd,av⟩:=eR (nm.kind);have⟨nu,ax⟩:=eR (nm.number);have⟨ix,au⟩:=eR (nm.index);have⟨G,ay,_,_⟩:=eS nm.owner;have⟨H,T,_,_⟩:=eS nm.text;unfold ON.cs at ai;rw[av,ax,au,ay,T]at ai;have⟨o,p,t,u,y⟩:=JE ai;have s0:=A.1.fr Q.2.1 qs;have x1:=s0.k1;have N:=s0.k2;have a6:=s0.lt;clear s0 aC ai aB ah;have d:=Hd (An av (An ax (An au (An ay (An T aw)))));clear av ax au ay T aw
   go_region
   have⟨O,hD⟩:=eR (w5.heap.size);have⟨w6,am⟩:=eR ((w5.alloc (.cells #[kd,G,nu,ix,H,r3] 33)).drew);have n6:BoxN w6 O 33 #[kd,G,nu,ix,H,r3]:=by rw[<-am,<-hD];exact(BoxN.new w5 _ _).drew
   have f6:Fr [] w5 w6:=by rw[<-am];exact((Fq [] w5).alloc _).drew
   rw[am,hD];rw[hD]at a6;have H6:=Hd (An n6 (An (Q.2.1.then f6) (Q.2.2.then f6)))
   have be:O≠RB:=by
    have X:=Q.2.1.size;have Y:=A.2.lt;omega
   clear am f6 o p t u y x1 N aV;have ar:=F.1.names nm (gH d.2.2.2.2.2);have aj:=Gy sb ns nm w6 (F.1.fr0 H6.2.2) ar;unfold fu at aj;rw[d.1,d.2.1,d.2.2.1,d.2.2.2.1,d.2.2.2.2.1]at aj;have ao:=Hd aj;have aA:=Hd ar;have⟨az,z1,z2,z3,z4,z5⟩:=n6.m6;clear aj ar n6
   go_upto_region 10 with(go_at_call 40;(with_reducible refine ao.out.mono ?_);rintro e w7 ⟨s,fl,rfl,aI,_,E⟩;have R:=Hd (An aI (An (H6.2.1.then E) E));clear aI E)
   clear az z1 z2 z3 z4 z5;have n7:=H6.1.fr R.2.2 qs
   rcases Nat.eq_zero_or_pos s.size with hz|bm
   ·have aT:=decide_eq_false qo
    have aU:¬(0:Int)<(s.size:Int):=qo
    clear ao;have a:=A.2.fr (R.2.1) qs;have⟨o,p,t,u,y,C⟩:=a.m6;have ab:=a.f 0;have ac:=a.f 1;have ad:=a.f 2;have ae:=a.f 3;have af:=a.f 4;have ag:=a.f 5;have⟨az,z1,z2,z3,z4,z5⟩:=n7.m6
    go_wp2
    have⟨u2,I,aa,V⟩:=rn (w7) (RB) a kd G nu ix H r3;rw[I];clear I;clear o p t u y C ab ac ad ae af ag;have⟨o,p,t,u,y,C⟩:=aa.m6;refine bodyPost_ret (v:=.tuple #[GJ nm G H (r3:Int),n]) (by simp[results,results12,GJ,d.1,d.2.1,d.2.2.1,go_sem,o,p,t,u,y,C]) rfl ?_;exact⟨nm,G,H,r3,n,rfl,⟨aA.out,by unfold fu;rw[d.2.2.2.1,d.2.2.2.2.1]⟩,qo,ak,(U.then (R.2.1)).trans V (by simp;have:=HZ.out;omega)⟩
   ·have aT:=decide_eq_true qo
    have aU:(0:Int)<(s.size:Int):=qo
    obtain⟨v,hv,bp⟩:∃v:Nat,at_ % (s.size:Int)=(v:Int)/\v<s.size:=by
     have Y:=Int.emod_nonneg at_ (show (s.size:Int)≠0 by omega);have h3:=Int.emod_lt_of_pos at_ (show 0<(s.size:Int) by omega);exact⟨(at_ % (s.size:Int)).toNat,qo,qo⟩
    have a9:at_.tmod (s.size:Int)=(v:Int):=by rw[Int.tmod_eq_emod_of_nonneg D.2.2.1];exact hv
    have N:=(A.1.fr R.2.1 qs).c 2;have z5:=n7.c 5;have bc:=n7.f 5;clear ao
    go_upto_region 12 with fail
    have⟨w8,an⟩:=eR (w7.setCell ⟨O,5,none⟩ v);have n8:BoxN w8 O 33 #[kd,G,nu,ix,H,v]:=by rw[<-an];exact n7.setAt 5 _
    have f8:Fr [O] w7 w8:=by rw[<-an];exact(Fq [O] w7).st _
    have g8:=R.2.1.trans f8 (by simp;have X:=Q.2.1.size;omega);rw[an];have a8:v<65536:=by have:=R.1;omega
    clear an z5 bc N n7 hv a9;have a:=A.2.fr (g8) qs;have⟨o,p,t,u,y,C⟩:=a.m6;have ab:=a.f 0;have ac:=a.f 1;have ad:=a.f 2;have ae:=a.f 3;have af:=a.f 4;have ag:=a.f 5;have⟨az,z1,z2,z3,z4,z5⟩:=n8.m6
    go_wp2
    have⟨u2,I,aa,V⟩:=rn (w8) (RB) a kd G nu ix H v;rw[I];clear I;clear o p t u y C ab ac ad ae af ag;have⟨o,p,t,u,y,C⟩:=aa.m6;refine bodyPost_ret (v:=.tuple #[GJ nm G H (v:Int),n]) (by simp[results,results12,GJ,d.1,d.2.1,d.2.2.1,go_sem,o,p,t,u,y,C]) rfl ?_;exact⟨nm,G,H,v,n,rfl,⟨aA.out,by unfold fu;rw[d.2.2.2.1,d.2.2.2.2.1]⟩,a8,ak,(U.then (g8)).trans V (by simp;have:=HZ.out;omega)⟩
open Go.RowKit Go.Shelf
def Ca(y:LK):∃(f t a:Int) (c:ByteArray) (b e:Int) (d:ByteArray),y.cs=[.int .i64 f,.int .i64 t,.int .i64 a,.string c,.int .i64 b,.int .i64 e,.string d]:=⟨_,_,_,_,_,_,_,rfl⟩
def Hy(A B:Option Addr)(c d:Nat)(xs:List CH)(w:World)(t:Rd w 7 A xs.length (xs.flatMap CH.cs))(u:Rd w 7 B xs.length (xs.flatMap CH.cs))(R:xs.length<=1000000):
 Calls prog 71 #[.slice A xs.length c,.slice B xs.length d] w (fi w (.bool true)):=by
 obtain⟨n,y⟩:=eR (xs.length);rw[y]at t u R ⊢;have s:=Hd (An y (An t u));clear y t u
 go_enter func71,ntmps71
 go_upto_region 3 with fail
 go_wp2_with fail
 go_loopw [13] (λi W=>∃j:Nat,j<=n/\i=j/\Fr [] w W) (λi _=>n - (intOf i).toNat)
 case atStart=>exact⟨0,Nat.zero_le _,rfl,Fq _ _⟩
 case round =>
  obtain⟨j,T,rfl,m⟩:=hrel
  by_cases Q:j<n
  ·have U:(j:Int)<(n:Int):=qo
   have H:Row wr wr.heap.size 7 A n (xs.flatMap CH.cs):=by have q:=s.out.2.1.fr0 m;unfold Rd at q;exact q
   have I:Row wr wr.heap.size 7 B n (xs.flatMap CH.cs):=by have q:=s.out.2.2.fr0 m;unfold Rd at q;exact q
   obtain⟨a,k,rfl,O,C⟩:=fK i9 H qo;obtain⟨b,l,rfl,P,D⟩:=fK i9 I qo;obtain⟨x,v⟩:∃x,xs[j]?=some x:=⟨_,gg (by rw[s.out.1];exact Q)⟩;have e:=C j x v;have f:=D j x v;obtain⟨F,J,G,M,K,L,z,E⟩:=lo x;rw[E]at e f;have V:IntKind.i64.wrap (j:Int)=(j:Int):=by simp only[IntKind.wrap_i64];omega
   have HSS:=Hd (λ(W:World) (hW:Fr [] wr W)=>(show (W.cell? ⟨a,k+j*7,none⟩=some F/\W.cell? ⟨a,k+j*7+1,none⟩=some J/\W.cell? ⟨a,k+j*7+2,none⟩=some G/\W.cell? ⟨a,k+j*7+3,none⟩=some M/\W.cell? ⟨a,k+j*7+4,none⟩=some K/\W.cell? ⟨a,k+j*7+5,none⟩=some L/\W.cell? ⟨a,k+j*7+6,none⟩=some (.bool z))/\W.cell? ⟨b,l+j*7,none⟩=some F/\W.cell? ⟨b,l+j*7+1,none⟩=some J/\W.cell? ⟨b,l+j*7+2,none⟩=some G/\W.cell? ⟨b,l+j*7+3,none⟩=some M/\W.cell? ⟨b,l+j*7+4,none⟩=some K/\W.cell? ⟨b,l+j*7+5,none⟩=some L/\W.cell? ⟨b,l+j*7+6,none⟩=some (.bool z)from
    have g:∀o,W.cell? ⟨a,o,none⟩=wr.cell? ⟨a,o,none⟩:=λo=>hW.cell (p:=⟨a,o,none⟩) O qs;have h:∀o,W.cell? ⟨b,o,none⟩=wr.cell? ⟨b,o,none⟩:=λo=>hW.cell (p:=⟨b,o,none⟩) P qs
    ⟨⟨(g _).trans (e 0 qo),(g _).trans (e 1 qo),(g _).trans (e 2 qo),(g _).trans (e 3 qo),(g _).trans (e 4 qo),(g _).trans (e 5 qo),(g _).trans (e 6 qo)⟩,(h _).trans (f 0 qo),(h _).trans (f 1 qo),(h _).trans (f 2 qo),(h _).trans (f 3 qo),(h _).trans (f 4 qo),(h _).trans (f 5 qo),(h _).trans (f 6 qo)⟩))
   have r:=Hd m;clear e f H I C D v E m
   go_upto_region 6 with fail
   refine eW (λW=>Fr [] wr W) qk qk ((Fq _ wr).drew) ?_
   repeat(
    first
    | go_big_quiet_skip
    | (go_big_quiet_want;first|(go_big_quiet_op;go_big_quiet_on)|(apply Exists.intro;refine⟨λW hW=>?_,?_⟩;(· obtain⟨⟨X,Y,Z,x3,x4,x5,x6⟩,y0,y1,y2,y3,y4,y5,y6⟩:=HSS.out W hW;go_simp;first|done|with_reducible exact rfl|with_reducible exact⟨rfl,rfl⟩ );simp only[qq];go_big_quiet_on))
    )
   refine wpQuiet_nil ?_;intro W hW;have N:=Hd (r.out.then hW);clear hW
   go_wp2_with fail
   go_roundw
   case rel=>exact⟨j+1,qo,by go_num,N.out⟩
   case measure=>simp[intOf];omega
  ·have S:¬(j:Int)<(n:Int):=qo
   have r:=Hd m;clear m
   go_wp2_with fail
   go_ret
   exact⟨rfl,r.out⟩
def Cb(A B:Option Addr)(c d:Nat)(xs:List LK)(w:World)(v:Rd w 7 A xs.length (xs.flatMap LK.cs))(y:Rd w 7 B xs.length (xs.flatMap LK.cs))(R:xs.length<=1000000):
 Calls prog 36 #[.slice A xs.length c,.slice B xs.length d] w (fi w (.bool true)):=by
 have⟨n,C⟩:=eR (xs.length);rw[C]at v y R ⊢;have u:=Hd (An C (An v y));clear C v y
 go_enter func36,ntmps36
 go_upto_region 3 with fail
 go_wp2
 go_loopw [13] (λi W=>∃j:Nat,j<=n/\i=j/\Fr [] w W) (λi _=>n - (intOf i).toNat)
 case atStart=>exact⟨0,Nat.zero_le _,rfl,Fq _ _⟩
 case round =>
  obtain⟨j,T,rfl,q⟩:=hrel
  by_cases Q:j<n
  ·have U:(j:Int)<(n:Int):=qo
   have I:Row wr wr.heap.size 7 A n (xs.flatMap LK.cs):=by have r:=u.2.1.fr0 q;unfold Rd at r;exact r
   have J:Row wr wr.heap.size 7 B n (xs.flatMap LK.cs):=by have r:=u.2.2.fr0 q;unfold Rd at r;exact r
   obtain⟨a,l,rfl,O,D⟩:=fK zo I qo;obtain⟨b,m,rfl,P,E⟩:=fK zo J qo;obtain⟨x,z⟩:∃x,xs[j]?=some x:=⟨_,gg (by rw[u.1];exact Q)⟩;have e:=D j x z;have g:=E j x z;have⟨f,t,G,K,H,M,L,F⟩:=Ca x;rw[F]at e g;have V:IntKind.i64.wrap (j:Int)=(j:Int):=by simp only[IntKind.wrap_i64];omega
   have HSS:=Hd (λ(W:World) (hW:Fr [] wr W)=>(show (W.cell? ⟨a,l+j*7,none⟩=some f/\W.cell? ⟨a,l+j*7+1,none⟩=some t/\W.cell? ⟨a,l+j*7+2,none⟩=some G/\W.cell? ⟨a,l+j*7+3,none⟩=some K/\W.cell? ⟨a,l+j*7+4,none⟩=some H/\W.cell? ⟨a,l+j*7+5,none⟩=some M/\W.cell? ⟨a,l+j*7+6,none⟩=some L)/\W.cell? ⟨b,m+j*7,none⟩=some f/\W.cell? ⟨b,m+j*7+1,none⟩=some t/\W.cell? ⟨b,m+j*7+2,none⟩=some G/\W.cell? ⟨b,m+j*7+3,none⟩=some K/\W.cell? ⟨b,m+j*7+4,none⟩=some H/\W.cell? ⟨b,m+j*7+5,none⟩=some M/\W.cell? ⟨b,m+j*7+6,none⟩=some L from
    have h:∀o,W.cell? ⟨a,o,none⟩=wr.cell? ⟨a,o,none⟩:=λo=>hW.cell (p:=⟨a,o,none⟩) O qs;have k:∀o,W.cell? ⟨b,o,none⟩=wr.cell? ⟨b,o,none⟩:=λo=>hW.cell (p:=⟨b,o,none⟩) P qs
    ⟨⟨(h _).trans (e 0 qo),(h _).trans (e 1 qo),(h _).trans (e 2 qo),(h _).trans (e 3 qo),(h _).trans (e 4 qo),(h _).trans (e 5 qo),(h _).trans (e 6 qo)⟩,(k _).trans (g 0 qo),(k _).trans (g 1 qo),(k _).trans (g 2 qo),(k _).trans (g 3 qo),(k _).trans (g 4 qo),(k _).trans (g 5 qo),(k _).trans (g 6 qo)⟩))
   have s:=Hd q;clear e g I J D E z F q
   go_upto_region 6 with fail
   refine eW (λW=>Fr [] wr W) qk qk ((Fq _ wr).drew) ?_
   repeat(
    first
    | go_big_quiet_skip
    | (go_big_quiet_want;first|(go_big_quiet_op;go_big_quiet_on)|(apply Exists.intro;refine⟨λW hW=>?_,?_⟩;(· have⟨⟨X,Y,Z,x3,x4,x5,x6⟩,y0,y1,y2,y3,y4,y5,y6⟩:=HSS.out W hW;go_simp;first|done|with_reducible exact rfl|with_reducible exact⟨rfl,rfl⟩ );simp only[qq];go_big_quiet_on))
    )
   refine wpQuiet_nil ?_;intro W hW;have N:=Hd (s.then hW);clear hW
   go_wp2
   go_roundw
   case rel=>exact⟨j+1,qo,by go_num,N.out⟩
   case measure=>simp[intOf];omega
  ·have S:¬(j:Int)<(n:Int):=qo
   have s:=Hd q;clear q
   go_wp2
   go_ret
   exact⟨rfl,s.out⟩
def cg(i:Int)(v:ByteArray)(a:Bool):CH:=⟨jE i,v.data.toList,a⟩
def kg(i:Int)(r w:List CH):AG:=⟨⟨i,0,i,[]⟩,r,w⟩
def kg0:AG:=kg 1 [] [cg 1 ⟨#[120]⟩ false]
def kg1:AG:=kg 2 [cg 1 ⟨#[120]⟩ false] [cg 2 ⟨#[121,122]⟩ false]
def kg2:AG:=kg 3 [cg 3 ⟨#[]⟩ true] []
def Jv:l6 kg0=true:=qk
def Jw:l6 kg1=true:=qk
def JD:l6 kg2=true:=qk
def vq(i:Int)(v:ByteArray)(a:Bool)(h:v.size<=10):(cg i v a).fit:=⟨by simp[cg,jE],by simp[cg,jE],by show v.data.toList.length<=_;rw[Array.length_toList];exact Nat.le_trans h qo⟩
def FN:kg0.fit:=⟨by simp[kg0,kg],by simp[kg0,kg],λx a=>by simp[kg0,kg]at a;rw[a];exact vq _ _ _ qd,by simp[kg0,kg],by simp[kg0,kg]⟩
def FO:kg1.fit:=⟨by simp[kg1,kg],λx a=>by simp[kg1,kg]at a;rw[a];exact vq _ _ _ qd,λx a=>by simp[kg1,kg]at a;rw[a];exact vq _ _ _ qd,by simp[kg1,kg],by simp[kg1,kg]⟩
def FP:kg2.fit:=⟨by simp[kg2,kg],λx a=>by simp[kg2,kg]at a;rw[a];exact vq _ _ _ qd,by simp[kg2,kg],by simp[kg2,kg],by simp[kg2,kg]⟩
def Ai(W:World):Chs W none []:=Row.nil_
def q9{W:World}{b:Nat}{i:Int}{v:ByteArray}{a:Bool}(h:Cs W b (Hz i v a)):Chs W (some ⟨b,0,none⟩) [cg i v a]:=⟨rfl,λ_=>⟨b,0,rfl,h.1,λj u c=>by
 rw[Nat.zero_add];exact h.2 j u c⟩⟩
def zg(b:Nat)(xs:List AX)(M:List Nat)(a:AG)(d f:Option Addr)(g i:Nat)(w:World)(h:HG w b xs M)(t:Ok w)(s:∀k∈M,6<=k)(v:a.k.lin=[])(l:a.fit)(u:a.r.length<=10)(x:a.w.length<=10)(p:xs.length<=11)(o:qN xs a=true)
 (z:Kept M w λW=>Chs W d a.r/\Chs W f a.w):Calls prog 34 #[.pointer (some ⟨b,0,none⟩),a.val ⟨#[]⟩ d g f i] w λe w'=>e=.returned (.int .i64 0)/\∃c y,y.a=a/\HG w' b (xs++[y]) c/\Fr M w w'/\∀k∈c,k∈M \/ w.heap.size<=k:=by
 refine(tY b xs M a ⟨#[]⟩ d f g i w h t s (by rw[v];rfl) l u x p z).mono ?_;rintro e w' ⟨q,rfl,h|⟨_,rfl,c,y,A,n,m,j⟩⟩
 ·rw[o]at h;cases h.1
 ·exact⟨rfl,c,y,A,n,m,j⟩
def xr{y:AX}{xs:List AX}{a:AG}(h:l6 a=true)(b:0<pL a.k y.a.k):qN (xs++[y]) a=true:=by
 unfold qN;rw[h,List.getLast?_concat];simpa using b
def xt{b c d:AX}(h:b.a=kg0)(i:c.a=kg1)(j:d.a=kg2):jX [b,c,d] (jE 2) 1 3=.inr [0,1]:=by
 unfold jX;simp only[map_cons,map_nil,h,i,j];have e:pN ([kg0,kg1,kg2].take 3) (jE 2) 1=⟨1,true,122⟩:=qk
 have f:vF (ux ([kg0,kg1,kg2].take 3)) 3 1 []=[1,0]:=qk
 have g:Cw [1,0]=[0,1]:=by simp[Cw,List.mergeSort,List.MergeSort.Internal.splitInTwo]
 show (if(3:Int)<0 \/ ((3:Nat):Int)<3 then _ else _)=_
 rw[if_neg qo,show (3:Int).toNat=3 from rfl,e,if_neg qs];unfold kK;rw[show (1:Int).toNat=1 from rfl,f,g]
def qj(d:Nm)(b:d.length=32)(X:World):∃Y,(storeCells ⟨X.heap.size,0,none⟩ (eO d)).run prog (X.alloc (.cells (#[.int .u8 0,.int .u8 0,.int .u8 0,.int .u8 0,.int .u8 0,.int .u8 0,.int .u8 0,.int .u8 0,.int .u8 0,.int .u8 0,.int .u8 0,.int .u8 0,.int .u8 0,.int .u8 0,.int .u8 0,.int .u8 0,.int .u8 0,.int .u8 0,.int .u8 0,.int .u8 0,.int .u8 0,.int .u8 0,.int .u8 0,.int .u8 0,.int .u8 0,.int .u8 0,.int .u8 0,.int .u8 0,.int .u8 0,.int .u8 0,.int .u8 0,.int .u8 0]) 57))=.ok () Y/\Fr [] X Y/\Y.rowIs X.heap.size 57 32 (λj=>.int .u8 ((d.getD j 0).toNat:Int)):=by
 have⟨W,hW⟩:=eR (X.alloc (.cells (qP) 57));obtain⟨f,a⟩:∃f,W.rowIs X.heap.size 57 32 f:=by rw[<-hW];exact⟨_,gi X _ _⟩
 have hF:Fr [] X W:=by rw[<-hW];exact(Fq [] X).alloc _
 rw[hW];exact⟨_,fj a b,hF.trans ((Fq [X.heap.size] W).setCells (.inl qs) _ _) qs,(fp a b).2⟩
def Cc(A:Option Addr)(b c d:Nat)(x:LK)(w:World)(a:Rd w 7 A 1 ([x].flatMap LK.cs))(e:Cs w b ([x].flatMap LK.cs)):
 Calls prog 36 #[.slice A 1 c,.slice (some ⟨b,0,none⟩) 1 d] w (fi w (.bool true)) :=
 Cb A (some ⟨b,0,none⟩) c d [x] w a (EE e rfl) qs
def zh:∃s:LS,lW (jE 2) 1 [0,1] [kg0,kg1]=.ok (122,s)/\s.lks=[⟨0,1,jE 1⟩]/\∀n,s.asm n=none:=by
 have f:∃s:LS,j0 [kg0,kg1] [0,1] 2=some s/\s.lks=[⟨0,1,jE 1⟩]/\s.used=[0]/\∀n,s.asm n=none:=⟨_,rfl,rfl,rfl,λn=>rfl⟩;obtain⟨s,b,c,d,e⟩:=f;refine⟨s,?_,c,e⟩;have h:=(xH (nm:=jE 2) (P:=1) (is:=[0,1]) (l:=[kg0,kg1]) (a:=kg1) (x:=cg 2 ⟨#[121,122]⟩ false) qk rfl rfl (λh=>h.elim (λh=>nomatch h) (λh=>absurd h qd))).2 s b;rw[h,d];rfl
def Eh{f:ON->Option CH}{l:List CH}(h:Ao f l)(a:∀n,f n=none):l=[]:=by
 cases l with
 | nil=>rfl
 | cons x r =>
  have:=h.2.2.1 x.n;rw[a]at this;simp[uo]at this
def Jx(a b c d L:Nat)(W:World):Prop:=Cs W a (Hz 1 ⟨#[120]⟩ false)/\Cs W b (Hz 1 ⟨#[120]⟩ false)/\Cs W c (Hz 2 ⟨#[121,122]⟩ false)/\Cs W d (Hz 3 ⟨#[]⟩ true)/\Cs W L [.int .i64 1,.int .i64 0,.int .i64 1,.string ⟨#[]⟩,.slice none 0 0,.slice (some ⟨a,0,none⟩) 1 1,.int .i64 2,.int .i64 0,.int .i64 2,.string ⟨#[]⟩,.slice (some ⟨b,0,none⟩) 1 1,.slice (some ⟨c,0,none⟩) 1 1,.int .i64 3,.int .i64 0,.int .i64 3,.string ⟨#[]⟩,.slice (some ⟨d,0,none⟩) 1 1,.slice none 0 0]
def FQ(w:World)(bf:Ok w):Calls prog 11 #[] w (fi w (.bool true)):=by
 have E:=Hd bf;have ab:Hid (∀(i:Int) (W:World),Calls prog 35 #[.int .i64 i] W (fi W (.agg #[.int .i64 16,.string ⟨#[]⟩,.int .i64 i,.int .i64 0,.string ⟨#[]⟩]))):=Hd λi W=>sR i W;clear bf
 go_enter func11,ntmps11
 go_upto_region 4 with(first
  | (go_at_call 33;(with_reducible refine(xA w).mono ?_);rintro e w1 ⟨rfl,au,a9⟩;have H1:=Hd (An au a9);clear au a9)
  | (go_at_call 32;(with_reducible refine(GC w.heap.size w1 (E.out.fr0 H1.out.2) H1.out.1).mono ?_);rintro e w2 ⟨b,M0,rfl,u,ba,a7⟩;have H2:=Hd (An u (An (H1.2.then ba) (show ∀k∈M0,w.heap.size<=k from λk t=>Nat.le_trans H1.2.size (a7 k t))));clear u ba a7))
 go_upto_region 5 with(first
  | (go_at_call 35;(with_reducible refine(ab.out 1 w2).mono ?_);rintro e f ⟨rfl,bg⟩;have az:=Hd bg;clear bg)
  | (go_at_call 35;(with_reducible refine(ab.out 1 (f.alloc (.cells #[.int .i64 16,.string ⟨#[]⟩,.int .i64 1,.int .i64 0,.string ⟨#[]⟩,.string ⟨#[120]⟩,.bool false] 95))).mono ?_);rintro e p2 ⟨rfl,bh⟩;have am:=Hd bh;clear bh)
  | (go_at_call 35;(with_reducible refine(ab.out 2 (p2.alloc (.cells #[.int .i64 16,.string ⟨#[]⟩,.int .i64 1,.int .i64 0,.string ⟨#[]⟩,.string ⟨#[120]⟩,.bool false] 95))).mono ?_);rintro e G ⟨rfl,bi⟩;have an:=Hd bi;clear bi)
  | (go_at_call 35;(with_reducible refine(ab.out 3 (G.alloc (.cells #[.int .i64 16,.string ⟨#[]⟩,.int .i64 2,.int .i64 0,.string ⟨#[]⟩,.string ⟨#[121,122]⟩,.bool false] 95))).mono ?_);rintro e Y ⟨rfl,bj⟩;have ao:=Hd bj;clear bj))
 have n1:=BoxN.new f 95 #[.int .i64 16,.string ⟨#[]⟩,.int .i64 1,.int .i64 0,.string ⟨#[]⟩,.string ⟨#[120]⟩,.bool false];have n2:=BoxN.new p2 95 #[.int .i64 16,.string ⟨#[]⟩,.int .i64 1,.int .i64 0,.string ⟨#[]⟩,.string ⟨#[120]⟩,.bool false];have n3:=BoxN.new G 95 #[.int .i64 16,.string ⟨#[]⟩,.int .i64 2,.int .i64 0,.string ⟨#[]⟩,.string ⟨#[121,122]⟩,.bool false];have⟨q1,bp,ai,n4,a5⟩:=ir Y #[.int .i64 16,.string ⟨#[]⟩,.int .i64 3,.int .i64 0,.string ⟨#[]⟩,.string ⟨#[]⟩,.bool true] 95 Y.heap.size;rw[bp];have⟨D,bq,bN,nL,aD⟩:=ir q1 #[.int .i64 1,.int .i64 0,.int .i64 1,.string ⟨#[]⟩,.slice none 0 0,.slice (some ⟨f.heap.size,0,none⟩) 1 1,.int .i64 2,.int .i64 0,.int .i64 2,.string ⟨#[]⟩,.slice (some ⟨p2.heap.size,0,none⟩) 1 1,.slice (some ⟨G.heap.size,0,none⟩) 1 1,.int .i64 3,.int .i64 0,.int .i64 3,.string ⟨#[]⟩,.slice (some ⟨Y.heap.size,0,none⟩) 1 1,.slice none 0 0] 91 q1.heap.size;rw[bq];have g4:Fr [] Y D:=a5.then aD;have g3:Fr [] G D:=(((Fq [] G).alloc _).then ao.out).then g4;have g2:Fr [] p2 D:=(((Fq [] p2).alloc _).then an.out).then g3;have g1:Fr [] f D:=(((Fq [] f).alloc _).then am.out).then g2;have gw:Fr [] w2 D:=az.then g1;have m1:BoxN D f.heap.size 95 #[.int .i64 16,.string ⟨#[]⟩,.int .i64 1,.int .i64 0,.string ⟨#[]⟩,.string ⟨#[120]⟩,.bool false]:=(n1.fr am.out qs).fr g2 qs;have m2:BoxN D p2.heap.size 95 #[.int .i64 16,.string ⟨#[]⟩,.int .i64 1,.int .i64 0,.string ⟨#[]⟩,.string ⟨#[120]⟩,.bool false]:=(n2.fr an.out qs).fr g3 qs;have m3:BoxN D G.heap.size 95 #[.int .i64 16,.string ⟨#[]⟩,.int .i64 2,.int .i64 0,.string ⟨#[]⟩,.string ⟨#[121,122]⟩,.bool false]:=(n3.fr ao.out qs).fr g4 qs;have m4:=n4.fr aD qs;have bd:w2.heap.size<=f.heap.size:=az.size;have aP:f.heap.size<p2.heap.size:=by have h:=am.size;rw[jZ]at h;omega
 have aQ:p2.heap.size<G.heap.size:=by have h:=an.size;rw[jZ]at h;omega
 have aR:G.heap.size<Y.heap.size:=by have h:=ao.size;rw[jZ]at h;omega
 have P:Jx f.heap.size p2.heap.size G.heap.size Y.heap.size q1.heap.size D:=⟨Cs.of_box m1,Cs.of_box m2,Cs.of_box m3,Cs.of_box m4,Cs.of_box nL⟩
 try rw[ai]
 have⟨L,hL⟩:=eR (q1.heap.size);rw[<-ai,hL];rw[hL]at P ai;have⟨c1,aJ⟩:=eR (f.heap.size);have⟨c2,aK⟩:=eR (p2.heap.size);have⟨c3,aL⟩:=eR (G.heap.size);have⟨c4,aM⟩:=eR (Y.heap.size);rw[aJ,aK,aL,aM]at P;rw[aJ]at bd aP;rw[aK]at aP aQ;rw[aL]at aQ aR;rw[aM]at aR ai;have ad:=H2.1.lt;have ax:Hid (Kept M0 D (Jx c1 c2 c3 c4 L)):=Hd λW hW=>⟨P.1.fr hW (λz=>by have:=ad _ z;omega),P.2.1.fr hW (λz=>by have:=ad _ z;omega),P.2.2.1.fr hW (λz=>by have:=ad _ z;omega),P.2.2.2.1.fr hW (λz=>by have:=ad _ z;omega),P.2.2.2.2.fr hW (λz=>by have:=ad _ z;omega)⟩;have T:=Hd (An (H2.1.fr0 gw) (An (H2.2.1.then gw) H2.2.2));clear n1 n2 n3 n4 nL bp bq a5 aD ai bN g1 g2 g3 g4 gw m1 m2 m3 m4 bd aP aQ aR P hL aJ aK aL aM ad H1 H2 az am an ao
 go_upto_region 6 with fail
 refine wp_loop_rounds 4 ?_;rw[rounds_succ];have o:=(ax.now).2.2.2.2;have⟨ak,z1,z2,z3,z4,z5⟩:=o.m6;clear o;have aG:=zg b [] M0 kg0 none (some ⟨c1,0,none⟩) 0 1 D T.1 (E.fr0 T.2.1) (λk t=>Nat.le_trans E.low (T.2.2 k t)) rfl FN qd qd qs (by unfold qN;rw[Jv];rfl) (ax.imp λW h=>⟨Ai W,q9 h.1⟩);rw[show kg0.val ⟨#[]⟩ none 0 (some ⟨c1,0,none⟩) 1=.agg #[.int .i64 1,.int .i64 0,.int .i64 1,.string ⟨#[]⟩,.slice none 0 0,.slice (some ⟨c1,0,none⟩) 1 1]from rfl]at aG;have HA:=Hd aG;clear aG
 go_wp2_with (go_at_call 34;(with_reducible refine HA.out.mono ?_);rintro e x1 ⟨rfl,M1,m,bz,u,C,Q⟩;have J:=Hd (An bz (An u (An C Q)));clear bz u C Q)
 clear ak z1 z2 z3 z4 z5;have ay:=Hd (ax.step J.2.2.1 J.2.2.2);have aa:Hid (Fr [] w x1/\∀k∈M1,w.heap.size<=k):=Hd ⟨T.2.1.trans J.2.2.1 (λk t=>.inr (T.2.2 k t)),λk t=>(J.2.2.2 k t).elim (T.2.2 k) (λh=>Nat.le_trans T.2.1.size h)⟩;rw[rounds_succ];have o:=(ay.now).2.2.2.2;have ak:=o.k6;have z1:=o.k7;have z2:=o.k8;have z3:=o.k9;have z4:=o.k10;have z5:=o.k11;clear o;have aH:=zg b ([]++[m]) M1 kg1 (some ⟨c2,0,none⟩) (some ⟨c3,0,none⟩) 1 1 x1 J.2.1 (E.fr0 aa.1) (λk t=>Nat.le_trans E.low (aa.2 k t)) rfl FO qd qd qs (xr Jw (by rw[J.1];decide)) (ay.imp λW h=>⟨q9 h.2.1,q9 h.2.2.1⟩);rw[show kg1.val ⟨#[]⟩ (some ⟨c2,0,none⟩) 1 (some ⟨c3,0,none⟩) 1=.agg #[.int .i64 2,.int .i64 0,.int .i64 2,.string ⟨#[]⟩,.slice (some ⟨c2,0,none⟩) 1 1,.slice (some ⟨c3,0,none⟩) 1 1]from rfl]at aH;have bE:=Hd aH;clear aH
 go_wp2_with (go_at_call 34;(with_reducible refine bE.out.mono ?_);rintro e R ⟨rfl,M2,r,bA,u,C,Q⟩;have K:=Hd (An bA (An u (An C Q)));clear bA u C Q)
 clear ak z1 z2 z3 z4 z5;have aY:=Hd (ay.step K.2.2.1 K.2.2.2);have al:Hid (Fr [] w R/\∀k∈M2,w.heap.size<=k):=Hd ⟨aa.1.trans K.2.2.1 (λk t=>.inr (aa.2 k t)),λk t=>(K.2.2.2 k t).elim (aa.2 k) (λh=>Nat.le_trans aa.1.size h)⟩;rw[rounds_succ];have o:=(aY.now).2.2.2.2;have ak:(R).cell? ⟨L,12,none⟩=some (.int .i64 3):=o.2 12 _ rfl;have z1:(R).cell? ⟨L,13,none⟩=some (.int .i64 0):=o.2 13 _ rfl;have z2:(R).cell? ⟨L,14,none⟩=some (.int .i64 3):=o.2 14 _ rfl;have z3:(R).cell? ⟨L,15,none⟩=some (.string ⟨#[]⟩):=o.2 15 _ rfl;have z4:(R).cell? ⟨L,16,none⟩=some (.slice (some ⟨c4,0,none⟩) 1 1):=o.2 16 _ rfl;have z5:(R).cell? ⟨L,17,none⟩=some (.slice none 0 0):=o.2 17 _ rfl;clear o;have aI:=zg b (([]++[m])++[r]) M2 kg2 (some ⟨c4,0,none⟩) none 1 0 R K.2.1 (E.fr0 al.1) (λk t=>Nat.le_trans E.low (al.2 k t)) rfl FP qd qd qs (xr JD (by rw[K.1];decide)) (aY.imp λW h=>⟨q9 h.2.2.2.1,Ai W⟩);rw[show kg2.val ⟨#[]⟩ (some ⟨c4,0,none⟩) 1 none 0=.agg #[.int .i64 3,.int .i64 0,.int .i64 3,.string ⟨#[]⟩,.slice (some ⟨c4,0,none⟩) 1 1,.slice none 0 0]from rfl]at aI;have bF:=Hd aI;clear aI
 go_wp2_with (go_at_call 34;(with_reducible refine bF.out.mono ?_);rintro e x3 ⟨rfl,M3,B,bB,u,C,Q⟩;have aB:=Hd (An bB (An u (An C Q)));clear bB u C Q)
 clear ak z1 z2 z3 z4 z5;have aX:Hid (Fr [] w x3):=Hd (al.1.trans aB.2.2.1 (λk t=>.inr (al.2 k t)));rw[rounds_succ]
 go_upto_region 10 with fail
 have aw:HG x3 b [m,r,B] M3:=aB.2.1;have bG:=Hd aw;have aA:Calls prog 21 #[.pointer (some ⟨b,0,none⟩),.int .i64 3] x3 (qZ x3 (lN [m,r,B] 3)):=DA b [m,r,B] M3 3 x3 aw (E.fr0 aX.out) qs;have⟨rt,ar⟩:=eR (lN [m,r,B] 3)
 have bs:Run [m,r,B]:=by
  obtain⟨pb,pl,bR,A0,c0,F0,ns,bS,bT,u,_⟩:=aw;exact u.run
 have ah:rt.length=32:=by
  rw[<-ar];unfold lN;exact kD (pu _) (3+1) 0 qo (by rw[mI];simp) qo
 rw[ar]at aA;have bK:(eO rt).length=32:=by rw[eP,ah]
 have ae:=Hd (An ar bs);have bI:=Hd aA;clear aA ar aw bs
 go_upto_region 11 with(go_at_call 21;(with_reducible refine bI.out.mono ?_);rintro e x4 ⟨rfl,aN⟩;have⟨x5,au,aO,br⟩:=qj rt ah x4;unfold fo;have H5:=Hd (An (aX.then (aN.then aO)) (An (aN.then aO) br));clear aN aO br)
 clear au
 have bH:Hid (∀X,Fr [] x5 X->Calls prog 13 #[.pointer (some ⟨b,0,none⟩),.agg #[.int .i64 16,.string ⟨#[]⟩,.int .i64 2,.int .i64 0,.string ⟨#[]⟩,.int .i64 1],.int .i64 3] X λe w'=>∃(A:Option Addr) (c:Nat) (ps:List PF),e=.returned (.tuple #[.agg #[.int .i64 16,.string ⟨#[]⟩,.int .i64 2,.int .i64 0,.string ⟨#[]⟩,.int .i64 1,.int .i64 3,.slice A 2 c],.int .i64 0])/\PrL w' 3 A c ps/\(ps.map λp=>(p.i,p.s,p.d))=[oX [m,r,B] 3 0,oX [m,r,B] 3 1]/\Fr [] X w'):=Hd λX hX=>by
  refine(EL b [m,r,B] M3 (jE 2) ⟨#[]⟩ ⟨#[]⟩ 1 3 X (bG.fr0 (H5.2.1.then hX)) (E.fr0 (H5.1.then hX)) qk rfl qo).mono ?_;intro e w' z;unfold jY at z;rw[xt J.1 K.1 aB.1]at z;obtain⟨A,c,ps,rfl,U,I,C⟩:=z;exact⟨A,c,ps,rfl,U,I,C⟩
 go_upto_region 12 with(first
  | (go_at_call 35;(with_reducible refine(ab.out 2 x5).mono ?_);rintro e x6 ⟨rfl,bk⟩;have H6:=Hd bk;clear bk)
  | (go_at_call 13;(with_reducible refine(bH.out x6 H6.out).mono ?_);rintro e x7 ⟨g,pc,ps,rfl,bn,I,bb⟩;have H7:=Hd (An (H6.then bb) (An bn I));clear bn I bb))
 have⟨x8,bx,bO,n8,f8⟩:=ir x7 #[.int .i64 16,.string ⟨#[]⟩,.int .i64 2,.int .i64 0,.string ⟨#[]⟩,.int .i64 1,.int .i64 3,.slice g 2 pc] 39 x7.heap.size;rw[bx];have aE:Fr [] x5 x8:=H7.1.then f8;have aV:Fr [] w x8:=H5.1.then aE;have aS:PrL x8 3 g pc ps:=⟨H7.2.1.own.fr f8 qs,λp h=>(H7.2.1.ds p h).fr f8 qs⟩;have I:=H7.2.2;have aq:ps.length=2:=by have:=congrArg List.length I;simpa using this
 have aT:ps.map PF.i=[0,1]:=by
  have:=congrArg (List.map λx:Nat × Nm × List Nm=>x.1) I;rw[map_map]at this;exact this
 have bo:∀(j:Nat) (p:PF),ps[j]?=some p->(p.i,p.s,p.d)=oX [m,r,B] 3 j:=λj p bm=>by
  have hj:j<2:=by rw[<-aq];exact(gV.1 bm).1
  have:=congrArg (λl:List (Nat × Nm × List Nm)=>l[j]?) I;simp only[List.getElem?_map,bm]at this
  rcases (show j=0 \/ j=1 by omega)with rfl|rfl <;> exact Option.some.inj this
 obtain⟨F,f,rfl⟩:∃F f,ps=[F,f]:=by
  match ps,aq with
  | [a,b],_=>exact⟨a,b,rfl⟩
 obtain⟨aC,a3,a4⟩:F.i=0/\F.s=gv m.a/\F.d=jH [m,r,B] 0 3:=by simpa [oX]using bo 0 F rfl
 obtain⟨b1,b2,b3⟩:f.i=1/\f.s=gv r.a/\f.d=jH [m,r,B] 1 3:=by simpa [oX]using bo 1 f rfl
 have bM:∀p∈[F,f],p.i<3/\∃y,[m,r,B][p.i]?=some y/\p.s=gv y.a/\p.d=jH [m,r,B] p.i 3:=λp U=>by
  rcases mem_cons.1 U with rfl|U
  ·exact⟨qo,m,by rw[aC];rfl,a3,by rw[aC];exact a4⟩
  ·obtain rfl:=ip.1 U
   exact⟨qo,r,by rw[b1];rfl,b2,by rw[b1];exact b3⟩
 have e0:=rI ae.2 (i:=0) (n:=3) (y:=m) rfl qo qs;have e1:=rI ae.2 (i:=1) (n:=3) (y:=r) rfl qo qs;rw[ae.1,<-a3,<-a4,show m.a=kg0 from J.1]at e0;rw[ae.1,<-b2,<-b3,show r.a=kg1 from K.1]at e1
 have hX:Cz rt (jE 2) (1:Nat) (3:Nat) ([F,f].map (lS 3))=.ok [kg0,kg1]:=by
  have h0:eY (jE 2)=0:=qk
  simp[Cz,uH,lS,lK,h0,aC,b1,e0,e1]
 have H:=uq rt ah (jE 2) ⟨#[]⟩ ⟨#[]⟩ 1 3 2 g pc [F,f] [kg0,kg1] x8 qk rfl qo aS aq qo qo rfl (by intro a ha;simp at ha;rcases ha with rfl|rfl;exact⟨Jv,qd,qd⟩;exact⟨Jw,qd,qd⟩)
  (λW hW=>by
   have h:=ry rt ah (jE 2) ⟨#[]⟩ ⟨#[]⟩ (1:Nat) (3:Nat) 2 g pc ([F,f].map (lS 3)) W (E.fr0 (aV.then hW)) qd qd rfl qo ((CX aS).fr0 hW) (λq hq=>by
    obtain⟨p,U,rfl⟩:=mem_map.1 hq;exact(CY ae.2 qs (bM p U)).1) rfl qo
   rw[hX]at h;rw[aT];exact h)
 obtain⟨sq,bv,aU,bw⟩:=zh;rw[aT]at H;unfold tu at H;rw[bv]at H
 have a8:Calls prog 22 #[fo rt,.agg #[.int .i64 16,.string ⟨#[]⟩,.int .i64 2,.int .i64 0,.string ⟨#[]⟩,.int .i64 1,.int .i64 3,.slice g 2 pc]] x8 λe w'=>∃(af:Option Addr) (ic:Nat) (KK:Option Addr) (aj:Nat) (M:Option Addr) (V:Nat) (Z:Option Addr) (ac:Nat),e=.returned (.tuple #[.agg #[.int .u8 122,.int .i64 1,.slice af 2 ic,.slice KK 2 aj,.slice M 1 V,.slice Z 0 ac],.int .i64 0])/\Rd w' 7 M 1 ([(⟨0,1,jE 1⟩:LK)].flatMap LK.cs)/\Fr [] x8 w':=by
  refine H.mono ?_;rintro e w' ⟨v,rfl,bL,C⟩;obtain⟨af,KK,M,Z,ic,aj,V,ac,bQ,rfl,_,_,hL,_,ho⟩:=bL.ex;obtain rfl:=Eh ho bw;rw[aU]at hL;rw[aU];exact⟨af,ic,KK,aj,M,V,Z,ac,rfl,hL,C⟩
 clear H;have H:=a8;clear a8 bv aU bw aT aq I aS;unfold fo at H;have bJ:=Hd H;have aZ:=Hd (fw (eT H5.2.2 aE qs) ah);have aW:=Hd (An n8 aV);have⟨r0,r1,r2,r3,r4,r5,r6,r7⟩:=n8.m8;have⟨DB,a6⟩:=eR (x4.heap.size);rw[a6]at aZ ⊢;clear H aE aV n8 f8 bx bO a6
 go_upto_region 13 with(first
  | (refine fG qr ?_;(with_reducible refine wp_load_mid 57 (.tmp 5) rfl DB 0 rfl (eO rt) (.array 32 5) aZ.out qk rfl (by rw[bK];kernel_rfl) ?_))
  | (go_at_call 22;(with_reducible refine bJ.out.mono ?_);rintro e x9 ⟨af,ic,KK,aj,M,V,Z,ac,rfl,be,bc⟩;have H9:=Hd (An be bc);clear be bc))
 have⟨y9,bC,bP,n9,f9⟩:=ir x9 #[.int .u8 122,.int .i64 1,.slice af 2 ic,.slice KK 2 aj,.slice M 1 V,.slice Z 0 ac] 64 x9.heap.size;rw[bC];have S:=Hd (An n9 (An (H9.1.fr0 f9) (An (aW.1.fr (H9.2.then f9) qs) (aW.2.then (H9.2.then f9)))));clear n9 bC f9 bP r0 r1 r2 r3 r4 r5 r6 r7;have HSS:=Hd (λ(W:World) (hW:Fr [] y9 W)=>(⟨(S.1.fr hW qs).c 0,(S.1.fr hW qs).c 1,(S.1.fr hW qs).c 4,(S.1.fr hW qs).c 5,(S.2.2.1.fr hW qs).c 7⟩:W.cell? ⟨x9.heap.size,0,none⟩=some (.int .u8 122)/\W.cell? ⟨x9.heap.size,1,none⟩=some (.int .i64 1)/\W.cell? ⟨x9.heap.size,4,none⟩=some (.slice M 1 V)/\W.cell? ⟨x9.heap.size,5,none⟩=some (.slice Z 0 ac)/\W.cell? ⟨x7.heap.size,7,none⟩=some (.slice g 2 pc)));have N:Fr [] y9 y9.drew:=(Fq _ y9).drew;refine eU (λW=>Fr [] y9 W) 40 qk ?_ qd
 show fc 0 ..
 iterate 29 (refine gJ rfl ?_;try simp only[qq])
 refine hO (i:=29) rfl λag O=>?_;go_simp
 go_at_call 35
 (with_reducible refine(ab.out 1 _).mono ?_);rintro e u1 ⟨rfl,bt⟩;have aF:=N.then bt;refine O _ _ aF ?_;clear O ag N bt
 try simp only[qq]
 have N:=aF
 show fc 30 ..
 refine gJ rfl ?_;try simp only[qq];refine hO (i:=31) rfl λag O=>?_;go_simp
 have⟨u2,av⟩:=eR (u1.alloc (.cells #[.int .i64 0,.int .i64 1,.int .i64 16,.string ⟨#[]⟩,.int .i64 1,.int .i64 0,.string ⟨#[]⟩] 98));have bD:BoxN u2 u1.heap.size 98 #[.int .i64 0,.int .i64 1,.int .i64 16,.string ⟨#[]⟩,.int .i64 1,.int .i64 0,.string ⟨#[]⟩]:=by rw[<-av];exact BoxN.new u1 _ _
 have ap:Fr [] y9 u2:=by rw[<-av];exact N.alloc _
 rw[av];refine O _ _ ap ?_;clear O ag N aF av
 try simp only[qq]
 refine hO (i:=32) rfl λag O=>?_;go_simp
 go_at_call 36
 (with_reducible refine(Cc M u1.heap.size V 1 ⟨0,1,jE 1⟩ u2 (S.out.2.1.fr0 ap) (Cs.of_box bD)).mono ?_);rintro e u3 ⟨rfl,bu⟩;have N:=ap.then bu;refine O _ _ N ?_;clear O ag bu ap bD
 try simp only[qq]
 show fc 33 ..
 iterate 7 (refine gJ rfl ?_;try simp only[qq])
 refine eV ⟨qk,?_⟩;simp only[qG,qH]
 go_wp2
 go_ret
 exact⟨rfl,S.2.2.2.then N⟩
open Go.RowKit Go.ChangeShapes Go.WideShapes Go.Deep Go.Joins
def qm{α:Type}(p:Nat->α->Prop):∀n,(∀i,i<n->∃x,p i x)->∃l:List α,l.length=n/\∀i x,l[i]?=some x->p i x
 | 0,_=>⟨[],rfl,λi x h=>by simp at h⟩
 | n+1,h=>by
  have⟨l,c,d⟩:=qm p n (λi b=>h i qo);have⟨x,e⟩:=h n qo;refine⟨l++[x],by simp[c],λi y a=>?_⟩
  rcases Nat.lt_or_ge i n with b|b
  ·rw[List.getElem?_append_left qo]at a
   exact d i y a
  ·rw[List.getElem?_append_right qo]at a
   have:i=n:=by
    have:=(gV.1 a).1;simp at this;omega
   subst this;rw[c,Nat.sub_self]at a;simp at a;subst a;exact e
section
variable {H:Type} {enc:TypeId × Value->H} {w:World} {fuel:Nat} {cs:List Value} {x:DataW H × List MemPlace}
def kz{n:Int}(h:(Lit.int .u8 n).wf=true):0<=n/\n<256:=by
 simp[Lit.wf,IntKind.min,IntKind.max,IntKind.bits,IntKind.signed]at h;omega
end
def qp : List (String × DataW Unit) := [("replevin/sha256.initial", Rows.laid_replevin_sha256_initial), ("replevin/sha256.constants", Rows.laid_replevin_sha256_constants), ("replevin/object.usages", Rows.laid_replevin_object_usages)]
def tq{W:World}(h:W.ShapedOpen prog):6<=W.heap.size:=by
 have⟨o,_,a,_⟩:=h.2 6 (of_decide_eq_true qk) (of_decide_eq_true qk);have:=(Array.getElem?_eq_some_iff.1 a).1;omega
def vt:Rows.laid_replevin_sha256_initial (H:=Unit)=Lib.tabData .u32 ivL:=rfl
def sK:Rows.laid_replevin_sha256_constants (H:=Unit)=Lib.tabData .u32 kcL:=rfl
def Ja(u:Usage):DataW Unit:=.agg [.lit (.string u.word),.lit (.bool u.owner),.lit (.bool u.number),.lit (.bool u.index),.lit (.bool u.text),.lit (.int .i64 u.most)]
def xu:Rows.laid_replevin_object_usages (H:=Unit)=.agg (usL.map Ja):=rfl
def xv{w:World}{fuel:Nat}{cs:List Value}{x:DataW Unit × List MemPlace}{u:Usage}(B:DataW.trod (λ_=>()) prog w 0 (λ_=>true) false fuel 216 cs=some x)(z:x.1=Ja u):cs=u.cells:=by
 obtain⟨xs,n,_,rfl,K,A,a⟩:=DataW.trod_struct underlying216 B;have L:cs.length=6:=K.trans qk
 match cs,L with
 | [c0,c1,c2,c3,c4,c5],_ =>
  have q:∀j,j<6->∃y,xs[j]?=some y:=λj J=>⟨_,gg (by rw[A];exact J)⟩;have⟨P,e0⟩:=q 0 qo;have⟨Q,b⟩:=q 1 qo;have⟨R,c⟩:=q 2 qo;have⟨S,d⟩:=q 3 qo;have⟨T,e⟩:=q 4 qo;have⟨U,f⟩:=q 5 qo;have O:prog.cellsOf 9=1:=qk
  have N:prog.cellsOf 4=1:=qk
  have M:prog.cellsOf 3=1:=qk
  have g:DataW.trod (λ_=>()) prog w 0 (λ_=>true) false n 9 (([c0,c1,c2,c3,c4,c5].drop 0).take (prog.cellsOf 9))=some P:=(a 0 _ rfl).trans e0;have h:DataW.trod (λ_=>()) prog w 0 (λ_=>true) false n 4 (([c0,c1,c2,c3,c4,c5].drop 1).take (prog.cellsOf 4))=some Q:=(a 1 _ rfl).trans b;have i:DataW.trod (λ_=>()) prog w 0 (λ_=>true) false n 4 (([c0,c1,c2,c3,c4,c5].drop 2).take (prog.cellsOf 4))=some R:=(a 2 _ rfl).trans c;have k:DataW.trod (λ_=>()) prog w 0 (λ_=>true) false n 4 (([c0,c1,c2,c3,c4,c5].drop 3).take (prog.cellsOf 4))=some S:=(a 3 _ rfl).trans d;have l:DataW.trod (λ_=>()) prog w 0 (λ_=>true) false n 4 (([c0,c1,c2,c3,c4,c5].drop 4).take (prog.cellsOf 4))=some T:=(a 4 _ rfl).trans e;have m:DataW.trod (λ_=>()) prog w 0 (λ_=>true) false n 3 (([c0,c1,c2,c3,c4,c5].drop 5).take (prog.cellsOf 3))=some U:=(a 5 _ rfl).trans f;rw[O]at g;rw[N]at h i k l;rw[M]at m;obtain⟨s0,o,rfl,_⟩:=DataW.trod_string underlying9 g;obtain⟨V,p,rfl⟩:=DataW.trod_bool underlying4 h;obtain⟨W,r,rfl⟩:=DataW.trod_bool underlying4 i;obtain⟨X,s,rfl⟩:=DataW.trod_bool underlying4 k;obtain⟨Y,t,rfl⟩:=DataW.trod_bool underlying4 l;obtain⟨Z,v,rfl,_⟩:=DataW.trod_int underlying3 m
  match xs,A with
  | [x0,x1,x2,x3,x4,x5],_ =>
   simp at e0 b c d e f;subst e0 b c d e f;simp[Ja]at z;obtain⟨C,D,E,F,G,I⟩:=z;simp at o p r s t v;subst o p r s t v;unfold Usage.cells;rw[<-C,<-D,<-E,<-F,<-G,<-I];rfl
def IQ{W:World}(l:W.ShapedOpen prog)(a:laidMetH prog qp W):Ok W:=by
 rw[MakeChecks.laidMetH_plain _ _ _ qk]at a;unfold qp at a;rw[vt,sK,xu]at a;have m:=Lib.tabIs_of_head (k:=.u32) (zs:=ivL) (g:=1) qk qk underlying162 underlying161 qk qk a;have o:=Lib.tabIs_of_head (k:=.u32) (zs:=kcL) (g:=2) qk qk underlying309 underlying161 qk qk a.tail;refine⟨tq l,λj c=>?_,λj c=>?_,λk A j v d=>?_⟩
 ·exact o.cell (g:=2) qk j (by rw[show kcL.length=64 from rfl];exact c)
 ·exact m.cell (g:=1) qk j (by rw[show ivL.length=8 from rfl];exact c)
 ·have⟨K,⟨F,t',cs,fuel,p,q,z,B,D,t,_,_⟩,_⟩:=a.tail.tail
  have f : prog.globalNamed "replevin/object.usages" = some 0 := by kernel_rfl
  have C:(prog.globals[0]?).map (·.type)=some 217:=qk
  obtain rfl:=Option.some.inj (f.symm.trans z);obtain rfl:=Option.some.inj (C.symm.trans B);have⟨xs,n,_,h,G,J,u⟩:=DataW.trod_array underlying217 t;simp only[Prod.mk.injEq,DataW.agg.injEq]at h;have r:prog.cellsOf 216=6:=qk
  have e:=u k A;rw[r]at e;obtain⟨y,i⟩:∃y,xs[k]?=some y:=⟨_,gg qo⟩;rw[i]at e
  have E:y.1=Ja (us k):=by
   have b:=congrArg (·[k]?) h.1;simp only[List.getElem?_map,i,Option.map_some]at b;have I:usL.length=21:=rfl;rw[gg qo]at b;simp only[Option.map_some,Option.some.injEq]at b;rw[<-b];unfold us;rw[getD_eq_getElem?_getD,gg qo];rfl
  have s:=xv e E
  have c:j<6:=by
   have:=(gV.1 d).1;simpa [Usage.cells]using this
  rw[World.var?_cell f D];rw[<-s]at d;rw[List.getElem?_take_of_lt qo,List.getElem?_drop]at d;simpa using d
end Go.Proofs.YtlpmiimgacfmkaaGreatDoor
