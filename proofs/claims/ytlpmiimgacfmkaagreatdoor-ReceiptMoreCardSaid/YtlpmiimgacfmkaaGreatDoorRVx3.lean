/- Part of the proof. -/
import Derived.LaidMore
import Derived.Stop.LaidErr
import Derived.Deep.DeepHandedRow
import Derived.Lib.SmallJoins
import Derived.Test.YtlpmiimgacfmkaaGreatDoorRVy6
import Derived.Test.YtlpmiimgacfmkaaGreatDoorRows
set_option linter.all false
set_option maxHeartbeats 4000000
set_option maxRecDepth 100000
namespace Go.Proofs.YtlpmiimgacfmkaaGreatDoor
open Go.Proofs.Tryz
open Go.RowKit Go.Shelf
theorem Am(y:LK):∃(f t a:Int) (c:ByteArray) (b e:Int) (d:ByteArray),y.cs=[.int .i64 f,.int .i64 t,.int .i64 a,.string c,.int .i64 b,.int .i64 e,.string d]:=⟨_,_,_,_,_,_,_,rfl⟩
theorem Cd(y:AG):∃(f t a:Int) (b:ByteArray),lo y=[.int .i64 f,.int .i64 t,.int .i64 a,.string b]:=⟨_,_,_,_,rfl⟩
theorem Ce(y:AG):(lo y).length=4:=rfl
def xC(i:Nat):List Value:=[.int .i64 (i:Int)]
theorem vK(i:Nat):(xC i).length=1:=rfl
theorem tc:∀xs:List Nat,jX xs=xs.flatMap xC
 | []=>rfl
 | a::r=>by
  have:=tc r;unfold jX at this ⊢;rw[List.map_cons,List.flatMap_cons,this];rfl
theorem Cf(i:Nat):∃f:Int,xC i=[.int .i64 f]:=⟨_,rfl⟩
theorem Ao(A B:Option Addr)(c d:Nat)(xs:List CH)(w:World)(t:Rd w 7 A xs.length (xs.flatMap CH.cs))(u:Rd w 7 B xs.length (xs.flatMap CH.cs))(R:xs.length<=1000000):
 Calls prog 71 #[.slice A xs.length c,.slice B xs.length d] w (fm w (.bool true)):=by
 obtain⟨n,y⟩:=eR (xs.length);rw[y]at t u R ⊢;have s:=Hd (An y (An t u));clear y t u
 go_enter func71,ntmps71
 go_upto_region 3 with fail
 go_wp2_with fail
 go_loopw [13] (λi W=>∃j:Nat,j<=n/\i=j/\Fr [] w W) (λi _=>n - (intOf i).toNat)
 case atStart=>exact⟨0,Nat.zero_le _,rfl,Fq _ _⟩
 case round =>
  obtain⟨j,T,rfl,m⟩:=hrel
  by_cases Q:j<n
  ·have U:(j:Int)<(n:Int):=qo
   have H:Row wr wr.heap.size 7 A n (xs.flatMap CH.cs):=by have q:=s.out.2.1.fr0 m;unfold Rd at q;exact q
   have I:Row wr wr.heap.size 7 B n (xs.flatMap CH.cs):=by have q:=s.out.2.2.fr0 m;unfold Rd at q;exact q
   obtain⟨a,k,rfl,O,C⟩:=fo ip H qo;obtain⟨b,l,rfl,P,D⟩:=fo ip I qo;obtain⟨x,v⟩:∃x,xs[j]?=some x:=⟨_,gx (by rw[s.out.1];exact Q)⟩;have e:=C j x v;have f:=D j x v;obtain⟨F,J,G,M,K,L,z,E⟩:=jH x;rw[E]at e f;have V:IntKind.i64.wrap (j:Int)=(j:Int):=by simp only[IntKind.wrap_i64];omega
   have HSS:=Hd (λ(W:World) (hW:Fr [] wr W)=>(show (W.cell? ⟨a,k+j*7,none⟩=some F/\W.cell? ⟨a,k+j*7+1,none⟩=some J/\W.cell? ⟨a,k+j*7+2,none⟩=some G/\W.cell? ⟨a,k+j*7+3,none⟩=some M/\W.cell? ⟨a,k+j*7+4,none⟩=some K/\W.cell? ⟨a,k+j*7+5,none⟩=some L/\W.cell? ⟨a,k+j*7+6,none⟩=some (.bool z))/\W.cell? ⟨b,l+j*7,none⟩=some F/\W.cell? ⟨b,l+j*7+1,none⟩=some J/\W.cell? ⟨b,l+j*7+2,none⟩=some G/\W.cell? ⟨b,l+j*7+3,none⟩=some M/\W.cell? ⟨b,l+j*7+4,none⟩=some K/\W.cell? ⟨b,l+j*7+5,none⟩=some L/\W.cell? ⟨b,l+j*7+6,none⟩=some (.bool z)from
    have g:∀o,W.cell? ⟨a,o,none⟩=wr.cell? ⟨a,o,none⟩:=λo=>hW.cell (p:=⟨a,o,none⟩) O qs;have h:∀o,W.cell? ⟨b,o,none⟩=wr.cell? ⟨b,o,none⟩:=λo=>hW.cell (p:=⟨b,o,none⟩) P qs
    ⟨⟨(g _).trans (e 0 qo),(g _).trans (e 1 qo),(g _).trans (e 2 qo),(g _).trans (e 3 qo),(g _).trans (e 4 qo),(g _).trans (e 5 qo),(g _).trans (e 6 qo)⟩,(h _).trans (f 0 qo),(h _).trans (f 1 qo),(h _).trans (f 2 qo),(h _).trans (f 3 qo),(h _).trans (f 4 qo),(h _).trans (f 5 qo),(h _).trans (f 6 qo)⟩))
   have r:=Hd m;clear e f H I C D v E m
   go_upto_region 6 with fail
   refine eY (λW=>Fr [] wr W) qk qk ((Fq _ wr).drew) ?_
   repeat(
    first
    | go_big_quiet_skip
    | (go_big_quiet_want;first|(go_big_quiet_op;go_big_quiet_on)|(apply Exists.intro;refine⟨λW hW=>?_,?_⟩;(· obtain⟨⟨X,Y,Z,x3,x4,x5,x6⟩,y0,y1,y2,y3,y4,y5,y6⟩:=HSS.out W hW;go_simp;first|done|with_reducible exact rfl|with_reducible exact⟨rfl,rfl⟩ );simp only[qq];go_big_quiet_on))
    )
   refine wpQuiet_nil ?_;intro W hW;have N:=Hd (r.out.then hW);clear hW
   go_wp2_with fail
   go_roundw
   case rel=>exact⟨j+1,qo,by go_num,N.out⟩
   case measure=>simp[intOf];omega
  ·have S:¬(j:Int)<(n:Int):=qo
   have r:=Hd m;clear m
   go_wp2_with fail
   go_ret
   exact⟨rfl,r.out⟩
theorem td(A B:Option Addr)(c d:Nat)(xs:List LK)(w:World)(v:Rd w 7 A xs.length (xs.flatMap LK.cs))(y:Rd w 7 B xs.length (xs.flatMap LK.cs))(R:xs.length<=1000000):
 Calls prog 36 #[.slice A xs.length c,.slice B xs.length d] w (fm w (.bool true)):=by
 obtain⟨n,C⟩:=eR (xs.length);rw[C]at v y R ⊢;have u:=Hd (An C (An v y));clear C v y
 go_enter func36,ntmps36
 go_upto_region 3 with fail
 go_wp2_with fail
 go_loopw [13] (λi W=>∃j:Nat,j<=n/\i=j/\Fr [] w W) (λi _=>n - (intOf i).toNat)
 case atStart=>exact⟨0,Nat.zero_le _,rfl,Fq _ _⟩
 case round =>
  obtain⟨j,T,rfl,q⟩:=hrel
  by_cases Q:j<n
  ·have U:(j:Int)<(n:Int):=qo
   have I:Row wr wr.heap.size 7 A n (xs.flatMap LK.cs):=by have r:=u.out.2.1.fr0 q;unfold Rd at r;exact r
   have J:Row wr wr.heap.size 7 B n (xs.flatMap LK.cs):=by have r:=u.out.2.2.fr0 q;unfold Rd at r;exact r
   obtain⟨a,l,rfl,O,D⟩:=fo wK I qo;obtain⟨b,m,rfl,P,E⟩:=fo wK J qo;obtain⟨x,z⟩:∃x,xs[j]?=some x:=⟨_,gx (by rw[u.out.1];exact Q)⟩;have e:=D j x z;have g:=E j x z;obtain⟨f,t,G,K,H,M,L,F⟩:=Am x;rw[F]at e g;have V:IntKind.i64.wrap (j:Int)=(j:Int):=by simp only[IntKind.wrap_i64];omega
   have HSS:=Hd (λ(W:World) (hW:Fr [] wr W)=>(show (W.cell? ⟨a,l+j*7,none⟩=some f/\W.cell? ⟨a,l+j*7+1,none⟩=some t/\W.cell? ⟨a,l+j*7+2,none⟩=some G/\W.cell? ⟨a,l+j*7+3,none⟩=some K/\W.cell? ⟨a,l+j*7+4,none⟩=some H/\W.cell? ⟨a,l+j*7+5,none⟩=some M/\W.cell? ⟨a,l+j*7+6,none⟩=some L)/\W.cell? ⟨b,m+j*7,none⟩=some f/\W.cell? ⟨b,m+j*7+1,none⟩=some t/\W.cell? ⟨b,m+j*7+2,none⟩=some G/\W.cell? ⟨b,m+j*7+3,none⟩=some K/\W.cell? ⟨b,m+j*7+4,none⟩=some H/\W.cell? ⟨b,m+j*7+5,none⟩=some M/\W.cell? ⟨b,m+j*7+6,none⟩=some L from
    have h:∀o,W.cell? ⟨a,o,none⟩=wr.cell? ⟨a,o,none⟩:=λo=>hW.cell (p:=⟨a,o,none⟩) O qs;have k:∀o,W.cell? ⟨b,o,none⟩=wr.cell? ⟨b,o,none⟩:=λo=>hW.cell (p:=⟨b,o,none⟩) P qs
    ⟨⟨(h _).trans (e 0 qo),(h _).trans (e 1 qo),(h _).trans (e 2 qo),(h _).trans (e 3 qo),(h _).trans (e 4 qo),(h _).trans (e 5 qo),(h _).trans (e 6 qo)⟩,(k _).trans (g 0 qo),(k _).trans (g 1 qo),(k _).trans (g 2 qo),(k _).trans (g 3 qo),(k _).trans (g 4 qo),(k _).trans (g 5 qo),(k _).trans (g 6 qo)⟩))
   have s:=Hd q;clear e g I J D E z F q
   go_upto_region 6 with fail
   refine eY (λW=>Fr [] wr W) qk qk ((Fq _ wr).drew) ?_
   repeat(
    first
    | go_big_quiet_skip
    | (go_big_quiet_want;first|(go_big_quiet_op;go_big_quiet_on)|(apply Exists.intro;refine⟨λW hW=>?_,?_⟩;(· obtain⟨⟨X,Y,Z,x3,x4,x5,x6⟩,y0,y1,y2,y3,y4,y5,y6⟩:=HSS.out W hW;go_simp;first|done|with_reducible exact rfl|with_reducible exact⟨rfl,rfl⟩ );simp only[qq];go_big_quiet_on))
    )
   refine wpQuiet_nil ?_;intro W hW;have N:=Hd (s.out.then hW);clear hW
   go_wp2_with fail
   go_roundw
   case rel=>exact⟨j+1,qo,by go_num,N.out⟩
   case measure=>simp[intOf];omega
  ·have S:¬(j:Int)<(n:Int):=qo
   have s:=Hd q;clear q
   go_wp2_with fail
   go_ret
   exact⟨rfl,s.out⟩
theorem Ap(A B:Option Addr)(c d:Nat)(xs:List AG)(w:World)(v:Rd w 4 A xs.length (xs.flatMap lo))(y:Rd w 4 B xs.length (xs.flatMap lo))(O:xs.length<=1000000):
 Calls prog 70 #[.slice A xs.length c,.slice B xs.length d] w (fm w (.bool true)):=by
 obtain⟨n,C⟩:=eR (xs.length);rw[C]at v y O ⊢;have u:=Hd (An C (An v y));clear C v y
 go_enter func70,ntmps70
 go_upto_region 3 with fail
 go_wp2_with fail
 go_loopw [13] (λi W=>∃j:Nat,j<=n/\i=j/\Fr [] w W) (λi _=>n - (intOf i).toNat)
 case atStart=>exact⟨0,Nat.zero_le _,rfl,Fq _ _⟩
 case round =>
  obtain⟨j,Q,rfl,e⟩:=hrel
  by_cases N:j<n
  ·have R:(j:Int)<(n:Int):=qo
   have H:Row wr wr.heap.size 4 A n (xs.flatMap lo):=by have k:=u.out.2.1.fr0 e;unfold Rd at k;exact k
   have I:Row wr wr.heap.size 4 B n (xs.flatMap lo):=by have k:=u.out.2.2.fr0 e;unfold Rd at k;exact k
   obtain⟨a,q,rfl,L,D⟩:=fo Ce H qo;obtain⟨b,r,rfl,M,E⟩:=fo Ce I qo;obtain⟨x,z⟩:∃x,xs[j]?=some x:=⟨_,gx (by rw[u.out.1];exact N)⟩;have g:=D j x z;have h:=E j x z;obtain⟨f,t,G,J,F⟩:=Cd x;rw[F]at g h;have S:IntKind.i64.wrap (j:Int)=(j:Int):=by simp only[IntKind.wrap_i64];omega
   have HSS:=Hd (λ(W:World) (hW:Fr [] wr W)=>(show (W.cell? ⟨a,q+j*4,none⟩=some f/\W.cell? ⟨a,q+j*4+1,none⟩=some t/\W.cell? ⟨a,q+j*4+2,none⟩=some G/\W.cell? ⟨a,q+j*4+3,none⟩=some J)/\W.cell? ⟨b,r+j*4,none⟩=some f/\W.cell? ⟨b,r+j*4+1,none⟩=some t/\W.cell? ⟨b,r+j*4+2,none⟩=some G/\W.cell? ⟨b,r+j*4+3,none⟩=some J from
    have l:∀o,W.cell? ⟨a,o,none⟩=wr.cell? ⟨a,o,none⟩:=λo=>hW.cell (p:=⟨a,o,none⟩) L qs;have m:∀o,W.cell? ⟨b,o,none⟩=wr.cell? ⟨b,o,none⟩:=λo=>hW.cell (p:=⟨b,o,none⟩) M qs
    ⟨⟨(l _).trans (g 0 qo),(l _).trans (g 1 qo),(l _).trans (g 2 qo),(l _).trans (g 3 qo)⟩,(m _).trans (h 0 qo),(m _).trans (h 1 qo),(m _).trans (h 2 qo),(m _).trans (h 3 qo)⟩))
   have s:=Hd e;clear g h H I D E z F e
   go_upto_region 6 with fail
   refine eY (λW=>Fr [] wr W) qk qk ((Fq _ wr).drew) ?_
   repeat(
    first
    | go_big_quiet_skip
    | (go_big_quiet_want;first|(go_big_quiet_op;go_big_quiet_on)|(apply Exists.intro;refine⟨λW hW=>?_,?_⟩;(· obtain⟨⟨T,U,V,X⟩,Y,Z,y2,y3⟩:=HSS.out W hW;go_simp;first|done|with_reducible exact rfl|with_reducible exact⟨rfl,rfl⟩ );simp only[qq];go_big_quiet_on))
    )
   refine wpQuiet_nil ?_;intro W hW;have K:=Hd (s.out.then hW);clear hW
   go_wp2_with fail
   go_roundw
   case rel=>exact⟨j+1,qo,by go_num,K.out⟩
   case measure=>simp[intOf];omega
  ·have P:¬(j:Int)<(n:Int):=qo
   have s:=Hd e;clear e
   go_wp2_with fail
   go_ret
   exact⟨rfl,s.out⟩
theorem Aq(A B:Option Addr)(c d:Nat)(xs:List Nat)(w:World)(l:Rd w 1 A xs.length (xs.flatMap xC))(m:Rd w 1 B xs.length (xs.flatMap xC))(J:xs.length<=1000000):
 Calls prog 69 #[.slice A xs.length c,.slice B xs.length d] w (fm w (.bool true)):=by
 obtain⟨n,r⟩:=eR (xs.length);rw[r]at l m J ⊢;have k:=Hd (An r (An l m));clear r l m
 go_enter func69,ntmps69
 go_upto_region 3 with fail
 go_wp2_with fail
 go_loopw [13] (λi W=>∃j:Nat,j<=n/\i=j/\Fr [] w W) (λi _=>n - (intOf i).toNat)
 case atStart=>exact⟨0,Nat.zero_le _,rfl,Fq _ _⟩
 case round =>
  obtain⟨j,N,rfl,a⟩:=hrel
  by_cases I:j<n
  ·have O:(j:Int)<(n:Int):=qo
   have z:Row wr wr.heap.size 1 A n (xs.flatMap xC):=by have h:=k.out.2.1.fr0 a;unfold Rd at h;exact h
   have C:Row wr wr.heap.size 1 B n (xs.flatMap xC):=by have h:=k.out.2.2.fr0 a;unfold Rd at h;exact h
   obtain⟨b,K,rfl,G,u⟩:=fo vK z qo;obtain⟨e,L,rfl,H,v⟩:=fo vK C qo;obtain⟨x,q⟩:∃x,xs[j]?=some x:=⟨_,gx (by rw[k.out.1];exact I)⟩;have s:=u j x q;have t:=v j x q;obtain⟨f,y⟩:=Cf x;rw[y]at s t;have P:IntKind.i64.wrap (j:Int)=(j:Int):=by simp only[IntKind.wrap_i64];omega
   have HSS:=Hd (λ(W:World) (hW:Fr [] wr W)=>(show (W.cell? ⟨b,K+j,none⟩=some f)/\W.cell? ⟨e,L+j,none⟩=some f from
    have E:∀o,W.cell? ⟨b,o,none⟩=wr.cell? ⟨b,o,none⟩:=λo=>hW.cell (p:=⟨b,o,none⟩) G qs;have F:∀o,W.cell? ⟨e,o,none⟩=wr.cell? ⟨e,o,none⟩:=λo=>hW.cell (p:=⟨e,o,none⟩) H qs
    ⟨(E _).trans (by simpa using s 0 qo),(F _).trans (by simpa using t 0 qo)⟩))
   have g:=Hd a;clear s t z C u v q y a
   go_upto_region 6 with fail
   refine eY (λW=>Fr [] wr W) qk qk ((Fq _ wr).drew) ?_
   repeat(
    first
    | go_big_quiet_skip
    | (go_big_quiet_want;first|(go_big_quiet_op;go_big_quiet_on)|(apply Exists.intro;refine⟨λW hW=>?_,?_⟩;(· obtain⟨Q,R⟩:=HSS.out W hW;go_simp;first|done|with_reducible exact rfl|with_reducible exact⟨rfl,rfl⟩ );simp only[qq];go_big_quiet_on))
    )
   refine wpQuiet_nil ?_;intro W hW;have D:=Hd (g.out.then hW);clear hW
   go_wp2_with fail
   go_roundw
   case rel=>exact⟨j+1,qo,by go_num,D.out⟩
   case measure=>simp[intOf];omega
  ·have M:¬(j:Int)<(n:Int):=qo
   have g:=Hd a;clear a
   go_wp2_with fail
   go_ret
   exact⟨rfl,g.out⟩
theorem EZ(w:World)(is:List Nat)(l:List AG)(b:UInt8)(s:LS)(v v':Value)(M:ConV w is l b s v)(N:ConV w is l b s v')(O:is.length<=1000000)(P:l.length<=1000000)(Q:s.lks.length<=1000000)(R:∀g,kP s.asm g->g.length<=1000000):Calls prog 24 #[v,v'] w (fm w (.bool true)):=by
 obtain⟨I,K,B,u,ic,ag,lc,D,g,rfl,m,V,Y,T,t⟩:=M.ex;obtain⟨z,A,C,x,af,ah,ai,E,aq,rfl,n,X,Z,U,ab⟩:=N.ex;obtain rfl:=DL t ab;have S:=R _ t;rw[tc]at m n;have d:=Hd (λ(W:World) (hW:Fr [] w W)=>An (Aq I z ic af is W (m.fr0 hW) (n.fr0 hW) O) (An (Ap K A ag ah l W (V.fr0 hW) (X.fr0 hW) P) (An (td B C lc ai s.lks W (Y.fr0 hW) (Z.fr0 hW) Q) (Ao u x D E g W (T.fr0 hW) (U.fr0 hW) S))));obtain⟨n1,o⟩:=eR (is.length);obtain⟨n2,p⟩:=eR (l.length);obtain⟨n3,q⟩:=eR (s.lks.length);obtain⟨n4,r⟩:=eR (g.length);obtain⟨J,aa⟩:∃v:Int,(b.toNat:Int)=v:=⟨_,rfl⟩;obtain⟨ov,ac⟩:∃v:Int,((is.getLastD 0:Nat):Int)=v:=⟨_,rfl⟩;rw[o,p,q,r]at d;rw[o,p,q,r,aa,ac];clear m V Y T t n X Z U ab M N O P Q R S o p q r aa ac;obtain⟨w1,ad,ap,F,L⟩:=il w #[.int .u8 J,.int .i64 ov,.slice I n1 ic,.slice K n2 ag,.slice B n3 lc,.slice u n4 D] 64 w.heap.size;obtain⟨w2,ae,ar,H,k⟩:=il w1 #[.int .u8 J,.int .i64 ov,.slice z n1 af,.slice A n2 ah,.slice C n3 ai,.slice x n4 E] 64 (w.heap.size+1);have G:=F.fr k qs;have f:=Hd (L.then k);have y:=Hd (An ad ae);have a:=Hd (λ(W:World) (hW:Fr [] w2 W)=>An (G.fr hW qs) (H.fr hW qs));clear ad ae L k F G H
 go_enter func24,ntmps24
 go_upto_region 1 with fail
 rw[y.out.1,y.out.2]
 try rw[ap]
 have an:=(a.out w2 (Fq _ _)).1;have ao:=(a.out w2 (Fq _ _)).2;obtain⟨p0,p1,p2,p3⟩:=an.m4;obtain⟨q0,q1,q2,q3⟩:=ao.m4
 go_wp2_with (first
  | (go_at_call 69;(with_reducible refine(d.out _ f.out).1.mono ?_);rintro e w3 ⟨rfl,aj⟩;have h:=Hd aj;have p3:=(a.out w3 h.out).1.c 3;have q3:=(a.out w3 h.out).2.c 3)
  | (go_at_call 70;(with_reducible refine(d.out _ (f.out.then h.out)).2.1.mono ?_);rintro e w4 ⟨rfl,ak⟩;have i:=Hd (h.out.then ak);have p4:=(a.out w4 i.out).1.c 4;have q4:=(a.out w4 i.out).2.c 4)
  | (go_at_call 36;(with_reducible refine(d.out _ (f.out.then i.out)).2.2.1.mono ?_);rintro e w5 ⟨rfl,al⟩;have j:=Hd (i.out.then al);have p5:=(a.out w5 j.out).1.c 5;have q5:=(a.out w5 j.out).2.c 5)
  | (go_at_call 71;(with_reducible refine(d.out _ (f.out.then j.out)).2.2.2.mono ?_);rintro e w6 ⟨rfl,am⟩;have H6:=Hd (j.out.then am)))
 go_ret
 exact⟨rfl,f.out.then H6.out⟩
open Go.RowKit Go.ChangeShapes Go.WideShapes Go.Deep Go.Joins
theorem pW{α:Type}(p:Nat->α->Prop):∀n,(∀i,i<n->∃x,p i x)->∃l:List α,l.length=n/\∀i x,l[i]?=some x->p i x
 | 0,_=>⟨[],rfl,λi x h=>by simp at h⟩
 | n+1,h=>by
  obtain⟨l,c,d⟩:=pW p n (λi b=>h i qo);obtain⟨x,e⟩:=h n qo;refine⟨l++[x],by simp[c],λi y a=>?_⟩
  rcases Nat.lt_or_ge i n with b|b
  ·rw[List.getElem?_append_left qo]at a
   exact d i y a
  ·rw[List.getElem?_append_right qo]at a
   have:i=n:=by
    have:=(i9.1 a).1;simp at this;omega
   subst this;rw[c,Nat.sub_self]at a;simp at a;subst a;exact e
section
variable {H:Type} {enc:TypeId × Value->H} {w:World} {fuel:Nat} {cs:List Value} {x:DataW H × List MemPlace}
theorem mJ{n:Int}(h:(Lit.int .u8 n).wf=true):0<=n/\n<256:=by
 simp[Lit.wf,IntKind.min,IntKind.max,IntKind.bits,IntKind.signed]at h;omega
end
def pX : List (String × DataW Unit) := [("replevin/sha256.initial", Rows.laid_replevin_sha256_initial), ("replevin/sha256.constants", Rows.laid_replevin_sha256_constants), ("replevin/object.usages", Rows.laid_replevin_object_usages)]
theorem sz{W:World}(h:W.ShapedOpen prog):6<=W.heap.size:=by
 obtain⟨o,_,a,_⟩:=h.2 6 (of_decide_eq_true qk) (of_decide_eq_true qk);have:=(Array.getElem?_eq_some_iff.1 a).1;omega
theorem ul:Rows.laid_replevin_sha256_initial (H:=Unit)=Lib.tabData .u32 ivL:=rfl
theorem rK:Rows.laid_replevin_sha256_constants (H:=Unit)=Lib.tabData .u32 kcL:=rfl
def Ga(u:Usage):DataW Unit:=.agg [.lit (.string u.word),.lit (.bool u.owner),.lit (.bool u.number),.lit (.bool u.index),.lit (.bool u.text),.lit (.int .i64 u.most)]
theorem vL:Rows.laid_replevin_object_usages (H:=Unit)=.agg (usL.map Ga):=rfl
theorem vM{w:World}{fuel:Nat}{cs:List Value}{x:DataW Unit × List MemPlace}{u:Usage}(B:DataW.trod (λ_=>()) prog w 0 (λ_=>true) false fuel 216 cs=some x)(z:x.1=Ga u):cs=u.cells:=by
 obtain⟨xs,n,_,rfl,K,A,a⟩:=DataW.trod_struct underlying216 B;have L:cs.length=6:=K.trans qk
 match cs,L with
 | [c0,c1,c2,c3,c4,c5],_ =>
  have q:∀j,j<6->∃y,xs[j]?=some y:=λj J=>⟨_,gx (by rw[A];exact J)⟩;obtain⟨P,e0⟩:=q 0 qo;obtain⟨Q,b⟩:=q 1 qo;obtain⟨R,c⟩:=q 2 qo;obtain⟨S,d⟩:=q 3 qo;obtain⟨T,e⟩:=q 4 qo;obtain⟨U,f⟩:=q 5 qo;have O:prog.cellsOf 9=1:=qk
  have N:prog.cellsOf 4=1:=qk
  have M:prog.cellsOf 3=1:=qk
  have g:DataW.trod (λ_=>()) prog w 0 (λ_=>true) false n 9 (([c0,c1,c2,c3,c4,c5].drop 0).take (prog.cellsOf 9))=some P:=(a 0 _ rfl).trans e0;have h:DataW.trod (λ_=>()) prog w 0 (λ_=>true) false n 4 (([c0,c1,c2,c3,c4,c5].drop 1).take (prog.cellsOf 4))=some Q:=(a 1 _ rfl).trans b;have i:DataW.trod (λ_=>()) prog w 0 (λ_=>true) false n 4 (([c0,c1,c2,c3,c4,c5].drop 2).take (prog.cellsOf 4))=some R:=(a 2 _ rfl).trans c;have k:DataW.trod (λ_=>()) prog w 0 (λ_=>true) false n 4 (([c0,c1,c2,c3,c4,c5].drop 3).take (prog.cellsOf 4))=some S:=(a 3 _ rfl).trans d;have l:DataW.trod (λ_=>()) prog w 0 (λ_=>true) false n 4 (([c0,c1,c2,c3,c4,c5].drop 4).take (prog.cellsOf 4))=some T:=(a 4 _ rfl).trans e;have m:DataW.trod (λ_=>()) prog w 0 (λ_=>true) false n 3 (([c0,c1,c2,c3,c4,c5].drop 5).take (prog.cellsOf 3))=some U:=(a 5 _ rfl).trans f;rw[O]at g;rw[N]at h i k l;rw[M]at m;obtain⟨s0,o,rfl,_⟩:=DataW.trod_string underlying9 g;obtain⟨V,p,rfl⟩:=DataW.trod_bool underlying4 h;obtain⟨W,r,rfl⟩:=DataW.trod_bool underlying4 i;obtain⟨X,s,rfl⟩:=DataW.trod_bool underlying4 k;obtain⟨Y,t,rfl⟩:=DataW.trod_bool underlying4 l;obtain⟨Z,v,rfl,_⟩:=DataW.trod_int underlying3 m
  match xs,A with
  | [x0,x1,x2,x3,x4,x5],_ =>
   simp at e0 b c d e f;subst e0 b c d e f;simp[Ga]at z;obtain⟨C,D,E,F,G,I⟩:=z;simp at o p r s t v;subst o p r s t v;unfold Usage.cells;rw[<-C,<-D,<-E,<-F,<-G,<-I];rfl
theorem FO{W:World}(l:W.ShapedOpen prog)(a:laidMetH prog pX W):Ok W:=by
 rw[MakeChecks.laidMetH_plain _ _ _ qk]at a;unfold pX at a;rw[ul,rK,vL]at a;have m:=Lib.tabIs_of_head (k:=.u32) (zs:=ivL) (g:=1) qk qk underlying162 underlying161 qk qk a;have o:=Lib.tabIs_of_head (k:=.u32) (zs:=kcL) (g:=2) qk qk underlying309 underlying161 qk qk a.tail;refine⟨sz l,λj c=>?_,λj c=>?_,λk A j v d=>?_⟩
 ·exact o.cell (g:=2) qk j (by rw[show kcL.length=64 from rfl];exact c)
 ·exact m.cell (g:=1) qk j (by rw[show ivL.length=8 from rfl];exact c)
 ·obtain⟨K,⟨F,t',cs,fuel,p,q,z,B,D,t,_,_⟩,_⟩:=a.tail.tail
  have f : prog.globalNamed "replevin/object.usages" = some 0 := by kernel_rfl
  have C:(prog.globals[0]?).map (·.type)=some 217:=qk
  obtain rfl:=Option.some.inj (f.symm.trans z);obtain rfl:=Option.some.inj (C.symm.trans B);obtain⟨xs,n,_,h,G,J,u⟩:=DataW.trod_array underlying217 t;simp only[Prod.mk.injEq,DataW.agg.injEq]at h;have r:prog.cellsOf 216=6:=qk
  have e:=u k A;rw[r]at e;obtain⟨y,i⟩:∃y,xs[k]?=some y:=⟨_,gx qo⟩;rw[i]at e
  have E:y.1=Ga (us k):=by
   have b:=congrArg (·[k]?) h.1;simp only[List.getElem?_map,i,Option.map_some]at b;have I:usL.length=21:=rfl;rw[gx qo]at b;simp only[Option.map_some,Option.some.injEq]at b;rw[<-b];unfold us;rw[List.getD_eq_getElem?_getD,gx qo];rfl
  have s:=vM e E
  have c:j<6:=by
   have:=(i9.1 d).1;simpa [Usage.cells]using this
  rw[World.var?_cell f D];rw[<-s]at d;rw[List.getElem?_take_of_lt qo,List.getElem?_drop]at d;simpa using d
theorem Row.of_add{w:World}{a:Addr}{n c:Nat}{xs:List Value}(e:xs.length=n*c)(i:0<c)(h:∀j u,xs[j]?=some u->w.cell? (a.add j)=some u):Row w w.heap.size c (some a) n xs:=by
 refine⟨e,λf=>?_⟩;have g:0<xs.length:=by rw[e];exact Nat.mul_pos f i
 obtain⟨b,off,m⟩:=a;have d:=h 0 xs[0] (gx g);have k:m=none:=by simpa [Addr.add]using World.cell?_spot d
 subst k;refine⟨b,off,rfl,?_,λj u l=>?_⟩
 ·have:=World.block_lt_of_cell? _ _ d
  simpa [Addr.add]using this
 ·have:=h j u l
  rwa [Go.WideShapes.add_plain]at this
theorem xD{α:Type}{f:α->List Value}{m:Nat}(b:∀x,(f x).length=m)(c:0<m){w:World}{a:Addr}{l:List α}(h:∀(k:Nat) (t:α),l[k]?=some t->∀(r:Nat) (u:Value),(f t)[r]?=some u->w.cell? (a.add (k*m+r))=some u):
 ∀j u,(l.flatMap f)[j]?=some u->w.cell? (a.add j)=some u:=by
 intro j u p;have s:=lZ b l;have g:=(i9.1 p).1;rw[s]at g;have q:j / m<l.length:=(Nat.div_lt_iff_lt_mul c).2 g;have i:=gx q;have v:j % m<m:=Nat.mod_lt _ c;have e:j / m*m+j % m=j:=by rw[Nat.mul_comm];exact Nat.div_add_mod j m
 have d:(l.flatMap f)[j / m*m+j % m]?=(f l[j / m])[j % m]?:=by
  have:∀(xs:List α) (j:Nat) (x:α) (o:Nat),o<m->xs[j]?=some x->(xs.flatMap f)[j*m+o]?=(f x)[o]?:=by
   intro xs
   induction xs with
   | nil=>intro j x o _ h;simp at h
   | cons y r z =>
    intro j x o n h
    cases j with
    | zero=>simp at h;subst h;rw[List.flatMap_cons,Nat.zero_mul,Nat.zero_add,List.getElem?_append_left (by rw[b];exact n)]
    | succ j=>rw[List.flatMap_cons,List.getElem?_append_right (by rw[b,Nat.add_mul];omega),b,show (j+1)*m+o - m=j*m+o by rw[Nat.add_mul];omega];exact z j x o n (by simpa using h)
  exact this l _ _ _ v i
 rw[e,p]at d;have:=h _ _ i _ _ d.symm
 rwa [e]at this
section
variable {H:Type} {enc:TypeId × Value->H} {w:World} {fuel:Nat} {cs:List Value} {x:DataW H × List MemPlace}
def Fits(t:TypeId)(d:DataW H):Prop:=∀k∈d.weights prog t,k<=reachBytes
theorem mf{e:TypeId}{d:DataW H}:∀ {l:List (DataW H)},d∈l->∀k∈d.weights prog e,k∈DataW.weightsAll prog e l
 | a::l,h,k,b=>by
  simp only[DataW.weightsAll,List.mem_append]
  rcases List.mem_cons.1 h with rfl|h
  ·exact .inl b
  ·exact .inr (mf h k b)
theorem Fits.slice{t e:TypeId}{a b:List (DataW H)}(c:prog.underlying t=some (.slice e))(h:Fits t (.slice a b)):(a.length+b.length)*prog.bytesOf e<=reachBytes :=
 h _ (by simp[DataW.weights,c])
theorem Fits.elem{t e:TypeId}{a g:List (DataW H)}(f:prog.underlying t=some (.slice e))(h:Fits t (.slice a g)){d:DataW H}(b:d∈a):Fits e d :=
 λk c=>h k (by
  simp only[DataW.weights,f,List.mem_cons,List.mem_append];exact .inr (.inl (mf b k c)))
theorem Fits.field{t:TypeId}{a:Array Field}{b:List (DataW H)}{j:Nat}{f:Field}{d:DataW H}(i:prog.underlying t=some (.struct a))(h:Fits t (.agg b))(e:a[j]?=some f)(c:b[j]?=some d):Fits f.type d :=
 λk g=>h k (by
  simp only[DataW.weights,i];exact DataW.weights_mem_each (t:=f.type) (by rw[List.getElem?_map,Array.getElem?_toList,e];rfl) c k g)
theorem Fits.str{t:TypeId}{s:Nm}(h:Fits (H:=H) t (.lit (.string s))):s.length<=140737488355328:=by
 have:=h s.length (by simp[DataW.weights]);unfold reachBytes at this;omega
theorem rL{α:Type}{f:α->List Value}{m:Nat}{P:α->Prop}{t e:TypeId}(p:∀x,(f x).length=m)(s:0<m)(b:prog.underlying t=some (.slice e))(J:prog.cellsOf e=m)(I:0<prog.bytesOf e)
 (L:∀(n:Nat) (cs':List Value) (y:DataW H × List MemPlace),Fits e y.1->DataW.trod enc prog w 0 (λ_=>true) true n e cs'=some y->∃z,cs'=f z/\P z)
 (D:Fits t x.1) (F:DataW.trod enc prog w 0 (λ_=>true) true fuel t cs=some x) :
 ∃A c,∃l:List α,cs=[.slice A l.length c]/\Rd w m A l.length (l.flatMap f)/\l.length<=140737488355328/\l.length<=c/\∀z∈l,P z:=by
 rcases open_slice b F with⟨h,_⟩|⟨a,g,q,E,n,T,U,h,_,N,_,B,rfl,v⟩
 ·exact⟨none,0,[],h,Row.nil_,qs,qs,λz d=>by simp at d⟩
 ·replace B:E=q:=by simpa using B
  have R:=D.slice b;simp only[List.length_map,List.length_range,reachBytes]at R;rw[J]at v
  obtain⟨l,o,C⟩:=pW (λi (z:α)=>P z/\∀(r:Nat) (u:Value),(f z)[r]?=some u->w.cell? (a.add (i*m+r))=some u) g (λi j=>by
   obtain⟨cs',K,S⟩:=v i qo;obtain⟨z,rfl,d⟩:=L n cs' _ (D.elem b (List.mem_map.2 ⟨i,List.mem_range.2 j,rfl⟩)) S;obtain⟨_,V,G⟩:=World.cells?_some K;refine⟨z,d,λr u b=>?_⟩;have Q:r<m:=by rw[<-p z];exact(i9.1 b).1
   rw[<-Go.Deep.add_add,G r Q,b])
  have O:(l.flatMap f).length=l.length*m:=lZ p l;have W:g*1<=(g+(E - g))*prog.bytesOf e:=Nat.mul_le_mul qo I;refine⟨some a,q,l,by rw[h,o],Row.of_add O s (xD p s λk t M=>(C k t M).2),by rw[o];omega,by rw[o];exact N,λz d=>?_⟩;obtain⟨i,j⟩:=List.mem_iff_getElem?.1 d;exact(C i z j).1
theorem FP(p:Fits 31 x.1)(B:DataW.trod enc prog w 0 (λ_=>true) true fuel 31 cs=some x):∃n:ON,cs=n.cs/\n.owner.length<=140737488355328/\n.text.length<=140737488355328:=by
 obtain⟨xs,n,_,rfl,D,F,a⟩:=DataW.trod_struct underlying31 B;have E:cs.length=5:=D.trans qk
 match cs,E with
 | [c0,c1,c2,c3,c4],_ =>
  have q:∀j,j<5->∃y,xs[j]?=some y:=λj C=>⟨_,gx (by rw[F];exact C)⟩;obtain⟨O,e0⟩:=q 0 qo;obtain⟨r,b⟩:=q 1 qo;obtain⟨P,z⟩:=q 2 qo;obtain⟨Q,A⟩:=q 3 qo;obtain⟨s,c⟩:=q 4 qo;have I:prog.cellsOf 3=1:=qk
  have G:prog.cellsOf 29=1:=qk
  have J:prog.cellsOf 9=1:=qk
  have d:DataW.trod enc prog w 0 (λ_=>true) true n 3 (([c0,c1,c2,c3,c4].drop 0).take (prog.cellsOf 3))=some O:=(a 0 _ rfl).trans e0;have e:DataW.trod enc prog w 0 (λ_=>true) true n 29 (([c0,c1,c2,c3,c4].drop 1).take (prog.cellsOf 29))=some r:=(a 1 _ rfl).trans b;have f:DataW.trod enc prog w 0 (λ_=>true) true n 3 (([c0,c1,c2,c3,c4].drop 2).take (prog.cellsOf 3))=some P:=(a 2 _ rfl).trans z;have g:DataW.trod enc prog w 0 (λ_=>true) true n 3 (([c0,c1,c2,c3,c4].drop 3).take (prog.cellsOf 3))=some Q:=(a 3 _ rfl).trans A;have h:DataW.trod enc prog w 0 (λ_=>true) true n 9 (([c0,c1,c2,c3,c4].drop 4).take (prog.cellsOf 9))=some s:=(a 4 _ rfl).trans c;rw[I]at d f g;rw[G]at e;rw[J]at h;have M:Fits 29 r.1:=p.field (j:=1) underlying31 rfl (by rw[List.getElem?_map,b];rfl);have N:Fits 9 s.1:=p.field (j:=4) underlying31 rfl (by rw[List.getElem?_map,c];rfl);obtain⟨t,i,_,_⟩:=DataW.trod_int underlying3 d;obtain⟨K,k,rfl,_⟩:=DataW.trod_string underlying29 e;obtain⟨u,l,_,_⟩:=DataW.trod_int underlying3 f;obtain⟨v,m,_,_⟩:=DataW.trod_int underlying3 g;obtain⟨L,o,rfl,_⟩:=DataW.trod_string underlying9 h;simp at i k l m o;subst i k l m o;exact⟨⟨t,K.data.toList,u,v,L.data.toList⟩,rfl,M.str,N.str⟩
theorem Eu(k:Fits 95 x.1)(s:DataW.trod enc prog w 0 (λ_=>true) true fuel 95 cs=some x):∃c:CH,cs=c.cs/\c.fit:=by
 obtain⟨xs,n,_,rfl,u,z,a⟩:=DataW.trod_struct underlying95 s;have v:cs.length=7:=u.trans qk
 match cs,v with
 | [c0,c1,c2,c3,c4,c5,c6],_ =>
  have q:∀j,j<3->∃y,xs[j]?=some y:=λj t=>⟨_,gx (by rw[z];exact t)⟩;obtain⟨l,e0⟩:=q 0 qo;obtain⟨o,b⟩:=q 1 qo;obtain⟨I,r⟩:=q 2 qo;have B:prog.cellsOf 31=5:=qk
  have C:prog.cellsOf 9=1:=qk
  have A:prog.cellsOf 4=1:=qk
  have d:DataW.trod enc prog w 0 (λ_=>true) true n 31 (([c0,c1,c2,c3,c4,c5,c6].drop 0).take (prog.cellsOf 31))=some l:=(a 0 _ rfl).trans e0;have e:DataW.trod enc prog w 0 (λ_=>true) true n 9 (([c0,c1,c2,c3,c4,c5,c6].drop 5).take (prog.cellsOf 9))=some o:=(a 1 _ rfl).trans b;have f:DataW.trod enc prog w 0 (λ_=>true) true n 4 (([c0,c1,c2,c3,c4,c5,c6].drop 6).take (prog.cellsOf 4))=some I:=(a 2 _ rfl).trans r;rw[B]at d;rw[C]at e;rw[A]at f;have F:Fits 31 l.1:=k.field (j:=0) underlying95 rfl (by rw[List.getElem?_map,e0];rfl);have G:Fits 9 o.1:=k.field (j:=1) underlying95 rfl (by rw[List.getElem?_map,b];rfl);obtain⟨m,g,D,l2⟩:=FP F d;obtain⟨E,h,rfl,_⟩:=DataW.trod_string underlying9 e;obtain⟨p,i,rfl⟩:=DataW.trod_bool underlying4 f;simp[ON.cs]at g h i;obtain⟨rfl,rfl,rfl,rfl,rfl⟩:=g;subst h i;exact⟨⟨m,E.data.toList,p⟩,rfl,D,l2,G.str⟩
structure AIn(w:World)(x:AX):Prop where
 s:ft x.a.k.lin=.string x.sl
 r:Chs w x.A x.a.r
 w:Chs w x.B x.a.w
 lin:x.a.k.lin.length<=140737488355328
 rf:∀c∈x.a.r,c.fit
 wf:∀c∈x.a.w,c.fit
 rl:x.a.r.length<=140737488355328
 wl:x.a.w.length<=140737488355328
theorem AIn.fr0{w w':World}{x:AX}(h:AIn w x)(a:Fr [] w w'):AIn w' x:=⟨h.s,h.r.fr0 a,h.w.fr0 a,h.lin,h.rf,h.wf,h.rl,h.wl⟩
theorem AIn.fit{w:World}{x:AX}(h:AIn w x)(b:x.a.r.length<=10)(c:x.a.w.length<=10):x.a.fit:=⟨h.lin,h.rf,h.wf,qo,qo⟩
theorem E0(a:Fits 91 x.1)(h:DataW.trod enc prog w 0 (λ_=>true) true fuel 91 cs=some x):∃z:AX,cs=z.cs/\AIn w z:=by
 obtain⟨xs,n,_,rfl,X,ae,f⟩:=DataW.trod_struct underlying91 h;have Y:cs.length=6:=X.trans qk
 match cs,Y with
 | [c0,c1,c2,c3,c4,c5],_ =>
  have q:∀j,j<3->∃y,xs[j]?=some y:=λj g=>⟨_,gx (by rw[ae];exact g)⟩;obtain⟨L,e0⟩:=q 0 qo;obtain⟨M,i⟩:=q 1 qo;obtain⟨N,k⟩:=q 2 qo;have k4:prog.cellsOf 89=4:=qk
  have k1:prog.cellsOf 62=1:=qk
  have l:DataW.trod enc prog w 0 (λ_=>true) true n 89 (([c0,c1,c2,c3,c4,c5].drop 0).take (prog.cellsOf 89))=some L:=(f 0 _ rfl).trans e0;have m:DataW.trod enc prog w 0 (λ_=>true) true n 62 (([c0,c1,c2,c3,c4,c5].drop 4).take (prog.cellsOf 62))=some M:=(f 1 _ rfl).trans i;have o:DataW.trod enc prog w 0 (λ_=>true) true n 62 (([c0,c1,c2,c3,c4,c5].drop 5).take (prog.cellsOf 62))=some N:=(f 2 _ rfl).trans k;rw[k4]at l;rw[k1]at m o;have w0:Fits 89 L.1:=a.field (j:=0) underlying91 rfl (by rw[List.getElem?_map,e0];rfl);have w1:Fits 62 M.1:=a.field (j:=1) underlying91 rfl (by rw[List.getElem?_map,i];rfl);have w2:Fits 62 N.1:=a.field (j:=2) underlying91 rfl (by rw[List.getElem?_map,k];rfl);obtain⟨ks,e,_,rfl,ai,ag,b⟩:=DataW.trod_struct underlying89 l;have p:∀j,j<4->∃y,ks[j]?=some y:=λj g=>⟨_,gx (by rw[ag];exact g)⟩;obtain⟨ah,U⟩:=p 0 qo;obtain⟨z1,V⟩:=p 1 qo;obtain⟨z2,W⟩:=p 2 qo;obtain⟨O,E⟩:=p 3 qo;have j3:prog.cellsOf 3=1:=qk
  have af:prog.cellsOf 29=1:=qk
  have G:DataW.trod enc prog w 0 (λ_=>true) true e 3 (([c0,c1,c2,c3].drop 0).take (prog.cellsOf 3))=some ah:=(b 0 _ rfl).trans U;have I:DataW.trod enc prog w 0 (λ_=>true) true e 3 (([c0,c1,c2,c3].drop 1).take (prog.cellsOf 3))=some z1:=(b 1 _ rfl).trans V;have J:DataW.trod enc prog w 0 (λ_=>true) true e 3 (([c0,c1,c2,c3].drop 2).take (prog.cellsOf 3))=some z2:=(b 2 _ rfl).trans W;have K:DataW.trod enc prog w 0 (λ_=>true) true e 29 (([c0,c1,c2,c3].drop 3).take (prog.cellsOf 29))=some O:=(b 3 _ rfl).trans E;rw[j3]at G I J;rw[af]at K;have v3:Fits 29 O.1:=w0.field (j:=3) underlying89 rfl (by rw[List.getElem?_map,E];rfl);obtain⟨R,s,_,_⟩:=DataW.trod_int underlying3 G;obtain⟨S,t,_,_⟩:=DataW.trod_int underlying3 I;obtain⟨T,u,_,_⟩:=DataW.trod_int underlying3 J;obtain⟨F,A,rfl,_⟩:=DataW.trod_string underlying29 K;obtain⟨Q,c,r,C,Z,ab,_,aa⟩:=rL (P:=CH.fit) ip qo underlying62 qk (of_decide_eq_true qk) (λ_ _ _ a h=>Eu a h) w1 m;obtain⟨B,d,v,D,hv,ad,_,ac⟩:=rL (P:=CH.fit) ip qo underlying62 qk (of_decide_eq_true qk) (λ_ _ _ a h=>Eu a h) w2 o;simp at s t u A C D;subst s t u A C D;exact⟨⟨⟨⟨R,S,T,F.data.toList⟩,r,v⟩,F,Q,c,B,d⟩,rfl,rfl,Z,hv,v3.str,aa,ac,ab,ad⟩
structure AIns(w:World)(A:Option Addr)(l:List AX):Prop where
 row:Rd w 6 A l.length (l.flatMap AX.cs)
 each:∀z∈l,AIn w z
 len:l.length<=140737488355328
theorem AIns.fr0{w w':World}{A:Option Addr}{l:List AX}(h:AIns w A l)(a:Fr [] w w'):AIns w' A l:=⟨h.row.fr0 a,λz b=>(h.each z b).fr0 a,h.len⟩
theorem DG{r:Reach}{e:Nat}{v:Value}{d:DataW H}{p:List MemPlace}(m:Value.okWide prog w r e 22 v)(b:Fits 22 d)(h:DataW.Trod enc prog w 0 (λ_=>true) true 22 v d p):∃A c l,v=.slice A l.length c/\AIns w A l:=by
 obtain⟨fuel,f⟩:=h;obtain⟨a,o,n,rfl⟩:=okWide_slice underlying22 m;obtain⟨A,c,l,g,k,i,_,j⟩:=rL (x:=(d,p)) (P:=AIn w) jV qo underlying22 qk (of_decide_eq_true qk) (λ_ _ _ b h=>E0 b h) b f;refine⟨A,c,l,?_,k,j,i⟩;simp[Value.cells]at g;obtain⟨rfl,rfl,rfl⟩:=g;rfl
end
open Go.RowKit
def Ar(w:World)(e:Ending)(w':World):Prop:=∃b xs M,e=.returned (.tuple #[.pointer (some ⟨b,0,none⟩),.bool true])/\HG w' b xs M/\Fr [] w w'/\∀k∈M,w.heap.size<=k
theorem DH(L:Option Addr)(c:Nat)(l:List AX)(w:World)(am:Ok w)(h:AIns w L l):Calls prog 10 #[.slice L l.length c] w (Ar w):=by
 obtain⟨n,ad⟩:=eR (l.length);have u:=Hd (An ad h);have O:=Hd am;rw[ad]
 go_enter func10,ntmps10
 go_upto_region 2 with(first
  | (go_at_call 33;(with_reducible refine(uR w).mono ?_);rintro e w1 ⟨rfl,an,ah⟩;have t:=Hd (An an ah))
  | (go_at_call 32;(with_reducible refine(Eo w.heap.size w1 (O.out.fr0 t.out.2) t.out.1).mono ?_);rintro e w2 ⟨b,M0,rfl,U,ai,af⟩;have N:=Hd (An U (An (t.out.2.then ai) (show ∀k∈M0,w.heap.size<=k from λk g=>Nat.le_trans t.out.2.size (af k g))))))
 go_wp2_with fail
 go_loopw [6] (λi W=>∃(j:Nat) (xs:List AX) (M:List Nat),j<=n/\j<=12/\i=j/\HG W b xs M/\xs.length<=j/\Fr [] w W/\∀k∈M,w.heap.size<=k) (λi _=>12 - (intOf i).toNat)
 case atStart=>exact⟨0,[],M0,Nat.zero_le _,Nat.zero_le _,rfl,N.out.1,qs,N.out.2.1,N.out.2.2⟩
 case round =>
  obtain⟨j,xs,M,hj,aq,rfl,U,ak,aj,hM⟩:=hrel;have f:=Hd (An U (An ak (An aj hM)))
  by_cases V:j<n/\j<12
  ·obtain⟨V,au⟩:=V
   have al:(j:Int)<(n:Int):=qo
   have av:(j:Int)<12:=qo
   have S:=u.out.2.fr0 f.out.2.2.1;have Z:Row wr wr.heap.size 6 L n (l.flatMap AX.cs):=by have h:=S.row;unfold Rd at h;rw[u.out.1]at h;exact h
   obtain⟨bb,off,rfl,ap,T⟩:=fo jV Z qo;obtain⟨x,J⟩:∃x,l[j]?=some x:=⟨_,gx (by rw[u.out.1];exact V)⟩;have p:=u.out.2.each x (iu J);have o:=T j x J;obtain⟨m,E⟩:=eR (x.a.r.length);obtain⟨K,F⟩:=eR (x.a.w.length);obtain⟨ti,I⟩:=eR (x.a.k.rnd);obtain⟨ph,G⟩:=eR (x.a.k.phase);obtain⟨ix,D⟩:=eR (x.a.k.idx);obtain⟨ab,H⟩:=eR (x.sl);obtain⟨P,v⟩:=eR (x.A);obtain⟨Q,z⟩:=eR (x.B);obtain⟨rc,X⟩:=eR (x.c);obtain⟨rd,Y⟩:=eR (x.d);have aa:x.a.val ab P rc Q rd=.agg #[ti,ph,ix,ab,.slice P m rc,.slice Q K rd]:=by unfold AG.val;rw[I,G,D,E,F]
   unfold AX.cs at o;rw[I,G,D,H,v,z,X,Y,E,F]at o;obtain⟨y0,y1,y2,y3,y4,y5⟩:=F7 o;have aw:IntKind.i64.wrap ((j:Int)+1)=(j:Int)+1:=by simp[IntKind.wrap,IntKind.bits,IntKind.signed];omega
   by_cases ao:m<=10/\K<=10
   ·have ac:decide ((m:Int)<=10)=true:=by simp;omega
    have ag:decide ((K:Int)<=10)=true:=by simp;omega
    have R:=sQ b xs M x.a ab P Q rc rd wr f.out.1 (O.out.fr0 f.out.2.2.1) (λk g=>Nat.le_trans O.out.low (f.out.2.2.2 k g)) (by rw[<-H];exact p.s) (p.fit qo qo) qo qo (by have:=f.out.2.1;omega)
     (λW hW=>by
      have hi:=p.fr0 (f.out.2.2.1.trans hW (λk g=>.inr (f.out.2.2.2 k g)));exact⟨by rw[<-v];exact hi.r,by rw[<-z];exact hi.w⟩)
    rw[aa]at R;have HA:=Hd R;clear R aa I G D H v z X Y E F o T Z J p S
    go_wp2_with (go_at_call 34;(with_reducible refine HA.out.mono ?_);rintro e w3 ⟨q,rfl,hq⟩;have HQ:=Hd hq;clear hq)
    go_roundw
    case rel =>
     rcases HQ.out with⟨_,_,C⟩|⟨_,_,M',y,_,hg,C,ae⟩
     ·exact⟨j+1,xs,M,qo,qo,by go_num,f.out.1.fr0 C,by have:=f.out.2.1;omega,f.out.2.2.1.then C,f.out.2.2.2⟩
     ·exact⟨j+1,xs++[y],M',qo,qo,by go_num,hg,by have:=f.out.2.1;simp;omega,f.out.2.2.1.trans C (λk g=>.inr (f.out.2.2.2 k g)),λk g=>(ae k g).elim (f.out.2.2.2 k) (λh=>Nat.le_trans f.out.2.2.1.size h)⟩
    case measure=>simp[intOf];omega
   ·clear aa I G D H v z X Y E F o T Z J p S
    by_cases h1:m<=10
    ·have ac:decide ((m:Int)<=10)=true:=by simp;omega
     have ag:decide ((K:Int)<=10)=false:=by simp;omega
     go_wp2_with fail
     go_roundw
     case rel=>exact⟨j+1,xs,M,qo,qo,by go_num,f.out.1,by have:=f.out.2.1;omega,f.out.2.2.1,f.out.2.2.2⟩
     case measure=>simp[intOf];omega
    ·have ac:decide ((m:Int)<=10)=false:=by simp;omega
     go_wp2_with fail
     go_roundw
     case rel=>exact⟨j+1,xs,M,qo,qo,by go_num,f.out.1,by have:=f.out.2.1;omega,f.out.2.2.1,f.out.2.2.2⟩
     case measure=>simp[intOf];omega
  ·by_cases ar:j<n
   ·obtain rfl:j=12:=qo
    have al:((12:Nat):Int)<(n:Int):=qo
    go_wp2_with fail
    go_ret2
    exact⟨b,xs,M,rfl,f.out.1,f.out.2.2.1,f.out.2.2.2⟩
   ·obtain rfl:j=n:=qo
    go_wp2_with fail
    go_ret2
    exact⟨b,xs,M,rfl,f.out.1,f.out.2.2.1,f.out.2.2.2⟩
theorem te(xs:List AX)(e:Run xs)(i n:Nat)(y:AX)(f:xs[i]?=some y)(h:i<n)(r:n<=xs.length)(A:Option Addr)(c:Nat)(w:World)(k:Ok w)(j:Own w 57 32 A (iz xs i n).length c ((iz xs i n).flatMap eP)):
 Calls prog 66 #[fu (jQ xs n),.agg #[.int .i64 (i:Int),.int .i64 (n:Int),ft (fL y.a),.slice A (iz xs i n).length c]] w (km w y.a):=by
 have q:=e.len;obtain⟨b,d⟩:=EA (zn xs) (n+1) (i+1) 0 qo qo qo;obtain⟨m,w2,o,p⟩:=e.wf y (iu f)
 have g:(zn xs).getD (0+(i+1)) []=jo (1::fL y.a):=by
  unfold zn;rw[List.getD_eq_getElem?_getD,Nat.zero_add,List.getElem?_cons_succ,List.getElem?_map,f];rfl
 rw[g]at d;have l:=EB (x:=i+1) (n:=n+1) qo qo
 exact yX y.a (iz xs i n) i n (iz xs i n).length (jQ xs n) A c w k m w2 o p h qo (by unfold iz;rw[b];exact l) (by unfold iz;have:=qw (zn xs) (n+1) (i+1) 0 qo qo;omega) (by unfold iz;exact b.symm) rfl
  (by unfold iz;exact EL (nj xs) (n+1) (i+1) 0 qo (by rw[lx];omega) qo) (by unfold iz jQ;rw[b];exact d) j
theorem sA(rt:Nm)(hr32:rt.length=32)(k nn xx at_ n:Int)(so st:ByteArray)(A:Option Addr)(c:Nat)(w:World):
 Calls prog 63 #[.agg #[.int .i64 k,.string so,.int .i64 nn,.int .i64 xx,.string st,.int .i64 at_,.int .i64 n,.slice A 0 c],fu rt] w (fm w (.tuple #[.slice none 0 0,.int .i64 1])):=by
 obtain⟨w1,hw1,hz1,n1,f1⟩:=il w #[.int .i64 k,.string so,.int .i64 nn,.int .i64 xx,.string st,.int .i64 at_,.int .i64 n,.slice A 0 c] 39 w.heap.size;obtain⟨w2,hw2⟩:=eR (w1.alloc (.cells (eP rt).toArray 57));have f2:Fr [] w1 w2:=by rw[<-hw2];exact(Fq [] w1).alloc _
 have n2:=n1.fr f2 (by simp);obtain⟨x0,x1,x2,x3,x4,x5,x6,x7⟩:=n2.m8;have HW:=Hd (An hw1 (An hw2 (f1.then f2)));clear hw1 hw2 n1 n2 f1 f2 hz1;unfold fu
 go_enter func63,ntmps63
 go_upto_region 1 with fail
 rw[HW.out.1,HW.out.2.1]
 go_wp2_with fail
 go_ret2
 exact⟨rfl,HW.out.2.2⟩
theorem un(rt:Nm)(hr32:rt.length=32)(k nn xx at_ n:Int)(so st:ByteArray)(A:Option Addr)(c:Nat)(w:World):
 Calls prog 22 #[fu rt,.agg #[.int .i64 k,.string so,.int .i64 nn,.int .i64 xx,.string st,.int .i64 at_,.int .i64 n,.slice A 0 c]] w (fm w (.tuple #[iU,.int .i64 1])):=by
 have hcr:(eP rt).length=32:=by rw[eU,hr32]
 unfold iU;obtain⟨w1,hw1⟩:=eR ((w).alloc (.cells (eP rt).toArray 57));have hz1:(w1).heap.size=w.heap.size+1:=by rw[<-hw1,kX];try omega
 have n1:(w1).rowIs (w.heap.size) 57 32 (λj=>.int .u8 ((rt.getD j 0).toNat:Int)):=by have h0:=gS (t:=57) (w) hcr;rw[show w.heap.size=(w).heap.size from by first|rfl|omega,<-hw1];exact h0
 have f1:Fr [] (w) w1:=by rw[<-hw1];exact(Fq [] (w)).alloc _
 obtain⟨w2,hw2,hz2,n2,f2⟩:=il w1 #[.int .i64 k,.string so,.int .i64 nn,.int .i64 xx,.string st,.int .i64 at_,.int .i64 n,.slice A 0 c] 39 (w.heap.size+1);obtain⟨w3,hw3,hz3,n3,f3⟩:=il w2 #[.int .u8 0,.int .i64 0,.slice none 0 0,.slice none 0 0,.slice none 0 0,.slice none 0 0] 64 (w.heap.size+1+1);have m2:=n2.fr f3 (by simp);obtain⟨x0,x1,x2,x3,x4,x5,x6,x7⟩:=m2.m8;have HRT:=Hd (fH (eS n1 (f2.then f3) (by simp)) hr32);have HW:=Hd (An hw1 (An hw2 hw3));have hf:=(f1.then f2).then f3;have hVc:=sA rt hr32 k nn xx at_ n so st A c w3;unfold fu at hVc;have HVc:=Hd hVc;have HN:=Hd (An n3 hf);clear hw1 hw2 hw3 n1 n2 n3 m2 f1 f2 f3 hz1 hz2 hz3 hf hVc;unfold fu
 go_enter func22,ntmps22
 go_upto_region 1 with fail
 rw[HW.out.1,HW.out.2.1,HW.out.2.2]
 go_upto_region 2 with(first
  | (refine fF (by rfl) ?_;(with_reducible refine wp_load_mid 57 (.tmp 2) rfl w.heap.size 0 rfl (eP rt) (.array 32 5) HRT.out (by kernel_rfl) rfl (by rw[hcr];kernel_rfl) ?_))
  | (go_at_call 63;(with_reducible refine HVc.out.mono ?_);rintro e w4 ⟨rfl,hf4⟩;have H4:=Hd (An (HN.out.1.fr hf4 (by simp)) (HN.out.2.then hf4));clear hf4))
 obtain⟨y0,y1,y2,y3,y4,y5⟩:=H4.out.1.m6;have v0:=H4.out.1.f 0;have v1:=H4.out.1.f 1;have v2:=H4.out.1.f 2;have v3:=H4.out.1.f 3;have v4:=H4.out.1.f 4;have v5:=H4.out.1.f 5
 go_wp2_with fail
 obtain⟨w5,hW2,n5,f5⟩:=qN (w4) (w.heap.size+1+1) H4.out.1 (.int .u8 0) (.int .i64 0) (.slice none 0 0) (.slice none 0 0) (.slice none 0 0) (.slice none 0 0);rw[hW2];clear hW2;obtain⟨t0,t1,t2,t3,t4,t5⟩:=n5.m6;refine bodyPost_ret (v:=.tuple #[.agg #[.int .u8 0,.int .i64 0,.slice none 0 0,.slice none 0 0,.slice none 0 0,.slice none 0 0],.int .i64 1]) (by simp[results,results22,go_sem,t0,t1,t2,t3,t4,t5]) rfl ?_;exact⟨rfl,H4.out.2.trans f5 (by simp;omega)⟩
theorem uo(rt:Nm)(hr32:rt.length=32)(k nn xx at_ n:Int)(so st:ByteArray)(A:Option Addr)(c:Nat)(w:World):
 Calls prog 23 #[fu rt,.agg #[.int .i64 k,.string so,.int .i64 nn,.int .i64 xx,.string st,.int .i64 at_,.int .i64 n,.slice A 0 c]] w (fm w (.tuple #[iU,.int .i64 1])):=by
 have hcr:(eP rt).length=32:=by rw[eU,hr32]
 unfold iU;obtain⟨w1,hw1⟩:=eR ((w).alloc (.cells (eP rt).toArray 57));have hz1:(w1).heap.size=w.heap.size+1:=by rw[<-hw1,kX];try omega
 have n1:(w1).rowIs (w.heap.size) 57 32 (λj=>.int .u8 ((rt.getD j 0).toNat:Int)):=by have h0:=gS (t:=57) (w) hcr;rw[show w.heap.size=(w).heap.size from by first|rfl|omega,<-hw1];exact h0
 have f1:Fr [] (w) w1:=by rw[<-hw1];exact(Fq [] (w)).alloc _
 obtain⟨w2,hw2,hz2,n2,f2⟩:=il w1 #[.int .i64 k,.string so,.int .i64 nn,.int .i64 xx,.string st,.int .i64 at_,.int .i64 n,.slice A 0 c] 39 (w.heap.size+1);obtain⟨w3,hw3,hz3,n3,f3⟩:=il w2 #[.int .u8 0,.int .i64 0,.slice none 0 0,.slice none 0 0,.slice none 0 0,.slice none 0 0] 64 (w.heap.size+1+1);obtain⟨w4,hw4,hz4,n4,f4⟩:=il w3 #[.int .u8 0,.int .i64 0,.slice none 0 0,.slice none 0 0,.slice none 0 0,.slice none 0 0] 64 (w.heap.size+1+1+1);have m2:=(n2.fr f3 (by simp)).fr f4 (by simp);have m3:=n3.fr f4 (by simp);have x7:=m2.k7;obtain⟨tn0,tn1,tn2,tn3,tn4,tn5⟩:=n4.m6;obtain⟨y0,y1,y2,y3,y4,y5⟩:=m3.m6;have v0:=m3.f 0;have v1:=m3.f 1;have v2:=m3.f 2;have v3:=m3.f 3;have v4:=m3.f 4;have v5:=m3.f 5;have HW:=Hd (An hw1 (An hw2 (An hw3 hw4)));have HN:=Hd (An m3 (((f1.then f2).then f3).then f4));clear hw1 hw2 hw3 hw4 n1 n2 n3 n4 m2 m3 f1 f2 f3 f4 hz1 hz2 hz3 hz4;unfold fu
 go_enter func23,ntmps23
 go_upto_region 2 with fail
 rw[HW.out.1,HW.out.2.1,HW.out.2.2.1,HW.out.2.2.2]
 go_wp2_with fail
 obtain⟨w5,hW2,n5,f5⟩:=qN (w4) (w.heap.size+1+1) HN.out.1 (.int .u8 0) (.int .i64 0) (.slice none 0 0) (.slice none 0 0) (.slice none 0 0) (.slice none 0 0);rw[hW2];clear hW2;obtain⟨t0,t1,t2,t3,t4,t5⟩:=n5.m6;refine bodyPost_ret (v:=.tuple #[.agg #[.int .u8 0,.int .i64 0,.slice none 0 0,.slice none 0 0,.slice none 0 0,.slice none 0 0],.int .i64 1]) (by simp[results,results23,go_sem,t0,t1,t2,t3,t4,t5]) rfl ?_;exact⟨rfl,HN.out.2.trans f5 (by simp;omega)⟩
theorem vN(i:Int)(w:World):Calls prog 35 #[.int .i64 i] w (fm w (BW i)):=by
 unfold BW;obtain⟨d,g,a,e⟩:=kS w #[.int .i64 0,.string ⟨#[]⟩,.int .i64 0,.int .i64 0,.string ⟨#[]⟩] 31;have b:=Hd (An g (An a e));clear g a e
 go_enter func35,ntmps35
 go_upto_region 1 with fail
 rw[b.out.1];have a:=b.out.2.1;have m:=a.f 0;have n:=a.f 1;have o:=a.f 2;have p:=a.f 3;have q:=a.f 4;obtain⟨r,s,t,u,x⟩:=a.m5;clear a
 go_wp2_with fail
 obtain⟨w2,c⟩:=eR ((((((d.setCell ⟨w.heap.size,0,none⟩ (16:Int)).setCell ⟨w.heap.size,1,none⟩ S0).setCell ⟨w.heap.size,2,none⟩ i).setCell ⟨w.heap.size,3,none⟩ L0).setCell ⟨w.heap.size,4,none⟩ S0));have j:BoxN w2 w.heap.size 31 #[(16:Int),S0,i,L0,S0]:=by rw[<-c];exact(((((b.out.2.1.setAt 0 _).setAt 1 _).setAt 2 _).setAt 3 _).setAt 4 _)
 have h:Fr [w.heap.size] d w2:=by rw[<-c];exact(((((Fq [w.heap.size] d).st _).st _).st _).st _).st _
 rw[c];obtain⟨k,t1,t2,t3,l⟩:=j.m5;refine bodyPost_ret (v:=.agg #[(16:Int),S0,i,L0,S0]) (by simp[results,results35,go_sem,k,t1,t2,t3,l]) rfl ?_;exact⟨rfl,b.out.2.2.trans h qs⟩
end Go.Proofs.YtlpmiimgacfmkaaGreatDoor
