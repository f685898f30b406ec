/- Part of the proof. -/
import Derived.Test.YtlpmiimgacfmkaaGreatDoorCDg3
set_option linter.all false
set_option maxHeartbeats 4000000
set_option maxRecDepth 100000
namespace Go.Proofs.YtlpmiimgacfmkaaGreatDoor
open Go.Proofs.Tryz List
open Go.RowKit
def SG.of_nil{w:World}{b:Nat}(h:StAt w b .nil):SG w b []:=⟨none,0,h.1,TT.nil w,List.Pairwise.nil⟩
def Bk:mY [leaf0] []:=by
 intro l i h;have c:=Nat.one_le_two_pow (n:=l);have d:(i+1)*2 ^ l<=1:=h;have e:1*2 ^ l<=(i+1)*2 ^ l:=Nat.mul_le_mul_right _ qo;have f:2 ^ l=1:=qo
 have a:l=0:=by
  rcases Nat.eq_zero_or_pos l with h|h
  ·exact h
  ·have:2 ^ 1<=2 ^ l:=Nat.pow_le_pow_right qo h
   omega
 subst a;have b:i=0:=qo
 subst b;simp only[Nat.pow_zero,Nat.mul_one,pC];exact⟨fy _,.inl ⟨rfl,rfl⟩⟩
def GC(p:Nat)(w:World)(i:Ok w)(h:StAt w p .nil):Calls prog 32 #[.pointer (some ⟨p,0,none⟩)] w λe w'=>∃b M,e=.returned (.tuple #[.pointer (some ⟨b,0,none⟩),.int .i64 0])/\HG w' b [] M/\Fr [] w w'/\∀k∈M,w.heap.size<=k:=by
 refine(Dw p w i h).mono ?_;rintro e w' ⟨b,M,rfl,⟨l,m,d,A,c,F,a,rfl⟩,g,f⟩;exact⟨b,_,rfl,⟨l,m,d,A,c,F,[],[leaf0],[],⟨a.box,a.own,qs,SG.of_nil a.kept.now.1,SG.of_nil a.st,qs,a.tree,Bk,by intro p j;simp at j,rfl,⟨qs,qs,qs⟩⟩,rfl⟩,g,f⟩
def Fg(b:Nat)(xs:List AX)(af:List Nat)(n:Nat)(w:World)(J:Ok w)(h:HG w b xs af)(Y:n<=xs.length):Calls prog 37 #[.pointer (some ⟨b,0,none⟩),.int .i64 (n:Int)] w (l8 w 120):=by
 have ai:=h.len12;obtain⟨pb,pl,bt,ac,c,F,ns,ds,ay,h,rfl⟩:=h;have⟨m,t⟩:=eR (xs.length);have v:=h.box;rw[t]at v Y ai;have⟨L,x1⟩:=v.m2;have x3:=v.k3;have M:=Hd (kC b pb w L);have E:=Hd h;have ae:=Hd J;have HM:=Hd t;have ag:=h.own.le_cap;rw[t]at ag;have an:decide ((n:Int)<0)=false:=qs
 have ao:decide (m<n)=false:=by simp;omega
 rcases Nat.lt_or_eq_of_le Y with au|rfl
 ·have K:=(h.own.rd:Rd w 6 ac xs.length (xs.flatMap AX.cs))
  rw[t]at K;obtain⟨g,off,rfl,ah,R⟩:=fK lx K qo;have ad:=Hd R;have aw:¬n=m:=qo
  have ax:((n:Int) == (m:Int))=false:=by simp;omega
  have am:decide ((16:Int)<=(n:Int))=false:=by simp;omega
  have aj:(n:Int) % 16=(n:Int):=qo
  have aq:(n:Int)<=(c:Int):=qo
  have ar:(n:Int)<=(m:Int):=qo
  clear h J t v K R
  go_enter func37,ntmps37
  go_upto_region 3 with((go_at_call 59;(with_reducible refine M.out.mono ?_);rintro e w' ⟨rfl,rfl⟩))
  go_wp2
  clear L x1 x3
  try rw[aj]
  go_loopw [6,61] (λs i W=>∃(j b':Nat) (u:List ON),j<=n/\i=.int .i64 (j:Int)/\s=.pointer (some ⟨b',0,none⟩)/\SG W b' u/\u.length<=10*j/\Fr [] w W) (λ_ i _=>n - (intOf i).toNat)
  case atStart=>exact⟨0,pb,[],Nat.zero_le _,rfl,rfl,E.base,qs,Fq _ _⟩
  case round =>
   obtain⟨j,b',u,hj,rfl,rfl,Q,V,T⟩:=hrel;have f:=Hd (An Q (An V T));clear Q V T
   by_cases ap:j<n
   ·have av:(j:Int)<(n:Int):=qo
    obtain⟨x,C⟩:∃x,xs[j]?=some x:=⟨_,gg (by rw[HM.out];omega)⟩;have z:=E.run.wf x (gH C);have ab:=(E.xok x (gH C)).fr0 f.2.2;have l:=ad.out j x C;unfold AX.cs at l;have q:∀o,wr.cell? ⟨g,o,none⟩=w.cell? ⟨g,o,none⟩:=λo=>f.2.2.cell (p:=⟨g,o,none⟩) ah qs;have X:=gr z.1;have G:∀W,Fr [] wr W->Calls prog 92 #[x.a.val x.sl x.A x.c x.B x.d,.pointer (some ⟨b',0,none⟩)] W (l8 W (u.length+x.a.w.length)):=λW hW=>wD x.a x.sl x.A x.B x.c x.d _ b' W λW2 H=>vc b' u x.a.w x.B x.d W2 (ae.fr0 (f.2.2.then (hW.then H))) (f.1.fr0 (hW.then H)) (ab.chw.fr0 (hW.then H)) (λy hy=>⟨z.2.1.w y hy,gG X.2 y hy⟩) (by have:=f.2.1;have:=z.2.2.2;omega);unfold AG.val at G;have y0:wr.cell? ⟨g,off+j*6,none⟩=some (.int .i64 x.a.k.rnd):=(q _).trans (l 0 qo);have y1:wr.cell? ⟨g,off+j*6+1,none⟩=some (.int .i64 x.a.k.phase):=(q _).trans (l 1 qo);have y2:wr.cell? ⟨g,off+j*6+2,none⟩=some (.int .i64 x.a.k.idx):=(q _).trans (l 2 qo);have y3:wr.cell? ⟨g,off+j*6+3,none⟩=some (.string x.sl):=(q _).trans (l 3 qo);have y4:wr.cell? ⟨g,off+j*6+4,none⟩=some (.slice x.A x.a.r.length x.c):=(q _).trans (l 4 qo);have y5:wr.cell? ⟨g,off+j*6+5,none⟩=some (.slice x.B x.a.w.length x.d):=(q _).trans (l 5 qo);have⟨w1,aa,ak,n1,P⟩:=ir wr #[.int .i64 x.a.k.rnd,.int .i64 x.a.k.phase,.int .i64 x.a.k.idx,.string x.sl,.slice x.A x.a.r.length x.c,.slice x.B x.a.w.length x.d] 91 wr.heap.size;have HA:=Hd G;have HX:=Hd z.2.2.2;clear l q G ab z X C
    go_upto_region 13 with fail
    try rw[aa]
    clear y0 y1 y2 y3 y4 y5;have⟨L,x1,x2,x3,x4,x5⟩:=n1.m6;have O:=Hd P;clear aa n1 P ak
    go_wp2_with ((go_at_call 92;(with_reducible refine(HA.out _ O.out).mono ?_);rintro e w2 ⟨b2,al,rfl,Z,U,S⟩;have D:=Hd (An Z (An U S));clear Z U S))
    go_roundw
    case rel=>exact⟨j+1,b2,al,qo,by go_num,rfl,D.1,by have:=D.2.1;have:=f.2.1;have:=HX.out;omega,f.2.2.then (O.then D.2.2)⟩
    case measure=>simp[intOf];omega
   ·obtain rfl:j=n:=qo
    go_wp2
    go_ret2
    exact⟨b',u,rfl,f.1,by have:=f.2.1;omega,f.2.2⟩
 ·have I:=h.nl
  rw[t]at I;have N:=Hd (An h.st I);clear h J t v I
  go_enter func37,ntmps37
  go_wp2_with ((go_at_call 59;(with_reducible refine M.out.mono ?_);rintro e w' ⟨rfl,rfl⟩))
  go_ret2
  exact⟨pl,ns,rfl,N.1,by have:=N.2;omega,Fq _ _⟩
structure ActL(w:World)(b:Nat)(N:Nat)(ys:List AX):Prop where
 row:∃f,w.rowIs b 91 N f/\∀j x,ys[j]?=some x->∀o u,x.cs[o]?=some u->j*6+o<N/\f (j*6+o)=u
 ok:∀y∈ys,y.ok w
section
variable {w w':World} {b N:Nat} {ys:List AX} {S:List Nat}
def ActL.fr0(h:ActL w b N ys)(a:Fr [] w w'):ActL w' b N ys:=by
 have⟨f,c,d⟩:=h.row;exact⟨⟨f,eT c a qs,d⟩,λy e=>(h.ok y e).fr0 a⟩
def ActL.take(h:ActL w b N ys)(n:Nat):ActL w b N (ys.take n):=by
 have⟨f,c,d⟩:=h.row;exact⟨⟨f,c,λj x a=>d j x (by rw[List.getElem?_take]at a;split at a <;> simp_all)⟩,λy e=>h.ok y (mem_of_mem_take e)⟩
def ActL.c(h:ActL w b N ys){j:Nat}{x:AX}(k:ys[j]?=some x)(o:Nat)(u:Value)(i:x.cs[o]?=some u):w.cell? ⟨b,j*6+o,none⟩=some u:=by
 have⟨f,a,d⟩:=h.row;have⟨e,g⟩:=d j x k o u i;rw[a.cell e,g]
end
def ActL.snoc{w w':World}{b N:Nat}{ys:List AX}{y:AX}(m:ActL w b N ys)(H:y.ok w)(J:ys.length*6+6<=N)
 (v:w'=(((((w.setCell ⟨b,ys.length*6,none⟩ (.int .i64 y.a.k.rnd)).setCell ⟨b,ys.length*6+1,none⟩ (.int .i64 y.a.k.phase)).setCell ⟨b,ys.length*6+2,none⟩ (.int .i64 y.a.k.idx)).setCell ⟨b,ys.length*6+3,none⟩ (.string y.sl)).setCell ⟨b,ys.length*6+4,none⟩ (.slice y.A y.a.r.length y.c)).setCell ⟨b,ys.length*6+5,none⟩ (.slice y.B y.a.w.length y.d)) :
 ActL w' b N (ys++[y])/\Fr [b] w w':=by
 have⟨f,n,C⟩:=m.row;have l:Fr [b] w w':=by rw[v];exact((((((Fq [b] w).st _).st _).st _).st _).st _).st _
 have p:NoT xW w [b]:=by
  obtain⟨c,i,_⟩:=n;intro k s I e z q;rw[ip]at s;subst s;rw[i]at q
  cases q
  decide
 have t:=(((((n.set (ys.length*6) y.a.k.rnd).set (ys.length*6+1) y.a.k.phase).set (ys.length*6+2) y.a.k.idx).set (ys.length*6+3) y.sl).set (ys.length*6+4) (.slice y.A y.a.r.length y.c)).set (ys.length*6+5) (.slice y.B y.a.w.length y.d);rw[<-v]at t;refine⟨⟨⟨_,t,λj x g o u h=>?_⟩,λx g=>?_⟩,l⟩
 ·have G:o<6:=by have:=(gV.1 h).1;exact this
  by_cases E:j<ys.length
  ·rw[List.getElem?_append_left E]at g
   have⟨i,D⟩:=C j x g o u h;refine⟨i,?_⟩;have K:j*6+o<ys.length*6:=qo
   rw[if_neg qo,if_neg qo,if_neg qo,if_neg qo,if_neg qo,if_neg qo,D]
  ·have F:j=ys.length:=by
    have:=(gV.1 g).1;rw[gu]at this;simp at this;omega
   subst F;rw[List.getElem?_append_right (fW _),Nat.sub_self,List.getElem?_cons_zero]at g
   injection g with g
   subst g;refine⟨qo,?_⟩;unfold AX.cs at h
   match o,G with
   | 0,_=>rw[if_neg qo,if_neg qo,if_neg qo,if_neg qo,if_neg qo,if_pos qo];simpa using h
   | 1,_=>rw[if_neg qo,if_neg qo,if_neg qo,if_neg qo,if_pos rfl];simpa using h
   | 2,_=>rw[if_neg qo,if_neg qo,if_neg qo,if_pos rfl];simpa using h
   | 3,_=>rw[if_neg qo,if_neg qo,if_pos rfl];simpa using h
   | 4,_=>rw[if_neg qo,if_pos rfl];simpa using h
   | 5,_=>rw[if_pos rfl];simpa using h
 ·rcases mem_append.1 g with g|g
  ·exact(m.ok x g).frT l p
  ·rw[ip]at g
   rw[g];exact H.frT l p
def vf(w:World)(n:Nat)(g:n<=1000):∃w',(Instr.makeSlice 22 (.int .i64 (n:Int)) (.int .i64 (n:Int))).run prog w=.ok (.slice (some ⟨w.heap.size,0,none⟩) n n) w'/\ActL w' w.heap.size (n*6) []/\Fr [] w w':=by
 obtain⟨i,e,f,c,d⟩:=sd;have h:=run_makeSlice (P:=prog) (w:=w) 22 91 i (.agg lV) underlying22 e f .i64 .i64 n n qo qo (by rw[c];omega) (by rw[d];omega) qo;rw[c]at h;refine⟨_,h,⟨?_,qs⟩,(Fq [] w).alloc _⟩;have a:=gi w (madeCells (Value.agg lV).cells (n*6)) 91;rw[size_madeCells]at a;exact⟨_,a,qs⟩
def si(w:World)(xs:List AX)(e:Ending)(w':World):Prop:=∃L ys,e=.returned (.slice (some ⟨L,0,none⟩) xs.length xs.length)/\ys.map AX.a=xs.map AX.a/\ActL w' L (xs.length*6) ys/\Fr [] w w'/\w.heap.size<=L
def Bl(b:Nat)(xs:List AX)(ar:List Nat)(w:World)(q:HG w b xs ar):Calls prog 41 #[.pointer (some ⟨b,0,none⟩)] w (si w xs):=by
 have aw:=q.len12;obtain⟨pb,pl,bt,A,c,F,ns,ds,aC,q,rfl⟩:=q;have⟨m,Q⟩:=eR (xs.length);have G:=q.box;rw[Q]at G aw;have⟨U,x1⟩:=G.m2;have⟨X0,ax,u,O⟩:=vf w m qo;have z1:X0.cell? ⟨b,1,none⟩=some (.slice A m c):=(G.fr O qs).c 1;have HN:=Hd (kC b pb w U);have J:=Hd q;have C:=Hd Q;have I:=Hd (An u O);clear q G Q u O;unfold si;rw[C.out]
 go_enter func41,ntmps41
 go_wp2_with ((go_at_call 59;(with_reducible refine HN.out.mono ?_);rintro e w' ⟨rfl,rfl⟩))
 clear U x1 z1 ax;have⟨L,E⟩:=eR (w.heap.size);rw[E]at I
 try rw[E]
 have ac:=Hd E;clear E
 go_loopw [19] (λi W=>∃(j:Nat) (ys:List AX),j<=m/\i=j/\ys.length=j/\ys.map AX.a=(xs.take j).map AX.a/\ActL W L (m*6) ys/\Fr [] w W) (λi _=>m - (intOf i).toNat)
 case atStart=>exact⟨0,[],Nat.zero_le _,rfl,rfl,qs,I.1,I.2⟩
 case round =>
  obtain⟨j,ys,hj,rfl,t,am,u,ai⟩:=hrel;have h:=Hd (An t (An am (An u ai)));clear t am u ai
  by_cases aA:j<m
  ·have aB:(j:Int)<(m:Int):=qo
   have R:=(J.own.rd:Rd w 6 A xs.length (xs.flatMap AX.cs));rw[C.out]at R;obtain⟨g,off,rfl,av,af⟩:=fK lx R qo;obtain⟨x,z⟩:∃x,xs[j]?=some x:=⟨_,gg (by rw[C.out];omega)⟩;have al:=J.run.wf x (gH z);have H:=(J.xok x (gH z)).fr0 h.2.2.2;have l:=af j x z;unfold AX.cs at l;have n:∀o,wr.cell? ⟨g,o,none⟩=w.cell? ⟨g,o,none⟩:=λo=>h.2.2.2.cell (p:=⟨g,o,none⟩) av qs;have y0:wr.cell? ⟨g,off+j*6,none⟩=some x.a.k.rnd:=(n _).trans (l 0 qo);have y1:wr.cell? ⟨g,off+j*6+1,none⟩=some x.a.k.phase:=(n _).trans (l 1 qo);have y2:wr.cell? ⟨g,off+j*6+2,none⟩=some x.a.k.idx:=(n _).trans (l 2 qo);have y3:wr.cell? ⟨g,off+j*6+3,none⟩=some x.sl:=(n _).trans (l 3 qo);have y4:wr.cell? ⟨g,off+j*6+4,none⟩=some (.slice x.A x.a.r.length x.c):=(n _).trans (l 4 qo);have y5:wr.cell? ⟨g,off+j*6+5,none⟩=some (.slice x.B x.a.w.length x.d):=(n _).trans (l 5 qo);have⟨T,aj,ay,n1,D⟩:=ir wr #[x.a.k.rnd,x.a.k.phase,x.a.k.idx,x.sl,.slice x.A x.a.r.length x.c,.slice x.B x.a.w.length x.d] 91 wr.heap.size;have K:Calls prog 94 #[x.a.val x.sl x.A x.c x.B x.d] T (zO T x.a):=rY (.inl rfl) x.a x.sl x.A x.B x.c x.d T H.s (H.chr.fr0 D) (H.chw.fr0 D) al.2.1;unfold AG.val at K;have aq:=Hd K;have HX:=Hd z;clear l n H al z K R af
   go_upto_region 7 with fail
   try rw[aj]
   clear y0 y1 y2 y3 y4 y5;have⟨U,x1,x2,x3,x4,x5⟩:=n1.m6;have ad:=Hd D;clear aj n1 D ay
   go_wp2_with ((go_at_call 94;(with_reducible refine aq.out.mono ?_);rintro e w2 ⟨⟨ya,aa,V,Y,X,Z⟩,an,rfl,ao,P⟩;dsimp only at an;subst an;unfold AX.v AG.val;dsimp only;have HY:=Hd (An ao P);have M:=h.2.2.1.fr0 (ad.then P);have⟨az,f,au⟩:=M.row;clear ao P;have q0:=f.cell (i:=j*6) qo;have q1:=f.cell (i:=j*6+1) qo;have q2:=f.cell (i:=j*6+2) qo;have q3:=f.cell (i:=j*6+3) qo;have q4:=f.cell (i:=j*6+4) qo;have q5:=f.cell (i:=j*6+5) qo;have g0:=f.frozen (j*6);have g1:=f.frozen (j*6+1);have g2:=f.frozen (j*6+2);have g3:=f.frozen (j*6+3);have g4:=f.frozen (j*6+4);have g5:=f.frozen (j*6+5);have ap:=Hd M;clear f au M))
   have⟨w3,ak⟩:=eR ((((((w2.setCell ⟨L,j*6,none⟩ x.a.k.rnd).setCell ⟨L,j*6+1,none⟩ x.a.k.phase).setCell ⟨L,j*6+2,none⟩ x.a.k.idx).setCell ⟨L,j*6+3,none⟩ aa).setCell ⟨L,j*6+4,none⟩ (.slice V x.a.r.length Y)).setCell ⟨L,j*6+5,none⟩ (.slice X x.a.w.length Z))
   try rw[ak]
   have t:=h.1;have⟨ae,ag⟩:=ActL.snoc (w':=w3) (y:=⟨x.a,aa,V,Y,X,Z⟩) ap.out HY.1 (by rw[t];omega) (by rw[t];exact ak.symm);have ah:Fr [] w w3:=(h.2.2.2.then (ad.then HY.2)).trans ag (by have:=ac.out;simp;omega);have ab:=Hd (An ae ah);clear ae ah ag
   go_roundw
   case rel =>
    refine⟨j+1,ys++[⟨x.a,aa,V,Y,X,Z⟩],qo,by go_num,by simp[t],?_,ab.1,ab.2⟩;rw[map_append,h.2.1,take_add_one,HX.out,map_append];simp
   case measure=>simp[intOf];omega
  ·obtain rfl:j=m:=qo
   go_wp2
   go_ret
   refine⟨L,ys,rfl,?_,h.2.2.1,h.2.2.2,by have:=ac.out;omega⟩;rw[h.2.1,take_of_length_le (by rw[C.out];exact fW _)]
def zT(xs:List AX):List Nm:=leaf0::xs.map Dx
def mI(xs:List AX):(zT xs).length=xs.length+1:=by simp[zT]
def pu(xs:List AX):∀d∈zT xs,d.length=32:=by
 intro d a
 rcases mem_cons.1 a with rfl|a
 ·exact fy _
 ·obtain⟨x,_,rfl⟩:=mem_map.1 a
  exact fy _
def jH(xs:List AX)(i n:Nat):List Nm:=wP (zT xs) (i+1) 0 (n+1)
def Fh(b:Nat)(xs:List AX)(an:List Nat)(i n:Nat)(y:AX)(w:World)(j:HG w b xs an)(O:Ok w)(E:xs[i]?=some y)(aE:i<n)(ar:n<=xs.length):
 Calls prog 20 #[.pointer (some ⟨b,0,none⟩),.int .i64 (i:Int),.int .i64 (n:Int)] w (pt w (i:Int) (n:Int) (gv y.a) (jH xs i n)):=by
 have aq:=j.len12;obtain⟨pb,pl,V,ah,c,F,ns,J,aw,j,rfl⟩:=j;have⟨m,z⟩:=eR (xs.length);rw[z]at ar aq;have D:J=zT xs:=j.ds;have P:=(j.own.rd:Rd w 6 ah xs.length (xs.flatMap AX.cs));rw[z]at P;obtain⟨g,off,rfl,ap,ab⟩:=fK lx P qo;have t:=ab i y E;unfold AX.cs at t;have Q:=j.run.wf y (gH E);have⟨h,ag,av,Y,u⟩:=ir w #[.int .i64 0,.int .i64 0,.string ⟨#[]⟩,.slice none 0 0] 53 w.heap.size;have G:=(j.xok y (gH E)).fr0 u;have L:Calls prog 60 #[y.a.val y.sl y.A y.c y.B y.d] h (fi h (.tuple #[fg (gv y.a),.int .i64 0])):=pY y.a y.sl y.A y.B y.c y.d h (O.fr0 u) G.s G.chr G.chw Q.2.1 Q.1;unfold AG.val at L;have C:=j.box.fr u qs;rw[z]at C;have l:∀o,h.cell? ⟨g,o,none⟩=w.cell? ⟨g,o,none⟩:=λo=>u.cell (p:=⟨g,o,none⟩) ap qs;have⟨x0,x1⟩:=C.m2;have ax:h.cell? ⟨g,off+i*6,none⟩=some (.int .i64 y.a.k.rnd):=(l _).trans (t 0 qo);have z1:h.cell? ⟨g,off+i*6+1,none⟩=some (.int .i64 y.a.k.phase):=(l _).trans (t 1 qo);have z2:h.cell? ⟨g,off+i*6+2,none⟩=some (.int .i64 y.a.k.idx):=(l _).trans (t 2 qo);have z3:h.cell? ⟨g,off+i*6+3,none⟩=some (.string y.sl):=(l _).trans (t 3 qo);have z4:h.cell? ⟨g,off+i*6+4,none⟩=some (.slice y.A y.a.r.length y.c):=(l _).trans (t 4 qo);have z5:h.cell? ⟨g,off+i*6+5,none⟩=some (.slice y.B y.a.w.length y.d):=(l _).trans (t 5 qo);have ao:J.length=m+1:=by rw[D,mI,z]
 have M:∀W,Fr [] h W->Calls prog 61 #[.pointer (some ⟨V,0,none⟩),.int .i64 ((i:Int)+1),.int .i64 ((n:Int)+1)] W (ue W (jH xs i n)):=λW hW=>by
  have:=BD V J aw F j.parts (by rw[D];exact pu xs) qo (n+1) (i+1) W (j.tree.at_.fr0 (u.then hW)) (O.fr0 (u.then hW)) qo qo qo;rw[D]at this;exact this
 have au:(jH xs i n).length<n+1:=oG (zT xs) (n+1) (i+1) 0 qo qo;have⟨ps,ad⟩:=eR (jH xs i n);rw[ad]at M au ⊢;have HB:=Hd C;have HN:=Hd (kC b pb h x0);have H:=Hd L;have HI:=Hd M;have S:=Hd Y;have ai:=Hd u;have am:=Hd ag;have⟨tx,af⟩:=eR ((⟨(gv y.a).toArray⟩:ByteArray));unfold fg at H;unfold pt fg;rw[af]at H ⊢;have az:decide ((n:Int)<0)=false:=qs
 have aA:decide (m<n)=false:=by simp;omega
 have aB:decide ((i:Int)<0)=false:=qs
 have aC:decide (n<=i)=false:=by simp;omega
 have aD:(i:Int)<(m:Int):=qo
 clear j C L M Y u ag t ab P G Q l af ao D z E O ad av
 go_enter func20,ntmps20
 go_upto_region 1 with fail
 rw[am.out]
 go_wp2_with (first
  | (go_at_call 59;(with_reducible refine HN.out.mono ?_);rintro e w' ⟨rfl,rfl⟩)
  | (go_at_call 60;(with_reducible refine H.out.mono ?_);rintro e w2 ⟨rfl,x⟩;have aa:=HB.fr x qs;have y4:=aa.c 4;clear x0 x1 ax z1 z2 z3 z4 z5 aa)
  | (go_at_call 61;(with_reducible refine(HI.out _ x).mono ?_);rintro e w3 ⟨A3,I,rfl,ac,N,ae⟩;have q:=S.fr (x.then N) qs;have u0:=q.c 0;have u1:=q.c 1;have u2:=q.c 2;have u3:=q.c 3;have g0:=q.f 0;have g1:=q.f 1;have g2:=q.f 2;have g3:=q.f 3;have ak:=Hd ac;have aj:=Hd ((ai.then x).then N);have U:=Hd ae;have al:=Hd q;have ay:=x.size;clear ac N ae q y4))
 have⟨w4,Z,X,K⟩:=Jy (w3) (w.heap.size) al.out i n tx (.slice A3 ps.length I);rw[Z];clear Z;have aF:=S.lt;have⟨t0,t1,t2,t3⟩:=X.m4;have R:=Hd (An (ak.fr K (by intro k l;have:=U.out k l;simp only[ip];omega)) (aj.trans K (T:=[w.heap.size]) qs));clear X K u0 u1 u2 u3 g0 g1 g2 g3;refine bodyPost_ret (v:=.tuple #[.agg #[i,n,tx,.slice A3 ps.length I],L0]) (by simp[results,results20,go_sem,t0,t1,t2,t3]) rfl ⟨A3,I,rfl,R.1,R.2,λk l=>?_⟩;have:=U.out k l;omega
def lN(xs:List AX)(n:Nat):Nm:=rt (zT xs) 0 (n+1)
def DA(b:Nat)(xs:List AX)(M:List Nat)(n:Nat)(w:World)(h:HG w b xs M)(D:Ok w)(P:n<=xs.length):
 Calls prog 21 #[.pointer (some ⟨b,0,none⟩),.int .i64 (n:Int)] w (qZ w (lN xs n)):=by
 have O:=h.len12;obtain⟨S,pl,L,W,c,F,ns,s,R,h,rfl⟩:=h;have⟨m,l⟩:=eR (xs.length);rw[l]at P O;have k:s=zT xs:=h.ds;have N:s.length=m+1:=by rw[k,mI,l]
 have⟨r,q⟩:=eR (w.alloc (.cells qP 57));have g:Fr [] w r:=by rw[<-q];exact(Fq [] w).alloc _
 obtain⟨Y,A⟩:∃f,r.rowIs w.heap.size 57 32 f:=by rw[<-q];exact⟨_,gi w _ _⟩
 have i:=Hc L s R F h.parts (by rw[k];exact pu xs) qo (n+1) r (h.tree.at_.fr0 g) (D.fr0 g) qo qo;have a:(lN xs n).length=32:=kD (pu xs) (n+1) 0 qo (by rw[mI];omega) qo;rw[k,show rt (zT xs) 0 (n+1)=lN xs n from rfl,Int.natCast_add,show ((1:Nat):Int)=1 from rfl]at i;have⟨d,B⟩:=eR (lN xs n);rw[B]at i a ⊢;have Z:(eO d).length=32:=by rw[eP,a]
 have j:=h.box.fr g qs;rw[l]at j;have⟨V,x1⟩:=j.m2;have x4:=j.k4;have aa:decide ((n:Int)<0)=false:=qs
 have ab:decide (m<n)=false:=by simp;omega
 have I:=Hd (kC b S r V);have E:=Hd i;have J:=Hd A;have G:=Hd g;have K:=Hd q;clear i A g q j h B k N l D
 go_enter func21,ntmps21
 go_upto_region 1 with fail
 rw[K.out]
 go_wp2_with (first
  | (go_at_call 59;(with_reducible refine I.out.mono ?_);rintro e w' ⟨rfl,rfl⟩)
  | (go_at_call 62;(with_reducible refine E.out.mono ?_);rintro e T ⟨rfl,x⟩;unfold fo;have t:=eT J.out x qs;have Q:=fj (d:=d) t a;have y:=fp (d:=d) t a;obtain⟨U,z⟩:∃X,T.setCells w.heap.size 0 (eO d)=X:=⟨_,rfl⟩;have C:Fr [] w U:=(by rw[<-z];exact((G.then x).setCells (.inr (fW _)) _ _));rw[z]at Q y;have HRD:=Hd y.1;have H:=Hd C;clear z y C t x))
 exact bodyPost_ret (v:=.tuple #[fo d,.int .i64 0]) (iM (d:=.array 32 5) (p:=4) (u:=5) (ty:=57) (b:=w.heap.size) (o:=0) rfl rfl rfl HRD.out qk rfl (by rw[eP,a];rfl)) rfl ⟨rfl,H.out⟩
section
variable {P:Program} {w w':World} {t k e:TypeId} {r:Nat} {key v0:Value} {kl:Lit} {l1 l2:List (Value × Value)}
def MapIs.entry_old(K:Maps.Keyed P k)(ht:P.underlying t=some (.map k e))(h:MapIs P k w r (l1++(key,v0)::l2))(hkey:keyOf P k key=some kl):
 ∃st w1,(Instr.mapEntry t (.map (some r)) key).run P w=.ok (.tuple #[v0,.int .i64 st]) w1/\Fr [r] w w1/\MapIs P k w1 r (l1++(key,v0)::l2) /\
  ∀w2 val,w2.heap[r]?=w1.heap[r]?->∃w3,(Instr.entryStore t (.map (some r)) (.int .i64 st) val).run P w2=.ok () w3/\Fr [r] w2 w3/\MapIs P k w3 r (l1++(key,val)::l2):=by
 obtain⟨es,clock,h1,h2,h3,h4⟩:=h;have hkk:es.toList.map (·.key)=(l1++(key,v0)::l2).map (·.1):=by rw[<-h4,map_map];rfl
 rcases K.find w hkey es.toList h3 with⟨f1,f2⟩|⟨j,e0,f1,f2,f3⟩
 ·have:key∈es.toList.map (·.key):=by rw[hkk];simp
  have⟨x,hx,he⟩:=mem_map.1 this;exact absurd he (f2 x hx)
 ·have hj:es[j]?=some e0:=by simpa using f2
  have hjl:j=l1.length:=by
   have hnd:=h2.2.2;have a1:(es.toList.map (·.key))[j]?=some key:=by rw[List.getElem?_map,f2,<-f3];rfl
   have a2:(es.toList.map (·.key))[l1.length]?=some key:=by rw[hkk,List.getElem?_map];simp
   have⟨b1l,b1e⟩:=gV.1 a1;have⟨b2l,b2e⟩:=gV.1 a2;exact(getElem_inj hnd).1 (b1e.trans b2e.symm)
  have hv:e0.val=v0:=by
   have a1:(es.toList.map (λx=>(x.key,x.val)))[j]?=some (e0.key,e0.val):=by rw[List.getElem?_map,f2];rfl
   rw[h4,hjl]at a1;simp at a1;exact a1.2.symm
  have hmod:(es.modify j λe=>{ e with key:=key })=es:=by
   apply Array.ext_getElem?
   intro i;rw[Array.getElem?_modify];split
   ·rename_i he
    subst he;rw[hj]
    cases e0
    simp only at f3;subst f3;rfl
   ·rfl
  refine⟨((e0.born:Nat):Int),{ w with heap:=w.heap.setIfInBounds r (.map es clock) },by simp[Instr.mapEntry,run_underlying ht,MapKept.run_getObj_map h1,K.check w false hkey,f1,hv,hj,f3,K.stays w hkey,hmod,goInt,MapKept.run_setObj_map _ h1,Result.andThen],⟨rfl,rfl,rfl,by simp,λi _ hi=>(MapKept.heap_set h1).2 i (by simpa using hi)⟩,⟨es,clock,(MapKept.heap_set h1).1,h2,h3,h4⟩,λw2 val hw2=>?_⟩;have hw3:w2.heap[r]?=some (.map es clock):=hw2.trans (MapKept.heap_set h1).1
  have hidx:es.findIdx? (λe=>((e.born:Nat):Int) == ((e0.born:Nat):Int))=some j:=by
   rw[WideElems.findIdx_arr];exact WideElems.findIdx_born h2.2.1 f2
  refine⟨{ w2 with heap:=w2.heap.setIfInBounds r (.map (es.modify j λe=>{ e with val:=val }) clock) },?_,⟨rfl,rfl,rfl,by simp,λi _ hi=>(MapKept.heap_set hw3).2 i (by simpa using hi)⟩,_,_,(MapKept.heap_set hw3).1,?_,?_,?_⟩
  ·simp[Instr.entryStore,MapKept.run_getObj_map hw3,asInt,asIntOf,hidx,MapKept.run_setObj_map _ hw3,Result.andThen]
  ·exact MapKept.stamped_modify h2 j _ (λ_ _=>rfl) (λe he hje=>rfl)
  ·intro x hx
   rcases MapFrom.mem_modify hx with hx|⟨y,hy,rfl⟩
   ·exact h3 x hx
   ·exact h3 y (by simpa using gH (show es.toList[j]?=some y by simpa using hy))
  ·rw[Array.toList_modify]
   apply ext_getElem?
   intro i;have h4i:=congrArg (·[i]?) h4;simp only[List.getElem?_map]at h4i ⊢;rw[List.getElem?_modify];subst hjl
   by_cases hi:l1.length=i
   ·subst hi
    rw[f2];simp[f3]
   ·have hL:(l1++(key,val)::l2)[i]?=(l1++(key,v0)::l2)[i]?:=by
     rw[List.getElem?_append,List.getElem?_append];split
     ·rfl
     ·rename_i h0
      obtain⟨m,hm⟩:∃m,i - l1.length=m+1:=⟨i - l1.length - 1,by omega⟩;rw[hm];rfl
    rw[hL,<-h4i];simp[hi]
end
structure NE(κ α:Type) where
 n:κ
 A:Option Addr
 c:Nat
 xs:List α
section
variable {κ α:Type} [DecidableEq κ]
def NE.kv(q:κ->Value)(x:NE κ α):Value × Value:=(q x.n,.slice x.A x.xs.length x.c)
def gM(es:List (NE κ α))(n:κ):List α:=match es.find? (λx=>decide (x.n=n))with|some x=>x.xs|none=>[]
def gh(es:List (NE κ α)):List Nat:=es.flatMap λx=>eX x.A
structure ML(P:Program)(k:TypeId)(q:κ->Value)(e:TypeId)(size:Nat)(f:α->List Value)(w:World)(r:Nat)(es:List (NE κ α)):Prop where
 map:MapIs P k w r (es.map (NE.kv q))
 own:∀x∈es,Own w e size x.A x.xs.length x.c (x.xs.flatMap f)
 dj:es.Pairwise λx y=>∀b∈eX x.A,b ∉ eX y.A
variable {P:Program} {k e t:TypeId} {q:κ->Value} {size:Nat} {f:α->List Value} {w w':World} {r:Nat} {es:List (NE κ α)} {S:List Nat}
def ML.fr0(h:ML P k q e size f w r es)(a:Fr [] w w'):ML P k q e size f w' r es:=⟨h.map.fr a qs,λx b=>(h.own x b).fr a qs,h.dj⟩
def ML.lt(h:ML P k q e size f w r es):∀b∈gh es,b<w.heap.size:=λb a=>by
 have⟨x,d,c⟩:=mem_flatMap.1 a;exact(h.own x d).lt b c
def ML.nil(h:MapIs P k w r []):ML P k q e size f w r ([]:List (NE κ α)):=⟨h,qs,List.Pairwise.nil⟩
def ML.rb(h:ML P k q e size f w r es):r ∉ gh es:=λc=>by
 have⟨x,i,b⟩:=mem_flatMap.1 c;have:=NoT.map (ts:=[e]) h.map
 rcases (h.own x i).2 with⟨a,_⟩|⟨g,j,l,a,_,d,_⟩
 ·injection a with a;rw[a]at b;simp[eX]at b
 ·injection a with a
  rw[a]at b;simp only[eX,Option.map_some,Option.toList_some,ip]at b;subst b;exact this r qs _ _ _ d qs
def nv:∀ {es:List (NE κ α)} {n:κ} {x:NE κ α},es.find? (λx=>decide (x.n=n))=some x->∃l1 l2,es=l1++x::l2/\x.n=n/\∀y∈l1,y.n≠n
 | [],n,x,h=>by simp at h
 | y::es,n,x,h=>by
  by_cases a:y.n=n
  ·rw[List.find?_cons_of_pos (by simpa using a)]at h
   injection h with h
   subst h;exact⟨[],es,rfl,a,qs⟩
  ·rw[List.find?_cons_of_neg (by simpa using a)]at h
   obtain⟨l1,l2,rfl,c,d⟩:=nv h;exact⟨y::l1,l2,rfl,c,by intro z b;rcases mem_cons.1 b with rfl|b;exact a;exact d z b⟩
def DC(P:Program)(t k:TypeId)(q:κ->Value)(e:TypeId)(size:Nat)(f:α->List Value)(w:World)(r:Nat)(es:List (NE κ α))(n:κ):Prop :=
 ∃h A c a,(Instr.mapEntry t (.map (some r)) (q n)).run P w=.ok (.tuple #[.slice A (gM es n).length c,.int .i64 h]) a/\Fr [r] w a/\Own a e size A (gM es n).length c ((gM es n).flatMap f)/\(∀b∈eX A,b∈gh es) /\
  ∀v w2 A' c',Fr (eX A) a w2->Own w2 e size A' ((gM es n).length+1) c' ((gM es n).flatMap f++f v)->(∀b∈eX A',b∈eX A \/ a.heap.size<=b) ->
   ∃g d,(Instr.entryStore t (.map (some r)) (.int .i64 h) (.slice A' ((gM es n).length+1) c')).run P w2=.ok () g/\Fr [r] w2 g/\ML P k q e size f g r d/\(∀m,gM d m=if m=n then gM es n++[v]else gM es m)/\∀b∈gh d,b∈gh es \/ w.heap.size<=b
def pw{es:List (NE κ α)}{n:κ}(h:es.find? (λx=>decide (x.n=n))=none):gM es n=[]:=by unfold gM;rw[h]
def ua{es:List (NE κ α)}{n:κ}{x:NE κ α}(h:es.find? (λx=>decide (x.n=n))=some x):gM es n=x.xs:=by unfold gM;rw[h]
def mc{l1 l2:List (NE κ α)}{n:κ}(h:∀y∈l1,y.n≠n):gM (l1++l2) n=gM l2 n:=by
 unfold gM;rw[List.find?_append,List.find?_eq_none.2 (by simpa using h)];rfl
def ud{l1 l2 l3:List (NE κ α)}{n:κ}(h:¬∀y∈l1,y.n≠n):gM (l1++l2) n=gM (l1++l3) n:=by
 unfold gM;rw[List.find?_append,List.find?_append]
 cases a:l1.find? (λx=>decide (x.n=n))with
 | none=>exact absurd (by simpa using List.find?_eq_none.1 a) h
 | some x=>rfl
def li(x:NE κ α)(l:List (NE κ α))(n:κ):gM (x::l) n=if x.n=n then x.xs else gM l n:=by
 unfold gM
 by_cases h:x.n=n
 ·rw[List.find?_cons_of_pos (by simpa using h),if_pos h]
 ·rw[List.find?_cons_of_neg (by simpa using h),if_neg h]
def ML.step{Z:TypeId}(hq:∀a b,q a=q b->a=b)(X:Maps.Keyed P k)(ht:P.underlying t=some (.map k Z))(H:∀u:World,(zeroValue Z).run P u=.ok (.slice none 0 0) u)(h:ML P k q e size f w r es)(n:κ){kl:Lit}(hk:keyOf P k (q n)=some kl):DC P t k q e size f w r es n:=by
 have ah:=h.map.lt;have ad:=h.rb
 cases I:es.find? (λx=>decide (x.n=n))with
 | none =>
  have aa:∀y∈es,y.n≠n:=by simpa using List.find?_eq_none.1 I
  have⟨V,W,L,o,M,N⟩:=MapIs.entry_new X ht H h.map hk (by
   intro p hp E;obtain⟨y,g,rfl⟩:=mem_map.1 hp;exact aa y g (hq _ _ E))
  unfold DC;rw[pw I];refine⟨V,none,0,W,L,o,Own.nil _ _ _,by simp[eX],λv w2 A' c' F U R=>?_⟩;have⟨J,O,B,Q⟩:=N w2 (.slice A' (0+1) c') (F.block r M.lt (by simp[eX]));have ag:=o.size
  have C:∀b∈eX A',w.heap.size<=b:=λb d=>by
   rcases R b d with h|h
   ·simp[eX]at h
   ·omega
  refine⟨J,es++[⟨n,A',c',[v]⟩],O,B,⟨?_,?_,?_⟩,λm=>?_,λb d=>?_⟩
  ·rw[map_append];exact Q
  ·intro x l
   rcases mem_append.1 l with l|l
   ·have s:∀b∈eX x.A,b≠r:=λb d E=>ad (mem_flatMap.2 ⟨x,l,by rw[<-E];exact d⟩)
    exact(((h.own x l).fr o (λb d=>by simpa using s b d)).fr F (by simp[eX])).fr B (λb d=>by simpa using s b d)
   ·rw[ip]at l
    subst l;have:=U.fr B (λb d=>by have:=C b d;simp;omega);simpa using this
  ·rw[pairwise_append]
   refine⟨h.dj,pairwise_singleton _ _,λx l y g b d i=>?_⟩;rw[ip]at g;subst g;have j:=C b i;have h9:=h.lt b (mem_flatMap.2 ⟨x,l,d⟩);omega
  ·by_cases d:m=n
   ·subst d
    rw[if_pos rfl,mc aa,li,if_pos rfl,nil_append]
   ·rw[if_neg d]
    by_cases D:∀y∈es,y.n≠m
    ·rw[mc D,li,if_neg (λe=>d e.symm)]
     have:gM es m=[]:=pw (List.find?_eq_none.2 (by simpa using D));rw[this];rfl
    ·have:=ud (l2:=[⟨n,A',c',[v]⟩]) (l3:=[]) D
     rw[this,append_nil]
  ·unfold gh at d
   rw[flatMap_append]at d
   rcases mem_append.1 d with d|d
   ·exact .inl d
   ·simp only[flatMap_cons,flatMap_nil,append_nil]at d
    exact .inr (C b d)
 | some x =>
  obtain⟨l1,l2,rfl,rfl,af⟩:=nv I;have ab:=h.map;rw[map_append,map_cons]at ab;have⟨V,W,L,o,M,N⟩:=MapIs.entry_old X ht ab hk;unfold DC;rw[ua I];have G:x∈l1++x::l2:=qs
  have s:∀y∈l1++x::l2,∀b∈eX y.A,b≠r:=λy g b d E=>ad (mem_flatMap.2 ⟨y,g,by rw[<-E];exact d⟩);have ag:=o.size;refine⟨V,x.A,x.c,W,L,o,(h.own x G).fr o (λb d=>by simpa using s x G b d),λb d=>mem_flatMap.2 ⟨x,G,d⟩,λv w2 A' c' F U R=>?_⟩;have⟨J,O,B,Q⟩:=N w2 (.slice A' (x.xs.length+1) c') (F.block r M.lt (λd=>s x G r d rfl));have C:∀b∈eX A',b∈eX x.A \/ w.heap.size<=b:=λb d=>(R b d).imp id (λh=>by omega);have⟨d1,d2,K⟩:=pairwise_append.1 h.dj;have⟨Y,d5⟩:=pairwise_cons.1 d2
  have ae:∀y∈l1++x::l2,(∀b∈eX y.A,b ∉ eX x.A)->Own J e size y.A y.xs.length y.c (y.xs.flatMap f):=λy g T =>
   (((h.own y g).fr o (λb d=>by simpa using s y g b d)).fr F T).fr B (λb d=>by simpa using s y g b d)
  have ac:∀y∈l1++x::l2,(∀b∈eX y.A,b ∉ eX x.A)->∀b∈eX y.A,b ∉ eX A':=λy g T b d i=>by
   rcases C b i with j|j
   ·exact T b d j
   ·have h9:=h.lt b (mem_flatMap.2 ⟨y,g,d⟩)
    omega
  refine⟨J,l1++⟨x.n,A',c',x.xs++[v]⟩::l2,O,B,⟨?_,?_,?_⟩,λm=>?_,λb d=>?_⟩
  ·rw[map_append,map_cons]
   have:NE.kv q (⟨x.n,A',c',x.xs++[v]⟩:NE κ α)=(q x.n,.slice A' (x.xs.length+1) c'):=by simp[NE.kv]
   rw[this];exact Q
  ·intro y g
   rcases mem_append.1 g with g|g
   ·exact ae y (by simp[g]) (λb d=>K y g x qs b d)
   ·rcases mem_cons.1 g with rfl|g
    ·have:=U.fr B (λb d=>by
      rcases C b d with j|j
      ·simpa using s x G b j
      ·simp;omega)
     simpa using this
    ·exact ae y (by simp[g]) (λb d i=>Y y g b i d)
  ·rw[pairwise_append]
   refine⟨d1,pairwise_cons.2 ⟨λy g b d i=>ac y (by simp[g]) (λb d i=>Y y g b i d) b i d,d5⟩,λy g z H b d i=>?_⟩
   rcases mem_cons.1 H with rfl|H
   ·exact ac y (by simp[g]) (λb d=>K y g x qs b d) b d i
   ·exact K y g z (by simp[H]) b d i
  ·by_cases d:m=x.n
   ·subst d
    rw[if_pos rfl,mc af,li,if_pos rfl]
   ·rw[if_neg d]
    by_cases D:∀y∈l1,y.n≠m
    ·rw[mc D,mc D,li,li,if_neg (λe=>d e.symm),if_neg (λe=>d e.symm)]
    ·exact ud D
  ·unfold gh at d ⊢
   rw[flatMap_append,flatMap_cons]at d ⊢
   rcases mem_append.1 d with d|d
   ·exact .inl (by simp[d])
   ·rcases mem_append.1 d with d|d
    ·rcases C b d with j|j
     ·exact .inl (by simp[j])
     ·exact .inr j
    ·exact .inl (by simp[d])
def ML.look{i:TypeId}(B:∀a b,q a=q b->a=b)(K:Maps.Keyed P k)(l:P.underlying t=some (.map k i))(D:∀u:World,(zeroValue i).run P u=.ok (.slice none 0 0) u)(h:ML P k q e size f w r es)(n:κ){kl:Lit}(j:keyOf P k (q n)=some kl):
 ∃g c,(∀W,W.heap[r]?=w.heap[r]?->(Instr.lookup t (.map (some r)) (q n) false).run P W=.ok (.slice g (gM es n).length c) W)/\Own w e size g (gM es n).length c ((gM es n).flatMap f)/\∀b∈eX g,b∈gh es:=by
 cases d:es.find? (λx=>decide (x.n=n))with
 | none =>
  have m:∀y∈es,y.n≠n:=by simpa using List.find?_eq_none.1 d
  rw[pw d];refine⟨none,0,λW hW=>?_,Own.nil _ _ _,by simp[eX]⟩
  exact(h.map.at_ hW).look_none K l j (by
   intro p z o;obtain⟨y,C,rfl⟩:=mem_map.1 z
   exact m y C (B _ _ o)) (D W) false
 | some x =>
  obtain⟨l1,l2,rfl,rfl,E⟩:=nv d;rw[ua d];refine⟨x.A,x.c,λW hW=>?_,h.own x qs,λb s=>mem_flatMap.2 ⟨x,qs,s⟩⟩;exact(h.map.at_ hW).look_some K l j (v:=.slice x.A x.xs.length x.c) (mem_map.2 ⟨x,qs,rfl⟩) false
end
def wJ{a b:Nm}(h:fg a=fg b):a=b:=by
 have⟨s,c,d,_⟩:=eS a;have⟨t,g,i,_⟩:=eS b;rw[c,g]at h
 injection h with h
 rw[<-d,<-i,h]
def je(a b:ON)(h:fu a=fu b):a=b:=by
 unfold fu at h
 injection h with h
 have c:=congrArg Array.toList h;simp only[List.cons.injEq,Value.int.injEq,true_and,and_true]at c;obtain⟨d,g,i,j,l⟩:=c
 cases a
 cases b
 simp only at d g i j l;subst d i j;rw[wJ g,wJ l]
instance:DecidableEq ON:=λa b=>if h:a.kind=b.kind/\a.owner=b.owner/\a.number=b.number/\a.index=b.index/\a.text=b.text then .isTrue (by cases a;cases b;simp only at h;obtain⟨rfl,rfl,rfl,rfl,rfl⟩:=h;rfl)else .isFalse (by rintro rfl;exact h ⟨rfl,rfl,rfl,rfl,rfl⟩)
def gx{n:ON}(h:eY n=0):∃l,keyOf prog 31 (fu n)=some l:=by
 have C:=iw (fI h)
 have i:iR n.kind=true:=by
  unfold eY at h
  by_cases j:iR n.kind=true
  ·exact j
  ·rw[if_neg j]at h
   simp at h
 unfold eY at h;rw[if_pos i]at h
 obtain⟨k,o,p⟩:∃k:Nat,n.kind.toNat=k/\k<21:=by
  simp only[iR,decide_eq_true_eq]at i;exact⟨n.kind.toNat,rfl,qo⟩
 rw[o]at h;have z:=mO p;have⟨s,u,v⟩:=ju h
 have g:Gv (us k) n=false/\GV (us k) n=false/\Ht (us k) n=false:=by
  unfold kU at h;split at h
  ·simp at h
  split at h
  ·simp at h
  split at h
  ·simp at h
  split at h
  ·simp at h
  ·rename_i a b c d
   exact⟨by simpa using b,by simpa using c,by simpa using d⟩
 have A:0<=n.number/\n.number<=9223372036854775807:=by
  cases e:(us k).number with
  | true =>
   have:=s e;simp only[fM,decide_eq_true_eq]at this
   omega
  | false =>
   have:=g.1;unfold Gv at this;rw[e]at this;simp at this;omega
 have x:0<=n.index/\n.index<=9223372036854775807:=by
  cases e:(us k).index with
  | true =>
   have:=u e;simp only[fM,decide_eq_true_eq]at this
   omega
  | false =>
   have:=g.2.1;unfold GV at this;rw[e]at this;simp at this;omega
 have B:n.text.length<=1000:=by
  cases e:(us k).text with
  | true =>
   have:=v e;simp only[jG,Bool.and_eq_true,decide_eq_true_eq]at this
   omega
  | false =>
   have:=g.2.2;unfold Ht at this;rw[e]at this;have m:n.text=[]:=by simpa [s9]using this
   rw[m];simp
 have y:0<=n.kind/\n.kind<=21:=by
  simp only[iR,decide_eq_true_eq]at i;omega
 exact yI (jL qo qo) (jL qo qo) (jL qo qo) (by unfold maxLen;omega) (by unfold maxLen;omega)
end Go.Proofs.YtlpmiimgacfmkaaGreatDoor
