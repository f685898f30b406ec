/- Part of the proof. -/
import Derived.Test.YtlpmiimgacfmkaaGreatDoorCVm
set_option linter.all false
set_option maxHeartbeats 4000000
set_option maxRecDepth 100000
namespace Go.Proofs.YtlpmiimgacfmkaaGreatDoor
open Go.Proofs.Tryz List
open Go.RowKit Go.Shelf
def EF(n c:Nat)(A:Option Addr)(xs:List Value)(w:World)(h:Rd w 5 A n xs)(o:∀u∈xs,u.oneCell'=true)(K:n<=1000000):Calls prog 136 #[.slice A n c] w λe w'=>∃A' c',e=.returned (.slice A' n c')/\Own w' 31 5 A' n c' xs/\Fr [] w w'/\∀k∈eX A',w.heap.size<=k:=by
 have s:=Lib.run_eql_slice_nil (P:=prog) w 101 31 A n c 0 0 underlying101
 cases A with
 | none =>
  have E:n=0:=by
   rcases Nat.eq_zero_or_pos n with d|d
   ·exact d
   ·have⟨b,off,e,_⟩:=h.2 d
    cases e
  subst E;have g:xs=[]:=by have:=h.1;simpa using this
  subst g;simp only[Option.isNone_none]at s
  go_enter func136,ntmps136
  go_wp2
  go_ret
  exact⟨none,0,rfl,Own.nil _ _ _,Fq _ _,by simp[eX]⟩
 | some a =>
  simp only[Option.isNone_some]at s;obtain⟨F,C,G,H,I⟩:=uk
  have p:∀j u,xs[j]?=some u->w.cell? (a.add j)=some u:=by
   intro j u i
   rcases Nat.eq_zero_or_pos n with d|d
   ·have:=h.1;rw[d]at this;have g:xs=[]:=by simpa using this
    subst g;simp at i
   ·have⟨b,off,e,J,B⟩:=h.2 d
    cases e
    rw[Addr.add_mid];exact B j u i
  have r:=h.1;have l:=Hd (An p (An o r));clear p o r h
  go_enter func136,ntmps136
  go_wp2_with (at_builtin;(with_reducible refine jN (w:=w.alloc (.cells #[] 31)) rfl (.tmp 5) (.tmp 6) 101 rfl 31 F _ 5 56 underlying101 C G H I rfl qd (some ⟨w.heap.size,0,none⟩) 0 0 [] rfl (Own.empty w _ _) a n c xs rfl l.out.2.2 (λj u i=>Lib.cell?_alloc_some _ (l.out.1 j u i)) l.out.2.1 (by unfold maxLen;omega) qo ?_);intro A2 z w2 f q t;have v:=Hd f;have m:=Hd q;have y:=Hd t;clear f q t)
  go_ret
  have f:=v.out;rw[nil_append]at f;have L:=m.size;refine⟨A2,z,rfl,by rw[Nat.zero_add]at f;exact f,((Fq [] w).alloc _).trans m.out (λx g=>.inr (by simp[eX]at g;omega)),λk D=>?_⟩
  rcases y.out k D with h|h
  ·simp[eX]at h;omega
  ·rw[jZ]at h;omega
def Cn(n c:Nat)(A:Option Addr)(xs:List ON)(w:World)(b:xs.length=n)(p:Rd w 5 A n (xs.flatMap ON.cs))(d:∀x∈xs,eY x=0)(f:Ci xs)(y:n<=12):Calls prog 102 #[.slice A n c,.func (.func 103) #[] #[]] w λe w'=>∃A' c',e=.returned (.slice A' n c')/\Own w' 31 5 A' n c' (xs.flatMap ON.cs)/\Fr [] w w'/\∀k∈eX A',w.heap.size<=k:=by
 have B:=Hd (EF n c A (xs.flatMap ON.cs) w p (λu m=>by
  have⟨x,_,m⟩:=mem_flatMap.1 m;exact Dt x u m) qo)
 have H:=Hd (An b (An d (An f y)));clear p
 have z:∀(A':Option Addr) (c':Nat) (W:World),Own W 31 5 A' n c' (xs.flatMap ON.cs)->Calls prog 137 #[.slice A' n c',.func (.func 103) #[] #[]] W λe w'=>e=.returned (.tuple #[])/\Fr [] W w':=λA' c' W l=>by
  rcases Nat.lt_or_ge n 1 with j|j
  ·exact(Ik A' n c' _ qo W).mono (by rintro e w' ⟨rfl,rfl⟩;exact⟨rfl,Fq _ _⟩)
  ·obtain⟨g,rfl,a⟩:=Cs.of_own l qo
   subst b;exact FZ g c' xs W a d f qo
 have q:∀(A':Option Addr) (c':Nat) (W:World),Own W 31 5 A' n c' (xs.flatMap ON.cs)->Calls prog 138 #[.slice A' n c'] W λe w'=>e=.returned (.slice A' n c')/\Fr [] W w':=λA' c' W l=>by
  rcases Nat.lt_or_ge n 1 with j|j
  ·exact(vp A' n c' qo W).mono (by rintro e w' ⟨rfl,rfl⟩;exact⟨rfl,Fq _ _⟩)
  ·obtain⟨g,rfl,a⟩:=Cs.of_own l qo
   subst b;exact F1 g c' xs W a d f qo
 have F:=Hd z;have E:=Hd q;clear z q d f b y
 go_enter func102,ntmps102
 go_wp2_with (first
  | (go_at_call 136;(with_reducible refine B.out.mono ?_);rintro e G ⟨A',c',rfl,a,r,v⟩;have i:=Hd a;have C:=Hd r;have D:=Hd v;clear a r v)
  | (go_at_call 137;(with_reducible refine(F.out A' c' G i.out).mono ?_);rintro e w2 ⟨rfl,s⟩;have h:=Hd s;clear s)
  | (go_at_call 138;(with_reducible refine(E.out A' c' w2 (i.out.fr h.out qs)).mono ?_);rintro e I ⟨rfl,t⟩;have o:=Hd t;clear t))
 go_ret
 exact⟨A',c',rfl,(i.fr h.out qs).fr o.out qs,(C.then h.out).then o.out,D.out⟩
def vu(L c N:Nat)(g:List AX)(w:World)(r:ActL w L N g)(p:Run g):Calls prog 101 #[.slice (some ⟨L,0,none⟩) g.length c] w (fi w (.bool true)):=by
 have⟨n,q⟩:=eR (g.length);have G:=p.len;have b:=Hd (An q (An p r));rw[q]at G ⊢;clear q p r
 go_enter func101,ntmps101
 go_wp2
 go_loopw [3] (λi W=>∃m:Nat,1<=m/\m<=max n 1/\i=m/\Fr [] w W) (λi _=>n+1 - (intOf i).toNat)
 case atStart=>exact⟨1,qo,qo,rfl,Fq _ _⟩
 case round =>
  obtain⟨m,P,Q,rfl,o⟩:=hrel
  by_cases H:m<n
  ·obtain⟨j,F⟩:∃j,j+1=m:=⟨m - 1,qo⟩
   have M:(m:Int)<(n:Int):=qo
   have O:(j:Int)<(n:Int):=qo
   have R:(m:Int) - 1=(j:Int):=qo
   have T:IntKind.i64.wrap (m:Int)=(m:Int):=by simp only[IntKind.wrap_i64];omega
   have S:IntKind.i64.wrap (j:Int)=(j:Int):=by simp only[IntKind.wrap_i64];omega
   obtain⟨x,d⟩:∃x,g[j]?=some x:=⟨_,gg (by rw[b.1];omega)⟩;obtain⟨y,f⟩:∃x,g[m]?=some x:=⟨_,gg (by rw[b.1];exact H)⟩;have E:=b.2.1.inc j x y d (by rw[F];exact f);have t:=b.2.2.ok x (gH d);have v:=b.2.2.ok y (gH f);have u:=gY (kh (b.2.1.wf x (gH d)).1);have z:=gY (kh (b.2.1.wf y (gH f)).1);have l:∀W,Calls prog 91 #[lU x.a.k,lU y.a.k] W (jg W (pL x.a.k y.a.k)):=λW=>lI x.a.k y.a.k W u.1 z.1 qo qo;unfold lU at l;rw[t.s,v.s]at l;have I:pL x.a.k y.a.k<0:=by have:=tot_cmpK.anti x.a.k y.a.k;omega
   generalize pL x.a.k y.a.k=D at I l;have J:decide ((0:Int)<=D)=false:=by simp;omega
   have HSS:=Hd (λ(W:World) (hW:Fr [] wr W)=>(show W.cell? ⟨L,j*6,none⟩=some x.a.k.rnd/\W.cell? ⟨L,j*6+1,none⟩=some x.a.k.phase/\W.cell? ⟨L,j*6+2,none⟩=some x.a.k.idx/\W.cell? ⟨L,j*6+3,none⟩=some x.sl/\W.cell? ⟨L,m*6,none⟩=some y.a.k.rnd/\W.cell? ⟨L,m*6+1,none⟩=some y.a.k.phase/\W.cell? ⟨L,m*6+2,none⟩=some y.a.k.idx/\W.cell? ⟨L,m*6+3,none⟩=some y.sl from by
    have h:=b.2.2.fr0 (o.then hW);exact⟨h.c d 0 _ rfl,h.c d 1 _ rfl,h.c d 2 _ rfl,h.c d 3 _ rfl,h.c f 0 _ rfl,h.c f 1 _ rfl,h.c f 2 _ rfl,h.c f 3 _ rfl⟩))
   have A:=Hd l;have B:=Hd o;clear l o E d f t v u z
   go_upto_region 4 with fail
   refine eW (λW=>Fr [] wr W) qk qk ((Fq _ wr).drew) ?_
   repeat(
    first
    | go_big_quiet_skip
    | (go_big_quiet_want;first|(go_big_quiet_op;go_big_quiet_on)|(apply Exists.intro;refine⟨λW hW=>?_,?_⟩;(· have⟨U,V,X,Y,Z,y1,y2,y3⟩:=HSS.out W hW;go_simp;first|done|with_reducible exact rfl|with_reducible exact⟨rfl,rfl⟩|((go_at_call 91;(with_reducible refine(A.out W).mono ?_);rintro e w' ⟨rfl,h⟩;exact⟨rfl,hW.then h⟩)));simp only[qq];go_big_quiet_on))
    )
   refine wpQuiet_nil ?_;intro W hW;have C:=Hd (B.then hW);clear hW
   go_wp2
   go_roundw
   case rel=>exact⟨m+1,qo,qo,by go_num,C.out⟩
   case measure=>simp[intOf];omega
  ·have K:¬(m:Int)<(n:Int):=qo
   go_wp2
   go_ret
   exact⟨rfl,o⟩
def xO(i:Nat):(Ce i).length=1:=rfl
def zn(a d b n c h v:Nat)(x:Int)(w:World)(l:h<n)(p:n<=1000000)(q:(v:Int)<x)(j:a<w.heap.size)(k:d<w.heap.size)(i:b<w.heap.size)(e:w.cell? ⟨a,0,none⟩=some (.slice (some ⟨b,0,none⟩) n c))(f:w.cell? ⟨d,0,none⟩=some (.int .i64 x))(g:w.cell? ⟨b,h,none⟩=some (.int .i64 (v:Int))):
 Calls prog 195 #[.int .i64 (h:Int),.pointer (some ⟨a,0,none⟩),.pointer (some ⟨d,0,none⟩)] w (fi w (.bool false)):=by
 have HSS:=Hd (λ(W:World) (hW:Fr [] w W)=>(⟨(hW.fcell j qs 0).trans e,(hW.fcell k qs 0).trans f,(hW.fcell i qs h).trans g⟩:W.cell? ⟨a,0,none⟩=some (.slice b n c)/\W.cell? ⟨d,0,none⟩=some x/\W.cell? ⟨b,h,none⟩=some v));have r:IntKind.i64.wrap (h:Int)=(h:Int):=by simp only[IntKind.wrap_i64];omega
 have o:(h:Int)<(n:Int):=qo
 have m:decide (x<=(v:Int))=false:=by simp;omega
 go_enter func195,ntmps195
 go_upto_region 1 with fail
 refine eW (λW=>Fr [] w W) qk qk ((Fq _ w).drew) ?_
 repeat(
  first
  | go_big_quiet_skip
  | (go_big_quiet_want;first|(go_big_quiet_op;go_big_quiet_on)|(apply Exists.intro;refine⟨λW hW=>?_,?_⟩;(· have⟨s,t,u⟩:=HSS.out W hW;go_simp;first|done|with_reducible exact rfl|with_reducible exact⟨rfl,rfl⟩ );simp only[qq];go_big_quiet_on))
  )
 refine wpQuiet_nil ?_;intro W hW
 go_wp2
 go_ret
 exact⟨rfl,hW⟩
def EG(n c d:Nat)(v:n<=1000000)(w:World)(hF:∀W (h:Nat),h<n->Fr [] w W->Calls prog 195 #[.int .i64 (h:Int),.pointer (some ⟨c,0,none⟩),.pointer (some ⟨d,0,none⟩)] W (fi W (.bool false))):Calls prog 194 #[.int .i64 (n:Int),.func (.func 195) #[] #[.pointer (some ⟨c,0,none⟩),.pointer (some ⟨d,0,none⟩)]] w (fi w (.int .i64 (n:Int))):=by
 have g:=Hd hF
 go_enter func194,ntmps194
 go_wp2
 go_loopw [5,6] (λi j W=>∃m:Nat,m<=n/\i=m/\j=n/\Fr [] w W) (λi _ _=>n - (intOf i).toNat)
 case atStart=>exact⟨0,qo,rfl,rfl,Fq _ _⟩
 case round =>
  obtain⟨m,u,rfl,rfl,k⟩:=hrel;have a:=Hd k
  by_cases s:m<n
  ·have t:(m:Int)<(n:Int):=qo
   obtain⟨h,l⟩:∃h,h=(m+n) / 2:=⟨_,rfl⟩;have o:h<n:=qo
   have q:((m:Int)+(n:Int)) / 2=(h:Int):=qo
   have r:m<=h:=qo
   clear l
   go_wp2_with ((go_at_call 195;(with_reducible refine(g.out _ h o a.out).mono ?_);rintro e x ⟨rfl,b⟩;have f:=Hd b;clear b))
   go_roundw
   case rel=>exact⟨h+1,qo,by go_num,rfl,a.then f.out⟩
   case measure=>simp[intOf];omega
  ·have p:¬(m:Int)<(n:Int):=qo
   obtain rfl:m=n:=qo
   go_wp2
   go_ret
   exact⟨rfl,a.out⟩
def uu(b c:Nat)(xs:List Nat)(x:Int)(w:World)(q:Cs w b (xs.flatMap Ce))(z:∀v∈xs,(v:Int)<x)(p:xs.length<=1000000):Calls prog 164 #[.slice (some ⟨b,0,none⟩) xs.length c,.int .i64 x] w (fi w (.int .i64 (xs.length:Int))):=by
 have⟨a,i,r,m⟩:=kJ w #[.slice b xs.length c] 36;have⟨w2,y,k,h⟩:=kJ a #[x] 3;have l:=(q.fr0 (m.then h));have g:=r.fr h qs
 have d:Calls prog 194 #[xs.length,.func (.func 195) #[] #[.pointer w.heap.size,.pointer a.heap.size]] w2 (fi w2 xs.length):=by
  refine EG xs.length w.heap.size a.heap.size p w2 λW j t hW=>?_;obtain⟨v,u⟩:∃v,xs[j]?=some v:=⟨_,gg t⟩;have s:=ia (f:=Ce) xO u (o:=0) qo;rw[Nat.mul_one,Nat.add_zero]at s;exact zn w.heap.size a.heap.size b xs.length c j v x W t p (z v (gH u)) (g.fr hW qs).lt (k.fr hW qs).lt (l.fr0 hW).1 ((g.fr hW qs).c 0) ((k.fr hW qs).c 0) ((l.fr0 hW).2 j _ s)
 have I:a.heap.size=w.heap.size+1:=by rw[<-i];simp
 have⟨n,A⟩:=eR (xs.length);rw[I]at d;have G:=g.k0;rw[A]at d i G ⊢;have D:=Hd d;have E:=Hd i;have F:=Hd y;have B:=Hd (m.then h);clear i y m h r k l g d z p q A
 go_enter func164,ntmps164
 go_upto_region 1 with fail
 rw[E.out,F.out]
 go_wp2_with ((go_at_call 194;(with_reducible refine D.out.mono ?_);rintro e J ⟨rfl,H⟩;have C:=Hd H))
 go_ret
 exact⟨rfl,B.then C.out⟩
def oU(l:List Nat):Int:=match l.getLast? with|none=>-1|some v=>(v:Int)
def EH(g y:Nat)(v1 v2 v3:Value)(l:List (NE ON Nat))(n:ON)(x:Int)(w:World)(J:BoxN w g 205 #[v1,v2,v3,.map (some y)])(C:Hh w y l)(N:eY n=0)(D:∀v∈gM l n,(v:Int)<x)(L:(gM l n).length<=1000):
 Calls prog 104 #[.pointer (some ⟨g,0,none⟩),fu n,.int .i64 x] w (fi w (.int .i64 (oU (gM l n)))):=by
 have⟨kl,K⟩:=gx N;have⟨A,c,t,b,_⟩:=ML.look je jB underlying194 o7 C n K;have⟨xs,S⟩:=eR (gM l n);rw[S]at t b D L ⊢;have⟨E,P,_,_⟩:=eS n.owner;have⟨F,Q,_,_⟩:=eS n.text;rw[gc P Q]at t ⊢;have⟨G,R,h,r⟩:=kJ w #[.int .i64 n.kind,.string E,.int .i64 n.number,.int .i64 n.index,.string F] 31;have HSS:=Hd (λ(W:World) (hW:Fr [] G W)=>(⟨(J.fr (r.then hW) qs).c 3,t W ((r.then hW).block _ C.map.lt qs),(h.fr hW qs).c 0,(h.fr hW qs).c 1,(h.fr hW qs).c 2,(h.fr hW qs).c 3,(h.fr hW qs).c 4⟩:W.cell? ⟨g,3,none⟩=some (.map (some y))/\(Instr.lookup 194 (.map (some y)) (.agg #[.int .i64 n.kind,.string E,.int .i64 n.number,.int .i64 n.index,.string F]) false).run prog W=.ok (.slice A xs.length c) W/\W.cell? ⟨w.heap.size,0,none⟩=some (.int .i64 n.kind)/\W.cell? ⟨w.heap.size,1,none⟩=some (.string E)/\W.cell? ⟨w.heap.size,2,none⟩=some (.int .i64 n.number)/\W.cell? ⟨w.heap.size,3,none⟩=some (.int .i64 n.index)/\W.cell? ⟨w.heap.size,4,none⟩=some (.string F)));have V:=Hd R;have k:=Hd r;have⟨m,u⟩:=eR (xs.length)
 have O:∀W,Fr [] w W->Calls prog 164 #[.slice A m c,.int .i64 x] W (fi W (.int .i64 (m:Int))):=λW hW=>by
  rcases Nat.eq_zero_or_pos m with d|d
  ·rw[u,d]at b
   have Z:A=none \/ ∃g,A=some ⟨g,0,none⟩:=by
    rcases b.2 with⟨a,_⟩|⟨g,X,Y,a,_⟩
    ·injection a with a;exact .inl a
    ·injection a with a;exact .inr ⟨g,a⟩
   rcases Z with rfl|⟨g,rfl⟩
   ·have aa:c=0:=by
     rcases b.2 with⟨a,_⟩|⟨g,X,Y,a,_⟩
     ·injection a
     ·injection a with a;cases a
    subst aa;rw[d];exact xl x W
   ·have ab:=b.lt g (by simp[eX])
    rw[d];exact uu g c [] x W ⟨Nat.lt_of_lt_of_le ab hW.size,qs⟩ qs qs
  ·obtain⟨g,rfl,s⟩:=Cs.of_own b qo
   rw[<-u];exact uu g c xs x W (s.fr0 hW) D qo
 have p:=Hd (An O (An b u));rw[u]at HSS L;clear R h r J C N K t b D P Q O S
 go_enter func104,ntmps104
 go_upto_region 1 with fail
 rw[V.out]
 go_upto_region 3 with fail
 refine eW (λW=>Fr [] G W) qk qk ((Fq _ G).drew) ?_
 repeat(
  first
  | go_big_quiet_skip
  | (go_big_quiet_want;first|(go_big_quiet_op;go_big_quiet_on)|(apply Exists.intro;refine⟨λW hW=>?_,?_⟩;(· have⟨aj,lk,y0,y1,y2,y3,y4⟩:=HSS.out W hW;go_simp;first|done|with_reducible exact rfl|with_reducible exact⟨rfl,rfl⟩ );simp only[qq];go_big_quiet_on))
  )
 refine wpQuiet_nil ?_;intro W hW
 rcases Nat.eq_zero_or_pos m with d|d
 ·have ac:xs=[]:=length_eq_zero_iff.1 qo
  subst d;have q:=Hd (p.1 W (k.then hW));simp only[Int.natCast_zero]at q
  go_wp2_with ((go_at_call 164;(with_reducible refine q.out.mono ?_);rintro e H ⟨rfl,i⟩;have z:=Hd i;clear i))
  go_ret
  subst ac;exact⟨rfl,(k.then hW).then z.out⟩
 ·obtain⟨I,rfl,s⟩:=Cs.of_own p.2.1 qo
  obtain⟨j,ae⟩:∃j,j+1=m:=⟨m - 1,qo⟩;obtain⟨v,a⟩:∃v,xs[j]?=some v:=⟨_,gg qo⟩;have B:=ia (f:=Ce) xO a (o:=0) qo;rw[Nat.mul_one,Nat.add_zero]at B
  have M:oU xs=(v:Int):=by
   unfold oU;rw[List.getLast?_eq_getElem?,p.2.2,show m - 1=j by omega,a]
  have U:=Hd M;have T:=Hd (λ(W:World) (hW:Fr [] w W)=>((s.fr0 hW).2 j _ B:W.cell? ⟨I,j,none⟩=some (.int .i64 (v:Int))));have ag:((m:Int) == 0)=false:=by simp;omega
  have ah:(m:Int) - 1=(j:Int):=qo
  have ai:IntKind.i64.wrap (j:Int)=(j:Int):=by simp only[IntKind.wrap_i64];omega
  have af:(j:Int)<(m:Int):=qo
  have q:=Hd (p.1 W (k.then hW));clear s B M
  go_wp2_with ((go_at_call 164;(with_reducible refine q.out.mono ?_);rintro e H ⟨rfl,i⟩;have ad:H.cell? ⟨I,j,none⟩=some (.int .i64 (v:Int)):=T.out H ((k.then hW).then i);have z:=Hd i;clear i))
  go_ret
  exact⟨by rw[U.out];rfl,(k.then hW).then z.out⟩
def EI(g b c e n i:Nat)(K:Option Addr)(f h j:Value)(w:World)(o:i<n)(p:n<=1000)(d:BoxN w g 205 #[.slice K n e,f,h,j])(a:Cs w b [.int .i64 (i:Int)]):
 Calls prog 105 #[.pointer (some ⟨g,0,none⟩),.slice (some ⟨b,0,none⟩) 1 c] w (fi w (.int .i64 0)):=by
 have q:=d.k0;have k:=a.k0;have l:decide (n<=i)=false:=by simp;omega
 have m:decide ((i:Int)<0)=false:=qs
 go_enter func105,ntmps105
 go_upto_region 4 with fail
 refine wp_loop_rounds 2 ?_;rw[rounds_succ]
 go_wp2
 rw[rounds_succ]
 go_wp2
 go_ret
 exact⟨rfl,Fq _ _⟩
open Go.RowKit
structure LK where
 f:Int
 t:Nat
 n:ON
def LK.cs(x:LK):List Value:=[.int .i64 x.f,.int .i64 (x.t:Int),.int .i64 x.n.kind,fg x.n.owner,.int .i64 x.n.number,.int .i64 x.n.index,fg x.n.text]
def zo(x:LK):x.cs.length=7:=rfl
def EJ(x:LK):∀u∈x.cs,u.oneCell'=true:=by
 intro u a;simp only[LK.cs,mem_cons,not_mem_nil,or_false]at a
 rcases a with rfl|rfl|rfl|rfl|rfl|rfl|rfl <;> first|rfl|exact encN_one _
structure LR where
 A:Option Addr
 c:Nat
 xs:List LK
def LR.v(r:LR):Value:=.slice r.A r.xs.length r.c
def LR.own(w:World)(r:LR):Prop:=Own w 98 7 r.A r.xs.length r.c (r.xs.flatMap LK.cs)
def ka(rs:List LR):List Nat:=rs.flatMap λr=>eX r.A
structure RL(w:World)(B:Nat)(rs:List LR):Prop where
 box:BoxN w B 61 (rs.map LR.v).toArray
 own:∀r∈rs,r.own w
 dj:rs.Pairwise λr s=>∀k∈eX r.A,k ∉ eX s.A
section
variable {w w' w1 w2:World} {B:Nat} {rs:List LR} {S:List Nat} {ts:List TypeId}
def RL.fr(h:RL w B rs)(a:Fr S w w')(c:B ∉ S)(d:∀k∈ka rs,k ∉ S):RL w' B rs :=
 ⟨h.box.fr a c,λr b=>(h.own r b).fr a (λk e=>d k (mem_flatMap.2 ⟨r,b,e⟩)),h.dj⟩
def RL.fr0(h:RL w B rs)(a:Fr [] w w'):RL w' B rs:=h.fr a qs qs
def RL.frT(h:RL w B rs)(b:Fr S w w')(a:NoT [98,61] w S):RL w' B rs :=
 ⟨h.box.frT b a qs,λr c=>Own.frT (h.own r c) b a qs,h.dj⟩
def RL.noT(h:RL w B rs)(b:98 ∉ ts)(c:61 ∉ ts):NoT ts w (B::ka rs) :=
 ((NoT.box h.box c).app (T:=ka rs) λk f a e z d=>by
  have⟨r,j,i⟩:=mem_flatMap.1 f;exact NoT.own (h.own r j) b k i a e z d).mem qs
def RL.lt(h:RL w B rs):∀k∈ka rs,k<w.heap.size:=λk a=>by
 have⟨r,c,b⟩:=mem_flatMap.1 a;exact(h.own r c).lt k b
def RL.nB(h:RL w B rs):B ∉ ka rs:=λa=>by
 have⟨r,c,b⟩:=mem_flatMap.1 a;have:=NoT.own (ts:=[61]) (h.own r c) qd B b _ _ _ h.box;simp at this
def mq{a l2:List LR}{r:LR}{k:Nat}:k∈ka (a++r::l2) ↔ k∈ka a \/ k∈eX r.A \/ k∈ka l2:=by
 unfold ka;rw[flatMap_append,flatMap_cons,mem_append,mem_append]
def RL.put{d l2:List LR}{r:LR}{A':Option Addr}{c':Nat}{x:LK}(h:RL w B (d++r::l2))(p:Fr (eX r.A) w w1)(O:Own w1 98 7 A' (r.xs.length+1) c' (r.xs.flatMap LK.cs++x.cs))(i:∀k∈eX A',k∈eX r.A \/ w.heap.size<=k)(G:w1.setCell ⟨B,d.length,none⟩ (.slice A' (r.xs.length+1) c')=w2):
 RL w2 B (d++⟨A',c',r.xs++[x]⟩::l2)/\Fr (B::eX r.A) w w2/\∀k∈ka (d++⟨A',c',r.xs++[x]⟩::l2),k∈ka (d++r::l2) \/ w.heap.size<=k:=by
 have E:=h.nB;have u:B ∉ eX r.A:=λe=>E (mq.2 (.inr (.inl e)));have L:=h.box.fr p u;have q:Fr [B] w1 w2:=by rw[<-G];exact(Fq [B] w1).st _
 have P:=h.box.lt
 have J:B ∉ eX A':=λe=>by
  rcases i B e with a|a
  ·exact u a
  ·omega
 have y:=h.dj;rw[pairwise_append,pairwise_cons]at y;obtain⟨H,⟨o,I⟩,j⟩:=y;have z:Fr (B::eX r.A) w w2:=(p.mono (λk b=>.inl (by simp[b]))).trans q qs
 have F:∀s∈d++l2,s.own w2:=λs c=>by
  have e:s∈d++r::l2:=by
   rcases mem_append.1 c with a|a
   ·simp[a]
   ·simp[a]
  refine(h.own s e).fr z λk b N=>?_
  rcases mem_cons.1 N with rfl|C
  ·exact E (mem_flatMap.2 ⟨s,e,b⟩)
  ·rcases mem_append.1 c with a|a
   ·exact j s a r qs k b C
   ·exact o s a k C b
 have D:∀s∈d++l2,∀k∈eX s.A,k<w.heap.size:=λs c k b=>by
  have e:s∈d++r::l2:=by
   rcases mem_append.1 c with a|a
   ·simp[a]
   ·simp[a]
  exact(h.own s e).lt k b
 refine⟨⟨?_,?_,?_⟩,z,?_⟩
 ·have:=L.setAt d.length (.slice A' (r.xs.length+1) c')
  rw[G]at this
  have M:((d++r::l2).map LR.v).toArray.setIfInBounds d.length (.slice A' (r.xs.length+1) c')=((d++⟨A',c',r.xs++[x]⟩::l2).map LR.v).toArray:=by
   simp[LR.v]
  rw[M]at this;exact this
 ·intro s c
  rcases mem_append.1 c with a|a
  ·exact F s (by simp[a])
  ·rcases mem_cons.1 a with rfl|a
   ·show Own w2 98 7 A' (r.xs++[x]).length c' ((r.xs++[x]).flatMap LK.cs)
    rw[gu,flatMap_append];have:=O.fr q (λk b=>by simp only[ip];rintro rfl;exact J b);simpa using this
   ·exact F s (by simp[a])
 ·rw[pairwise_append,pairwise_cons]
  refine⟨H,⟨λs c k b f=>?_,I⟩,λs c t m k b f=>?_⟩
  ·rcases i k b with a|a
   ·exact o s c k a f
   ·have:=D s (by simp[c]) k f;omega
  ·rcases mem_cons.1 m with rfl|m
   ·rcases i k f with a|a
    ·exact j s c r qs k b a
    ·have:=D s (by simp[c]) k b;omega
   ·exact j s c t (by simp[m]) k b f
 ·intro k b
  rcases mq.1 b with a|a|a
  ·exact .inl (mq.2 (.inl a))
  ·rcases i k a with l|l
   ·exact .inl (mq.2 (.inr (.inl l)))
   ·exact .inr l
  ·exact .inl (mq.2 (.inr (.inr a)))
end
def GB(g mw Lk Us:Nat)(K:Option Addr)(Rl Ru:List LR)(er:List (NE ON Nat)):List Nat:=g::mw::Lk::Us::(eX K++(ka Rl++(ka Ru++gh er)))
structure GS(w:World)(g mw Lk Us n:Nat)(K:Option Addr)(nk kc:Nat)(ks:List Value)(Rl Ru:List LR)(er:List (NE ON Nat)):Prop where
 box:BoxN w g 205 #[.slice K nk kc,.slice (some ⟨Lk,0,none⟩) n n,.slice (some ⟨Us,0,none⟩) n n,.map (some mw)]
 own:Own w 89 4 K nk kc ks
 rl:RL w Lk Rl
 ru:RL w Us Ru
 wm:Hh w mw er
 ne:Lk≠Us
 dj:∀k∈ka Rl,k ∉ ka Ru
 ln:Rl.length=n/\Ru.length=n
section
variable {w w' X:World} {g mw Lk Us n nk kc:Nat} {K:Option Addr} {ks:List Value} {Rl Ru:List LR} {er:List (NE ON Nat)} {S:List Nat} {ts:List TypeId}
def GS.fr0(h:GS w g mw Lk Us n K nk kc ks Rl Ru er)(a:Fr [] w w'):GS w' g mw Lk Us n K nk kc ks Rl Ru er :=
 ⟨h.box.fr a qs,h.own.fr a qs,h.rl.fr0 a,h.ru.fr0 a,ML.fr0 h.wm a,h.ne,h.dj,h.ln⟩
def GS.noT(h:GS w g mw Lk Us n K nk kc ks Rl Ru er)(d:205 ∉ ts)(e:89 ∉ ts)(a:98 ∉ ts)(b:61 ∉ ts)(f:3 ∉ ts):NoT ts w (GB g mw Lk Us K Rl Ru er) :=
 ((((NoT.box h.box d).app (NoT.map h.wm.map)).app ((h.rl.noT a b).app (h.ru.noT a b))).app ((NoT.own h.own e).app (ML.noT h.wm f))).mem (by
  intro k c;simp only[GB,mem_cons,mem_append,ip,not_mem_nil,or_false]at c ⊢
  rcases c with h|h|h|h|h|h|h|h <;> simp[h])
def GS.noS(h:GS w g mw Lk Us n K nk kc ks Rl Ru er):NoT (91::xW) w (GB g mw Lk Us K Rl Ru er):=h.noT qd qd qd qd qd
def GS.lt(h:GS w g mw Lk Us n K nk kc ks Rl Ru er):∀k∈GB g mw Lk Us K Rl Ru er,k<w.heap.size:=λk a=>by
 simp only[GB,mem_cons,mem_append]at a
 rcases a with rfl|rfl|rfl|rfl|a|a|a|a
 ·exact h.box.lt
 ·exact h.wm.map.lt
 ·exact h.rl.box.lt
 ·exact h.ru.box.lt
 ·exact h.own.lt k a
 ·exact h.rl.lt k a
 ·exact h.ru.lt k a
 ·exact ML.lt h.wm k a
def GS.putL{f:List LR}{r:LR}(h:GS w g mw Lk Us n K nk kc ks Rl Ru er)(j:Fr (Lk::eX r.A) w w')(m:r∈Rl)(y:RL w' Lk f)(u:∀k∈ka f,k∈ka Rl \/ w.heap.size<=k)(z:f.length=n):GS w' g mw Lk Us n K nk kc ks f Ru er:=by
 have p:∀k∈eX r.A,k∈ka Rl:=λk b=>mem_flatMap.2 ⟨r,m,b⟩
 have l:∀ts:List TypeId,98 ∉ ts->61 ∉ ts->NoT ts w (Lk::eX r.A):=λts i t=>(h.rl.noT i t).mem (by
  intro k b
  rcases mem_cons.1 b with rfl|b
  ·simp
  ·simp[p k b])
 have a:mw ∉ Lk::eX r.A:=λa=>by
  rcases mem_cons.1 a with e|a
  ·have⟨q,clock,d,_⟩:=h.wm.map
   rw[e,show w.heap[Lk]?=_ from h.rl.box]at d
   cases d
  ·rcases (h.rl.own r m).2 with⟨c,_⟩|⟨g,D,E,c,_,v,_⟩
   ·injection c with c;rw[c]at a;simp[eX]at a
   ·injection c with c
    rw[c]at a;simp only[eX,Option.map_some,Option.toList_some,ip]at a;have⟨q,clock,d,_⟩:=h.wm.map;rw[a,v]at d
    cases d
 refine⟨h.box.frT j (l [205] qd qd) qs,h.own.frT j (l [89] qd qd) qs,y,h.ru.fr j ?_ ?_,ML.frT h.wm j a (l [3] qd qd),h.ne,λk b o=>?_,⟨z,h.ln.2⟩⟩
 ·simp only[mem_cons,not_or]
  refine⟨Ne.symm h.ne,λa=>?_⟩;have:=NoT.own (ts:=[61]) (h.rl.own r m) qd Us a _ _ _ h.ru.box;simp at this
 ·intro k b a
  rcases mem_cons.1 a with rfl|a
  ·have:=h.ru.noT (ts:=[61]) qd
   have⟨s,C,x⟩:=mem_flatMap.1 b;have:=NoT.own (ts:=[61]) (h.ru.own s C) qd k x _ _ _ h.rl.box;simp at this
  ·exact h.dj k (p k a) b
 ·rcases u k b with i|i
  ·exact h.dj k i o
  ·have:=h.ru.lt k o;omega
def GS.putU{f:List LR}{r:LR}(h:GS w g mw Lk Us n K nk kc ks Rl Ru er)(j:Fr (Us::eX r.A) w w')(m:r∈Ru)(y:RL w' Us f)(t:∀k∈ka f,k∈ka Ru \/ w.heap.size<=k)(z:f.length=n):GS w' g mw Lk Us n K nk kc ks Rl f er:=by
 have o:∀k∈eX r.A,k∈ka Ru:=λk b=>mem_flatMap.2 ⟨r,m,b⟩
 have l:∀ts:List TypeId,98 ∉ ts->61 ∉ ts->NoT ts w (Us::eX r.A):=λts i q=>(h.ru.noT i q).mem (by
  intro k b
  rcases mem_cons.1 b with rfl|b
  ·simp
  ·simp[o k b])
 have a:mw ∉ Us::eX r.A:=λa=>by
  rcases mem_cons.1 a with e|a
  ·have⟨p,clock,d,_⟩:=h.wm.map
   rw[e,show w.heap[Us]?=_ from h.ru.box]at d
   cases d
  ·rcases (h.ru.own r m).2 with⟨c,_⟩|⟨g,D,E,c,_,u,_⟩
   ·injection c with c;rw[c]at a;simp[eX]at a
   ·injection c with c
    rw[c]at a;simp only[eX,Option.map_some,Option.toList_some,ip]at a;have⟨p,clock,d,_⟩:=h.wm.map;rw[a,u]at d
    cases d
 refine⟨h.box.frT j (l [205] qd qd) qs,h.own.frT j (l [89] qd qd) qs,h.rl.fr j ?_ ?_,y,ML.frT h.wm j a (l [3] qd qd),h.ne,λk b v=>?_,⟨h.ln.1,z⟩⟩
 ·simp only[mem_cons,not_or]
  refine⟨h.ne,λa=>?_⟩;have:=NoT.own (ts:=[61]) (h.ru.own r m) qd Lk a _ _ _ h.rl.box;simp at this
 ·intro k b a
  rcases mem_cons.1 a with rfl|a
  ·have⟨s,C,x⟩:=mem_flatMap.1 b
   have:=NoT.own (ts:=[61]) (h.rl.own s C) qd k x _ _ _ h.ru.box;simp at this
  ·exact h.dj k b (o k a)
 ·rcases t k v with i|i
  ·exact h.dj k b i
  ·have:=h.rl.lt k b;omega
def GS.putW{c:List (NE ON Nat)}(h:GS w g mw Lk Us n K nk kc ks Rl Ru er)(b:Fr (mw::gh er) w w')(d:Hh w' mw c):GS w' g mw Lk Us n K nk kc ks Rl Ru c:=by
 have a:∀ts:List TypeId,3 ∉ ts->NoT ts w (mw::gh er):=λts e=>((NoT.map h.wm.map).app (ML.noT h.wm e)).mem qs;exact⟨h.box.frT b (a [205] qd) qs,h.own.frT b (a [89] qd) qs,h.rl.frT b (a _ qd),h.ru.frT b (a _ qd),d,h.ne,h.dj,h.ln⟩
def GS.putK{K':Option Addr}{l kc':Nat}{ks':List Value}(h:GS w g mw Lk Us n K nk kc ks Rl Ru er)(p:Fr (eX K) w X)(v:Own X 89 4 K' l kc' ks')(r:∀k∈eX K',k∈eX K \/ w.heap.size<=k)(m:Fr [g] X w')
 (s:BoxN w' g 205 #[.slice K' l kc',.slice (some ⟨Lk,0,none⟩) n n,.slice (some ⟨Us,0,none⟩) n n,.map (some mw)]):GS w' g mw Lk Us n K' l kc' ks' Rl Ru er:=by
 have j:Fr (g::eX K) w w':=(p.mono (λk d=>.inl (by simp[d]))).trans m qs;have i:∀ts:List TypeId,205 ∉ ts->89 ∉ ts->NoT ts w (g::eX K):=λts f q=>((NoT.box h.box f).app (NoT.own h.own q)).mem qs
 have a:mw ∉ g::eX K:=λa=>by
  rcases mem_cons.1 a with e|a
  ·have⟨o,clock,c,_⟩:=h.wm.map
   rw[e,show w.heap[g]?=_ from h.box]at c
   cases c
  ·rcases h.own.2 with⟨b,_⟩|⟨g,x,y,b,_,t,_⟩
   ·injection b with b;rw[b]at a;simp[eX]at a
   ·injection b with b
    rw[b]at a;simp only[eX,Option.map_some,Option.toList_some,ip]at a;have⟨o,clock,c,_⟩:=h.wm.map;rw[a,t]at c
    cases c
 have u:g ∉ eX K':=λd=>by
  rcases r g d with f|f
  ·have:=NoT.own (ts:=[205]) h.own qd g f _ _ _ h.box
   simp at this
  ·have:=h.box.lt;omega
 exact⟨s,v.fr m (by intro k d;simp only[ip];rintro rfl;exact u d),h.rl.frT j (i _ qd qd),h.ru.frT j (i _ qd qd),ML.frT h.wm j a (i [3] qd qd),h.ne,h.dj,h.ln⟩
end
end Go.Proofs.YtlpmiimgacfmkaaGreatDoor
