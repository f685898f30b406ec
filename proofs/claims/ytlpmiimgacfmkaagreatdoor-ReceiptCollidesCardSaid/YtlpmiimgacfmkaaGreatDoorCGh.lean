/- Part of the proof. -/
import Derived.Test.YtlpmiimgacfmkaaGreatDoorCGd
set_option linter.all false
set_option maxHeartbeats 8000000
set_option maxRecDepth 100000
namespace Go.Proofs.YtlpmiimgacfmkaaGreatDoor
open Go.Proofs.Tryz List
open Go.RowKit
def jn{a b:List ON}{n:ON}:qL (a++n::b) ↔ (qL a/\qL b)/\(∀x∈a,ltO x n)/\∀y∈b,ltO n y:=by
 unfold qL;rw[pairwise_append,pairwise_cons]
 constructor
 ·rintro⟨f,⟨c,g⟩,d⟩
  exact⟨⟨f,g⟩,λx e=>d x e n qs,c⟩
 ·rintro⟨⟨f,g⟩,d,c⟩
  refine⟨f,⟨c,g⟩,λx e y h=>?_⟩
  rcases mem_cons.1 h with rfl|h
  ·exact d x e
  ·exact(d x e).trans (c y h)
def pp(a b:ON)(w:World)(c:eY a=0)(d:eY b=0):Calls prog 103 #[fu a,fu b] w (jg w (gD a b)) :=
 oH a b w (fI c) (fI d) (by have:=iw (fI c);omega) (by have:=iw (fI d);omega)
def gc{n:ON}{a b:ByteArray}(c:fg n.owner=.string a)(d:fg n.text=.string b):fu n=.agg #[.int .i64 n.kind,.string a,.int .i64 n.number,.int .i64 n.index,.string b]:=by unfold fu;rw[c,d]
def TN.cs{w W:World}{b:Nat}{p q r:List ON}{e f:Option Addr}{n:ON}{v:Nm}{j k:Int}{g i:ByteArray}(l:TN w b p e f n v j k q r)(m:fg n.owner=.string g)(o:fg n.text=.string i)(hW:Fr [] w W):(W.cell? ⟨b,0,none⟩=some (.pointer e)/\W.cell? ⟨b,1,none⟩=some (.pointer f))/\W.cell? ⟨b,2,none⟩=some (.int .i64 n.kind)/\W.cell? ⟨b,3,none⟩=some (.string g)/\W.cell? ⟨b,4,none⟩=some (.int .i64 n.number)/\W.cell? ⟨b,5,none⟩=some (.int .i64 n.index)/\W.cell? ⟨b,6,none⟩=some (.string i):=by
 obtain⟨_,_,_,⟨a,c,d,h⟩,_⟩:=l;have h:=h.fr hW qs;unfold jU at h;rw[m,o]at h;exact⟨⟨h.c 0,h.c 1⟩,h.c 2,h.c 3,h.c 4,h.c 5,h.c 6⟩
def Mid.cs{w W:World}{b:Nat}{n:ON}{v:Nm}{e f:ByteArray}(g:Mid w b n v)(i:fg n.owner=.string e)(j:fg n.text=.string f)(hW:Fr [] w W):W.cell? ⟨b,2,none⟩=some (.int .i64 n.kind)/\W.cell? ⟨b,3,none⟩=some (.string e)/\W.cell? ⟨b,4,none⟩=some (.int .i64 n.number)/\W.cell? ⟨b,5,none⟩=some (.int .i64 n.index)/\W.cell? ⟨b,6,none⟩=some (.string f):=by
 obtain⟨⟨l,r,a,c,d,h⟩,_⟩:=g;have h:=h.fr hW qs;unfold jU at h;rw[i,j]at h;exact⟨h.c 2,h.c 3,h.c 4,h.c 5,h.c 6⟩
def Iv(w:World)(a:List ON)(n:ON)(e:Ending)(w':World):Prop:=∃q,e=.returned (.pointer q)/\(q=none \/ ∃b x v,q=some ⟨b,0,none⟩/\x∈a/\gD n x=0/\Mid w' b x v)/\Fr [] w w'
def Ds(p:Option Addr)(k:List ON)(m:Int)(n:ON)(w:World)(J:TT w p k m)(Y:eY n=0):Calls prog 97 #[.pointer p,fu n] w (Iv w k n):=by
 have⟨P,Z,_,_⟩:=eS n.owner;have⟨Q,aa,_,_⟩:=eS n.text;have K:=gc Z aa;have⟨w1,L,ab,M,H⟩:=ir w #[n.kind,P,n.number,n.index,Q] 31 w.heap.size;have u:=λ(x:ON) (f:eY x=0) (W:World)=>pp n x W Y f;rw[K]at u ⊢;have R:=Hd u;have T:=Hd M;have l:=Hd (An J H);have G:=Hd L;clear u M J H K ab L
 go_enter func97,ntmps97
 go_wp2
 try rw[G.out]
 clear G
 go_loopg [0] (k.length+1) (λg s0 W=>∃q t I,s0=.pointer q/\TT W q t I/\t.length<g/\(∀x∈t,x∈k)/\Fr [] w1 W)
 case atStart=>exact⟨p,k,m,rfl,l.1.fr0 l.2,qo,λx f=>f,Fq _ _⟩
 case round =>
  obtain⟨q,t,I,rfl,E,z,D,j⟩:=hrel
  cases q with
  | none =>
   have S:=Hd j;clear E z D j
   go_wp2
   go_ret
   exact⟨none,rfl,.inl rfl,l.2.then S.out⟩
  | some b0 =>
   obtain⟨b,lp,rp,i,v2,d,X,N,O,rfl,s⟩:=E.some;have⟨ad,B,_,_⟩:=eS i.owner;have⟨ae,C,_,_⟩:=eS i.text;have v:=λW=>R.out i s.2.2.2.2.1 W;rw[gc B C]at v
   have HSS:=Hd (λ(W:World) (hW:Fr [] wr W)=>An (show W.cell? ⟨w.heap.size,0,none⟩=some n.kind/\W.cell? ⟨w.heap.size,1,none⟩=some P/\W.cell? ⟨w.heap.size,2,none⟩=some n.number/\W.cell? ⟨w.heap.size,3,none⟩=some n.index/\W.cell? ⟨w.heap.size,4,none⟩=some Q from by
    have d:=T.fr (j.then hW) qs;exact⟨d.c 0,d.c 1,d.c 2,d.c 3,d.c 4⟩) (s.cs B C hW))
   have F:=Hd v;have⟨r,A⟩:=eR (gD n i);rw[A]at F;have a:=Hd (An s (An A (An z (An D j))));clear v s A z D j E B C
   go_upto_region 2 with fail
   refine eW (λW=>Fr [] wr W) qk qk ((Fq [] wr).drew) ?_
   repeat(
    first
    | go_big_quiet_skip
    | (go_big_quiet_want;first|(go_big_quiet_op;go_big_quiet_on)|(apply Exists.intro;refine⟨λW hW=>?_,?_⟩;(· have⟨⟨x0,x1,x2,x3,x4⟩,⟨ac,z1⟩,z2,z3,z4,z5,z6⟩:=HSS.out W hW;go_simp;first|done|with_reducible exact rfl|with_reducible exact⟨rfl,rfl⟩|((go_at_call 103;(with_reducible refine(F.out W).mono ?_);rintro e w' ⟨rfl,m⟩;exact⟨rfl,hW.then m⟩)));simp only[qq];go_big_quiet_on))
    )
   refine wpQuiet_nil ?_;intro U y;have h:=Hd y;have⟨⟨x0,x1,x2,x3,x4⟩,⟨ac,z1⟩,z2,z3,z4,z5,z6⟩:=HSS.out U y;clear y
   rcases (show r<0 \/ r=0 \/ 0<r by omega)with o|o|o
   ·have V:=decide_eq_true o
    go_wp2
    go_roundg (N.length+1)
    case measure=>have:=congrArg List.length a.1.1;simp only[gu,length_cons]at this;have:=a.2.2.1;omega
    case rel =>
     exact⟨lp,N,d,rfl,a.1.2.1.fr0 h.out,qo,λx f=>a.2.2.2.1 x (by rw[a.1.1];simp[f]),a.2.2.2.2.then h.out⟩
   ·subst o
    go_wp2
    go_ret
    exact⟨_,rfl,.inr ⟨b,i,v2,rfl,a.2.2.2.1 i (by rw[a.1.1];simp),a.2.1,a.1.mid.fr0 h.out⟩,l.2.then (a.2.2.2.2.then h.out)⟩
   ·have V:decide (r<0)=false:=decide_eq_false qo
    go_wp2
    go_roundg (O.length+1)
    case measure=>have:=congrArg List.length a.1.1;simp only[gu,length_cons]at this;have:=a.2.2.1;omega
    case rel =>
     exact⟨rp,O,X,rfl,a.1.2.2.1.fr0 h.out,qo,λx f=>a.2.2.2.1 x (by rw[a.1.1];simp[f]),a.2.2.2.2.then h.out⟩
def uZ(w:World)(b:List ON)(n:ON)(e:Ending)(w':World):Prop:=∃a,iL w a e w'/\qL a/\(∀x∈a,x=n \/ x∈b)/\a.length<=b.length+1
def GX(ab:Nat):∀(p:Option Addr) (F:List ON) (i:Int) (m:Nat) (n:ON) (v:Nm) (w:World),F.length<ab->TT w p F i->qL F->Mid w m n v->F.length<50000 ->
 Calls prog 236 #[.pointer p,.pointer (some ⟨m,0,none⟩)] w (uZ w F n):=by
 induction ab with
 | zero=>intro p F i m n v w G;omega
 | succ ab J =>
 intro p F i m n v w G I g k S
 cases p with
 | none =>
  obtain⟨rfl,rfl⟩:=I.isNone;have hj:=jJ none none [] [] 0 0 m n v w (TT.nil w) k (TT.nil w) qs;have HJ:=Hd hj;clear hj k I g S G J
  go_enter func236,ntmps236
  go_wp2_with ((go_at_call 268;(with_reducible refine HJ.out.mono ?_);rintro e w2 ⟨q,i,rfl,C⟩;have H:=Hd C;clear C))
  go_ret
  exact⟨[n],⟨q,i,rfl,H.out⟩,pairwise_singleton _ _,λx a=>.inl (by simpa using a),qs⟩
 | some b0 =>
  obtain⟨b,l,o,h,v2,h1,C,d,f,rfl,c⟩:=I.some;have⟨so,U,_,_⟩:=eS n.owner;have⟨st,X,_,_⟩:=eS n.text;have⟨ai,V,_,_⟩:=eS h.owner;have⟨aj,Y,_,_⟩:=eS h.text;have M:=λW=>pp n h W k.2.1 c.2.2.2.2.1;rw[gc V Y,gc U X]at M;have HSS:=Hd (λ(W:World) (hW:Fr [] w W)=>An (k.cs U X hW) (c.cs V Y hW));have aa:=Hd M;have⟨r,s⟩:=eR (gD n h);rw[s]at aa;obtain⟨rfl,D,E,ac⟩:=c;have c:TN w b (d++h::f) l o h v2 h1 C d f:=⟨rfl,D,E,ac⟩;have⟨⟨s1,s2⟩,t,u⟩:=jn.1 g;have ae:d.length+1+f.length<50000:=by rw[gu,length_cons]at S;omega
  have ad:d.length+1+f.length<ab+1:=by rw[gu,length_cons]at G;omega
  have HN:=Hd (An c (An s (An g (An t u))))
  rcases (show r<0 \/ r=0 \/ 0<r by omega)with h0|h0|h0
  ·have N:∀W,Fr [] w W->Calls prog 236 #[.pointer l,.pointer m] W (uZ W d n):=λW hW=>J l d h1 m n v W qo (D.fr0 hW) s1 (k.fr0 hW) qo
   have HI:=Hd N;have L:∀W,Fr [] w W->∀q j B,TT W q j B->j.length<=d.length+1->Calls prog 267 #[.pointer q,.pointer b,.pointer o] W (iL W (j++h::f)):=λW hW q j B hq ah=>lh q o j f B C b h v2 W hq (c.mid.fr0 hW) (E.fr0 hW) qo;have HB:=Hd L;have HS2:=Hd (λ(W:World) (hW:Fr [] w W)=>(HSS.out W hW).2.1);clear J I g k S c M s D E ac s1 s2 t u ae G ad N L U V X Y
   go_enter func236,ntmps236
   go_upto_region 3 with fail
   refine eW (λW=>Fr [] w W) qk qk ((Fq [] w).drew) ?_
   repeat(
    first
    | go_big_quiet_skip
    | (go_big_quiet_want;first|(go_big_quiet_op;go_big_quiet_on)|(apply Exists.intro;refine⟨λW hW=>?_,?_⟩;(· have⟨⟨x2,x3,x4,x5,x6⟩,⟨ag,z1⟩,z2,z3,z4,z5,z6⟩:=HSS.out W hW;go_simp;first|done|with_reducible exact rfl|with_reducible exact⟨rfl,rfl⟩|((go_at_call 103;(with_reducible refine(aa.out W).mono ?_);rintro e w' ⟨rfl,i⟩;exact⟨rfl,hW.then i⟩)));simp only[qq];go_big_quiet_on))
    )
   refine wpQuiet_nil ?_;intro W1 y
   go_upto_region 5 with fail
   go_region_held3 (λW=>W.cell? ⟨b,0,none⟩=some (.pointer l)/\W.cell? ⟨b,1,none⟩=some (.pointer o)) (((with_reducible refine HS2.out _ ?_;(repeat(first|exact Fq _ _|with_reducible assumption|refine Fr.drew ?_|refine Fr.alloc ?_ _|refine Fr.then ?_ (Fr.undrew (by with_reducible assumption))));done))) (first
    | (go_at_call 236;(with_reducible refine(HI.out _ y.drew).mono ?_);rintro e w5 ⟨af,⟨q5,h5,rfl,Z,O⟩,T⟩;have Q:=y.then O.undrew;have A:=Hd (An Z T);clear Z O T)
    | (go_at_call 267;(with_reducible refine(HB.out _ Q _ _ _ A.out.1 A.out.2.2.2).mono ?_);rintro e w6 ⟨q6,h6,rfl,z,P⟩;have R:=Q.then P;have K:=Hd z;clear z))
   go_wp2
   go_ret
   have⟨c,s,g,t,u⟩:=HN.out;have⟨_,t1,t2,t3⟩:=A.out;refine⟨af++h::f,⟨_,_,rfl,K.out,R⟩,jn.2 ⟨⟨t1,(jn.1 g).1.2⟩,λx a=>?_,u⟩,λx a=>?_,by simp only[gu,length_cons];omega⟩
   ·rcases t2 x a with rfl|a
    ·unfold ltO;omega
    ·exact t x a
   ·simp only[mem_append,mem_cons]at a ⊢
    rcases a with a|a|a
    ·rcases t2 x a with rfl|a
     ·exact .inl rfl
     ·exact .inr (.inl a)
    ·exact .inr (.inr (.inl a))
    ·exact .inr (.inr (.inr a))
  ·subst h0
   have hJ:∀W,Fr [] w W->Calls prog 268 #[.pointer l,.pointer m,.pointer o] W (iL W (d++n::f)):=λW hW=>jJ l o d f h1 C m n v W (D.fr0 hW) (k.fr0 hW) (E.fr0 hW) qo;have HJ:=Hd hJ;have HS2:=Hd (λ(W:World) (hW:Fr [] w W)=>(HSS.out W hW).2.1);clear J I g k S c M s D E ac s1 s2 t u ae G ad hJ U V X Y
   go_enter func236,ntmps236
   go_upto_region 3 with fail
   refine eW (λW=>Fr [] w W) qk qk ((Fq [] w).drew) ?_
   repeat(
    first
    | go_big_quiet_skip
    | (go_big_quiet_want;first|(go_big_quiet_op;go_big_quiet_on)|(apply Exists.intro;refine⟨λW hW=>?_,?_⟩;(· have⟨⟨x2,x3,x4,x5,x6⟩,⟨ag,z1⟩,z2,z3,z4,z5,z6⟩:=HSS.out W hW;go_simp;first|done|with_reducible exact rfl|with_reducible exact⟨rfl,rfl⟩|((go_at_call 103;(with_reducible refine(aa.out W).mono ?_);rintro e w' ⟨rfl,i⟩;exact⟨rfl,hW.then i⟩)));simp only[qq];go_big_quiet_on))
    )
   refine wpQuiet_nil ?_;intro W1 y
   go_upto_region 8 with fail
   go_region_held3 (λW=>W.cell? ⟨b,0,none⟩=some (.pointer l)/\W.cell? ⟨b,1,none⟩=some (.pointer o)) (((with_reducible refine HS2.out _ ?_;(repeat(first|exact Fq _ _|with_reducible assumption|refine Fr.drew ?_|refine Fr.alloc ?_ _|refine Fr.then ?_ (Fr.undrew (by with_reducible assumption))));done))) (first
    | (go_at_call 268;(with_reducible refine(HJ.out _ y.drew).mono ?_);rintro e w6 ⟨q6,h6,rfl,z,P⟩;have R:=y.then P.undrew;have K:=Hd z;clear z))
   go_wp2
   go_ret
   have⟨c,s,g,t,u⟩:=HN.out;refine⟨d++n::f,⟨_,_,rfl,K.out,R⟩,Fc g s,λx a=>?_,qs⟩;simp only[mem_append,mem_cons]at a ⊢
   rcases a with a|a|a
   ·exact .inr (.inl a)
   ·exact .inl a
   ·exact .inr (.inr (.inr a))
  ·have N:∀W,Fr [] w W->Calls prog 236 #[.pointer o,.pointer (some ⟨m,0,none⟩)] W (uZ W f n):=λW hW=>J o f C m n v W qo (E.fr0 hW) s2 (k.fr0 hW) qo
   have HI:=Hd N;have L:∀W,Fr [] w W->∀q j B,TT W q j B->j.length<=f.length+1->Calls prog 267 #[.pointer l,.pointer (some ⟨b,0,none⟩),.pointer q] W (iL W (d++h::j)):=λW hW q j B hq ah=>lh l q d j h1 B b h v2 W (D.fr0 hW) (c.mid.fr0 hW) hq qo;have HB:=Hd L;have e1:decide (r<0)=false:=decide_eq_false qo;have HS2:=Hd (λ(W:World) (hW:Fr [] w W)=>(HSS.out W hW).2.1);clear J I g k S c M s D E ac s1 s2 t u ae G ad N L U V X Y
   go_enter func236,ntmps236
   go_upto_region 3 with fail
   refine eW (λW=>Fr [] w W) qk qk ((Fq [] w).drew) ?_
   repeat(
    first
    | go_big_quiet_skip
    | (go_big_quiet_want;first|(go_big_quiet_op;go_big_quiet_on)|(apply Exists.intro;refine⟨λW hW=>?_,?_⟩;(· have⟨⟨x2,x3,x4,x5,x6⟩,⟨ag,z1⟩,z2,z3,z4,z5,z6⟩:=HSS.out W hW;go_simp;first|done|with_reducible exact rfl|with_reducible exact⟨rfl,rfl⟩|((go_at_call 103;(with_reducible refine(aa.out W).mono ?_);rintro e w' ⟨rfl,i⟩;exact⟨rfl,hW.then i⟩)));simp only[qq];go_big_quiet_on))
    )
   refine wpQuiet_nil ?_;intro W1 y
   go_upto_region 7 with fail
   go_region_held3 (λW=>W.cell? ⟨b,0,none⟩=some (.pointer l)/\W.cell? ⟨b,1,none⟩=some (.pointer o)) (((with_reducible refine HS2.out _ ?_;(repeat(first|exact Fq _ _|with_reducible assumption|refine Fr.drew ?_|refine Fr.alloc ?_ _|refine Fr.then ?_ (Fr.undrew (by with_reducible assumption))));done))) (first
    | (go_at_call 236;(with_reducible refine(HI.out _ y.drew).mono ?_);rintro e w5 ⟨af,⟨q5,h5,rfl,Z,O⟩,T⟩;have Q:=y.then O.undrew;have A:=Hd (An Z T);clear Z O T)
    | (go_at_call 267;(with_reducible refine(HB.out _ Q _ _ _ A.out.1 A.out.2.2.2).mono ?_);rintro e w6 ⟨q6,h6,rfl,z,P⟩;have R:=Q.then P;have K:=Hd z;clear z))
   go_wp2
   go_ret
   have⟨c,s,g,t,u⟩:=HN.out;have⟨_,t1,t2,t3⟩:=A.out;refine⟨d++h::af,⟨_,_,rfl,K.out,R⟩,jn.2 ⟨⟨(jn.1 g).1.1,t1⟩,t,λx a=>?_⟩,λx a=>?_,by simp only[gu,length_cons];omega⟩
   ·rcases t2 x a with rfl|a
    ·exact ltO.flip qo
    ·exact u x a
   ·simp only[mem_append,mem_cons]at a ⊢
    rcases a with a|a|a
    ·exact .inr (.inl a)
    ·exact .inr (.inr (.inl a))
    ·rcases t2 x a with rfl|a
     ·exact .inl rfl
     ·exact .inr (.inr (.inr a))
def mH(a:ON):gD a a=0:=by have:=tot_cmpO.anti a a;omega
def ltO.ne{a b:ON}(h:ltO a b):gD a b≠0/\gD b a≠0:=by
 unfold ltO at h;have:=tot_cmpO.anti a b;omega
def rX(w:World)(b:List ON)(n:ON)(e:Ending)(w':World):Prop:=∃a,iL w a e w'/\qL a/\(∀x∈a,x∈b/\gD n x≠0)/\a.length<=b.length
def Bd(au:Nat):∀(p:Option Addr) (Q:List ON) (B:Int) (n:ON) (w:World),Q.length<au->TT w p Q B->qL Q->eY n=0->Q.length<50000->(∃x∈Q,gD n x=0) ->
 Calls prog 235 #[.pointer p,fu n] w (rX w Q n):=by
 induction au with
 | zero=>intro p Q B n w hK;omega
 | succ au X =>
 intro p Q B n w hK hT u U al a
 cases p with
 | none =>
  obtain⟨rfl,rfl⟩:=hT.isNone;obtain⟨x,a,_⟩:=a
  cases a
 | some b0 =>
  obtain⟨b,H,R,h,v2,D,h2,s,d,rfl,o⟩:=hT.some;have⟨so,an,_,_⟩:=eS n.owner;have⟨st,ao,_,_⟩:=eS n.text;have⟨a8,ab,_,_⟩:=eS h.owner;have⟨a9,ac,_,_⟩:=eS h.text;have K:=gc an ao;have⟨f,ap,az,n1,m⟩:=ir w #[.int .i64 n.kind,.string so,.int .i64 n.number,.int .i64 n.index,.string st] 31 w.heap.size;have aa:=λW=>pp n h W U o.2.2.2.2.1;rw[gc ab ac,K]at aa
  have HSS:=Hd (λ(W:World) (hW:Fr [] f W)=>An (show ((W.cell? ⟨w.heap.size,0,none⟩=some (.int .i64 n.kind)/\W.cell? ⟨w.heap.size,1,none⟩=some (.string so)/\W.cell? ⟨w.heap.size,2,none⟩=some (.int .i64 n.number)/\W.cell? ⟨w.heap.size,3,none⟩=some (.int .i64 n.index)/\W.cell? ⟨w.heap.size,4,none⟩=some (.string st)))from by
   have D:=n1.fr hW qs;exact⟨D.c 0,D.c 1,D.c 2,D.c 3,D.c 4⟩) (o.cs ab ac (m.then hW)))
  have ah:=Hd aa;have⟨r,z⟩:=eR (gD n h);rw[z]at ah;obtain⟨rfl,I,F,ai⟩:=o;have o:TN w b (s++h::d) H R h v2 D h2 s d:=⟨rfl,I,F,ai⟩;have⟨⟨s1,Y⟩,k,l⟩:=jn.1 u;have aw:s.length+1+d.length<50000:=by rw[gu,length_cons]at al;omega
  have av:s.length+1+d.length<au+1:=by rw[gu,length_cons]at hK;omega
  have HN:=Hd (An o (An z (An u (An k l))));rw[K];have T:=Hd ap;have S:=Hd m
  rcases (show r<0 \/ r=0 \/ 0<r by omega)with h0|h0|h0
  ·have G:∃x∈s,gD n x=0:=by
    obtain⟨x,a,aq⟩:=a
    rcases mem_append.1 a with a|a
    ·exact⟨x,a,aq⟩
    ·rcases mem_cons.1 a with rfl|a
     ·omega
     ·exact absurd aq (ltO.trans (b:=h) (by unfold ltO;omega) (l x a)).ne.1
   have E:∀W,Fr [] f W->Calls prog 235 #[.pointer H,fu n] W (rX W s n):=λW hW=>X H s D n W qo (I.fr0 (m.then hW)) s1 U qo G;rw[K]at E;have HI:=Hd E;have J:∀W,Fr [] f W->∀q i C,TT W q i C->i.length<=s.length->Calls prog 267 #[.pointer q,.pointer (some ⟨b,0,none⟩),.pointer R] W (iL W (i++h::d)):=λW hW q i C hq aJ=>lh q R i d C h2 b h v2 W hq (o.mid.fr0 (m.then hW)) (F.fr0 (m.then hW)) qo;have HB:=Hd J;have HS2:=Hd (λ(W:World) (hW:Fr [] f W)=>An (HSS.out W hW).1 (HSS.out W hW).2.1);clear X hT u U al o aa z I F ai s1 Y k l aw hK av E J an ab ao ac K a G n1 ap m az
   go_enter func235,ntmps235
   go_upto_region 1 with fail
   try rw[T.out]
   refine eW (λW=>Fr [] f W) qk qk ((Fq [] f).drew) ?_
   repeat(
    first
    | go_big_quiet_skip
    | (go_big_quiet_want;first|(go_big_quiet_op;go_big_quiet_on)|(apply Exists.intro;refine⟨λW hW=>?_,?_⟩;(· have⟨⟨x0,x1,x2,x3,x4⟩,⟨ag,z1⟩,z2,z3,z4,z5,z6⟩:=HSS.out W hW;go_simp;first|done|with_reducible exact rfl|with_reducible exact⟨rfl,rfl⟩|((go_at_call 103;(with_reducible refine(ah.out W).mono ?_);rintro e w' ⟨rfl,B⟩;exact⟨rfl,hW.then B⟩)));simp only[qq];go_big_quiet_on))
    )
   refine wpQuiet_nil ?_;intro Z j
   go_upto_region 3 with fail
   go_region_held3 (λW=>((W.cell? ⟨w.heap.size,0,none⟩=some (.int .i64 n.kind)/\W.cell? ⟨w.heap.size,1,none⟩=some (.string so)/\W.cell? ⟨w.heap.size,2,none⟩=some (.int .i64 n.number)/\W.cell? ⟨w.heap.size,3,none⟩=some (.int .i64 n.index)/\W.cell? ⟨w.heap.size,4,none⟩=some (.string st)))/\W.cell? ⟨b,0,none⟩=some (.pointer H)/\W.cell? ⟨b,1,none⟩=some (.pointer R)) (((with_reducible refine HS2.out _ ?_;(repeat(first|exact Fq _ _|with_reducible assumption|refine Fr.drew ?_|refine Fr.alloc ?_ _|refine Fr.then ?_ (Fr.undrew (by with_reducible assumption))));done))) (first
    | (go_at_call 235;(with_reducible refine(HI.out _ j.drew).mono ?_);rintro e w5 ⟨ad,⟨q5,h5,rfl,O,L⟩,N⟩;have M:=j.then L.undrew;have A:=Hd (An O N);clear O L N)
    | (go_at_call 267;(with_reducible refine(HB.out _ M _ _ _ A.out.1 A.out.2.2.2).mono ?_);rintro e w6 ⟨q6,h6,rfl,P,aj⟩;have ak:=M.then aj;have H6:=Hd P;clear P))
   go_wp2
   go_ret
   have⟨o,z,u,k,l⟩:=HN.out;have⟨_,t1,t2,t3⟩:=A.out;refine⟨ad++h::d,⟨_,_,rfl,H6.out,S.then ak⟩,jn.2 ⟨⟨t1,(jn.1 u).1.2⟩,λx a=>k x (t2 x a).1,l⟩,λx a=>?_,by simp only[gu,length_cons];omega⟩;simp only[mem_append,mem_cons]at a ⊢
   rcases a with a|rfl|a
   ·exact⟨.inl (t2 x a).1,(t2 x a).2⟩
   ·exact⟨.inr (.inl rfl),qo⟩
   ·exact⟨.inr (.inr a),(ltO.trans (b:=h) (by unfold ltO;omega) (l x a)).ne.1⟩
  ·subst h0
   have ay:gD h n=0:=by have:=tot_cmpO.anti n h;omega
   cases R with
   | none =>
    obtain⟨rfl,rfl⟩:=F.isNone;have aO:=Hd (I.fr0 m);have aF:=Hd (An s1 ay);clear X hT u U al o aa z I F ai s1 Y k l aw hK av an ab ao ac K a n1 ap m az ay
    go_enter func235,ntmps235
    go_upto_region 1 with fail
    try rw[T.out]
    refine eW (λW=>Fr [] f W) qk qk ((Fq [] f).drew) ?_
    repeat(
     first
     | go_big_quiet_skip
     | (go_big_quiet_want;first|(go_big_quiet_op;go_big_quiet_on)|(apply Exists.intro;refine⟨λW hW=>?_,?_⟩;(· have⟨⟨x0,x1,x2,x3,x4⟩,⟨ag,z1⟩,z2,z3,z4,z5,z6⟩:=HSS.out W hW;go_simp;first|done|with_reducible exact rfl|with_reducible exact⟨rfl,rfl⟩|((go_at_call 103;(with_reducible refine(ah.out W).mono ?_);rintro e w' ⟨rfl,B⟩;exact⟨rfl,hW.then B⟩)));simp only[qq];go_big_quiet_on))
     )
    refine wpQuiet_nil ?_;intro Z j;have⟨⟨x0,x1,x2,x3,x4⟩,⟨ag,z1⟩,z2,z3,z4,z5,z6⟩:=HSS.out Z j
    go_wp2
    go_ret
    have⟨o,z,u,k,l⟩:=HN.out
    exact⟨s,⟨_,_,rfl,aO.fr0 j,S.then j⟩,aF.1,λx a=>⟨by simp[a],(ltO.eqr (k x a) aF.2).ne.2⟩,qs⟩
   | some rb =>
   obtain⟨b3,aV,a4,n3,v3,aP,aQ,aX,aY,rfl,aH⟩:=F.some;have E:∀W,Fr [] f W->∀x∈d,eY x=0->Calls prog 235 #[.pointer (some ⟨b3,0,none⟩),fu x] W (rX W d x):=λW hW x a hc=>X _ d h2 x W qo (F.fr0 (m.then hW)) Y hc qo ⟨x,a,mH x⟩;have HI:=Hd E;have J:∀W,Fr [] f W->∀c x v,Mid W c x v->∀q i C,TT W q i C->i.length<=d.length->Calls prog 267 #[.pointer H,.pointer (some ⟨c,0,none⟩),.pointer q] W (iL W (s++x::i)):=λW hW c x v hm q i C hq aJ=>lh H q s i D C c x v W (I.fr0 (m.then hW)) hm hq qo;have HB:=Hd J;have ar:=Hd (An aH (An Y ay));clear X hT u U al o aa z I F ai s1 Y k l aw hK av E J an ab ao ac K a n1 ap m az ay aH
   go_enter func235,ntmps235
   go_upto_region 1 with fail
   try rw[T.out]
   refine eW (λW=>Fr [] f W) qk qk ((Fq [] f).drew) ?_
   repeat(
    first
    | go_big_quiet_skip
    | (go_big_quiet_want;first|(go_big_quiet_op;go_big_quiet_on)|(apply Exists.intro;refine⟨λW hW=>?_,?_⟩;(· have⟨⟨x0,x1,x2,x3,x4⟩,⟨ag,z1⟩,z2,z3,z4,z5,z6⟩:=HSS.out W hW;go_simp;first|done|with_reducible exact rfl|with_reducible exact⟨rfl,rfl⟩|((go_at_call 103;(with_reducible refine(ah.out W).mono ?_);rintro e w' ⟨rfl,B⟩;exact⟨rfl,hW.then B⟩)));simp only[qq];go_big_quiet_on))
    )
   refine wpQuiet_nil ?_;intro Z j;have⟨⟨x0,x1,x2,x3,x4⟩,⟨ag,z1⟩,z2,z3,z4,z5,z6⟩:=HSS.out Z j
   go_wp2
   have T:=Hd j;clear x0 x1 x2 x3 x4 ag z1 z2 z3 z4 z5 z6 j
   go_loopg [6] (d.length+1) (λg s6 W=>Z=W/\∃c lq rq y vy k1 k2 ae af rest,s6=.pointer (some ⟨c,0,none⟩)/\d=(ae++y::af)++rest/\TN w c (ae++y::af) lq rq y vy k1 k2 ae af/\(ae++y::af).length<g)
   case atStart =>
    have e:=ar.1.1;exact⟨rfl,b3,aV,a4,n3,v3,aP,aQ,aX,aY,[],rfl,by rw[append_nil];exact e,by rw[<-e];exact ar.1,by rw[<-e];omega⟩
   case round =>
    obtain⟨rfl,c,lq,rq,y,vy,k1,k2,ae,af,rest,rfl,hp,aB,hg⟩:=hrel;have⟨a6,aC,_,_⟩:=eS y.owner;have⟨a7,aD,_,_⟩:=eS y.text;have aT:=aB.cs aC aD (S.then T.out);obtain⟨⟨y0,y1⟩,y2,y3,y4,y5,y6⟩:=aT;have t:=Hd (An hp (An aB (An hg (An aC aD))));clear hp aB hg aC aD
    cases lq with
    | some lb =>
     obtain⟨b5,aW,a5,n5,v5,aR,aS,aZ,a3,rfl,aI⟩:=t.2.1.2.1.some;have aE:=Hd aI;clear aI
     go_wp2
     go_roundg (ae.length+1)
     case measure=>have:=t.2.2.1;simp only[gu,length_cons]at this;omega
     case rel =>
      have e:=aE.1;refine⟨rfl,b5,aW,a5,n5,v5,aR,aS,aZ,a3,y::af++rest,rfl,?_,by rw[<-e];exact aE.out,by rw[<-e];omega⟩
      rw[t.1,<-e,append_assoc,cons_append]
    | none =>
     have⟨ax,_⟩:=t.2.1.2.1.isNone;have V:y∈d:=by rw[t.1];simp
     have aA:=λW hW=>HI.out W hW y V t.2.1.2.2.2.2.1;rw[gc t.2.2.2.1 t.2.2.2.2]at aA;have aM:=Hd aA;have aG:=λW hW=>HB.out W hW c y vy (t.2.1.mid.fr0 (S.then hW));have aL:=Hd aG;have HS2:=Hd (λ(W:World) (hW:Fr [] f W)=>An (HSS.out W hW).2.1 (t.2.1.cs t.2.2.2.1 t.2.2.2.2 (S.then hW)).2);have HY:=Hd (An ax V);clear aA aG ax V
     go_upto_region 11 with fail
     clear y0 y1 y2 y3 y4 y5 y6;have j:=T.out
     go_region_held3 (λW=>(W.cell? ⟨b,0,none⟩=some (.pointer H)/\W.cell? ⟨b,1,none⟩=some (.pointer (some ⟨b3,0,none⟩)))/\W.cell? ⟨c,2,none⟩=some (.int .i64 y.kind)/\W.cell? ⟨c,3,none⟩=some (.string a6)/\W.cell? ⟨c,4,none⟩=some (.int .i64 y.number)/\W.cell? ⟨c,5,none⟩=some (.int .i64 y.index)/\W.cell? ⟨c,6,none⟩=some (.string a7)) (((with_reducible refine HS2.out _ ?_;(repeat(first|exact Fq _ _|with_reducible assumption|refine Fr.drew ?_|refine Fr.alloc ?_ _|refine Fr.then ?_ (Fr.undrew (by with_reducible assumption))));done))) (first
      | (go_at_call 235;(with_reducible refine(aM.out _ j.drew).mono ?_);rintro e w5 ⟨ad,⟨q5,h5,rfl,O,L⟩,N⟩;have M:=j.then L.undrew;have A:=Hd (An O N);clear O L N)
      | (go_at_call 267;(with_reducible refine(aL.out _ M _ _ _ A.out.1 A.out.2.2.2).mono ?_);rintro e w6 ⟨q6,h6,rfl,P,aj⟩;have ak:=M.then aj;have H6:=Hd P;clear P))
     go_wp2
     go_ret
     have⟨o,z,u,k,l⟩:=HN.out;have⟨_,t1,t2,t3⟩:=A.out;have aK:=ar.2.1;have⟨ax,V⟩:=HY.out;have hp:=t.1;rw[ax,nil_append,cons_append]at hp
     have am:∀x∈ad,ltO y x:=λx a=>by
      have⟨G,aU⟩:=t2 x a;rw[hp]at G aK
      rcases mem_cons.1 G with rfl|G
      ·exact absurd (mH x) aU
      ·exact(pairwise_cons.1 aK).1 x G
     refine⟨s++y::ad,⟨_,_,rfl,H6.out,S.then ak⟩,jn.2 ⟨⟨(jn.1 u).1.1,t1⟩,λx a=>(k x a).trans (l y V),am⟩,λx a=>?_,by simp only[gu,length_cons];omega⟩;simp only[mem_append,mem_cons]at a ⊢
     rcases a with a|rfl|a
     ·exact⟨.inl a,(ltO.eqr (k x a) ar.2.2).ne.2⟩
     ·exact⟨.inr (.inr V),(ltO.eql z (l x V)).ne.1⟩
     ·exact⟨.inr (.inr (t2 x a).1),(ltO.eql z (l x (t2 x a).1)).ne.1⟩
  ·have am:ltO h n:=ltO.flip qo
   have G:∃x∈d,gD n x=0:=by
    obtain⟨x,a,aq⟩:=a
    rcases mem_append.1 a with a|a
    ·exact absurd aq (ltO.trans (k x a) am).ne.2
    ·rcases mem_cons.1 a with rfl|a
     ·omega
     ·exact⟨x,a,aq⟩
   have E:∀W,Fr [] f W->Calls prog 235 #[.pointer R,fu n] W (rX W d n):=λW hW=>X R d h2 n W qo (F.fr0 (m.then hW)) Y U qo G;rw[K]at E;have HI:=Hd E;have J:∀W,Fr [] f W->∀q i C,TT W q i C->i.length<=d.length->Calls prog 267 #[.pointer H,.pointer (some ⟨b,0,none⟩),.pointer q] W (iL W (s++h::i)):=λW hW q i C hq aJ=>lh H q s i D C b h v2 W (I.fr0 (m.then hW)) (o.mid.fr0 (m.then hW)) hq qo;have HB:=Hd J;have e1:decide (r<0)=false:=decide_eq_false qo;have HS2:=Hd (λ(W:World) (hW:Fr [] f W)=>An (HSS.out W hW).1 (HSS.out W hW).2.1);have aN:=Hd am;clear X hT u U al o aa z I F ai s1 Y k l aw hK av E J an ab ao ac K a G n1 ap m az am
   go_enter func235,ntmps235
   go_upto_region 1 with fail
   try rw[T.out]
   refine eW (λW=>Fr [] f W) qk qk ((Fq [] f).drew) ?_
   repeat(
    first
    | go_big_quiet_skip
    | (go_big_quiet_want;first|(go_big_quiet_op;go_big_quiet_on)|(apply Exists.intro;refine⟨λW hW=>?_,?_⟩;(· have⟨⟨x0,x1,x2,x3,x4⟩,⟨ag,z1⟩,z2,z3,z4,z5,z6⟩:=HSS.out W hW;go_simp;first|done|with_reducible exact rfl|with_reducible exact⟨rfl,rfl⟩|((go_at_call 103;(with_reducible refine(ah.out W).mono ?_);rintro e w' ⟨rfl,B⟩;exact⟨rfl,hW.then B⟩)));simp only[qq];go_big_quiet_on))
    )
   refine wpQuiet_nil ?_;intro Z j
   go_upto_region 5 with fail
   go_region_held3 (λW=>((W.cell? ⟨w.heap.size,0,none⟩=some (.int .i64 n.kind)/\W.cell? ⟨w.heap.size,1,none⟩=some (.string so)/\W.cell? ⟨w.heap.size,2,none⟩=some (.int .i64 n.number)/\W.cell? ⟨w.heap.size,3,none⟩=some (.int .i64 n.index)/\W.cell? ⟨w.heap.size,4,none⟩=some (.string st)))/\W.cell? ⟨b,0,none⟩=some (.pointer H)/\W.cell? ⟨b,1,none⟩=some (.pointer R)) (((with_reducible refine HS2.out _ ?_;(repeat(first|exact Fq _ _|with_reducible assumption|refine Fr.drew ?_|refine Fr.alloc ?_ _|refine Fr.then ?_ (Fr.undrew (by with_reducible assumption))));done))) (first
    | (go_at_call 235;(with_reducible refine(HI.out _ j.drew).mono ?_);rintro e w5 ⟨ad,⟨q5,h5,rfl,O,L⟩,N⟩;have M:=j.then L.undrew;have A:=Hd (An O N);clear O L N)
    | (go_at_call 267;(with_reducible refine(HB.out _ M _ _ _ A.out.1 A.out.2.2.2).mono ?_);rintro e w6 ⟨q6,h6,rfl,P,aj⟩;have ak:=M.then aj;have H6:=Hd P;clear P))
   go_wp2
   go_ret
   have⟨o,z,u,k,l⟩:=HN.out;have⟨_,t1,t2,t3⟩:=A.out;refine⟨s++h::ad,⟨_,_,rfl,H6.out,S.then ak⟩,jn.2 ⟨⟨(jn.1 u).1.1,t1⟩,k,λx a=>l x (t2 x a).1⟩,λx a=>?_,by simp only[gu,length_cons];omega⟩;simp only[mem_append,mem_cons]at a ⊢
   rcases a with a|rfl|a
   ·exact⟨.inl a,(ltO.trans (k x a) aN.out).ne.2⟩
   ·exact⟨.inr (.inl rfl),qo⟩
   ·exact⟨.inr (.inr (t2 x a).1),(t2 x a).2⟩
def SG(w:World)(b:Nat)(a:List ON):Prop:=∃c h,BoxN w b 184 #[.pointer c]/\TT w c a h/\qL a
def SG.fr0{w w':World}{b:Nat}{c:List ON}(h:SG w b c)(a:Fr [] w w'):SG w' b c:=by
 obtain⟨g,k,d,e,f⟩:=h;exact⟨g,k,d.fr a qs,e.fr0 a,f⟩
def l8(w:World)(k:Nat)(e:Ending)(w':World):Prop:=∃b a,e=.returned (.tuple #[.pointer (some ⟨b,0,none⟩),.int .i64 0])/\SG w' b a/\a.length<=k/\Fr [] w w'
def TT.size{w:World}{p:Option Addr}{a:List ON}{h:Int}(d:TT w p a h):Calls prog 95 #[.pointer p] w λe w'=>e=.returned (.int .i64 (a.length:Int))/\w=w':=by
 obtain⟨t,rfl,b,c,rfl,rfl⟩:=d;refine(rV t w b).mono λe w' h=>⟨?_,h.2.symm⟩;rw[h.1,c.nums.2.2.1,TG.cnt_ns]
def Gx(b:Nat)(d:List ON)(w:World)(h:SG w b d):Calls prog 38 #[.pointer (some ⟨b,0,none⟩)] w λe w'=>e=.returned (.int .i64 (d.length:Int))/\w=w':=by
 obtain⟨g,k,a,c,_⟩:=h;have i:=a.k0;have f:=Hd c.size;clear a c
 go_enter func38,ntmps38
 go_wp2_with ((go_at_call 95;(with_reducible refine f.out.mono ?_);rintro e w' ⟨rfl,rfl⟩))
 go_ret
 exact⟨rfl,rfl⟩
def wy(n:ON)(w:World)(b:Ok w)(a:eY n=0)(c:n.text.length<=140737488355328):Calls prog 53 #[fu n] w (qU w 0):=by
 have h:=ld n w b (by have:=iw (fI a);omega) c;rw[a]at h;exact h
def GY(b:Nat)(a:List ON)(n:ON)(v:Nm)(w:World)(O:Ok w)(G:SG w b a)(t:eY n=0)(af:n.text.length<=140737488355328)(T:v.length<=65536)(N:a.length<50000):
 Calls prog 189 #[.pointer (some ⟨b,0,none⟩),fu n,fg v] w (l8 w (a.length+1)):=by
 have⟨z,u,_,_⟩:=eS n.owner;have⟨A,x,_,_⟩:=eS n.text;have⟨sv,y,_,aj⟩:=eS v;have J:=gc u x;have ad:¬ 65536<(sv.size:Int):=qo
 have ae:=decide_eq_false ad;have⟨d,U,ag,V,f⟩:=ir w #[n.kind,z,n.number,n.index,A] 31 w.heap.size;have r:=wy n d (O.fr0 f) t af;have F:=λ(W:World) (hW:Fr [] d W)=>Gx b a W (G.fr0 (f.then hW));have ai:decide (65536<=(a.length:Int))=false:=by simp;omega
 obtain⟨l,k,H,R,P⟩:=G;have i:∀W m,Fr [] d W->BoxN W m 191 (jU (.pointer none) (.pointer none) n v 0 0 0)->Calls prog 236 #[.pointer l,.pointer m] W (uZ W a n):=λW m hW hm=>GX (a.length+1) l a k m n v W qo (R.fr0 (f.then hW)) P ⟨⟨_,_,_,_,_,hm⟩,t,T⟩ N;unfold jU at i;rw[u,x,y]at i
 have HSS:=Hd (λ(W:World) (hW:Fr [] d W)=>An (show ((W.cell? ⟨w.heap.size,0,none⟩=some n.kind/\W.cell? ⟨w.heap.size,1,none⟩=some z/\W.cell? ⟨w.heap.size,2,none⟩=some n.number/\W.cell? ⟨w.heap.size,3,none⟩=some n.index/\W.cell? ⟨w.heap.size,4,none⟩=some A))from by
  have h:=V.fr hW qs;exact⟨h.c 0,h.c 1,h.c 2,h.c 3,h.c 4⟩) (show W.cell? ⟨b,0,none⟩=some (.pointer l)from(H.fr (f.then hW) qs).c 0))
 have⟨⟨x0,x1,x2,x3,x4⟩,_⟩:=HSS.out d (Fq [] d);rw[J]at r ⊢;rw[y];have B:=Hd r;have Y:=Hd f;have E:=Hd U;have C:=Hd F;have Z:=Hd i;clear r f U F i V ag R P H O t T N u x y J ae
 go_enter func189,ntmps189
 go_upto_region 3 with fail
 rw[E.out]
 go_upto_region 7 with((go_at_call 53;(with_reducible refine B.out.mono ?_);rintro e w2 ⟨rfl,ab⟩))
 clear x0 x1 x2 x3 x4;refine eW (λW=>Fr [] d W) qk qk (ab.drew) ?_
 repeat(
  first
  | go_big_quiet_skip
  | (go_big_quiet_want;first|(go_big_quiet_op;go_big_quiet_on)|(apply Exists.intro;refine⟨λW hW=>?_,?_⟩;(· have⟨⟨ak,z1,z2,z3,z4⟩,z5⟩:=HSS.out W hW;go_simp;first|done|with_reducible exact rfl|with_reducible exact⟨rfl,rfl⟩|((go_at_call 38;(with_reducible refine(C.out W hW).mono ?_);rintro e w' ⟨rfl,rfl⟩;exact⟨rfl,hW⟩)));simp only[qq];go_big_quiet_on))
  )
 refine wpQuiet_nil ?_;intro q s
 go_upto_region 9 with fail
 have D:=Hd (λ(W:World) (hW:Fr [] q W)=>HSS.out W (s.then hW));have⟨g,aa⟩:=eR (w.heap.size);rw[aa]at D ⊢;clear HSS C B E
 go_region_held3 (λW=>((W.cell? ⟨g,0,none⟩=some n.kind/\W.cell? ⟨g,1,none⟩=some z/\W.cell? ⟨g,2,none⟩=some n.number/\W.cell? ⟨g,3,none⟩=some n.index/\W.cell? ⟨g,4,none⟩=some A))/\W.cell? ⟨b,0,none⟩=some (.pointer l)) (with_reducible refine D.out _ ?_;(repeat(first|exact Fq _ _|with_reducible assumption|refine Fr.drew ?_|refine Fr.alloc ?_ _));done) (first
  | (go_at_call 236;(with_reducible refine(Z.out _ _ ((s.alloc _).drew) (BoxN.new q _ _).drew).mono ?_);rintro e X ⟨ah,⟨j,h5,rfl,S,K⟩,Q⟩;have ac:=(Fr.alloc (Fq [] q) _).then K.undrew;have o:=Hd (An S Q);clear S K Q))
 have M:=ac.alloc (.cells #[.pointer j] 184);have I:=BoxN.new X 184 #[.pointer j];have L:=(Y.then s).then M;have p:=Hd (An L (An I (o.1.fr0 ((Fq [] X).alloc (.cells #[.pointer j] 184)))));clear M I L
 go_wp2
 go_ret2
 exact⟨_,ah,rfl,⟨j,h5,p.2.1,p.2.2,o.2.1⟩,o.2.2.2,p.1⟩
def Be(b:Nat)(d:List ON)(n:ON)(w:World)(M:Ok w)(D:SG w b d)(l:eY n=0)(ae:n.text.length<=140737488355328)(L:d.length<50000):
 Calls prog 188 #[.pointer (some ⟨b,0,none⟩),fu n] w (l8 w d.length):=by
 have⟨p,Q,_,_⟩:=eS n.owner;have⟨q,R,_,_⟩:=eS n.text;have G:=gc Q R;have⟨i,T,af,U,g⟩:=ir w #[.int .i64 n.kind,.string p,.int .i64 n.number,.int .i64 n.index,.string q] 31 w.heap.size;have u:=wy n i (M.fr0 g) l ae;have Y:=Hd D;obtain⟨h,k,E,y,O⟩:=D;have hF:=λ(W:World) (hW:Fr [] i W)=>Ds h d k n W (y.fr0 (g.then hW)) l;have z:(∃x∈d,gD n x=0)->∀W,Fr [] i W->Calls prog 235 #[.pointer h,fu n] W (rX W d n):=λm W hW=>Bd (d.length+1) h d k n W qo (y.fr0 (g.then hW)) O l L m
 have HSS:=Hd (λ(W:World) (hW:Fr [] i W)=>An (show ((W.cell? ⟨w.heap.size,0,none⟩=some (.int .i64 n.kind)/\W.cell? ⟨w.heap.size,1,none⟩=some (.string p)/\W.cell? ⟨w.heap.size,2,none⟩=some (.int .i64 n.number)/\W.cell? ⟨w.heap.size,3,none⟩=some (.int .i64 n.index)/\W.cell? ⟨w.heap.size,4,none⟩=some (.string q)))from by
  have f:=U.fr hW qs;exact⟨f.c 0,f.c 1,f.c 2,f.c 3,f.c 4⟩) (show W.cell? ⟨b,0,none⟩=some (.pointer h)from(E.fr (g.then hW) qs).c 0))
 have⟨⟨x0,x1,x2,x3,x4⟩,_⟩:=HSS.out i (Fq [] i);rw[G]at u hF z ⊢;have V:=Hd u;have s:=Hd g;have Z:=Hd T;have X:=Hd hF;have C:=Hd z;clear u g T hF z U af y O E M l L Q R G
 go_enter func188,ntmps188
 go_upto_region 3 with fail
 rw[Z.out]
 go_upto_region 5 with((go_at_call 53;(with_reducible refine V.out.mono ?_);rintro e w2 ⟨rfl,H⟩))
 clear x0 x1 x2 x3 x4;have⟨a,ac⟩:=eR (w.heap.size);rw[ac]at HSS ⊢
 go_region_held3 (λW=>((W.cell? ⟨a,0,none⟩=some (.int .i64 n.kind)/\W.cell? ⟨a,1,none⟩=some (.string p)/\W.cell? ⟨a,2,none⟩=some (.int .i64 n.number)/\W.cell? ⟨a,3,none⟩=some (.int .i64 n.index)/\W.cell? ⟨a,4,none⟩=some (.string q)))/\W.cell? ⟨b,0,none⟩=some (.pointer h)) (((with_reducible refine HSS.out _ ?_;(repeat(first|exact Fq _ _|with_reducible assumption|refine Fr.drew ?_|refine Fr.alloc ?_ _|refine Fr.then ?_ (Fr.undrew (by with_reducible assumption))));done))) (first
  | (go_at_call 97;(with_reducible refine(X.out _ H.drew).mono ?_);rintro e w5 ⟨q5,rfl,N,I⟩;have j:=H.then I.undrew;have B:=Hd N;clear N I))
 cases q5 with
 | none =>
  go_wp2
  go_ret2
  exact⟨b,d,rfl,Y.fr0 (s.then j),fW _,s.then j⟩
 | some qb =>
  have m:∃x∈d,gD n x=0:=by
   rcases B.out with ab|⟨b,x,v,_,f,h2,_⟩
   ·cases ab
   ·exact⟨x,f,h2⟩
  have aa:=Hd (C.out m);clear m C B
  go_upto_region 7 with fail
  go_region_held3 (λW=>((W.cell? ⟨a,0,none⟩=some (.int .i64 n.kind)/\W.cell? ⟨a,1,none⟩=some (.string p)/\W.cell? ⟨a,2,none⟩=some (.int .i64 n.number)/\W.cell? ⟨a,3,none⟩=some (.int .i64 n.index)/\W.cell? ⟨a,4,none⟩=some (.string q)))/\W.cell? ⟨b,0,none⟩=some (.pointer h)) (((with_reducible refine HSS.out _ ?_;(repeat(first|exact Fq _ _|with_reducible assumption|refine Fr.drew ?_|refine Fr.alloc ?_ _|refine Fr.then ?_ (Fr.undrew (by with_reducible assumption))));done))) (first
   | (go_at_call 235;(with_reducible refine(aa.out _ j.drew).mono ?_);rintro e A ⟨ag,⟨o,h6,rfl,S,J⟩,P⟩;have ad:=j.then J.undrew;have r:=Hd (An S P);clear S J P))
  have K:Fr [] w (A.alloc (.cells #[.pointer o] 184)):=(s.then ad).alloc _;have F:=BoxN.new A 184 #[.pointer o];have t:=Hd (An K (An F (r.1.fr0 ((Fq [] A).alloc (.cells #[.pointer o] 184)))));clear F K
  go_wp2
  go_ret2
  exact⟨_,ag,rfl,⟨o,h6,t.2.1,t.2.2,r.2.1⟩,r.2.2.2,t.1⟩
def Iw(w:World)(a:List ON)(e:Ending)(w':World):Prop:=∃(s:ByteArray) (f:Bool),e=.returned (.tuple #[.string s,.bool f])/\s.size<=65536/\(a=[]->s=⟨#[]⟩/\f=false)/\Fr [] w w'
def Gy(b:Nat)(i:List ON)(n:ON)(w:World)(O:SG w b i)(A:eY n=0):
 Calls prog 40 #[.pointer (some ⟨b,0,none⟩),fu n] w (Iw w i):=by
 have⟨l,C,_,_⟩:=eS n.owner;have⟨m,D,_,_⟩:=eS n.text;have t:=gc C D;have⟨o,G,T,I,f⟩:=ir w #[n.kind,l,n.number,n.index,m] 31 w.heap.size;obtain⟨j,k,s,F,P⟩:=O;have hF:=λ(W:World) (hW:Fr [] o W)=>Ds j i k n W (F.fr0 (f.then hW)) A
 have HSS:=Hd (λ(W:World) (hW:Fr [] o W)=>An (show ((W.cell? ⟨w.heap.size,0,none⟩=some n.kind/\W.cell? ⟨w.heap.size,1,none⟩=some l/\W.cell? ⟨w.heap.size,2,none⟩=some n.number/\W.cell? ⟨w.heap.size,3,none⟩=some n.index/\W.cell? ⟨w.heap.size,4,none⟩=some m))from by
  have a:=I.fr hW qs;exact⟨a.c 0,a.c 1,a.c 2,a.c 3,a.c 4⟩) (show W.cell? ⟨b,0,none⟩=some (.pointer j)from(s.fr (f.then hW) qs).c 0))
 rw[t]at hF ⊢;have q:=Hd f;have L:=Hd G;have K:=Hd hF;clear f G hF I T F P s A C D t
 go_enter func40,ntmps40
 go_upto_region 3 with fail
 try rw[L.out]
 have y:=Fq [] o;have⟨d,N⟩:=eR (w.heap.size);rw[N]at HSS ⊢
 go_region_held3 (λW=>((W.cell? ⟨d,0,none⟩=some n.kind/\W.cell? ⟨d,1,none⟩=some l/\W.cell? ⟨d,2,none⟩=some n.number/\W.cell? ⟨d,3,none⟩=some n.index/\W.cell? ⟨d,4,none⟩=some m))/\W.cell? ⟨b,0,none⟩=some (.pointer j)) (((with_reducible refine HSS.out _ ?_;(repeat(first|exact Fq _ _|with_reducible assumption|refine Fr.drew ?_|refine Fr.alloc ?_ _|refine Fr.then ?_ (Fr.undrew (by with_reducible assumption))));done))) (first
  | (go_at_call 97;(with_reducible refine(K.out _ y.drew).mono ?_);rintro e X ⟨U,rfl,B,u⟩;have z:=y.then u.undrew;have p:=Hd B;clear B u))
 cases U with
 | none =>
  go_wp2
  go_ret2
  exact⟨⟨#[]⟩,false,rfl,qd,λ_=>⟨rfl,rfl⟩,q.then z⟩
 | some V =>
  have S:∃b x v,V=⟨b,0,none⟩/\x∈i/\Mid X b x v:=by
   rcases p.out with h|⟨b,x,v,h,a,Y,M⟩
   ·cases h
   ·cases h;exact⟨b,x,v,rfl,a,M⟩
  obtain⟨c,x,v,rfl,H,⟨_,_,_,_,_,g⟩,_,R⟩:=S;have⟨J,E,_,Q⟩:=eS v;unfold jU at g;rw[E]at g;have Z:=g.k7;have r:=Hd (An H (show J.size<=65536 by omega));clear g H R Q E p
  go_wp2
  go_ret2
  exact⟨J,true,rfl,r.2,λh=>absurd r.1 (by rw[h];simp),q.then z⟩
def ox{c:CH}(h:j6 c=true):eY c.n=0/\c.v.length<=65536:=by
 unfold j6 at h;simp only[Bool.and_eq_true,decide_eq_true_eq]at h;exact⟨h.1,h.2.1⟩
def vc(E:Nat)(q:List ON)(l:List CH)(B:Option Addr)(c:Nat)(w:World)(ae:Ok w)(t:SG w E q)(h:Chs w B l)(hg:∀x∈l,x.fit/\j6 x=true)(hl:q.length+l.length<40000):
 Calls prog 153 #[.pointer (some ⟨E,0,none⟩),.slice B l.length c] w (l8 w (q.length+l.length)):=by
 have⟨n,R⟩:=eR (l.length);have D:=Hd (An R h);have K:=Hd ae;have aa:=Hd hg;have ab:=Hd t;have⟨m,Q⟩:=eR (q.length);have HM:=Hd Q;rw[R,Q]at hl ⊢
 go_enter func153,ntmps153
 go_wp2
 go_loopw [0,13] (λs i W=>∃(j b:Nat) (f:List ON),j<=n/\i=j/\s=.pointer b/\SG W b f/\f.length<=m+j/\Fr [] w W) (λ_ i _=>n - (intOf i).toNat)
 case atStart=>exact⟨0,E,q,Nat.zero_le _,rfl,rfl,ab.out,by rw[HM.out];omega,Fq _ _⟩
 case round =>
  obtain⟨j,b,f,hj,rfl,rfl,t,P,O⟩:=hrel;have d:=Hd (An t (An P O));clear t P O
  by_cases ad:j<n
  ·have ah:(j:Int)<(n:Int):=qo
   have T:Row wr wr.heap.size 7 B n (l.flatMap CH.cs):=by have h:=D.2.fr0 d.2.2;unfold Chs Rd at h;rw[D.1]at h;exact h
   obtain⟨bb,off,rfl,ac,N⟩:=fK i9 T qo;obtain⟨x,I⟩:∃x,l[j]?=some x:=⟨_,gg (by rw[D.1];exact ad)⟩;have⟨⟨f1,G,f3⟩,S⟩:=aa.out x (gH I);have⟨H,af⟩:=ox S;have u:=N j x I;have p:x.a=false->∀W,Fr [] wr W->Calls prog 189 #[.pointer (some ⟨b,0,none⟩),fu x.n,fg x.v] W (l8 W (f.length+1)):=λ_ W hW=>GY b f x.n x.v W (K.fr0 (d.2.2.then hW)) (d.1.fr0 hW) H G af (by have:=d.2.1;omega);have o:x.a=true->∀W,Fr [] wr W->Calls prog 188 #[.pointer (some ⟨b,0,none⟩),fu x.n] W (l8 W f.length):=λ_ W hW=>Be b f x.n W (K.fr0 (d.2.2.then hW)) (d.1.fr0 hW) H G (by have:=d.2.1;omega);obtain⟨⟨k,ow,nu,ix,tx⟩,v,L⟩:=x;simp only at f1 G f3 p o;have⟨so,U,_,_⟩:=eS ow;have⟨st,V,_,_⟩:=eS tx;have⟨sv,X,_,_⟩:=eS v;unfold CH.cs at u;unfold fu at p o;simp only[U,V,X]at u p o;have⟨y0,y1,y2,y3,y4,y5,y6⟩:=FT u;have⟨w1,Y,ag,Z,M⟩:=ir wr #[.int .i64 k,.string so,.int .i64 nu,.int .i64 ix,.string st,.string sv,.bool L] 95 wr.heap.size;clear u N T I H U V X S
   go_upto_region 6 with fail
   try rw[Y]
   clear y0 y1 y2 y3 y4 y5 y6 ac;have⟨x0,x1,x2,x3,x4,x5,x6⟩:=Z.m7;have r:=Hd M;clear Y Z M ag
   cases L with
   | false =>
    have C:=Hd (p rfl);clear p o
    go_wp2_with ((go_at_call 189;(with_reducible refine(C.out _ r.out).mono ?_);rintro e w2 ⟨F,J,rfl,A,z,y⟩;have g:=Hd (An A (An z y));clear A z y))
    go_roundw
    case rel=>exact⟨j+1,F,J,qo,by go_num,rfl,g.1,by have:=g.2.1;have:=d.2.1;omega,d.2.2.then (r.then g.2.2)⟩
    case measure=>simp[intOf];omega
   | true =>
    have C:=Hd (o rfl)
    go_wp2_with ((go_at_call 188;(with_reducible refine(C.out _ r.out).mono ?_);rintro e w2 ⟨F,J,rfl,A,z,y⟩;have g:=Hd (An A (An z y))))
    go_roundw
    case rel=>exact⟨j+1,F,J,qo,by go_num,rfl,g.1,by have:=g.2.1;have:=d.2.1;omega,d.2.2.then (r.then g.2.2)⟩
    case measure=>simp[intOf];omega
  ·obtain rfl:j=n:=qo
   go_wp2
   go_ret2
   exact⟨b,f,rfl,d.1,d.2.1,d.2.2⟩
end Go.Proofs.YtlpmiimgacfmkaaGreatDoor
