/- Part of the proof. -/
import Derived.Test.YtlpmiimgacfmkaaGreatDoorCGa
set_option linter.all false
set_option maxHeartbeats 8000000
set_option maxRecDepth 100000
namespace Go.Proofs.YtlpmiimgacfmkaaGreatDoor
open Go.Proofs.Tryz List
open Go.RowKit
inductive TG
 | nil
 | node (b:Nat) (l:TG) (n:ON) (v:Nm) (h s y:Int) (r:TG)
def TG.adr:TG->Option Addr
 | .nil=>none
 | .node b _ _ _ _ _ _ _=>some ⟨b,0,none⟩
def TG.ptr(t:TG):Value:=.pointer t.adr
def TG.h:TG->Int
 | .nil=>0
 | .node _ _ _ _ h _ _ _=>h
def TG.s:TG->Int
 | .nil=>0
 | .node _ _ _ _ _ s _ _=>s
def TG.y:TG->Int
 | .nil=>0
 | .node _ _ _ _ _ _ y _=>y
def TG.cnt:TG->Nat
 | .nil=>0
 | .node _ l _ _ _ _ _ r=>l.cnt+1+r.cnt
def TG.ns:TG->List ON
 | .nil=>[]
 | .node _ l n _ _ _ _ r=>l.ns++n::r.ns
def jU(l r:Value)(n:ON)(v:Nm)(h s y:Int):Array Value:=#[l,r,.int .i64 n.kind,fg n.owner,.int .i64 n.number,.int .i64 n.index,fg n.text,fg v,.int .i64 h,.int .i64 s,.int .i64 y]
def TGat(w:World):TG->Prop
 | .nil=>True
 | .node b l n v h s y r=>BoxN w b 191 (jU l.ptr r.ptr n v h s y)/\TGat w l/\TGat w r
def TGat.fr0{w w':World}(a:Fr [] w w'):∀ {t:TG},TGat w t->TGat w' t
 | .nil,_=>trivial
 | .node _ _ _ _ _ _ _ _,h=>⟨h.1.fr a qs,TGat.fr0 a h.2.1,TGat.fr0 a h.2.2⟩
def TG.wf:TG->Prop
 | .nil=>True
 | .node b l n v h s y r=>(l.wf/\r.wf)/\(1<=h/\h<=((TG.node b l n v h s y r).cnt:Int))/\s=((TG.node b l n v h s y r).cnt:Int)/\(0<=y/\y<=65536*((TG.node b l n v h s y r).cnt:Int))/\eY n=0/\v.length<=65536
def TG.wf.nums{t:TG}(c:t.wf):0<=t.h/\t.h<=(t.cnt:Int)/\t.s=(t.cnt:Int)/\0<=t.y/\t.y<=65536*(t.cnt:Int):=by
 cases t with
 | nil=>exact⟨qd,qd,rfl,qd,qd⟩
 | node b l n v d s y r =>
  obtain⟨_,e,f,a,_⟩:=c;exact⟨by show 0<=d;omega,e.2,f,a.1,a.2⟩
def np(t:TG)(w:World)(a:TGat w t):Calls prog 278 #[t.ptr] w λe w'=>e=.returned (.int .i64 t.h)/\w'=w:=by
 cases t with
 | nil =>
  unfold TG.ptr TG.adr TG.h
  go_enter func278,ntmps278
  go_wp2
  go_ret
  exact⟨rfl,rfl⟩
 | node b l nm v d f g r =>
  have c:=a.1.c 8;unfold jU at c;simp only[List.getElem?_toArray,List.getElem?_cons_zero,List.getElem?_cons_succ]at c;clear a;unfold TG.ptr TG.adr TG.h
  go_enter func278,ntmps278
  go_wp2
  go_ret
  exact⟨rfl,rfl⟩
def rV(t:TG)(w:World)(h:TGat w t):Calls prog 95 #[t.ptr] w λe w'=>e=.returned (.int .i64 t.s)/\w'=w:=by
 cases t with
 | nil =>
  unfold TG.ptr TG.adr TG.s
  go_enter func95,ntmps95
  go_wp2
  go_ret
  exact⟨rfl,rfl⟩
 | node b l nm v a d f r =>
  have c:=h.1.c 9;unfold jU at c;simp only[List.getElem?_toArray,List.getElem?_cons_zero,List.getElem?_cons_succ]at c;clear h;unfold TG.ptr TG.adr TG.s
  go_enter func95,ntmps95
  go_wp2
  go_ret
  exact⟨rfl,rfl⟩
def tT(t:TG)(w:World)(h:TGat w t):Calls prog 279 #[t.ptr] w λe w'=>e=.returned (.int .i64 t.y)/\w'=w:=by
 cases t with
 | nil =>
  unfold TG.ptr TG.adr TG.y
  go_enter func279,ntmps279
  go_wp2
  go_ret
  exact⟨rfl,rfl⟩
 | node b l nm v a d f r =>
  have c:=h.1.c 10;unfold jU at c;simp only[List.getElem?_toArray,List.getElem?_cons_zero,List.getElem?_cons_succ]at c;clear h;unfold TG.ptr TG.adr TG.y
  go_enter func279,ntmps279
  go_wp2
  go_ret
  exact⟨rfl,rfl⟩
def GW(l r:TG)(m:Nat)(ml mr:Value)(n:ON)(mh ms my:Int)(v:Nm)(w:World)(A:TGat w l)(C:TGat w r)(B:BoxN w m 191 (jU ml mr n v mh ms my))(wl:l.wf)(wr:r.wf)(hc:l.cnt+r.cnt<=100000)(hv:v.length<=65536):
 Calls prog 268 #[l.ptr,.pointer (some ⟨m,0,none⟩),r.ptr] w λe w'=>∃b,e=.returned (.pointer (some ⟨b,0,none⟩))/\w.heap.size<=b/\TGat w' (.node b l n v (1+mx l.h r.h) (1+l.s+r.s) ((v.length:Int)+l.y+r.y) r)/\Fr [] w w':=by
 obtain⟨k,ow,u,i,tx⟩:=n;have⟨D,V,q1,Z⟩:=eS ow;have⟨E,X,q3,q4⟩:=eS tx;have⟨f,Y,af,q5⟩:=eS v;have ag:(v.length:Int)=(f.size:Int):=by rw[iS,af]
 rw[ag];have ay:(f.size:Int)<=65536:=qo
 have ab:BoxN w m 191 #[ml,mr,k,D,u,i,E,f,mh,ms,my]:=by unfold jU at B;simp only[V,X,Y]at B;exact B
 have ad:∀(p q:Value) (a b c:Int),jU p q ⟨k,ow,u,i,tx⟩ v a b c=#[p,q,k,D,u,i,E,f,a,b,c]:=λp q a b c=>by unfold jU;simp only[V,X,Y]
 have ar:=Hd ad;have⟨ah,ai,aj,ak,al⟩:=wl.nums;have⟨am,an,ao,ap,aq⟩:=wr.nums
 have HSS:=Hd (λ(W:World) (hW:Fr [] w W)=>(show W.cell? ⟨m,2,none⟩=some k/\W.cell? ⟨m,3,none⟩=some D/\W.cell? ⟨m,4,none⟩=some u/\W.cell? ⟨m,5,none⟩=some i/\W.cell? ⟨m,6,none⟩=some E/\W.cell? ⟨m,7,none⟩=some f from by
  have g:=ab.fr hW qs;exact⟨g.c 2,g.c 3,g.c 4,g.c 5,g.c 6,g.c 7⟩))
 clear ad V X Y af ag hv q1 Z q3 q4 q5;have F:=Hd (λ(W:World) (hW:Fr [] w W)=>np l W (A.fr0 hW));have G:=Hd (λ(W:World) (hW:Fr [] w W)=>np r W (C.fr0 hW));have H:=Hd (λ(W:World) (hW:Fr [] w W)=>rV l W (A.fr0 hW));have I:=Hd (λ(W:World) (hW:Fr [] w W)=>rV r W (C.fr0 hW));have J:=Hd (λ(W:World) (hW:Fr [] w W)=>tT l W (A.fr0 hW));have K:=Hd (λ(W:World) (hW:Fr [] w W)=>tT r W (C.fr0 hW));have HL:=Hd A;have aw:=Hd C;obtain⟨lp,L⟩:∃p,l.ptr=.pointer p:=⟨_,rfl⟩;obtain⟨rp,M⟩:∃p,r.ptr=.pointer p:=⟨_,rfl⟩;have⟨j,O⟩:=eR (l.h);have⟨x,S⟩:=eR (r.h);have⟨o,P⟩:=eR (l.s);have⟨rs,T⟩:=eR (r.s);have⟨t,Q⟩:=eR (l.y);have⟨N,U⟩:=eR (r.y);rw[L]at F H J;rw[M]at G I K;rw[O]at F ah ai;rw[S]at G am an;rw[P]at H aj;rw[T]at I ao;rw[Q]at J ak al;rw[U]at K ap aq;rw[L,M,O,S,P,T,Q,U];have au:=Hd L;have av:=Hd M;have ax:=B.lt;clear L M O S P T Q U A C B ax ab;have aa:mx j x=max j x:=by unfold mx;split <;> omega
 rw[aa];have e1:IntKind.i64.wrap (1+max j x)=1+max j x:=by simp only[IntKind.wrap_i64];omega
 have⟨q,R⟩:=eR (max j x);rw[R];have HQ:=Hd R;clear R aa;have e2:IntKind.i64.wrap (1+o)=1+o:=by simp only[IntKind.wrap_i64];omega
 have e3:IntKind.i64.wrap (1+o+rs)=1+o+rs:=by simp only[IntKind.wrap_i64];omega
 have e4:IntKind.i64.wrap ((f.size:Int)+t)=(f.size:Int)+t:=by simp only[IntKind.wrap_i64];omega
 have e5:IntKind.i64.wrap ((f.size:Int)+t+N)=(f.size:Int)+t+N:=by simp only[IntKind.wrap_i64];omega
 clear ah ai aj ak al am an ao ap aq ay hc wl wr
 go_enter func268,ntmps268
 go_upto_region 1 with fail
 refine jk (λW=>Fr [] w W) 34 qk qk ((Fq [] w).drew) ?_;simp only[take_succ_cons,take_zero,qG,qH]
 repeat(
  first
  | go_big_quiet_skip
  | (go_big_quiet_want;first|(go_big_quiet_op;go_big_quiet_on)|(apply Exists.intro;refine⟨λW hW=>?_,?_⟩;(· have⟨z1,z2,z3,z4,z5,z6⟩:=HSS.out W hW;go_simp;first|done|with_reducible exact rfl|with_reducible exact⟨rfl,rfl⟩|(first|(go_at_call 278;first|with_reducible exact(F.out W hW).mono (λe w' d=>⟨d.1,by rw[d.2];exact hW⟩)|with_reducible exact(G.out W hW).mono (λe w' d=>⟨d.1,by rw[d.2];exact hW⟩))|(go_at_call 95;first|with_reducible exact(H.out W hW).mono (λe w' d=>⟨d.1,by rw[d.2];exact hW⟩)|with_reducible exact(I.out W hW).mono (λe w' d=>⟨d.1,by rw[d.2];exact hW⟩))|(go_at_call 279;first|with_reducible exact(J.out W hW).mono (λe w' d=>⟨d.1,by rw[d.2];exact hW⟩)|with_reducible exact(K.out W hW).mono (λe w' d=>⟨d.1,by rw[d.2];exact hW⟩))));simp only[qq];go_big_quiet_on))
  )
 refine wpQuiet_nil ?_;intro W hW;generalize ae:max j x=Z at e1 ⊢;obtain rfl:q=Z:=by rw[<-ae,<-HQ.out]
 clear ae;have hf:=(Fr.alloc hW (.cells #[.pointer lp,.pointer rp,k,D,u,i,E,f,.int .i64 (1+q),.int .i64 (1+o+rs),.int .i64 ((f.size:Int)+t+N)] 191));have ac:=BoxN.new W 191 #[.pointer lp,.pointer rp,k,D,u,i,E,f,.int .i64 (1+q),.int .i64 (1+o+rs),.int .i64 ((f.size:Int)+t+N)];have z:=Hd (An hW.size (An hf ac));clear hf ac HSS F G H I J K
 go_wp2
 go_ret
 refine⟨_,rfl,z.1,⟨?_,HL.fr0 z.2.1,aw.fr0 z.2.1⟩,z.2.1⟩;rw[au.out,av.out,ar.out];exact z.2.2
structure Tot{α:Type}(c:α->α->Int):Prop where
 anti:∀a b,c b a=- c a b
 tr:∀a b d,c a b<=0->c b d<=0->c a d<=0/\(c a d=0->c a b=0/\c b d=0)
def Tot.pull{α β:Type}{c:α->α->Int}(h:Tot c)(f:β->α):Tot (λa b=>c (f a) (f b)):=⟨λa b=>h.anti _ _,λa b d=>h.tr _ _ _⟩
def Tot.lex{α:Type}{c f:α->α->Int}(g:Tot c)(i:Tot f):Tot (λa b=>if c a b≠0 then c a b else f a b):=by
 refine⟨λa b=>?_,λa b d x y=>?_⟩
 ·have l:=g.anti a b
  have m:=i.anti a b
  show (if c b a≠0 then c b a else f b a)=- (if c a b≠0 then c a b else f a b)
  by_cases h:c a b=0
  ·rw[if_neg qo,if_neg qo];exact m
  ·rw[if_pos qo,if_pos h];exact l
 ·have j:c a b<=0/\(c a b=0->f a b<=0):=by
   change (if c a b≠0 then c a b else f a b)<=0 at x
   split at x
   ·rename_i h;exact⟨x,λe=>absurd e h⟩
   ·rename_i h;exact⟨qo,λ_=>x⟩
  have k:c b d<=0/\(c b d=0->f b d<=0):=by
   change (if c b d≠0 then c b d else f b d)<=0 at y
   split at y
   ·rename_i h;exact⟨y,λe=>absurd e h⟩
   ·rename_i h;exact⟨qo,λ_=>y⟩
  have z:=g.tr a b d j.1 k.1
  show (if c a d≠0 then c a d else f a d)<=0/\((if c a d≠0 then c a d else f a d)=0->(if c a b≠0 then c a b else f a b)=0/\(if c b d≠0 then c b d else f b d)=0)
  by_cases h:c a d=0
  ·have⟨n,o⟩:=z.2 h
   rw[if_neg qo,if_neg qo,if_neg qo];exact i.tr a b d (j.2 n) (k.2 o)
  ·rw[if_pos h]
   exact⟨z.1,λe=>absurd e h⟩
def Tot.of{α:Type}{c d:α->α->Int}(h:Tot c)(e:∀a b,d a b=c a b):Tot d:=by
 have:d=c:=funext λa=>funext λb=>e a b;rw[this];exact h
def tot_int:Tot Lib.compareInt:=by
 refine⟨λa b=>?_,λa b d x y=>?_⟩
 ·unfold Lib.compareInt;split <;> split <;> first|omega|(split <;> omega)
 ·unfold Lib.compareInt at x y ⊢;grind
def tot_cmpL:Tot j5:=by
 refine⟨λa=>?_,λa=>?_⟩
 ·induction a with
  | nil=>intro b;cases b <;> rfl
  | cons x a c =>
   intro b
   cases b with
   | nil=>rfl
   | cons y b=>have:=c b;unfold j5;grind
 ·induction a with
  | nil=>intro b d x y;cases b <;> cases d <;> simp_all [j5]
  | cons p a c =>
   intro b d x y
   cases b with
   | nil=>simp[j5]at x
   | cons q b =>
    cases d with
    | nil=>simp[j5]at y
    | cons s d=>have:=c b d;unfold j5 at x y ⊢;grind
def lg(x y:UInt8)(a b:Nm):nC (x::a) (y::b)=if x.toNat<y.toNat then -1 else if y.toNat<x.toNat then 1 else nC a b:=by
 unfold nC
 have e:Op.bytesLess (x::a) (y::b)=(if x<y then true else if y<x then false else Op.bytesLess a b):=by
  have e0:Op.bytesLess (x::a) (y::b)=(decide (x<y) || (x == y && Op.bytesLess a b)):=rfl;rw[e0];have i:x<y ↔ x.toNat<y.toNat:=UInt8.lt_iff_toNat_lt;have f:y<x ↔ y.toNat<x.toNat:=UInt8.lt_iff_toNat_lt;have g:x=y ↔ x.toNat=y.toNat:=UInt8.toNat_inj.symm
  by_cases c:x<y
  ·rw[if_pos c,decide_eq_true c];rfl
  ·rw[if_neg c,decide_eq_false c,Bool.false_or]
   by_cases d:y<x
   ·rw[if_pos d]
    have:(x == y)=false:=by simp only[beq_eq_false_iff_ne];intro h;have:=g.1 h;have:=f.1 d;omega
    rw[this];rfl
   ·rw[if_neg d]
    have:x=y:=g.2 (by have:=mt i.2 c;have:=mt f.2 d;omega);subst this;simp
 rw[e];have i:x<y ↔ x.toNat<y.toNat:=UInt8.lt_iff_toNat_lt;have f:y<x ↔ y.toNat<x.toNat:=UInt8.lt_iff_toNat_lt;have g:x=y ↔ x.toNat=y.toNat:=UInt8.toNat_inj.symm
 by_cases c:x.toNat<y.toNat
 ·rw[if_pos c,if_pos (i.2 c)];rfl
 ·rw[if_neg c,if_neg (λh=>c (i.1 h))]
  by_cases d:y.toNat<x.toNat
  ·rw[if_pos d,if_pos (f.2 d)]
   have:¬(x::a=y::b):=by intro h;injection h with h _;have:=g.1 h;omega
   simp[this]
  ·rw[if_neg d,if_neg (λh=>d (f.1 h))]
   have:x=y:=g.2 qo;subst this;simp
def tot_cmpS:Tot nC:=by
 refine⟨λa=>?_,λa=>?_⟩
 ·induction a with
  | nil=>intro b;cases b <;> rfl
  | cons x a f =>
   intro b
   cases b with
   | nil=>rfl
   | cons y b=>have:=f b;rw[lg,lg];grind
 ·induction a with
  | nil =>
   intro b d x y;have e:∀(s:UInt8) (d:Nm),nC [] (s::d)=-1:=λ_ _=>rfl;have c:∀(s:UInt8) (d:Nm),nC (s::d) []=1:=λ_ _=>rfl;have g:nC [] []=0:=rfl
   cases b <;> cases d <;> simp_all
  | cons p a f =>
   intro b d x y;have c:∀(s:UInt8) (d:Nm),nC (s::d) []=1:=λ_ _=>rfl
   cases b with
   | nil=>simp[c]at x
   | cons q b =>
    cases d with
    | nil=>simp[c]at y
    | cons s d=>have:=f b d;rw[lg]at x y ⊢;rw[lg,lg];grind
def jl(x:Int)(l:List Int):Aa (x::l)=if x≠0 then x else Aa l:=by
 unfold Aa;by_cases h:x=0
 ·rw[if_pos h,if_neg qo];cases l <;> rfl
 ·rw[if_neg h,if_pos h]
def tot_cmpO:Tot gD:=by
 have t1:=tot_int.pull ON.kind;have t2:=tot_cmpL.pull (λ(a:ON)=>fT a.owner);have t3:=tot_int.pull ON.number;have c:=tot_int.pull ON.index;have d:=tot_cmpS.pull ON.text;have t:=t1.lex (t2.lex (t3.lex (c.lex d)));refine t.of λa b=>?_
 ·unfold gD
  rw[jl,jl,jl]
  have:(if nC a.text b.text≠0 then nC a.text b.text else Aa [])=nC a.text b.text:=by
   split
   ·rfl
   ·rename_i h;show (0:Int)=_;omega
  rw[this]
def tot_cmpK:Tot pL:=by
 have t1:=tot_int.pull KY.rnd;have t2:=tot_int.pull KY.phase;have t3:=tot_int.pull KY.idx;have c:=tot_cmpL.pull (λ(a:KY)=>fT a.lin);have t:=t1.lex (t2.lex (t3.lex c));refine t.of λa b=>?_
 ·unfold pL
  rw[jl,jl,jl,jl]
  have:(if j5 (fT a.lin) (fT b.lin)≠0 then j5 (fT a.lin) (fT b.lin)else Aa [])=j5 (fT a.lin) (fT b.lin):=by
   split
   ·rfl
   ·rename_i h;show (0:Int)=_;omega
  rw[this]
def ltO(a b:ON):Prop:=gD a b<0
def ltO.trans{a b d:ON}(c:ltO a b)(f:ltO b d):ltO a d:=by
 unfold ltO at *;have:=tot_cmpO.tr a b d qo qo
 by_cases e:gD a d=0
 ·have:=this.2 e;omega
 ·have:=this.1;omega
def ltO.eqr{a b d:ON}(c:ltO a b)(f:gD b d=0):ltO a d:=by
 unfold ltO at *;have:=tot_cmpO.tr a b d qo qo
 by_cases e:gD a d=0
 ·have:=this.2 e;omega
 ·have:=this.1;omega
def ltO.eql{a b d:ON}(c:gD a b=0)(f:ltO b d):ltO a d:=by
 unfold ltO at *;have:=tot_cmpO.tr a b d qo qo
 by_cases e:gD a d=0
 ·have:=this.2 e;omega
 ·have:=this.1;omega
def ltO.flip{a b:ON}(h:0<gD a b):ltO b a:=by
 unfold ltO;have:=tot_cmpO.anti a b;omega
def qL:List ON->Prop:=List.Pairwise ltO
def Fc{a b:List ON}{n m:ON}(h:qL (a++n::b))(e:gD m n=0):qL (a++m::b):=by
 unfold qL at *;rw[pairwise_append,pairwise_cons]at *;obtain⟨i,⟨j,k⟩,f⟩:=h;have g:gD n m=0:=by have:=tot_cmpO.anti m n;omega
 refine⟨i,⟨λx c=>ltO.eql e (j x c),k⟩,λx c y d=>?_⟩
 rcases mem_cons.1 d with rfl|d
 ·exact ltO.eqr (f x c n qs) g
 ·exact f x c y (by simp[d])
def TT(w:World)(p:Option Addr)(ns:List ON)(h:Int):Prop:=∃t:TG,p=t.adr/\TGat w t/\t.wf/\t.ns=ns/\t.h=h
def Mid(w:World)(m:Nat)(n:ON)(v:Nm):Prop:=(∃b c a d e,BoxN w m 191 (jU b c n v a d e))/\eY n=0/\v.length<=65536
def TG.cnt_ns:∀t:TG,t.ns.length=t.cnt
 | .nil=>rfl
 | .node _ l _ _ _ _ _ r=>by rw[TG.ns,TG.cnt,gu,length_cons,TG.cnt_ns l,TG.cnt_ns r];omega
section
variable {w w':World} {p:Option Addr} {ns:List ON} {h:Int} {m:Nat} {n:ON} {v:Nm}
def TT.fr0(d:TT w p ns h)(e:Fr [] w w'):TT w' p ns h:=by
 obtain⟨t,a,b,c⟩:=d;exact⟨t,a,b.fr0 e,c⟩
def Mid.fr0(g:Mid w m n v)(i:Fr [] w w'):Mid w' m n v:=by
 obtain⟨⟨a,b,c,d,e,h⟩,f⟩:=g;exact⟨⟨a,b,c,d,e,h.fr i qs⟩,f⟩
def TT.h0(d:TT w p ns h):0<=h/\h<=(ns.length:Int):=by
 obtain⟨t,_,_,a,b,c⟩:=d;have:=a.nums;rw[<-b,<-c,TG.cnt_ns];exact⟨this.1,this.2.1⟩
def TT.isNone(d:TT w none ns h):ns=[]/\h=0:=by
 obtain⟨t,a,_,_,b,c⟩:=d
 cases t with
 | nil=>exact⟨b.symm,c.symm⟩
 | node=>cases a
def TT.nil(w:World):TT w none [] 0:=⟨.nil,rfl,trivial,trivial,rfl,rfl⟩
def TN(w:World)(b:Nat)(ns:List ON)(a e:Option Addr)(n:ON)(v:Nm)(f g:Int)(c d:List ON):Prop :=
 ns=c++n::d/\TT w a c f/\TT w e d g/\(∃i j k,BoxN w b 191 (jU (.pointer a) (.pointer e) n v i j k))/\eY n=0/\v.length<=65536
def TT.some{b:Addr}(f:TT w (some b) ns h):∃b' g k n v c a i j,b=⟨b',0,none⟩/\TN w b' ns g k n v c a i j:=by
 obtain⟨t,c,a,d,e,o⟩:=f
 cases t with
 | nil=>cases c
 | node b l n v h s y r =>
  cases c
  exact⟨b,l.adr,r.adr,n,v,l.h,r.h,l.ns,r.ns,rfl,e.symm,⟨l,rfl,a.2.1,d.1.1,rfl,rfl⟩,⟨r,rfl,a.2.2,d.1.2,rfl,rfl⟩,⟨_,_,_,a.1⟩,d.2.2.2.2⟩
def TT.pos(i:TT w p ns h)(j:0<h):∃b' d g n v a c e f,p=Option.some ⟨b',0,Option.none⟩/\TN w b' ns d g n v a c e f:=by
 cases p with
 | none=>have:=i.isNone.2;omega
 | some b=>obtain⟨b',d,g,n,v,a,c,e,f,rfl,h⟩:=i.some;exact⟨b',d,g,n,v,a,c,e,f,rfl,h⟩
def TN.mid{b:Nat}{j o:Option Addr}{e f:Int}{k l:List ON}(i:TN w b ns j o n v e f k l):Mid w b n v:=by
 obtain⟨_,_,_,⟨a,c,d,h⟩,g⟩:=i;exact⟨⟨_,_,a,c,d,h⟩,g⟩
end
def iL(w:World)(ns:List ON)(e:Ending)(w':World):Prop:=∃p h,e=.returned (.pointer p)/\TT w' p ns h/\Fr [] w w'
def ig(p:Option Addr)(ns:List ON)(h:Int)(w:World)(b:TT w p ns h):Calls prog 278 #[.pointer p] w λe w'=>e=.returned (.int .i64 h)/\w=w':=by
 obtain⟨t,rfl,a,c,d,rfl⟩:=b;exact(np t w a).mono λe w' h=>⟨h.1,h.2.symm⟩
def jJ(i j:Option Addr)(c d:List ON)(k o:Int)(m:Nat)(n:ON)(v:Nm)(w:World)(s:TT w i c k)(a:Mid w m n v)(u:TT w j d o)(f:c.length+d.length<=100000):
 Calls prog 268 #[.pointer i,.pointer (some ⟨m,0,none⟩),.pointer j] w (iL w (c++n::d)):=by
 obtain⟨l,rfl,l2,l3,rfl,rfl⟩:=s;obtain⟨r,rfl,r2,r3,rfl,rfl⟩:=u;obtain⟨⟨y,z,x,A,B,a⟩,t,g⟩:=a;rw[TG.cnt_ns,TG.cnt_ns]at f;refine(GW l r m y z n x A B v w l2 r2 a l3 r3 f g).mono ?_;rintro e w' ⟨b,rfl,_,h,q⟩;refine⟨some ⟨b,0,none⟩,_,rfl,⟨_,rfl,h,?_,rfl,rfl⟩,q⟩;have⟨C,D,E,F,G⟩:=l3.nums;have⟨H,I,J,K,L⟩:=r3.nums;refine⟨⟨l3,r3⟩,?_,?_,?_,t,g⟩
 ·unfold mx TG.cnt;split <;> omega
 ·unfold TG.cnt;omega
 ·unfold TG.cnt;omega
def Is(b:Nat)(M r E:Option Addr)(D a d g:List ON)(t j l o:Int)(f:ON)(N:Nm)(m:Nat)(n:ON)(v:Nm)(w:World)(P:TT w (some ⟨b,0,none⟩) D t)(u:TN w b D r E f N l o d g)(Q:Mid w m n v)(A:TT w M a j)(hc:D.length+a.length<100000)(hd:1<t - j):
 Calls prog 267 #[.pointer (some ⟨b,0,none⟩),.pointer (some ⟨m,0,none⟩),.pointer M] w (iL w (D++n::a)):=by
 have aq:=Hd (ig _ D t w P);have ar:=Hd (ig _ a j w A);have x1:=P.h0;have x2:=A.h0;have e0:IntKind.i64.wrap (t - j)=t - j:=by simp only[IntKind.wrap_i64];omega
 have g1:decide (1<t - j)=true:=by simp;omega
 clear hd x1 x2 P;obtain⟨rfl,I,J,ah,al,ap⟩:=u;have u:TN w b (d++f::g) r E f N l o d g:=⟨rfl,I,J,ah,al,ap⟩;have U:=Hd (λ(W:World) (hW:Fr [] w W)=>ig _ d l W (I.fr0 hW));have V:=Hd (λ(W:World) (hW:Fr [] w W)=>ig _ g o W (J.fr0 hW));have aj:(d.length+1+g.length)+a.length<100000:=by rw[gu,length_cons]at hc;omega
 have HSS:=Hd (λ(W:World) (hW:Fr [] w W)=>(show W.cell? ⟨b,0,none⟩=some (.pointer r)/\W.cell? ⟨b,1,none⟩=some (.pointer E)from by
  obtain⟨_,_,_,⟨_,_,_,h⟩,_⟩:=u;have h:=h.fr hW qs;exact⟨h.c 0,h.c 1⟩))
 have Z:∀(W:World),Fr [] w W->Calls prog 268 #[.pointer E,.pointer m,.pointer M] W (iL W (g++n::a)):=λW hW=>jJ _ _ g a o j m n v W (J.fr0 hW) (Q.fr0 hW) (A.fr0 hW) qo;have au:=Hd Z;have aa:∀(W:World),Fr [] w W->∀q h,TT W q (g++n::a) h->Calls prog 268 #[.pointer r,.pointer b,.pointer q] W (iL W (d++f::(g++n::a))):=λW hW q h R=>jJ _ _ d _ l h b f N W (I.fr0 hW) (u.mid.fr0 hW) R (by simp only[gu,length_cons];omega);have av:=Hd aa;have s:=Hd (An u (An Q (An A aj)));clear Z aa Q A u I J ah al ap aj hc
 go_enter func267,ntmps267
 go_upto_region 2 with(first
  | (go_at_call 278;(with_reducible refine aq.out.mono ?_);rintro e w' ⟨rfl,rfl⟩)
  | (go_at_call 278;(with_reducible refine ar.out.mono ?_);rintro e w' ⟨rfl,rfl⟩))
 by_cases hg:o<=l
 ·have g2:decide (o<=l)=true:=by simp;omega
  refine eW (λW=>Fr [] w W) qk qk ((Fq [] w).drew) ?_
  repeat(
   first
   | go_big_quiet_skip
   | (go_big_quiet_want;first|(go_big_quiet_op;go_big_quiet_on)|(apply Exists.intro;refine⟨λW hW=>?_,?_⟩;(· have⟨aD,z1⟩:=HSS.out W hW;go_simp;first|done|with_reducible exact rfl|with_reducible exact⟨rfl,rfl⟩|(first|(go_at_call 278;first|with_reducible exact(U.out W hW).mono (λe w' h=>⟨h.1,by rw[<-h.2];exact hW⟩)|with_reducible exact(V.out W hW).mono (λe w' h=>⟨h.1,by rw[<-h.2];exact hW⟩))));simp only[qq];go_big_quiet_on))
   )
  refine wpQuiet_nil ?_;intro X x
  go_upto_region 3 with fail
  go_region_held3 (λW=>W.cell? ⟨b,0,none⟩=some (.pointer r)/\W.cell? ⟨b,1,none⟩=some (.pointer E)) (((with_reducible refine HSS.out _ ?_;(repeat(first|exact Fq _ _|with_reducible assumption|refine Fr.drew ?_|refine Fr.alloc ?_ _|refine Fr.then ?_ (Fr.undrew (by with_reducible assumption))));done))) (first
   | (go_at_call 268;(with_reducible refine(au.out _ x.drew).mono ?_);rintro e w5 ⟨q5,h5,rfl,B,y⟩;have z:=x.then y.undrew;have O:=Hd (An B y);clear B y)
   | (go_at_call 268;(with_reducible refine(av.out _ z _ _ O.out.1).mono ?_);rintro e w6 ⟨q6,Y,rfl,C,G⟩;have H:=z.then G;have F:=Hd C;clear C))
  go_wp2
  go_ret
  refine⟨_,Y,rfl,?_,H⟩;rw[append_assoc,cons_append];exact F.out
 ·have g2:decide (o<=l)=false:=by simp;omega
  have ag:0<o:=by have:=s.1.2.1.h0;omega
  obtain⟨i,S,T,n2,v2,az,aA,K,L,rfl,ae⟩:=s.1.2.2.1.pos ag;have af:=ae;obtain⟨rfl,an,ao,ai,_⟩:=ae;have ak:=s.2.2.2;rw[gu,length_cons]at ak
  have HS2:=Hd (λ(W:World) (hW:Fr [] w W)=>(show (W.cell? ⟨b,0,none⟩=some (.pointer r)/\W.cell? ⟨b,1,none⟩=some (.pointer i))/\W.cell? ⟨i,0,none⟩=some (.pointer S)/\W.cell? ⟨i,1,none⟩=some (.pointer T)from by
   refine⟨HSS.out W hW,?_⟩;obtain⟨_,_,_,h⟩:=ai;have h:=h.fr hW qs;exact⟨h.c 0,h.c 1⟩))
  have ab:∀(W:World),Fr [] w W->Calls prog 268 #[.pointer r,.pointer b,.pointer S] W (iL W (d++f::K)):=λW hW=>jJ _ _ d K l az b f N W (s.1.2.1.fr0 hW) (s.1.mid.fr0 hW) (an.fr0 hW) qo;have aw:=Hd ab;have ac:∀(W:World),Fr [] w W->Calls prog 268 #[.pointer T,.pointer m,.pointer M] W (iL W (L++n::a)):=λW hW=>jJ _ _ L a aA j m n v W (ao.fr0 hW) (s.2.1.fr0 hW) (s.2.2.1.fr0 hW) qo;have ax:=Hd ac;have ad:∀(W:World),Fr [] w W->∀p q h k,TT W p (d++f::K) h->TT W q (L++n::a) k->Calls prog 268 #[.pointer p,.pointer i,.pointer q] W (iL W ((d++f::K)++n2::(L++n::a))):=λW hW p q h k hp R=>jJ _ _ _ _ h k i n2 v2 W hp (af.mid.fr0 hW) R (by simp only[gu,length_cons];omega);have ay:=Hd ad;clear ab ac ad af an ao ai ag ak;refine eW (λW=>Fr [] w W) qk qk ((Fq [] w).drew) ?_
  repeat(
   first
   | go_big_quiet_skip
   | (go_big_quiet_want;first|(go_big_quiet_op;go_big_quiet_on)|(apply Exists.intro;refine⟨λW hW=>?_,?_⟩;(· have⟨aD,z1⟩:=HSS.out W hW;go_simp;first|done|with_reducible exact rfl|with_reducible exact⟨rfl,rfl⟩|(first|(go_at_call 278;first|with_reducible exact(U.out W hW).mono (λe w' h=>⟨h.1,by rw[<-h.2];exact hW⟩)|with_reducible exact(V.out W hW).mono (λe w' h=>⟨h.1,by rw[<-h.2];exact hW⟩))));simp only[qq];go_big_quiet_on))
   )
  refine wpQuiet_nil ?_;intro X x;have⟨⟨y0,y1⟩,y2,y3⟩:=HS2.out X x
  go_upto_region 6 with fail
  clear y0 y1 y2 y3
  go_region_held3 (λW=>(W.cell? ⟨b,0,none⟩=some (.pointer r)/\W.cell? ⟨b,1,none⟩=some (.pointer i))/\W.cell? ⟨i,0,none⟩=some (.pointer S)/\W.cell? ⟨i,1,none⟩=some (.pointer T)) (((with_reducible refine HS2.out _ ?_;(repeat(first|exact Fq _ _|with_reducible assumption|refine Fr.drew ?_|refine Fr.alloc ?_ _|refine Fr.then ?_ (Fr.undrew (by with_reducible assumption))));done))) (first
   | (go_at_call 268;(with_reducible refine(aw.out _ x.drew).mono ?_);rintro e w5 ⟨q5,h5,rfl,B,y⟩;have z:=x.then y.undrew;have O:=Hd B;clear B)
   | (go_at_call 268;(with_reducible refine(ax.out _ z).mono ?_);rintro e w6 ⟨q6,Y,rfl,C,G⟩;have H:=z.then G;have F:=Hd (An (O.fr0 G) C);clear C)
   | (go_at_call 268;(with_reducible refine(ay.out _ H _ _ _ _ F.out.1 F.out.2).mono ?_);rintro e w7 ⟨q7,h7,rfl,am,aB⟩;have aC:=H.then aB;have H7:=Hd am;clear am))
  go_wp2
  go_ret
  refine⟨_,h7,rfl,?_,aC⟩;have h:=H7.out;simp only[append_assoc,cons_append]at h ⊢;exact h
def It(b:Nat)(K D r:Option Addr)(a E i d:List ON)(f t l o:Int)(g:ON)(N:Nm)(m:Nat)(n:ON)(v:Nm)(w:World)(A:TT w K a f)(u:TN w b E D r g N l o i d)(P:Mid w m n v)(R:TT w (some ⟨b,0,none⟩) E t)(hc:a.length+E.length<100000)(hd:f - t < -1):
 Calls prog 267 #[.pointer K,.pointer (some ⟨m,0,none⟩),.pointer (some ⟨b,0,none⟩)] w (iL w (a++n::E)):=by
 have au:=Hd (ig _ a f w A);have av:=Hd (ig _ E t w R);have x1:=A.h0;have x2:=R.h0;have e0:IntKind.i64.wrap (f - t)=f - t:=by simp only[IntKind.wrap_i64];omega
 have g0:decide (1<f - t)=false:=by simp;omega
 have g1:decide (f - t < -1)=true:=by simp;omega
 clear hd x1 x2 R;obtain⟨rfl,I,J,ai,am,aq⟩:=u;have u:TN w b (i++g::d) D r g N l o i d:=⟨rfl,I,J,ai,am,aq⟩;have U:=Hd (λ(W:World) (hW:Fr [] w W)=>ig _ i l W (I.fr0 hW));have V:=Hd (λ(W:World) (hW:Fr [] w W)=>ig _ d o W (J.fr0 hW));have ak:a.length+(i.length+1+d.length)<100000:=by rw[gu,length_cons]at hc;omega
 have HSS:=Hd (λ(W:World) (hW:Fr [] w W)=>(show W.cell? ⟨b,0,none⟩=some (.pointer D)/\W.cell? ⟨b,1,none⟩=some (.pointer r)from by
  obtain⟨_,_,_,⟨_,_,_,h⟩,_⟩:=u;have h:=h.fr hW qs;exact⟨h.c 0,h.c 1⟩))
 have Z:∀(W:World),Fr [] w W->Calls prog 268 #[.pointer K,.pointer m,.pointer D] W (iL W (a++n::i)):=λW hW=>jJ _ _ a i f l m n v W (A.fr0 hW) (P.fr0 hW) (I.fr0 hW) qo;have aw:=Hd Z;have aa:∀(W:World),Fr [] w W->∀q h,TT W q (a++n::i) h->Calls prog 268 #[.pointer q,.pointer b,.pointer r] W (iL W ((a++n::i)++g::d)):=λW hW q h Q=>jJ _ _ _ d h o b g N W Q (u.mid.fr0 hW) (J.fr0 hW) (by simp only[gu,length_cons];omega);have ax:=Hd aa;have s:=Hd (An u (An P (An A ak)));clear Z aa P A u I J ai am aq ak hc
 go_enter func267,ntmps267
 go_upto_region 2 with(first
  | (go_at_call 278;(with_reducible refine au.out.mono ?_);rintro e w' ⟨rfl,rfl⟩)
  | (go_at_call 278;(with_reducible refine av.out.mono ?_);rintro e w' ⟨rfl,rfl⟩))
 refine eW (λW=>Fr [] w W) qk qk ((Fq [] w).drew) ?_
 repeat(
  first
  | go_big_quiet_skip
  | (go_big_quiet_want;first|(go_big_quiet_op;go_big_quiet_on)|(apply Exists.intro;refine⟨λW hW=>?_,?_⟩;(· have⟨ar,z1⟩:=HSS.out W hW;go_simp;first|done|with_reducible exact rfl|with_reducible exact⟨rfl,rfl⟩ );simp only[qq];go_big_quiet_on))
  )
 refine wpQuiet_nil ?_;intro W0 ag
 go_upto_region 7 with fail
 by_cases hg:l<=o
 ·have g2:decide (l<=o)=true:=by simp;omega
  refine eW (λW=>Fr [] w W) qk qk (ag.drew) ?_
  repeat(
   first
   | go_big_quiet_skip
   | (go_big_quiet_want;first|(go_big_quiet_op;go_big_quiet_on)|(apply Exists.intro;refine⟨λW hW=>?_,?_⟩;(· have⟨ar,z1⟩:=HSS.out W hW;go_simp;first|done|with_reducible exact rfl|with_reducible exact⟨rfl,rfl⟩|(first|(go_at_call 278;first|with_reducible exact(U.out W hW).mono (λe w' h=>⟨h.1,by rw[<-h.2];exact hW⟩)|with_reducible exact(V.out W hW).mono (λe w' h=>⟨h.1,by rw[<-h.2];exact hW⟩))));simp only[qq];go_big_quiet_on))
   )
  refine wpQuiet_nil ?_;intro X x
  go_upto_region 8 with fail
  go_region_held3 (λW=>W.cell? ⟨b,0,none⟩=some (.pointer D)/\W.cell? ⟨b,1,none⟩=some (.pointer r)) (((with_reducible refine HSS.out _ ?_;(repeat(first|exact Fq _ _|with_reducible assumption|refine Fr.drew ?_|refine Fr.alloc ?_ _|refine Fr.then ?_ (Fr.undrew (by with_reducible assumption))));done))) (first
   | (go_at_call 268;(with_reducible refine(aw.out _ x.drew).mono ?_);rintro e w5 ⟨q5,h5,rfl,B,y⟩;have z:=x.then y.undrew;have O:=Hd (An B y);clear B y)
   | (go_at_call 268;(with_reducible refine(ax.out _ z _ _ O.out.1).mono ?_);rintro e w6 ⟨q6,Y,rfl,C,G⟩;have H:=z.then G;have F:=Hd C;clear C))
  go_wp2
  go_ret
  refine⟨_,Y,rfl,?_,H⟩;have h:=F.out;simp only[append_assoc,cons_append]at h ⊢;exact h
 ·have g2:decide (l<=o)=false:=by simp;omega
  have ah:0<l:=by have:=s.1.2.2.1.h0;omega
  obtain⟨j,S,T,n2,v2,aB,aC,L,M,rfl,ae⟩:=s.1.2.1.pos ah;have af:=ae;obtain⟨rfl,ao,ap,aj,_⟩:=ae;have al:=s.2.2.2;rw[gu,length_cons]at al
  have HS2:=Hd (λ(W:World) (hW:Fr [] w W)=>(show (W.cell? ⟨b,0,none⟩=some (.pointer j)/\W.cell? ⟨b,1,none⟩=some (.pointer r))/\W.cell? ⟨j,0,none⟩=some (.pointer S)/\W.cell? ⟨j,1,none⟩=some (.pointer T)from by
   refine⟨HSS.out W hW,?_⟩;obtain⟨_,_,_,h⟩:=aj;have h:=h.fr hW qs;exact⟨h.c 0,h.c 1⟩))
  have ab:∀(W:World),Fr [] w W->Calls prog 268 #[.pointer K,.pointer m,.pointer S] W (iL W (a++n::L)):=λW hW=>jJ _ _ a L f aB m n v W (s.2.2.1.fr0 hW) (s.2.1.fr0 hW) (ao.fr0 hW) qo;have ay:=Hd ab;have ac:∀(W:World),Fr [] w W->Calls prog 268 #[.pointer T,.pointer b,.pointer r] W (iL W (M++g::d)):=λW hW=>jJ _ _ M d aC o b g N W (ap.fr0 hW) (s.1.mid.fr0 hW) (s.1.2.2.1.fr0 hW) qo;have az:=Hd ac;have ad:∀(W:World),Fr [] w W->∀p q h k,TT W p (a++n::L) h->TT W q (M++g::d) k->Calls prog 268 #[.pointer p,.pointer j,.pointer q] W (iL W ((a++n::L)++n2::(M++g::d))):=λW hW p q h k hp Q=>jJ _ _ _ _ h k j n2 v2 W hp (af.mid.fr0 hW) Q (by simp only[gu,length_cons];omega);have aA:=Hd ad;clear ab ac ad af ao ap aj ah al;refine eW (λW=>Fr [] w W) qk qk (ag.drew) ?_
  repeat(
   first
   | go_big_quiet_skip
   | (go_big_quiet_want;first|(go_big_quiet_op;go_big_quiet_on)|(apply Exists.intro;refine⟨λW hW=>?_,?_⟩;(· have⟨ar,z1⟩:=HSS.out W hW;go_simp;first|done|with_reducible exact rfl|with_reducible exact⟨rfl,rfl⟩|(first|(go_at_call 278;first|with_reducible exact(U.out W hW).mono (λe w' h=>⟨h.1,by rw[<-h.2];exact hW⟩)|with_reducible exact(V.out W hW).mono (λe w' h=>⟨h.1,by rw[<-h.2];exact hW⟩))));simp only[qq];go_big_quiet_on))
   )
  refine wpQuiet_nil ?_;intro X x;have⟨⟨y0,y1⟩,y2,y3⟩:=HS2.out X x
  go_upto_region 11 with fail
  clear y0 y1 y2 y3
  go_region_held3 (λW=>(W.cell? ⟨b,0,none⟩=some (.pointer j)/\W.cell? ⟨b,1,none⟩=some (.pointer r))/\W.cell? ⟨j,0,none⟩=some (.pointer S)/\W.cell? ⟨j,1,none⟩=some (.pointer T)) (((with_reducible refine HS2.out _ ?_;(repeat(first|exact Fq _ _|with_reducible assumption|refine Fr.drew ?_|refine Fr.alloc ?_ _|refine Fr.then ?_ (Fr.undrew (by with_reducible assumption))));done))) (first
   | (go_at_call 268;(with_reducible refine(ay.out _ x.drew).mono ?_);rintro e w5 ⟨q5,h5,rfl,B,y⟩;have z:=x.then y.undrew;have O:=Hd B;clear B)
   | (go_at_call 268;(with_reducible refine(az.out _ z).mono ?_);rintro e w6 ⟨q6,Y,rfl,C,G⟩;have H:=z.then G;have F:=Hd (An (O.fr0 G) C);clear C)
   | (go_at_call 268;(with_reducible refine(aA.out _ H _ _ _ _ F.out.1 F.out.2).mono ?_);rintro e w7 ⟨q7,h7,rfl,an,aD⟩;have aE:=H.then aD;have H7:=Hd an;clear an))
  go_wp2
  go_ret
  refine⟨_,h7,rfl,?_,aE⟩;have h:=H7.out;simp only[append_assoc,cons_append]at h ⊢;exact h
def Iu(i j:Option Addr)(c d:List ON)(a b:Int)(m:Nat)(n:ON)(v:Nm)(w:World)(f:TT w i c a)(o:Mid w m n v)(g:TT w j d b)(y:c.length+d.length<100000)(z:a - b<=1)(A:-1<=a - b):
 Calls prog 267 #[.pointer i,.pointer (some ⟨m,0,none⟩),.pointer j] w (iL w (c++n::d)):=by
 have s:=Hd (ig _ c a w f);have t:=Hd (ig _ d b w g);have C:=f.h0;have D:=g.h0;have e0:IntKind.i64.wrap (a - b)=a - b:=by simp only[IntKind.wrap_i64];omega
 have G:decide (1<a - b)=false:=by simp;omega
 have H:decide (a - b < -1)=false:=by simp;omega
 have k:∀(W:World),Fr [] w W->Calls prog 268 #[.pointer i,.pointer m,.pointer j] W (iL W (c++n::d)):=λW hW=>jJ _ _ c d a b m n v W (f.fr0 hW) (o.fr0 hW) (g.fr0 hW) qo;have u:=Hd k;clear k f o g y z A C D
 go_enter func267,ntmps267
 go_upto_region 2 with(first
  | (go_at_call 278;(with_reducible refine s.out.mono ?_);rintro e w' ⟨rfl,rfl⟩)
  | (go_at_call 278;(with_reducible refine t.out.mono ?_);rintro e w' ⟨rfl,rfl⟩))
 have HSS:=Hd (λ(W:World) (_:Fr [] w W)=>trivial);refine eW (λW=>Fr [] w W) qk qk ((Fq [] w).drew) ?_
 repeat(
  first
  | go_big_quiet_skip
  | (go_big_quiet_want;first|(go_big_quiet_op;go_big_quiet_on)|(apply Exists.intro;refine⟨λW hW=>?_,?_⟩;(· obtain _:=HSS.out W hW;go_simp;first|done|with_reducible exact rfl|with_reducible exact⟨rfl,rfl⟩ );simp only[qq];go_big_quiet_on))
  )
 refine wpQuiet_nil ?_;intro E x
 go_upto_region 7 with fail
 refine eW (λW=>Fr [] w W) qk qk (x.drew) ?_
 repeat(
  first
  | go_big_quiet_skip
  | (go_big_quiet_want;first|(go_big_quiet_op;go_big_quiet_on)|(apply Exists.intro;refine⟨λW hW=>?_,?_⟩;(· obtain _:=HSS.out W hW;go_simp;first|done|with_reducible exact rfl|with_reducible exact⟨rfl,rfl⟩ );simp only[qq];go_big_quiet_on))
  )
 refine wpQuiet_nil ?_;intro F l
 go_wp2_with ((go_at_call 268;(with_reducible refine(u.out _ l).mono ?_);rintro e w2 ⟨J,I,rfl,q,B⟩;have r:=Hd q;clear q))
 go_ret
 exact⟨_,_,rfl,r.out,l.then B⟩
def lh(i j:Option Addr)(d e:List ON)(a c:Int)(m:Nat)(n:ON)(v:Nm)(w:World)(f:TT w i d a)(r:Mid w m n v)(g:TT w j e c)(q:d.length+e.length<100000):
 Calls prog 267 #[.pointer i,.pointer (some ⟨m,0,none⟩),.pointer j] w (iL w (d++n::e)):=by
 by_cases A:1<a - c
 ·have C:=g.h0
  obtain⟨b,s,y,t,z,l,o,u,x,rfl,k⟩:=f.pos qo;exact Is b j s y d e u x a c l o t z m n v w f k r g q A
 ·by_cases B:a - c < -1
  ·have C:=f.h0
   obtain⟨b,s,y,t,z,l,o,u,x,rfl,k⟩:=g.pos qo;exact It b i s y d e u x a c l o t z m n v w f k r g q B
  ·exact Iu i j d e a c m n v w f r g q qo qo
end Go.Proofs.YtlpmiimgacfmkaaGreatDoor
