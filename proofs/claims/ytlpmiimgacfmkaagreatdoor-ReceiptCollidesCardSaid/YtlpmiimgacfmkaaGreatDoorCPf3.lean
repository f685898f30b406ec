/- Part of the proof. -/
import Derived.Test.YtlpmiimgacfmkaaGreatDoorCMb
set_option linter.all false
set_option maxHeartbeats 4000000
set_option maxRecDepth 100000
namespace Go.Proofs.YtlpmiimgacfmkaaGreatDoor
open Go.Proofs.Tryz List
open Go.RowKit Go.Shelf
attribute [local go_sem] Oper.semAt_some
def kE{P:Program}{b:Func}{p q u:Tmp}{t1 t2 t3:TypeId}{a:Array Value}{w:World}{A1 A2 A3:Addr}{c d e:Value}(h:b.results=#[.cell p t1,.cell q t2,.cell u t3])(j:a.getD p undef=.pointer (some A1))(l:a.getD q undef=.pointer (some A2))(o:a.getD u undef=.pointer (some A3))
 (f:(loadVar t1 A1).run P w=.ok c w) (g:(loadVar t2 A2).run P w=.ok d w) (i:(loadVar t3 A3).run P w=.ok e w):(results b a).run P w=.ok (.tuple #[c,d,e]) w:=by
 have k:a[p]?.getD undef=.pointer (some A1):=by rw[<-Array.getD_eq_getD_getElem?];exact j
 have n:a[q]?.getD undef=.pointer (some A2):=by rw[<-Array.getD_eq_getD_getElem?];exact l
 have s:a[u]?.getD undef=.pointer (some A3):=by rw[<-Array.getD_eq_getD_getElem?];exact o
 simp only[results,h];simp[Sem.run_bind,Result.andThen,k,n,s,asAddr,f,g,i]
section
variable {P:Program} {r m:Nat} {Q:Exit->Act->World->Prop} {ops:Array Oper}
def ki{o:Oper}{rest:List Oper}{a:Act}{w:World}(c:o.guard=none)(b:Oper.plainB o=true)(h:o.wp P a w (wpListIn (Fence.wide.inRound r) m P ops Q rest) Q):wpListIn (Fence.wide.inRound r) m P ops Q (o::rest) a w:=by
 unfold wpListIn;have d:Region.wanted o (yielded ops a.tmps)=true:=by simp[Region.wanted,c]
 rw[if_pos d];exact ui b h
end
def BH(l:List Value)(z:Array Value)(h:z.size=l.length):(l.zipIdx).foldl (λcs x=>cs.setIfInBounds x.2 x.1) z=l.toArray:=by
 apply Array.ext_getElem?
 intro i;rw[oD l 0 z qo i];simp only[Nat.zero_add,Nat.zero_le,true_and,Nat.sub_zero,List.getElem?_toArray];split
 ·rfl
 ·rw[Array.getElem?_eq_none qo,List.getElem?_eq_none qo]
def BI:∃i,(prog).info? 308=some i/\i.zero=some (.agg ((List.toArray (.int .u8 0::.int .u8 0::.int .u8 0::.int .u8 0::.int .u8 0::.int .u8 0::.int .u8 0::.int .u8 0::.int .u8 0::.int .u8 0::.int .u8 0::.int .u8 0::.int .u8 0::.int .u8 0::.int .u8 0::.int .u8 0::.int .u8 0::.int .u8 0::.int .u8 0::.int .u8 0::.int .u8 0::.int .u8 0::.int .u8 0::.int .u8 0::.int .u8 0::.int .u8 0::.int .u8 0::.int .u8 0::.int .u8 0::.int .u8 0::.int .u8 0::.int .u8 0::.int .u8 0::.int .u8 0::.int .u8 0::.int .u8 0::.int .u8 0::.int .u8 0::.int .u8 0::.int .u8 0::.int .u8 0::.int .u8 0::.int .u8 0::.int .u8 0::.int .u8 0::.int .u8 0::.int .u8 0::.int .u8 0::.int .u8 0::.int .u8 0::.int .u8 0::.int .u8 0::.int .u8 0::.int .u8 0::.int .u8 0::.int .u8 0::.int .u8 0::.int .u8 0::.int .u8 0::.int .u8 0::.int .u8 0::.int .u8 0::.int .u8 0::.int .u8 0::[]):Array Value)))/\i.size=64/\i.bytes=64:=info_parts qk
def kj{P:Program}{c:Code}{K:Act->World->Prop}{Q:Exit->Act->World->Prop}{a:Act}{w:World}(h:c.wp P (Exit.then K (λ_ _ _=>False)) a w):c.wp P (Exit.then K Q) a w :=
 wp_mono h λe a w h=>by cases e <;> first|exact h|exact h.elim
structure PairAt(X:World)(B:Nat)(l r:Nm):Prop where
 rng:X.rangeAt B 0 (fF l r)
 there:X.there B 0 64
 lt:B<X.heap.size
def PairAt.fr{X Y:World}{B:Nat}{l r:Nm}{S:List Nat}(h:PairAt X B l r)(a:Fr S X Y)(b:B ∉ S):PairAt Y B l r :=
 ⟨λj v d=>(a.cell h.lt b).trans (h.rng j v d),λj c=>⟨by rw[a.cell h.lt b];exact(h.there j c).1,by rw[a.frozen h.lt b];exact(h.there j c).2⟩,Nat.lt_of_lt_of_le h.lt a.size⟩
def BJ(X:World){z:Array Value}(d:z.size=64):(X.alloc (.cells z 308)).there X.heap.size 0 64:=λj b=>by
 have a:=BoxN.new X 308 z;rw[Nat.zero_add];refine⟨?_,a.f j⟩;rw[a.c j,Array.getElem?_eq_getElem qo];rfl
def PairAt.put{X:World}{B:Nat}{l r:Nm}(a:X.there B 0 64)(d:B<X.heap.size)(c:l.length=32)(e:r.length=32):PairAt (X.setCells B 0 (fF l r)) B l r:=by
 have b:=iZ c e;have f:X.there B 0 (fF l r).length:=by rw[b];exact a
 refine⟨World.rangeAt_setCells_same X B 0 _ f,?_,by rw[jO];exact d⟩;exact World.there_setCells a B 0 (fF l r)
attribute [local go_sem] Oper.semAt_some
def Ad:∀ {xs:List Nm} {j:Nat} {x:Nm} {o:Nat},(∀y∈xs,y.length=32)->xs[j]?=some x->o<32->(xs.flatMap eO)[j*32+o]?=(eO x)[o]?
 | [],j,x,o,_,h,_=>by simp at h
 | y::r,0,x,o,a,h,b=>by
  simp at h;subst h
  rw[flatMap_cons,Nat.zero_mul,Nat.zero_add,List.getElem?_append_left (by rw[eP,a y qs];exact b)]
 | y::r,j+1,x,o,a,h,b=>by
  rw[flatMap_cons,List.getElem?_append_right (by rw[eP,a y qs,Nat.add_mul];omega),eP,a y qs,show (j+1)*32+o - 32=j*32+o by rw[Nat.add_mul];omega];exact Ad (λz c=>a z (by simp[c])) (by simpa using h) b
def iE(d:Nm)(bs:List Bool)(a:List Nm):Nat->Nm
 | 0=>d
 | k+1=>if bs.getD k false then iO (iE d bs a k) (a.getD k [])else iO (a.getD k []) (iE d bs a k)
def mi{d:Nm}(bs:List Bool)(b:List Nm)(a:d.length=32):∀k,(iE d bs b k).length=32
 | 0=>a
 | k+1=>by rw[iE];split <;> exact fy _
def BK(d:Nm){bs:List Bool}{a:List Nm}{k:Nat}{b:Bool}{p:Nm}(c:bs[k]?=some b)(e:a[k]?=some p):iE d bs a (k+1)=if b then iO (iE d bs a k) p else iO p (iE d bs a k):=by
 rw[iE,getD_eq_getElem?_getD,getD_eq_getElem?_getD,c,e];rfl
attribute [local go_sem] Oper.semAt_some
def ES(R:World->Prop)(e:Ending)(w':World):Prop:=e=.returned (.bool false)/\R w'
def DW(m l x n k:Nat)(W:World)(R a:World->Prop)(z:2<=n)(B:n<=1048576)(q:fb n=k)(C:x<k)(r:∀m,CallsIn Fence.wide m prog 259 #[.int .i64 (x:Int),.int .i64 (k:Int),.func (.yield l) #[] #[]] W (Bo R))
 (s:∀W,R W->YieldAt Fence.wide 0 prog l #[.bool true] W (ES a)):CallsIn Fence.wide m prog 259 #[.int .i64 (x:Int),.int .i64 (n:Int),.func (.yield l) #[] #[]] W (ES a):=by
 have b:=g9 n qo qo W;rw[q]at b;have d:=Hd b;have f:=Hd r;have i:=Hd s;have A:((n:Int) == 1)=false:=by simp;omega
 have D:(x:Int)<(k:Int):=qo
 refine callsIn_of_wp func259 rfl trivial ?_ rfl;simp only[ntmps259,size_toArray,length_cons,length_nil,Nat.reduceAdd,Nat.reduceSub,Array.replicate_succ,Array.replicate_zero,push_toArray,append_toArray,nil_append,cons_append]
 gi_wp2_with (first
  | (refine⟨trivial,λh=>absurd h (by simp[Fence.wide]),?_⟩;(with_reducible refine(callsIn_wide.2 d.out).mono ?_);rintro e t ⟨rfl,rfl⟩)
  | (refine⟨trivial,λh=>absurd h (by simp[Fence.wide]),?_⟩;(with_reducible refine(f.out _).mono ?_);rintro e t ⟨rfl,j⟩;have⟨y,F,v,w,E,p⟩:=gC (m':=m - 1) (i.out _ j);have g:=Hd p))
 refine⟨λh=>absurd h (by simp[Fence.wide]),g.mono ?_⟩;rintro e u ⟨rfl,o⟩;have c:=Hd o
 gi_wp2_with fail
 go_ret
 exact⟨rfl,c.out⟩
def DX(m l x n k y r:Nat)(W:World)(R a:World->Prop)(B:2<=n)(D:n<=1048576)(q:fb n=k)(H:x<n)(J:k<=x)(L:x - k=y)(E:n - k=r)(s:∀m,CallsIn Fence.wide m prog 259 #[.int .i64 (y:Int),.int .i64 (r:Int),.func (.yield l) #[] #[]] W (Bo R))
 (t:∀W,R W->YieldAt Fence.wide 0 prog l #[.bool false] W (ES a)):CallsIn Fence.wide m prog 259 #[.int .i64 (x:Int),.int .i64 (n:Int),.func (.yield l) #[] #[]] W (ES a):=by
 have b:=g9 n qo qo W;rw[q]at b;have d:=Hd b;have f:=Hd s;have i:=Hd t;have C:((n:Int) == 1)=false:=by simp;omega
 have K:¬(x:Int)<(k:Int):=qo
 have I:decide (x<k)=false:=by simp;omega
 have F:IntKind.i64.wrap ((x:Int) - (k:Int))=(y:Int):=by simp[IntKind.wrap,IntKind.bits,IntKind.signed];omega
 have G:IntKind.i64.wrap ((n:Int) - (k:Int))=(r:Int):=by simp[IntKind.wrap,IntKind.bits,IntKind.signed];omega
 refine callsIn_of_wp func259 rfl trivial ?_ rfl;simp only[ntmps259,size_toArray,length_cons,length_nil,Nat.reduceAdd,Nat.reduceSub,Array.replicate_succ,Array.replicate_zero,push_toArray,append_toArray,nil_append,cons_append]
 gi_wp2_with (first
  | (refine⟨trivial,λh=>absurd h (by simp[Fence.wide]),?_⟩;(with_reducible refine(callsIn_wide.2 d.out).mono ?_);rintro e u ⟨rfl,rfl⟩)
  | (refine⟨trivial,λh=>absurd h (by simp[Fence.wide]),?_⟩;(with_reducible refine(f.out _).mono ?_);rintro e u ⟨rfl,j⟩;have⟨A,N,w,z,M,p⟩:=gC (m':=m - 1) (i.out _ j);have g:=Hd p))
 refine⟨λh=>absurd h (by simp[Fence.wide]),g.mono ?_⟩;rintro e v ⟨rfl,o⟩;have c:=Hd o
 gi_wp2_with fail
 go_ret
 exact⟨rfl,c.out⟩
def DY(m l x n k:Nat)(W:World)(R:World->Prop)(p:2<=n)(r:n<=1048576)(i:fb n=k)(s:x<k)(j:∀m,CallsIn Fence.wide m prog 259 #[.int .i64 (x:Int),.int .i64 (k:Int),.func (.yield l) #[] #[]] W (ES R)):CallsIn Fence.wide m prog 259 #[.int .i64 (x:Int),.int .i64 (n:Int),.func (.yield l) #[] #[]] W (ES R):=by
 have a:=g9 n qo qo W;rw[i]at a;have c:=Hd a;have d:=Hd j;have q:((n:Int) == 1)=false:=by simp;omega
 have t:(x:Int)<(k:Int):=qo
 refine callsIn_of_wp func259 rfl trivial ?_ rfl;simp only[ntmps259,size_toArray,length_cons,length_nil,Nat.reduceAdd,Nat.reduceSub,Array.replicate_succ,Array.replicate_zero,push_toArray,append_toArray,nil_append,cons_append]
 gi_wp2_with (first
  | (refine⟨trivial,λh=>absurd h (by simp[Fence.wide]),?_⟩;(with_reducible refine(callsIn_wide.2 c.out).mono ?_);rintro e o ⟨rfl,rfl⟩)
  | (refine⟨trivial,λh=>absurd h (by simp[Fence.wide]),?_⟩;(with_reducible refine(d.out _).mono ?_);rintro e o ⟨rfl,g⟩;have b:=Hd g))
 refine⟨λf h=>(by cases h),?_⟩
 gi_wp2_with fail
 go_ret
 exact⟨rfl,b.out⟩
def DZ(m l x n k y r:Nat)(W:World)(R:World->Prop)(p:2<=n)(s:n<=1048576)(i:fb n=k)(w:x<n)(A:k<=x)(C:x - k=y)(t:n - k=r)(j:∀m,CallsIn Fence.wide m prog 259 #[.int .i64 (y:Int),.int .i64 (r:Int),.func (.yield l) #[] #[]] W (ES R)):CallsIn Fence.wide m prog 259 #[.int .i64 (x:Int),.int .i64 (n:Int),.func (.yield l) #[] #[]] W (ES R):=by
 have a:=g9 n qo qo W;rw[i]at a;have c:=Hd a;have d:=Hd j;have q:((n:Int) == 1)=false:=by simp;omega
 have B:¬(x:Int)<(k:Int):=qo
 have z:decide (x<k)=false:=by simp;omega
 have u:IntKind.i64.wrap ((x:Int) - (k:Int))=(y:Int):=by simp[IntKind.wrap,IntKind.bits,IntKind.signed];omega
 have v:IntKind.i64.wrap ((n:Int) - (k:Int))=(r:Int):=by simp[IntKind.wrap,IntKind.bits,IntKind.signed];omega
 refine callsIn_of_wp func259 rfl trivial ?_ rfl;simp only[ntmps259,size_toArray,length_cons,length_nil,Nat.reduceAdd,Nat.reduceSub,Array.replicate_succ,Array.replicate_zero,push_toArray,append_toArray,nil_append,cons_append]
 gi_wp2_with (first
  | (refine⟨trivial,λh=>absurd h (by simp[Fence.wide]),?_⟩;(with_reducible refine(callsIn_wide.2 c.out).mono ?_);rintro e o ⟨rfl,rfl⟩)
  | (refine⟨trivial,λh=>absurd h (by simp[Fence.wide]),?_⟩;(with_reducible refine(d.out _).mono ?_);rintro e o ⟨rfl,g⟩;have b:=Hd g))
 refine⟨λf h=>(by cases h),?_⟩
 gi_wp2_with fail
 go_ret
 exact⟨rfl,b.out⟩
def FG(l:Nat):∀(n x:Nat) (m:Nat) (W:World) (R:Nat->World->Prop) (N:Nat),1<=n->n<=1048576->x<n->N<(bl x n).length->R 0 W ->
 (∀(j:Nat) (b:Bool) (a:World),j<N->(bl x n)[j]?=some b->R j a->YieldAt Fence.wide 0 prog l #[.bool b] a (Bo (R (j+1)))) ->
 (∀(b:Bool) (a:World),(bl x n)[N]?=some b->R N a->YieldAt Fence.wide 0 prog l #[.bool b] a (ES (R (N+1)))) ->
 CallsIn Fence.wide m prog 259 #[.int .i64 (x:Int),.int .i64 (n:Int),.func (.yield l) #[] #[]] W (ES (R (N+1))):=by
 intro n
 induction n using Nat.strongRecOn with
 | ind n u =>
  intro x m W R N v i t e p f g
  rcases Nat.eq_or_lt_of_le v with rfl|k
  ·rw[yO]at e
   exact absurd e qs
  ·have s:=gj (n:=n) k i
   rw[vi x n k i]at f g e
   by_cases o:x<fb n
   ·rw[if_pos o]at f g e
    rw[gu,length_singleton]at e
    by_cases q:N<(bl x (fb n)).length
    ·refine DY m l x n (fb n) W (R (N+1)) k i rfl o (λh=>u (fb n) qo x h W R N s.1 qo o q p (λj b a r c d=>f j b a r ?_ d) (λb a c d=>g b a ?_ d))
     ·rw[List.getElem?_append_left (gV.1 c).1];exact c
     ·rw[List.getElem?_append_left (gV.1 c).1];exact c
    ·obtain rfl:N=(bl x (fb n)).length:=qo
     refine DW m l x n (fb n) W (R (bl x (fb n)).length) _ k i rfl o (λh=>vj l (fb n) x h W R s.1 qo o p (λj b a c d=>f j b a (gV.1 c).1 ?_ d)) (λa d=>g true a ?_ d)
     ·rw[List.getElem?_append_left (gV.1 c).1];exact c
     ·rw[List.getElem?_append_right (fW _),Nat.sub_self];rfl
   ·rw[if_neg o]at f g e
    rw[gu,length_singleton]at e
    by_cases q:N<(bl (x - fb n) (n - fb n)).length
    ·refine DZ m l x n (fb n) (x - fb n) (n - fb n) W (R (N+1)) k i rfl t qo rfl rfl (λh=>u (n - fb n) qo (x - fb n) h W R N qo qo qo q p (λj b a r c d=>f j b a r ?_ d) (λb a c d=>g b a ?_ d))
     ·rw[List.getElem?_append_left (gV.1 c).1];exact c
     ·rw[List.getElem?_append_left (gV.1 c).1];exact c
    ·obtain rfl:N=(bl (x - fb n) (n - fb n)).length:=qo
     refine DX m l x n (fb n) (x - fb n) (n - fb n) W (R (bl (x - fb n) (n - fb n)).length) _ k i rfl t qo rfl rfl (λh=>vj l (n - fb n) (x - fb n) h W R qo qo qo p (λj b a c d=>f j b a (gV.1 c).1 ?_ d)) (λa d=>g false a ?_ d)
     ·rw[List.getElem?_append_left (gV.1 c).1];exact c
     ·rw[List.getElem?_append_right (fW _),Nat.sub_self];rfl
def IP(n g h i d N:Nat)(w:World)(z:i<d)(B:d<=1048576)(y:N<(bl i d).length)(t:BoxN w g 3 #[.int .i64 (i:Int)])(o:BoxN w h 3 #[.int .i64 (d:Int)])(l:Nat)(J:Nat->World->Prop)(W:World)(hW:Fr [] w W)
 (C:∀k x a,k<N->(bl i d)[k]?=some x->J k a->YieldAt Fence.wide (n - 1) prog l #[.bool x] a λe f=>e=.returned (.bool true)/\J (k+1) f)
 (D:∀x a,(bl i d)[N]?=some x->J N a->YieldAt Fence.wide (n - 1) prog l #[.bool x] a λe f=>e=.returned (.bool false)/\J (N+1) f) (u:J 0 W) :
 CallsIn Fence.wide n prog 258 (#[.func (.yield l) #[] #[]]++#[.pointer (some ⟨g,0,none⟩),.pointer (some ⟨h,0,none⟩)]) W λe f=>(∃v,e=.returned v)/\J (N+1) f:=by
 have F:=(t.fr hW qs).c 0;have G:=(o.fr hW qs).c 0
 have r:=Hd (λm =>
  FG l d i m W J N qo B z y u (λj b a A q p=>gC (C j b a A q p)) (λb a q p=>gC (D b a q p)))
 show CallsIn Fence.wide n prog 258 #[.func (.yield l) #[] #[],.pointer g,.pointer h] W _
 refine callsIn_of_wp func258 rfl trivial ?_ rfl;simp only[ntmps258,size_toArray,length_cons,length_nil,Nat.reduceAdd,Nat.reduceSub,Array.replicate_succ,Array.replicate_zero,push_toArray,append_toArray,nil_append,cons_append]
 gi_wp2_with (refine⟨trivial,λs=>absurd s (by simp[Fence.wide]),?_⟩;(with_reducible refine(r.out _).mono ?_);rintro e E ⟨rfl,o⟩)
 go_end0
 exact⟨⟨_,rfl⟩,o⟩
def xe:Option (Option Nat)->Exit
 | none=>.normal
 | some none=>.ret
 | some (some i)=>.exit i
def xc:Option Nat->Code
 | none=>.ret
 | some i=>.exit i
def YieldAt.mono'{f:Fence}{n:Nat}{P:Program}{l:Nat}{args:Array Value}{W:World}{R a:Ending->World->Prop}(h:YieldAt f n P l args W R)(k:∀e b,R e b->a e b):YieldAt f n P l args W a:=by
 obtain⟨g,m,c,d,i,j⟩:=h;exact⟨g,m,c,d,i,j.mono k⟩
def pH{α:Type}{P:Program}{g:Operand}{ps:Array Tmp}{assign body:Code}{Q:Exit->Act->World->Prop}{a:Act}{w:World}{gf:Nat}{lb:Array Value}(ex:Option (Option Nat))(T:Nat->Prop)(n:Nat)(xs:List α)(encs:α->Array Value)
 (hg:a.eval g=.func (.func gf) #[] lb) (eg:∀args w,(callFunc gf args).run P w=.ok (.enter gf args) w) (hps:∀x,(encs x).size=ps.size)
 (I:Nat->World->Prop) (hI:∀k W W',I k W->Fr [w.heap.size,w.heap.size+1] W W'->I k W') (h0:I 0 w)
 (hseq : ∀(l : Nat) (J : Nat -> World -> Prop) (W : World), Fr [] w W -> w.heap.size + 2 <= W.heap.size -> (∀k W1, J k W1 -> I k W1) -> (∀k W' W'' S, J k W' -> Fr S W' W'' -> (∀q ∈ S, W.heap.size <= q) -> I k W'' -> J k W'') -> (∀k x W1, xs[k]? = some x -> J k W1 -> YieldAt Fence.wide (n - 1) P l (encs x) W1 λe W' => ((ex ≠ none -> k + 1 < xs.length) -> e = .returned (.bool true)) /\ (ex ≠ none -> k + 1 = xs.length -> e = .returned (.bool false)) /\ J (k + 1) W' /\ ∃S, Fr S W1 W' /\ ∀q ∈ S, q = w.heap.size \/ q = w.heap.size + 1 \/ T q) -> J 0 W ->
  CallsIn Fence.wide n P gf (#[.func (.yield l) #[] #[]]++lb) W λe W'=>(∃v,e=.returned v)/\J xs.length W')
 (A:Nat->Act->World->Prop) (hA:∀k a' W W',A k a' W->Fr [w.heap.size,w.heap.size+1] W W'->A k a' W')
 (hassign:∀(l k:Nat) (x:α) (W:World) (K:Act->World->Prop),xs[k]?=some x->I k W->w.heap.size+2<=W.heap.size->(∀a' W',Fr [] W W'->A k a' W'->K a' W') ->
  assign.wpIn (Fence.wide.inRound l) (n - 1) P (Exit.then K (λ_ _ _=>False)) { tmps:=(ps.zip (encs x)).foldl (λt (p,v)=>t.setIfInBounds p v) a.tmps,defers:=[] } W)
 (hbody:∀(l k:Nat) (x:α) (a':Act) (W:World),xs[k]?=some x->A k a' W->w.heap.size+2<=W.heap.size->body.wpIn (Fence.wide.inRound l) (n - 1) P (λe _ W'=>e=(if k+1=xs.length then xe ex else .normal)/\I (k+1) W'/\∃S,Fr S W W'/\w.heap.size ∉ S/\w.heap.size+1 ∉ S/\∀q∈S,T q) a' W)
 (hne:ex≠none->xs≠[])
 (hdone:∀(D:Nat) (W:World),w.heap.size<=D->I xs.length W->W.heap[D]?=some (.deferred (some []))->match ex with
  | none=>Q .normal { a with defers:={ target:=.collected D,args:=#[] }::a.defers } W
  | some o=>(xc o).wp P Q { a with defers:={ target:=.collected D,args:=#[] }::a.defers } W) :
 (Code.rangeFunc g ps assign body).wp P Q a w:=by
 refine(wpIn_wide (n:=n+1)).1 (wpIn_rangeFunc λfn hfn=>?_);obtain⟨rec,hrec⟩:∃rec:LoopState->Option Code->Loop,rec=λst pe=>{ state:=st,pending:=pe,fn,tmps:=a.tmps,params:=ps,assign,body,defers:=w.heap.size }:=⟨_,rfl⟩;obtain⟨pd,hpd⟩:∃pd:Nat->Option Code,pd=λk=>if k=xs.length then ex.map xc else none:=⟨_,rfl⟩;have⟨W1,hW1⟩:=eR ((w.alloc (.deferred (some []))).alloc (.loop (rec .ready none)))
 have hL1:W1.heap[w.heap.size+1]?=some (.loop (rec .ready none)):=by
  rw[<-hW1];have:=World.alloc_heap_new (w.alloc (.deferred (some []))) (.loop (rec .ready none))
  rwa [jZ]at this
 have hK1:W1.heap[w.heap.size]?=some (.deferred (some [])):=by
  rw[<-hW1];exact(Below.heap_alloc _ _ _ (by simp)).trans (World.alloc_heap_new w _)
 have hf1:Fr [] w W1:=by rw[<-hW1];exact((Fq [] w).alloc _).alloc _
 have hz1:W1.heap.size=w.heap.size+2:=by rw[<-hW1];simp
 have hfD:∀(W:World) (o:Obj),Fr [w.heap.size,w.heap.size+1] W (W.putObj (w.heap.size+1) o):=λW o=>i6 o (Fq _ W) (.inl (by simp));refine⟨w.heap.size+1,[{ target:=.collected w.heap.size,args:=#[] }],W1,{ target:=.fn (.func gf) lb,args:=#[.func (.yield (w.heap.size+1)) #[] #[]] },W1,gf,#[.func (.yield (w.heap.size+1)) #[] #[]]++lb,W1,?_,?_,λ_ _=>trivial,?_,λ_=>Nat.succ_le_succ (Nat.zero_le n),?_⟩
 ·rw[<-hW1,hrec];exact run_enterLoop_outer _ _ _ _ _
 ·simp only[resolve,hg]
  simp[go_sem]
 ·simp[invoke,go_sem,eg]
 ·refine(hseq (w.heap.size+1) (λk W=>I k W/\W.heap[w.heap.size+1]?=some (.loop (rec (if(pd k).isSome then .done else .ready) (pd k)))/\W.heap[w.heap.size]?=some (.deferred (some []))) W1 hf1 (by omega) (λ_ _ h=>h.1) ?_ ?_ ⟨hI 0 w W1 h0 (hf1.mono (by simp)),?_,hK1⟩).mono ?_
  ·rintro k W W' S ⟨h1,h2,h3⟩ hS hq hi
   exact⟨hi,(hS.block _ (Array.getElem?_eq_some_iff.1 h2).1 (λhm=>by have:=hq _ hm;omega)).trans h2,(hS.block _ (Array.getElem?_eq_some_iff.1 h3).1 (λhm=>by have:=hq _ hm;omega)).trans h3⟩
  ·rintro k x W hx ⟨hi,hl,hk⟩
   have hkl:k<xs.length:=(gV.1 hx).1;rw[show pd k=none by rw[hpd];exact if_neg (by omega)]at hl;have hlt:w.heap.size+1<W.heap.size:=(Array.getElem?_eq_some_iff.1 hl).1;have hy:=run_yield (P:=P) (args:=encs x) hl (by rw[hrec];exact hps x);rw[hrec]at hy;refine⟨fn,_,assign,body,hy,roundIn_of_wpIn hfn (hassign _ k x W _ hx hi (by omega) ?_)⟩;clear hy;intro a' Wa hfa hax;have hlta:w.heap.size+1<Wa.heap.size:=Nat.lt_of_lt_of_le hlt hfa.size
   replace hl:=(hfa.block _ (by omega) (by simp)).trans hl
   replace hk:=(hfa.block _ (by omega) (by simp)).trans hk
   refine⟨_,run_beginRound hl (by rw[hrec];rfl),?_⟩;have hl2:(Wa.putObj (w.heap.size+1) (.loop { rec .ready none with state:=.busy })).heap[w.heap.size+1]?=some (.loop { rec .ready none with state:=.busy }):=World.putObj_heap_same hlta;have hk2:(Wa.putObj (w.heap.size+1) (.loop { rec .ready none with state:=.busy })).heap[w.heap.size]?=some (.deferred (some [])):=(World.putObj_heap_other (by omega)).trans hk;have hb:=hbody (w.heap.size+1) k x a' _ hx (hA k a' _ _ hax (hfD _ _)) (show w.heap.size+2<=(Wa.putObj (w.heap.size+1) (.loop { rec .ready none with state:=.busy })).heap.size by simp;omega)
   have fin:∀(W3:World) (S:List Nat),I (k+1) W3->Fr S (Wa.putObj (w.heap.size+1) (.loop { rec .ready none with state:=.busy })) W3->w.heap.size ∉ S->w.heap.size+1 ∉ S->(∀q∈S,T q)->W3.heap[w.heap.size+1]?=some (.loop { rec .ready none with state:=.busy })/\∀o,(I (k+1) (W3.putObj (w.heap.size+1) o)/\(W3.putObj (w.heap.size+1) o).heap[w.heap.size+1]?=some o/\(W3.putObj (w.heap.size+1) o).heap[w.heap.size]?=some (.deferred (some [])))/\∃S,Fr S W (W3.putObj (w.heap.size+1) o)/\∀q∈S,q=w.heap.size \/ q=w.heap.size+1 \/ T q:=λW3 S hi3 hf3 hS0 hS1 hT=>by
    have hl3:=(hf3.block _ (by simp;omega) hS1).trans hl2;have hk3:=(hf3.block _ (by simp;omega) hS0).trans hk2;have hs3:=(Array.getElem?_eq_some_iff.1 hl3).1;refine⟨hl3,λo=>⟨⟨hI _ _ _ hi3 (hfD _ _),World.putObj_heap_same hs3,(World.putObj_heap_other (by omega)).trans hk3⟩,w.heap.size::(w.heap.size+1)::S,((hfa.mono (by simp)).then ((hfD _ _).mono (by simp))).then ((hf3.mono (λx hx=>.inl (by simp[hx]))).then ((hfD _ _).mono (by simp))),λq hq=>?_⟩⟩
    rcases mem_cons.1 hq with h|hq
    ·exact .inl h
    ·rcases mem_cons.1 hq with h|hq
     ·exact .inr (.inl h)
     ·exact .inr (.inr (hT q hq))
   rcases (show (((if k+1=xs.length then xe ex else .normal)=Exit.normal/\pd (k+1)=none)/\(ex=none \/ k+1<xs.length)) \/ ∃o,ex=some o/\k+1=xs.length by
    by_cases h:k+1=xs.length
    ·cases ex with
     | none=>exact .inl ⟨⟨by rw[if_pos h];rfl,by rw[hpd];exact if_pos h⟩,.inl rfl⟩
     | some o=>exact .inr ⟨o,rfl,h⟩
    ·exact .inl ⟨⟨if_neg h,by rw[hpd];exact if_neg h⟩,.inr (by omega)⟩)with⟨⟨h1,h2⟩,h3⟩|⟨o,rfl,h1⟩
   ·rw[h1]at hb
    refine wpIn_mono hb ?_;rintro e a3 W3 ⟨rfl,hi3,S,hf3,hS0,hS1,hT⟩;have⟨hl3,hz⟩:=fin W3 S hi3 hf3 hS0 hS1 hT;exact⟨_,_,run_endRound (P:=P) none hl3,λ_=>rfl,λh4 h5=>by rcases h3 with h3|h3;exact absurd h3 h4;omega,⟨(hz _).1.1,(hz _).1.2.1.trans (by rw[h2,hrec];rfl),(hz _).1.2.2⟩,(hz _).2⟩
   ·rw[if_pos h1]at hb
    have h2:pd (k+1)=some (xc o):=by rw[hpd];exact if_pos h1
    rcases o with _|i
    all_goals
     refine wpIn_mono hb ?_;rintro e a3 W3 ⟨rfl,hi3,S,hf3,hS0,hS1,hT⟩;have⟨hl3,hz⟩:=fin W3 S hi3 hf3 hS0 hS1 hT;exact⟨_,_,run_endRound (P:=P) (some _) hl3,λh=>absurd (h (by simp)) (by omega),λ_ _=>rfl,⟨(hz _).1.1,(hz _).1.2.1.trans (by rw[h2,hrec];rfl),(hz _).1.2.2⟩,(hz _).2⟩
  ·have h0x:pd 0=none:=by
    rw[hpd]
    cases ex with
    | none=>exact ite_self _
    | some o=>exact if_neg λh=>hne (by simp) (eq_nil_of_length_eq_zero h.symm)
   rw[h0x];exact hL1
  ·rintro e W2 ⟨⟨v,rfl⟩,hi,hl,hk⟩
   have hpl:pd xs.length=ex.map xc:=by rw[hpd];exact if_pos rfl
   rw[hpl]at hl;have hd:=λo=>hdone w.heap.size (W2.putObj (w.heap.size+1) o) (fW _) (hI _ _ _ hi (hfD _ _)) ((World.putObj_heap_other (by omega)).trans hk)
   cases ex with
   | none=>exact⟨none,_,by have:=run_endLoop (P:=P) hl (by rw[hrec];simp);rw[hrec]at this;exact this,hd _⟩
   | some o=>exact⟨some (xc o),_,by have:=run_endLoop (P:=P) hl (by rw[hrec];simp);rw[hrec]at this;exact this,wpIn_wide.2 (hd _)⟩
end Go.Proofs.YtlpmiimgacfmkaaGreatDoor
