/- Part of the proof. -/
import Derived.Test.YtlpmiimgacfmkaaGreatDoorCHsh2
set_option linter.all false
set_option maxHeartbeats 4000000
set_option maxRecDepth 100000
namespace Go.Proofs.YtlpmiimgacfmkaaGreatDoor
open Go.Proofs.Tryz List
open Go.RowKit
def Sub(w:World)(A A':Option Addr):Prop:=∀k∈eX A',k∈eX A \/ w.heap.size<=k
def Sub.refl(w:World)(A:Option Addr):Sub w A A:=λ_ h=>.inl h
def Sub.trans{w w' : World}{A A' A'' : Option Addr}(h : Sub w A A')(h' : Sub w' A' A'')(hs : w.heap.size <= w'.heap.size): Sub w A A'' := λk b => by
 rcases h' k b with a|a
 ·exact h k a
 ·exact .inr qo
def Fr.sub{w w' w'' : World}{A A' : Option Addr}(h : Fr (eX A) w w')(h' : Fr (eX A') w' w'')(hs : Sub w A A'): Fr (eX A) w w'' := h.trans h' hs
def gd(u:Nat):Nm:=if a:u<128 then [UInt8.ofNat u]else UInt8.ofNat (u % 128+128)::gd (u / 128)
termination_by u
def mQ{u:Nat}(h:u<128):gd u=[UInt8.ofNat u]:=by rw[gd,dif_pos h]
def rk{u:Nat}(h:¬u<128):gd u=UInt8.ofNat (u % 128+128)::gd (u / 128):=by rw[gd,dif_neg h]
def sU(u:Nat):0<(gd u).length:=by
 by_cases h:u<128
 ·rw[mQ h];simp
 ·rw[rk h];simp
def IY(u:Nat):bits BinOp.or IntKind.u8 ((u:Int) % 256) 128=(u:Int) % 128+128:=by
 have a:∀y:Fin 256,bits BinOp.or IntKind.u8 ((y.val:Nat):Int) 128=((y.val % 128+128:Nat):Int):=by decide +kernel
 have:=a ⟨u % 256,qo⟩;rw[show ((u:Int) % 256)=((u % 256:Nat):Int) by omega,this];simp only;omega
def EN{A:Option Addr}{n m c:Nat}(h:n=m):Ending.returned (.slice A n c)=.returned (.slice A m c):=by rw[h]
def Hq(w:World)(A:Option Addr)(l:Nm)(e:Ending)(w':World):Prop :=
 ∃A' c',e=.returned (.slice A' l.length c')/\Own w' 5 1 A' l.length c' (eO l)/\Fr (eX A) w w'/\Sub w A A'
def IZ(w:World)(A:Option Addr)(t:Nm)(v i:Value)(W:World):Prop :=
 ∃A' c' l u,v=.slice A' l.length c'/\i=.int .u64 ((u:Nat):Int)/\Own W 5 1 A' l.length c' (eO l)/\l++gd u=t/\u<18446744073709551616/\Fr (eX A) w W/\Sub w A A'
def kS(A:Option Addr)(c:Nat)(l:Nm)(u:Nat)(w:World)(p:u<18446744073709551616)(G:(l++gd u).length<=70368744177664)(h:Own w 5 1 A l.length c (eO l)):
 Calls prog 119 #[.slice A l.length c,.int .u64 (u:Int)] w (Hq w A (l++gd u)):=by
 obtain⟨z,x,B,C,D⟩:=oB;have⟨t,d⟩:=eR (l++gd u);rw[d]at G ⊢;have E:Hid (IZ w A t (.slice A l.length c) (.int .u64 (u:Int)) w):=Hd ⟨A,c,l,u,rfl,rfl,h,d,p,Fq _ _,Sub.refl _ _⟩;clear h d p
 go_enter func119,ntmps119
 go_wp2
 go_loopw [0,1] (IZ w A t) (λ_ i _=>(intOf i).toNat)
 case atStart=>exact E.out
 case round =>
  obtain⟨A1,v,e,a,rfl,rfl,h,d,p,H,J⟩:=hrel;have O:=sU a;have M:e.length+(gd a).length=t.length:=by rw[<-d,gu]
  have L:e.length<70368744177664:=qo
  have r:=Hd h;have f:=Hd H;have g:=Hd J;have s:=Hd d
  by_cases K:128<=a
  ·have I:(128:Int)<=(a:Int):=qo
   have N:=IY a
   go_wp2_with (at_builtin;(with_reducible refine fC (w:=wr) rfl (.tmp 7) (.tmp 11) 49 rfl 5 z (.int .u8 0) 1 1 underlying49 x B C D rfl qd A1 e.length v _ rfl r.out 1 1 [.int .u8 ((a:Int) % 128+128)] 5 rfl rfl (by simp[Value.oneCell']) (by unfold maxLen;omega) qo ?_);intro A2 m F b o q;have k:=Hd b;have j:=Hd (f.sub o g.out);have HS2:=Hd (g.trans q f.size))
   go_roundw
   case rel =>
    have n:eO e++[Value.int .u8 ((a:Int) % 128+128)]=eO (e++[UInt8.ofNat (a % 128+128)]):=by
     rw[ij];simp[eO];omega
    have b:=k.out;rw[n]at b;refine⟨A2,m,e++[UInt8.ofNat (a % 128+128)],a / 128,qs,by go_num,by simpa using b,?_,qo,j.out,HS2.out⟩;rw[<-s.out,rk (u:=a) qo,append_assoc];rfl
   case measure=>simp[intOf];omega
  ·have I:¬(128:Int)<=(a:Int):=qo
   go_wp2_with (at_builtin;(with_reducible refine fC (w:=wr) rfl (.tmp 15) (.tmp 18) 49 rfl 5 z (.int .u8 0) 1 1 underlying49 x B C D rfl qd A1 e.length v _ rfl r.out 1 1 [.int .u8 (a:Int)] 5 rfl rfl (by simp[Value.oneCell']) (by unfold maxLen;omega) qo ?_);intro A2 m F b o q;have k:=Hd b;have j:=Hd (f.sub o g.out);have HS2:=Hd (g.trans q f.size))
   go_ret
   have n:eO e++[Value.int .u8 (a:Int)]=eO (e++[UInt8.ofNat a]):=by
    rw[ij];simp[eO];omega
   have b:=k.out;rw[n]at b;have d:=s.out;rw[mQ qo]at d;have y:e.length+1=t.length:=by rw[<-d];simp
   rw[d,y]at b;exact⟨A2,m,EN y,b,j.out,HS2.out⟩
def WrAt(w:World)(b:Nat)(A:Option Addr)(bs:Nm):Prop :=
 ∃c,BoxN w b 227 #[.slice A bs.length c,.int .i64 0]/\Own w 5 1 A bs.length c (eO bs)/\b ∉ eX A
def WPost(w:World)(b:Nat)(A:Option Addr)(bs:Nm)(e:Ending)(w':World):Prop :=
 e=.returned (.tuple #[])/\∃A',WrAt w' b A' bs/\Fr (b::eX A) w w'/\Sub w A A'
def WrAt.fr{S:List Nat}{w w':World}{b:Nat}{A:Option Addr}{bs:Nm}(h:WrAt w b A bs)(a:Fr S w w')(i:b ∉ S)(g:∀k∈eX A,k ∉ S):WrAt w' b A bs:=by
 obtain⟨c,d,e,f⟩:=h;exact⟨c,d.fr a i,e.fr a g,f⟩
def WrAt.lt{w:World}{b:Nat}{A:Option Addr}{bs:Nm}(h:WrAt w b A bs):b<w.heap.size:=by obtain⟨c,a,_⟩:=h;exact a.lt
def pP(w:World)(b:Nat)(A:Option Addr)(bs:Nm)(h:WrAt w b A bs):Calls prog 118 #[.pointer (some ⟨b,0,none⟩)] w λe w'=>e=.returned (.bool true)/\w=w':=by
 obtain⟨c,d,f,g⟩:=h;have a:=d.c 1;simp only[List.getElem?_toArray,List.getElem?_cons_zero,List.getElem?_cons_succ]at a
 go_enter func118,ntmps118
 go_wp2
 go_ret
 exact⟨rfl,rfl⟩
def jS(w:World):Calls prog 54 #[] w λe w'=>e=.returned (.pointer (some ⟨w.heap.size,0,none⟩))/\WrAt w' w.heap.size none []/\Fr [] w w':=by
 go_enter func54,ntmps54
 go_wp2
 go_ret
 exact⟨rfl,⟨0,BoxN.new w _ _,Own.nil _ _ _,by simp[eX]⟩,(Fq [] w).alloc _⟩
def vw{w w2:World}{b c a n m:Nat}{A A2:Option Addr}{bs:Nm}(e:m=bs.length)(f:BoxN w b 227 #[.slice A n c,.int .i64 0])(g:b ∉ eX A)(l:Own w2 5 1 A2 m a (eO bs))(j:Fr (eX A) w w2)(o:Sub w A A2):
 WrAt (w2.setCell ⟨b,0,none⟩ (.slice A2 m a)) b A2 bs/\Fr (b::eX A) w (w2.setCell ⟨b,0,none⟩ (.slice A2 m a)):=by
 subst e;have q:=f.lt
 have i:b ∉ eX A2:=λe=>by
  rcases o b e with h|h
  ·exact g h
  ·omega
 refine⟨⟨a,(f.fr j g).setAt 0 _,?_,i⟩,?_⟩
 ·exact l.fr ((Fq [b] w2).set (p:=⟨b,0,none⟩) qs _) (λk d=>by simp;rintro rfl;exact i d)
 ·exact(j.mono (λk d=>.inl (mem_cons_of_mem _ d))).set (p:=⟨b,0,none⟩) qs _
def iI{w:World}{b c n:Nat}{A:Option Addr}(a:BoxN w b 227 #[.slice A n c,.int .i64 0]):w.cell? ⟨b,0,none⟩=some (.slice A n c)/\w.frozen? ⟨b,0,none⟩=false:=⟨a.c 0,a.f 0⟩
def sV(w:World)(b:Nat)(A:Option Addr)(bs:Nm)(n:Nat)(h:WrAt w b A bs)(z:n<=9223372036854775807)(q:(bs++gd n).length<=70368744177664):
 Calls prog 57 #[.pointer (some ⟨b,0,none⟩),.int .i64 (n:Int)] w (WPost w b A (bs++gd n)):=by
 have v:=pP w b A bs h;obtain⟨c,i,p,d⟩:=h;have x:=(iI i).1;have j:=kS A c bs n w qo q p;have⟨t,u⟩:=eR (bs++gd n);rw[u]at j ⊢;have o:=Hd v;have l:=Hd j;have a:=Hd i
 go_enter func57,ntmps57
 go_wp2_with (first
  | ((go_at_call 118;(with_reducible refine o.out.mono ?_);rintro e B ⟨rfl,rfl⟩))
  | (go_at_call 119;(with_reducible refine l.out.mono ?_);rintro e w2 ⟨A2,y,rfl,r,f,k⟩;have C:=(iI (a.fr f d)).1;have D:=(iI (a.fr f d)).2;have s:=vw rfl a.out d r f k;have g:=Hd s;have m:=Hd k))
 go_end0
 exact⟨rfl,A2,g.1,g.2,m.out⟩
def nf(v:Bool):UInt8:=if v then 1 else 0
def xS(w:World)(b:Nat)(A:Option Addr)(bs:Nm)(v:Bool)(p:WrAt w b A bs)(G:bs.length<=70368744177664):
 Calls prog 122 #[.pointer (some ⟨b,0,none⟩),.bool v] w (WPost w b A (bs++[nf v])):=by
 have B:=pP w b A bs p;obtain⟨c,q,z,f⟩:=p;have F:=(iI q).1;obtain⟨s,r,t,u,x⟩:=oB;have o:=Hd B;have d:=Hd q;have n:=Hd z
 cases v with
 | false =>
  have l:eO bs++[Value.int .u8 0]=eO (bs++[nf false]):=by rw[ij];rfl
  have j:=Hd l
  go_enter func122,ntmps122
  go_wp2_with (first
   | ((go_at_call 118;(with_reducible refine o.out.mono ?_);rintro e C ⟨rfl,rfl⟩))
   | (at_builtin;(with_reducible refine fC (w:=w) rfl (.tmp 13) (.tmp 15) 49 rfl 5 s (.int .u8 0) 1 1 underlying49 r t u x rfl qd A bs.length c _ rfl n.out 1 1 [.int .u8 0] 5 rfl rfl (by simp[Value.oneCell']) (by unfold maxLen;omega) qo ?_);intro A2 y w2 h a i;rw[j.out]at h;have D:=(iI (d.fr a f)).1;have E:=(iI (d.fr a f)).2;have m:=vw qs d.out f h a i;have g:=Hd m;have k:=Hd i))
  go_end0
  exact⟨rfl,A2,g.1,g.2,k.out⟩
 | true =>
  have l:eO bs++[Value.int .u8 1]=eO (bs++[nf true]):=by rw[ij];rfl
  have j:=Hd l
  go_enter func122,ntmps122
  go_wp2_with (first
   | ((go_at_call 118;(with_reducible refine o.out.mono ?_);rintro e C ⟨rfl,rfl⟩))
   | (at_builtin;(with_reducible refine fC (w:=w) rfl (.tmp 13) (.tmp 15) 49 rfl 5 s (.int .u8 0) 1 1 underlying49 r t u x rfl qd A bs.length c _ rfl n.out 1 1 [.int .u8 1] 5 rfl rfl (by simp[Value.oneCell']) (by unfold maxLen;omega) qo ?_);intro A2 y w2 h a i;rw[j.out]at h;have D:=(iI (d.fr a f)).1;have E:=(iI (d.fr a f)).2;have m:=vw qs d.out f h a i;have g:=Hd m;have k:=Hd i))
  go_end0
  exact⟨rfl,A2,g.1,g.2,k.out⟩
def iX(s:Nm):Nm:=gd s.length++s
def xT(w:World)(b:Nat)(A:Option Addr)(bs s:Nm)(v:WrAt w b A bs)(O:s.length<=16777216)(h:(bs++iX s).length<=70368744177664):
 Calls prog 56 #[.pointer (some ⟨b,0,none⟩),fg s] w (WPost w b A (bs++iX s)):=by
 have⟨p,C,B,n⟩:=eS s;rw[C];have G:=pP w b A bs v;obtain⟨c,k,x,l⟩:=v;have T:=(iI k).1;obtain⟨P,N,Q,R,S⟩:=oB;have y:(bs++gd s.length).length+s.length<=70368744177664:=by unfold iX at h;rw[<-append_assoc,gu]at h;exact h
 have g:=kS A c bs s.length w qo qo x;have⟨t,o⟩:=eR (bs++gd s.length);have D:bs++iX s=t++s:=by unfold iX;rw[<-append_assoc,o]
 rw[D];rw[o]at g y;have E:eO t++eO p.data.toList=eO (t++s):=by rw[B,ij]
 have F:t.length+p.size=(t++s).length:=by rw[n,gu]
 rw[<-n]at g O y;have L:=Hd G;have H:=Hd g;have j:=Hd k;have J:=Hd E;have K:=Hd F;clear G g k x h o D E F n B C
 go_enter func56,ntmps56
 go_wp2_with (first
  | ((go_at_call 118;(with_reducible refine L.out.mono ?_);rintro e V ⟨rfl,rfl⟩))
  | (go_at_call 119;(with_reducible refine H.out.mono ?_);rintro e w2 ⟨A2,M,rfl,a,d,f⟩;have I:=Hd a;have q:=Hd d;have u:=Hd f;clear a d f)
  | (at_builtin;(with_reducible refine me (w:=w2) rfl (.tmp 21) (.tmp 22) 49 9 rfl 5 P underlying49 underlying9 N Q R S A2 t.length M _ rfl I.out p rfl (by unfold maxLen;omega) qo ?_);intro A3 U W a d f;rw[J.out]at a;have i:=q.sub d u.out;have m:=u.trans f q.size;have X:=(iI (j.fr i l)).1;have Y:=(iI (j.fr i l)).2;have z:=vw K.out j.out l a i m;have r:=Hd z;have HS2:=Hd m;clear z a d f i m))
 go_end0
 exact⟨rfl,A3,r.1,r.2,HS2.out⟩
section
variable {P:Program} {ops:Array Oper} {rest:List Oper} {o:Oper} {a:Act} {Q:Exit->Act->World->Prop}
def jN{w:World}(E:o.guard=none)(s x:Operand)(t:TypeId)(I:o.op=.call { callee:=.builtin .append,args:=#[s,x],argTypes:=#[t,t] })
 (e:TypeId) (i:TypeInfo) (z:Value) (b g:Nat) (N:P.underlying t=some (.slice e)) (F:P.info? e=some i) (R:i.zero=some z) (L:i.size=b) (C:i.bytes=g) (S:z.cells.size=b) (M:0<b)
 (A:Option Addr) (n c:Nat) (xs:List Value) (K:a.eval s=.slice A n c) (J:Own w e b A n c xs)
 (f:Addr) (m h:Nat) (d:List Value) (O:a.eval x=.slice (some f) m h) (G:d.length=m*b) (H:∀j u,d[j]?=some u->w.cell? (f.add j)=some u) (p:∀u∈d,u.oneCell'=true)
 (y:n+m<=maxLen) (D:(n+m)*g<=140737488355328)
 (l:∀A' c' w',Own w' e b A' (n+m) c' (xs++d)->Fr (eX A) w w'->(∀k∈eX A',k∈eX A \/ w.heap.size<=k)->wpList P ops Q rest (a.put o.dst (.slice A' (n+m) c')) w'):wpList P ops Q (o::rest) a w :=
 wpList_plain E λ_ B=>ja s x t I e i z b g N F R L C S M A n c xs K J f m h d O G H p y D λA' c' w' q r v=>B _ _ (l A' c' w' q r v)
end
def Own.empty(w:World)(e:TypeId)(b:Nat):Own (w.alloc (.cells #[] e)) e b (some ⟨w.heap.size,0,none⟩) 0 0 [] :=
 ⟨qs,.inr ⟨w.heap.size,0,#[],rfl,Nat.zero_le _,World.alloc_heap_new w _,fW _,Nat.zero_le _,qs,qs⟩⟩
def Row.cells{w:World}{B i n:Nat}{a:Addr}{xs:List Value}(h:Row w B i (some a) n xs)(k:a.spot=none):∀j u,xs[j]?=some u->w.cell? (a.add j)=some u:=by
 intro j u d
 have g:0<n:=by
  have m:=(gV.1 d).1
  rcases Nat.eq_zero_or_pos n with c|c
  ·have:=h.1;rw[c]at this;omega
  ·exact c
 have⟨b,off,e,l,f⟩:=h.2 g
 injection e with e
 subst e;rw[Addr.add_mid];exact f j u d
def EO(w:World)(l:Nm)(e:Ending)(w':World):Prop :=
 ∃A' c',e=.returned (.slice A' l.length c')/\Own w' 5 1 A' l.length c' (eO l)/\Fr [] w w'/\∀k∈eX A',w.heap.size<=k
def sW(A:Option Addr)(n c B:Nat)(l:Nm)(w:World)(p:Row w B 1 A n (eO l))(H:∀a,A=some a->a.spot=none)(R:n<=70368744177664):Calls prog 108 #[.slice A n c] w (EO w l):=by
 have q:l.length=n:=by have:=p.1;rw[eP]at this;omega
 cases A with
 | none =>
  have F:n=0:=by
   rcases Nat.eq_zero_or_pos n with i|i
   ·exact i
   ·have⟨b,off,e,_⟩:=p.2 i;simp at e
  subst F;obtain rfl:l=[]:=eq_nil_of_length_eq_zero q;have m:=Lib.run_eql_slice_nil (P:=prog) w 49 5 none 0 c 0 0 underlying49;simp only[Option.isNone_none]at m
  go_enter func108,ntmps108
  go_wp2
  go_ret
  exact⟨none,0,rfl,Own.nil _ _ _,Fq _ _,by simp[eX]⟩
 | some g =>
  obtain⟨L,D,M,N,O⟩:=oB;have z:=p.cells (H g rfl);have r:=Hd z;have f:=Hd q;have m:=Lib.run_eql_slice_nil (P:=prog) w 49 5 (some g) n c 0 0 underlying49;simp only[Option.isNone_some]at m
  go_enter func108,ntmps108
  go_wp2_with (at_builtin;(with_reducible refine jN (w:=w.alloc (.cells #[] 5)) rfl (.tmp 5) (.tmp 6) 49 rfl 5 L (.int .u8 0) 1 1 underlying49 D M N O rfl qd (some ⟨w.heap.size,0,none⟩) 0 0 [] rfl (Own.empty w _ _) g n c (eO l) rfl (by rw[eP,f.out];omega) (λj u J=>Lib.cell?_alloc_some _ (r.out j u J)) (gN l) (by unfold maxLen;omega) qo ?_);intro A2 y w2 d C G;have t:=Hd d;have s:=Hd C;have v:=Hd G)
  go_ret
  have d:=t.out;rw[nil_append,Nat.zero_add]at d
  have I:∀k∈eX A2,w.heap.size<=k:=λk E=>by
   rcases v.out k E with h|h
   ·simp[eX]at h;omega
   ·rw[jZ]at h;omega
  refine⟨A2,y,EN f.symm,by rw[f.out];exact d,?_,I⟩;exact((Fq [] w).alloc _).trans s.out (λx K=>.inr (by simp[eX]at K;omega))
def xU(w:World)(l:Nm)(e:Ending)(w':World):Prop :=
 ∃A' c',e=.returned (.tuple #[.slice A' l.length c',.int .i64 0])/\Own w' 5 1 A' l.length c' (eO l)/\Fr [] w w'/\∀k∈eX A',w.heap.size<=k
def Own.spot{w:World}{e:TypeId}{d n c:Nat}{A:Option Addr}{xs:List Value}(h:Own w e d A n c xs):∀a,A=some a->a.spot=none:=by
 rintro a rfl
 rcases h.2 with⟨b,_⟩|⟨g,f,i,b,_⟩
 ·injection b with b;simp at b
 ·injection b with b;injection b with b;rw[b]
def Co(w:World)(b:Nat)(A:Option Addr)(bs:Nm)(l:WrAt w b A bs)(p:bs.length<=70368744177664):Calls prog 58 #[.pointer (some ⟨b,0,none⟩)] w (xU w bs):=by
 obtain⟨c,d,f,u⟩:=l;have s:=(iI d).1;have t:=d.k1;have m:=sW A bs.length c _ bs w f.row f.spot p;have g:=Hd m
 go_enter func58,ntmps58
 go_wp2_with ((go_at_call 108;(with_reducible refine g.out.mono ?_);rintro e w2 ⟨A2,k,rfl,q,n,r⟩;have i:=Hd q;have h:=Hd n;have j:=Hd r))
 go_ret2
 exact⟨A2,k,rfl,i.out,h.out,j.out⟩
def gL:Nm->Nat->Nat
 | _,0=>0
 | [],_+1=>0
 | c::r,m+1=>if 128<=c.toNat then gL r m+1 else 0
def mv:Nm->Nat
 | []=>0
 | c::r=>mv r*128+c.toNat % 128
def vz(l:Nm):mv l<128 ^ l.length:=by
 induction l with
 | nil=>decide
 | cons c r a=>rw[mv,length_cons,Nat.pow_succ];omega
def sX(l:Nm)(m:Nat):gL l m<=m/\gL l m<=l.length:=by
 induction m generalizing l with
 | zero=>simp[gL]
 | succ m a =>
  cases l with
  | nil=>simp[gL]
  | cons c r =>
   rw[gL]
   by_cases h:128<=c.toNat
   ·rw[if_pos h];have:=a r;simp only[length_cons];omega
   ·rw[if_neg h];simp
def ft(l:Nm):Nat × Nat × Int :=
 if gL l 9=9 then(0,0,3)else if gL l 9=l.length then(0,0,28)else if 0<gL l 9/\(l.getD (gL l 9) 0).toNat=0 then(0,0,3)else(mv (l.take (gL l 9+1)),gL l 9+1,0)
def sY{l:Nm}{k:Nat}(h:k<l.length):l.drop k=l.getD k 0::l.drop (k+1):=by
 rw[drop_eq_getElem_cons h,getD_eq_getElem?_getD,gg h];rfl
def ng{l:Nm}{k j:Nat}(a:j<k)(b:k<=l.length):(l.take k).drop j=l.getD j 0::(l.take k).drop (j+1):=by
 have h:j<(l.take k).length:=by rw[length_take];omega
 rw[sY h]
 congr 1
 rw[getD_eq_getElem?_getD,getD_eq_getElem?_getD,List.getElem?_take_of_lt a]
def Au(u x:Nat)(a:u<72057594037927936)(c:x<128):bits .or .u64 ((u:Int)*128) (x:Int)=((u*128+x:Nat):Int):=by
 have h:=bits_or_u64_nat (u*128) x qo qo;rw[show ((u*128:Nat):Int)=(u:Int)*128 by omega]at h;rw[h]
 congr 1
 have:=Nat.two_pow_add_eq_or_of_lt (i:=7) (b:=x) qo u;rw[show 2 ^ 7*u=u*128 by omega]at this;exact this.symm
def uy(c:UInt8):bits .and .u8 ((c.toNat:Nat):Int) 127=((c.toNat % 128:Nat):Int):=by
 have b:∀y:Fin 256,bits BinOp.and IntKind.u8 ((y.val:Nat):Int) 127=((y.val % 128:Nat):Int):=by decide +kernel
 have a:=c.toNat_lt;exact b ⟨c.toNat,a⟩
def Row.byte{w:World}{B n k:Nat}{A:Option Addr}{l:Nm}(h:Row w B 1 A n (eO l))(e:k<n):∃b off,A=some ⟨b,off,none⟩/\w.cell? ⟨b,off+k,none⟩=some (.int .u8 ((l.getD k 0).toNat:Int)):=by
 have⟨b,off,u,c,f,a,d⟩:=h.at1 e;have g:l.length=n:=by have:=h.1;rw[eP]at this;omega
 rw[gO qo]at a
 injection a with a
 exact⟨b,off,c,by rw[d,a]⟩
def I0(l:Nm)(k:Nat)(u i:Value):Prop :=
 (∃m:Nat,m<=k/\i=.int .i64 (m:Int)/\u=.int .u64 ((mv ((l.take (k+1)).drop (m+1)):Nat):Int)) \/ (i=.int .i64 (-1)/\u=.int .u64 ((mv (l.take (k+1)):Nat):Int))
def I1(u:Nat)(s:Nat)(e:Int):Value:=.tuple #[.int .u64 (u:Int),.int .i64 (s:Int),.int .i64 e]
def pQ(Q:Option Addr)(n c B:Nat)(l:Nm)(w:World)(Z:Row w B 1 Q n (eO l))(aq:n<=70368744177664):
 Calls prog 167 #[.slice Q n c,.int .i64 9] w λe w'=>e=.returned (I1 (ft l).1 (ft l).2.1 (ft l).2.2)/\w=w':=by
 have X:l.length=n:=by have:=Z.1;rw[eP]at this;omega
 have⟨q,Y⟩:=eR (ft l);have⟨K,L⟩:=eR (gL l 9);have W:=sX l 9;rw[L]at W
 have af:(if K=9 then(0,0,3)else if K=n then(0,0,28)else if 0<K/\(l.getD K 0).toNat=0 then(0,0,3)else(mv (l.take (K+1)),K+1,0))=q:=by
  rw[<-Y];unfold ft;rw[L,X]
 rw[Y];have A:=Hd Z;have p:=Hd X;have G:=Hd af;have HK:=Hd L;have al:=W.1;have am:K<=n:=qo
 go_enter func167,ntmps167
 go_wp2
 go_loop [7] (λi=>∃k:Nat,k<=n/\k<=9/\i=k/\k+gL (l.drop k) (9 - k)=K) (λi=>9 - (intOf i).toNat)
 case atStart=>exact⟨0,qo,qo,rfl,by rw[Nat.zero_add];exact HK.out⟩
 case round =>
  obtain⟨k,ap,ao,rfl,ac⟩:=hrel;have R:=Hd ac
  by_cases h:k<n/\k<9/\128<=(l.getD k 0).toNat
  ·obtain⟨h,a,E⟩:=h
   obtain⟨b,off,rfl,F⟩:=A.byte h;have⟨x,o⟩:=eR ((l.getD k 0).toNat);rw[o]at F E;have S:=Hd o;have ai:(k:Int)<(n:Int):=qo
   have D:(k:Int)<9:=qo
   have V:(128:Int)<=(x:Int):=qo
   go_wp2
   go_round
   case rel =>
    refine⟨k+1,qo,qo,by go_num,?_⟩;have e:=R.out;rw[sY (by have:=p.out;omega),show 9 - k=(9 - (k+1))+1 by omega,gL,if_pos (by have:=S.out;omega)]at e;omega
   case measure=>simp[intOf];omega
  ·have ab:k=K:=by
    have e:=R.out
    by_cases a:k=9
    ·subst a;rw[show 9 - 9=0 from rfl]at e;simp[gL]at e;omega
    ·rw[show 9 - k=(9 - (k+1))+1 by omega]at e
     by_cases E:k<n
     ·rw[sY (by have:=p.out;omega),gL,if_neg qo]at e
      omega
     ·rw[drop_eq_nil_of_le (by have:=p.out;omega)]at e
      simp[gL]at e;omega
   subst ab
   by_cases H:k=9
   ·subst H
    have e:=G.out;rw[if_pos rfl]at e;have d:=Hd e;rw[show ((9:Nat):Int)=9 from rfl]
    by_cases a:9<n
    ·have D:(9:Int)<(n:Int):=qo
     go_wp2
     go_ret3
     rw[<-d.out];exact⟨rfl,rfl⟩
    ·have D:¬(9:Int)<(n:Int):=qo
     go_wp2
     go_ret3
     rw[<-d.out];exact⟨rfl,rfl⟩
   ·have aj:((k:Int) == 9)=false:=by simp;omega
    have ak:(k:Int)<9:=qo
    by_cases a:k=n
    ·have D:¬(k:Int)<(n:Int):=qo
     have aa : ((k : Int) == (n : Int)) = true := by simp; omega
     have e:=G.out;rw[if_neg H,if_pos a]at e;have d:=Hd e
     go_wp2
     go_ret3
     rw[<-d.out];exact⟨rfl,rfl⟩
    ·have ad:k<n:=qo
     have D:(k:Int)<(n:Int):=qo
     have aa : ((k : Int) == (n : Int)) = false := by simp; omega
     obtain⟨b,off,rfl,F⟩:=A.byte ad;have⟨x,o⟩:=eR ((l.getD k 0).toNat);have e:=G.out;rw[if_neg H,if_neg a,o]at e;have d:=Hd e;have au:x<128:=by have:=h;omega
     rw[o]at F;have S:=Hd o;have V:¬(128:Int)<=(x:Int):=qo
     by_cases C:0<k/\x=0
     ·obtain⟨C,rfl⟩:=C
      have T:(0:Int)<(k:Int):=qo
      have e:=d.out;rw[if_pos ⟨C,rfl⟩]at e;have z:=Hd e;rw[show ((0:Nat):Int)=0 from rfl]at F V
      go_wp2
      go_ret3
      rw[<-z.out];exact⟨rfl,rfl⟩
     ·have e:=d.out
      rw[if_neg C]at e;have z:=Hd e
      by_cases an:0<k
      ·have T:(0:Int)<(k:Int):=qo
       have ar:((x:Int) == 0)=false:=by simp;omega
       go_wp2
       go_loop [8,9] (I0 l k) (λ_ i=>(intOf i+1).toNat)
       case atStart=>exact .inl ⟨k,fW _,rfl,by rw[drop_eq_nil_of_le (by rw[length_take];omega)];rfl⟩
       case round =>
        rcases hrel with⟨m,hm,rfl,rfl⟩|⟨rfl,rfl⟩
        ·have⟨b2,ah,f,N⟩:=A.byte (k:=m) qo
         injection f with f
         injection f with I J
         subst I J;have⟨U,s⟩:=eR (mv ((l.take (k+1)).drop (m+1)))
         have M:U<72057594037927936:=by
          have h:=vz ((l.take (k+1)).drop (m+1));have a:((l.take (k+1)).drop (m+1)).length<=8:=by rw[length_drop,length_take];omega
          have E:128 ^ ((l.take (k+1)).drop (m+1)).length<=128 ^ 8:=Nat.pow_le_pow_right qo a
          omega
         have u:mv ((l.take (k+1)).drop m)=U*128+(l.getD m 0).toNat % 128:=by
          rw[ng (j:=m) (k:=k+1) qo (by have:=p.out;omega),mv,s]
         have t:=uy (l.getD m 0);have g:=Au U ((l.getD m 0).toNat % 128) M qo;rw[s];have⟨y,v⟩:=eR ((l.getD m 0).toNat);have ag:y<256:=by rw[<-v];exact UInt8.toNat_lt _
         rw[v]at N u t g;rw[show ((y % 128:Nat):Int)=(y:Int) % 128 by omega]at t g;rw[show ((U*128+y % 128:Nat):Int)=(U:Int)*128+(y:Int) % 128 by omega]at g;have r:=Hd u;have O:(0:Int)<=(m:Int):=qo
         have ae:(m:Int)<(n:Int):=qo
         go_wp2
         go_round
         case rel =>
          by_cases P:m=0
          ·subst P
           exact .inr ⟨by go_num,by rw[show l.take (k+1)=(l.take (k+1)).drop 0 from rfl,r.out];go_num⟩
          ·exact .inl ⟨m - 1,qo,by congr 1;omega,by rw[show m - 1+1=m by omega,r.out];go_num⟩
         case measure=>simp[intOf]
        ·have O:¬(0:Int)<=-1:=qo
         go_wp2
         go_ret3
         rw[<-z.out];exact⟨rfl,rfl⟩
      ·have T:¬(0:Int)<(k:Int):=qo
       go_wp2
       go_loop [8,9] (I0 l k) (λ_ i=>(intOf i+1).toNat)
       case atStart=>exact .inl ⟨k,fW _,rfl,by rw[drop_eq_nil_of_le (by rw[length_take];omega)];rfl⟩
       case round =>
        rcases hrel with⟨m,hm,rfl,rfl⟩|⟨rfl,rfl⟩
        ·have⟨b2,ah,f,N⟩:=A.byte (k:=m) qo
         injection f with f
         injection f with I J
         subst I J;have⟨U,s⟩:=eR (mv ((l.take (k+1)).drop (m+1)))
         have M:U<72057594037927936:=by
          have h:=vz ((l.take (k+1)).drop (m+1));have a:((l.take (k+1)).drop (m+1)).length<=8:=by rw[length_drop,length_take];omega
          have E:128 ^ ((l.take (k+1)).drop (m+1)).length<=128 ^ 8:=Nat.pow_le_pow_right qo a
          omega
         have u:mv ((l.take (k+1)).drop m)=U*128+(l.getD m 0).toNat % 128:=by
          rw[ng (j:=m) (k:=k+1) qo (by have:=p.out;omega),mv,s]
         have t:=uy (l.getD m 0);have g:=Au U ((l.getD m 0).toNat % 128) M qo;rw[s];have⟨y,v⟩:=eR ((l.getD m 0).toNat);have ag:y<256:=by rw[<-v];exact UInt8.toNat_lt _
         rw[v]at N u t g;rw[show ((y % 128:Nat):Int)=(y:Int) % 128 by omega]at t g;rw[show ((U*128+y % 128:Nat):Int)=(U:Int)*128+(y:Int) % 128 by omega]at g;have r:=Hd u;have O:(0:Int)<=(m:Int):=qo
         have ae:(m:Int)<(n:Int):=qo
         go_wp2
         go_round
         case rel =>
          by_cases P:m=0
          ·subst P
           exact .inr ⟨by go_num,by rw[show l.take (k+1)=(l.take (k+1)).drop 0 from rfl,r.out];go_num⟩
          ·exact .inl ⟨m - 1,qo,by congr 1;omega,by rw[show m - 1+1=m by omega,r.out];go_num⟩
         case measure=>simp[intOf]
        ·have O:¬(0:Int)<=-1:=qo
         go_wp2
         go_ret3
         rw[<-z.out];exact⟨rfl,rfl⟩
def Cp(l:Nm):(ft l).1<9223372036854775808:=by
 unfold ft;have h:=(sX l 9).1
 by_cases a:gL l 9=9
 ·rw[if_pos a];decide
 ·rw[if_neg a]
  by_cases b:gL l 9=l.length
  ·rw[if_pos b];decide
  ·rw[if_neg b]
   by_cases c:0<gL l 9/\(l.getD (gL l 9) 0).toNat=0
   ·rw[if_pos c];decide
   ·rw[if_neg c]
    have d:=vz (l.take (gL l 9+1));have e:128 ^ (l.take (gL l 9+1)).length<=128 ^ 9:=Nat.pow_le_pow_right qo (by rw[length_take];omega)
    simp only;omega
def mz(l:Nm):(ft l).2.1<=l.length/\(ft l).2.1<=9:=by
 unfold ft;have h:=sX l 9
 by_cases a:gL l 9=9
 ·rw[if_pos a];exact⟨Nat.zero_le _,Nat.zero_le _⟩
 ·rw[if_neg a]
  by_cases b:gL l 9=l.length
  ·rw[if_pos b];exact⟨Nat.zero_le _,Nat.zero_le _⟩
  ·rw[if_neg b]
   by_cases c:0<gL l 9/\(l.getD (gL l 9) 0).toNat=0
   ·rw[if_pos c];exact⟨Nat.zero_le _,Nat.zero_le _⟩
   ·rw[if_neg c];simp only;omega
def uz(A:Option Addr)(n c B:Nat)(l:Nm)(w:World)(g:Row w B 1 A n (eO l))(j:n<=70368744177664):
 Calls prog 111 #[.slice A n c] w λe w'=>e=.returned (.tuple #[.int .i64 ((ft l).1:Int),.int .i64 ((ft l).2.1:Int),.int .i64 (ft l).2.2])/\w=w':=by
 have b:=pQ A n c B l w g j;have i:=Cp l;have⟨k,a⟩:=eR ((ft l).1);have⟨m,d⟩:=eR ((ft l).2.1);have⟨o,f⟩:=eR ((ft l).2.2);rw[a]at i;rw[a,d,f]at b;rw[a,d,f];unfold I1 at b;have h:=Hd b;clear b a d f g
 go_enter func111,ntmps111
 go_wp2_with ((go_at_call 167;(with_reducible refine h.out.mono ?_);rintro e p ⟨rfl,rfl⟩))
 go_ret3
 exact⟨rfl,rfl⟩
structure RS where
 l:Nm
 p:Nat
 f:Int
def RdAt(w:World)(b:Nat)(A:Option Addr)(r:RS):Prop :=
 ∃c,BoxN w b 214 #[.slice A r.l.length c,.int .i64 (r.p:Int),.int .i64 r.f]/\r.l.length<=c/\Row w w.heap.size 1 A r.l.length (eO r.l)/\b ∉ eX A/\r.l.length<=70368744177664/\r.p+r.l.length<=70368744177664
def mA{w:World}{b:Nat}{a d e:Value}{t:TypeId}(h:BoxN w b t #[a,d,e]):w.cell? ⟨b,0,none⟩=some a/\w.cell? ⟨b,1,none⟩=some d/\w.cell? ⟨b,2,none⟩=some e/\w.frozen? ⟨b,0,none⟩=false/\w.frozen? ⟨b,1,none⟩=false/\w.frozen? ⟨b,2,none⟩=false:=⟨h.c 0,h.c 1,h.c 2,h.f 0,h.f 1,h.f 2⟩
def RdAt.fr{S:List Nat}{w w':World}{b:Nat}{A:Option Addr}{r:RS}(h:RdAt w b A r)(d:Fr S w w')(l:b ∉ S)(j:∀k∈eX A,k ∉ S):RdAt w' b A r:=by
 obtain⟨c,e,f,g,i⟩:=h;exact⟨c,e.fr d l,f,(g.fr d (fW _) (by rintro a rfl;exact j _ (by simp[eX]))).more d.size,i⟩
def RdAt.lt{w:World}{b:Nat}{A:Option Addr}{r:RS}(h:RdAt w b A r):b<w.heap.size:=by obtain⟨c,a,_⟩:=h;exact a.lt
def Row.rest{w:World}{B n s c b off:Nat}{l:Nm}(h:Row w B 1 (some ⟨b,off,none⟩) n (eO l))(q:s<=n)(m:n<=c):Row w B 1 (if c=s then some ⟨b,off,none⟩else some ⟨b,off+s,none⟩) (n - s) (eO (l.drop s)):=by
 have o:l.length=n:=by have:=h.1;rw[eP]at this;omega
 refine⟨by rw[eP,length_drop];omega,λp=>?_⟩;have⟨b',off',e,g,i⟩:=h.2 qo
 injection e with e
 injection e with d f
 subst d f;refine⟨b,off+s,by rw[if_neg qo],g,λj u a=>?_⟩;have k:eO (l.drop s)=(eO l).drop s:=by unfold eO;rw[map_drop]
 rw[k,List.getElem?_drop]at a;have:=i _ _ a
 rwa [<-Nat.add_assoc]at this
def ji{α:Type}(z:α)(r:RS)(x:α × Nat × Int):α × RS :=
 if r.f≠0 then(z,r)else if x.2.2≠0 then(z,⟨r.l,r.p,x.2.2⟩)else(x.1,⟨r.l.drop x.2.1,r.p+x.2.1,0⟩)
def RdPost(w:World)(b:Nat)(A:Option Addr)(v:Value)(r:RS)(e:Ending)(w':World):Prop :=
 e=.returned v/\∃A',RdAt w' b A' r/\Fr [b] w w'/\∀k∈eX A',k∈eX A
def zu{b off off':Nat}{p:Prop}[Decidable p]:∀k∈eX (if p then some (⟨b,off,none⟩:Addr)else some ⟨b,off',none⟩),k∈eX (some (⟨b,off,none⟩:Addr)):=by
 intro k a
 by_cases h:p
 ·rw[if_pos h]at a;exact a
 ·rw[if_neg h]at a;simpa [eX]using a
def pR{α:Type}{enc:α->Value}{z:α}{f k q:Nat}{bs:Array Value}{I:Value->Array Value}(hF:(f=112/\k=113/\enc z=.int .i64 0/\bs=#[.pointer (some ⟨q,0,none⟩)]/\I=λs=>#[s,.pointer (some ⟨q,0,none⟩)]) \/ (f=109/\k=110/\enc z=.string ⟨#[]⟩/\bs=#[.pointer (some ⟨q,0,none⟩)]/\I=λs=>#[s,.pointer (some ⟨q,0,none⟩)]) \/ (f=256/\k=257/\enc z=.bool false/\bs=#[]/\I=λs=>#[s]))
 (b:Nat) (A:Option Addr) (r:RS) (w:World) (C:α) (d:Nat) (j:Int) (v:RdAt w b A r)
 (K:j=0->d<=r.l.length/\0<r.l.length)
 (F:∀c,Row w w.heap.size 1 A r.l.length (eO r.l)->r.l.length<=c->r.l.length<=70368744177664->Calls prog k (I (.slice A r.l.length c)) w λe w'=>e=.returned (.tuple #[enc C,.int .i64 (d:Int),.int .i64 j])/\w=w') :
 Calls prog f #[.pointer (some ⟨b,0,none⟩),.func (Fn.func k) #[] bs] w (RdPost w b A (enc (ji z r (C,d,j)).1) (ji z r (C,d,j)).2):=by
 by_cases t:r.f=0
 ·by_cases J:j=0
  ·have⟨R,M⟩:=K J
   subst J;have e0:ji z r (C,d,0)=(C,⟨r.l.drop d,r.p+d,0⟩):=by unfold ji;rw[if_neg (by simpa using t),if_neg qs]
   rw[e0];obtain⟨c,h,m,i,o,y,E⟩:=v;have B:=F c i m y;obtain⟨l,p,f⟩:=r;simp only at t R M h m i y E B ⊢;subst t;obtain⟨g,off,rfl,_⟩:=i.2 M;have⟨S,T,N,aa,ab,ac⟩:=mA h;have Q:=i.rest R m;have D:l.length - d=(l.drop d).length:=by rw[length_drop]
   have Y:g≠b:=by simpa [eX,eq_comm]using o
   have Z:(w.setCell ⟨b,0,none⟩ (.slice (if c=d then some ⟨g,off,none⟩else some ⟨g,off+d,none⟩) (l.length - d) (c - d))).setCell ⟨b,1,none⟩ (.int .i64 ((p+d:Nat):Int))=(w.setCell ⟨b,0,none⟩ (.slice (if c=d then some ⟨g,off,none⟩else some ⟨g,off+d,none⟩) (l.length - d) (c - d))).setCell ⟨b,1,none⟩ (.int .i64 ((p+d:Nat):Int)):=rfl;have O:=((h.setAt 0 (.slice (if c=d then some ⟨g,off,none⟩else some ⟨g,off+d,none⟩) (l.length - d) (c - d))).setAt 1 (.int .i64 ((p+d:Nat):Int)));have u:Fr [b] w ((w.setCell ⟨b,0,none⟩ (.slice (if c=d then some ⟨g,off,none⟩else some ⟨g,off+d,none⟩) (l.length - d) (c - d))).setCell ⟨b,1,none⟩ (.int .i64 ((p+d:Nat):Int))):=((Fq [b] w).set (p:=⟨b,0,none⟩) qs _).set (p:=⟨b,1,none⟩) qs _
   have G:∃A',RdAt ((w.setCell ⟨b,0,none⟩ (.slice (if c=d then some ⟨g,off,none⟩else some ⟨g,off+d,none⟩) (l.length - d) (c - d))).setCell ⟨b,1,none⟩ ((p+d:Nat):Int)) b A' ⟨l.drop d,p+d,0⟩/\Fr [b] w ((w.setCell ⟨b,0,none⟩ (.slice (if c=d then some ⟨g,off,none⟩else some ⟨g,off+d,none⟩) (l.length - d) (c - d))).setCell ⟨b,1,none⟩ ((p+d:Nat):Int))/\∀k∈eX A',k∈eX (some (⟨g,off,none⟩:Addr)):=by
    refine⟨if c=d then some ⟨g,off,none⟩else some ⟨g,off+d,none⟩,⟨c - d,by rw[<-D];exact O,by rw[<-D];omega,?_,?_,by rw[<-D];omega,by rw[<-D];simp only;omega⟩,u,zu⟩
    ·rw[<-D]
     refine(Q.fr u (fW _) (λa X=>?_)).more u.size;have:=zu (p:=c=d) (b:=g) (off:=off) (off':=off+d) a.block (by rw[X];simp[eX]);simp[eX]at this ⊢;omega
    ·intro hm
     have:=zu _ hm;simp[eX]at this;omega
   have H:=Hd G;have L:=Hd B;have af:(d:Int)<=(l.length:Int):=qo
   clear h m i o B Q D Y Z O u G K F M e0;unfold RdPost
   rcases hF with⟨rfl,rfl,n,rfl,rfl⟩|⟨rfl,rfl,n,rfl,rfl⟩|⟨rfl,rfl,n,rfl,rfl⟩
   all_goals
    first
     | go_enter func112,ntmps112
     | go_enter func109,ntmps109
     | go_enter func256,ntmps256
    go_wp2_with (((first|go_at_call 113|go_at_call 110|go_at_call 257);(with_reducible refine L.out.mono ?_);rintro e w1 ⟨rfl,rfl⟩))
    ·go_ret
     have x:=H.out;simp only[if_pos ‹c=d›]at x;rw[show c - d=0 by omega]at x;rw[show ((p+d:Nat):Int)=(p:Int)+(d:Int) by omega]at x;exact⟨rfl,x⟩
    ·go_ret
     have x:=H.out;simp only[if_neg ‹¬c=d›]at x;rw[show ((p+d:Nat):Int)=(p:Int)+(d:Int) by omega]at x;exact⟨rfl,x⟩
  ·have e0:ji z r (C,d,j)=(z,⟨r.l,r.p,j⟩):=by unfold ji;rw[if_neg (by simpa using t),if_pos (by simpa using J)]
   rw[e0];obtain⟨c,h,m,i,o,y,E⟩:=v;have B:=F c i m y;obtain⟨l,p,f⟩:=r;simp only at t h m i y E B ⊢;subst t;have⟨S,T,N,aa,ab,ac⟩:=mA h;have u:Fr [b] w (w.setCell ⟨b,2,none⟩ (.int .i64 j)):=(Fq [b] w).set (p:=⟨b,2,none⟩) qs _;have G:RdAt (w.setCell ⟨b,2,none⟩ (.int .i64 j)) b A ⟨l,p,j⟩:=⟨c,h.setAt 2 _,m,(i.fr u (fW _) (by rintro a rfl;simp[eX]at o ⊢;exact λe=>o e.symm)).more u.size,o,y,E⟩
   have ae:(j != 0)=true:=by simpa using J
   have H:=Hd G;have U:=Hd u;have L:=Hd B;clear h m i o B u G K F e0;unfold RdPost
   rcases hF with⟨rfl,rfl,n,rfl,rfl⟩|⟨rfl,rfl,n,rfl,rfl⟩|⟨rfl,rfl,n,rfl,rfl⟩
   all_goals
    first
     | go_enter func112,ntmps112
     | go_enter func109,ntmps109
     | go_enter func256,ntmps256
    go_wp2_with (((first|go_at_call 113|go_at_call 110|go_at_call 257);(with_reducible refine L.out.mono ?_);rintro e w1 ⟨rfl,rfl⟩))
    go_ret
    exact⟨congrArg Ending.returned n.symm,A,H.out,U.out,λ_ v=>v⟩
 ·have e0:ji z r (C,d,j)=(z,r):=by unfold ji;rw[if_pos (by simpa using t)]
  rw[e0];have V:=Hd v;obtain⟨c,h,m,i,o,y,E⟩:=v;have⟨S,T,N,_⟩:=mA h;have⟨W,P⟩:=eR (r.f);rw[P]at N t
  have ad:(W != 0)=true:=by simpa using t
  clear h m i o K F e0 P;unfold RdPost
  rcases hF with⟨rfl,rfl,n,rfl,rfl⟩|⟨rfl,rfl,n,rfl,rfl⟩|⟨rfl,rfl,n,rfl,rfl⟩
  all_goals
   first
    | go_enter func112,ntmps112
    | go_enter func109,ntmps109
    | go_enter func256,ntmps256
   go_wp2
   go_ret
   exact⟨congrArg Ending.returned n.symm,A,V.out,Fq _ _,λ_ v=>v⟩
end Go.Proofs.YtlpmiimgacfmkaaGreatDoor
