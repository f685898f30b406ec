/- Part of the proof. -/
import Derived.Test.YtlpmiimgacfmkaaGreatDoorRHsh2
set_option linter.all false
set_option maxHeartbeats 4000000
set_option maxRecDepth 100000
namespace Go.Proofs.YtlpmiimgacfmkaaGreatDoor
open Go.Proofs.Tryz
open Go.RowKit
def Sub(w:World)(A A':Option Addr):Prop:=∀k∈eV A',k∈eV A \/ w.heap.size<=k
theorem Sub.refl(w:World)(A:Option Addr):Sub w A A:=λ_ h=>.inl h
theorem Sub.trans{w w' : World}{A A' A'' : Option Addr}(h : Sub w A A')(h' : Sub w' A' A'')(hs : w.heap.size <= w'.heap.size): Sub w A A'' := λk b => by
 rcases h' k b with a|a
 ·exact h k a
 ·exact .inr qo
theorem Fr.sub{w w' w'' : World}{A A' : Option Addr}(h : Fr (eV A) w w')(h' : Fr (eV A') w' w'')(hs : Sub w A A'): Fr (eV A) w w'' := h.trans h' hs
def gg(u:Nat):Nm:=if a:u<128 then [UInt8.ofNat u]else UInt8.ofNat (u % 128+128)::gg (u / 128)
termination_by u
theorem mL{u:Nat}(h:u<128):gg u=[UInt8.ofNat u]:=by rw[gg,dif_pos h]
theorem qL{u:Nat}(h:¬u<128):gg u=UInt8.ofNat (u % 128+128)::gg (u / 128):=by rw[gg,dif_neg h]
theorem rX(u:Nat):0<(gg u).length:=by
 by_cases h:u<128
 ·rw[mL h];simp
 ·rw[qL h];simp
theorem FU(u:Nat):bits BinOp.or IntKind.u8 ((u:Int) % 256) 128=(u:Int) % 128+128:=by
 have a:∀y:Fin 256,bits BinOp.or IntKind.u8 ((y.val:Nat):Int) 128=((y.val % 128+128:Nat):Int):=by decide +kernel
 have:=a ⟨u % 256,qo⟩;rw[show ((u:Int) % 256)=((u % 256:Nat):Int) by omega,this];simp only;omega
theorem CE{A:Option Addr}{n m c:Nat}(h:n=m):Ending.returned (.slice A n c)=.returned (.slice A m c):=by rw[h]
def E6(w:World)(A:Option Addr)(l:Nm)(e:Ending)(w':World):Prop :=
 ∃A' c',e=.returned (.slice A' l.length c')/\Own w' 5 1 A' l.length c' (eP l)/\Fr (eV A) w w'/\Sub w A A'
def FV(w:World)(A:Option Addr)(t:Nm)(v i:Value)(W:World):Prop :=
 ∃A' c' l u,v=.slice A' l.length c'/\i=.int .u64 ((u:Nat):Int)/\Own W 5 1 A' l.length c' (eP l)/\l++gg u=t/\u<18446744073709551616/\Fr (eV A) w W/\Sub w A A'
theorem kQ(A:Option Addr)(c:Nat)(l:Nm)(u:Nat)(w:World)(p:u<18446744073709551616)(G:(l++gg u).length<=70368744177664)(h:Own w 5 1 A l.length c (eP l)):
 Calls prog 119 #[.slice A l.length c,.int .u64 (u:Int)] w (E6 w A (l++gg u)):=by
 obtain⟨z,x,B,C,D⟩:=oy;obtain⟨t,d⟩:=eR (l++gg u);rw[d]at G ⊢;have E:Hid (FV w A t (.slice A l.length c) (.int .u64 (u:Int)) w):=Hd ⟨A,c,l,u,rfl,rfl,h,d,p,Fq _ _,Sub.refl _ _⟩;clear h d p
 go_enter func119,ntmps119
 go_wp2_with fail
 go_loopw [0,1] (FV w A t) (λ_ i _=>(intOf i).toNat)
 case atStart=>exact E.out
 case round =>
  obtain⟨A1,v,e,a,rfl,rfl,h,d,p,H,J⟩:=hrel;have O:=rX a;have M:e.length+(gg a).length=t.length:=by rw[<-d,gG]
  have L:e.length<70368744177664:=qo
  have r:=Hd h;have f:=Hd H;have g:=Hd J;have s:=Hd d
  by_cases K:128<=a
  ·have I:(128:Int)<=(a:Int):=qo
   have N:=FU a
   go_wp2_with (at_builtin;(with_reducible refine fp (w:=wr) rfl (.tmp 7) (.tmp 11) 49 rfl 5 z (.int .u8 0) 1 1 underlying49 x B C D rfl qd A1 e.length v _ rfl r.out 1 1 [.int .u8 ((a:Int) % 128+128)] 5 rfl rfl (by simp[Value.oneCell']) (by unfold maxLen;omega) qo ?_);intro A2 m F b o q;have k:=Hd b;have j:=Hd (f.out.sub o g.out);have HS2:=Hd (g.out.trans q f.out.size))
   go_roundw
   case rel =>
    have n:eP e++[Value.int .u8 ((a:Int) % 128+128)]=eP (e++[UInt8.ofNat (a % 128+128)]):=by
     rw[gY];simp[eP];omega
    have b:=k.out;rw[n]at b;refine⟨A2,m,e++[UInt8.ofNat (a % 128+128)],a / 128,qs,by go_num,by simpa using b,?_,qo,j.out,HS2.out⟩;rw[<-s.out,qL (u:=a) qo,List.append_assoc];rfl
   case measure=>simp[intOf];omega
  ·have I:¬(128:Int)<=(a:Int):=qo
   go_wp2_with (at_builtin;(with_reducible refine fp (w:=wr) rfl (.tmp 15) (.tmp 18) 49 rfl 5 z (.int .u8 0) 1 1 underlying49 x B C D rfl qd A1 e.length v _ rfl r.out 1 1 [.int .u8 (a:Int)] 5 rfl rfl (by simp[Value.oneCell']) (by unfold maxLen;omega) qo ?_);intro A2 m F b o q;have k:=Hd b;have j:=Hd (f.out.sub o g.out);have HS2:=Hd (g.out.trans q f.out.size))
   go_ret
   have n:eP e++[Value.int .u8 (a:Int)]=eP (e++[UInt8.ofNat a]):=by
    rw[gY];simp[eP];omega
   have b:=k.out;rw[n]at b;have d:=s.out;rw[mL qo]at d;have y:e.length+1=t.length:=by rw[<-d];simp
   rw[d,y]at b;exact⟨A2,m,CE y,b,j.out,HS2.out⟩
def WrAt(w:World)(b:Nat)(A:Option Addr)(bs:Nm):Prop :=
 ∃c,BoxN w b 227 #[.slice A bs.length c,.int .i64 0]/\Own w 5 1 A bs.length c (eP bs)/\b ∉ eV A
def WPost(w:World)(b:Nat)(A:Option Addr)(bs:Nm)(e:Ending)(w':World):Prop :=
 e=.returned (.tuple #[])/\∃A',WrAt w' b A' bs/\Fr (b::eV A) w w'/\Sub w A A'
theorem WrAt.fr{S:List Nat}{w w':World}{b:Nat}{A:Option Addr}{bs:Nm}(h:WrAt w b A bs)(a:Fr S w w')(i:b ∉ S)(g:∀k∈eV A,k ∉ S):WrAt w' b A bs:=by
 obtain⟨c,d,e,f⟩:=h;exact⟨c,d.fr a i,e.fr a g,f⟩
theorem WrAt.lt{w:World}{b:Nat}{A:Option Addr}{bs:Nm}(h:WrAt w b A bs):b<w.heap.size:=by obtain⟨c,a,_⟩:=h;exact a.lt
theorem pF(w:World)(b:Nat)(A:Option Addr)(bs:Nm)(h:WrAt w b A bs):Calls prog 118 #[.pointer (some ⟨b,0,none⟩)] w λe w'=>e=.returned (.bool true)/\w=w':=by
 obtain⟨c,d,f,g⟩:=h;have a:=d.c 1;simp only[List.getElem?_toArray,List.getElem?_cons_zero,List.getElem?_cons_succ]at a
 go_enter func118,ntmps118
 go_wp2_with fail
 go_ret
 exact⟨rfl,rfl⟩
theorem jM(w:World):Calls prog 54 #[] w λe w'=>e=.returned (.pointer (some ⟨w.heap.size,0,none⟩))/\WrAt w' w.heap.size none []/\Fr [] w w':=by
 go_enter func54,ntmps54
 go_wp2_with fail
 go_ret
 exact⟨rfl,⟨0,BoxN.new w _ _,Own.nil _ _ _,by simp[eV]⟩,(Fq [] w).alloc _⟩
theorem ux{w w2:World}{b c a n m:Nat}{A A2:Option Addr}{bs:Nm}(e:m=bs.length)(f:BoxN w b 227 #[.slice A n c,.int .i64 0])(g:b ∉ eV A)(l:Own w2 5 1 A2 m a (eP bs))(j:Fr (eV A) w w2)(o:Sub w A A2):
 WrAt (w2.setCell ⟨b,0,none⟩ (.slice A2 m a)) b A2 bs/\Fr (b::eV A) w (w2.setCell ⟨b,0,none⟩ (.slice A2 m a)):=by
 subst e;have q:=f.lt
 have i:b ∉ eV A2:=λe=>by
  rcases o b e with h|h
  ·exact g h
  ·omega
 refine⟨⟨a,(f.fr j g).setAt 0 _,?_,i⟩,?_⟩
 ·exact l.fr ((Fq [b] w2).set (p:=⟨b,0,none⟩) qs _) (λk d=>by simp;rintro rfl;exact i d)
 ·exact(j.mono (λk d=>.inl (List.mem_cons_of_mem _ d))).set (p:=⟨b,0,none⟩) qs _
theorem iB{w:World}{b c n:Nat}{A:Option Addr}(a:BoxN w b 227 #[.slice A n c,.int .i64 0]):w.cell? ⟨b,0,none⟩=some (.slice A n c)/\w.frozen? ⟨b,0,none⟩=false:=⟨a.c 0,a.f 0⟩
theorem rY(w:World)(b:Nat)(A:Option Addr)(bs:Nm)(n:Nat)(h:WrAt w b A bs)(z:n<=9223372036854775807)(q:(bs++gg n).length<=70368744177664):
 Calls prog 57 #[.pointer (some ⟨b,0,none⟩),.int .i64 (n:Int)] w (WPost w b A (bs++gg n)):=by
 have v:=pF w b A bs h;obtain⟨c,i,p,d⟩:=h;have x:=(iB i).1;have j:=kQ A c bs n w qo q p;obtain⟨t,u⟩:=eR (bs++gg n);rw[u]at j ⊢;have o:=Hd v;have l:=Hd j;have a:=Hd i
 go_enter func57,ntmps57
 go_wp2_with (first
  | ((go_at_call 118;(with_reducible refine o.out.mono ?_);rintro e B ⟨rfl,rfl⟩))
  | (go_at_call 119;(with_reducible refine l.out.mono ?_);rintro e w2 ⟨A2,y,rfl,r,f,k⟩;have C:=(iB (a.out.fr f d)).1;have D:=(iB (a.out.fr f d)).2;have s:=ux rfl a.out d r f k;have g:=Hd s;have m:=Hd k))
 go_end0
 exact⟨rfl,A2,g.out.1,g.out.2,m.out⟩
def mX(v:Bool):UInt8:=if v then 1 else 0
theorem wg(w:World)(b:Nat)(A:Option Addr)(bs:Nm)(v:Bool)(p:WrAt w b A bs)(G:bs.length<=70368744177664):
 Calls prog 122 #[.pointer (some ⟨b,0,none⟩),.bool v] w (WPost w b A (bs++[mX v])):=by
 have B:=pF w b A bs p;obtain⟨c,q,z,f⟩:=p;have F:=(iB q).1;obtain⟨s,r,t,u,x⟩:=oy;have o:=Hd B;have d:=Hd q;have n:=Hd z
 cases v with
 | false =>
  have l:eP bs++[Value.int .u8 0]=eP (bs++[mX false]):=by rw[gY];rfl
  have j:=Hd l
  go_enter func122,ntmps122
  go_wp2_with (first
   | ((go_at_call 118;(with_reducible refine o.out.mono ?_);rintro e C ⟨rfl,rfl⟩))
   | (at_builtin;(with_reducible refine fp (w:=w) rfl (.tmp 13) (.tmp 15) 49 rfl 5 s (.int .u8 0) 1 1 underlying49 r t u x rfl qd A bs.length c _ rfl n.out 1 1 [.int .u8 0] 5 rfl rfl (by simp[Value.oneCell']) (by unfold maxLen;omega) qo ?_);intro A2 y w2 h a i;rw[j.out]at h;have D:=(iB (d.out.fr a f)).1;have E:=(iB (d.out.fr a f)).2;have m:=ux qs d.out f h a i;have g:=Hd m;have k:=Hd i))
  go_end0
  exact⟨rfl,A2,g.out.1,g.out.2,k.out⟩
 | true =>
  have l:eP bs++[Value.int .u8 1]=eP (bs++[mX true]):=by rw[gY];rfl
  have j:=Hd l
  go_enter func122,ntmps122
  go_wp2_with (first
   | ((go_at_call 118;(with_reducible refine o.out.mono ?_);rintro e C ⟨rfl,rfl⟩))
   | (at_builtin;(with_reducible refine fp (w:=w) rfl (.tmp 13) (.tmp 15) 49 rfl 5 s (.int .u8 0) 1 1 underlying49 r t u x rfl qd A bs.length c _ rfl n.out 1 1 [.int .u8 1] 5 rfl rfl (by simp[Value.oneCell']) (by unfold maxLen;omega) qo ?_);intro A2 y w2 h a i;rw[j.out]at h;have D:=(iB (d.out.fr a f)).1;have E:=(iB (d.out.fr a f)).2;have m:=ux qs d.out f h a i;have g:=Hd m;have k:=Hd i))
  go_end0
  exact⟨rfl,A2,g.out.1,g.out.2,k.out⟩
def iV(s:Nm):Nm:=gg s.length++s
theorem wh(w:World)(b:Nat)(A:Option Addr)(bs s:Nm)(v:WrAt w b A bs)(O:s.length<=16777216)(h:(bs++iV s).length<=70368744177664):
 Calls prog 56 #[.pointer (some ⟨b,0,none⟩),ft s] w (WPost w b A (bs++iV s)):=by
 obtain⟨p,C,B,n⟩:=eT s;rw[C];have G:=pF w b A bs v;obtain⟨c,k,x,l⟩:=v;have T:=(iB k).1;obtain⟨P,N,Q,R,S⟩:=oy;have y:(bs++gg s.length).length+s.length<=70368744177664:=by unfold iV at h;rw[<-List.append_assoc,gG]at h;exact h
 have g:=kQ A c bs s.length w qo qo x;obtain⟨t,o⟩:=eR (bs++gg s.length);have D:bs++iV s=t++s:=by unfold iV;rw[<-List.append_assoc,o]
 rw[D];rw[o]at g y;have E:eP t++eP p.data.toList=eP (t++s):=by rw[B,gY]
 have F:t.length+p.size=(t++s).length:=by rw[n,gG]
 rw[<-n]at g O y;have L:=Hd G;have H:=Hd g;have j:=Hd k;have J:=Hd E;have K:=Hd F;clear G g k x h o D E F n B C
 go_enter func56,ntmps56
 go_wp2_with (first
  | ((go_at_call 118;(with_reducible refine L.out.mono ?_);rintro e V ⟨rfl,rfl⟩))
  | (go_at_call 119;(with_reducible refine H.out.mono ?_);rintro e w2 ⟨A2,M,rfl,a,d,f⟩;have I:=Hd a;have q:=Hd d;have u:=Hd f;clear a d f)
  | (at_builtin;(with_reducible refine l8 (w:=w2) rfl (.tmp 21) (.tmp 22) 49 9 rfl 5 P underlying49 underlying9 N Q R S A2 t.length M _ rfl I.out p rfl (by unfold maxLen;omega) qo ?_);intro A3 U W a d f;rw[J.out]at a;have i:=q.out.sub d u.out;have m:=u.out.trans f q.out.size;have X:=(iB (j.out.fr i l)).1;have Y:=(iB (j.out.fr i l)).2;have z:=ux K.out j.out l a i m;have r:=Hd z;have HS2:=Hd m;clear z a d f i m))
 go_end0
 exact⟨rfl,A3,r.out.1,r.out.2,HS2.out⟩
section
variable {P:Program} {ops:Array Oper} {rest:List Oper} {o:Oper} {a:Act} {Q:Exit->Act->World->Prop}
theorem kF{w:World}(E:o.guard=none)(s x:Operand)(t:TypeId)(I:o.op=.call { callee:=.builtin .append,args:=#[s,x],argTypes:=#[t,t] })
 (e:TypeId) (i:TypeInfo) (z:Value) (b g:Nat) (N:P.underlying t=some (.slice e)) (F:P.info? e=some i) (R:i.zero=some z) (L:i.size=b) (C:i.bytes=g) (S:z.cells.size=b) (M:0<b)
 (A:Option Addr) (n c:Nat) (xs:List Value) (K:a.eval s=.slice A n c) (J:Own w e b A n c xs)
 (f:Addr) (m h:Nat) (d:List Value) (O:a.eval x=.slice (some f) m h) (G:d.length=m*b) (H:∀j u,d[j]?=some u->w.cell? (f.add j)=some u) (p:∀u∈d,u.oneCell'=true)
 (y:n+m<=maxLen) (D:(n+m)*g<=140737488355328)
 (l:∀A' c' w',Own w' e b A' (n+m) c' (xs++d)->Fr (eV A) w w'->(∀k∈eV A',k∈eV A \/ w.heap.size<=k)->wpList P ops Q rest (a.put o.dst (.slice A' (n+m) c')) w'):wpList P ops Q (o::rest) a w :=
 wpList_plain E λ_ B=>gF s x t I e i z b g N F R L C S M A n c xs K J f m h d O G H p y D λA' c' w' q r v=>B _ _ (l A' c' w' q r v)
end
theorem Own.empty(w:World)(e:TypeId)(b:Nat):Own (w.alloc (.cells #[] e)) e b (some ⟨w.heap.size,0,none⟩) 0 0 [] :=
 ⟨qs,.inr ⟨w.heap.size,0,#[],rfl,Nat.zero_le _,World.alloc_heap_new w _,fV _,Nat.zero_le _,qs,qs⟩⟩
theorem Row.cells{w:World}{B i n:Nat}{a:Addr}{xs:List Value}(h:Row w B i (some a) n xs)(k:a.spot=none):∀j u,xs[j]?=some u->w.cell? (a.add j)=some u:=by
 intro j u d
 have g:0<n:=by
  have m:=(i9.1 d).1
  rcases Nat.eq_zero_or_pos n with c|c
  ·have:=h.1;rw[c]at this;omega
  ·exact c
 obtain⟨b,off,e,l,f⟩:=h.2 g
 injection e with e
 subst e;rw[Addr.add_mid];exact f j u d
def CF(w:World)(l:Nm)(e:Ending)(w':World):Prop :=
 ∃A' c',e=.returned (.slice A' l.length c')/\Own w' 5 1 A' l.length c' (eP l)/\Fr [] w w'/\∀k∈eV A',w.heap.size<=k
theorem rZ(A:Option Addr)(n c B:Nat)(l:Nm)(w:World)(p:Row w B 1 A n (eP l))(H:∀a,A=some a->a.spot=none)(R:n<=70368744177664):Calls prog 108 #[.slice A n c] w (CF w l):=by
 have q:l.length=n:=by have:=p.1;rw[eU]at this;omega
 cases A with
 | none =>
  have F:n=0:=by
   rcases Nat.eq_zero_or_pos n with i|i
   ·exact i
   ·obtain⟨b,off,e,_⟩:=p.2 i;simp at e
  subst F;obtain rfl:l=[]:=List.eq_nil_of_length_eq_zero q;have m:=Lib.run_eql_slice_nil (P:=prog) w 49 5 none 0 c 0 0 underlying49;simp only[Option.isNone_none]at m
  go_enter func108,ntmps108
  go_wp2_with fail
  go_ret
  exact⟨none,0,rfl,Own.nil _ _ _,Fq _ _,by simp[eV]⟩
 | some g =>
  obtain⟨L,D,M,N,O⟩:=oy;have z:=p.cells (H g rfl);have r:=Hd z;have f:=Hd q;have m:=Lib.run_eql_slice_nil (P:=prog) w 49 5 (some g) n c 0 0 underlying49;simp only[Option.isNone_some]at m
  go_enter func108,ntmps108
  go_wp2_with (at_builtin;(with_reducible refine kF (w:=w.alloc (.cells #[] 5)) rfl (.tmp 5) (.tmp 6) 49 rfl 5 L (.int .u8 0) 1 1 underlying49 D M N O rfl qd (some ⟨w.heap.size,0,none⟩) 0 0 [] rfl (Own.empty w _ _) g n c (eP l) rfl (by rw[eU,f.out];omega) (λj u J=>Lib.cell?_alloc_some _ (r.out j u J)) (gL l) (by unfold maxLen;omega) qo ?_);intro A2 y w2 d C G;have t:=Hd d;have s:=Hd C;have v:=Hd G)
  go_ret
  have d:=t.out;rw[List.nil_append,Nat.zero_add]at d
  have I:∀k∈eV A2,w.heap.size<=k:=λk E=>by
   rcases v.out k E with h|h
   ·simp[eV]at h;omega
   ·rw[kX]at h;omega
  refine⟨A2,y,CE f.out.symm,by rw[f.out];exact d,?_,I⟩;exact((Fq [] w).alloc _).trans s.out (λx K=>.inr (by simp[eV]at K;omega))
def wi(w:World)(l:Nm)(e:Ending)(w':World):Prop :=
 ∃A' c',e=.returned (.tuple #[.slice A' l.length c',.int .i64 0])/\Own w' 5 1 A' l.length c' (eP l)/\Fr [] w w'/\∀k∈eV A',w.heap.size<=k
theorem Own.spot{w:World}{e:TypeId}{d n c:Nat}{A:Option Addr}{xs:List Value}(h:Own w e d A n c xs):∀a,A=some a->a.spot=none:=by
 rintro a rfl
 rcases h.2 with⟨b,_⟩|⟨g,f,i,b,_⟩
 ·injection b with b;simp at b
 ·injection b with b;injection b with b;rw[b]
theorem AF(w:World)(b:Nat)(A:Option Addr)(bs:Nm)(l:WrAt w b A bs)(p:bs.length<=70368744177664):Calls prog 58 #[.pointer (some ⟨b,0,none⟩)] w (wi w bs):=by
 obtain⟨c,d,f,u⟩:=l;have s:=(iB d).1;have t:=d.k1;have m:=rZ A bs.length c _ bs w f.row f.spot p;have g:=Hd m
 go_enter func58,ntmps58
 go_wp2_with ((go_at_call 108;(with_reducible refine g.out.mono ?_);rintro e w2 ⟨A2,k,rfl,q,n,r⟩;have i:=Hd q;have h:=Hd n;have j:=Hd r))
 go_ret2
 exact⟨A2,k,rfl,i.out,h.out,j.out⟩
def gH:Nm->Nat->Nat
 | _,0=>0
 | [],_+1=>0
 | c::r,m+1=>if 128<=c.toNat then gH r m+1 else 0
def mo:Nm->Nat
 | []=>0
 | c::r=>mo r*128+c.toNat % 128
theorem uy(l:Nm):mo l<128 ^ l.length:=by
 induction l with
 | nil=>decide
 | cons c r a=>rw[mo,List.length_cons,Nat.pow_succ];omega
theorem r9(l:Nm)(m:Nat):gH l m<=m/\gH l m<=l.length:=by
 induction m generalizing l with
 | zero=>simp[gH]
 | succ m a =>
  cases l with
  | nil=>simp[gH]
  | cons c r =>
   rw[gH]
   by_cases h:128<=c.toNat
   ·rw[if_pos h];have:=a r;simp only[List.length_cons];omega
   ·rw[if_neg h];simp
def fj(l:Nm):Nat × Nat × Int :=
 if gH l 9=9 then(0,0,3)else if gH l 9=l.length then(0,0,28)else if 0<gH l 9/\(l.getD (gH l 9) 0).toNat=0 then(0,0,3)else(mo (l.take (gH l 9+1)),gH l 9+1,0)
theorem sa{l:Nm}{k:Nat}(h:k<l.length):l.drop k=l.getD k 0::l.drop (k+1):=by
 rw[List.drop_eq_getElem_cons h,List.getD_eq_getElem?_getD,gx h];rfl
theorem mY{l:Nm}{k j:Nat}(a:j<k)(b:k<=l.length):(l.take k).drop j=l.getD j 0::(l.take k).drop (j+1):=by
 have h:j<(l.take k).length:=by rw[List.length_take];omega
 rw[sa h]
 congr 1
 rw[List.getD_eq_getElem?_getD,List.getD_eq_getElem?_getD,List.getElem?_take_of_lt a]
theorem yH(u x:Nat)(a:u<72057594037927936)(c:x<128):bits .or .u64 ((u:Int)*128) (x:Int)=((u*128+x:Nat):Int):=by
 have h:=bits_or_u64_nat (u*128) x qo qo;rw[show ((u*128:Nat):Int)=(u:Int)*128 by omega]at h;rw[h]
 congr 1
 have:=Nat.two_pow_add_eq_or_of_lt (i:=7) (b:=x) qo u;rw[show 2 ^ 7*u=u*128 by omega]at this;exact this.symm
theorem tB(c:UInt8):bits .and .u8 ((c.toNat:Nat):Int) 127=((c.toNat % 128:Nat):Int):=by
 have b:∀y:Fin 256,bits BinOp.and IntKind.u8 ((y.val:Nat):Int) 127=((y.val % 128:Nat):Int):=by decide +kernel
 have a:=c.toNat_lt;exact b ⟨c.toNat,a⟩
theorem Row.byte{w:World}{B n k:Nat}{A:Option Addr}{l:Nm}(h:Row w B 1 A n (eP l))(e:k<n):∃b off,A=some ⟨b,off,none⟩/\w.cell? ⟨b,off+k,none⟩=some (.int .u8 ((l.getD k 0).toNat:Int)):=by
 obtain⟨b,off,u,c,f,a,d⟩:=h.at1 e;have g:l.length=n:=by have:=h.1;rw[eU]at this;omega
 rw[iy qo]at a
 injection a with a
 exact⟨b,off,c,by rw[d,a]⟩
def FW(l:Nm)(k:Nat)(u i:Value):Prop :=
 (∃m:Nat,m<=k/\i=.int .i64 (m:Int)/\u=.int .u64 ((mo ((l.take (k+1)).drop (m+1)):Nat):Int)) \/ (i=.int .i64 (-1)/\u=.int .u64 ((mo (l.take (k+1)):Nat):Int))
def FX(u:Nat)(s:Nat)(e:Int):Value:=.tuple #[.int .u64 (u:Int),.int .i64 (s:Int),.int .i64 e]
theorem pG(Q:Option Addr)(n c B:Nat)(l:Nm)(w:World)(Z:Row w B 1 Q n (eP l))(aq:n<=70368744177664):
 Calls prog 167 #[.slice Q n c,.int .i64 9] w λe w'=>e=.returned (FX (fj l).1 (fj l).2.1 (fj l).2.2)/\w=w':=by
 have X:l.length=n:=by have:=Z.1;rw[eU]at this;omega
 obtain⟨q,Y⟩:=eR (fj l);obtain⟨K,L⟩:=eR (gH l 9);have W:=r9 l 9;rw[L]at W
 have af:(if K=9 then(0,0,3)else if K=n then(0,0,28)else if 0<K/\(l.getD K 0).toNat=0 then(0,0,3)else(mo (l.take (K+1)),K+1,0))=q:=by
  rw[<-Y];unfold fj;rw[L,X]
 rw[Y];have A:=Hd Z;have p:=Hd X;have G:=Hd af;have HK:=Hd L;have al:=W.1;have am:K<=n:=qo
 go_enter func167,ntmps167
 go_wp2_with fail
 go_loop [7] (λi=>∃k:Nat,k<=n/\k<=9/\i=k/\k+gH (l.drop k) (9 - k)=K) (λi=>9 - (intOf i).toNat)
 case atStart=>exact⟨0,qo,qo,rfl,by rw[Nat.zero_add];exact HK.out⟩
 case round =>
  obtain⟨k,ap,ao,rfl,ac⟩:=hrel;have R:=Hd ac
  by_cases h:k<n/\k<9/\128<=(l.getD k 0).toNat
  ·obtain⟨h,a,E⟩:=h
   obtain⟨b,off,rfl,F⟩:=A.out.byte h;obtain⟨x,o⟩:=eR ((l.getD k 0).toNat);rw[o]at F E;have S:=Hd o;have ai:(k:Int)<(n:Int):=qo
   have D:(k:Int)<9:=qo
   have V:(128:Int)<=(x:Int):=qo
   go_wp2_with fail
   go_round
   case rel =>
    refine⟨k+1,qo,qo,by go_num,?_⟩;have e:=R.out;rw[sa (by have:=p.out;omega),show 9 - k=(9 - (k+1))+1 by omega,gH,if_pos (by have:=S.out;omega)]at e;omega
   case measure=>simp[intOf];omega
  ·have ab:k=K:=by
    have e:=R.out
    by_cases a:k=9
    ·subst a;rw[show 9 - 9=0 from rfl]at e;simp[gH]at e;omega
    ·rw[show 9 - k=(9 - (k+1))+1 by omega]at e
     by_cases E:k<n
     ·rw[sa (by have:=p.out;omega),gH,if_neg qo]at e
      omega
     ·rw[List.drop_eq_nil_of_le (by have:=p.out;omega)]at e
      simp[gH]at e;omega
   subst ab
   by_cases H:k=9
   ·subst H
    have e:=G.out;rw[if_pos rfl]at e;have d:=Hd e;rw[show ((9:Nat):Int)=9 from rfl]
    by_cases a:9<n
    ·have D:(9:Int)<(n:Int):=qo
     go_wp2_with fail
     go_ret3
     rw[<-d.out];exact⟨rfl,rfl⟩
    ·have D:¬(9:Int)<(n:Int):=qo
     go_wp2_with fail
     go_ret3
     rw[<-d.out];exact⟨rfl,rfl⟩
   ·have aj:((k:Int) == 9)=false:=by simp;omega
    have ak:(k:Int)<9:=qo
    by_cases a:k=n
    ·have D:¬(k:Int)<(n:Int):=qo
     have aa : ((k : Int) == (n : Int)) = true := by simp; omega
     have e:=G.out;rw[if_neg H,if_pos a]at e;have d:=Hd e
     go_wp2_with fail
     go_ret3
     rw[<-d.out];exact⟨rfl,rfl⟩
    ·have ad:k<n:=qo
     have D:(k:Int)<(n:Int):=qo
     have aa : ((k : Int) == (n : Int)) = false := by simp; omega
     obtain⟨b,off,rfl,F⟩:=A.out.byte ad;obtain⟨x,o⟩:=eR ((l.getD k 0).toNat);have e:=G.out;rw[if_neg H,if_neg a,o]at e;have d:=Hd e;have au:x<128:=by have:=h;omega
     rw[o]at F;have S:=Hd o;have V:¬(128:Int)<=(x:Int):=qo
     by_cases C:0<k/\x=0
     ·obtain⟨C,rfl⟩:=C
      have T:(0:Int)<(k:Int):=qo
      have e:=d.out;rw[if_pos ⟨C,rfl⟩]at e;have z:=Hd e;rw[show ((0:Nat):Int)=0 from rfl]at F V
      go_wp2_with fail
      go_ret3
      rw[<-z.out];exact⟨rfl,rfl⟩
     ·have e:=d.out
      rw[if_neg C]at e;have z:=Hd e
      by_cases an:0<k
      ·have T:(0:Int)<(k:Int):=qo
       have ar:((x:Int) == 0)=false:=by simp;omega
       go_wp2_with fail
       go_loop [8,9] (FW l k) (λ_ i=>(intOf i+1).toNat)
       case atStart=>exact .inl ⟨k,fV _,rfl,by rw[List.drop_eq_nil_of_le (by rw[List.length_take];omega)];rfl⟩
       case round =>
        rcases hrel with⟨m,hm,rfl,rfl⟩|⟨rfl,rfl⟩
        ·obtain⟨b2,ah,f,N⟩:=A.out.byte (k:=m) qo
         injection f with f
         injection f with I J
         subst I J;obtain⟨U,s⟩:=eR (mo ((l.take (k+1)).drop (m+1)))
         have M:U<72057594037927936:=by
          have h:=uy ((l.take (k+1)).drop (m+1));have a:((l.take (k+1)).drop (m+1)).length<=8:=by rw[List.length_drop,List.length_take];omega
          have E:128 ^ ((l.take (k+1)).drop (m+1)).length<=128 ^ 8:=Nat.pow_le_pow_right qo a
          omega
         have u:mo ((l.take (k+1)).drop m)=U*128+(l.getD m 0).toNat % 128:=by
          rw[mY (j:=m) (k:=k+1) qo (by have:=p.out;omega),mo,s]
         have t:=tB (l.getD m 0);have g:=yH U ((l.getD m 0).toNat % 128) M qo;rw[s];obtain⟨y,v⟩:=eR ((l.getD m 0).toNat);have ag:y<256:=by rw[<-v];exact UInt8.toNat_lt _
         rw[v]at N u t g;rw[show ((y % 128:Nat):Int)=(y:Int) % 128 by omega]at t g;rw[show ((U*128+y % 128:Nat):Int)=(U:Int)*128+(y:Int) % 128 by omega]at g;have r:=Hd u;have O:(0:Int)<=(m:Int):=qo
         have ae:(m:Int)<(n:Int):=qo
         go_wp2_with fail
         go_round
         case rel =>
          by_cases P:m=0
          ·subst P
           exact .inr ⟨by go_num,by rw[show l.take (k+1)=(l.take (k+1)).drop 0 from rfl,r.out];go_num⟩
          ·exact .inl ⟨m - 1,qo,by congr 1;omega,by rw[show m - 1+1=m by omega,r.out];go_num⟩
         case measure=>simp[intOf]
        ·have O:¬(0:Int)<=-1:=qo
         go_wp2_with fail
         go_ret3
         rw[<-z.out];exact⟨rfl,rfl⟩
      ·have T:¬(0:Int)<(k:Int):=qo
       go_wp2_with fail
       go_loop [8,9] (FW l k) (λ_ i=>(intOf i+1).toNat)
       case atStart=>exact .inl ⟨k,fV _,rfl,by rw[List.drop_eq_nil_of_le (by rw[List.length_take];omega)];rfl⟩
       case round =>
        rcases hrel with⟨m,hm,rfl,rfl⟩|⟨rfl,rfl⟩
        ·obtain⟨b2,ah,f,N⟩:=A.out.byte (k:=m) qo
         injection f with f
         injection f with I J
         subst I J;obtain⟨U,s⟩:=eR (mo ((l.take (k+1)).drop (m+1)))
         have M:U<72057594037927936:=by
          have h:=uy ((l.take (k+1)).drop (m+1));have a:((l.take (k+1)).drop (m+1)).length<=8:=by rw[List.length_drop,List.length_take];omega
          have E:128 ^ ((l.take (k+1)).drop (m+1)).length<=128 ^ 8:=Nat.pow_le_pow_right qo a
          omega
         have u:mo ((l.take (k+1)).drop m)=U*128+(l.getD m 0).toNat % 128:=by
          rw[mY (j:=m) (k:=k+1) qo (by have:=p.out;omega),mo,s]
         have t:=tB (l.getD m 0);have g:=yH U ((l.getD m 0).toNat % 128) M qo;rw[s];obtain⟨y,v⟩:=eR ((l.getD m 0).toNat);have ag:y<256:=by rw[<-v];exact UInt8.toNat_lt _
         rw[v]at N u t g;rw[show ((y % 128:Nat):Int)=(y:Int) % 128 by omega]at t g;rw[show ((U*128+y % 128:Nat):Int)=(U:Int)*128+(y:Int) % 128 by omega]at g;have r:=Hd u;have O:(0:Int)<=(m:Int):=qo
         have ae:(m:Int)<(n:Int):=qo
         go_wp2_with fail
         go_round
         case rel =>
          by_cases P:m=0
          ·subst P
           exact .inr ⟨by go_num,by rw[show l.take (k+1)=(l.take (k+1)).drop 0 from rfl,r.out];go_num⟩
          ·exact .inl ⟨m - 1,qo,by congr 1;omega,by rw[show m - 1+1=m by omega,r.out];go_num⟩
         case measure=>simp[intOf]
        ·have O:¬(0:Int)<=-1:=qo
         go_wp2_with fail
         go_ret3
         rw[<-z.out];exact⟨rfl,rfl⟩
theorem AH(l:Nm):(fj l).1<9223372036854775808:=by
 unfold fj;have h:=(r9 l 9).1
 by_cases a:gH l 9=9
 ·rw[if_pos a];decide
 ·rw[if_neg a]
  by_cases b:gH l 9=l.length
  ·rw[if_pos b];decide
  ·rw[if_neg b]
   by_cases c:0<gH l 9/\(l.getD (gH l 9) 0).toNat=0
   ·rw[if_pos c];decide
   ·rw[if_neg c]
    have d:=uy (l.take (gH l 9+1));have e:128 ^ (l.take (gH l 9+1)).length<=128 ^ 9:=Nat.pow_le_pow_right qo (by rw[List.length_take];omega)
    simp only;omega
theorem mp(l:Nm):(fj l).2.1<=l.length/\(fj l).2.1<=9:=by
 unfold fj;have h:=r9 l 9
 by_cases a:gH l 9=9
 ·rw[if_pos a];exact⟨Nat.zero_le _,Nat.zero_le _⟩
 ·rw[if_neg a]
  by_cases b:gH l 9=l.length
  ·rw[if_pos b];exact⟨Nat.zero_le _,Nat.zero_le _⟩
  ·rw[if_neg b]
   by_cases c:0<gH l 9/\(l.getD (gH l 9) 0).toNat=0
   ·rw[if_pos c];exact⟨Nat.zero_le _,Nat.zero_le _⟩
   ·rw[if_neg c];simp only;omega
theorem tC(A:Option Addr)(n c B:Nat)(l:Nm)(w:World)(g:Row w B 1 A n (eP l))(j:n<=70368744177664):
 Calls prog 111 #[.slice A n c] w λe w'=>e=.returned (.tuple #[.int .i64 ((fj l).1:Int),.int .i64 ((fj l).2.1:Int),.int .i64 (fj l).2.2])/\w=w':=by
 have b:=pG A n c B l w g j;have i:=AH l;obtain⟨k,a⟩:=eR ((fj l).1);obtain⟨m,d⟩:=eR ((fj l).2.1);obtain⟨o,f⟩:=eR ((fj l).2.2);rw[a]at i;rw[a,d,f]at b;rw[a,d,f];unfold FX at b;have h:=Hd b;clear b a d f g
 go_enter func111,ntmps111
 go_wp2_with ((go_at_call 167;(with_reducible refine h.out.mono ?_);rintro e p ⟨rfl,rfl⟩))
 go_ret3
 exact⟨rfl,rfl⟩
structure RS where
 l:Nm
 p:Nat
 f:Int
def RdAt(w:World)(b:Nat)(A:Option Addr)(r:RS):Prop :=
 ∃c,BoxN w b 214 #[.slice A r.l.length c,.int .i64 (r.p:Int),.int .i64 r.f]/\r.l.length<=c/\Row w w.heap.size 1 A r.l.length (eP r.l)/\b ∉ eV A/\r.l.length<=70368744177664/\r.p+r.l.length<=70368744177664
theorem iW{w:World}{b:Nat}{a d e:Value}{t:TypeId}(h:BoxN w b t #[a,d,e]):w.cell? ⟨b,0,none⟩=some a/\w.cell? ⟨b,1,none⟩=some d/\w.cell? ⟨b,2,none⟩=some e/\w.frozen? ⟨b,0,none⟩=false/\w.frozen? ⟨b,1,none⟩=false/\w.frozen? ⟨b,2,none⟩=false:=⟨h.c 0,h.c 1,h.c 2,h.f 0,h.f 1,h.f 2⟩
theorem RdAt.fr{S:List Nat}{w w':World}{b:Nat}{A:Option Addr}{r:RS}(h:RdAt w b A r)(d:Fr S w w')(l:b ∉ S)(j:∀k∈eV A,k ∉ S):RdAt w' b A r:=by
 obtain⟨c,e,f,g,i⟩:=h;exact⟨c,e.fr d l,f,(g.fr d (fV _) (by rintro a rfl;exact j _ (by simp[eV]))).more d.size,i⟩
theorem RdAt.lt{w:World}{b:Nat}{A:Option Addr}{r:RS}(h:RdAt w b A r):b<w.heap.size:=by obtain⟨c,a,_⟩:=h;exact a.lt
theorem Row.rest{w:World}{B n s c b off:Nat}{l:Nm}(h:Row w B 1 (some ⟨b,off,none⟩) n (eP l))(q:s<=n)(m:n<=c):Row w B 1 (if c=s then some ⟨b,off,none⟩else some ⟨b,off+s,none⟩) (n - s) (eP (l.drop s)):=by
 have o:l.length=n:=by have:=h.1;rw[eU]at this;omega
 refine⟨by rw[eU,List.length_drop];omega,λp=>?_⟩;obtain⟨b',off',e,g,i⟩:=h.2 qo
 injection e with e
 injection e with d f
 subst d f;refine⟨b,off+s,by rw[if_neg qo],g,λj u a=>?_⟩;have k:eP (l.drop s)=(eP l).drop s:=by unfold eP;rw[List.map_drop]
 rw[k,List.getElem?_drop]at a;have:=i _ _ a
 rwa [<-Nat.add_assoc]at this
def gA{α:Type}(z:α)(r:RS)(x:α × Nat × Int):α × RS :=
 if r.f≠0 then(z,r)else if x.2.2≠0 then(z,⟨r.l,r.p,x.2.2⟩)else(x.1,⟨r.l.drop x.2.1,r.p+x.2.1,0⟩)
def RdPost(w:World)(b:Nat)(A:Option Addr)(v:Value)(r:RS)(e:Ending)(w':World):Prop :=
 e=.returned v/\∃A',RdAt w' b A' r/\Fr [b] w w'/\∀k∈eV A',k∈eV A
theorem lH{b off off':Nat}{p:Prop}[Decidable p]:∀k∈eV (if p then some (⟨b,off,none⟩:Addr)else some ⟨b,off',none⟩),k∈eV (some (⟨b,off,none⟩:Addr)):=by
 intro k a
 by_cases h:p
 ·rw[if_pos h]at a;exact a
 ·rw[if_neg h]at a;simpa [eV]using a
theorem FY(b q:Nat)(A:Option Addr)(r:RS)(w:World)(y:Int)(d:Nat)(j:Int)(t:RdAt w b A r)
 (G:j=0->d<=r.l.length/\0<r.l.length)
 (C:∀c,Row w w.heap.size 1 A r.l.length (eP r.l)->r.l.length<=c->r.l.length<=70368744177664->Calls prog 113 #[.slice A r.l.length c,.pointer (some ⟨q,0,none⟩)] w λe w'=>e=.returned (.tuple #[Value.int .i64 y,.int .i64 (d:Int),.int .i64 j])/\w=w') :
 Calls prog 112 #[.pointer (some ⟨b,0,none⟩),.func (Fn.func 113) #[] #[.pointer (some ⟨q,0,none⟩)]] w (RdPost w b A (Value.int .i64 (gA 0 r (y,d,j)).1) (gA 0 r (y,d,j)).2):=by
 by_cases o:r.f=0
 ·by_cases F:j=0
  ·obtain⟨N,I⟩:=G F
   subst F;have e0:gA 0 r (y,d,0)=(y,⟨r.l.drop d,r.p+d,0⟩):=by unfold gA;rw[if_neg (by simpa using o),if_neg qs]
   rw[e0];obtain⟨c,h,m,i,n,v,B⟩:=t;have x:=C c i m v;obtain⟨l,p,f⟩:=r;simp only at o N I h m i v B x ⊢;subst o;obtain⟨g,off,rfl,_⟩:=i.2 I;obtain⟨O,P,J,Y,Z,aa⟩:=iW h;have M:=i.rest N m;have z:l.length - d=(l.drop d).length:=by rw[List.length_drop]
   have U:g≠b:=by simpa [eV,eq_comm]using n
   have V:(w.setCell ⟨b,0,none⟩ (.slice (if c=d then some ⟨g,off,none⟩else some ⟨g,off+d,none⟩) (l.length - d) (c - d))).setCell ⟨b,1,none⟩ (.int .i64 ((p+d:Nat):Int))=(w.setCell ⟨b,0,none⟩ (.slice (if c=d then some ⟨g,off,none⟩else some ⟨g,off+d,none⟩) (l.length - d) (c - d))).setCell ⟨b,1,none⟩ (.int .i64 ((p+d:Nat):Int)):=rfl;have K:=((h.setAt 0 (.slice (if c=d then some ⟨g,off,none⟩else some ⟨g,off+d,none⟩) (l.length - d) (c - d))).setAt 1 (.int .i64 ((p+d:Nat):Int)));have s:Fr [b] w ((w.setCell ⟨b,0,none⟩ (.slice (if c=d then some ⟨g,off,none⟩else some ⟨g,off+d,none⟩) (l.length - d) (c - d))).setCell ⟨b,1,none⟩ (.int .i64 ((p+d:Nat):Int))):=((Fq [b] w).set (p:=⟨b,0,none⟩) qs _).set (p:=⟨b,1,none⟩) qs _
   have D:∃A',RdAt ((w.setCell ⟨b,0,none⟩ (.slice (if c=d then some ⟨g,off,none⟩else some ⟨g,off+d,none⟩) (l.length - d) (c - d))).setCell ⟨b,1,none⟩ ((p+d:Nat):Int)) b A' ⟨l.drop d,p+d,0⟩/\Fr [b] w ((w.setCell ⟨b,0,none⟩ (.slice (if c=d then some ⟨g,off,none⟩else some ⟨g,off+d,none⟩) (l.length - d) (c - d))).setCell ⟨b,1,none⟩ ((p+d:Nat):Int))/\∀k∈eV A',k∈eV (some (⟨g,off,none⟩:Addr)):=by
    refine⟨if c=d then some ⟨g,off,none⟩else some ⟨g,off+d,none⟩,⟨c - d,by rw[<-z];exact K,by rw[<-z];omega,?_,?_,by rw[<-z];omega,by rw[<-z];simp only;omega⟩,s,lH⟩
    ·rw[<-z]
     refine(M.fr s (fV _) (λa T=>?_)).more s.size;have:=lH (p:=c=d) (b:=g) (off:=off) (off':=off+d) a.block (by rw[T];simp[eV]);simp[eV]at this ⊢;omega
    ·intro W
     have:=lH _ W;simp[eV]at this;omega
   have E:=Hd D;have H:=Hd x;have ad:(d:Int)<=(l.length:Int):=qo
   clear h m i n x M z U V K s D G C I e0;unfold RdPost
   go_enter func112,ntmps112
   go_wp2_with ((go_at_call 113;(with_reducible refine H.out.mono ?_);rintro e X ⟨rfl,rfl⟩))
   ·go_ret
    have u:=E.out;simp only[if_pos ‹c=d›]at u;rw[show c - d=0 by omega]at u;rw[show ((p+d:Nat):Int)=(p:Int)+(d:Int) by omega]at u;exact⟨rfl,u⟩
   ·go_ret
    have u:=E.out;simp only[if_neg ‹¬c=d›]at u;rw[show ((p+d:Nat):Int)=(p:Int)+(d:Int) by omega]at u;exact⟨rfl,u⟩
  ·have e0:gA 0 r (y,d,j)=(0,⟨r.l,r.p,j⟩):=by unfold gA;rw[if_neg (by simpa using o),if_pos (by simpa using F)]
   rw[e0];obtain⟨c,h,m,i,n,v,B⟩:=t;have x:=C c i m v;obtain⟨l,p,f⟩:=r;simp only at o h m i v B x ⊢;subst o;obtain⟨O,P,J,Y,Z,aa⟩:=iW h;have s:Fr [b] w (w.setCell ⟨b,2,none⟩ (.int .i64 j)):=(Fq [b] w).set (p:=⟨b,2,none⟩) qs _;have D:RdAt (w.setCell ⟨b,2,none⟩ (.int .i64 j)) b A ⟨l,p,j⟩:=⟨c,h.setAt 2 _,m,(i.fr s (fV _) (by rintro a rfl;simp[eV]at n ⊢;exact λe=>n e.symm)).more s.size,n,v,B⟩
   have ac:(j != 0)=true:=by simpa using F
   have E:=Hd D;have Q:=Hd s;have H:=Hd x;clear h m i n x s D G C e0;unfold RdPost
   go_enter func112,ntmps112
   go_wp2_with ((go_at_call 113;(with_reducible refine H.out.mono ?_);rintro e X ⟨rfl,rfl⟩))
   go_ret
   exact⟨rfl,A,E.out,Q.out,λ_ t=>t⟩
 ·have e0:gA 0 r (y,d,j)=(0,r):=by unfold gA;rw[if_pos (by simpa using o)]
  rw[e0];have R:=Hd t;obtain⟨c,h,m,i,n,v,B⟩:=t;obtain⟨O,P,J,_⟩:=iW h;obtain⟨S,L⟩:=eR (r.f);rw[L]at J o
  have ab:(S != 0)=true:=by simpa using o
  clear h m i n G C e0 L;unfold RdPost
  go_enter func112,ntmps112
  go_wp2_with fail
  go_ret
  exact⟨rfl,A,R.out,Fq _ _,λ_ t=>t⟩
theorem FZ(b q:Nat)(A:Option Addr)(r:RS)(w:World)(y:Nm)(d:Nat)(j:Int)(t:RdAt w b A r)
 (G:j=0->d<=r.l.length/\0<r.l.length)
 (C:∀c,Row w w.heap.size 1 A r.l.length (eP r.l)->r.l.length<=c->r.l.length<=70368744177664->Calls prog 110 #[.slice A r.l.length c,.pointer (some ⟨q,0,none⟩)] w λe w'=>e=.returned (.tuple #[ft y,.int .i64 (d:Int),.int .i64 j])/\w=w') :
 Calls prog 109 #[.pointer (some ⟨b,0,none⟩),.func (Fn.func 110) #[] #[.pointer (some ⟨q,0,none⟩)]] w (RdPost w b A (ft (gA [] r (y,d,j)).1) (gA [] r (y,d,j)).2):=by
 by_cases o:r.f=0
 ·by_cases F:j=0
  ·obtain⟨N,I⟩:=G F
   subst F;have e0:gA [] r (y,d,0)=(y,⟨r.l.drop d,r.p+d,0⟩):=by unfold gA;rw[if_neg (by simpa using o),if_neg qs]
   rw[e0];obtain⟨c,h,m,i,n,v,B⟩:=t;have x:=C c i m v;obtain⟨l,p,f⟩:=r;simp only at o N I h m i v B x ⊢;subst o;obtain⟨g,off,rfl,_⟩:=i.2 I;obtain⟨O,P,J,Y,Z,aa⟩:=iW h;have M:=i.rest N m;have z:l.length - d=(l.drop d).length:=by rw[List.length_drop]
   have U:g≠b:=by simpa [eV,eq_comm]using n
   have V:(w.setCell ⟨b,0,none⟩ (.slice (if c=d then some ⟨g,off,none⟩else some ⟨g,off+d,none⟩) (l.length - d) (c - d))).setCell ⟨b,1,none⟩ (.int .i64 ((p+d:Nat):Int))=(w.setCell ⟨b,0,none⟩ (.slice (if c=d then some ⟨g,off,none⟩else some ⟨g,off+d,none⟩) (l.length - d) (c - d))).setCell ⟨b,1,none⟩ (.int .i64 ((p+d:Nat):Int)):=rfl;have K:=((h.setAt 0 (.slice (if c=d then some ⟨g,off,none⟩else some ⟨g,off+d,none⟩) (l.length - d) (c - d))).setAt 1 (.int .i64 ((p+d:Nat):Int)));have s:Fr [b] w ((w.setCell ⟨b,0,none⟩ (.slice (if c=d then some ⟨g,off,none⟩else some ⟨g,off+d,none⟩) (l.length - d) (c - d))).setCell ⟨b,1,none⟩ (.int .i64 ((p+d:Nat):Int))):=((Fq [b] w).set (p:=⟨b,0,none⟩) qs _).set (p:=⟨b,1,none⟩) qs _
   have D:∃A',RdAt ((w.setCell ⟨b,0,none⟩ (.slice (if c=d then some ⟨g,off,none⟩else some ⟨g,off+d,none⟩) (l.length - d) (c - d))).setCell ⟨b,1,none⟩ ((p+d:Nat):Int)) b A' ⟨l.drop d,p+d,0⟩/\Fr [b] w ((w.setCell ⟨b,0,none⟩ (.slice (if c=d then some ⟨g,off,none⟩else some ⟨g,off+d,none⟩) (l.length - d) (c - d))).setCell ⟨b,1,none⟩ ((p+d:Nat):Int))/\∀k∈eV A',k∈eV (some (⟨g,off,none⟩:Addr)):=by
    refine⟨if c=d then some ⟨g,off,none⟩else some ⟨g,off+d,none⟩,⟨c - d,by rw[<-z];exact K,by rw[<-z];omega,?_,?_,by rw[<-z];omega,by rw[<-z];simp only;omega⟩,s,lH⟩
    ·rw[<-z]
     refine(M.fr s (fV _) (λa T=>?_)).more s.size;have:=lH (p:=c=d) (b:=g) (off:=off) (off':=off+d) a.block (by rw[T];simp[eV]);simp[eV]at this ⊢;omega
    ·intro W
     have:=lH _ W;simp[eV]at this;omega
   have E:=Hd D;have H:=Hd x;have ad:(d:Int)<=(l.length:Int):=qo
   clear h m i n x M z U V K s D G C I e0;unfold RdPost
   go_enter func109,ntmps109
   go_wp2_with ((go_at_call 110;(with_reducible refine H.out.mono ?_);rintro e X ⟨rfl,rfl⟩))
   ·go_ret
    have u:=E.out;simp only[if_pos ‹c=d›]at u;rw[show c - d=0 by omega]at u;rw[show ((p+d:Nat):Int)=(p:Int)+(d:Int) by omega]at u;exact⟨rfl,u⟩
   ·go_ret
    have u:=E.out;simp only[if_neg ‹¬c=d›]at u;rw[show ((p+d:Nat):Int)=(p:Int)+(d:Int) by omega]at u;exact⟨rfl,u⟩
  ·have e0:gA [] r (y,d,j)=([],⟨r.l,r.p,j⟩):=by unfold gA;rw[if_neg (by simpa using o),if_pos (by simpa using F)]
   rw[e0];obtain⟨c,h,m,i,n,v,B⟩:=t;have x:=C c i m v;obtain⟨l,p,f⟩:=r;simp only at o h m i v B x ⊢;subst o;obtain⟨O,P,J,Y,Z,aa⟩:=iW h;have s:Fr [b] w (w.setCell ⟨b,2,none⟩ (.int .i64 j)):=(Fq [b] w).set (p:=⟨b,2,none⟩) qs _;have D:RdAt (w.setCell ⟨b,2,none⟩ (.int .i64 j)) b A ⟨l,p,j⟩:=⟨c,h.setAt 2 _,m,(i.fr s (fV _) (by rintro a rfl;simp[eV]at n ⊢;exact λe=>n e.symm)).more s.size,n,v,B⟩
   have ac:(j != 0)=true:=by simpa using F
   have E:=Hd D;have Q:=Hd s;have H:=Hd x;clear h m i n x s D G C e0;unfold RdPost
   go_enter func109,ntmps109
   go_wp2_with ((go_at_call 110;(with_reducible refine H.out.mono ?_);rintro e X ⟨rfl,rfl⟩))
   go_ret
   exact⟨rfl,A,E.out,Q.out,λ_ t=>t⟩
 ·have e0:gA [] r (y,d,j)=([],r):=by unfold gA;rw[if_pos (by simpa using o)]
  rw[e0];have R:=Hd t;obtain⟨c,h,m,i,n,v,B⟩:=t;obtain⟨O,P,J,_⟩:=iW h;obtain⟨S,L⟩:=eR (r.f);rw[L]at J o
  have ab:(S != 0)=true:=by simpa using o
  clear h m i n G C e0 L;unfold RdPost
  go_enter func109,ntmps109
  go_wp2_with fail
  go_ret
  exact⟨rfl,A,R.out,Fq _ _,λ_ t=>t⟩
theorem F1(b q:Nat)(A:Option Addr)(r:RS)(w:World)(y:Bool)(d:Nat)(j:Int)(t:RdAt w b A r)
 (G:j=0->d<=r.l.length/\0<r.l.length)
 (C:∀c,Row w w.heap.size 1 A r.l.length (eP r.l)->r.l.length<=c->r.l.length<=70368744177664->Calls prog 257 #[.slice A r.l.length c] w λe w'=>e=.returned (.tuple #[Value.bool y,.int .i64 (d:Int),.int .i64 j])/\w=w') :
 Calls prog 256 #[.pointer (some ⟨b,0,none⟩),.func (Fn.func 257) #[] #[]] w (RdPost w b A (Value.bool (gA false r (y,d,j)).1) (gA false r (y,d,j)).2):=by
 by_cases o:r.f=0
 ·by_cases F:j=0
  ·obtain⟨N,I⟩:=G F
   subst F;have e0:gA false r (y,d,0)=(y,⟨r.l.drop d,r.p+d,0⟩):=by unfold gA;rw[if_neg (by simpa using o),if_neg qs]
   rw[e0];obtain⟨c,h,m,i,n,v,B⟩:=t;have x:=C c i m v;obtain⟨l,p,f⟩:=r;simp only at o N I h m i v B x ⊢;subst o;obtain⟨g,off,rfl,_⟩:=i.2 I;obtain⟨O,P,J,Y,Z,aa⟩:=iW h;have M:=i.rest N m;have z:l.length - d=(l.drop d).length:=by rw[List.length_drop]
   have U:g≠b:=by simpa [eV,eq_comm]using n
   have V:(w.setCell ⟨b,0,none⟩ (.slice (if c=d then some ⟨g,off,none⟩else some ⟨g,off+d,none⟩) (l.length - d) (c - d))).setCell ⟨b,1,none⟩ (.int .i64 ((p+d:Nat):Int))=(w.setCell ⟨b,0,none⟩ (.slice (if c=d then some ⟨g,off,none⟩else some ⟨g,off+d,none⟩) (l.length - d) (c - d))).setCell ⟨b,1,none⟩ (.int .i64 ((p+d:Nat):Int)):=rfl;have K:=((h.setAt 0 (.slice (if c=d then some ⟨g,off,none⟩else some ⟨g,off+d,none⟩) (l.length - d) (c - d))).setAt 1 (.int .i64 ((p+d:Nat):Int)));have s:Fr [b] w ((w.setCell ⟨b,0,none⟩ (.slice (if c=d then some ⟨g,off,none⟩else some ⟨g,off+d,none⟩) (l.length - d) (c - d))).setCell ⟨b,1,none⟩ (.int .i64 ((p+d:Nat):Int))):=((Fq [b] w).set (p:=⟨b,0,none⟩) qs _).set (p:=⟨b,1,none⟩) qs _
   have D:∃A',RdAt ((w.setCell ⟨b,0,none⟩ (.slice (if c=d then some ⟨g,off,none⟩else some ⟨g,off+d,none⟩) (l.length - d) (c - d))).setCell ⟨b,1,none⟩ ((p+d:Nat):Int)) b A' ⟨l.drop d,p+d,0⟩/\Fr [b] w ((w.setCell ⟨b,0,none⟩ (.slice (if c=d then some ⟨g,off,none⟩else some ⟨g,off+d,none⟩) (l.length - d) (c - d))).setCell ⟨b,1,none⟩ ((p+d:Nat):Int))/\∀k∈eV A',k∈eV (some (⟨g,off,none⟩:Addr)):=by
    refine⟨if c=d then some ⟨g,off,none⟩else some ⟨g,off+d,none⟩,⟨c - d,by rw[<-z];exact K,by rw[<-z];omega,?_,?_,by rw[<-z];omega,by rw[<-z];simp only;omega⟩,s,lH⟩
    ·rw[<-z]
     refine(M.fr s (fV _) (λa T=>?_)).more s.size;have:=lH (p:=c=d) (b:=g) (off:=off) (off':=off+d) a.block (by rw[T];simp[eV]);simp[eV]at this ⊢;omega
    ·intro W
     have:=lH _ W;simp[eV]at this;omega
   have E:=Hd D;have H:=Hd x;have ad:(d:Int)<=(l.length:Int):=qo
   clear h m i n x M z U V K s D G C I e0;unfold RdPost
   go_enter func256,ntmps256
   go_wp2_with ((go_at_call 257;(with_reducible refine H.out.mono ?_);rintro e X ⟨rfl,rfl⟩))
   ·go_ret
    have u:=E.out;simp only[if_pos ‹c=d›]at u;rw[show c - d=0 by omega]at u;rw[show ((p+d:Nat):Int)=(p:Int)+(d:Int) by omega]at u;exact⟨rfl,u⟩
   ·go_ret
    have u:=E.out;simp only[if_neg ‹¬c=d›]at u;rw[show ((p+d:Nat):Int)=(p:Int)+(d:Int) by omega]at u;exact⟨rfl,u⟩
  ·have e0:gA false r (y,d,j)=(false,⟨r.l,r.p,j⟩):=by unfold gA;rw[if_neg (by simpa using o),if_pos (by simpa using F)]
   rw[e0];obtain⟨c,h,m,i,n,v,B⟩:=t;have x:=C c i m v;obtain⟨l,p,f⟩:=r;simp only at o h m i v B x ⊢;subst o;obtain⟨O,P,J,Y,Z,aa⟩:=iW h;have s:Fr [b] w (w.setCell ⟨b,2,none⟩ (.int .i64 j)):=(Fq [b] w).set (p:=⟨b,2,none⟩) qs _;have D:RdAt (w.setCell ⟨b,2,none⟩ (.int .i64 j)) b A ⟨l,p,j⟩:=⟨c,h.setAt 2 _,m,(i.fr s (fV _) (by rintro a rfl;simp[eV]at n ⊢;exact λe=>n e.symm)).more s.size,n,v,B⟩
   have ac:(j != 0)=true:=by simpa using F
   have E:=Hd D;have Q:=Hd s;have H:=Hd x;clear h m i n x s D G C e0;unfold RdPost
   go_enter func256,ntmps256
   go_wp2_with ((go_at_call 257;(with_reducible refine H.out.mono ?_);rintro e X ⟨rfl,rfl⟩))
   go_ret
   exact⟨rfl,A,E.out,Q.out,λ_ t=>t⟩
 ·have e0:gA false r (y,d,j)=(false,r):=by unfold gA;rw[if_pos (by simpa using o)]
  rw[e0];have R:=Hd t;obtain⟨c,h,m,i,n,v,B⟩:=t;obtain⟨O,P,J,_⟩:=iW h;obtain⟨S,L⟩:=eR (r.f);rw[L]at J o
  have ab:(S != 0)=true:=by simpa using o
  clear h m i n G C e0 L;unfold RdPost
  go_enter func256,ntmps256
  go_wp2_with fail
  go_ret
  exact⟨rfl,A,R.out,Fq _ _,λ_ t=>t⟩
def mQ(m:Nat)(l:Nm):Int × Nat × Int:=(((fj l).1:Int),(fj l).2.1,if(fj l).2.2=0/\m<(fj l).1 then 2 else(fj l).2.2)
def jS(m:Nat)(l:Nm):Nm × Nat × Int :=
 if(fj l).2.2≠0 then([],0,(fj l).2.2)else if m<(fj l).1 \/ 16777216<(fj l).1 then([],0,5)else if l.length - (fj l).2.1<(fj l).1 then([],0,28)else((l.drop (fj l).2.1).take (fj l).1,(fj l).2.1+(fj l).1,0)
def lQ(l:Nm):Bool × Nat × Int :=
 if l.length=0 then(false,0,28)else if 1<(l.getD 0 0).toNat then(false,0,3)else(decide ((l.getD 0 0).toNat=1),1,0)
theorem nJ{l:Nm}(h:(fj l).2.2=0):0<l.length:=by
 rcases Nat.eq_zero_or_pos l.length with a|a
 ·rw[List.eq_nil_of_length_eq_zero a]at h
  simp[fj,gH]at h
 ·exact a
theorem wj(A:Option Addr)(n c B q m:Nat)(l:Nm)(w:World)(s:Row w B 1 A n (eP l))(r:n<=70368744177664)(u:w.cell? ⟨q,0,none⟩=some (.int .i64 (m:Int))):
 Calls prog 113 #[.slice A n c,.pointer (some ⟨q,0,none⟩)] w λe w'=>e=.returned (.tuple #[.int .i64 (mQ m l).1,.int .i64 ((mQ m l).2.1:Int),.int .i64 (mQ m l).2.2])/\w=w':=by
 have j:=tC A n c B l w s r;unfold mQ;obtain⟨d,f⟩:=eR ((fj l).1);obtain⟨v,g⟩:=eR ((fj l).2.1);obtain⟨k,h⟩:=eR ((fj l).2.2);rw[f,g,h]at j;rw[f,g,h];have a:=Hd j
 by_cases b:k=0
 ·subst b
  by_cases i:m<d
  ·have p:(m:Int)<(d:Int):=qo
   simp only[i,and_self,if_true]
   go_enter func113,ntmps113
   go_wp2_with ((go_at_call 111;(with_reducible refine a.out.mono ?_);rintro e o ⟨rfl,rfl⟩))
   go_ret3
   exact⟨rfl,rfl⟩
  ·have p:¬(m:Int)<(d:Int):=qo
   simp only[i,and_false,if_false]
   go_enter func113,ntmps113
   go_wp2_with ((go_at_call 111;(with_reducible refine a.out.mono ?_);rintro e o ⟨rfl,rfl⟩))
   go_ret3
   exact⟨rfl,rfl⟩
 ·have t:(k == 0)=false:=by simpa using b
  simp only[b,false_and,if_false]
  go_enter func113,ntmps113
  go_wp2_with ((go_at_call 111;(with_reducible refine a.out.mono ?_);rintro e o ⟨rfl,rfl⟩))
  go_ret3
  exact⟨rfl,rfl⟩
def ff(m:Nat)(r:RS):Int × RS:=gA 0 r (mQ m r.l)
def gN(m:Nat)(r:RS):Nm × RS:=gA [] r (jS m r.l)
def mq(r:RS):Bool × RS:=gA false r (lQ r.l)
theorem RdPost.of_alloc{w a w':World}{b:Nat}{A:Option Addr}{v:Value}{r:RS}{e:Ending}(h:RdPost a b A v r e w')(i:Fr [] w a):RdPost w b A v r e w':=by
 obtain⟨c,A',d,f,g⟩:=h;exact⟨c,A',d,(i.mono qs).then f,g⟩
theorem DY{m:Nat}{l:Nm}(h:(mQ m l).2.2=0):(mQ m l).2.1<=l.length/\0<l.length:=by
 unfold mQ at h ⊢;simp only at h ⊢
 by_cases a:(fj l).2.2=0/\m<(fj l).1
 ·rw[if_pos a]at h;simp at h
 ·rw[if_neg a]at h
  exact⟨(mp l).1,nJ h⟩
theorem CG{m:Nat}{l:Nm}(h:(jS m l).2.2=0):(jS m l).2.1<=l.length/\0<l.length:=by
 unfold jS at h ⊢
 by_cases a:(fj l).2.2≠0
 ·rw[if_pos a]at h;exact absurd h a
 ·rw[if_neg a]at h ⊢
  have d:=nJ (l:=l) (by simpa using a)
  by_cases b:m<(fj l).1 \/ 16777216<(fj l).1
  ·rw[if_pos b]at h;simp at h
  ·rw[if_neg b]at h ⊢
   by_cases c:l.length - (fj l).2.1<(fj l).1
   ·rw[if_pos c]at h;simp at h
   ·rw[if_neg c]
    have:=(mp l).1;simp only;omega
theorem CI{l:Nm}(h:(lQ l).2.2=0):(lQ l).2.1<=l.length/\0<l.length:=by
 unfold lQ at h ⊢
 by_cases a:l.length=0
 ·rw[if_pos a]at h;simp at h
 ·rw[if_neg a]at h ⊢
  by_cases b:1<(l.getD 0 0).toNat
  ·rw[if_pos b]at h;simp at h
  ·rw[if_neg b];simp only;omega
theorem AI(b m:Nat)(A:Option Addr)(r:RS)(w:World)(h:RdAt w b A r):Calls prog 50 #[.pointer (some ⟨b,0,none⟩),.int .i64 (m:Int)] w (RdPost w b A (.int .i64 (ff m r).1) (ff m r).2):=by
 obtain⟨d,a⟩:=eR (w.alloc (.cells #[m] 3));have f:Fr [] w d:=by rw[<-a];exact(Fq [] w).alloc _
 have n:d.cell? ⟨w.heap.size,0,none⟩=some m:=by rw[<-a];exact(BoxN.new w _ _).c 0
 have g:=h.fr f qs qs;have k:=FY b w.heap.size A r d (mQ m r.l).1 (mQ m r.l).2.1 (mQ m r.l).2.2 g DY (λc u _ t=>wj A _ c _ _ m r.l d u t n);have q:=Hd k;have s:=Hd a;have p:=Hd f;clear k a f n g h;unfold ff
 go_enter func50,ntmps50
 go_wp2_with fail
 rw[s.out];(with_reducible refine q.out.mono ?_);intro e w2 i;obtain⟨rfl,A',j⟩:=i.of_alloc p.out;have o:=Hd j;clear j i
 go_wp2_with fail
 go_ret
 exact⟨rfl,A',o.out⟩
theorem Row.part{w:World}{B n s k c b off:Nat}{l:Nm}(h:Row w B 1 (some ⟨b,off,none⟩) n (eP l))(r:s+k<=n)(f:n<=c):Row w B 1 (if c=s then some ⟨b,off,none⟩else some ⟨b,off+s,none⟩) k (eP ((l.drop s).take k)):=by
 have q:l.length=n:=by have:=h.1;rw[eU]at this;omega
 have o:=h.rest (s:=s) (c:=c) qo f;refine⟨by rw[eU,List.length_take,List.length_drop];omega,λp=>?_⟩;obtain⟨b',off',e,d,g⟩:=o.2 qo;refine⟨b',off',e,d,λj u a=>g j u ?_⟩;have i:eP ((l.drop s).take k)=(eP (l.drop s)).take k:=by unfold eP;rw[List.map_take]
 rw[i]at a;have m:j<k:=by have:=(i9.1 a).1;rw[List.length_take]at this;omega
 rwa [List.getElem?_take_of_lt m]at a
theorem AJ(A:Option Addr)(n c B q m:Nat)(l:Nm)(w:World)(r:Row w B 1 A n (eP l))(J:n<=c)(I:n<=70368744177664)(S:w.cell? ⟨q,0,none⟩=some (.int .i64 (m:Int))):
 Calls prog 110 #[.slice A n c,.pointer (some ⟨q,0,none⟩)] w λe w'=>e=.returned (.tuple #[ft (jS m l).1,.int .i64 ((jS m l).2.1:Int),.int .i64 (jS m l).2.2])/\w=w':=by
 have x:=tC A n c B l w r I;have o:l.length=n:=by have:=r.1;rw[eU]at this;omega
 have L:=(mp l).1;have p:=nJ (l:=l);unfold jS;obtain⟨a,t⟩:=eR ((fj l).1);obtain⟨b,h⟩:=eR ((fj l).2.1);obtain⟨z,i⟩:=eR ((fj l).2.2);rw[t,h,i]at x;rw[h,o]at L;rw[i,o]at p;rw[t,h,i,o];have d:=Hd x;have C:=Hd r;clear x t h i r o
 by_cases j:z=0
 ·subst j
  have K:=p rfl;clear p;rw[if_neg qs]
  by_cases f:m<a \/ 16777216<a
  ·rw[if_pos f]
   by_cases R:m<a
   ·have E:(m:Int)<(a:Int):=qo
    clear f
    go_enter func110,ntmps110
    go_wp2_with ((go_at_call 111;(with_reducible refine d.out.mono ?_);rintro e g ⟨rfl,rfl⟩))
    go_ret3
    exact⟨rfl,rfl⟩
   ·have E:¬(m:Int)<(a:Int):=qo
    have H:(16777216:Int)<(a:Int):=qo
    clear f
    go_enter func110,ntmps110
    go_wp2_with ((go_at_call 111;(with_reducible refine d.out.mono ?_);rintro e g ⟨rfl,rfl⟩))
    go_ret3
    exact⟨rfl,rfl⟩
  ·rw[if_neg f]
   have E:¬(m:Int)<(a:Int):=qo
   have H:¬(16777216:Int)<(a:Int):=qo
   have T:a<=16777216:=qo
   clear f
   by_cases y:n - b<a
   ·rw[if_pos y]
    have M:(n:Int) - (b:Int)<(a:Int):=qo
    go_enter func110,ntmps110
    go_wp2_with ((go_at_call 111;(with_reducible refine d.out.mono ?_);rintro e g ⟨rfl,rfl⟩))
    go_ret3
    exact⟨rfl,rfl⟩
   ·rw[if_neg y]
    have M:¬(n:Int) - (b:Int)<(a:Int):=qo
    obtain⟨N,off,rfl,_⟩:=C.out.2 K;have F:=C.out.part (s:=b) (k:=a) (c:=c) qo J;have v:=fa (P:=prog) F 49 5 underlying49 underlying5 9 underlying9 (c - b);have U:(b:Int)<=(b:Int)+(a:Int):=qo
    have V:(b:Int)+(a:Int)<=(c:Int):=qo
    obtain⟨W,G,_,_⟩:=eT ((l.drop b).take a);rw[G]at v;rw[G];clear y F
    by_cases u:c=b
    ·have D:a=0:=qo
     rw[if_pos u,show c - b=0 by omega,D]at v;clear D;subst u
     go_enter func110,ntmps110
     go_wp2_with ((go_at_call 111;(with_reducible refine d.out.mono ?_);rintro e g ⟨rfl,rfl⟩))
     go_ret3
     exact⟨rfl,rfl⟩
    ·rw[if_neg u]at v
     go_enter func110,ntmps110
     go_wp2_with ((go_at_call 111;(with_reducible refine d.out.mono ?_);rintro e g ⟨rfl,rfl⟩))
     go_ret3
     exact⟨rfl,rfl⟩
 ·have O:(z == 0)=false:=by simpa using j
  have Q:(z != 0)=true:=by simpa using j
  rw[if_pos j];clear p;have e0:ft []=.string ⟨#[]⟩:=rfl;rw[e0]
  go_enter func110,ntmps110
  go_wp2_with ((go_at_call 111;(with_reducible refine d.out.mono ?_);rintro e g ⟨rfl,rfl⟩))
  go_ret3
  exact⟨rfl,rfl⟩
theorem DZ(b m:Nat)(A:Option Addr)(r:RS)(w:World)(h:RdAt w b A r):Calls prog 49 #[.pointer (some ⟨b,0,none⟩),.int .i64 (m:Int)] w (RdPost w b A (ft (gN m r).1) (gN m r).2):=by
 obtain⟨d,a⟩:=eR (w.alloc (.cells #[m] 3));have f:Fr [] w d:=by rw[<-a];exact(Fq [] w).alloc _
 have n:d.cell? ⟨w.heap.size,0,none⟩=some m:=by rw[<-a];exact(BoxN.new w _ _).c 0
 have g:=h.fr f qs qs;have k:=FZ b w.heap.size A r d (jS m r.l).1 (jS m r.l).2.1 (jS m r.l).2.2 g CG (λc v t u=>AJ A _ c _ _ m r.l d v t u n);have q:=Hd k;have s:=Hd a;have p:=Hd f;clear k a f n g h;unfold gN
 go_enter func49,ntmps49
 go_wp2_with fail
 rw[s.out];(with_reducible refine q.out.mono ?_);intro e w2 i;obtain⟨rfl,A',j⟩:=i.of_alloc p.out;have o:=Hd j;clear j i;obtain⟨y,x,_,_⟩:=eT (gA [] r ((jS m r.l).1,(jS m r.l).2.1,(jS m r.l).2.2)).1
 go_wp2_with fail
 go_ret
 exact⟨congrArg Ending.returned x.symm,A',o.out⟩
theorem AK(A:Option Addr)(n c B:Nat)(l:Nm)(w:World)(h:Row w B 1 A n (eP l))(q:n<=70368744177664):
 Calls prog 257 #[.slice A n c] w λe w'=>e=.returned (.tuple #[.bool (lQ l).1,.int .i64 ((lQ l).2.1:Int),.int .i64 (lQ l).2.2])/\w=w':=by
 have o:l.length=n:=by have:=h.1;rw[eU]at this;omega
 unfold lQ;rw[o]
 by_cases a:n=0
 ·rw[if_pos a]
  have i:((n:Int) == 0)=true:=by simp;omega
  go_enter func257,ntmps257
  go_wp2_with fail
  go_ret3
  exact⟨rfl,rfl⟩
 ·rw[if_neg a]
  have i:((n:Int) == 0)=false:=by simp;omega
  obtain⟨b,off,rfl,g⟩:=h.byte (k:=0) qo;rw[Nat.add_zero]at g;obtain⟨x,p⟩:=eR ((l.getD 0 0).toNat);rw[p]at g ⊢;have r:(0:Int)<(n:Int):=qo
  by_cases d:1<x
  ·rw[if_pos d]
   have j:(1:Int)<(x:Int):=qo
   go_enter func257,ntmps257
   go_wp2_with fail
   go_ret3
   exact⟨rfl,rfl⟩
  ·rw[if_neg d]
   have j:¬(1:Int)<(x:Int):=qo
   by_cases f:x=1
   ·have m:((x:Int) == 1)=true:=by simp;omega
    rw[show decide (x=1)=true by simp[f]]
    go_enter func257,ntmps257
    go_wp2_with fail
    go_ret3
    exact⟨rfl,rfl⟩
   ·have m:((x:Int) == 1)=false:=by simp;omega
    rw[show decide (x=1)=false by simp[f]]
    go_enter func257,ntmps257
    go_wp2_with fail
    go_ret3
    exact⟨rfl,rfl⟩
theorem D8(b:Nat)(A:Option Addr)(r:RS)(w:World)(h:RdAt w b A r):Calls prog 217 #[.pointer (some ⟨b,0,none⟩)] w (RdPost w b A (.bool (mq r).1) (mq r).2):=by
 have i:=F1 b 0 A r w (lQ r.l).1 (lQ r.l).2.1 (lQ r.l).2.2 h CI (λc k _ j=>AK A _ c _ r.l w k j);have d:=Hd i;unfold mq
 go_enter func217,ntmps217
 go_wp2_with fail
 (with_reducible refine d.out.mono ?_);intro e w2 f;obtain⟨rfl,A',g⟩:=f;have a:=Hd g
 go_wp2_with fail
 go_ret
 exact⟨rfl,A',a.out⟩
theorem D9(b:Nat)(A:Option Addr)(r:RS)(w:World)(h:RdAt w b A r):Calls prog 216 #[.pointer (some ⟨b,0,none⟩)] w λe w'=>e=.returned (.int .i64 (r.l.length:Int))/\w=w':=by
 obtain⟨c,a,_⟩:=h;obtain⟨d,_⟩:=iW a
 go_enter func216,ntmps216
 go_wp2_with fail
 go_ret
 exact⟨rfl,rfl⟩
def kR(r:RS):Int:=if r.f≠0 then r.f else if 0<r.l.length then 5 else 0
theorem CJ(b:Nat)(A:Option Addr)(r:RS)(w:World)(i:RdAt w b A r):Calls prog 52 #[.pointer (some ⟨b,0,none⟩)] w λe w'=>e=.returned (.int .i64 (kR r))/\w=w':=by
 obtain⟨c,a,_⟩:=i;obtain⟨j,_,k,_⟩:=iW a;unfold kR;obtain⟨f,g⟩:∃f,r.f=f:=⟨_,rfl⟩;obtain⟨n,h⟩:=eR (r.l.length);rw[g]at k;rw[h]at j;rw[g,h]
 by_cases d:f=0
 ·subst d
  rw[if_neg qs]
  by_cases a:0<n
  ·rw[if_pos a]
   go_enter func52,ntmps52
   go_wp2_with fail
   go_ret
   exact⟨rfl,rfl⟩
  ·rw[if_neg a]
   have m:¬(0:Int)<(n:Int):=qo
   go_enter func52,ntmps52
   go_wp2_with fail
   go_ret
   exact⟨rfl,rfl⟩
 ·rw[if_pos d]
  have o:(f != 0)=true:=by simpa using d
  go_enter func52,ntmps52
  go_wp2_with fail
  go_ret
  exact⟨rfl,rfl⟩
theorem sC(A:Option Addr)(n c B:Nat)(l:Nm)(w:World)(g:Row w B 1 A n (eP l))(t:∀a,A=some a->a.spot=none)(q:n<=70368744177664):Calls prog 47 #[.slice A n c] w λe w'=>∃b A',e=.returned (.pointer (some ⟨b,0,none⟩))/\RdAt w' b A' ⟨l,0,0⟩/\Fr [] w w'/\w.heap.size<=b/\∀k∈eV A',w.heap.size<=k:=by
 have p:l.length=n:=by have:=g.1;rw[eU]at this;omega
 have m:=rZ A n c B l w g t q;have u:=Hd m;have i:=Hd p;clear m g t p
 go_enter func47,ntmps47
 go_wp2_with ((go_at_call 108;(with_reducible refine u.out.mono ?_);rintro e w2 ⟨A2,j,rfl,r,o,s⟩;have d:=Hd r;have h:=Hd o;have v:=Hd s;clear r o s))
 go_ret
 have x:=d.out.lt;have f:Fr [] w2 (w2.alloc (.cells #[.slice A2 l.length j,.int .i64 0,.int .i64 0] 214)):=(Fq [] w2).alloc _;refine⟨w2.heap.size,A2,rfl,⟨j,BoxN.new w2 _ _,d.out.le_cap,(d.out.row.fr f (fV _) qs).more f.size,λy=>by have:=x _ y;omega,by rw[i.out];exact q,by simp only;rw[i.out];omega⟩,h.out.then f,h.out.size,v.out⟩
end Go.Proofs.YtlpmiimgacfmkaaGreatDoor
