/- Part of the proof. -/
import Derived.Lib.ConvBytes
import Derived.Test.YtlpmiimgacfmkaaGreatDoorCDrawn
set_option linter.all false
set_option maxHeartbeats 4000000
set_option maxRecDepth 100000
namespace Go.Proofs.YtlpmiimgacfmkaaGreatDoor
open Go.Proofs.Tryz List
open Go.RowKit
def nC(a b:Nm):Int:=if Op.bytesLess a b then -1 else if a=b then 0 else 1
def nD(s:ByteArray)(w:World):Calls prog 193 #[.string s] w λe w'=>e=.returned (.bool false)/\w=w':=by
 go_enter func193,ntmps193
 go_wp2
 go_ret
 exact⟨rfl,rfl⟩
def vk(a b:ByteArray)(w:World):Calls prog 163 #[.string a,.string b] w λe w'=>e=.returned (.int .i64 (nC a.data.toList b.data.toList))/\w=w':=by
 have d:=ByteArray.toList_eq a;have f:=ByteArray.toList_eq b;rw[<-d,<-f];unfold nC;clear d f
 cases i:Op.bytesLess a.toList b.toList with
 | true =>
  rw[if_pos rfl]
  go_enter func163,ntmps163
  go_wp2_with ((go_at_call 193;(with_reducible refine(nD _ w).mono ?_);rintro e g ⟨rfl,rfl⟩))
  go_ret
  exact⟨rfl,rfl⟩
 | false =>
  rw[if_neg qs]
  by_cases c:a.toList=b.toList
  ·rw[if_pos c]
   have h:(a.toList == b.toList)=true:=by simpa using c
   clear c
   go_enter func163,ntmps163
   go_wp2_with ((go_at_call 193;(with_reducible refine(nD _ w).mono ?_);rintro e g ⟨rfl,rfl⟩))
   go_ret
   exact⟨rfl,rfl⟩
  ·rw[if_neg c]
   have h:(a.toList == b.toList)=false:=by simpa using c
   clear c
   go_enter func163,ntmps163
   go_wp2_with ((go_at_call 193;(with_reducible refine(nD _ w).mono ?_);rintro e g ⟨rfl,rfl⟩))
   go_ret
   exact⟨rfl,rfl⟩
def Aa:List Int->Int
 | []=>0
 | x::r=>if x=0 then Aa r else x
def yP(A:Option Addr)(n c B:Nat)(xs:List Int)(w:World)(l:Row w B 1 A n (xs.map vB))(H:n<=1000):Calls prog 132 #[.slice A n c] w λe w'=>e=.returned (.int .i64 (Aa xs))/\w=w':=by
 have r:xs.length=n:=by simpa using l.1
 have⟨q,a⟩:=eR (Aa xs);rw[a];have y:=Hd l;have p:=Hd r;have v:=Hd a;clear l r a
 go_enter func132,ntmps132
 go_wp2
 go_loop [8] (λi=>∃k:Nat,k<=n/\i=k/\Aa (xs.drop k)=q) (λi=>n - (intOf i).toNat)
 case atStart=>exact⟨0,Nat.zero_le _,rfl,v.out⟩
 case round =>
  obtain⟨k,G,rfl,a⟩:=hrel;have m:=Hd a;clear a
  by_cases D:k<n
  ·obtain⟨b,off,u,rfl,_,d,C⟩:=y.at1 D
   have j:k<xs.length:=by have:=p.out;omega
   rw[List.getElem?_map,gg j]at d;have h:=drop_eq_getElem_cons j;have⟨x,s⟩:=eR (xs[k]);rw[s]at d h
   injection d with d
   subst d;unfold vB at C;have g:=m.out;rw[h]at g;unfold Aa at g;have o:=Hd g;have E:(k:Int)<(n:Int):=qo
   clear h s g j
   by_cases f:x=0
   ·have e:=o.out
    rw[if_pos f]at e;have t:=Hd e;subst f;clear e
    go_wp2
    go_round
    case rel=>exact⟨k+1,qo,by go_num,t.out⟩
    case measure=>simp[intOf];omega
   ·have e:=o.out
    rw[if_neg f]at e;subst e
    have F:(x != 0)=true:=by simpa using f
    go_wp2
    go_ret
    exact⟨rfl,rfl⟩
  ·have e:=m.out
   rw[drop_eq_nil_of_le (by have:=p.out;omega)]at e;have z:=e;subst z;have E:¬(k:Int)<(n:Int):=qo
   clear e
   go_wp2
   go_ret
   exact⟨rfl,rfl⟩
def gD(a b:ON):Int :=
 if Lib.compareInt a.kind b.kind≠0 then Lib.compareInt a.kind b.kind
 else if j5 (fT a.owner) (fT b.owner)≠0 then j5 (fT a.owner) (fT b.owner)
 else Aa [Lib.compareInt a.number b.number,Lib.compareInt a.index b.index,nC a.text b.text]
def jg(w:World)(r:Int)(e:Ending)(w':World):Prop:=e=.returned (.int .i64 r)/\Fr [] w w'
def oH(a b:ON)(w:World)(V:gF a.owner=true)(Y:gF b.owner=true)(ha:a.owner.length<=140737488355328)(hb:b.owner.length<=140737488355328):Calls prog 103 #[fu a,fu b] w (jg w (gD a b)):=by
 have⟨r,v⟩:=eR (gD a b);rw[v];unfold gD at v;obtain⟨F,o1,q,p,t1⟩:=a;obtain⟨C,o2,l,k,t2⟩:=b;simp only at V Y ha hb v;unfold fu;simp only;have⟨U,af,S,ao⟩:=eS o1;have⟨p2,ag,T,ap⟩:=eS o2;have⟨x,ah,ai,_⟩:=eS t1;have⟨s,aj,ak,_⟩:=eS t2;rw[af,ag,ah,aj];have⟨Z,A⟩:=eR (w.alloc (.cells #[F,U,q,p,x] 31));have⟨w2,B⟩:=eR (Z.alloc (.cells #[C,p2,l,k,s] 31));have ae:Fr [] w w2:=by rw[<-B,<-A];exact((Fq [] w).alloc _).alloc _
 have N:BoxN w2 w.heap.size 31 #[F,U,q,p,x]:=by rw[<-B,<-A];exact(BoxN.new w _ _).alloc _
 have O:BoxN w2 (w.heap.size+1) 31 #[C,p2,l,k,s]:=by rw[<-B];have:=BoxN.new Z 31 #[C,p2,l,k,s];rw[show Z.heap.size=w.heap.size+1 by rw[<-A,jZ]]at this;exact this
 have E:=mW U p2 w2 qo qo (by rw[S];exact V) (by rw[T];exact Y);rw[S,T]at E;have⟨L,Q⟩:=eR (Lib.compareInt F C);have⟨M,R⟩:=eR (j5 (fT o1) (fT o2));rw[R]at E;rw[Q,R]at v;have P:=λW=>Tryz.cmp_Compare_int F C W;rw[Q]at P;have⟨x0,x1⟩:=N.m2;have⟨y0,y1⟩:=O.m2;have i:=Hd v;have ac:=Hd A;have ad:=Hd B;have D:=Hd ae;have HA:=Hd N;have HB:=Hd O;have G:=Hd E;have I:=Hd P;clear v A B ae N O E P Q R V Y af ag S T ah aj ao ap
 go_enter func103,ntmps103
 go_upto_region 1 with fail
 rw[ac.out,ad.out]
 by_cases y:L=0
 ·have am:(L != 0)=false:=by simp[y]
  have e:=i.out;rw[if_neg (by simpa using y)]at e
  replace i:=Hd e
  clear e y
  by_cases z:M=0
  ·have an:(M != 0)=false:=by simp[z]
   have e:=i.out;rw[if_neg (by simpa using z)]at e
   replace i:=Hd e
   clear e z
   go_upto_region 5 with(first
    | (go_at_call 133;(with_reducible refine(I.out _).mono ?_);rintro e w6 ⟨rfl,rfl⟩)
    | (go_at_call 152;(with_reducible refine G.out.mono ?_);rintro e d ⟨rfl,o⟩;have H:=Hd (D.then (Fr.of_below o));have m:=Hd (HA.later o);have n:=Hd (HB.later o);clear o))
   go_upto_region 7 with fail
   have al:=m.drew.k2;have z1:=n.drew.k2;have z2:=m.drew.k3;have z3:=n.drew.k3;have z4:=m.drew.k4;have z5:=n.drew.k4;have ab:=Hd (λW=>Tryz.cmp_Compare_int q l W);have aa:=Hd (λW=>Tryz.cmp_Compare_int p k W);have J:=Hd (λW=>vk x s W);rw[ai,ak]at J;clear ai ak;generalize Lib.compareInt q l=f at ab i;generalize Lib.compareInt p k=g at aa i;generalize nC t1 t2=h at J i;have S3:d.drew.cell? ⟨w.heap.size,2,none⟩=some (.int .i64 q)/\d.drew.cell? ⟨w.heap.size+1,2,none⟩=some (.int .i64 l)/\d.drew.cell? ⟨w.heap.size,3,none⟩=some (.int .i64 p)/\d.drew.cell? ⟨w.heap.size+1,3,none⟩=some (.int .i64 k)/\d.drew.cell? ⟨w.heap.size,4,none⟩=some (.string x)/\d.drew.cell? ⟨w.heap.size+1,4,none⟩=some (.string s):=⟨al,z1,z2,z3,z4,z5⟩;have K:(d.alloc (.cells #[.int .i64 f,.int .i64 g,.int .i64 h] 3)).drew.cell? ⟨w.heap.size,2,none⟩=some (.int .i64 q)/\(d.alloc (.cells #[.int .i64 f,.int .i64 g,.int .i64 h] 3)).drew.cell? ⟨w.heap.size+1,2,none⟩=some (.int .i64 l)/\(d.alloc (.cells #[.int .i64 f,.int .i64 g,.int .i64 h] 3)).drew.cell? ⟨w.heap.size,3,none⟩=some (.int .i64 p)/\(d.alloc (.cells #[.int .i64 f,.int .i64 g,.int .i64 h] 3)).drew.cell? ⟨w.heap.size+1,3,none⟩=some (.int .i64 k)/\(d.alloc (.cells #[.int .i64 f,.int .i64 g,.int .i64 h] 3)).drew.cell? ⟨w.heap.size,4,none⟩=some (.string x)/\(d.alloc (.cells #[.int .i64 f,.int .i64 g,.int .i64 h] 3)).drew.cell? ⟨w.heap.size+1,4,none⟩=some (.string s):=⟨(m.alloc _).drew.c 2,(n.alloc _).drew.c 2,(m.alloc _).drew.c 3,(n.alloc _).drew.c 3,(m.alloc _).drew.c 4,(n.alloc _).drew.c 4⟩;have F4:Fr [] w ((d.alloc (.cells #[.int .i64 f,.int .i64 g,.int .i64 h] 3)).drew):=(H.alloc _).drew
   have R4:Row ((d.alloc (.cells #[.int .i64 f,.int .i64 g,.int .i64 h] 3)).drew) (d.alloc (.cells #[.int .i64 f,.int .i64 g,.int .i64 h] 3)).drew.heap.size 1 (some ⟨d.heap.size,0,none⟩) 3 ([f,g,h].map vB):=by
    refine⟨qs,λ_=>⟨_,0,rfl,by simp[World.drew],λj u hu=>?_⟩⟩;have:=jK d [.int .i64 f,.int .i64 g,.int .i64 h] 3 j u (by simpa [vB]using hu);rw[fV]at this;rw[Nat.zero_add];exact this
   clear al z1 z2 z3 z4 z5 ac ad G D HA HB m n x0 x1 y0 y1;generalize w.heap.size=t at S3 K ⊢;generalize hX:(d.alloc (.cells #[.int .i64 f,.int .i64 g,.int .i64 h] 3)).drew=X at K F4 R4
   go_region_held3 (λW=>W.cell? ⟨t,2,none⟩=some (.int .i64 q)/\W.cell? ⟨t+1,2,none⟩=some (.int .i64 l)/\W.cell? ⟨t,3,none⟩=some (.int .i64 p)/\W.cell? ⟨t+1,3,none⟩=some (.int .i64 k)/\W.cell? ⟨t,4,none⟩=some (.string x)/\W.cell? ⟨t+1,4,none⟩=some (.string s)) (first|with_reducible exact S3|with_reducible exact K) (first
    | (go_at_call 133;(with_reducible refine(ab.out _).mono ?_);rintro e w7 ⟨rfl,rfl⟩)
    | (go_at_call 133;(with_reducible refine(aa.out _).mono ?_);rintro e w7 ⟨rfl,rfl⟩)
    | (go_at_call 163;(with_reducible refine(J.out _).mono ?_);rintro e w7 ⟨rfl,rfl⟩)
    | (go_at_call 132;(with_reducible refine(yP _ 3 3 _ _ _ R4 qo).mono ?_);rintro e w7 ⟨rfl,rfl⟩))
   all_goals
    go_wp2
    go_ret
    exact⟨by rw[i.out];rfl,F4⟩
  ·have an:(M != 0)=true:=by simpa using z
   have e:=i.out;rw[if_pos (by simpa using z)]at e;subst e
   go_wp2_with (first
    | (go_at_call 133;(with_reducible refine(I.out _).mono ?_);rintro e w6 ⟨rfl,rfl⟩)
    | (go_at_call 152;(with_reducible refine G.out.mono ?_);rintro e d ⟨rfl,o⟩;have H:=Hd (D.then (Fr.of_below o));clear o))
   go_ret
   exact⟨rfl,H.out⟩
 ·have am:(L != 0)=true:=by simpa using y
  have e:=i.out;rw[if_pos (by simpa using y)]at e;subst e
  go_wp2_with ((go_at_call 133;(with_reducible refine(I.out _).mono ?_);rintro e w6 ⟨rfl,rfl⟩))
  go_ret
  exact⟨rfl,D.out⟩
def wQ:∀(k u:Nat),u<128 ^ (k+1)->(gd u).length<=k+1
 | 0,u,h=>by rw[mQ (by simpa using h)];simp
 | k+1,u,h=>by
  by_cases c:u<128
  ·rw[mQ c];simp
  ·rw[rk c,length_cons]
   have:=wQ k (u / 128) qo;omega
def fJ{u:Nat}(h:u<=9223372036854775807):(gd u).length<=9:=wQ 8 u qo
def iG{s:Nm}(h:s.length<=9223372036854775807):(iX s).length<=s.length+9:=by
 unfold iX;have:=fJ h;rw[gu];omega
def WrS(a:World)(b:Nat)(bs:Nm)(w:World):Prop:=∃A,WrAt w b A bs/\Fr [b] a w/\∀k∈eX A,a.heap.size<=k
section
variable {a w w':World} {b:Nat} {A:Option Addr} {bs bs':Nm} {e:Ending}
def WrS.new(h:WrAt w b none []):WrS w b [] w:=⟨none,h,Fq _ _,by simp[eX]⟩
def WrS.fr(h:WrS a b bs w):Fr [b] a w:=by obtain⟨A,_,h,_⟩:=h;exact h
def WrS.more(h:WrS a b bs w)(c:Fr [] w w')(i:b<w.heap.size):WrS a b bs w':=by
 obtain⟨A,d,f,g⟩:=h;exact⟨A,d.fr c qs qs,f.trans c qs,g⟩
def WrS.step(n:WrAt w b A bs)(d:Fr [b] a w)(f:∀k∈eX A,a.heap.size<=k)(i:WPost w b A bs' e w'):e=.returned (.tuple #[])/\WrS a b bs' w':=by
 obtain⟨rfl,A',j,l,m⟩:=i;refine⟨rfl,A',j,d.trans l (λx c=>?_),λk g=>?_⟩
 ·rcases mem_cons.1 c with rfl|c
  ·exact .inl qs
  ·exact .inr (f x c)
 ·rcases m k g with h|h
  ·exact f k h
  ·have:=d.size;omega
def pF(h:WrS a b bs w)(n:Nat)(d:n<=9223372036854775807)(j:bs.length<=70368744177600):
 Calls prog 57 #[.pointer (some ⟨b,0,none⟩),.int .i64 (n:Int)] w λe w'=>e=.returned (.tuple #[])/\WrS a b (bs++gd n) w':=by
 obtain⟨A,c,f,g⟩:=h;have:=fJ d;exact(sV w b A bs n c d (by rw[gu];omega)).mono λe w' i=>WrS.step c f g i
def I9(h:WrS a b bs w)(v:Bool)(i:bs.length<=70368744177600):
 Calls prog 122 #[.pointer (some ⟨b,0,none⟩),.bool v] w λe w'=>e=.returned (.tuple #[])/\WrS a b (bs++[nf v]) w':=by
 obtain⟨A,c,d,f⟩:=h;exact(xS w b A bs v c qo).mono λe w' g=>WrS.step c d f g
def Ab(h:WrS a b bs w)(s:Nm)(g:s.length<=16777216)(j:bs.length+s.length<=70368744177600):
 Calls prog 56 #[.pointer (some ⟨b,0,none⟩),fg s] w λe w'=>e=.returned (.tuple #[])/\WrS a b (bs++iX s) w':=by
 obtain⟨A,c,d,f⟩:=h;have:=iG (s:=s) qo;exact(xT w b A bs s c g (by rw[gu];omega)).mono λe w' i=>WrS.step c d f i
def sD(h:WrS a b bs w)(g:bs.length<=70368744177600):Calls prog 58 #[.pointer (some ⟨b,0,none⟩)] w (xU w bs):=by
 obtain⟨A,c,d,f⟩:=h;exact Co w b A bs c qo
end
def wS(u:Usage)(n:ON):Nm :=
 ((((gd n.kind.toNat)++(if u.owner then iX n.owner else []))++(if u.number then gd n.number.toNat else []))++(if u.index then gd n.index.toNat else []))++(if u.text then iX n.text else [])
def jC(n:ON):Nm:=wS (us n.kind.toNat) n
def lC(w:World)(s:Nm)(r:Int)(e:Ending)(w':World):Prop:=e=.returned (.tuple #[fg s,.int .i64 r])/\Fr [] w w'
def mO{k:Nat}(h:k<21):(us k).most<=1073741824:=by
 have:∀y:Fin 21,(us y.val).most<=1073741824:=qd
 exact this ⟨k,h⟩
def ju{u:Usage}{n:ON}(h:kU u n=0):(u.number=true->fM n.number 1073741824=true)/\(u.index=true->fM n.index u.most=true)/\(u.text=true->jG n.text=true):=by
 unfold kU at h;split at h
 ·simp at h
 split at h
 ·simp at h
 split at h
 ·simp at h
 split at h
 ·simp at h
 split at h
 ·simp at h
 split at h
 ·simp at h
 rename_i a;split at h
 ·simp at h
 rename_i b;split at h
 ·simp at h
 rename_i c;unfold tN at a;unfold tI at b;unfold tW at c;refine⟨λe=>?_,λe=>?_,λe=>?_⟩
 ·rw[e]at a;simpa using a
 ·rw[e]at b;simpa using b
 ·rw[e]at c;simpa using c
def He(a:World)(u:List Value)(c d:Value)(W:World):Prop:=∃P b,c=.pointer (some ⟨P,0,none⟩)/\d=.pointer (some ⟨b,0,none⟩)/\WrS W b [] W/\BoxN W P 216 u.toArray/\P≠b/\a.heap.size<=P/\a.heap.size<=b/\Fr [] a W
def ik{W:World}{B:Nat}{a b c d e:Value}{t:TypeId}(h:BoxN W B t #[a,b,c,d,e]):W.cell? ⟨B,1,none⟩=some b/\W.cell? ⟨B,2,none⟩=some c/\W.cell? ⟨B,3,none⟩=some d/\W.cell? ⟨B,4,none⟩=some e:=⟨h.c 1,h.c 2,h.c 3,h.c 4⟩
def jv{W:World}{B:Nat}{a b c d e f:Value}{t:TypeId}(h:BoxN W B t #[a,b,c,d,e,f]):W.cell? ⟨B,1,none⟩=some b/\W.cell? ⟨B,2,none⟩=some c/\W.cell? ⟨B,3,none⟩=some d/\W.cell? ⟨B,4,none⟩=some e:=⟨h.c 1,h.c 2,h.c 3,h.c 4⟩
def lD(n:ON)(w:World)(ai:Ok w)(ho:n.owner.length<=16777216)(ht:n.text.length<=140737488355328)(l:eY n=0):Calls prog 55 #[fu n] w (lC w (jC n) 0):=by
 have I:=λW h=>ld n W h qo ht;rw[l]at I
 have ag:iR n.kind=true:=by
  unfold eY at l
  by_cases h:iR n.kind=true
  ·exact h
  ·rw[if_neg h]at l
   simp at l
 obtain⟨k,hk,aB⟩:∃k:Nat,n.kind=(k:Int)/\k<21:=by
  simp only[iR,decide_eq_true_eq]at ag;exact⟨n.kind.toNat,qo,qo⟩
 unfold eY at l;rw[if_pos ag]at l;unfold jC;obtain⟨a9,D,o,m,t⟩:=n;simp only at hk;subst hk;simp only[show ((k:Nat):Int).toNat=k from rfl]at l ⊢;have⟨q,B⟩:=eR (wS (us k) ⟨(k:Int),D,o,m,t⟩);rw[B];unfold wS at B;have d:=ju l;have ah:=mO aB;clear l;unfold fu at I ⊢;simp only at I d B ho ht ⊢;have⟨os,aj,_,_⟩:=eS D;have⟨ts,ak,_,_⟩:=eS t;rw[aj,ak]at I ⊢;have⟨w1,aG,ae,X⟩:=kJ w #[.int .i64 (k:Int),.string os,.int .i64 o,.int .i64 m,.string ts] 31;have⟨x0,x1,x2,x3,x4⟩:=ae.m5;have ar:=I w1 (ai.fr0 X);have ao:=Hd (ai.fr0 X);have am:=Hd ar;have aI:=Hd X;have al:=Hd ae;have aP:=Hd aG;have aq:=Hd d;have an:=Hd ah;have HQ:=Hd B;have aN:=Hd aj;have aO:=Hd ak;have a8:(k:Int)<21:=qo
 clear I ar X aG ae aj ak ai d ah B ag
 go_enter func55,ntmps55
 go_upto_region 1 with fail
 rw[aP.out]
 go_upto_region 4 with((go_at_call 53;(with_reducible refine am.out.mono ?_);rintro e w2 ⟨rfl,Y⟩;have M:=Hd (al.fr Y qs);have aJ:=Hd (aI.then Y);have ap:=Hd (ao.fr0 Y);clear Y))
 clear am ao al x0 x1 x2 x3 x4;have⟨e0,O,Q,R,T,U⟩:=rU ap.out aB;have⟨u,hu⟩:=eR (us k);rw[hu]at e0 O Q R T U aq HQ an;obtain⟨uw,H,G,F,v,um⟩:=u;simp only at e0 O Q R T U;have⟨us,aF,_,_⟩:=eS uw;rw[aF]at e0;have⟨x0,x1⟩:=M.m2;clear hu aF;have aX:=ap.low;have aC:=M.lt;have aE:∀W,Fr [] w2 W->W.cell? ⟨w.heap.size,0,none⟩=some (.int .i64 (k:Int))/\W.cell? ⟨0,k*6,none⟩=some (.string us)/\W.cell? ⟨0,k*6+1,none⟩=some (.bool H)/\W.cell? ⟨0,k*6+2,none⟩=some (.bool G)/\W.cell? ⟨0,k*6+3,none⟩=some (.bool F)/\W.cell? ⟨0,k*6+4,none⟩=some (.bool v)/\W.cell? ⟨0,k*6+5,none⟩=some (.int .i64 um):=λW A=>⟨(A.cell aC qs).trans x0,(A.cell (p:=⟨0,_,none⟩) (by show 0<_;omega) qs).trans e0,(A.cell (p:=⟨0,_,none⟩) (by show 0<_;omega) qs).trans O,(A.cell (p:=⟨0,_,none⟩) (by show 0<_;omega) qs).trans Q,(A.cell (p:=⟨0,_,none⟩) (by show 0<_;omega) qs).trans R,(A.cell (p:=⟨0,_,none⟩) (by show 0<_;omega) qs).trans T,(A.cell (p:=⟨0,_,none⟩) (by show 0<_;omega) qs).trans U⟩;have HSS:=Hd aE;clear aE aX aC
 go_cut [5,6]from 14 to 18 (λs5 s6 W=>He w2 [.string us,.bool H,.bool G,.bool F,.bool v,.int .i64 um] s5 s6 W)
 case first =>
  clear e0 O Q R T U x0 x1
  go_region_held3 (λW=>W.cell? ⟨w.heap.size,0,none⟩=some (.int .i64 (k:Int))/\W.cell? ⟨0,k*6,none⟩=some (.string us)/\W.cell? ⟨0,k*6+1,none⟩=some (.bool H)/\W.cell? ⟨0,k*6+2,none⟩=some (.bool G)/\W.cell? ⟨0,k*6+3,none⟩=some (.bool F)/\W.cell? ⟨0,k*6+4,none⟩=some (.bool v)/\W.cell? ⟨0,k*6+5,none⟩=some (.int .i64 um)) (with_reducible refine HSS.out _ ?_;(repeat(first|exact Fq _ _|exact r|refine Fr.drew ?_|refine Fr.alloc ?_ _|refine Fr.set ?_ (.inr qs) _|refine Fr.setCells ?_ (.inr qs) _ _|refine Fr.then ?_ r|refine Fr.then ?_ r.undrew));done) (first
   | (go_at_call 54;(with_reducible refine(jS ((w2.alloc (.cells #[.string ⟨#[]⟩,.bool false,.bool false,.bool false,.bool false,.int .i64 0] 216)).drew)).mono ?_);rintro e Z ⟨rfl,L,r⟩;have d:=(BoxN.new w2 216 #[.string ⟨#[]⟩,.bool false,.bool false,.bool false,.bool false,.int .i64 0]).drew.fr r qs;have g0:=d.f 0;have g1:=d.f 1;have g2:=d.f 2;have g3:=d.f 3;have g4:=d.f 4;have g5:=d.f 5;have d0:=d.c 0;have d1:=d.c 1;have d2:=d.c 2;have d3:=d.c 3;have d4:=d.c 4;have d5:=d.c 5;simp only[List.getElem?_toArray,List.getElem?_cons_zero,List.getElem?_cons_succ]at d0 d1 d2 d3 d4 d5)
   | (go_at_call 54;(with_reducible refine(jS _).mono ?_);rintro e Z ⟨rfl,L,r⟩))
  ·go_wp2
   go_meet
   have hl:=L.lt;have hs:=r.size;exact⟨_,_,rfl,rfl,WrS.new (L.fr ((Fq [] Z).alloc _) qs qs),BoxN.new Z _ _,Nat.ne_of_gt hl,hs,fW _,r.undrew.alloc _⟩
  ·go_wp2
   go_meet
   have e:((w2.alloc (.cells #[S0,.bool false,.bool false,.bool false,.bool false,L0] 216)).drew).heap.size=w2.heap.size+1:=jZ ..;rw[e]at L;exact⟨_,_,rfl,rfl,WrS.new (L.fr (S:=[w2.heap.size]) ((((((Fq _ Z).st _).st _).st _).st _).st _ |>.st _) qs (by simp[eX])),((((((d.setAt 0 _).setAt 1 _).setAt 2 _).setAt 3 _).setAt 4 _).setAt 5 _),qo,fW _,qo,(((((((((Fq [] w2).alloc _).drew).then r).set (.inr (fW _)) _).set (.inr (fW _)) _).set (.inr (fW _)) _).set (.inr (fW _)) _).set (.inr (fW _)) _).set (.inr (fW _)) _⟩
 case rest =>
 obtain⟨P,b,rfl,rfl,a,az,K,hP,hb,af⟩:=hcut;have⟨w4,a3⟩:=eR (wc);rw[a3]at a az af ⊢;have aK:=Hd (aJ.then af);have a5:=M.lt;have J:=Hd (M.fr af qs);have N:=Hd az;have V:w.heap.size≠b:=qo
 have a6:=K;have a4:w.heap.size<=b:=qo
 have n0:=J.k0
 go_upto_region 6 with((go_at_call 57;(with_reducible refine(pF a k qo qs).mono ?_);rintro e w5 ⟨rfl,a⟩))
 have aR:(([]:Nm)++gd k).length<=9:=by simpa using fJ (u:=k) qo
 have⟨aa,au⟩:=eR (([]:Nm)++gd k);rw[au]at a aR;have⟨aD,aA,aZ⟩:=aq.out;have ah:=an.out
 have aT:(aa++(if H then iX D else [])).length<=20000000:=by
  have:=iG (s:=D) qo;rw[gu];split
  ·omega
  ·simp;omega
 have i:=Hd a;have y:=J.fr a.fr (by simpa using V);have z:=N.fr a.fr (by simpa using K);have⟨n1,n2,n3,n4⟩:=ik y;have⟨v1,v2,v3,v4⟩:=jv z
 go_upto_if 24 with fail
 go_cut [4]from 24 to 28 (λE W=>E=L0/\WrS w4 b (aa++(if H then iX D else [])) W)
 case first =>
  cases g:H with
  | false =>
   go_wp2
   go_meet
   exact⟨rfl,by rw[g];simpa using i.out⟩
  | true =>
   go_wp2_with (((go_at_call 56;have j:=Ab i.out D qo qo;rw[aN.out]at j;(with_reducible refine j.mono ?_);rintro e w6 ⟨rfl,a⟩)))
   go_meet
   exact⟨rfl,by rw[g];simpa using a⟩
 case rest =>
 obtain⟨rfl,a⟩:=hcut;have⟨w5,C⟩:=eR (wc);rw[C]at a ⊢;have⟨ab,av⟩:=eR (aa++(if H then iX D else []));rw[av]at a aT
 have aU:(ab++(if G then gd o.toNat else [])).length<=20000010:=by
  rw[gu];split
  ·rename_i h
   have:=aD h;simp only[fM,decide_eq_true_eq]at this;have:=fJ (u:=o.toNat) qo;omega
  ·simp;omega
 have i:=Hd a;have y:=J.fr a.fr (by simpa using V);have z:=N.fr a.fr (by simpa using K);have⟨n1,n2,n3,n4⟩:=ik y;have⟨v1,v2,v3,v4⟩:=jv z
 go_upto_if 30 with fail
 go_cut [4]from 30 to 34 (λE W=>E=L0/\WrS w4 b (ab++(if G then gd o.toNat else [])) W)
 case first =>
  cases g:G with
  | false =>
   go_wp2
   go_meet
   exact⟨rfl,by rw[g];simpa using i.out⟩
  | true =>
   go_wp2_with (((go_at_call 57;have hW:=aD g;simp only[fM,decide_eq_true_eq]at hW;have j:=pF i.out o.toNat qo qo;rw[show ((o.toNat:Nat):Int)=o by omega]at j;(with_reducible refine j.mono ?_);rintro e w6 ⟨rfl,a⟩)))
   go_meet
   exact⟨rfl,by rw[g];simpa using a⟩
 case rest =>
 obtain⟨rfl,a⟩:=hcut;have⟨w5,C⟩:=eR (wc);rw[C]at a ⊢;have⟨ac,aw⟩:=eR (ab++(if G then gd o.toNat else []));rw[aw]at a aU
 have aV:(ac++(if F then gd m.toNat else [])).length<=20000020:=by
  rw[gu];split
  ·rename_i h
   have:=aA h;simp only[fM,decide_eq_true_eq]at this;have:=fJ (u:=m.toNat) qo;omega
  ·simp;omega
 have i:=Hd a;have y:=J.fr a.fr (by simpa using V);have z:=N.fr a.fr (by simpa using K);have⟨n1,n2,n3,n4⟩:=ik y;have⟨v1,v2,v3,v4⟩:=jv z
 go_upto_if 36 with fail
 go_cut [4]from 36 to 40 (λE W=>E=L0/\WrS w4 b (ac++(if F then gd m.toNat else [])) W)
 case first =>
  cases g:F with
  | false =>
   go_wp2
   go_meet
   exact⟨rfl,by rw[g];simpa using i.out⟩
  | true =>
   go_wp2_with (((go_at_call 57;have hW:=aA g;simp only[fM,decide_eq_true_eq]at hW;have j:=pF i.out m.toNat qo qo;rw[show ((m.toNat:Nat):Int)=m by omega]at j;(with_reducible refine j.mono ?_);rintro e w6 ⟨rfl,a⟩)))
   go_meet
   exact⟨rfl,by rw[g];simpa using a⟩
 case rest =>
 obtain⟨rfl,a⟩:=hcut;have⟨w5,C⟩:=eR (wc);rw[C]at a ⊢;have⟨ad,ax⟩:=eR (ac++(if F then gd m.toNat else []));rw[ax]at a aV
 have aH:v=true->t.length<=32:=λh=>by
  have:=aZ h;simp only[jG,Bool.and_eq_true,decide_eq_true_eq]at this;exact this.1.2
 have aW:(ad++(if v then iX t else [])).length<=20000100:=by
  rw[gu];split
  ·rename_i h
   have:=aH h;have:=iG (s:=t) qo;omega
  ·simp;omega
 have i:=Hd a;have y:=J.fr a.fr (by simpa using V);have z:=N.fr a.fr (by simpa using K);have⟨n1,n2,n3,n4⟩:=ik y;have⟨v1,v2,v3,v4⟩:=jv z
 go_upto_if 42 with fail
 go_cut [4]from 42 to 46 (λE W=>E=L0/\WrS w4 b (ad++(if v then iX t else [])) W)
 case first =>
  cases g:v with
  | false =>
   go_wp2
   go_meet
   exact⟨rfl,by rw[g];simpa using i.out⟩
  | true =>
   go_wp2_with (((go_at_call 56;have hW:=aH g;have j:=Ab i.out t qo qo;rw[aO.out]at j;(with_reducible refine j.mono ?_);rintro e w6 ⟨rfl,a⟩)))
   go_meet
   exact⟨rfl,by rw[g];simpa using a⟩
 case rest =>
 obtain⟨rfl,a⟩:=hcut;have⟨w5,C⟩:=eR (wc);rw[C]at a ⊢;have⟨aQ,ay⟩:=eR (ad++(if v then iX t else []));rw[ay]at a aW
 have B:aQ=q:=by
  rw[<-HQ.out,<-ay,<-ax,<-aw,<-av,<-au];simp
 subst B;have aL:=Hd (aK.trans a.fr (λx hx=>by rw[ip]at hx;subst hx;exact .inr a4))
 go_wp2_with ((go_at_call 58;(with_reducible refine(sD a qo).mono ?_);rintro e w6 ⟨A',c',rfl,aY,aS,_⟩;have a7:=eZ aY.row 49 5 underlying49 underlying5 9 underlying9 c';have aM:=Hd (aL.then aS)))
 go_ret2
 exact⟨rfl,aM.out⟩
def RdS(c0 c1 b:Nat)(r:RS)(w:World):Prop:=∃A,RdAt w b A r/\c0<=b/\b<c1/\((∀k∈eX A,c0<=k/\k<c1) \/ r.l=[])
section
variable {S:List Nat} {w w':World} {c0 c1 b:Nat} {r r':RS} {e:Ending} {v:Value}
def RdS.fr(m:RdS c0 c1 b r w)(l:Fr S w w')(i:∀k∈S,k<c0 \/ c1<=k):RdS c0 c1 b r w':=by
 obtain⟨A,f,g,h,a⟩:=m;have j:b ∉ S:=λd=>by have:=i b d;omega
 rcases a with a|a
 ·exact⟨A,f.fr l j (λk n d=>by have:=i k d;have:=a k n;omega),g,h,.inl a⟩
 ·refine⟨A,?_,g,h,.inr a⟩
  obtain⟨c,o,p,s,q⟩:=f;refine⟨c,o.fr l j,p,?_,q⟩;rw[a];exact Row.nil_
def RdS.fr0(h:RdS c0 c1 b r w)(a:Fr [] w w'):RdS c0 c1 b r w':=h.fr a qs
def RdS.step{A:Option Addr}(c:c0<=b)(d:b<c1)(a:(∀k∈eX A,c0<=k/\k<c1) \/ r.l=[])(g:r.l=[]->r'.l=[])(h:RdPost w b A v r' e w'):e=.returned v/\RdS c0 c1 b r' w'/\Fr [b] w w':=by
 obtain⟨rfl,A',i,j,m⟩:=h;refine⟨rfl,⟨A',i,c,d,?_⟩,j⟩
 rcases a with a|a
 ·exact .inl λk f=>a k (m k f)
 ·exact .inr (g a)
def pG{α:Type}{z:α}{r:RS}{x:α × Nat × Int}(h:r.l=[]):(ji z r x).2.l=[]:=by
 unfold ji;split
 ·exact h
 ·split
  ·exact h
  ·rw[h];simp
def jM(h:RdS c0 c1 b r w)(m:Nat):Calls prog 50 #[.pointer (some ⟨b,0,none⟩),.int .i64 (m:Int)] w λe w'=>e=.returned (.int .i64 (fe m r).1)/\RdS c0 c1 b (fe m r).2 w'/\Fr [b] w w':=by
 obtain⟨A,a,c,d,f⟩:=h;exact(BQ b m A r w a).mono λe w' g=>RdS.step c d f pG g
def oI(h:RdS c0 c1 b r w)(m:Nat):Calls prog 49 #[.pointer (some ⟨b,0,none⟩),.int .i64 (m:Int)] w λe w'=>e=.returned (fg (fU m r).1)/\RdS c0 c1 b (fU m r).2 w'/\Fr [b] w w':=by
 obtain⟨A,a,c,d,f⟩:=h;exact(FI b m A r w a).mono λe w' g=>RdS.step c d f pG g
def Fz(h:RdS c0 c1 b r w):Calls prog 217 #[.pointer (some ⟨b,0,none⟩)] w λe w'=>e=.returned (.bool (jb r).1)/\RdS c0 c1 b (jb r).2 w'/\Fr [b] w w':=by
 obtain⟨A,a,c,d,f⟩:=h;exact(FJ b A r w a).mono λe w' g=>RdS.step c d f pG g
def FA(h:RdS c0 c1 b r w):Calls prog 216 #[.pointer (some ⟨b,0,none⟩)] w λe w'=>e=.returned (.int .i64 (r.l.length:Int))/\w=w':=by
 obtain⟨A,a,_⟩:=h;exact FK b A r w a
def wT(h:RdS c0 c1 b r w):Calls prog 52 #[.pointer (some ⟨b,0,none⟩)] w λe w'=>e=.returned (.int .i64 (jD r))/\w=w':=by
 obtain⟨A,a,_⟩:=h;exact Eb b A r w a
def oJ(A:Option Addr)(n c B:Nat)(l:Nm)(w:World)(p:Row w B 1 A n (eO l))(q:∀a,A=some a->a.spot=none)(o:n<=70368744177664):Calls prog 47 #[.slice A n c] w λe w'=>∃b,e=.returned (.pointer (some ⟨b,0,none⟩))/\RdS w.heap.size w'.heap.size b ⟨l,0,0⟩ w'/\Fr [] w w':=by
 refine(tl A n c B l w p q o).mono ?_;rintro e w' ⟨b,A',rfl,d,i,j,m⟩;refine⟨b,rfl,⟨A',d,j,d.lt,?_⟩,i⟩;obtain⟨c',_,_,s,_⟩:=d
 by_cases g:l=[]
 ·exact .inr g
 ·left
  intro k f;refine⟨m k f,?_⟩;obtain⟨h,off,rfl,t,_⟩:=s.2 (length_pos_iff.2 g);have:k=h:=by simpa [eX]using f
  omega
end
def Ac(s:ByteArray)(w:World):∃e w',(convert 9 49 (.string s)).run prog w=.ok (.slice (some ⟨w.heap.size,0,none⟩) s.size e) w'/\Fr [] w w'/\Row w' w'.heap.size 1 (some ⟨w.heap.size,0,none⟩) s.size (eO s.data.toList):=by
 refine⟨_,_,Lib.run_convert_string_bytes w 9 49 5 s underlying9 underlying49 underlying5,?_,?_⟩
 ·exact⟨rfl,rfl,rfl,by rw[Lib.bytesWorld_size];omega,λk f _=>Lib.bytesWorld_at_old w _ s k f⟩
 ·refine⟨by rw[eP,<-iS];omega,λ_=>⟨_,0,rfl,by rw[Lib.bytesWorld_size];omega,λj u d=>?_⟩⟩
  have a:j<s.size:=by
   have:=(gV.1 d).1;rw[eP,<-iS]at this;exact this
  rw[Nat.zero_add];refine(Lib.bytesWorld_cell w _ s j a).trans ?_;rw[<-d];unfold eO;have c:j<s.data.toList.length:=by rw[<-iS];exact a
  rw[List.getElem?_map,gg c,getD_eq_getElem?_getD,gg c];rfl
def FB(m:Nat)(l:Nm)(h:(mT m l).2.2=0):0<=(mT m l).1/\(mT m l).1<=(m:Int):=by
 unfold mT at h ⊢;simp only at h ⊢;split at h
 ·simp at h
 ·rename_i c
  refine⟨qo,?_⟩;have:¬m<(ft l).1:=λa=>c ⟨h,a⟩;omega
def oK(m:Nat)(r:RS):0<=(fe m r).1/\(fe m r).1<=(m:Int):=by
 unfold fe ji;split
 ·simp
 ·split
  ·simp
  ·rename_i h
   exact FB m r.l (by simpa using h)
def jq(m:Nat)(r:RS):(fU m r).1.length<=16777216:=by
 unfold fU ji;split
 ·simp
 ·split
  ·simp
  ·unfold jV
   split
   ·simp
   ·split
    ·simp
    ·split
     ·simp
     ·rename_i h _
      have:=length_take_le (ft r.l).1 (r.l.drop (ft r.l).2.1);simp only[not_or]at h
      show ((r.l.drop (ft r.l).2.1).take (ft r.l).1).length<=_
      omega
def FC(u:Usage)(k:Int)(a:RS):ON × RS :=
 let o:=if u.owner then fU 16777216 a else([],a)
 let n:=if u.number then fe 1073741824 o.2 else(0,o.2)
 let i:=if u.index then fe u.most.toNat n.2 else(0,n.2)
 let t:=if u.text then fU 32 i.2 else([],i.2)
 (⟨k,o.1,n.1,i.1,t.1⟩,t.2)
def yQ(s:Nm):ON × RS:=FC (us (fe 20 ⟨s,0,0⟩).1.toNat) (fe 20 ⟨s,0,0⟩).1 (fe 20 ⟨s,0,0⟩).2
def Hw:ON:=⟨0,[],0,0,[]⟩
def mR(s:Nm):ON × Int:=if jD (yQ s).2≠0 \/ eY (yQ s).1≠0 then(Hw,3)else((yQ s).1,0)
def zC:Array Value:=#[.int .i64 0,.string ⟨#[]⟩,.int .i64 0,.int .i64 0,.string ⟨#[]⟩]
structure DSt(w:World)(c0 c1 b D U:Nat)(uc:Array Value)(nm:ON)(r:RS)(W:World):Prop where
 rd:RdS c0 c1 b r W
 nmb:BoxN W D 31 nm.cells.toArray
 ub:BoxN W U 216 uc
 zb:BoxN W w.heap.size 31 zC
 fr:Fr [] w W
 h0:w.heap.size<c0
 h1:c1<=D
 h2:D<U
section
variable {w W W':World} {c0 c1 b D U:Nat} {uc:Array Value} {nm nm':ON} {r r':RS}
def DSt.bb(h:DSt w c0 c1 b D U uc nm r W):c0<=b/\b<c1:=by have⟨A,_,a,c,_⟩:=h.rd;exact⟨a,c⟩
def DSt.called(h:DSt w c0 c1 b D U uc nm r W)(e:RdS c0 c1 b r' W')(a:Fr [b] W W'):DSt w c0 c1 b D U uc nm r' W':=by
 have f:=h.bb;have e0:=h.h0;have c:=h.h1;have d:=h.h2;exact⟨e,h.nmb.fr a (by simp;omega),h.ub.fr a (by simp;omega),h.zb.fr a (by simp;omega),h.fr.trans a (by simp;omega),e0,c,d⟩
def DSt.quiet(h:DSt w c0 c1 b D U uc nm r W)(a:Fr [] W W'):DSt w c0 c1 b D U uc nm r W' :=
 ⟨h.rd.fr0 a,h.nmb.fr a qs,h.ub.fr a qs,h.zb.fr a qs,h.fr.then a,h.h0,h.h1,h.h2⟩
def DSt.set(h:DSt w c0 c1 b D U uc nm r W)(j:Nat)(v:Value)(e:nm.cells.toArray.setIfInBounds j v=nm'.cells.toArray):DSt w c0 c1 b D U uc nm' r (W.setCell ⟨D,j,none⟩ v):=by
 have f:=h.bb;have e0:=h.h0;have c:=h.h1;have d:=h.h2;have a:Fr [D] W (W.setCell ⟨D,j,none⟩ v):=(Fq [D] W).st _;refine⟨h.rd.fr a (by simp;omega),?_,h.ub.fr a (by simp;omega),h.zb.fr a (by simp;omega),h.fr.set (.inr (by show _<=D;omega)) _,e0,c,d⟩;rw[<-e];exact h.nmb.setAt j v
end
def FD(w:World)(p:ON × Int)(e:Ending)(w':World):Prop:=e=.returned (.tuple #[fu p.1,.int .i64 p.2])/\Fr [] w w'
def pZ(s:ByteArray)(w:World)(aH:Ok w)(hs:s.size<=70368744177664):Calls prog 48 #[.string s] w (FD w (mR s.data.toList)):=by
 have⟨q,hq⟩:=eR (mR s.data.toList);rw[hq];unfold mR yQ at hq;have⟨w1,bc,aN,a4⟩:=kJ w (zC) 31;have⟨aV,w2,bh,aj,a7⟩:=Ac s w1;have aM:w.heap.size<w2.heap.size:=by have:=aN.lt;have:=aj.size;omega
 have aY:=oJ _ s.size aV _ _ w2 a7 (by rintro a h;injection h with h;rw[<-h]) hs;have HZ:=Hd (aN.fr aj qs);have HF:=Hd (a4.then aj);have HN:=Hd aY;have aA:=Hd bc;have z:=Hd hq;unfold zC at aA
 go_enter func48,ntmps48
 go_upto_region 1 with fail
 rw[aA.out]
 go_upto_region 2 with((go_at_call 47;(with_reducible refine HN.out.mono ?_);rintro e w3 ⟨b,rfl,p,aF⟩))
 have⟨c0,aC⟩:=eR (w2.heap.size);have⟨c1,aD⟩:=eR (w3.heap.size);rw[aC,aD]at p;rw[aC]at aM;have bg:c0<=b/\b<c1:=by obtain⟨bf,_,Y,Z,_⟩:=p;exact⟨Y,Z⟩
 have aT:=Hd (HZ.fr aF qs);have aO:=Hd (HF.then aF);have l:=jM p 20;rw[show ((20:Nat):Int)=20 from rfl]at l;have hk:=oK 20 ⟨s.data.toList,0,0⟩;have⟨R1,aZ⟩:=eR (fe 20 ⟨s.data.toList,0,0⟩);rw[aZ]at l hk z;obtain⟨kI,r1⟩:=R1;simp only at l hk z;obtain⟨k,rfl⟩:∃k:Nat,kI=(k:Int):=⟨kI.toNat,qo⟩;have HT:=Hd l
 go_upto_region 3 with((go_at_call 50;(with_reducible refine HT.out.mono ?_);rintro e V ⟨rfl,p,ak⟩))
 have am:k<21:=qo
 have bi:(k:Int)<21:=qo
 have a5:=aO.trans ak (by simp;omega);have bd:=aT.fr ak (by simp;omega);have aE:c1<=V.heap.size:=by rw[<-aD];exact ak.size
 have⟨M,au⟩:=eR (V.alloc (.cells #[k,S0,L0,L0,S0] 31));rw[au];have ap:BoxN M V.heap.size 31 #[k,S0,L0,L0,S0]:=by rw[<-au];exact BoxN.new V _ _
 have al:Fr [] V M:=by rw[<-au];exact(Fq [] V).alloc _
 have aG:=a5.then al;have a9:=p.fr0 al;have be:=bd.fr al qs;have⟨D,hD⟩:=eR (V.heap.size);rw[hD]at aE ap ⊢;have⟨e0,e1,e2,e3,e4,e5⟩:=rU (aH.fr0 aG) am;have an:=mO am
 have ao:0<=(us k).most:=by
  have:∀y:Fin 21,0<=(us y.val).most:=qd
  exact this ⟨k,am⟩
 rw[show ((k:Nat):Int).toNat=k from rfl]at z;have⟨u,hu⟩:=eR (us k);rw[hu]at e0 e1 e2 e3 e4 e5 z an ao;obtain⟨uw,K,J,I,L,o⟩:=u;simp only at e0 e1 e2 e3 e4 e5 an ao;have⟨us,bb,_,_⟩:=eS uw;rw[bb]at e0;have x0:=ap.k0;have ax:=Hd ap;have aP:=Hd aG;have aR:=Hd a9;have aU:=Hd be;have HM:=Hd (An an ao)
 go_upto_region 4 with fail
 have⟨H,B⟩:=eR (M.alloc (.cells #[us,.bool K,.bool J,.bool I,.bool L,o] 216));rw[B];have ad:Fr [] M H:=by rw[<-B];exact(Fq [] M).alloc _
 have i:DSt w c0 c1 b D M.heap.size #[us,.bool K,.bool J,.bool I,.bool L,o] ⟨(k:Int),[],0,0,[]⟩ r1 H :=
  ⟨aR.fr0 ad,ax.fr ad qs,by rw[<-B];exact BoxN.new M _ _,aU.fr ad qs,aP.then ad,aM,aE,ax.lt⟩
 have⟨U,hU⟩:=eR (M.heap.size);rw[hU]at i ⊢;have R:=z.out;unfold FC at R;simp only at R;have⟨n,aI⟩:=eR ((if K=true then fU 16777216 r1 else([],r1)));rw[aI]at R;have⟨p2,aJ⟩:=eR ((if J=true then fe 1073741824 n.2 else(0,n.2)));rw[aJ]at R;have⟨t,aK⟩:=eR ((if I=true then fe o.toNat p2.2 else(0,p2.2)));rw[aK]at R;have⟨G,aL⟩:=eR ((if L=true then fU 32 t.2 else([],t.2)));rw[aL]at R;have z:=Hd R;have ah:=Hd aI;have ay:=Hd aJ;have az:=Hd aK;have ai:=Hd aL;have ba:((o.toNat:Nat):Int)=o:=by have:=HM.2;omega
 have j:=Hd i;have⟨v1,v2,v3,v4⟩:=jv i.ub
 go_upto_if 18 with fail
 go_cut [3]from 16 to 21 (λT W=>T=L0/\DSt w c0 c1 b D U #[us,.bool K,.bool J,.bool I,.bool L,o] ⟨(k:Int),n.1,0,0,[]⟩ n.2 W)
 case first =>
  cases A:K with
  | false =>
   go_wp2
   go_meet
   have e:([],r1)=n:=by have h:=ah.out;rw[A]at h;exact h
   exact⟨rfl,by rw[<-e];exact j.out⟩
  | true =>
   go_wp2_with (go_at_call 49;have l:=oI j.rd 16777216;have⟨av,S,_,_⟩:=eS (fU 16777216 r1).1;rw[S,show (((16777216:Nat)):Int)=16777216 from rfl]at l;(with_reducible refine l.mono ?_);rintro e E ⟨rfl,p,m⟩;have g:=j.called p m;have F:=λnm' Q=>g.set (nm':=nm') 1 av Q;rw[<-S]at F;have P:=g.nmb.c 1;have df:=g.nmb.f 1;simp only[ON.cells,List.getElem?_toArray,List.getElem?_cons_zero,List.getElem?_cons_succ]at P;have x:=Hd F;have O:=Hd S)
   go_meet
   have e:fU 16777216 r1=n:=by have h:=ah.out;rw[A]at h;exact h
   refine⟨rfl,?_⟩;rw[<-e]
   first
   | (rw[<-O.out];exact x.out _ rfl)
   | exact x.out _ rfl
 case rest =>
 obtain⟨rfl,i⟩:=hcut;have⟨H,B⟩:=eR (wc);rw[B]at i ⊢;have j:=Hd i;have⟨v1,v2,v3,v4⟩:=jv i.ub
 go_upto_if 23 with fail
 go_cut [3]from 23 to 26 (λT W=>T=L0/\DSt w c0 c1 b D U #[us,.bool K,.bool J,.bool I,.bool L,o] ⟨(k:Int),n.1,p2.1,0,[]⟩ p2.2 W)
 case first =>
  cases A:J with
  | false =>
   go_wp2
   go_meet
   have e:(0,n.2)=p2:=by have h:=ay.out;rw[A]at h;exact h
   exact⟨rfl,by rw[<-e];exact j.out⟩
  | true =>
   go_wp2_with (go_at_call 50;have l:=jM j.rd 1073741824;rw[show (((1073741824:Nat)):Int)=1073741824 from rfl]at l;(with_reducible refine l.mono ?_);rintro e E ⟨rfl,p,m⟩;have g:=j.called p m;have F:=λnm' Q=>g.set (nm':=nm') 2 ((fe 1073741824 n.2).1) Q;have P:=g.nmb.c 2;have df:=g.nmb.f 2;simp only[ON.cells,List.getElem?_toArray,List.getElem?_cons_zero,List.getElem?_cons_succ]at P;have x:=Hd F;have O:=Hd (rfl:(0:Nat)=0))
   go_meet
   have e:fe 1073741824 n.2=p2:=by have h:=ay.out;rw[A]at h;exact h
   refine⟨rfl,?_⟩;rw[<-e]
   first
   | (rw[<-O.out];exact x.out _ rfl)
   | exact x.out _ rfl
 case rest =>
 obtain⟨rfl,i⟩:=hcut;have⟨H,B⟩:=eR (wc);rw[B]at i ⊢;have j:=Hd i;have⟨v1,v2,v3,v4⟩:=jv i.ub;have v5:=i.ub.c 5
 go_upto_if 28 with fail
 go_cut [3]from 28 to 33 (λT W=>T=L0/\DSt w c0 c1 b D U #[us,.bool K,.bool J,.bool I,.bool L,o] ⟨(k:Int),n.1,p2.1,t.1,[]⟩ t.2 W)
 case first =>
  cases A:I with
  | false =>
   go_wp2
   go_meet
   have e:(0,p2.2)=t:=by have h:=az.out;rw[A]at h;exact h
   exact⟨rfl,by rw[<-e];exact j.out⟩
  | true =>
   go_wp2_with (go_at_call 50;have l:=jM j.rd o.toNat;rw[show (((o.toNat:Nat)):Int)=o from ba]at l;(with_reducible refine l.mono ?_);rintro e E ⟨rfl,p,m⟩;have g:=j.called p m;have F:=λnm' Q=>g.set (nm':=nm') 3 ((fe o.toNat p2.2).1) Q;have P:=g.nmb.c 3;have df:=g.nmb.f 3;simp only[ON.cells,List.getElem?_toArray,List.getElem?_cons_zero,List.getElem?_cons_succ]at P;have x:=Hd F;have O:=Hd (rfl:(0:Nat)=0))
   go_meet
   have e:fe o.toNat p2.2=t:=by have h:=az.out;rw[A]at h;exact h
   refine⟨rfl,?_⟩;rw[<-e]
   first
   | (rw[<-O.out];exact x.out _ rfl)
   | exact x.out _ rfl
 case rest =>
 obtain⟨rfl,i⟩:=hcut;have⟨H,B⟩:=eR (wc);rw[B]at i ⊢;have j:=Hd i;have⟨v1,v2,v3,v4⟩:=jv i.ub
 go_upto_if 35 with fail
 go_cut [3]from 35 to 38 (λT W=>T=L0/\DSt w c0 c1 b D U #[us,.bool K,.bool J,.bool I,.bool L,o] ⟨(k:Int),n.1,p2.1,t.1,G.1⟩ G.2 W)
 case first =>
  cases A:L with
  | false =>
   go_wp2
   go_meet
   have e:([],t.2)=G:=by have h:=ai.out;rw[A]at h;exact h
   exact⟨rfl,by rw[<-e];exact j.out⟩
  | true =>
   go_wp2_with (go_at_call 49;have l:=oI j.rd 32;have⟨av,S,_,_⟩:=eS (fU 32 t.2).1;rw[S,show (((32:Nat)):Int)=32 from rfl]at l;(with_reducible refine l.mono ?_);rintro e E ⟨rfl,p,m⟩;have g:=j.called p m;have F:=λnm' Q=>g.set (nm':=nm') 4 av Q;rw[<-S]at F;have P:=g.nmb.c 4;have df:=g.nmb.f 4;simp only[ON.cells,List.getElem?_toArray,List.getElem?_cons_zero,List.getElem?_cons_succ]at P;have x:=Hd F;have O:=Hd S)
   go_meet
   have e:fU 32 t.2=G:=by have h:=ai.out;rw[A]at h;exact h
   refine⟨rfl,?_⟩;rw[<-e]
   first
   | (rw[<-O.out];exact x.out _ rfl)
   | exact x.out _ rfl
 case rest =>
 obtain⟨rfl,i⟩:=hcut;have⟨H,B⟩:=eR (wc);rw[B]at i ⊢
 have bj:n.1.length<=16777216:=by
  rw[<-ah.out];split
  ·exact jq _ _
  ·simp
 have bk:G.1.length<=16777216:=by
  rw[<-ai.out];split
  ·exact jq _ _
  ·simp
 have aa:=ld ⟨(k:Int),n.1,p2.1,t.1,G.1⟩ H (aH.fr0 i.fr) (by show n.1.length<=_;omega) (by show G.1.length<=_;omega);have aB:=wT i.rd;obtain⟨nm,a6⟩:∃nm:ON,(⟨(k:Int),n.1,p2.1,t.1,G.1⟩:ON)=nm:=⟨_,rfl⟩;have⟨r5,a8⟩:=eR (jD G.2);have⟨c5,a3⟩:=eR (eY nm);have ae:=z.out;rw[a6]at aa i ae;rw[a3]at aa ae;rw[a8]at aB ae;obtain⟨nk,no,nn,ni,nt⟩:=nm;have⟨os,aq,_,_⟩:=eS no;have⟨ts,ar,_,_⟩:=eS nt;unfold fu at aa;simp only at aa;rw[aq,ar]at aa;have ac:=i.nmb;unfold ON.cells at ac;simp only at ac;rw[aq,ar]at ac;have⟨d0,d1,d2,d3,d4⟩:=ac.m5;have j:=Hd i;have ag:=Hd aB;have aw:=Hd aa;have af:=Hd ac;have aQ:=Hd aq;have aS:=Hd ar;have z:=Hd ae
 by_cases Y:r5=0
 ·have aW:(r5 != 0)=false:=by simpa using Y
  by_cases Z:c5=0
  ·have aX:(c5 != 0)=false:=by simpa using Z
   have e:=z.out;rw[if_neg (by simp[Y,Z])]at e;subst e
   go_wp2_with (first
    | (go_at_call 52;(with_reducible refine ag.out.mono ?_);rintro e E ⟨rfl,rfl⟩)
    | (go_at_call 53;(with_reducible refine aw.out.mono ?_);rintro e E ⟨rfl,m⟩;((have g:=j.quiet m;have d:=g.zb;have ab:=Hd d;have X:=af.fr m qs;have⟨d1,d2,d3,d4⟩:=ik X;have d0:=X.c 0;have g0:=d.f 0;have g1:=d.f 1;have g2:=d.f 2;have g3:=d.f 3;have g4:=d.f 4;unfold zC at d;have⟨y1,y2,y3,y4⟩:=ik d;have y0:=d.c 0;have H7:=Hd g.fr))))
   have⟨N,C⟩:=eR ((((((E.setCell ⟨w.heap.size,0,none⟩ nk).setCell ⟨w.heap.size,1,none⟩ os).setCell ⟨w.heap.size,2,none⟩ nn).setCell ⟨w.heap.size,3,none⟩ ni).setCell ⟨w.heap.size,4,none⟩ ts));have h8:BoxN N w.heap.size 31 #[nk,os,nn,ni,ts]:=by rw[<-C];exact(((((ab.setAt 0 _).setAt 1 _).setAt 2 _).setAt 3 _).setAt 4 _)
   have f8:Fr [] w N:=by rw[<-C];exact((((H7.set (.inr (fW _)) _).set (.inr (fW _)) _).set (.inr (fW _)) _).set (.inr (fW _)) _).set (.inr (fW _)) _
   rw[C];have F8:=Hd f8;have⟨t0,t1,t2,t3,t4⟩:=h8.m5;exact bodyPost_ret (v:=.tuple #[.agg #[nk,os,nn,ni,ts],L0]) (by simp[results,results48,go_sem,t0,t1,t2,t3,t4]) rfl ⟨by rw[<-aQ.out,<-aS.out];rfl,F8.out⟩
  ·have aX:(c5 != 0)=true:=by simpa using Z
   have e:=z.out;rw[if_pos (.inr Z)]at e;subst e
   go_wp2_with (first
    | (go_at_call 52;(with_reducible refine ag.out.mono ?_);rintro e E ⟨rfl,rfl⟩)
    | (go_at_call 53;(with_reducible refine aw.out.mono ?_);rintro e E ⟨rfl,m⟩;((have g:=j.quiet m;have d:=g.zb;have ab:=Hd d;have X:=af.fr m qs;have⟨d1,d2,d3,d4⟩:=ik X;have g0:=d.f 0;have g1:=d.f 1;have g2:=d.f 2;have g3:=d.f 3;have g4:=d.f 4;unfold zC at d;have⟨y1,y2,y3,y4⟩:=ik d;have y0:=d.c 0;have H7:=Hd g.fr))))
   have⟨N,C⟩:=eR ((((((E.setCell ⟨w.heap.size,0,none⟩ L0).setCell ⟨w.heap.size,1,none⟩ S0).setCell ⟨w.heap.size,2,none⟩ L0).setCell ⟨w.heap.size,3,none⟩ L0).setCell ⟨w.heap.size,4,none⟩ S0));have h8:BoxN N w.heap.size 31 #[L0,S0,L0,L0,S0]:=by rw[<-C];exact(((((ab.setAt 0 _).setAt 1 _).setAt 2 _).setAt 3 _).setAt 4 _)
   have f8:Fr [] w N:=by rw[<-C];exact((((H7.set (.inr (fW _)) _).set (.inr (fW _)) _).set (.inr (fW _)) _).set (.inr (fW _)) _).set (.inr (fW _)) _
   rw[C];have F8:=Hd f8;have⟨t0,t1,t2,t3,t4⟩:=h8.m5;exact bodyPost_ret (v:=.tuple #[.agg #[L0,S0,L0,L0,S0],(3:Int)]) (by simp[results,results48,go_sem,t0,t1,t2,t3,t4]) rfl ⟨rfl,F8.out⟩
 ·have aW:(r5 != 0)=true:=by simpa using Y
  have e:=z.out;rw[if_pos (.inl Y)]at e;subst e;have m:=Fq [] H
  ((have g:=j.quiet m;have d:=g.zb;have ab:=Hd d;have X:=af.fr m qs;have⟨d1,d2,d3,d4⟩:=ik X;have g0:=d.f 0;have g1:=d.f 1;have g2:=d.f 2;have g3:=d.f 3;have g4:=d.f 4;unfold zC at d;have⟨y1,y2,y3,y4⟩:=ik d;have y0:=d.c 0;have H7:=Hd g.fr))
  go_wp2_with ((go_at_call 52;(with_reducible refine ag.out.mono ?_);rintro e E ⟨rfl,rfl⟩))
  have⟨N,C⟩:=eR ((((((H.setCell ⟨w.heap.size,0,none⟩ L0).setCell ⟨w.heap.size,1,none⟩ S0).setCell ⟨w.heap.size,2,none⟩ L0).setCell ⟨w.heap.size,3,none⟩ L0).setCell ⟨w.heap.size,4,none⟩ S0));have h8:BoxN N w.heap.size 31 #[L0,S0,L0,L0,S0]:=by rw[<-C];exact(((((ab.setAt 0 _).setAt 1 _).setAt 2 _).setAt 3 _).setAt 4 _)
  have f8:Fr [] w N:=by rw[<-C];exact((((H7.set (.inr (fW _)) _).set (.inr (fW _)) _).set (.inr (fW _)) _).set (.inr (fW _)) _).set (.inr (fW _)) _
  rw[C];have F8:=Hd f8;have⟨t0,t1,t2,t3,t4⟩:=h8.m5;exact bodyPost_ret (v:=.tuple #[.agg #[L0,S0,L0,L0,S0],(3:Int)]) (by simp[results,results48,go_sem,t0,t1,t2,t3,t4]) rfl ⟨rfl,F8.out⟩
end Go.Proofs.YtlpmiimgacfmkaaGreatDoor
