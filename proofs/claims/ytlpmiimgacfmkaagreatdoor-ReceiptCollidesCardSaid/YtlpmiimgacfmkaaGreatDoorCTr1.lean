/- Part of the proof. -/
import Derived.Test.YtlpmiimgacfmkaaGreatDoorCOb3
set_option linter.all false
set_option maxHeartbeats 4000000
set_option maxRecDepth 100000
namespace Go.Proofs.YtlpmiimgacfmkaaGreatDoor
open Go.Proofs.Tryz List
open Go.RowKit
def fb(n:Nat):Nat:=2 ^ (Lib.bitLen (n - 1) - 1)
def oQ:∀(f x:Nat),Lib.bitLenAux f x<=f
 | 0,x=>by simp[Lib.bitLenAux]
 | f+1,x=>by
  unfold Lib.bitLenAux;split
  ·omega
  ·have:=oQ f (x / 2);omega
def Cd{k x:Nat}(h:x<2 ^ k)(a:k<=64):Lib.bitLen x<=k:=by
 unfold Lib.bitLen;rw[Lib.bitLenAux_fuel k x h 64 a];exact oQ k x
def g9(n:Nat)(h:2<=n)(i:n<=1048576)(w:World):Calls prog 171 #[.int .i64 (n:Int)] w λe w'=>e=.returned (.int .i64 (fb n:Nat))/\w'=w:=by
 have l:IntKind.i64.wrap ((n:Int) - 1)=((n - 1:Nat):Int):=by simp only[IntKind.wrap_i64];omega
 have j:1<=Lib.bitLen (n - 1):=by rw[Lib.bitLen_half (n - 1) qo qo];omega
 have k:Lib.bitLen (n - 1)<=20:=Cd qo qo
 have g:wrap64 (2 ^ (Lib.bitLen (n - 1) - 1))=((fb n:Nat):Int):=by
  unfold fb;have d:(2:Nat) ^ (Lib.bitLen (n - 1) - 1)<=2 ^ 19:=Nat.pow_le_pow_right qo qo;have f:((2:Int) ^ (Lib.bitLen (n - 1) - 1))=((2 ^ (Lib.bitLen (n - 1) - 1):Nat):Int):=qs
  rw[f];generalize (2:Nat) ^ (Lib.bitLen (n - 1) - 1)=z at d ⊢;simp only[wrap64];omega
 have c:=Hd g;have a:=Tryz.bits_Len ((n - 1:Nat):Int) w qo qo;rw[show (((n - 1:Nat):Int)).toNat=n - 1 from rfl]at a;have b:=Hd a
 go_enter func171,ntmps171
 go_wp2_with ((go_at_call 172;(with_reducible refine b.out.mono ?_);rintro e m ⟨rfl,rfl⟩))
 go_ret
 exact⟨by rw[<-c.out];rfl,rfl⟩
def xw(w:World):Calls prog 87 #[] w λe w'=>e=.returned (.pointer (some ⟨w.heap.size,0,none⟩))/\BoxN w' w.heap.size 237 #[.slice none 0 0,.map none]/\Fr [] w w':=by
 go_enter func87,ntmps87
 go_wp2
 go_ret
 exact⟨rfl,BoxN.new w _ _,(Fq [] w).alloc _⟩
structure KY where
 rnd:Int
 phase:Int
 idx:Int
 lin:Nm
def lU(k:KY):Value:=.agg #[.int .i64 k.rnd,.int .i64 k.phase,.int .i64 k.idx,fg k.lin]
def pL(a b:KY):Int:=Aa [Lib.compareInt a.rnd b.rnd,Lib.compareInt a.phase b.phase,Lib.compareInt a.idx b.idx,j5 (fT a.lin) (fT b.lin)]
def Ei(w:World)(a b c d:Int)(t:TypeId):Row ((w.alloc (.cells #[.int .i64 a,.int .i64 b,.int .i64 c,.int .i64 d] t))) (w.alloc (.cells #[.int .i64 a,.int .i64 b,.int .i64 c,.int .i64 d] t)).heap.size 1 (some ⟨w.heap.size,0,none⟩) 4 ([a,b,c,d].map vB):=by
 refine⟨qs,λ_=>⟨_,0,rfl,qs,λj u e=>?_⟩⟩;have:=jK w [a,b,c,d] t j u (by simpa [vB]using e);rw[fV]at this;rw[Nat.zero_add];exact this
def lI(a b:KY)(w:World)(x:gF a.lin=true)(y:gF b.lin=true)(X:a.lin.length<=140737488355328)(Y:b.lin.length<=140737488355328):Calls prog 91 #[lU a,lU b] w (jg w (pL a b)):=by
 have⟨r,m⟩:=eR (pL a b);rw[m];unfold pL at m;obtain⟨k,i,j,R⟩:=a;obtain⟨h,f,g,S⟩:=b;unfold lU;simp only at x y X Y m ⊢;have⟨p,O,u,aa⟩:=eS R;have⟨p2,P,v,ab⟩:=eS S;rw[O,P];have⟨z,n⟩:=eR (w.alloc (.cells #[k,i,j,p] 89));have⟨w2,o⟩:=eR (z.alloc (.cells #[h,f,g,p2] 89));have M:Fr [] w w2:=by rw[<-o,<-n];exact((Fq [] w).alloc _).alloc _
 have J:BoxN w2 w.heap.size 89 #[k,i,j,p]:=by rw[<-o,<-n];exact(BoxN.new w _ _).alloc _
 have K:BoxN w2 (w.heap.size+1) 89 #[h,f,g,p2]:=by rw[<-o];have:=BoxN.new z 89 #[h,f,g,p2];rw[show z.heap.size=w.heap.size+1 by rw[<-n,jZ]]at this;exact this
 have t:=λW=>mW p p2 W qo qo (by rw[u];exact x) (by rw[v];exact y);rw[u,v]at t
 have Q:∀W,Fr [] w2 W->W.cell? ⟨w.heap.size,0,none⟩=some k/\W.cell? ⟨w.heap.size+1,0,none⟩=some h/\W.cell? ⟨w.heap.size,1,none⟩=some i/\W.cell? ⟨w.heap.size+1,1,none⟩=some f/\W.cell? ⟨w.heap.size,2,none⟩=some j/\W.cell? ⟨w.heap.size+1,2,none⟩=some g/\W.cell? ⟨w.heap.size,3,none⟩=some p/\W.cell? ⟨w.heap.size+1,3,none⟩=some p2:=λW L =>
  have q:=J.fr L qs;have s:=K.fr L qs
  ⟨q.c 0,s.c 0,q.c 1,s.c 1,q.c 2,s.c 2,q.c 3,s.c 3⟩
 have C:=Hd (λW=>Tryz.cmp_Compare_int k h W);have D:=Hd (λW=>Tryz.cmp_Compare_int i f W);have E:=Hd (λW=>Tryz.cmp_Compare_int j g W);have B:=Hd t;have l:=Hd m;have HSS:=Hd Q;have U:=Hd n;have V:=Hd o;have T:=Hd M;clear m n o M J K t Q x y O P u v aa ab;generalize Lib.compareInt k h=F at C l;generalize Lib.compareInt i f=G at D l;generalize Lib.compareInt j g=H at E l;generalize j5 (fT R) (fT S)=I at B l
 go_enter func91,ntmps91
 go_upto_region 1 with fail
 rw[U.out,V.out];generalize hZ:w.heap.size=d at HSS ⊢
 go_region_held3 (λW=>W.cell? ⟨d,0,none⟩=some k/\W.cell? ⟨d+1,0,none⟩=some h/\W.cell? ⟨d,1,none⟩=some i/\W.cell? ⟨d+1,1,none⟩=some f/\W.cell? ⟨d,2,none⟩=some j/\W.cell? ⟨d+1,2,none⟩=some g/\W.cell? ⟨d,3,none⟩=some p/\W.cell? ⟨d+1,3,none⟩=some p2) (with_reducible refine HSS.out _ ?_;(repeat(first|exact Fq _ _|exact N|refine Fr.drew ?_|refine Fr.alloc ?_ _));done) (first
  | (go_at_call 133;(with_reducible refine(C.out _).mono ?_);rintro e A ⟨rfl,rfl⟩)
  | (go_at_call 133;(with_reducible refine(D.out _).mono ?_);rintro e A ⟨rfl,rfl⟩)
  | (go_at_call 133;(with_reducible refine(E.out _).mono ?_);rintro e A ⟨rfl,rfl⟩)
  | (go_at_call 152;(with_reducible refine(B.out _).mono ?_);rintro e w3 ⟨rfl,Z⟩;have N:=(Fq [] w2).drew.then (Fr.of_below Z))
  | (go_at_call 132;(with_reducible refine(yP _ 4 4 _ [F,G,H,I] _ (Ei _ F G H I _) qo).mono ?_);rintro e A ⟨rfl,rfl⟩))
 all_goals
  go_wp2
  go_ret
  exact⟨by rw[l.out];rfl,by repeat(first|exact T.then N|refine Fr.drew ?_|refine Fr.alloc ?_ _)⟩
def Kp(b:Nat)(w w':World):Prop:=∀Z t cs,t≠5->Z≠b->BoxN w Z t cs->BoxN w' Z t cs
def Kp.trans{b : Nat}{w w' w'' : World}(h : Kp b w w')(k : Kp b w' w''): Kp b w w'' := λZ t cs c d f => k Z t cs c d (h Z t cs c d f)
def Kp.fr0{b:Nat}{w w':World}(h:Fr [] w w'):Kp b w w':=λ_ _ _ _ _ c=>c.fr h qs
def FR{w:World}{A:Option Addr}{n c Z:Nat}{xs:List Value}{t:TypeId}{cs:Array Value}(l:Own w 5 1 A n c xs)(j:BoxN w Z t cs)(m:t≠5):Z ∉ eX A:=by
 intro d
 rcases l.2 with⟨h,_⟩|⟨g,p,q,h,_,k,_⟩
 ·injection h with f _ _
  rw[f]at d;simp[eX]at d
 ·injection h with f _ _
  rw[f]at d;have o:Z=g:=by simpa [eX]using d
  subst o;have e:=j.symm.trans k
  injection e with e
  injection e with _ i _
  exact m i
def WPost.kp{w w':World}{b:Nat}{A:Option Addr}{bs bs':Nm}{e:Ending}(h:WrAt w b A bs)(g:WPost w b A bs' e w'):Kp b w w':=by
 obtain⟨c,_,f,_⟩:=h;obtain⟨_,A',_,k,_⟩:=g;intro Z t cs i j d;exact d.fr k (by rw[mem_cons];rintro (h|h);exact j h;exact FR f d i h)
section
variable {a w w':World} {b:Nat} {A:Option Addr} {bs bs':Nm} {e:Ending}
def kA(i:WrS a b bs w)(n:Nat)(h:n<=9223372036854775807)(j:bs.length<=70368744177600):
 Calls prog 57 #[.pointer (some ⟨b,0,none⟩),.int .i64 (n:Int)] w λe w'=>e=.returned (.tuple #[])/\WrS a b (bs++gd n) w'/\Kp b w w':=by
 obtain⟨A,c,f,g⟩:=i;have:=fJ h;exact(sV w b A bs n c h (by rw[gu];omega)).mono λe w' d=>⟨(WrS.step c f g d).1,(WrS.step c f g d).2,WPost.kp c d⟩
def Aj(h:WrS a b bs w)(v:Bool)(i:bs.length<=70368744177600):
 Calls prog 122 #[.pointer (some ⟨b,0,none⟩),.bool v] w λe w'=>e=.returned (.tuple #[])/\WrS a b (bs++[nf v]) w'/\Kp b w w':=by
 obtain⟨A,c,f,g⟩:=h;exact(xS w b A bs v c qo).mono λe w' d=>⟨(WrS.step c f g d).1,(WrS.step c f g d).2,WPost.kp c d⟩
def oS(h:WrS a b bs w)(s:Nm)(i:s.length<=16777216)(j:bs.length+s.length<=70368744177600):
 Calls prog 56 #[.pointer (some ⟨b,0,none⟩),fg s] w λe w'=>e=.returned (.tuple #[])/\WrS a b (bs++iX s) w'/\Kp b w w':=by
 obtain⟨A,c,f,g⟩:=h;have:=iG (s:=s) qo;exact(xT w b A bs s c i (by rw[gu];omega)).mono λe w' d=>⟨(WrS.step c f g d).1,(WrS.step c f g d).2,WPost.kp c d⟩
end
def lJ(k:KY):Nm:=((gd k.rnd.toNat++gd k.phase.toNat)++gd k.idx.toNat)++iX k.lin
def WrS.blt{a w:World}{b:Nat}{bs:Nm}(h:WrS a b bs w):b<w.heap.size:=by obtain⟨A,c,_⟩:=h;exact c.lt
def WrS.alloc{a w:World}{b:Nat}{bs:Nm}(h:WrS a b bs w)(o:Obj):WrS a b bs (w.alloc o):=h.more ((Fq [] w).alloc _) h.blt
def xy(k:KY)(a w:World)(b:Nat)(bs:Nm)(t:WrS a b bs w)(C:0<=k.rnd/\k.rnd<=9223372036854775807)(f:0<=k.phase/\k.phase<=9223372036854775807)(g:0<=k.idx/\k.idx<=9223372036854775807)(d:k.lin.length<=16777216)(q:bs.length<=70368700000000):
 Calls prog 121 #[lU k,.pointer (some ⟨b,0,none⟩)] w λe w'=>e=.returned (.tuple #[])/\WrS a b (bs++lJ k) w'/\Kp b w w':=by
 obtain⟨n,i,j,o⟩:=k;unfold lU lJ;simp only at C f g d ⊢;have⟨p,y,_,_⟩:=eS o;have ab:=t.blt;have⟨z,r⟩:=eR (w.alloc (.cells #[n,i,j,p] 89));have H:WrS a b bs z:=by rw[<-r];exact t.alloc _
 have v:BoxN z w.heap.size 89 #[n,i,j,p]:=by rw[<-r];exact BoxN.new w _ _
 have D:Kp b w z:=by rw[<-r];exact Kp.fr0 ((Fq [] w).alloc _)
 have x:w.heap.size≠b:=qo
 have h:=fJ (u:=n.toNat) qo;have l:=fJ (u:=i.toNat) qo;have m:=fJ (u:=j.toNat) qo;have x0:=v.k0;have c:=kA H n.toNat qo qo;rw[show ((n.toNat:Nat):Int)=n by omega]at c;have R:=Hd c;have I:=Hd v;have K:=Hd D;have V:=Hd r;have P:=Hd y;have s:=Hd (An h (An l (An m (An f (An g (An d q))))));rw[y];clear c v D r H t C f g d h l m q y
 go_enter func121,ntmps121
 go_upto_region 1 with fail
 rw[V.out]
 go_upto_region 2 with((go_at_call 57;(with_reducible refine R.out.mono ?_);rintro e w2 ⟨rfl,X,E⟩))
 have A:=Hd (E _ _ _ qd x I.out);have L:=Hd (K.trans E);have⟨h,l,m,f,g,d,q⟩:=s.out;have x1:=A.k1;have c:=kA X i.toNat qo (by simp only[gu];omega);rw[show ((i.toNat:Nat):Int)=i by omega]at c;have S:=Hd c
 go_upto_region 3 with((go_at_call 57;(with_reducible refine S.out.mono ?_);rintro e w3 ⟨rfl,Y,F⟩))
 have B:=Hd (F _ _ _ qd x A.out);have M:=Hd (L.trans F);have⟨h,l,m,f,g,d,q⟩:=s.out;have x2:=B.k2;have c:=kA Y j.toNat qo (by simp only[gu];omega);rw[show ((j.toNat:Nat):Int)=j by omega]at c;have T:=Hd c
 go_upto_region 4 with((go_at_call 57;(with_reducible refine T.out.mono ?_);rintro e w4 ⟨rfl,Z,G⟩))
 have J:=Hd (G _ _ _ qd x B.out);have N:=Hd (M.trans G);have⟨h,l,m,f,g,d,q⟩:=s.out;have x3:=J.k3;have c:=oS Z o d (by simp only[gu];omega);rw[P.out]at c;have U:=Hd c
 go_wp2_with ((go_at_call 56;(with_reducible refine U.out.mono ?_);rintro e w5 ⟨rfl,aa,W⟩;have Q:=Hd aa;have O:=Hd (N.trans W)))
 go_end0
 exact⟨rfl,by have:=Q.out;simpa only[append_assoc]using this,O.out⟩
def lR(r:RS):KY × RS :=
 let n:=fe 1073741824 r
 let i:=fe 2 n.2
 let j:=fe 999999 i.2
 let o:=fU 16777216 j.2
 (⟨n.1,i.1,j.1,o.1⟩,o.2)
structure KSt(w:World)(c0 c1 b D:Nat)(cs:Array Value)(r:RS)(W:World):Prop where
 rd:RdS c0 c1 b r W
 kb:BoxN W D 89 cs
 zb:BoxN W w.heap.size 89 #[.int .i64 0,.int .i64 0,.int .i64 0,.string ⟨#[]⟩]
 fr:Fr [b] w W
 h1:c1<=w.heap.size
 h2:w.heap.size<D
section
variable {w W W':World} {c0 c1 b D:Nat} {cs cs':Array Value} {r r':RS}
def KSt.bb(h:KSt w c0 c1 b D cs r W):c0<=b/\b<c1:=by have⟨A,_,a,c,_⟩:=h.rd;exact⟨a,c⟩
def KSt.called(h:KSt w c0 c1 b D cs r W)(e:RdS c0 c1 b r' W')(a:Fr [b] W W'):KSt w c0 c1 b D cs r' W':=by
 have f:=h.bb;have c:=h.h1;have d:=h.h2;exact⟨e,h.kb.fr a (by simp;omega),h.zb.fr a (by simp;omega),h.fr.then a,c,d⟩
def KSt.set(h:KSt w c0 c1 b D cs r W)(j:Nat)(v:Value)(e:cs.setIfInBounds j v=cs'):KSt w c0 c1 b D cs' r (W.setCell ⟨D,j,none⟩ v):=by
 have c:=h.h1;have d:=h.h2;have a:Fr [D] W (W.setCell ⟨D,j,none⟩ v):=(Fq [D] W).st _;refine⟨h.rd.fr a (by simp;omega),?_,h.zb.fr a (by simp;omega),h.fr.set (.inr (by show _<=D;omega)) _,c,d⟩;rw[<-e];exact h.kb.setAt j v
end
def zj(c0 c1 b:Nat)(r:RS)(w:World)(B:RdS c0 c1 b r w)(T:c1<=w.heap.size):
 Calls prog 176 #[.pointer (some ⟨b,0,none⟩)] w λe w'=>e=.returned (lU (lR r).1)/\RdS c0 c1 b (lR r).2 w'/\Fr [b] w w':=by
 unfold lR lU;simp only;have⟨p,F,_,_⟩:=eS (fU 16777216 (fe 999999 (fe 2 (fe 1073741824 r).2).2).2).1;rw[F];have L:=Hd F;have⟨z,n⟩:=eR (w.alloc (.cells #[L0,L0,L0,S0] 89));have⟨w2,o⟩:=eR (z.alloc (.cells #[L0,L0,L0,S0] 89));have G:z.heap.size=w.heap.size+1:=by rw[<-n,jZ]
 have a:KSt w c0 c1 b (w.heap.size+1) #[L0,L0,L0,S0] r w2:=by
  refine⟨?_,?_,?_,?_,T,qo⟩
  ·rw[<-o,<-n];exact B.fr0 (((Fq [] w).alloc _).alloc _)
  ·rw[<-o,<-G];exact BoxN.new z _ _
  ·rw[<-o,<-n];exact(BoxN.new w _ _).alloc _
  ·rw[<-o,<-n];exact((Fq [b] w).alloc _).alloc _
 have Q:=Hd n;have R:=Hd o;clear n o G B
 go_enter func176,ntmps176
 go_upto_region 2 with fail
 rw[Q.out,R.out];have y:=jM a.rd 1073741824;rw[show (((1073741824:Nat)):Int)=1073741824 from rfl]at y;have N:=Hd y;have J:=Hd a;clear y a
 go_upto_region 3 with((go_at_call 50;(with_reducible refine N.out.mono ?_);rintro e m ⟨rfl,k,i⟩;have d:=J.called k i;have j:=d.set (cs':=#[(fe 1073741824 r).1,L0,L0,S0]) 0 ((fe 1073741824 r).1) rfl;have h:=d.kb.c 0;have u:=d.kb.f 0;simp only[List.getElem?_toArray,List.getElem?_cons_zero,List.getElem?_cons_succ]at h;have g:=Hd j))
 have⟨s,l⟩:=eR (m.setCell ⟨w.heap.size+1,0,none⟩ ((fe 1073741824 r).1));have a:=g.out;rw[l]at a ⊢;have C:=jM a.rd 2;rw[show (((2:Nat)):Int)=2 from rfl]at C;have O:=Hd C;have HS2:=Hd a
 go_upto_region 4 with((go_at_call 50;(with_reducible refine O.out.mono ?_);rintro e m ⟨rfl,k,i⟩;have d:=HS2.called k i;have j:=d.set (cs':=#[(fe 1073741824 r).1,(fe 2 (fe 1073741824 r).2).1,L0,S0]) 1 ((fe 2 (fe 1073741824 r).2).1) rfl;have h:=d.kb.c 1;have u:=d.kb.f 1;simp only[List.getElem?_toArray,List.getElem?_cons_zero,List.getElem?_cons_succ]at h;have g:=Hd j))
 have⟨s,l⟩:=eR (m.setCell ⟨w.heap.size+1,1,none⟩ ((fe 2 (fe 1073741824 r).2).1));have a:=g.out;rw[l]at a ⊢;have E:=jM a.rd 999999;rw[show (((999999:Nat)):Int)=999999 from rfl]at E;have P:=Hd E;have K:=Hd a
 go_upto_region 5 with((go_at_call 50;(with_reducible refine P.out.mono ?_);rintro e m ⟨rfl,k,i⟩;have d:=K.called k i;have j:=d.set (cs':=#[(fe 1073741824 r).1,(fe 2 (fe 1073741824 r).2).1,(fe 999999 (fe 2 (fe 1073741824 r).2).2).1,S0]) 2 ((fe 999999 (fe 2 (fe 1073741824 r).2).2).1) rfl;have h:=d.kb.c 2;have u:=d.kb.f 2;simp only[List.getElem?_toArray,List.getElem?_cons_zero,List.getElem?_cons_succ]at h;have g:=Hd j))
 have⟨s,l⟩:=eR (m.setCell ⟨w.heap.size+1,2,none⟩ ((fe 999999 (fe 2 (fe 1073741824 r).2).2).1));have a:=g.out;rw[l]at a ⊢;have x:=oI a.rd 16777216;rw[show (((16777216:Nat)):Int)=16777216 from rfl]at x;rw[L.out]at x;have M:=Hd x;have q:=Hd a
 go_upto_region 6 with((go_at_call 49;(with_reducible refine M.out.mono ?_);rintro e m ⟨rfl,k,i⟩;have d:=q.called k i;have j:=d.set (cs':=#[(fe 1073741824 r).1,(fe 2 (fe 1073741824 r).2).1,(fe 999999 (fe 2 (fe 1073741824 r).2).2).1,p]) 3 p rfl;have h:=d.kb.c 3;have u:=d.kb.f 3;simp only[List.getElem?_toArray,List.getElem?_cons_zero,List.getElem?_cons_succ]at h;have g:=Hd j))
 have⟨s,l⟩:=eR (m.setCell ⟨w.heap.size+1,3,none⟩ p);have a:=g.out;rw[l]at a ⊢;have⟨Z,d1,d2,d3⟩:=a.kb.m4;have⟨y0,y1,y2,y3⟩:=a.zb.m4;have g0:=a.zb.f 0;have g1:=a.zb.f 1;have g2:=a.zb.f 2;have g3:=a.zb.f 3;have q:=Hd a
 go_wp2
 have⟨A,t⟩:=eR (((((s.setCell ⟨w.heap.size,0,none⟩ ((fe 1073741824 r).1)).setCell ⟨w.heap.size,1,none⟩ ((fe 2 (fe 1073741824 r).2).1)).setCell ⟨w.heap.size,2,none⟩ ((fe 999999 (fe 2 (fe 1073741824 r).2).2).1)).setCell ⟨w.heap.size,3,none⟩ p));have X:BoxN A w.heap.size 89 #[(fe 1073741824 r).1,(fe 2 (fe 1073741824 r).2).1,(fe 999999 (fe 2 (fe 1073741824 r).2).2).1,p]:=by rw[<-t];exact((((q.zb.setAt 0 _).setAt 1 _).setAt 2 _).setAt 3 _)
 have U:Fr [b] w A:=by rw[<-t];exact((((q.fr.set (.inr (fW _)) _).set (.inr (fW _)) _).set (.inr (fW _)) _).set (.inr (fW _)) _)
 have V:RdS c0 c1 b (fU 16777216 (fe 999999 (fe 2 (fe 1073741824 r).2).2).2).2 A:=by
  rw[<-t];refine q.rd.fr (S:=[w.heap.size]) ((((Fq _ s).st _).st _).st _ |>.st _) (by simp;omega)
 rw[t];have⟨Y,t1,t2,t3⟩:=X.m4;have I:=Hd V;have H:=Hd U;exact bodyPost_ret (v:=.agg #[(fe 1073741824 r).1,(fe 2 (fe 1073741824 r).2).1,(fe 999999 (fe 2 (fe 1073741824 r).2).2).1,p]) (by simp[results,results176,go_sem,Y,t1,t2,t3]) rfl ⟨rfl,I.out,H.out⟩
def j9(k:KY):Int :=
 if k.rnd<0 \/ 1073741824<k.rnd then 2 else if k.phase<0 \/ 2<k.phase then 11
 else if(k.idx<0 \/ 999999<k.idx) \/ (k.phase=0/\k.idx=0)then 2
 else if k.phase=0 then(if k.lin≠[]then 3 else 0)
 else if k.lin=[] \/ gF k.lin=false then 12
 else if k.phase=2/\k.idx≠0 then 3 else 0
def zk(k:KY)(w:World)(R:k.lin.length<=140737488355328):Calls prog 169 #[lU k] w (qU w (j9 k)):=by
 have⟨r,u⟩:=eR (j9 k);rw[u];unfold j9 at u;obtain⟨n,i,j,o⟩:=k;unfold lU;simp only at R u ⊢;have⟨p,F,G,V⟩:=eS o;rw[F];have⟨T,H,B,E⟩:=kJ w #[n,i,j,p] 89;have⟨W,X,Y,Z⟩:=B.m4;have d:=Hd E;have s:=Hd B;have D:=Hd H;have a:=Hd u;have h:=Hd G;clear H E B F u G
 go_enter func169,ntmps169
 go_upto_region 1 with fail
 rw[D.out];clear D
 by_cases J:n<0
 ·have e:=a.out
  rw[if_pos (.inl J)]at e;subst e;clear a
  go_wp2
  go_ret
  exact⟨rfl,d.out⟩
 by_cases K:1073741824<n
 ·have e:=a.out
  rw[if_pos (.inr K)]at e;subst e;clear a
  go_wp2
  go_ret
  exact⟨rfl,d.out⟩
 have e:=a.out;rw[if_neg qo]at e
 replace a:=Hd e
 clear e
 go_upto_region 3 with fail
 by_cases L:i<0
 ·have e:=a.out
  rw[if_pos (.inl L)]at e;subst e;clear a
  go_wp2
  go_ret
  exact⟨rfl,d.out⟩
 by_cases M:2<i
 ·have e:=a.out
  rw[if_pos (.inr M)]at e;subst e;clear a
  go_wp2
  go_ret
  exact⟨rfl,d.out⟩
 have e:=a.out;rw[if_neg qo]at e
 replace a:=Hd e
 clear e
 go_upto_region 5 with fail
 by_cases N:j<0
 ·have e:=a.out
  rw[if_pos (.inl (.inl N))]at e;subst e;clear a
  go_wp2
  go_ret
  exact⟨rfl,d.out⟩
 by_cases O:999999<j
 ·have e:=a.out
  rw[if_pos (.inl (.inr O))]at e;subst e;clear a
  go_wp2
  go_ret
  exact⟨rfl,d.out⟩
 by_cases y:i=0
 ·subst y
  by_cases z:j=0
  ·have e:=a.out
   rw[if_pos (.inr ⟨rfl,z⟩)]at e;subst e z;clear a
   go_wp2
   go_ret
   exact⟨rfl,d.out⟩
  ·have P:(j == 0)=false:=by simpa using z
   have e:=a.out;rw[if_neg qo,if_pos rfl]at e;clear a
   by_cases f:o=[]
   ·rw[if_neg (by simpa using f)]at e
    have g:p.data.toList=[]:=by rw[h.out];exact f
    have v:p.toList=[]:=by rw[ByteArray.toList_eq];exact g
    clear f g h;subst e
    go_wp2
    go_ret
    exact⟨rfl,d.out⟩
   ·rw[if_pos f]at e
    have g:p.data.toList≠[]:=by rw[h.out];exact f
    have v:p.toList≠[]:=by rw[ByteArray.toList_eq];exact g
    have S:(p.toList == [])=false:=by simpa using v
    clear f g h;subst e
    go_wp2
    go_ret
    exact⟨rfl,d.out⟩
 ·have P:(i == 0)=false:=by simpa using y
  have e:=a.out;rw[if_neg qo,if_neg y]at e
  replace a:=Hd e
  clear e
  by_cases f:o=[]
  ·have e:=a.out
   rw[if_pos (.inl f)]at e;have g:p.data.toList=[]:=by rw[h.out];exact f
   have v:p.toList=[]:=by rw[ByteArray.toList_eq];exact g
   clear f g h a;subst e
   go_wp2
   go_ret
   exact⟨rfl,d.out⟩
  ·have g:p.data.toList≠[]:=by rw[h.out];exact f
   have v:p.toList≠[]:=by rw[ByteArray.toList_eq];exact g
   have S:(p.toList == [])=false:=by simpa using v
   have m:=mP p T qo;rw[h.out]at m
   cases q:gF o with
   | false =>
    have e:=a.out;rw[if_pos (.inr q)]at e;rw[q]at m;have t:=Hd m;clear m f g h a q;subst e
    go_wp2_with ((go_at_call 115;(with_reducible refine t.out.mono ?_);rintro e C ⟨rfl,b⟩;have l:=Hd (d.then (Fr.of_below b));clear b))
    go_ret
    exact⟨rfl,l.out⟩
   | true =>
    have e:=a.out;rw[if_neg (by rw[q];simp[f])]at e;rw[q]at m;have t:=Hd m;clear m f g h a q
    by_cases A:i=2
    ·subst A
     by_cases x:j=0
     ·rw[if_neg (by simp[x])]at e
      subst x;subst e
      go_wp2_with ((go_at_call 115;(with_reducible refine t.out.mono ?_);rintro e C ⟨rfl,b⟩;have l:=Hd (d.then (Fr.of_below b));have I:=(s.later b).c 1;have U:=(s.later b).c 2;clear b))
      go_ret
      exact⟨rfl,l.out⟩
     ·rw[if_pos ⟨rfl,x⟩]at e
      have Q:(j != 0)=true:=by simpa using x
      subst e
      go_wp2_with ((go_at_call 115;(with_reducible refine t.out.mono ?_);rintro e C ⟨rfl,b⟩;have l:=Hd (d.then (Fr.of_below b));have I:=(s.later b).c 1;have U:=(s.later b).c 2;clear b))
      go_ret
      exact⟨rfl,l.out⟩
    ·rw[if_neg (by simp[A])]at e
     have Q:(i == 2)=false:=by simpa using A
     subst e
     go_wp2_with ((go_at_call 115;(with_reducible refine t.out.mono ?_);rintro e C ⟨rfl,b⟩;have l:=Hd (d.then (Fr.of_below b));have I:=(s.later b).c 1;clear b))
     go_ret
     exact⟨rfl,l.out⟩
def Cs(w:World)(b:Nat)(xs:List Value):Prop:=b<w.heap.size/\∀j v,xs[j]?=some v->w.cell? ⟨b,j,none⟩=some v
section
variable {w w':World} {b:Nat} {xs:List Value} {S:List Nat}
def Cs.fr(h:Cs w b xs)(a:Fr S w w')(c:b ∉ S):Cs w' b xs:=⟨Nat.lt_of_lt_of_le h.1 a.size,λj v d=>(a.fcell h.1 c j).trans (h.2 j v d)⟩
def Cs.fr0(h:Cs w b xs)(a:Fr [] w w'):Cs w' b xs:=h.fr a qs
def Cs.of_box{t:TypeId}{cs:Array Value}(h:BoxN w b t cs):Cs w b cs.toList:=⟨h.lt,λj v a=>by rw[h.c j];simpa using a⟩
def Cs.of_own{e:TypeId}{o n c:Nat}{A:Option Addr}(h:Own w e o A n c xs)(l:0<n):∃g,A=some ⟨g,0,none⟩/\Cs w g xs:=by
 have⟨b,off,d,k,i⟩:=h.row.2 l
 rcases h.2 with⟨a,f⟩|⟨g,p,q,a,_⟩
 ·omega
 ·injection a with a
  rw[d]at a
  injection a with a
  injection a with a f
  subst a f;exact⟨b,d,k,λj v m=>by have:=i j v m;rw[Nat.zero_add]at this;exact this⟩
end
def jE(i:Int):ON:=⟨16,[],i,0,[]⟩
def Hz(i:Int)(v:ByteArray)(a:Bool):List Value:=[.int .i64 16,.string ⟨#[]⟩,.int .i64 i,.int .i64 0,.string ⟨#[]⟩,.string v,.bool a]
inductive CL
 | nil
 | one (i:Int) (v:ByteArray) (a:Bool)
def CL.len:CL->Nat
 | .nil=>0
 | .one _ _ _=>1
def IR(w:World)(A:Option Addr):CL->Prop
 | .nil=>True
 | .one i v a=>∃b,A=some ⟨b,0,none⟩/\Cs w b (Hz i v a)
def CL.sl(l:CL)(A:Option Addr)(c:Nat):Value:=.slice A l.len c
structure AC where
 t:Int
 r:CL
 w:CL
def JE{W : World}{b o : Nat}{v0 v1 v2 v3 v4 : Value}(h : ∀t, t < 5 -> W.cell? ⟨b, o + t, none⟩ = [v0, v1, v2, v3, v4][t]?): W.cell? ⟨b, o, none⟩ = some v0 /\ W.cell? ⟨b, o + 1, none⟩ = some v1 /\ W.cell? ⟨b, o + 2, none⟩ = some v2 /\ W.cell? ⟨b, o + 3, none⟩ = some v3 /\ W.cell? ⟨b, o + 4, none⟩ = some v4 := ⟨h 0 qo, h 1 qo, h 2 qo, h 3 qo, h 4 qo⟩
def Jl{W : World}{b o : Nat}{v0 v1 v2 v3 v4 v5 : Value}(h : ∀t, t < 6 -> W.cell? ⟨b, o + t, none⟩ = [v0, v1, v2, v3, v4, v5][t]?): W.cell? ⟨b, o, none⟩ = some v0 /\ W.cell? ⟨b, o + 1, none⟩ = some v1 /\ W.cell? ⟨b, o + 2, none⟩ = some v2 /\ W.cell? ⟨b, o + 3, none⟩ = some v3 /\ W.cell? ⟨b, o + 4, none⟩ = some v4 /\ W.cell? ⟨b, o + 5, none⟩ = some v5 := ⟨h 0 qo, h 1 qo, h 2 qo, h 3 qo, h 4 qo, h 5 qo⟩
def FT{W : World}{b o : Nat}{v0 v1 v2 v3 v4 v5 v6 : Value}(h : ∀t, t < 7 -> W.cell? ⟨b, o + t, none⟩ = [v0, v1, v2, v3, v4, v5, v6][t]?): W.cell? ⟨b, o, none⟩ = some v0 /\ W.cell? ⟨b, o + 1, none⟩ = some v1 /\ W.cell? ⟨b, o + 2, none⟩ = some v2 /\ W.cell? ⟨b, o + 3, none⟩ = some v3 /\ W.cell? ⟨b, o + 4, none⟩ = some v4 /\ W.cell? ⟨b, o + 5, none⟩ = some v5 /\ W.cell? ⟨b, o + 6, none⟩ = some v6 := ⟨h 0 qo, h 1 qo, h 2 qo, h 3 qo, h 4 qo, h 5 qo, h 6 qo⟩
def Cs.k0{W : World}{b : Nat}{v0 : Value}{l : List Value}(h : Cs W b (v0 :: l)): W.cell? ⟨b, 0, none⟩ = some v0 := h.2 0 _ rfl
def Cs.k1{W : World}{b : Nat}{v0 v1 : Value}{l : List Value}(h : Cs W b (v0 :: v1 :: l)): W.cell? ⟨b, 1, none⟩ = some v1 := h.2 1 _ rfl
def Cs.k2{W : World}{b : Nat}{v0 v1 v2 : Value}{l : List Value}(h : Cs W b (v0 :: v1 :: v2 :: l)): W.cell? ⟨b, 2, none⟩ = some v2 := h.2 2 _ rfl
def Cs.k3{W : World}{b : Nat}{v0 v1 v2 v3 : Value}{l : List Value}(h : Cs W b (v0 :: v1 :: v2 :: v3 :: l)): W.cell? ⟨b, 3, none⟩ = some v3 := h.2 3 _ rfl
def Cs.k4{W : World}{b : Nat}{v0 v1 v2 v3 v4 : Value}{l : List Value}(h : Cs W b (v0 :: v1 :: v2 :: v3 :: v4 :: l)): W.cell? ⟨b, 4, none⟩ = some v4 := h.2 4 _ rfl
def Cs.k5{W : World}{b : Nat}{v0 v1 v2 v3 v4 v5 : Value}{l : List Value}(h : Cs W b (v0 :: v1 :: v2 :: v3 :: v4 :: v5 :: l)): W.cell? ⟨b, 5, none⟩ = some v5 := h.2 5 _ rfl
def Cs.k6{W : World}{b : Nat}{v0 v1 v2 v3 v4 v5 v6 : Value}{l : List Value}(h : Cs W b (v0 :: v1 :: v2 :: v3 :: v4 :: v5 :: v6 :: l)): W.cell? ⟨b, 6, none⟩ = some v6 := h.2 6 _ rfl
def Cs.k7{W : World}{b : Nat}{v0 v1 v2 v3 v4 v5 v6 v7 : Value}{l : List Value}(h : Cs W b (v0 :: v1 :: v2 :: v3 :: v4 :: v5 :: v6 :: v7 :: l)): W.cell? ⟨b, 7, none⟩ = some v7 := h.2 7 _ rfl
def Cs.k8{W : World}{b : Nat}{v0 v1 v2 v3 v4 v5 v6 v7 v8 : Value}{l : List Value}(h : Cs W b (v0 :: v1 :: v2 :: v3 :: v4 :: v5 :: v6 :: v7 :: v8 :: l)): W.cell? ⟨b, 8, none⟩ = some v8 := h.2 8 _ rfl
def Cs.k9{W : World}{b : Nat}{v0 v1 v2 v3 v4 v5 v6 v7 v8 v9 : Value}{l : List Value}(h : Cs W b (v0 :: v1 :: v2 :: v3 :: v4 :: v5 :: v6 :: v7 :: v8 :: v9 :: l)): W.cell? ⟨b, 9, none⟩ = some v9 := h.2 9 _ rfl
def Cs.k10{W : World}{b : Nat}{v0 v1 v2 v3 v4 v5 v6 v7 v8 v9 v10 : Value}{l : List Value}(h : Cs W b (v0 :: v1 :: v2 :: v3 :: v4 :: v5 :: v6 :: v7 :: v8 :: v9 :: v10 :: l)): W.cell? ⟨b, 10, none⟩ = some v10 := h.2 10 _ rfl
def Cs.k11{W : World}{b : Nat}{v0 v1 v2 v3 v4 v5 v6 v7 v8 v9 v10 v11 : Value}{l : List Value}(h : Cs W b (v0 :: v1 :: v2 :: v3 :: v4 :: v5 :: v6 :: v7 :: v8 :: v9 :: v10 :: v11 :: l)): W.cell? ⟨b, 11, none⟩ = some v11 := h.2 11 _ rfl
def Cs.m2{W : World}{b : Nat}{v0 v1 : Value}{l : List Value}(h : Cs W b (v0 :: v1 :: l)): W.cell? ⟨b, 0, none⟩ = some v0 /\ W.cell? ⟨b, 1, none⟩ = some v1 := ⟨h.2 0 _ rfl, h.2 1 _ rfl⟩
def Cs.m3{W : World}{b : Nat}{v0 v1 v2 : Value}{l : List Value}(h : Cs W b (v0 :: v1 :: v2 :: l)): W.cell? ⟨b, 0, none⟩ = some v0 /\ W.cell? ⟨b, 1, none⟩ = some v1 /\ W.cell? ⟨b, 2, none⟩ = some v2 := ⟨h.2 0 _ rfl, h.2 1 _ rfl, h.2 2 _ rfl⟩
def Cs.m4{W : World}{b : Nat}{v0 v1 v2 v3 : Value}{l : List Value}(h : Cs W b (v0 :: v1 :: v2 :: v3 :: l)): W.cell? ⟨b, 0, none⟩ = some v0 /\ W.cell? ⟨b, 1, none⟩ = some v1 /\ W.cell? ⟨b, 2, none⟩ = some v2 /\ W.cell? ⟨b, 3, none⟩ = some v3 := ⟨h.2 0 _ rfl, h.2 1 _ rfl, h.2 2 _ rfl, h.2 3 _ rfl⟩
def Cs.m5{W : World}{b : Nat}{v0 v1 v2 v3 v4 : Value}{l : List Value}(h : Cs W b (v0 :: v1 :: v2 :: v3 :: v4 :: l)): W.cell? ⟨b, 0, none⟩ = some v0 /\ W.cell? ⟨b, 1, none⟩ = some v1 /\ W.cell? ⟨b, 2, none⟩ = some v2 /\ W.cell? ⟨b, 3, none⟩ = some v3 /\ W.cell? ⟨b, 4, none⟩ = some v4 := ⟨h.2 0 _ rfl, h.2 1 _ rfl, h.2 2 _ rfl, h.2 3 _ rfl, h.2 4 _ rfl⟩
def Cs.m6{W : World}{b : Nat}{v0 v1 v2 v3 v4 v5 : Value}{l : List Value}(h : Cs W b (v0 :: v1 :: v2 :: v3 :: v4 :: v5 :: l)): W.cell? ⟨b, 0, none⟩ = some v0 /\ W.cell? ⟨b, 1, none⟩ = some v1 /\ W.cell? ⟨b, 2, none⟩ = some v2 /\ W.cell? ⟨b, 3, none⟩ = some v3 /\ W.cell? ⟨b, 4, none⟩ = some v4 /\ W.cell? ⟨b, 5, none⟩ = some v5 := ⟨h.2 0 _ rfl, h.2 1 _ rfl, h.2 2 _ rfl, h.2 3 _ rfl, h.2 4 _ rfl, h.2 5 _ rfl⟩
def Cs.m7{W : World}{b : Nat}{v0 v1 v2 v3 v4 v5 v6 : Value}{l : List Value}(h : Cs W b (v0 :: v1 :: v2 :: v3 :: v4 :: v5 :: v6 :: l)): W.cell? ⟨b, 0, none⟩ = some v0 /\ W.cell? ⟨b, 1, none⟩ = some v1 /\ W.cell? ⟨b, 2, none⟩ = some v2 /\ W.cell? ⟨b, 3, none⟩ = some v3 /\ W.cell? ⟨b, 4, none⟩ = some v4 /\ W.cell? ⟨b, 5, none⟩ = some v5 /\ W.cell? ⟨b, 6, none⟩ = some v6 := ⟨h.2 0 _ rfl, h.2 1 _ rfl, h.2 2 _ rfl, h.2 3 _ rfl, h.2 4 _ rfl, h.2 5 _ rfl, h.2 6 _ rfl⟩
def Cs.m8{W : World}{b : Nat}{v0 v1 v2 v3 v4 v5 v6 v7 : Value}{l : List Value}(h : Cs W b (v0 :: v1 :: v2 :: v3 :: v4 :: v5 :: v6 :: v7 :: l)): W.cell? ⟨b, 0, none⟩ = some v0 /\ W.cell? ⟨b, 1, none⟩ = some v1 /\ W.cell? ⟨b, 2, none⟩ = some v2 /\ W.cell? ⟨b, 3, none⟩ = some v3 /\ W.cell? ⟨b, 4, none⟩ = some v4 /\ W.cell? ⟨b, 5, none⟩ = some v5 /\ W.cell? ⟨b, 6, none⟩ = some v6 /\ W.cell? ⟨b, 7, none⟩ = some v7 := ⟨h.2 0 _ rfl, h.2 1 _ rfl, h.2 2 _ rfl, h.2 3 _ rfl, h.2 4 _ rfl, h.2 5 _ rfl, h.2 6 _ rfl, h.2 7 _ rfl⟩
def Cs.m9{W : World}{b : Nat}{v0 v1 v2 v3 v4 v5 v6 v7 v8 : Value}{l : List Value}(h : Cs W b (v0 :: v1 :: v2 :: v3 :: v4 :: v5 :: v6 :: v7 :: v8 :: l)): W.cell? ⟨b, 0, none⟩ = some v0 /\ W.cell? ⟨b, 1, none⟩ = some v1 /\ W.cell? ⟨b, 2, none⟩ = some v2 /\ W.cell? ⟨b, 3, none⟩ = some v3 /\ W.cell? ⟨b, 4, none⟩ = some v4 /\ W.cell? ⟨b, 5, none⟩ = some v5 /\ W.cell? ⟨b, 6, none⟩ = some v6 /\ W.cell? ⟨b, 7, none⟩ = some v7 /\ W.cell? ⟨b, 8, none⟩ = some v8 := ⟨h.2 0 _ rfl, h.2 1 _ rfl, h.2 2 _ rfl, h.2 3 _ rfl, h.2 4 _ rfl, h.2 5 _ rfl, h.2 6 _ rfl, h.2 7 _ rfl, h.2 8 _ rfl⟩
def Cs.m10{W : World}{b : Nat}{v0 v1 v2 v3 v4 v5 v6 v7 v8 v9 : Value}{l : List Value}(h : Cs W b (v0 :: v1 :: v2 :: v3 :: v4 :: v5 :: v6 :: v7 :: v8 :: v9 :: l)): W.cell? ⟨b, 0, none⟩ = some v0 /\ W.cell? ⟨b, 1, none⟩ = some v1 /\ W.cell? ⟨b, 2, none⟩ = some v2 /\ W.cell? ⟨b, 3, none⟩ = some v3 /\ W.cell? ⟨b, 4, none⟩ = some v4 /\ W.cell? ⟨b, 5, none⟩ = some v5 /\ W.cell? ⟨b, 6, none⟩ = some v6 /\ W.cell? ⟨b, 7, none⟩ = some v7 /\ W.cell? ⟨b, 8, none⟩ = some v8 /\ W.cell? ⟨b, 9, none⟩ = some v9 := ⟨h.2 0 _ rfl, h.2 1 _ rfl, h.2 2 _ rfl, h.2 3 _ rfl, h.2 4 _ rfl, h.2 5 _ rfl, h.2 6 _ rfl, h.2 7 _ rfl, h.2 8 _ rfl, h.2 9 _ rfl⟩
def Cs.m11{W : World}{b : Nat}{v0 v1 v2 v3 v4 v5 v6 v7 v8 v9 v10 : Value}{l : List Value}(h : Cs W b (v0 :: v1 :: v2 :: v3 :: v4 :: v5 :: v6 :: v7 :: v8 :: v9 :: v10 :: l)): W.cell? ⟨b, 0, none⟩ = some v0 /\ W.cell? ⟨b, 1, none⟩ = some v1 /\ W.cell? ⟨b, 2, none⟩ = some v2 /\ W.cell? ⟨b, 3, none⟩ = some v3 /\ W.cell? ⟨b, 4, none⟩ = some v4 /\ W.cell? ⟨b, 5, none⟩ = some v5 /\ W.cell? ⟨b, 6, none⟩ = some v6 /\ W.cell? ⟨b, 7, none⟩ = some v7 /\ W.cell? ⟨b, 8, none⟩ = some v8 /\ W.cell? ⟨b, 9, none⟩ = some v9 /\ W.cell? ⟨b, 10, none⟩ = some v10 := ⟨h.2 0 _ rfl, h.2 1 _ rfl, h.2 2 _ rfl, h.2 3 _ rfl, h.2 4 _ rfl, h.2 5 _ rfl, h.2 6 _ rfl, h.2 7 _ rfl, h.2 8 _ rfl, h.2 9 _ rfl, h.2 10 _ rfl⟩
def Cs.m12{W : World}{b : Nat}{v0 v1 v2 v3 v4 v5 v6 v7 v8 v9 v10 v11 : Value}{l : List Value}(h : Cs W b (v0 :: v1 :: v2 :: v3 :: v4 :: v5 :: v6 :: v7 :: v8 :: v9 :: v10 :: v11 :: l)): W.cell? ⟨b, 0, none⟩ = some v0 /\ W.cell? ⟨b, 1, none⟩ = some v1 /\ W.cell? ⟨b, 2, none⟩ = some v2 /\ W.cell? ⟨b, 3, none⟩ = some v3 /\ W.cell? ⟨b, 4, none⟩ = some v4 /\ W.cell? ⟨b, 5, none⟩ = some v5 /\ W.cell? ⟨b, 6, none⟩ = some v6 /\ W.cell? ⟨b, 7, none⟩ = some v7 /\ W.cell? ⟨b, 8, none⟩ = some v8 /\ W.cell? ⟨b, 9, none⟩ = some v9 /\ W.cell? ⟨b, 10, none⟩ = some v10 /\ W.cell? ⟨b, 11, none⟩ = some v11 := ⟨h.2 0 _ rfl, h.2 1 _ rfl, h.2 2 _ rfl, h.2 3 _ rfl, h.2 4 _ rfl, h.2 5 _ rfl, h.2 6 _ rfl, h.2 7 _ rfl, h.2 8 _ rfl, h.2 9 _ rfl, h.2 10 _ rfl, h.2 11 _ rfl⟩
def fi(w:World)(v:Value)(e:Ending)(w':World):Prop:=e=.returned v/\Fr [] w w'
def xz(a w:World)(b:Nat)(bs:Nm)(h:WrS a b bs w)(d:bs.length<=70368744177600):Calls prog 123 #[.pointer (some ⟨b,0,none⟩)] w (fi w (.tuple #[fg bs,.int .i64 0])):=by
 go_enter func123,ntmps123
 go_wp2_with ((go_at_call 58;(with_reducible refine(sD h d).mono ?_);rintro e j ⟨A',c',rfl,g,f,_⟩;have i:=eZ g.row 49 5 underlying49 underlying5 9 underlying9 c';have c:=Hd f))
 go_ret2
 exact⟨rfl,c.out⟩
def sL(w:World)(x y v:Value)(i:Nat)(a:i<2)(b:(#[x,y]:Array Value)[i]?=some v):(Instr.index 231 (.agg #[x,y]) (.int .i64 (i:Int))).run prog w=.ok v w :=
 jR w 231 62 2 #[x,y] .i64 i v underlying231 (λw=>by simp[go_sem]) (λw=>by simp[go_sem]) a b
def sM:∃i,(prog).info? 95=some i/\i.zero=some (.agg #[.int .i64 0,.string ⟨#[]⟩,.int .i64 0,.int .i64 0,.string ⟨#[]⟩,.string ⟨#[]⟩,.bool false])/\i.size=7/\i.bytes=80:=info_parts qk
def kR(w:World)(x y v:Value)(i:Nat)(a:i<2)(b:(#[x,y]:Array Value)[i]?=some v):(Instr.index 300 (.agg #[x,y]) (.int .i64 (i:Int))).run prog w=.ok v w :=
 jR w 300 299 2 #[x,y] .i64 i v underlying300 (λw=>by simp[go_sem]) (λw=>by simp[go_sem]) a b
def lV:Array Value:=#[.int .i64 0,.int .i64 0,.int .i64 0,.string ⟨#[]⟩,.slice none 0 0,.slice none 0 0]
section
variable {P:Program} {C:World->Prop}
def eW(C:World->Prop){f:Nat}{Q:Exit->Act->World->Prop}{a:Act}{w:World}{l:List Oper}(e:P.follows .mixedOrders=true)(c:Region.lexB .any l.toArray=true)(d:C w.drew)
 (h:wpQuiet P l.toArray C (λb=>∀w',C w'->Q .normal b w') l a):(Code.region f l.toArray true).wp P Q a w:=wp_region_quiet e c d (by simpa using h)
end
def StAt(w:World)(b:Nat)(t:TR):Prop:=BoxN w b 184 #[t.ptr]/\TRat w t
def StAt.fr0{w w':World}{b:Nat}{t:TR}(h:StAt w b t)(a:Fr [] w w'):StAt w' b t:=⟨h.1.fr a qs,h.2.fr0 a⟩
def xA(w:World):Calls prog 33 #[] w λe w'=>e=.returned (.pointer (some ⟨w.heap.size,0,none⟩))/\StAt w' w.heap.size .nil/\Fr [] w w':=by
 go_enter func33,ntmps33
 go_wp2
 go_ret
 exact⟨rfl,⟨BoxN.new w _ _,trivial⟩,(Fq [] w).alloc _⟩
def Ej(b:Nat)(t:TR)(w:World)(h:StAt w b t):Calls prog 38 #[.pointer (some ⟨b,0,none⟩)] w λe w'=>e=.returned (.int .i64 t.s)/\w'=w:=by
 have d:=h.1.k0;have a:=yK t w h.2;unfold TR.ptr at a d;have c:=Hd a
 go_enter func38,ntmps38
 go_wp2_with ((go_at_call 95;(with_reducible refine c.out.mono ?_);rintro e w' ⟨rfl,rfl⟩))
 go_ret
 exact⟨rfl,rfl⟩
def qt(n:Nat)(f:Value)(w:World):CallsIn Fence.wide n prog 156 #[.pointer none,f] w λe w'=>e=.returned (.bool true)/\w'=w:=by
 refine callsIn_wide.2 ?_
 go_enter func156,ntmps156
 go_wp2
 go_ret
 exact⟨rfl,rfl⟩
def un(n b:Nat)(w:World):CallsIn Fence.wide n prog 96 #[.pointer (some ⟨b,0,none⟩)] w λe w'=>e=.returned (.func (.func 155) #[] #[.pointer (some ⟨w.heap.size,0,none⟩)])/\w'=w.alloc (.cells #[.pointer (some ⟨b,0,none⟩)] 86):=by
 refine callsIn_wide.2 ?_
 go_enter func96,ntmps96
 go_wp2
 go_ret
 exact⟨rfl,rfl⟩
end Go.Proofs.YtlpmiimgacfmkaaGreatDoor
