/- Part of the proof. -/
import Derived.Lib.ConvBytes
import Derived.Test.YtlpmiimgacfmkaaGreatDoorRDrawn
set_option linter.all false
set_option maxHeartbeats 4000000
set_option maxRecDepth 100000
namespace Go.Proofs.YtlpmiimgacfmkaaGreatDoor
open Go.Proofs.Tryz
open Go.RowKit
theorem wk:∀(k u:Nat),u<128 ^ (k+1)->(gg u).length<=k+1
 | 0,u,h=>by rw[mL (by simpa using h)];simp
 | k+1,u,h=>by
  by_cases c:u<128
  ·rw[mL c];simp
  ·rw[qL c,List.length_cons]
   have:=wk k (u / 128) qo;omega
theorem fJ{u:Nat}(h:u<=9223372036854775807):(gg u).length<=9:=wk 8 u qo
theorem iC{s:Nm}(h:s.length<=9223372036854775807):(iV s).length<=s.length+9:=by
 unfold iV;have:=fJ h;rw[gG];omega
def WrS(a:World)(b:Nat)(bs:Nm)(w:World):Prop:=∃A,WrAt w b A bs/\Fr [b] a w/\∀k∈eV A,a.heap.size<=k
section
variable {a w w':World} {b:Nat} {A:Option Addr} {bs bs':Nm} {e:Ending}
theorem WrS.new(h:WrAt w b none []):WrS w b [] w:=⟨none,h,Fq _ _,by simp[eV]⟩
theorem WrS.fr(h:WrS a b bs w):Fr [b] a w:=by obtain⟨A,_,h,_⟩:=h;exact h
theorem WrS.more(h:WrS a b bs w)(c:Fr [] w w')(i:b<w.heap.size):WrS a b bs w':=by
 obtain⟨A,d,f,g⟩:=h;exact⟨A,d.fr c qs qs,f.trans c qs,g⟩
theorem WrS.step(n:WrAt w b A bs)(d:Fr [b] a w)(f:∀k∈eV A,a.heap.size<=k)(i:WPost w b A bs' e w'):e=.returned (.tuple #[])/\WrS a b bs' w':=by
 obtain⟨rfl,A',j,l,m⟩:=i;refine⟨rfl,A',j,d.trans l (λx c=>?_),λk g=>?_⟩
 ·rcases List.mem_cons.1 c with rfl|c
  ·exact .inl qs
  ·exact .inr (f x c)
 ·rcases m k g with h|h
  ·exact f k h
  ·have:=d.size;omega
theorem pH(h:WrS a b bs w)(n:Nat)(d:n<=9223372036854775807)(j:bs.length<=70368744177600):
 Calls prog 57 #[.pointer (some ⟨b,0,none⟩),.int .i64 (n:Int)] w λe w'=>e=.returned (.tuple #[])/\WrS a b (bs++gg n) w':=by
 obtain⟨A,c,f,g⟩:=h;have:=fJ d;exact(rY w b A bs n c d (by rw[gG];omega)).mono λe w' i=>WrS.step c f g i
theorem Gb(h:WrS a b bs w)(v:Bool)(i:bs.length<=70368744177600):
 Calls prog 122 #[.pointer (some ⟨b,0,none⟩),.bool v] w λe w'=>e=.returned (.tuple #[])/\WrS a b (bs++[mX v]) w':=by
 obtain⟨A,c,d,f⟩:=h;exact(wg w b A bs v c qo).mono λe w' g=>WrS.step c d f g
theorem yI(h:WrS a b bs w)(s:Nm)(g:s.length<=16777216)(j:bs.length+s.length<=70368744177600):
 Calls prog 56 #[.pointer (some ⟨b,0,none⟩),ft s] w λe w'=>e=.returned (.tuple #[])/\WrS a b (bs++iV s) w':=by
 obtain⟨A,c,d,f⟩:=h;have:=iC (s:=s) qo;exact(wh w b A bs s c g (by rw[gG];omega)).mono λe w' i=>WrS.step c d f i
theorem sd(h:WrS a b bs w)(g:bs.length<=70368744177600):Calls prog 58 #[.pointer (some ⟨b,0,none⟩)] w (wi w bs):=by
 obtain⟨A,c,d,f⟩:=h;exact AF w b A bs c qo
end
def wo(u:Usage)(n:ON):Nm :=
 ((((gg n.kind.toNat)++(if u.owner then iV n.owner else []))++(if u.number then gg n.number.toNat else []))++(if u.index then gg n.index.toNat else []))++(if u.text then iV n.text else [])
def jC(n:ON):Nm:=wo (us n.kind.toNat) n
def lI(w:World)(s:Nm)(r:Int)(e:Ending)(w':World):Prop:=e=.returned (.tuple #[ft s,.int .i64 r])/\Fr [] w w'
theorem mM{k:Nat}(h:k<21):(us k).most<=1073741824:=by
 have:∀y:Fin 21,(us y.val).most<=1073741824:=qd
 exact this ⟨k,h⟩
theorem jr{u:Usage}{n:ON}(h:kT u n=0):(u.number=true->fO n.number 1073741824=true)/\(u.index=true->fO n.index u.most=true)/\(u.text=true->jB n.text=true):=by
 unfold kT at h;split at h
 ·simp at h
 split at h
 ·simp at h
 split at h
 ·simp at h
 split at h
 ·simp at h
 split at h
 ·simp at h
 split at h
 ·simp at h
 rename_i a;split at h
 ·simp at h
 rename_i b;split at h
 ·simp at h
 rename_i c;unfold tN at a;unfold tI at b;unfold tW at c;refine⟨λe=>?_,λe=>?_,λe=>?_⟩
 ·rw[e]at a;simpa using a
 ·rw[e]at b;simpa using b
 ·rw[e]at c;simpa using c
def E7(a:World)(u:List Value)(c d:Value)(W:World):Prop:=∃P b,c=.pointer (some ⟨P,0,none⟩)/\d=.pointer (some ⟨b,0,none⟩)/\WrS W b [] W/\BoxN W P 216 u.toArray/\P≠b/\a.heap.size<=P/\a.heap.size<=b/\Fr [] a W
theorem ia{W:World}{B:Nat}{a b c d e:Value}{t:TypeId}(h:BoxN W B t #[a,b,c,d,e]):W.cell? ⟨B,1,none⟩=some b/\W.cell? ⟨B,2,none⟩=some c/\W.cell? ⟨B,3,none⟩=some d/\W.cell? ⟨B,4,none⟩=some e:=⟨h.c 1,h.c 2,h.c 3,h.c 4⟩
theorem js{W:World}{B:Nat}{a b c d e f:Value}{t:TypeId}(h:BoxN W B t #[a,b,c,d,e,f]):W.cell? ⟨B,1,none⟩=some b/\W.cell? ⟨B,2,none⟩=some c/\W.cell? ⟨B,3,none⟩=some d/\W.cell? ⟨B,4,none⟩=some e:=⟨h.c 1,h.c 2,h.c 3,h.c 4⟩
theorem lJ(n:ON)(w:World)(ai:Ok w)(ho:n.owner.length<=16777216)(ht:n.text.length<=140737488355328)(l:eX n=0):Calls prog 55 #[fg n] w (lI w (jC n) 0):=by
 have I:=λW h=>ld n W h qo ht;rw[l]at I
 have ag:iP n.kind=true:=by
  unfold eX at l
  by_cases h:iP n.kind=true
  ·exact h
  ·rw[if_neg h]at l
   simp at l
 obtain⟨k,hk,aB⟩:∃k:Nat,n.kind=(k:Int)/\k<21:=by
  simp only[iP,decide_eq_true_eq]at ag;exact⟨n.kind.toNat,qo,qo⟩
 unfold eX at l;rw[if_pos ag]at l;unfold jC;obtain⟨a9,D,o,m,t⟩:=n;simp only at hk;subst hk;simp only[show ((k:Nat):Int).toNat=k from rfl]at l ⊢;obtain⟨q,B⟩:=eR (wo (us k) ⟨(k:Int),D,o,m,t⟩);rw[B];unfold wo at B;have d:=jr l;have ah:=mM aB;clear l;unfold fg at I ⊢;simp only at I d B ho ht ⊢;obtain⟨os,aj,_,_⟩:=eT D;obtain⟨ts,ak,_,_⟩:=eT t;rw[aj,ak]at I ⊢;obtain⟨w1,aG,ae,X⟩:=kS w #[.int .i64 (k:Int),.string os,.int .i64 o,.int .i64 m,.string ts] 31;obtain⟨x0,x1,x2,x3,x4⟩:=ae.m5;have ar:=I w1 (ai.fr0 X);have ao:=Hd (ai.fr0 X);have am:=Hd ar;have aI:=Hd X;have al:=Hd ae;have aP:=Hd aG;have aq:=Hd d;have an:=Hd ah;have HQ:=Hd B;have aN:=Hd aj;have aO:=Hd ak;have a8:(k:Int)<21:=qo
 clear I ar X aG ae aj ak ai d ah B ag
 go_enter func55,ntmps55
 go_upto_region 1 with fail
 rw[aP.out]
 go_upto_region 4 with((go_at_call 53;(with_reducible refine am.out.mono ?_);rintro e w2 ⟨rfl,Y⟩;have M:=Hd (al.out.fr Y qs);have aJ:=Hd (aI.out.then Y);have ap:=Hd (ao.out.fr0 Y);clear Y))
 clear am ao al x0 x1 x2 x3 x4;obtain⟨e0,O,Q,R,T,U⟩:=qX ap.out aB;obtain⟨u,hu⟩:=eR (us k);rw[hu]at e0 O Q R T U aq HQ an;obtain⟨uw,H,G,F,v,um⟩:=u;simp only at e0 O Q R T U;obtain⟨us,aF,_,_⟩:=eT uw;rw[aF]at e0;obtain⟨x0,x1⟩:=M.out.m2;clear hu aF;have aX:=ap.out.low;have aC:=M.out.lt;have aE:∀W,Fr [] w2 W->W.cell? ⟨w.heap.size,0,none⟩=some (.int .i64 (k:Int))/\W.cell? ⟨0,k*6,none⟩=some (.string us)/\W.cell? ⟨0,k*6+1,none⟩=some (.bool H)/\W.cell? ⟨0,k*6+2,none⟩=some (.bool G)/\W.cell? ⟨0,k*6+3,none⟩=some (.bool F)/\W.cell? ⟨0,k*6+4,none⟩=some (.bool v)/\W.cell? ⟨0,k*6+5,none⟩=some (.int .i64 um):=λW A=>⟨(A.cell aC qs).trans x0,(A.cell (p:=⟨0,_,none⟩) (by show 0<_;omega) qs).trans e0,(A.cell (p:=⟨0,_,none⟩) (by show 0<_;omega) qs).trans O,(A.cell (p:=⟨0,_,none⟩) (by show 0<_;omega) qs).trans Q,(A.cell (p:=⟨0,_,none⟩) (by show 0<_;omega) qs).trans R,(A.cell (p:=⟨0,_,none⟩) (by show 0<_;omega) qs).trans T,(A.cell (p:=⟨0,_,none⟩) (by show 0<_;omega) qs).trans U⟩;have HSS:=Hd aE;clear aE aX aC
 go_cut [5,6]from 14 to 18 (λs5 s6 W=>E7 w2 [.string us,.bool H,.bool G,.bool F,.bool v,.int .i64 um] s5 s6 W)
 case first =>
  clear e0 O Q R T U x0 x1
  go_region_held3 (λW=>W.cell? ⟨w.heap.size,0,none⟩=some (.int .i64 (k:Int))/\W.cell? ⟨0,k*6,none⟩=some (.string us)/\W.cell? ⟨0,k*6+1,none⟩=some (.bool H)/\W.cell? ⟨0,k*6+2,none⟩=some (.bool G)/\W.cell? ⟨0,k*6+3,none⟩=some (.bool F)/\W.cell? ⟨0,k*6+4,none⟩=some (.bool v)/\W.cell? ⟨0,k*6+5,none⟩=some (.int .i64 um)) (with_reducible refine HSS.out _ ?_;(repeat(first|exact Fq _ _|exact r|refine Fr.drew ?_|refine Fr.alloc ?_ _|refine Fr.set ?_ (.inr qs) _|refine Fr.setCells ?_ (.inr qs) _ _|refine Fr.then ?_ r|refine Fr.then ?_ r.undrew));done) (first
   | (go_at_call 54;(with_reducible refine(jM ((w2.alloc (.cells #[.string ⟨#[]⟩,.bool false,.bool false,.bool false,.bool false,.int .i64 0] 216)).drew)).mono ?_);rintro e Z ⟨rfl,L,r⟩;have d:=(BoxN.new w2 216 #[.string ⟨#[]⟩,.bool false,.bool false,.bool false,.bool false,.int .i64 0]).drew.fr r qs;have g0:=d.f 0;have g1:=d.f 1;have g2:=d.f 2;have g3:=d.f 3;have g4:=d.f 4;have g5:=d.f 5;have d0:=d.c 0;have d1:=d.c 1;have d2:=d.c 2;have d3:=d.c 3;have d4:=d.c 4;have d5:=d.c 5;simp only[List.getElem?_toArray,List.getElem?_cons_zero,List.getElem?_cons_succ]at d0 d1 d2 d3 d4 d5)
   | (go_at_call 54;(with_reducible refine(jM _).mono ?_);rintro e Z ⟨rfl,L,r⟩))
  ·go_wp2_with fail
   go_meet
   have hl:=L.lt;have hs:=r.size;exact⟨_,_,rfl,rfl,WrS.new (L.fr ((Fq [] Z).alloc _) qs qs),BoxN.new Z _ _,Nat.ne_of_gt hl,hs,fV _,r.undrew.alloc _⟩
  ·go_wp2_with fail
   go_meet
   have e:((w2.alloc (.cells #[S0,.bool false,.bool false,.bool false,.bool false,L0] 216)).drew).heap.size=w2.heap.size+1:=kX ..;rw[e]at L;exact⟨_,_,rfl,rfl,WrS.new (L.fr (S:=[w2.heap.size]) ((((((Fq _ Z).st _).st _).st _).st _).st _ |>.st _) qs (by simp[eV])),((((((d.setAt 0 _).setAt 1 _).setAt 2 _).setAt 3 _).setAt 4 _).setAt 5 _),qo,fV _,qo,(((((((((Fq [] w2).alloc _).drew).then r).set (.inr (fV _)) _).set (.inr (fV _)) _).set (.inr (fV _)) _).set (.inr (fV _)) _).set (.inr (fV _)) _).set (.inr (fV _)) _⟩
 case rest =>
 obtain⟨P,b,rfl,rfl,a,az,K,hP,hb,af⟩:=hcut;obtain⟨w4,a3⟩:=eR (wc);rw[a3]at a az af ⊢;have aK:=Hd (aJ.out.then af);have a5:=M.out.lt;have J:=Hd (M.out.fr af qs);have N:=Hd az;have V:w.heap.size≠b:=qo
 have a6:=K;have a4:w.heap.size<=b:=qo
 have n0:=J.out.k0
 go_upto_region 6 with((go_at_call 57;(with_reducible refine(pH a k qo qs).mono ?_);rintro e w5 ⟨rfl,a⟩))
 have aR:(([]:Nm)++gg k).length<=9:=by simpa using fJ (u:=k) qo
 obtain⟨aa,au⟩:=eR (([]:Nm)++gg k);rw[au]at a aR;obtain⟨aD,aA,aZ⟩:=aq.out;have ah:=an.out
 have aT:(aa++(if H then iV D else [])).length<=20000000:=by
  have:=iC (s:=D) qo;rw[gG];split
  ·omega
  ·simp;omega
 have i:=Hd a;have y:=J.out.fr a.fr (by simpa using V);have z:=N.out.fr a.fr (by simpa using K);obtain⟨n1,n2,n3,n4⟩:=ia y;obtain⟨v1,v2,v3,v4⟩:=js z
 go_upto_if 24 with fail
 go_cut [4]from 24 to 28 (λE W=>E=L0/\WrS w4 b (aa++(if H then iV D else [])) W)
 case first =>
  cases g:H with
  | false =>
   go_wp2_with fail
   go_meet
   exact⟨rfl,by rw[g];simpa using i.out⟩
  | true =>
   go_wp2_with (((go_at_call 56;have j:=yI i.out D qo qo;rw[aN.out]at j;(with_reducible refine j.mono ?_);rintro e w6 ⟨rfl,a⟩)))
   go_meet
   exact⟨rfl,by rw[g];simpa using a⟩
 case rest =>
 obtain⟨rfl,a⟩:=hcut;obtain⟨w5,C⟩:=eR (wc);rw[C]at a ⊢;obtain⟨ab,av⟩:=eR (aa++(if H then iV D else []));rw[av]at a aT
 have aU:(ab++(if G then gg o.toNat else [])).length<=20000010:=by
  rw[gG];split
  ·rename_i h
   have:=aD h;simp only[fO,decide_eq_true_eq]at this;have:=fJ (u:=o.toNat) qo;omega
  ·simp;omega
 have i:=Hd a;have y:=J.out.fr a.fr (by simpa using V);have z:=N.out.fr a.fr (by simpa using K);obtain⟨n1,n2,n3,n4⟩:=ia y;obtain⟨v1,v2,v3,v4⟩:=js z
 go_upto_if 30 with fail
 go_cut [4]from 30 to 34 (λE W=>E=L0/\WrS w4 b (ab++(if G then gg o.toNat else [])) W)
 case first =>
  cases g:G with
  | false =>
   go_wp2_with fail
   go_meet
   exact⟨rfl,by rw[g];simpa using i.out⟩
  | true =>
   go_wp2_with (((go_at_call 57;have hW:=aD g;simp only[fO,decide_eq_true_eq]at hW;have j:=pH i.out o.toNat qo qo;rw[show ((o.toNat:Nat):Int)=o by omega]at j;(with_reducible refine j.mono ?_);rintro e w6 ⟨rfl,a⟩)))
   go_meet
   exact⟨rfl,by rw[g];simpa using a⟩
 case rest =>
 obtain⟨rfl,a⟩:=hcut;obtain⟨w5,C⟩:=eR (wc);rw[C]at a ⊢;obtain⟨ac,aw⟩:=eR (ab++(if G then gg o.toNat else []));rw[aw]at a aU
 have aV:(ac++(if F then gg m.toNat else [])).length<=20000020:=by
  rw[gG];split
  ·rename_i h
   have:=aA h;simp only[fO,decide_eq_true_eq]at this;have:=fJ (u:=m.toNat) qo;omega
  ·simp;omega
 have i:=Hd a;have y:=J.out.fr a.fr (by simpa using V);have z:=N.out.fr a.fr (by simpa using K);obtain⟨n1,n2,n3,n4⟩:=ia y;obtain⟨v1,v2,v3,v4⟩:=js z
 go_upto_if 36 with fail
 go_cut [4]from 36 to 40 (λE W=>E=L0/\WrS w4 b (ac++(if F then gg m.toNat else [])) W)
 case first =>
  cases g:F with
  | false =>
   go_wp2_with fail
   go_meet
   exact⟨rfl,by rw[g];simpa using i.out⟩
  | true =>
   go_wp2_with (((go_at_call 57;have hW:=aA g;simp only[fO,decide_eq_true_eq]at hW;have j:=pH i.out m.toNat qo qo;rw[show ((m.toNat:Nat):Int)=m by omega]at j;(with_reducible refine j.mono ?_);rintro e w6 ⟨rfl,a⟩)))
   go_meet
   exact⟨rfl,by rw[g];simpa using a⟩
 case rest =>
 obtain⟨rfl,a⟩:=hcut;obtain⟨w5,C⟩:=eR (wc);rw[C]at a ⊢;obtain⟨ad,ax⟩:=eR (ac++(if F then gg m.toNat else []));rw[ax]at a aV
 have aH:v=true->t.length<=32:=λh=>by
  have:=aZ h;simp only[jB,Bool.and_eq_true,decide_eq_true_eq]at this;exact this.1.2
 have aW:(ad++(if v then iV t else [])).length<=20000100:=by
  rw[gG];split
  ·rename_i h
   have:=aH h;have:=iC (s:=t) qo;omega
  ·simp;omega
 have i:=Hd a;have y:=J.out.fr a.fr (by simpa using V);have z:=N.out.fr a.fr (by simpa using K);obtain⟨n1,n2,n3,n4⟩:=ia y;obtain⟨v1,v2,v3,v4⟩:=js z
 go_upto_if 42 with fail
 go_cut [4]from 42 to 46 (λE W=>E=L0/\WrS w4 b (ad++(if v then iV t else [])) W)
 case first =>
  cases g:v with
  | false =>
   go_wp2_with fail
   go_meet
   exact⟨rfl,by rw[g];simpa using i.out⟩
  | true =>
   go_wp2_with (((go_at_call 56;have hW:=aH g;have j:=yI i.out t qo qo;rw[aO.out]at j;(with_reducible refine j.mono ?_);rintro e w6 ⟨rfl,a⟩)))
   go_meet
   exact⟨rfl,by rw[g];simpa using a⟩
 case rest =>
 obtain⟨rfl,a⟩:=hcut;obtain⟨w5,C⟩:=eR (wc);rw[C]at a ⊢;obtain⟨aQ,ay⟩:=eR (ad++(if v then iV t else []));rw[ay]at a aW
 have B:aQ=q:=by
  rw[<-HQ.out,<-ay,<-ax,<-aw,<-av,<-au];simp
 subst B;have aL:=Hd (aK.out.trans a.fr (λx hx=>by rw[gI]at hx;subst hx;exact .inr a4))
 go_wp2_with ((go_at_call 58;(with_reducible refine(sd a qo).mono ?_);rintro e w6 ⟨A',c',rfl,aY,aS,_⟩;have a7:=fa aY.row 49 5 underlying49 underlying5 9 underlying9 c';have aM:=Hd (aL.out.then aS)))
 go_ret2
 exact⟨rfl,aM.out⟩
def RdS(c0 c1 b:Nat)(r:RS)(w:World):Prop:=∃A,RdAt w b A r/\c0<=b/\b<c1/\((∀k∈eV A,c0<=k/\k<c1) \/ r.l=[])
section
variable {S:List Nat} {w w':World} {c0 c1 b:Nat} {r r':RS} {e:Ending} {v:Value}
theorem RdS.fr(m:RdS c0 c1 b r w)(l:Fr S w w')(i:∀k∈S,k<c0 \/ c1<=k):RdS c0 c1 b r w':=by
 obtain⟨A,f,g,h,a⟩:=m;have j:b ∉ S:=λd=>by have:=i b d;omega
 rcases a with a|a
 ·exact⟨A,f.fr l j (λk n d=>by have:=i k d;have:=a k n;omega),g,h,.inl a⟩
 ·refine⟨A,?_,g,h,.inr a⟩
  obtain⟨c,o,p,s,q⟩:=f;refine⟨c,o.fr l j,p,?_,q⟩;rw[a];exact Row.nil_
theorem RdS.fr0(h:RdS c0 c1 b r w)(a:Fr [] w w'):RdS c0 c1 b r w':=h.fr a qs
theorem RdS.step{A:Option Addr}(c:c0<=b)(d:b<c1)(a:(∀k∈eV A,c0<=k/\k<c1) \/ r.l=[])(g:r.l=[]->r'.l=[])(h:RdPost w b A v r' e w'):e=.returned v/\RdS c0 c1 b r' w'/\Fr [b] w w':=by
 obtain⟨rfl,A',i,j,m⟩:=h;refine⟨rfl,⟨A',i,c,d,?_⟩,j⟩
 rcases a with a|a
 ·exact .inl λk f=>a k (m k f)
 ·exact .inr (g a)
theorem pI{α:Type}{z:α}{r:RS}{x:α × Nat × Int}(h:r.l=[]):(gA z r x).2.l=[]:=by
 unfold gA;split
 ·exact h
 ·split
  ·exact h
  ·rw[h];simp
theorem jI(h:RdS c0 c1 b r w)(m:Nat):Calls prog 50 #[.pointer (some ⟨b,0,none⟩),.int .i64 (m:Int)] w λe w'=>e=.returned (.int .i64 (ff m r).1)/\RdS c0 c1 b (ff m r).2 w'/\Fr [b] w w':=by
 obtain⟨A,a,c,d,f⟩:=h;exact(AI b m A r w a).mono λe w' g=>RdS.step c d f pI g
theorem oT(h:RdS c0 c1 b r w)(m:Nat):Calls prog 49 #[.pointer (some ⟨b,0,none⟩),.int .i64 (m:Int)] w λe w'=>e=.returned (ft (gN m r).1)/\RdS c0 c1 b (gN m r).2 w'/\Fr [b] w w':=by
 obtain⟨A,a,c,d,f⟩:=h;exact(DZ b m A r w a).mono λe w' g=>RdS.step c d f pI g
theorem Ea(h:RdS c0 c1 b r w):Calls prog 217 #[.pointer (some ⟨b,0,none⟩)] w λe w'=>e=.returned (.bool (mq r).1)/\RdS c0 c1 b (mq r).2 w'/\Fr [b] w w':=by
 obtain⟨A,a,c,d,f⟩:=h;exact(D8 b A r w a).mono λe w' g=>RdS.step c d f pI g
theorem Eb(h:RdS c0 c1 b r w):Calls prog 216 #[.pointer (some ⟨b,0,none⟩)] w λe w'=>e=.returned (.int .i64 (r.l.length:Int))/\w=w':=by
 obtain⟨A,a,_⟩:=h;exact D9 b A r w a
theorem ws(h:RdS c0 c1 b r w):Calls prog 52 #[.pointer (some ⟨b,0,none⟩)] w λe w'=>e=.returned (.int .i64 (kR r))/\w=w':=by
 obtain⟨A,a,_⟩:=h;exact CJ b A r w a
theorem oU(A:Option Addr)(n c B:Nat)(l:Nm)(w:World)(p:Row w B 1 A n (eP l))(q:∀a,A=some a->a.spot=none)(o:n<=70368744177664):Calls prog 47 #[.slice A n c] w λe w'=>∃b,e=.returned (.pointer (some ⟨b,0,none⟩))/\RdS w.heap.size w'.heap.size b ⟨l,0,0⟩ w'/\Fr [] w w':=by
 refine(sC A n c B l w p q o).mono ?_;rintro e w' ⟨b,A',rfl,d,i,j,m⟩;refine⟨b,rfl,⟨A',d,j,d.lt,?_⟩,i⟩;obtain⟨c',_,_,s,_⟩:=d
 by_cases g:l=[]
 ·exact .inr g
 ·left
  intro k f;refine⟨m k f,?_⟩;obtain⟨h,off,rfl,t,_⟩:=s.2 (List.length_pos_iff.2 g);have:k=h:=by simpa [eV]using f
  omega
end
theorem yJ(s:ByteArray)(w:World):∃e w',(convert 9 49 (.string s)).run prog w=.ok (.slice (some ⟨w.heap.size,0,none⟩) s.size e) w'/\Fr [] w w'/\Row w' w'.heap.size 1 (some ⟨w.heap.size,0,none⟩) s.size (eP s.data.toList):=by
 refine⟨_,_,Lib.run_convert_string_bytes w 9 49 5 s underlying9 underlying49 underlying5,?_,?_⟩
 ·exact⟨rfl,rfl,rfl,by rw[Lib.bytesWorld_size];omega,λk f _=>Lib.bytesWorld_at_old w _ s k f⟩
 ·refine⟨by rw[eU,<-jO];omega,λ_=>⟨_,0,rfl,by rw[Lib.bytesWorld_size];omega,λj u d=>?_⟩⟩
  have a:j<s.size:=by
   have:=(i9.1 d).1;rw[eU,<-jO]at this;exact this
  rw[Nat.zero_add];refine(Lib.bytesWorld_cell w _ s j a).trans ?_;rw[<-d];unfold eP;have c:j<s.data.toList.length:=by rw[<-jO];exact a
  rw[List.getElem?_map,gx c,List.getD_eq_getElem?_getD,gx c];rfl
theorem Ec(m:Nat)(l:Nm)(h:(mQ m l).2.2=0):0<=(mQ m l).1/\(mQ m l).1<=(m:Int):=by
 unfold mQ at h ⊢;simp only at h ⊢;split at h
 ·simp at h
 ·rename_i c
  refine⟨qo,?_⟩;have:¬m<(fj l).1:=λa=>c ⟨h,a⟩;omega
theorem CK(m:Nat)(r:RS):0<=(ff m r).1/\(ff m r).1<=(m:Int):=by
 unfold ff gA;split
 ·simp
 ·split
  ·simp
  ·rename_i h
   exact Ec m r.l (by simpa using h)
theorem nM(m:Nat)(r:RS):(gN m r).1.length<=16777216:=by
 unfold gN gA;split
 ·simp
 ·split
  ·simp
  ·unfold jS
   split
   ·simp
   ·split
    ·simp
    ·split
     ·simp
     ·rename_i h _
      have:=List.length_take_le (fj r.l).1 (r.l.drop (fj r.l).2.1);simp only[not_or]at h
      show ((r.l.drop (fj r.l).2.1).take (fj r.l).1).length<=_
      omega
def E8(u:Usage)(k:Int)(a:RS):ON × RS :=
 let o:=if u.owner then gN 16777216 a else([],a)
 let n:=if u.number then ff 1073741824 o.2 else(0,o.2)
 let i:=if u.index then ff u.most.toNat n.2 else(0,n.2)
 let t:=if u.text then gN 32 i.2 else([],i.2)
 (⟨k,o.1,n.1,i.1,t.1⟩,t.2)
def AL(s:Nm):ON × RS:=E8 (us (ff 20 ⟨s,0,0⟩).1.toNat) (ff 20 ⟨s,0,0⟩).1 (ff 20 ⟨s,0,0⟩).2
def GA:ON:=⟨0,[],0,0,[]⟩
def AM(s:Nm):ON × Int:=if kR (AL s).2≠0 \/ eX (AL s).1≠0 then(GA,3)else((AL s).1,0)
def zC:Array Value:=#[.int .i64 0,.string ⟨#[]⟩,.int .i64 0,.int .i64 0,.string ⟨#[]⟩]
structure DSt(w:World)(c0 c1 b D U:Nat)(uc:Array Value)(nm:ON)(r:RS)(W:World):Prop where
 rd:RdS c0 c1 b r W
 nmb:BoxN W D 31 nm.cells.toArray
 ub:BoxN W U 216 uc
 zb:BoxN W w.heap.size 31 zC
 fr:Fr [] w W
 h0:w.heap.size<c0
 h1:c1<=D
 h2:D<U
section
variable {w W W':World} {c0 c1 b D U:Nat} {uc:Array Value} {nm nm':ON} {r r':RS}
theorem DSt.bb(h:DSt w c0 c1 b D U uc nm r W):c0<=b/\b<c1:=by obtain⟨A,_,a,c,_⟩:=h.rd;exact⟨a,c⟩
theorem DSt.called(h:DSt w c0 c1 b D U uc nm r W)(e:RdS c0 c1 b r' W')(a:Fr [b] W W'):DSt w c0 c1 b D U uc nm r' W':=by
 have f:=h.bb;have e0:=h.h0;have c:=h.h1;have d:=h.h2;exact⟨e,h.nmb.fr a (by simp;omega),h.ub.fr a (by simp;omega),h.zb.fr a (by simp;omega),h.fr.trans a (by simp;omega),e0,c,d⟩
theorem DSt.quiet(h:DSt w c0 c1 b D U uc nm r W)(a:Fr [] W W'):DSt w c0 c1 b D U uc nm r W' :=
 ⟨h.rd.fr0 a,h.nmb.fr a qs,h.ub.fr a qs,h.zb.fr a qs,h.fr.then a,h.h0,h.h1,h.h2⟩
theorem DSt.set(h:DSt w c0 c1 b D U uc nm r W)(j:Nat)(v:Value)(e:nm.cells.toArray.setIfInBounds j v=nm'.cells.toArray):DSt w c0 c1 b D U uc nm' r (W.setCell ⟨D,j,none⟩ v):=by
 have f:=h.bb;have e0:=h.h0;have c:=h.h1;have d:=h.h2;have a:Fr [D] W (W.setCell ⟨D,j,none⟩ v):=(Fq [D] W).st _;refine⟨h.rd.fr a (by simp;omega),?_,h.ub.fr a (by simp;omega),h.zb.fr a (by simp;omega),h.fr.set (.inr (by show _<=D;omega)) _,e0,c,d⟩;rw[<-e];exact h.nmb.setAt j v
end
def Ed(w:World)(p:ON × Int)(e:Ending)(w':World):Prop:=e=.returned (.tuple #[fg p.1,.int .i64 p.2])/\Fr [] w w'
theorem wt(s:ByteArray)(w:World)(aH:Ok w)(hs:s.size<=70368744177664):Calls prog 48 #[.string s] w (Ed w (AM s.data.toList)):=by
 obtain⟨q,hq⟩:=eR (AM s.data.toList);rw[hq];unfold AM AL at hq;obtain⟨w1,bc,aN,a4⟩:=kS w (zC) 31;obtain⟨aV,w2,bh,aj,a7⟩:=yJ s w1;have aM:w.heap.size<w2.heap.size:=by have:=aN.lt;have:=aj.size;omega
 have aY:=oU _ s.size aV _ _ w2 a7 (by rintro a h;injection h with h;rw[<-h]) hs;have HZ:=Hd (aN.fr aj qs);have HF:=Hd (a4.then aj);have HN:=Hd aY;have aA:=Hd bc;have z:=Hd hq;unfold zC at aA
 go_enter func48,ntmps48
 go_upto_region 1 with fail
 rw[aA.out]
 go_upto_region 2 with((go_at_call 47;(with_reducible refine HN.out.mono ?_);rintro e w3 ⟨b,rfl,p,aF⟩))
 obtain⟨c0,aC⟩:=eR (w2.heap.size);obtain⟨c1,aD⟩:=eR (w3.heap.size);rw[aC,aD]at p;rw[aC]at aM;have bg:c0<=b/\b<c1:=by obtain⟨bf,_,Y,Z,_⟩:=p;exact⟨Y,Z⟩
 have aT:=Hd (HZ.out.fr aF qs);have aO:=Hd (HF.out.then aF);have l:=jI p 20;rw[show ((20:Nat):Int)=20 from rfl]at l;have hk:=CK 20 ⟨s.data.toList,0,0⟩;obtain⟨R1,aZ⟩:=eR (ff 20 ⟨s.data.toList,0,0⟩);rw[aZ]at l hk z;obtain⟨kI,r1⟩:=R1;simp only at l hk z;obtain⟨k,rfl⟩:∃k:Nat,kI=(k:Int):=⟨kI.toNat,qo⟩;have HT:=Hd l
 go_upto_region 3 with((go_at_call 50;(with_reducible refine HT.out.mono ?_);rintro e V ⟨rfl,p,ak⟩))
 have am:k<21:=qo
 have bi:(k:Int)<21:=qo
 have a5:=aO.out.trans ak (by simp;omega);have bd:=aT.out.fr ak (by simp;omega);have aE:c1<=V.heap.size:=by rw[<-aD];exact ak.size
 obtain⟨M,au⟩:=eR (V.alloc (.cells #[k,S0,L0,L0,S0] 31));rw[au];have ap:BoxN M V.heap.size 31 #[k,S0,L0,L0,S0]:=by rw[<-au];exact BoxN.new V _ _
 have al:Fr [] V M:=by rw[<-au];exact(Fq [] V).alloc _
 have aG:=a5.then al;have a9:=p.fr0 al;have be:=bd.fr al qs;obtain⟨D,hD⟩:=eR (V.heap.size);rw[hD]at aE ap ⊢;obtain⟨e0,e1,e2,e3,e4,e5⟩:=qX (aH.fr0 aG) am;have an:=mM am
 have ao:0<=(us k).most:=by
  have:∀y:Fin 21,0<=(us y.val).most:=qd
  exact this ⟨k,am⟩
 rw[show ((k:Nat):Int).toNat=k from rfl]at z;obtain⟨u,hu⟩:=eR (us k);rw[hu]at e0 e1 e2 e3 e4 e5 z an ao;obtain⟨uw,K,J,I,L,o⟩:=u;simp only at e0 e1 e2 e3 e4 e5 an ao;obtain⟨us,bb,_,_⟩:=eT uw;rw[bb]at e0;have x0:=ap.k0;have ax:=Hd ap;have aP:=Hd aG;have aR:=Hd a9;have aU:=Hd be;have HM:=Hd (An an ao)
 go_upto_region 4 with fail
 obtain⟨H,B⟩:=eR (M.alloc (.cells #[us,.bool K,.bool J,.bool I,.bool L,o] 216));rw[B];have ad:Fr [] M H:=by rw[<-B];exact(Fq [] M).alloc _
 have i:DSt w c0 c1 b D M.heap.size #[us,.bool K,.bool J,.bool I,.bool L,o] ⟨(k:Int),[],0,0,[]⟩ r1 H :=
  ⟨aR.out.fr0 ad,ax.out.fr ad qs,by rw[<-B];exact BoxN.new M _ _,aU.out.fr ad qs,aP.out.then ad,aM,aE,ax.out.lt⟩
 obtain⟨U,hU⟩:=eR (M.heap.size);rw[hU]at i ⊢;have R:=z.out;unfold E8 at R;simp only at R;obtain⟨n,aI⟩:=eR ((if K=true then gN 16777216 r1 else([],r1)));rw[aI]at R;obtain⟨p2,aJ⟩:=eR ((if J=true then ff 1073741824 n.2 else(0,n.2)));rw[aJ]at R;obtain⟨t,aK⟩:=eR ((if I=true then ff o.toNat p2.2 else(0,p2.2)));rw[aK]at R;obtain⟨G,aL⟩:=eR ((if L=true then gN 32 t.2 else([],t.2)));rw[aL]at R;have z:=Hd R;have ah:=Hd aI;have ay:=Hd aJ;have az:=Hd aK;have ai:=Hd aL;have ba:((o.toNat:Nat):Int)=o:=by have:=HM.out.2;omega
 have j:=Hd i;obtain⟨v1,v2,v3,v4⟩:=js i.ub
 go_upto_if 18 with fail
 go_cut [3]from 16 to 21 (λT W=>T=L0/\DSt w c0 c1 b D U #[us,.bool K,.bool J,.bool I,.bool L,o] ⟨(k:Int),n.1,0,0,[]⟩ n.2 W)
 case first =>
  cases A:K with
  | false =>
   go_wp2_with fail
   go_meet
   have e:([],r1)=n:=by have h:=ah.out;rw[A]at h;exact h
   exact⟨rfl,by rw[<-e];exact j.out⟩
  | true =>
   go_wp2_with (go_at_call 49;have l:=oT j.out.rd 16777216;obtain⟨av,S,_,_⟩:=eT (gN 16777216 r1).1;rw[S,show (((16777216:Nat)):Int)=16777216 from rfl]at l;(with_reducible refine l.mono ?_);rintro e E ⟨rfl,p,m⟩;have g:=j.out.called p m;have F:=λnm' Q=>g.set (nm':=nm') 1 av Q;rw[<-S]at F;have P:=g.nmb.c 1;have df:=g.nmb.f 1;simp only[ON.cells,List.getElem?_toArray,List.getElem?_cons_zero,List.getElem?_cons_succ]at P;have x:=Hd F;have O:=Hd S)
   go_meet
   have e:gN 16777216 r1=n:=by have h:=ah.out;rw[A]at h;exact h
   refine⟨rfl,?_⟩;rw[<-e]
   first
   | (rw[<-O.out];exact x.out _ rfl)
   | exact x.out _ rfl
 case rest =>
 obtain⟨rfl,i⟩:=hcut;obtain⟨H,B⟩:=eR (wc);rw[B]at i ⊢;have j:=Hd i;obtain⟨v1,v2,v3,v4⟩:=js i.ub
 go_upto_if 23 with fail
 go_cut [3]from 23 to 26 (λT W=>T=L0/\DSt w c0 c1 b D U #[us,.bool K,.bool J,.bool I,.bool L,o] ⟨(k:Int),n.1,p2.1,0,[]⟩ p2.2 W)
 case first =>
  cases A:J with
  | false =>
   go_wp2_with fail
   go_meet
   have e:(0,n.2)=p2:=by have h:=ay.out;rw[A]at h;exact h
   exact⟨rfl,by rw[<-e];exact j.out⟩
  | true =>
   go_wp2_with (go_at_call 50;have l:=jI j.out.rd 1073741824;rw[show (((1073741824:Nat)):Int)=1073741824 from rfl]at l;(with_reducible refine l.mono ?_);rintro e E ⟨rfl,p,m⟩;have g:=j.out.called p m;have F:=λnm' Q=>g.set (nm':=nm') 2 ((ff 1073741824 n.2).1) Q;have P:=g.nmb.c 2;have df:=g.nmb.f 2;simp only[ON.cells,List.getElem?_toArray,List.getElem?_cons_zero,List.getElem?_cons_succ]at P;have x:=Hd F;have O:=Hd (rfl:(0:Nat)=0))
   go_meet
   have e:ff 1073741824 n.2=p2:=by have h:=ay.out;rw[A]at h;exact h
   refine⟨rfl,?_⟩;rw[<-e]
   first
   | (rw[<-O.out];exact x.out _ rfl)
   | exact x.out _ rfl
 case rest =>
 obtain⟨rfl,i⟩:=hcut;obtain⟨H,B⟩:=eR (wc);rw[B]at i ⊢;have j:=Hd i;obtain⟨v1,v2,v3,v4⟩:=js i.ub;have v5:=i.ub.c 5
 go_upto_if 28 with fail
 go_cut [3]from 28 to 33 (λT W=>T=L0/\DSt w c0 c1 b D U #[us,.bool K,.bool J,.bool I,.bool L,o] ⟨(k:Int),n.1,p2.1,t.1,[]⟩ t.2 W)
 case first =>
  cases A:I with
  | false =>
   go_wp2_with fail
   go_meet
   have e:(0,p2.2)=t:=by have h:=az.out;rw[A]at h;exact h
   exact⟨rfl,by rw[<-e];exact j.out⟩
  | true =>
   go_wp2_with (go_at_call 50;have l:=jI j.out.rd o.toNat;rw[show (((o.toNat:Nat)):Int)=o from ba]at l;(with_reducible refine l.mono ?_);rintro e E ⟨rfl,p,m⟩;have g:=j.out.called p m;have F:=λnm' Q=>g.set (nm':=nm') 3 ((ff o.toNat p2.2).1) Q;have P:=g.nmb.c 3;have df:=g.nmb.f 3;simp only[ON.cells,List.getElem?_toArray,List.getElem?_cons_zero,List.getElem?_cons_succ]at P;have x:=Hd F;have O:=Hd (rfl:(0:Nat)=0))
   go_meet
   have e:ff o.toNat p2.2=t:=by have h:=az.out;rw[A]at h;exact h
   refine⟨rfl,?_⟩;rw[<-e]
   first
   | (rw[<-O.out];exact x.out _ rfl)
   | exact x.out _ rfl
 case rest =>
 obtain⟨rfl,i⟩:=hcut;obtain⟨H,B⟩:=eR (wc);rw[B]at i ⊢;have j:=Hd i;obtain⟨v1,v2,v3,v4⟩:=js i.ub
 go_upto_if 35 with fail
 go_cut [3]from 35 to 38 (λT W=>T=L0/\DSt w c0 c1 b D U #[us,.bool K,.bool J,.bool I,.bool L,o] ⟨(k:Int),n.1,p2.1,t.1,G.1⟩ G.2 W)
 case first =>
  cases A:L with
  | false =>
   go_wp2_with fail
   go_meet
   have e:([],t.2)=G:=by have h:=ai.out;rw[A]at h;exact h
   exact⟨rfl,by rw[<-e];exact j.out⟩
  | true =>
   go_wp2_with (go_at_call 49;have l:=oT j.out.rd 32;obtain⟨av,S,_,_⟩:=eT (gN 32 t.2).1;rw[S,show (((32:Nat)):Int)=32 from rfl]at l;(with_reducible refine l.mono ?_);rintro e E ⟨rfl,p,m⟩;have g:=j.out.called p m;have F:=λnm' Q=>g.set (nm':=nm') 4 av Q;rw[<-S]at F;have P:=g.nmb.c 4;have df:=g.nmb.f 4;simp only[ON.cells,List.getElem?_toArray,List.getElem?_cons_zero,List.getElem?_cons_succ]at P;have x:=Hd F;have O:=Hd S)
   go_meet
   have e:gN 32 t.2=G:=by have h:=ai.out;rw[A]at h;exact h
   refine⟨rfl,?_⟩;rw[<-e]
   first
   | (rw[<-O.out];exact x.out _ rfl)
   | exact x.out _ rfl
 case rest =>
 obtain⟨rfl,i⟩:=hcut;obtain⟨H,B⟩:=eR (wc);rw[B]at i ⊢
 have bj:n.1.length<=16777216:=by
  rw[<-ah.out];split
  ·exact nM _ _
  ·simp
 have bk:G.1.length<=16777216:=by
  rw[<-ai.out];split
  ·exact nM _ _
  ·simp
 have aa:=ld ⟨(k:Int),n.1,p2.1,t.1,G.1⟩ H (aH.fr0 i.fr) (by show n.1.length<=_;omega) (by show G.1.length<=_;omega);have aB:=ws i.rd;obtain⟨nm,a6⟩:∃nm:ON,(⟨(k:Int),n.1,p2.1,t.1,G.1⟩:ON)=nm:=⟨_,rfl⟩;obtain⟨r5,a8⟩:=eR (kR G.2);obtain⟨c5,a3⟩:=eR (eX nm);have ae:=z.out;rw[a6]at aa i ae;rw[a3]at aa ae;rw[a8]at aB ae;obtain⟨nk,no,nn,ni,nt⟩:=nm;obtain⟨os,aq,_,_⟩:=eT no;obtain⟨ts,ar,_,_⟩:=eT nt;unfold fg at aa;simp only at aa;rw[aq,ar]at aa;have ac:=i.nmb;unfold ON.cells at ac;simp only at ac;rw[aq,ar]at ac;obtain⟨d0,d1,d2,d3,d4⟩:=ac.m5;have j:=Hd i;have ag:=Hd aB;have aw:=Hd aa;have af:=Hd ac;have aQ:=Hd aq;have aS:=Hd ar;have z:=Hd ae
 by_cases Y:r5=0
 ·have aW:(r5 != 0)=false:=by simpa using Y
  by_cases Z:c5=0
  ·have aX:(c5 != 0)=false:=by simpa using Z
   have e:=z.out;rw[if_neg (by simp[Y,Z])]at e;subst e
   go_wp2_with (first
    | (go_at_call 52;(with_reducible refine ag.out.mono ?_);rintro e E ⟨rfl,rfl⟩)
    | (go_at_call 53;(with_reducible refine aw.out.mono ?_);rintro e E ⟨rfl,m⟩;((have g:=j.out.quiet m;have d:=g.zb;have ab:=Hd d;have X:=af.out.fr m qs;obtain⟨d1,d2,d3,d4⟩:=ia X;have d0:=X.c 0;have g0:=d.f 0;have g1:=d.f 1;have g2:=d.f 2;have g3:=d.f 3;have g4:=d.f 4;unfold zC at d;obtain⟨y1,y2,y3,y4⟩:=ia d;have y0:=d.c 0;have H7:=Hd g.fr))))
   obtain⟨N,C⟩:=eR ((((((E.setCell ⟨w.heap.size,0,none⟩ nk).setCell ⟨w.heap.size,1,none⟩ os).setCell ⟨w.heap.size,2,none⟩ nn).setCell ⟨w.heap.size,3,none⟩ ni).setCell ⟨w.heap.size,4,none⟩ ts));have h8:BoxN N w.heap.size 31 #[nk,os,nn,ni,ts]:=by rw[<-C];exact(((((ab.out.setAt 0 _).setAt 1 _).setAt 2 _).setAt 3 _).setAt 4 _)
   have f8:Fr [] w N:=by rw[<-C];exact((((H7.out.set (.inr (fV _)) _).set (.inr (fV _)) _).set (.inr (fV _)) _).set (.inr (fV _)) _).set (.inr (fV _)) _
   rw[C];have F8:=Hd f8;obtain⟨t0,t1,t2,t3,t4⟩:=h8.m5;exact bodyPost_ret (v:=.tuple #[.agg #[nk,os,nn,ni,ts],L0]) (by simp[results,results48,go_sem,t0,t1,t2,t3,t4]) rfl ⟨by rw[<-aQ.out,<-aS.out];rfl,F8.out⟩
  ·have aX:(c5 != 0)=true:=by simpa using Z
   have e:=z.out;rw[if_pos (.inr Z)]at e;subst e
   go_wp2_with (first
    | (go_at_call 52;(with_reducible refine ag.out.mono ?_);rintro e E ⟨rfl,rfl⟩)
    | (go_at_call 53;(with_reducible refine aw.out.mono ?_);rintro e E ⟨rfl,m⟩;((have g:=j.out.quiet m;have d:=g.zb;have ab:=Hd d;have X:=af.out.fr m qs;obtain⟨d1,d2,d3,d4⟩:=ia X;have g0:=d.f 0;have g1:=d.f 1;have g2:=d.f 2;have g3:=d.f 3;have g4:=d.f 4;unfold zC at d;obtain⟨y1,y2,y3,y4⟩:=ia d;have y0:=d.c 0;have H7:=Hd g.fr))))
   obtain⟨N,C⟩:=eR ((((((E.setCell ⟨w.heap.size,0,none⟩ L0).setCell ⟨w.heap.size,1,none⟩ S0).setCell ⟨w.heap.size,2,none⟩ L0).setCell ⟨w.heap.size,3,none⟩ L0).setCell ⟨w.heap.size,4,none⟩ S0));have h8:BoxN N w.heap.size 31 #[L0,S0,L0,L0,S0]:=by rw[<-C];exact(((((ab.out.setAt 0 _).setAt 1 _).setAt 2 _).setAt 3 _).setAt 4 _)
   have f8:Fr [] w N:=by rw[<-C];exact((((H7.out.set (.inr (fV _)) _).set (.inr (fV _)) _).set (.inr (fV _)) _).set (.inr (fV _)) _).set (.inr (fV _)) _
   rw[C];have F8:=Hd f8;obtain⟨t0,t1,t2,t3,t4⟩:=h8.m5;exact bodyPost_ret (v:=.tuple #[.agg #[L0,S0,L0,L0,S0],(3:Int)]) (by simp[results,results48,go_sem,t0,t1,t2,t3,t4]) rfl ⟨rfl,F8.out⟩
 ·have aW:(r5 != 0)=true:=by simpa using Y
  have e:=z.out;rw[if_pos (.inl Y)]at e;subst e;have m:=Fq [] H
  ((have g:=j.out.quiet m;have d:=g.zb;have ab:=Hd d;have X:=af.out.fr m qs;obtain⟨d1,d2,d3,d4⟩:=ia X;have g0:=d.f 0;have g1:=d.f 1;have g2:=d.f 2;have g3:=d.f 3;have g4:=d.f 4;unfold zC at d;obtain⟨y1,y2,y3,y4⟩:=ia d;have y0:=d.c 0;have H7:=Hd g.fr))
  go_wp2_with ((go_at_call 52;(with_reducible refine ag.out.mono ?_);rintro e E ⟨rfl,rfl⟩))
  obtain⟨N,C⟩:=eR ((((((H.setCell ⟨w.heap.size,0,none⟩ L0).setCell ⟨w.heap.size,1,none⟩ S0).setCell ⟨w.heap.size,2,none⟩ L0).setCell ⟨w.heap.size,3,none⟩ L0).setCell ⟨w.heap.size,4,none⟩ S0));have h8:BoxN N w.heap.size 31 #[L0,S0,L0,L0,S0]:=by rw[<-C];exact(((((ab.out.setAt 0 _).setAt 1 _).setAt 2 _).setAt 3 _).setAt 4 _)
  have f8:Fr [] w N:=by rw[<-C];exact((((H7.out.set (.inr (fV _)) _).set (.inr (fV _)) _).set (.inr (fV _)) _).set (.inr (fV _)) _).set (.inr (fV _)) _
  rw[C];have F8:=Hd f8;obtain⟨t0,t1,t2,t3,t4⟩:=h8.m5;exact bodyPost_ret (v:=.tuple #[.agg #[L0,S0,L0,L0,S0],(3:Int)]) (by simp[results,results48,go_sem,t0,t1,t2,t3,t4]) rfl ⟨rfl,F8.out⟩
def fe(n:Nat):Nat:=2 ^ (Lib.bitLen (n - 1) - 1)
theorem oV:∀(f x:Nat),Lib.bitLenAux f x<=f
 | 0,x=>by simp[Lib.bitLenAux]
 | f+1,x=>by
  unfold Lib.bitLenAux;split
  ·omega
  ·have:=oV f (x / 2);omega
theorem AO{k x:Nat}(h:x<2 ^ k)(a:k<=64):Lib.bitLen x<=k:=by
 unfold Lib.bitLen;rw[Lib.bitLenAux_fuel k x h 64 a];exact oV k x
theorem j8(n:Nat)(h:2<=n)(i:n<=1048576)(w:World):Calls prog 171 #[.int .i64 (n:Int)] w λe w'=>e=.returned (.int .i64 (fe n:Nat))/\w'=w:=by
 have l:IntKind.i64.wrap ((n:Int) - 1)=((n - 1:Nat):Int):=by simp only[IntKind.wrap_i64];omega
 have j:1<=Lib.bitLen (n - 1):=by rw[Lib.bitLen_half (n - 1) qo qo];omega
 have k:Lib.bitLen (n - 1)<=20:=AO qo qo
 have g:wrap64 (2 ^ (Lib.bitLen (n - 1) - 1))=((fe n:Nat):Int):=by
  unfold fe;have d:(2:Nat) ^ (Lib.bitLen (n - 1) - 1)<=2 ^ 19:=Nat.pow_le_pow_right qo qo;have f:((2:Int) ^ (Lib.bitLen (n - 1) - 1))=((2 ^ (Lib.bitLen (n - 1) - 1):Nat):Int):=qs
  rw[f];generalize (2:Nat) ^ (Lib.bitLen (n - 1) - 1)=z at d ⊢;simp only[wrap64];omega
 have c:=Hd g;have a:=Tryz.bits_Len ((n - 1:Nat):Int) w qo qo;rw[show (((n - 1:Nat):Int)).toNat=n - 1 from rfl]at a;have b:=Hd a
 go_enter func171,ntmps171
 go_wp2_with ((go_at_call 172;(with_reducible refine b.out.mono ?_);rintro e m ⟨rfl,rfl⟩))
 go_ret
 exact⟨by rw[<-c.out];rfl,rfl⟩
theorem wu(w:World):Calls prog 87 #[] w λe w'=>e=.returned (.pointer (some ⟨w.heap.size,0,none⟩))/\BoxN w' w.heap.size 237 #[.slice none 0 0,.map none]/\Fr [] w w':=by
 go_enter func87,ntmps87
 go_wp2_with fail
 go_ret
 exact⟨rfl,BoxN.new w _ _,(Fq [] w).alloc _⟩
structure KY where
 rnd:Int
 phase:Int
 idx:Int
 lin:Nm
def lK(k:KY):Value:=.agg #[.int .i64 k.rnd,.int .i64 k.phase,.int .i64 k.idx,ft k.lin]
def pJ(a b:KY):Int:=tP [Lib.compareInt a.rnd b.rnd,Lib.compareInt a.phase b.phase,Lib.compareInt a.idx b.idx,jt (fG a.lin) (fG b.lin)]
theorem CM(w:World)(a b c d:Int)(t:TypeId):Row ((w.alloc (.cells #[.int .i64 a,.int .i64 b,.int .i64 c,.int .i64 d] t))) (w.alloc (.cells #[.int .i64 a,.int .i64 b,.int .i64 c,.int .i64 d] t)).heap.size 1 (some ⟨w.heap.size,0,none⟩) 4 ([a,b,c,d].map uA):=by
 refine⟨qs,λ_=>⟨_,0,rfl,qs,λj u e=>?_⟩⟩;have:=kf w [a,b,c,d] t j u (by simpa [uA]using e);rw[fx]at this;rw[Nat.zero_add];exact this
theorem lL(a b:KY)(w:World)(x:gp a.lin=true)(y:gp b.lin=true)(X:a.lin.length<=140737488355328)(Y:b.lin.length<=140737488355328):Calls prog 91 #[lK a,lK b] w (ja w (pJ a b)):=by
 obtain⟨r,m⟩:=eR (pJ a b);rw[m];unfold pJ at m;obtain⟨k,i,j,R⟩:=a;obtain⟨h,f,g,S⟩:=b;unfold lK;simp only at x y X Y m ⊢;obtain⟨p,O,u,aa⟩:=eT R;obtain⟨p2,P,v,ab⟩:=eT S;rw[O,P];obtain⟨z,n⟩:=eR (w.alloc (.cells #[k,i,j,p] 89));obtain⟨w2,o⟩:=eR (z.alloc (.cells #[h,f,g,p2] 89));have M:Fr [] w w2:=by rw[<-o,<-n];exact((Fq [] w).alloc _).alloc _
 have J:BoxN w2 w.heap.size 89 #[k,i,j,p]:=by rw[<-o,<-n];exact(BoxN.new w _ _).alloc _
 have K:BoxN w2 (w.heap.size+1) 89 #[h,f,g,p2]:=by rw[<-o];have:=BoxN.new z 89 #[h,f,g,p2];rw[show z.heap.size=w.heap.size+1 by rw[<-n,kX]]at this;exact this
 have t:=λW=>mS p p2 W qo qo (by rw[u];exact x) (by rw[v];exact y);rw[u,v]at t
 have Q:∀W,Fr [] w2 W->W.cell? ⟨w.heap.size,0,none⟩=some k/\W.cell? ⟨w.heap.size+1,0,none⟩=some h/\W.cell? ⟨w.heap.size,1,none⟩=some i/\W.cell? ⟨w.heap.size+1,1,none⟩=some f/\W.cell? ⟨w.heap.size,2,none⟩=some j/\W.cell? ⟨w.heap.size+1,2,none⟩=some g/\W.cell? ⟨w.heap.size,3,none⟩=some p/\W.cell? ⟨w.heap.size+1,3,none⟩=some p2:=λW L =>
  have q:=J.fr L qs;have s:=K.fr L qs
  ⟨q.c 0,s.c 0,q.c 1,s.c 1,q.c 2,s.c 2,q.c 3,s.c 3⟩
 have C:=Hd (λW=>Tryz.cmp_Compare_int k h W);have D:=Hd (λW=>Tryz.cmp_Compare_int i f W);have E:=Hd (λW=>Tryz.cmp_Compare_int j g W);have B:=Hd t;have l:=Hd m;have HSS:=Hd Q;have U:=Hd n;have V:=Hd o;have T:=Hd M;clear m n o M J K t Q x y O P u v aa ab;generalize Lib.compareInt k h=F at C l;generalize Lib.compareInt i f=G at D l;generalize Lib.compareInt j g=H at E l;generalize jt (fG R) (fG S)=I at B l
 go_enter func91,ntmps91
 go_upto_region 1 with fail
 rw[U.out,V.out];generalize hZ:w.heap.size=d at HSS ⊢
 go_region_held3 (λW=>W.cell? ⟨d,0,none⟩=some k/\W.cell? ⟨d+1,0,none⟩=some h/\W.cell? ⟨d,1,none⟩=some i/\W.cell? ⟨d+1,1,none⟩=some f/\W.cell? ⟨d,2,none⟩=some j/\W.cell? ⟨d+1,2,none⟩=some g/\W.cell? ⟨d,3,none⟩=some p/\W.cell? ⟨d+1,3,none⟩=some p2) (with_reducible refine HSS.out _ ?_;(repeat(first|exact Fq _ _|exact N|refine Fr.drew ?_|refine Fr.alloc ?_ _));done) (first
  | (go_at_call 133;(with_reducible refine(C.out _).mono ?_);rintro e A ⟨rfl,rfl⟩)
  | (go_at_call 133;(with_reducible refine(D.out _).mono ?_);rintro e A ⟨rfl,rfl⟩)
  | (go_at_call 133;(with_reducible refine(E.out _).mono ?_);rintro e A ⟨rfl,rfl⟩)
  | (go_at_call 152;(with_reducible refine(B.out _).mono ?_);rintro e w3 ⟨rfl,Z⟩;have N:=(Fq [] w2).drew.then (Fr.of_below Z))
  | (go_at_call 132;(with_reducible refine(wQ _ 4 4 _ [F,G,H,I] _ (CM _ F G H I _) qo).mono ?_);rintro e A ⟨rfl,rfl⟩))
 all_goals
  go_wp2_with fail
  go_ret
  exact⟨by rw[l.out];rfl,by repeat(first|exact T.out.then N|refine Fr.drew ?_|refine Fr.alloc ?_ _)⟩
def Kp(b:Nat)(w w':World):Prop:=∀Z t cs,t≠5->Z≠b->BoxN w Z t cs->BoxN w' Z t cs
theorem Kp.trans{b : Nat}{w w' w'' : World}(h : Kp b w w')(k : Kp b w' w''): Kp b w w'' := λZ t cs c d f => k Z t cs c d (h Z t cs c d f)
theorem Kp.fr0{b:Nat}{w w':World}(h:Fr [] w w'):Kp b w w':=λ_ _ _ _ _ c=>c.fr h qs
theorem Ee{w:World}{A:Option Addr}{n c Z:Nat}{xs:List Value}{t:TypeId}{cs:Array Value}(l:Own w 5 1 A n c xs)(j:BoxN w Z t cs)(m:t≠5):Z ∉ eV A:=by
 intro d
 rcases l.2 with⟨h,_⟩|⟨g,p,q,h,_,k,_⟩
 ·injection h with f _ _
  rw[f]at d;simp[eV]at d
 ·injection h with f _ _
  rw[f]at d;have o:Z=g:=by simpa [eV]using d
  subst o;have e:=j.symm.trans k
  injection e with e
  injection e with _ i _
  exact m i
theorem WPost.kp{w w':World}{b:Nat}{A:Option Addr}{bs bs':Nm}{e:Ending}(h:WrAt w b A bs)(g:WPost w b A bs' e w'):Kp b w w':=by
 obtain⟨c,_,f,_⟩:=h;obtain⟨_,A',_,k,_⟩:=g;intro Z t cs i j d;exact d.fr k (by rw[List.mem_cons];rintro (h|h);exact j h;exact Ee f d i h)
section
variable {a w w':World} {b:Nat} {A:Option Addr} {bs bs':Nm} {e:Ending}
theorem ki(i:WrS a b bs w)(n:Nat)(h:n<=9223372036854775807)(j:bs.length<=70368744177600):
 Calls prog 57 #[.pointer (some ⟨b,0,none⟩),.int .i64 (n:Int)] w λe w'=>e=.returned (.tuple #[])/\WrS a b (bs++gg n) w'/\Kp b w w':=by
 obtain⟨A,c,f,g⟩:=i;have:=fJ h;exact(rY w b A bs n c h (by rw[gG];omega)).mono λe w' d=>⟨(WrS.step c f g d).1,(WrS.step c f g d).2,WPost.kp c d⟩
theorem yK(h:WrS a b bs w)(v:Bool)(i:bs.length<=70368744177600):
 Calls prog 122 #[.pointer (some ⟨b,0,none⟩),.bool v] w λe w'=>e=.returned (.tuple #[])/\WrS a b (bs++[mX v]) w'/\Kp b w w':=by
 obtain⟨A,c,f,g⟩:=h;exact(wg w b A bs v c qo).mono λe w' d=>⟨(WrS.step c f g d).1,(WrS.step c f g d).2,WPost.kp c d⟩
theorem oW(h:WrS a b bs w)(s:Nm)(i:s.length<=16777216)(j:bs.length+s.length<=70368744177600):
 Calls prog 56 #[.pointer (some ⟨b,0,none⟩),ft s] w λe w'=>e=.returned (.tuple #[])/\WrS a b (bs++iV s) w'/\Kp b w w':=by
 obtain⟨A,c,f,g⟩:=h;have:=iC (s:=s) qo;exact(wh w b A bs s c i (by rw[gG];omega)).mono λe w' d=>⟨(WrS.step c f g d).1,(WrS.step c f g d).2,WPost.kp c d⟩
end
def lM(k:KY):Nm:=((gg k.rnd.toNat++gg k.phase.toNat)++gg k.idx.toNat)++iV k.lin
theorem WrS.blt{a w:World}{b:Nat}{bs:Nm}(h:WrS a b bs w):b<w.heap.size:=by obtain⟨A,c,_⟩:=h;exact c.lt
theorem WrS.alloc{a w:World}{b:Nat}{bs:Nm}(h:WrS a b bs w)(o:Obj):WrS a b bs (w.alloc o):=h.more ((Fq [] w).alloc _) h.blt
theorem wv(k:KY)(a w:World)(b:Nat)(bs:Nm)(t:WrS a b bs w)(C:0<=k.rnd/\k.rnd<=9223372036854775807)(f:0<=k.phase/\k.phase<=9223372036854775807)(g:0<=k.idx/\k.idx<=9223372036854775807)(d:k.lin.length<=16777216)(q:bs.length<=70368700000000):
 Calls prog 121 #[lK k,.pointer (some ⟨b,0,none⟩)] w λe w'=>e=.returned (.tuple #[])/\WrS a b (bs++lM k) w'/\Kp b w w':=by
 obtain⟨n,i,j,o⟩:=k;unfold lK lM;simp only at C f g d ⊢;obtain⟨p,y,_,_⟩:=eT o;have ab:=t.blt;obtain⟨z,r⟩:=eR (w.alloc (.cells #[n,i,j,p] 89));have H:WrS a b bs z:=by rw[<-r];exact t.alloc _
 have v:BoxN z w.heap.size 89 #[n,i,j,p]:=by rw[<-r];exact BoxN.new w _ _
 have D:Kp b w z:=by rw[<-r];exact Kp.fr0 ((Fq [] w).alloc _)
 have x:w.heap.size≠b:=qo
 have h:=fJ (u:=n.toNat) qo;have l:=fJ (u:=i.toNat) qo;have m:=fJ (u:=j.toNat) qo;have x0:=v.k0;have c:=ki H n.toNat qo qo;rw[show ((n.toNat:Nat):Int)=n by omega]at c;have R:=Hd c;have I:=Hd v;have K:=Hd D;have V:=Hd r;have P:=Hd y;have s:=Hd (An h (An l (An m (An f (An g (An d q))))));rw[y];clear c v D r H t C f g d h l m q y
 go_enter func121,ntmps121
 go_upto_region 1 with fail
 rw[V.out]
 go_upto_region 2 with((go_at_call 57;(with_reducible refine R.out.mono ?_);rintro e w2 ⟨rfl,X,E⟩))
 have A:=Hd (E _ _ _ qd x I.out);have L:=Hd (K.out.trans E);obtain⟨h,l,m,f,g,d,q⟩:=s.out;have x1:=A.out.k1;have c:=ki X i.toNat qo (by simp only[gG];omega);rw[show ((i.toNat:Nat):Int)=i by omega]at c;have S:=Hd c
 go_upto_region 3 with((go_at_call 57;(with_reducible refine S.out.mono ?_);rintro e w3 ⟨rfl,Y,F⟩))
 have B:=Hd (F _ _ _ qd x A.out);have M:=Hd (L.out.trans F);obtain⟨h,l,m,f,g,d,q⟩:=s.out;have x2:=B.out.k2;have c:=ki Y j.toNat qo (by simp only[gG];omega);rw[show ((j.toNat:Nat):Int)=j by omega]at c;have T:=Hd c
 go_upto_region 4 with((go_at_call 57;(with_reducible refine T.out.mono ?_);rintro e w4 ⟨rfl,Z,G⟩))
 have J:=Hd (G _ _ _ qd x B.out);have N:=Hd (M.out.trans G);obtain⟨h,l,m,f,g,d,q⟩:=s.out;have x3:=J.out.k3;have c:=oW Z o d (by simp only[gG];omega);rw[P.out]at c;have U:=Hd c
 go_wp2_with ((go_at_call 56;(with_reducible refine U.out.mono ?_);rintro e w5 ⟨rfl,aa,W⟩;have Q:=Hd aa;have O:=Hd (N.out.trans W)))
 go_end0
 exact⟨rfl,by have:=Q.out;simpa only[List.append_assoc]using this,O.out⟩
end Go.Proofs.YtlpmiimgacfmkaaGreatDoor
