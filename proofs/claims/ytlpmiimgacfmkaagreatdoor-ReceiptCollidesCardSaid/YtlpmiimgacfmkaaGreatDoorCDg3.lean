/- Part of the proof. -/
import Derived.Stop.BytesEq
import Derived.WideKeyEntry
import Derived.Test.YtlpmiimgacfmkaaGreatDoorCGp
set_option linter.all false
set_option maxHeartbeats 4000000
set_option maxRecDepth 100000
namespace Go.Proofs.YtlpmiimgacfmkaaGreatDoor
open Go.Proofs.Tryz List
open Go.RowKit
def rM(w:World)(a:AG)(e:Ending)(w':World):Prop :=
 ∃x:AX,x.a=a/\e=.returned (.tuple #[x.v,.int .i64 0])/\x.ok w'/\Fr [] w w'/\(∀k∈eX x.A,w.heap.size<=k)/\∀k∈eX x.B,w.heap.size<=k
def lL(s:Nm):Option AG :=
 (qO (lR ⟨s,0,0⟩).2).bind λx=>(qO x.2).bind λy =>
  if jD y.2=0/\l6 ⟨(lR ⟨s,0,0⟩).1,x.1,y.1⟩=true then some ⟨(lR ⟨s,0,0⟩).1,x.1,y.1⟩else none
def Dd:Value:=.agg #[.int .i64 0,.int .i64 0,.int .i64 0,.string ⟨#[]⟩,.slice none 0 0,.slice none 0 0]
def De(w:World)(o:Option AG)(e:Ending)(w':World):Prop:=match o with
 | none=>e=.returned (.tuple #[Dd,.int .i64 3])/\Fr [] w w'
 | some a=>rM w a e w'
def tJ(s:Nm):(mR s).1.owner.length<=16777216/\(mR s).1.text.length<=16777216:=by
 unfold mR;split
 ·exact⟨by simp[Hw],by simp[Hw]⟩
 ·unfold yQ FC
  refine⟨?_,?_⟩
  ·simp only
   split
   ·exact jq _ _
   ·simp
  ·simp only
   split
   ·exact jq _ _
   ·simp
def Df{r q:RS}{x:CH}(h:sh r=some (x,q)):x.fit:=by
 unfold sh at h;split at h
 ·injection h with h
  injection h with a d
  have b:=tJ (fU 16777216 r).1;have c:=jq 65536 (jb (fU 16777216 r).2).2;rw[<-a];exact⟨by simp only;omega,by simp only;omega,by simp only;omega⟩
 ·cases h
def tK:∀ {n:Nat} {r:RS} {l:List CH} {q:RS},jA n r=some (l,q)->∀x∈l,x.fit
 | 0,r,l,q,h=>by rw[jA]at h;injection h with h;injection h with a d;rw[<-a];simp
 | n+1,r,l,q,h=>by
  rw[jA]at h;have⟨x,e,h⟩:=Option.bind_eq_some_iff.1 h;have⟨y,f,h⟩:=Option.map_eq_some_iff.1 h
  injection h with a d
  intro z c;rw[<-a]at c
  rcases mem_cons.1 c with b|b
  ·rw[b];exact Df (q:=x.2) e
  ·exact tK (l:=y.1) (q:=y.2) f z b
def oe{r q:RS}{l:List CH}(h:qO r=some (l,q)):(∀x∈l,x.fit)/\l.length<=r.l.length:=by
 unfold qO at h;have a:=tZ h;have b:=(oK r.l.length r).2;exact⟨tK h,by rw[a];omega⟩
def js{α:Type}(z:α)(r:RS)(x:α × Nat × Int):(ji z r x).2.l.length<=r.l.length:=by
 unfold ji;split
 ·exact fW _
 ·split
  ·exact fW _
  ·simp only[length_drop]
   omega
def Dg{r q:RS}{x:CH}(h:sh r=some (x,q)):q.l.length<=r.l.length:=by
 unfold sh at h;split at h
 ·injection h with h
  injection h with b a
  rw[<-a];exact Nat.le_trans (js _ _ _) (Nat.le_trans (js _ _ _) (js _ _ _))
 ·cases h
def rN:∀ {n:Nat} {r:RS} {l:List CH} {q:RS},jA n r=some (l,q)->q.l.length<=r.l.length
 | 0,r,l,q,h=>by rw[jA]at h;injection h with h;injection h with b a;rw[<-a];exact fW _
 | n+1,r,l,q,h=>by
  rw[jA]at h;have⟨x,c,h⟩:=Option.bind_eq_some_iff.1 h;have⟨y,d,h⟩:=Option.map_eq_some_iff.1 h
  injection h with b a
  have e:=Dg (q:=x.2) (x:=x.1) c;have f:=rN (l:=y.1) (q:=y.2) d;rw[<-a];omega
def tL{r q:RS}{l:List CH}(h:qO r=some (l,q)):q.l.length<=r.l.length:=Nat.le_trans (rN h) (js _ _ _)
def rO(r:RS):(lR r).2.l.length<=r.l.length :=
 Nat.le_trans (js _ _ _) (Nat.le_trans (js _ _ _) (Nat.le_trans (js _ _ _) (js _ _ _)))
def AY(s:ByteArray)(w:World)(af:Ok w)(hs:s.size<=2000000):Calls prog 134 #[.string s] w (De w (lL s.data.toList)):=by
 obtain⟨I,r1,h⟩:∃I r1,lR ⟨s.data.toList,0,0⟩=(I,r1):=⟨_,_,rfl⟩;have bM:s.data.toList.length=s.size:=by simp[<-ByteArray.size_data]
 have bt:r1.l.length<=2000000:=by have C:=rO ⟨s.data.toList,0,0⟩;rw[h]at C;simp only at C;omega
 have⟨o,p⟩:=eR (lL s.data.toList);have az:=Hd p;rw[p];clear p;have⟨w1,bv,a9,bn⟩:=kJ w (lV) 91;have⟨bE,w2,bJ,aI,br⟩:=Ac s w1;have bN:w.heap.size<w2.heap.size:=by have:=a9.lt;have:=aI.size;omega
 have bg:=oJ _ s.size bE _ _ w2 br (by rintro a C;injection C with C;rw[<-C]) qo;have HZ:=Hd (a9.fr aI qs);have HF:=Hd (bn.then aI);have HN:=Hd bg;have aR:=Hd bv;have HL:=Hd (An h True.intro);have⟨ti,a7⟩:=eR (I.rnd);have⟨ph,a5⟩:=eR (I.phase);have⟨ix,F⟩:=eR (I.idx);have⟨N,a6,_,_⟩:=eS I.lin;have bm:lU I=.agg #[.int .i64 ti,.int .i64 ph,.int .i64 ix,.string N]:=by unfold lU;rw[a7,a5,F,a6]
 have U:=Hd (An a7 (An a5 (An F a6)));have bB:=Hd bm;clear bv a9 bn aI br bg h bm a7 a5 F a6 bM;unfold lV at aR
 go_enter func134,ntmps134
 go_upto_region 1 with fail
 rw[aR.out]
 go_upto_region 2 with((go_at_call 47;(with_reducible refine HN.out.mono ?_);rintro e w3 ⟨b,rfl,aM,aY⟩))
 have⟨c0,ap⟩:=eR (w2.heap.size);have⟨V,bI⟩:=eR (w3.heap.size);rw[ap,bI]at aM;rw[ap]at bN;have bO:c0<=b/\b<V:=by obtain⟨A,_,G,W,_⟩:=aM;exact⟨G,W⟩
 have bd:=Hd (HZ.fr aY qs);have bb:=Hd (HF.then aY);have bQ:=af.low;have hK:=zj c0 V b _ w3 aM qo;rw[HL.1,bB.out]at hK;have HK:=Hd hK;clear hK aM HN aR HZ HF aY bJ
 go_upto_region 3 with((go_at_call 176;(with_reducible refine HK.out.mono ?_);rintro e w4 ⟨rfl,bs,aJ⟩))
 have⟨J,bw,aH,ar⟩:=kJ w4 #[.int .i64 ti,.int .i64 ph,.int .i64 ix,.string N,.slice none 0 0,.slice none 0 0] 91;have bR:=aJ.size;have bP:V<=J.heap.size:=by have:=ar.size;omega
 have bf:Fr [b] w J:=(bb.trans aJ (by simp;omega)).then (ar.mono qs) |>.mono qs;have al:w4.heap.size≠b:=qo
 have bF:V<=w4.heap.size:=qo
 have bG:=aH.lt;have bH:w.heap.size≠w4.heap.size:=qo
 have bh:=(bd.fr aJ (by simp;omega)).fr ar qs;rw[bw];generalize w4.heap.size=D at aH al bF bG bH ⊢;have ad:=Hd bf;have aA:=Hd (bs.fr0 ar);have ab:=Hd aH;have aD:=Hd bh;clear bw aH ar bf bh bs aJ HK bb bd
 go_wp2
 refine wp_loop_rounds 3 ?_;rw[rounds_succ]
 rcases G:qO r1 with _|⟨lr,r2⟩
 ·have p:o=none:=by rw[<-az.out];unfold lL;rw[HL.1];simp only;rw[G];rfl
  have Y:=Hd p;clear p;have F:(Instr.index 300 (.agg #[.pointer (some ⟨D,4,none⟩),.pointer (some ⟨D,5,none⟩)]) (.int .i64 0)).run prog J=.ok (.pointer (some ⟨D,4,none⟩)) J:=kR J _ _ _ 0 qo rfl
  go_upto_region 7 with fail
  clear F;have aK:=ab.lt;have u:=jP c0 V b r1 J (af.fr (S:=[b]) ad.out (by simp;omega)) aA.out qo qo bt;rw[G]at u;have z:=Hd u;clear u
  go_upto_region 8 with((go_at_call 177;(with_reducible refine z.out.mono ?_);rintro e R ⟨rfl,i⟩;have q:=ab.fr i (by simpa using al);have Z:(R).cell? ⟨D,4,none⟩=some _:=q.c 4;have df:=q.f 4;have L:=Hd q;clear q))
  have⟨y,t⟩:=eR ((R).setCell ⟨D,4,none⟩ (.slice none 0 0));have j:Fr [D] R y:=by rw[<-t];exact(Fq [D] R).st _
  rw[t];have aO:=Hd ((ad.then i).trans j (by simp;omega));have aT:=Hd ((aD.fr i (by simp;omega)).fr j (by simp;omega));clear t j i Z df L z aK ad aA ab aD;have g:=aT.out;unfold lV at g;have⟨ax,z1,z2,z3,z4,z5⟩:=g.m6;have g0:=g.f 0;have g1:=g.f 1;have g2:=g.f 2;have g3:=g.f 3;have g4:=g.f 4;have g5:=g.f 5
  go_wp2
  have⟨X9,E,n9,f9⟩:=rn (y) (w.heap.size) g (.int .i64 0) (.int .i64 0) (.int .i64 0) (.string ⟨#[]⟩) (.slice none 0 0) (.slice none 0 0);rw[E];clear E;have⟨O,t1,t2,t3,P,Q⟩:=n9.m6;refine bodyPost_ret (v:=.tuple #[.agg #[.int .i64 0,.int .i64 0,.int .i64 0,.string ⟨#[]⟩,.slice none 0 0,.slice none 0 0],.int .i64 3]) (by simp[results,results134,go_sem,O,t1,t2,t3,P,Q]) rfl ?_;rw[Y.out];exact⟨rfl,(aO.trans f9 qs).mono (by simp;omega)⟩
 have aZ:=oe G;have bu:r2.l.length<=2000000:=by have:=tL G;omega
 have F:(Instr.index 300 (.agg #[.pointer (some ⟨D,4,none⟩),.pointer (some ⟨D,5,none⟩)]) (.int .i64 0)).run prog J=.ok (.pointer (some ⟨D,4,none⟩)) J:=kR J _ _ _ 0 qo rfl
 go_upto_region 7 with fail
 clear F;have aK:=ab.lt;have u:=jP c0 V b r1 J (af.fr (S:=[b]) ad.out (by simp;omega)) aA.out qo qo bt;rw[G]at u;have z:=Hd u;clear u
 go_upto_region 8 with((go_at_call 177;(with_reducible refine z.out.mono ?_);rintro e R ⟨A,c,rfl,au,i,aq,aa⟩;obtain⟨n,a4⟩:∃n,(lr).length=n:=⟨_,rfl⟩;rw[a4];have ai:=Hd a4;clear a4;have q:=ab.fr i (by simpa using al);have Z:(R).cell? ⟨D,4,none⟩=some _:=q.c 4;have df:=q.f 4;have L:=Hd q;clear q))
 have⟨y,t⟩:=eR ((R).setCell ⟨D,4,none⟩ (.slice A n c));have j:Fr [D] R y:=by rw[<-t];exact(Fq [D] R).st _
 have ao:BoxN y D 91 #[.int .i64 ti,.int .i64 ph,.int .i64 ix,.string N,.slice A n c,.slice none 0 0]:=by rw[<-t];exact L.setAt 4 _
 rw[t]
 have ak:∀k∈eX A,k ∉ [D]:=by
  intro k h;have:=aa k h;simp only[ip];omega
 have M:=Hd (An (aq.fr j ak) (An aa aK));have aB:=Hd (au.fr j (by simp;omega));have ae:=Hd ((ad.then i).trans j (by simp;omega));have ac:=Hd ao;have aE:=Hd ((aD.fr i (by simp;omega)).fr j (by simp;omega));clear t ao j ak i aq aa au Z df L z aK ad aA ab aD
 go_wp2
 rw[rounds_succ]
 rcases W:qO r2 with _|⟨lw,r3⟩
 ·have p:o=none:=by rw[<-az.out];unfold lL;rw[HL.1];simp only;rw[G];simp only[Option.bind_some];rw[W];rfl
  have Y:=Hd p;clear p;have F:(Instr.index 300 (.agg #[.pointer (some ⟨D,4,none⟩),.pointer (some ⟨D,5,none⟩)]) (.int .i64 1)).run prog y=.ok (.pointer (some ⟨D,5,none⟩)) y:=kR y _ _ _ 1 qo rfl
  go_upto_region 7 with fail
  clear F;have aL:=ac.lt;have u:=jP c0 V b r2 y (af.fr (S:=[b]) ae.out (by simp;omega)) aB.out qo qo bu;rw[W]at u;have z:=Hd u;clear u
  go_upto_region 8 with((go_at_call 177;(with_reducible refine z.out.mono ?_);rintro e T ⟨rfl,i⟩;have q:=ac.fr i (by simpa using al);have Z:(T).cell? ⟨D,5,none⟩=some _:=q.c 5;have df:=q.f 5;have L:=Hd q;clear q))
  have⟨K,t⟩:=eR ((T).setCell ⟨D,5,none⟩ (.slice none 0 0));have j:Fr [D] T K:=by rw[<-t];exact(Fq [D] T).st _
  rw[t];have aO:=Hd ((ae.then i).trans j (by simp;omega));have aT:=Hd ((aE.fr i (by simp;omega)).fr j (by simp;omega));clear t j i Z df L z aL ae aB ac aE;have g:=aT.out;unfold lV at g;have⟨ax,z1,z2,z3,z4,z5⟩:=g.m6;have g0:=g.f 0;have g1:=g.f 1;have g2:=g.f 2;have g3:=g.f 3;have g4:=g.f 4;have g5:=g.f 5
  go_wp2
  have⟨X9,E,n9,f9⟩:=rn (K) (w.heap.size) g (.int .i64 0) (.int .i64 0) (.int .i64 0) (.string ⟨#[]⟩) (.slice none 0 0) (.slice none 0 0);rw[E];clear E;have⟨O,t1,t2,t3,P,Q⟩:=n9.m6;refine bodyPost_ret (v:=.tuple #[.agg #[.int .i64 0,.int .i64 0,.int .i64 0,.string ⟨#[]⟩,.slice none 0 0,.slice none 0 0],.int .i64 3]) (by simp[results,results134,go_sem,O,t1,t2,t3,P,Q]) rfl ?_;rw[Y.out];exact⟨rfl,(aO.trans f9 qs).mono (by simp;omega)⟩
 have a3:=oe W;have F:(Instr.index 300 (.agg #[.pointer (some ⟨D,4,none⟩),.pointer (some ⟨D,5,none⟩)]) (.int .i64 1)).run prog y=.ok (.pointer (some ⟨D,5,none⟩)) y:=kR y _ _ _ 1 qo rfl
 go_upto_region 7 with fail
 clear F;have aL:=ac.lt;have u:=jP c0 V b r2 y (af.fr (S:=[b]) ae.out (by simp;omega)) aB.out qo qo bu;rw[W]at u;have z:=Hd u;clear u
 go_upto_region 8 with((go_at_call 177;(with_reducible refine z.out.mono ?_);rintro e T ⟨B,d,rfl,au,i,aq,aa⟩;obtain⟨m,hm⟩:∃n,(lw).length=n:=⟨_,rfl⟩;rw[hm];have aj:=Hd hm;clear hm;have q:=ac.fr i (by simpa using al);have Z:(T).cell? ⟨D,5,none⟩=some _:=q.c 5;have df:=q.f 5;have L:=Hd q;clear q))
 have⟨K,t⟩:=eR ((T).setCell ⟨D,5,none⟩ (.slice B m d));have j:Fr [D] T K:=by rw[<-t];exact(Fq [D] T).st _
 have ao:BoxN K D 91 #[.int .i64 ti,.int .i64 ph,.int .i64 ix,.string N,.slice A n c,.slice B m d]:=by rw[<-t];exact L.setAt 5 _
 rw[t]
 have ak:∀k∈eX B,k ∉ [D]:=by
  intro k h;have:=aa k h;simp only[ip];omega
 have ag:=Hd (An (aq.fr j ak) (An aa aL));have bD:=Hd (au.fr j (by simp;omega));have ay:=Hd ((ae.then i).trans j (by simp;omega));have ba:=Hd ao;have aU:=Hd ((aE.fr i (by simp;omega)).fr j (by simp;omega));have bc:=Hd (An i j);clear t ao j ak i aq aa au Z df L z aL ae aB ac aE;obtain⟨a,aG,am,an⟩:∃a:AG,a.k=I/\a.r=lr/\a.w=lw:=⟨⟨I,lr,lw⟩,rfl,rfl,rfl⟩
 have p:o=if jD r3=0/\l6 a=true then some a else none:=by
  rw[<-az.out];unfold lL;rw[HL.1];simp only;rw[G];simp only[Option.bind_some];rw[W];simp only[Option.bind_some];have:a=⟨I,lr,lw⟩:=by cases a;simp only at aG am an;rw[aG,am,an]
  rw[this]
 have bp:a.fitx:=⟨by rw[aG];have C:=jq 16777216 (fe 999999 (fe 2 (fe 1073741824 ⟨s.data.toList,0,0⟩).2).2).2;have e:=congrArg (λx=>x.1.lin) HL.1;unfold lR at e;simp only at e;rw[<-e];omega,by rw[am];exact aZ.1,by rw[an];exact a3.1,by rw[am];have:=aZ.2;omega,by rw[an];have:=a3.2;omega⟩;subst aG am an;have bC:=Hd bp;have Y:=Hd p;clear p bp G W aZ a3 az;have aV:Own K 95 7 A n c (a.r.flatMap CH.cs):=by rw[<-ai.out];exact(M.1.fr bc.1 (by intro k h;have:=M.2.1 k h;have:=M.2.2;simp only[ip];omega)).fr bc.2 (by intro k h;have:=M.2.1 k h;have:=M.2.2;simp only[ip];omega)
 have bK:∀k∈eX A,w.heap.size<=k/\k≠b:=by intro k h;have:=M.2.1 k h;have:=M.2.2;omega
 have bL:∀k∈eX B,w.heap.size<=k/\k≠b:=by intro k h;have:=ag.2.1 k h;have:=ag.2.2;omega
 have aW:Own K 95 7 B m d (a.w.flatMap CH.cs):=by rw[<-aj.out];exact ag.1
 have bq:Ok K:=af.fr (S:=[b]) ay.out (by simp;omega);have hW:=pV a N A B c d K bq U.2.2.2 (by unfold Chs;rw[ai.out];exact aV.rd) (by unfold Chs;rw[aj.out];exact aW.rd) bC.out;have⟨wb,a8⟩:=eR (l6 a);rw[a8]at hW;unfold AG.val at hW;rw[ai.out,aj.out,U.1,U.2.1,U.2.2.1]at hW;have hC:=wT bD.out;have⟨cl,aX⟩:=eR (jD r3);rw[aX]at hC;have aC:=Hd (An a8 aX);clear a8 aX;have⟨y0,y1,y2,y3,y4,y5⟩:=ba.m6;have HC:=Hd hC;have HW:=Hd hW;have bz:=Hd aV;have bA:=Hd aW;clear hC hW aV aW bq
 go_wp2
 rw[rounds_succ]
 by_cases ap:cl=0
 case neg =>
  have p:o=none:=by rw[Y.out,aC.2,if_neg (λC=>ap C.1)]
  have aQ:=Hd p;clear p
  go_upto_region 12 with(go_at_call 52;(with_reducible refine HC.out.mono ?_);rintro e bx ⟨rfl,rfl⟩)
  clear y0 y1 y2 y3 y4 y5;have g:=aU.out;unfold lV at g;have⟨ax,z1,z2,z3,z4,z5⟩:=g.m6;have g0:=g.f 0;have g1:=g.f 1;have g2:=g.f 2;have g3:=g.f 3;have g4:=g.f 4;have g5:=g.f 5
  go_wp2
  have⟨X9,E,n9,f9⟩:=rn (K) (w.heap.size) g (.int .i64 0) (.int .i64 0) (.int .i64 0) (.string ⟨#[]⟩) (.slice none 0 0) (.slice none 0 0);rw[E];clear E;have⟨O,t1,t2,t3,P,Q⟩:=n9.m6;refine bodyPost_ret (v:=.tuple #[.agg #[.int .i64 0,.int .i64 0,.int .i64 0,.string ⟨#[]⟩,.slice none 0 0,.slice none 0 0],.int .i64 3]) (by simp[results,results134,go_sem,O,t1,t2,t3,P,Q]) rfl ?_;rw[aQ.out];exact⟨rfl,(ay.trans f9 qs).mono (by simp;omega)⟩
 subst ap
 cases wb with
 | false =>
  have p:o=none:=by rw[Y.out,aC.1,if_neg (λC=>by simp at C)]
  have aQ:=Hd p;clear p
  go_upto_region 12 with(first
   | (go_at_call 52;(with_reducible refine HC.out.mono ?_);rintro e bx ⟨rfl,rfl⟩)
   | (go_at_call 120;(with_reducible refine HW.out.mono ?_);rintro e av ⟨rfl,X⟩))
  clear y0 y1 y2 y3 y4 y5;have ah:=Hd (ay.then (X.mono qs));have aS:=Hd (aU.fr X qs);clear X;have g:=aS.out;unfold lV at g;have⟨ax,z1,z2,z3,z4,z5⟩:=g.m6;have g0:=g.f 0;have g1:=g.f 1;have g2:=g.f 2;have g3:=g.f 3;have g4:=g.f 4;have g5:=g.f 5
  go_wp2
  have⟨X9,E,n9,f9⟩:=rn (av) (w.heap.size) g (.int .i64 0) (.int .i64 0) (.int .i64 0) (.string ⟨#[]⟩) (.slice none 0 0) (.slice none 0 0);rw[E];clear E;have⟨O,t1,t2,t3,P,Q⟩:=n9.m6;refine bodyPost_ret (v:=.tuple #[.agg #[.int .i64 0,.int .i64 0,.int .i64 0,.string ⟨#[]⟩,.slice none 0 0,.slice none 0 0],.int .i64 3]) (by simp[results,results134,go_sem,O,t1,t2,t3,P,Q]) rfl ?_;rw[aQ.out]
  exact⟨rfl,(ah.trans f9 qs).mono (by simp;omega)⟩
 | true =>
 have p:o=some a:=by rw[Y.out,aC.1,aC.2,if_pos ⟨rfl,rfl⟩]
 subst p
 go_upto_region 13 with(first
  | (go_at_call 52;(with_reducible refine HC.out.mono ?_);rintro e bx ⟨rfl,rfl⟩)
  | (go_at_call 120;(with_reducible refine HW.out.mono ?_);rintro e av ⟨rfl,X⟩))
 have H:=aU.fr X qs;have bi:=ba.fr X qs;clear y0 y1 y2 y3 y4 y5;have⟨y0,y1,y2,y3,y4,y5⟩:=bi.m6;unfold lV at H;have⟨ax,z1,z2,z3,z4,z5⟩:=H.m6;have g0:=H.f 0;have g1:=H.f 1;have g2:=H.f 2;have g3:=H.f 3;have g4:=H.f 4;have g5:=H.f 5;have aS:=Hd H;have ah:=Hd X;clear H bi X HC HW
 go_wp2
 have⟨aw,aN⟩:=eR (((((((av.setCell ⟨w.heap.size,0,none⟩ (.int .i64 ti)).setCell ⟨w.heap.size,1,none⟩ (.int .i64 ph)).setCell ⟨w.heap.size,2,none⟩ (.int .i64 ix)).setCell ⟨w.heap.size,3,none⟩ (.string N)).setCell ⟨w.heap.size,4,none⟩ (.slice A n c)).setCell ⟨w.heap.size,5,none⟩ (.slice B m d)));have be:BoxN aw w.heap.size 91 #[.int .i64 ti,.int .i64 ph,.int .i64 ix,.string N,.slice A n c,.slice B m d]:=by rw[<-aN];exact((((((aS.setAt 0 _).setAt 1 _).setAt 2 _).setAt 3 _).setAt 4 _).setAt 5 _)
 have aF:Fr [w.heap.size] av aw:=by rw[<-aN];exact((((((Fq [w.heap.size] av).st _).st _).st _).st _).st _).st _
 have bj:Own aw 95 7 A n c (a.r.flatMap CH.cs):=(bz.fr ah.out qs).fr aF (by intro k h;have:=M.2.1 k h;have:=M.2.2;simp only[ip];omega);have bk:Own aw 95 7 B m d (a.w.flatMap CH.cs):=(bA.fr ah.out qs).fr aF (by intro k h;have:=ag.2.1 k h;have:=ag.2.2;simp only[ip];omega);have bo:Fr [] w aw:=((ay.trans ah.out qs).trans aF qs).mono (by simp;omega);have⟨O,t1,t2,t3,P,Q⟩:=be.m6;have aP:=Hd (An bj (An bk bo));rw[aN];clear aN be aF bj bk bo ax z1 z2 z3 z4 z5 y0 y1 y2 y3 y4 y5 g0 g1 g2 g3 g4 g5;refine bodyPost_ret (v:=.tuple #[.agg #[.int .i64 ti,.int .i64 ph,.int .i64 ix,.string N,.slice A n c,.slice B m d],.int .i64 0]) (by simp[results,results134,go_sem,O,t1,t2,t3,P,Q]) rfl ⟨⟨a,N,A,c,B,d⟩,rfl,?_,⟨U.2.2.2,by simp only;rw[ai.out];exact aP.1,by simp only;rw[aj.out];exact aP.2.1⟩,aP.2.2,λk h=>(bK k h).1,λk h=>(bL k h).1⟩;unfold AX.v AG.val;simp only;rw[ai.out,aj.out,U.1,U.2.1,U.2.2.1]
def rP(W:World){d:Nm}(b:d.length=32):(Op.equalIn 10000 57 (.agg (eO d).toArray) (.agg (eO d).toArray)).run prog W=.ok true W:=by
 have h:=run_equalIn_bytes (P:=prog) W 9998 57 5 32 underlying57 underlying5 (λw=>by simp[go_sem]) d d b b;have c:(Op.equalIn 10000 57 (.agg (eO d).toArray) (.agg (eO d).toArray)).run prog W=.ok (d == d) W:=h;rw[c];simp
section
variable {P:Program} {ops:Array Oper} {rest:List Oper} {o:Oper} {a:Act} {Q:Exit->Act->World->Prop} {w:World}
def fG(b:Region.wanted o (yielded ops a.tmps)=true)(h:o.wp P a w (wpList P ops Q rest) Q):wpList P ops Q (o::rest) a w:=by
 unfold wpList;rw[if_pos b];exact .inl h
end
def rQ(d:Nm):∀(bs cs:List Bool) (a b:List Nm) (k:Nat),k<=bs.length->bs.length=a.length->iE d (bs++cs) (a++b) k=iE d bs a k
 | _,_,_,_,0,_,_=>rfl
 | bs,cs,a,b,k+1,e,c=>by
  rw[iE,iE,rQ d bs cs a b k qo c];simp only[getD_eq_getElem?_getD];rw[List.getElem?_append_left qo,List.getElem?_append_left qo]
def yu(b:List Nm):∀(n x f:Nat),1<=n->n<=1048576->x<n->(wP b x f n).length=(bl x n).length/\iE (b.getD (f+x) []) (bl x n) (wP b x f n) (bl x n).length=rt b f n:=by
 intro n
 induction n using Nat.strongRecOn with
 | ind n h =>
  intro x f i e k
  rcases Nat.eq_or_lt_of_le i with rfl|g
  ·rw[qW,yO,pC,show x=0 by omega]
   exact⟨rfl,rfl⟩
  ·have j:=gj (n:=n) g e
   rw[qX b x f n g e,vi x n g e,pD b f n g e]
   by_cases c:x<fb n
   ·rw[if_pos c,if_pos c]
    have⟨a,d⟩:=h (fb n) qo x f j.1 qo c;refine⟨by simp[a],?_⟩;rw[gu,length_singleton,iE,rQ _ _ _ _ _ _ (fW _) a.symm,d];simp only[getD_eq_getElem?_getD];rw[List.getElem?_append_right (fW _),List.getElem?_append_right qo,a];simp
   ·rw[if_neg c,if_neg c]
    have⟨a,d⟩:=h (n - fb n) qo (x - fb n) (f+fb n) qo qo qo;rw[show f+fb n+(x - fb n)=f+x by omega]at d;refine⟨by simp[a],?_⟩;rw[gu,length_singleton,iE,rQ _ _ _ _ _ _ (fW _) a.symm,d];simp only[getD_eq_getElem?_getD];rw[List.getElem?_append_right (fW _),List.getElem?_append_right qo,a];simp
def GU{x n:Nat}(a:2<=n)(b:n<=1048576):0<(bl x n).length:=by
 rw[vi x n a b];split <;> simp
open Go.RowKit Go.Shelf
def Ii(A:Option Addr)(n c:Nat)(f:Value)(a:n<=1)(w:World):Calls prog 220 #[.slice A n c,.int .i64 0,.int .i64 n,f] w λe w'=>e=.returned (.tuple #[])/\w=w':=by
 obtain rfl|rfl:n=0 \/ n=1:=qo
 all_goals
  simp only[Int.ofNat_zero,Int.ofNat_one,Int.natCast_zero,Int.natCast_one]
  go_enter func220,ntmps220
  go_wp2
  refine wp_loop_rounds 1 ?_;rw[rounds_succ]
  go_wp2
  go_end0
  exact⟨rfl,rfl⟩
def Ij(A:Option Addr)(n c:Nat)(m:Int)(f:Value)(d:n<=1)(w:World):Calls prog 179 #[.slice A n c,.int .i64 0,.int .i64 n,.int .i64 m,f] w λe w'=>e=.returned (.tuple #[])/\w=w':=by
 obtain rfl|rfl:n=0 \/ n=1:=qo
 all_goals
  simp only[Int.ofNat_zero,Int.ofNat_one,Int.natCast_zero,Int.natCast_one]
 ·have a:=Hd (Ii A 0 c f qo w)
  simp only[Int.ofNat_zero,Int.natCast_zero]at a
  go_enter func179,ntmps179
  go_wp2
  refine wp_loop_rounds 1 ?_;rw[rounds_succ]
  go_wp2_with ((go_at_call 220;(with_reducible refine a.out.mono ?_);rintro e b ⟨rfl,rfl⟩))
  try simp only[Exit.inBlock,Exit.then]
  refine bodyPost_ret (results_none rfl _ _ _) rfl ?_;exact⟨rfl,rfl⟩
 ·have a:=Hd (Ii A 1 c f qo w)
  simp only[Int.ofNat_one,Int.natCast_one]at a
  go_enter func179,ntmps179
  go_wp2
  refine wp_loop_rounds 1 ?_;rw[rounds_succ]
  go_wp2_with ((go_at_call 220;(with_reducible refine a.out.mono ?_);rintro e b ⟨rfl,rfl⟩))
  try simp only[Exit.inBlock,Exit.then]
  refine bodyPost_ret (results_none rfl _ _ _) rfl ?_;exact⟨rfl,rfl⟩
def Ik(A:Option Addr)(n c:Nat)(f:Value)(g:n<=1)(w:World):Calls prog 137 #[.slice A n c,f] w λe w'=>e=.returned (.tuple #[])/\w=w':=by
 obtain rfl|rfl:n=0 \/ n=1:=qo
 ·have b:=Hd (Tryz.bits_Len 0 w qo qo)
  have a:=Hd (λm=>Ij A 0 c m f qo w);simp only[Int.ofNat_zero,Int.natCast_zero]at a
  go_enter func137,ntmps137
  go_wp2_with (first
   | (go_at_call 172;(with_reducible refine b.out.mono ?_);rintro e d ⟨rfl,rfl⟩)
   | (go_at_call 179;(with_reducible refine(a.out _).mono ?_);rintro e d ⟨rfl,rfl⟩))
  go_end0
  exact⟨rfl,rfl⟩
 ·have b:=Hd (Tryz.bits_Len 1 w qo qo)
  have a:=Hd (λm=>Ij A 1 c m f qo w);simp only[Int.ofNat_one,Int.natCast_one]at a
  go_enter func137,ntmps137
  go_wp2_with (first
   | (go_at_call 172;(with_reducible refine b.out.mono ?_);rintro e d ⟨rfl,rfl⟩)
   | (go_at_call 179;(with_reducible refine(a.out _).mono ?_);rintro e d ⟨rfl,rfl⟩))
  go_end0
  exact⟨rfl,rfl⟩
def Il(A:Option Addr)(n c:Nat)(f:Value)(a:n<=1)(w:World):Calls prog 200 #[.slice A n c,.int .i64 0,.int .i64 n,f] w λe w'=>e=.returned (.tuple #[])/\w=w':=by
 obtain rfl|rfl:n=0 \/ n=1:=qo
 all_goals
  simp only[Int.ofNat_zero,Int.ofNat_one,Int.natCast_zero,Int.natCast_one]
  go_enter func200,ntmps200
  go_wp2
  refine wp_loop_rounds 1 ?_;rw[rounds_succ]
  go_wp2
  go_end0
  exact⟨rfl,rfl⟩
def Im(A:Option Addr)(n c:Nat)(m:Int)(f:Value)(d:n<=1)(w:World):Calls prog 173 #[.slice A n c,.int .i64 0,.int .i64 n,.int .i64 m,f] w λe w'=>e=.returned (.tuple #[])/\w=w':=by
 obtain rfl|rfl:n=0 \/ n=1:=qo
 all_goals
  simp only[Int.ofNat_zero,Int.ofNat_one,Int.natCast_zero,Int.natCast_one]
 ·have a:=Hd (Il A 0 c f qo w)
  simp only[Int.ofNat_zero,Int.natCast_zero]at a
  go_enter func173,ntmps173
  go_wp2
  refine wp_loop_rounds 1 ?_;rw[rounds_succ]
  go_wp2_with ((go_at_call 200;(with_reducible refine a.out.mono ?_);rintro e b ⟨rfl,rfl⟩))
  try simp only[Exit.inBlock,Exit.then]
  refine bodyPost_ret (results_none rfl _ _ _) rfl ?_;exact⟨rfl,rfl⟩
 ·have a:=Hd (Il A 1 c f qo w)
  simp only[Int.ofNat_one,Int.natCast_one]at a
  go_enter func173,ntmps173
  go_wp2
  refine wp_loop_rounds 1 ?_;rw[rounds_succ]
  go_wp2_with ((go_at_call 200;(with_reducible refine a.out.mono ?_);rintro e b ⟨rfl,rfl⟩))
  try simp only[Exit.inBlock,Exit.then]
  refine bodyPost_ret (results_none rfl _ _ _) rfl ?_;exact⟨rfl,rfl⟩
def Io(A:Option Addr)(n c:Nat)(f:Value)(g:n<=1)(w:World):Calls prog 128 #[.slice A n c,f] w λe w'=>e=.returned (.tuple #[])/\w=w':=by
 obtain rfl|rfl:n=0 \/ n=1:=qo
 ·have b:=Hd (Tryz.bits_Len 0 w qo qo)
  have a:=Hd (λm=>Im A 0 c m f qo w);simp only[Int.ofNat_zero,Int.natCast_zero]at a
  go_enter func128,ntmps128
  go_wp2_with (first
   | (go_at_call 172;(with_reducible refine b.out.mono ?_);rintro e d ⟨rfl,rfl⟩)
   | (go_at_call 173;(with_reducible refine(a.out _).mono ?_);rintro e d ⟨rfl,rfl⟩))
  go_end0
  exact⟨rfl,rfl⟩
 ·have b:=Hd (Tryz.bits_Len 1 w qo qo)
  have a:=Hd (λm=>Im A 1 c m f qo w);simp only[Int.ofNat_one,Int.natCast_one]at a
  go_enter func128,ntmps128
  go_wp2_with (first
   | (go_at_call 172;(with_reducible refine b.out.mono ?_);rintro e d ⟨rfl,rfl⟩)
   | (go_at_call 173;(with_reducible refine(a.out _).mono ?_);rintro e d ⟨rfl,rfl⟩))
  go_end0
  exact⟨rfl,rfl⟩
def Ip(A:Option Addr)(n c:Nat)(f:Value)(a:n<=1)(w:World):Calls prog 208 #[.slice A n c,.int .i64 0,.int .i64 n,f] w λe w'=>e=.returned (.tuple #[])/\w=w':=by
 obtain rfl|rfl:n=0 \/ n=1:=qo
 all_goals
  simp only[Int.ofNat_zero,Int.ofNat_one,Int.natCast_zero,Int.natCast_one]
  go_enter func208,ntmps208
  go_wp2
  refine wp_loop_rounds 1 ?_;rw[rounds_succ]
  go_wp2
  go_end0
  exact⟨rfl,rfl⟩
def Iq(A:Option Addr)(n c:Nat)(m:Int)(f:Value)(d:n<=1)(w:World):Calls prog 174 #[.slice A n c,.int .i64 0,.int .i64 n,.int .i64 m,f] w λe w'=>e=.returned (.tuple #[])/\w=w':=by
 obtain rfl|rfl:n=0 \/ n=1:=qo
 all_goals
  simp only[Int.ofNat_zero,Int.ofNat_one,Int.natCast_zero,Int.natCast_one]
 ·have a:=Hd (Ip A 0 c f qo w)
  simp only[Int.ofNat_zero,Int.natCast_zero]at a
  go_enter func174,ntmps174
  go_wp2
  refine wp_loop_rounds 1 ?_;rw[rounds_succ]
  go_wp2_with ((go_at_call 208;(with_reducible refine a.out.mono ?_);rintro e b ⟨rfl,rfl⟩))
  try simp only[Exit.inBlock,Exit.then]
  refine bodyPost_ret (results_none rfl _ _ _) rfl ?_;exact⟨rfl,rfl⟩
 ·have a:=Hd (Ip A 1 c f qo w)
  simp only[Int.ofNat_one,Int.natCast_one]at a
  go_enter func174,ntmps174
  go_wp2
  refine wp_loop_rounds 1 ?_;rw[rounds_succ]
  go_wp2_with ((go_at_call 208;(with_reducible refine a.out.mono ?_);rintro e b ⟨rfl,rfl⟩))
  try simp only[Exit.inBlock,Exit.then]
  refine bodyPost_ret (results_none rfl _ _ _) rfl ?_;exact⟨rfl,rfl⟩
def Ir(A:Option Addr)(n c:Nat)(f:Value)(g:n<=1)(w:World):Calls prog 130 #[.slice A n c,f] w λe w'=>e=.returned (.tuple #[])/\w=w':=by
 obtain rfl|rfl:n=0 \/ n=1:=qo
 ·have b:=Hd (Tryz.bits_Len 0 w qo qo)
  have a:=Hd (λm=>Iq A 0 c m f qo w);simp only[Int.ofNat_zero,Int.natCast_zero]at a
  go_enter func130,ntmps130
  go_wp2_with (first
   | (go_at_call 172;(with_reducible refine b.out.mono ?_);rintro e d ⟨rfl,rfl⟩)
   | (go_at_call 174;(with_reducible refine(a.out _).mono ?_);rintro e d ⟨rfl,rfl⟩))
  go_end0
  exact⟨rfl,rfl⟩
 ·have b:=Hd (Tryz.bits_Len 1 w qo qo)
  have a:=Hd (λm=>Iq A 1 c m f qo w);simp only[Int.ofNat_one,Int.natCast_one]at a
  go_enter func130,ntmps130
  go_wp2_with (first
   | (go_at_call 172;(with_reducible refine b.out.mono ?_);rintro e d ⟨rfl,rfl⟩)
   | (go_at_call 174;(with_reducible refine(a.out _).mono ?_);rintro e d ⟨rfl,rfl⟩))
  go_end0
  exact⟨rfl,rfl⟩
section
variable {P:Program} {w w':World} {t k e:TypeId} {r:Nat} {key z v:Value} {kl:Lit} {kvs:List (Value × Value)}
def MapIs.entry_new(K:Maps.Keyed P k)(ht:P.underlying t=some (.map k e))(hz:∀u:World,(zeroValue e).run P u=.ok z u)(h:MapIs P k w r kvs)(hkey:keyOf P k key=some kl)(hn:∀p∈kvs,p.1≠key):
 ∃st w1,(Instr.mapEntry t (.map (some r)) key).run P w=.ok (.tuple #[z,.int .i64 st]) w1/\Fr [r] w w1/\MapIs P k w1 r (kvs++[(key,z)]) /\
  ∀w2 val,w2.heap[r]?=w1.heap[r]?->∃w3,(Instr.entryStore t (.map (some r)) (.int .i64 st) val).run P w2=.ok () w3/\Fr [r] w2 w3/\MapIs P k w3 r (kvs++[(key,val)]):=by
 obtain⟨es,clock,h1,h2,h3,rfl⟩:=h
 rcases K.find w hkey es.toList h3 with⟨f1,f2⟩|⟨j,e0,f1,f2,f3⟩
 ·have hkeys:∀u:Value,∀x∈(es.push ⟨key,u,clock⟩).toList,∃l,keyOf P k x.key=some l:=by
   intro u x hx;simp only[Array.toList_push,mem_append,ip]at hx
   rcases hx with hx|rfl
   ·exact h3 x hx
   ·exact⟨kl,hkey⟩
  refine⟨((clock:Nat):Int),{ w with heap:=w.heap.setIfInBounds r (.map (es.push ⟨key,z,clock⟩) (clock+1)) },?_,⟨rfl,rfl,rfl,by simp,λj _ hj=>(MapKept.heap_set h1).2 j (by simpa using hj)⟩,⟨_,_,(MapKept.heap_set h1).1,MapKept.stamped_push h2 f2,hkeys z,by simp⟩,λw2 val hw2=>?_⟩
  ·simp[Instr.mapEntry,run_underlying ht,MapKept.run_getObj_map h1,K.check w false hkey,f1,hz,goInt,MapKept.run_setObj_map _ h1,Result.andThen]
  ·have hw3:w2.heap[r]?=some (.map (es.push ⟨key,z,clock⟩) (clock+1)):=hw2.trans (MapKept.heap_set h1).1
   have hidx:(es.push ⟨key,z,clock⟩).findIdx? (λe=>((e.born:Nat):Int) == ((clock:Nat):Int))=some es.size:=by
    rw[WideElems.findIdx_arr]
    have:=WideElems.findIdx_born (l:=(es.push ⟨key,z,clock⟩).toList) (j:=es.size) (e0:=⟨key,z,clock⟩) (by
     simp only[Array.toList_push,map_append,map_cons,map_nil];refine nodup_append.2 ⟨h2.2.1,by simp,λa ha c hc e1=>?_⟩;simp only[ip]at hc;obtain⟨x,hx,rfl⟩:=mem_map.1 ha;have:=h2.1 x hx;omega) (by simp)
    exact this
   have hmod:(es.push ⟨key,z,clock⟩).modify es.size (λe=>{ e with val:=val })=es.push ⟨key,val,clock⟩:=by
    apply Array.ext'
    rw[Array.toList_modify,Array.toList_push,Array.toList_push,<-Array.length_toList,WideElems.modify_last]
   refine⟨{ w2 with heap:=w2.heap.setIfInBounds r (.map (es.push ⟨key,val,clock⟩) (clock+1)) },?_,⟨rfl,rfl,rfl,by simp,λj _ hj=>(MapKept.heap_set hw3).2 j (by simpa using hj)⟩,_,_,(MapKept.heap_set hw3).1,MapKept.stamped_push h2 f2,hkeys val,by simp⟩;simp[Instr.entryStore,MapKept.run_getObj_map hw3,asInt,asIntOf,hidx,hmod,MapKept.run_setObj_map _ hw3,Result.andThen]
 ·exact absurd f3 (hn _ (mem_map.2 ⟨e0,gH f2,rfl⟩))
end
section
variable {X Y Z:World} {b pb pl pl' mw mr n c n' c' kk kc kk' kc':Nat} {A A' K K':Option Addr} {cs cs' ks ks':List Value} {kw kr kw' kr':List (Value × Value)} {PW Q:World->Prop}
end
def o6(b p:Nat)(w:World)(h:w.cell? ⟨b,0,none⟩=some (.pointer (some ⟨p,0,none⟩))):Calls prog 157 #[.pointer (some ⟨b,0,none⟩)] w λe w'=>e=.returned (.bool false)/\w=w':=by
 go_enter func157,ntmps157
 go_wp2_with fail
 go_ret
 exact⟨rfl,rfl⟩
def wk:∃i,(prog).info? 201=some i/\i.zero=some (.agg #[.int .i64 0,.string ⟨#[]⟩,.bool false])/\i.size=3/\i.bytes=32:=info_parts qk
def Dh:∃i,(prog).info? 86=some i/\i.zero=some (.pointer none)/\i.size=1/\i.bytes=8:=info_parts qk
def oh:∃i,(prog).info? 3=some i/\i.zero=some (.int .i64 0)/\i.size=1/\i.bytes=8:=info_parts qk
def tM(u:World):(zeroValue 280).run prog u=.ok (.slice none 0 0) u:=by simp[go_sem]
def o7(u:World):(zeroValue 36).run prog u=.ok (.slice none 0 0) u:=by simp[go_sem]
end Go.Proofs.YtlpmiimgacfmkaaGreatDoor
