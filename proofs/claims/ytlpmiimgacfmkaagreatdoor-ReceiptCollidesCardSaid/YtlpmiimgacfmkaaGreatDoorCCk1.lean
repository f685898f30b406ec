/- Part of the proof. -/
import Derived.Test.YtlpmiimgacfmkaaGreatDoorCCe4
set_option linter.all false
set_option maxHeartbeats 8000000
set_option maxRecDepth 100000
namespace Go.Proofs.YtlpmiimgacfmkaaGreatDoor
open Go.Proofs.Tryz List
open Go.RowKit Go.Shelf
def lS(m:Nat)(p:PF):PX:=⟨(p.i:Int),(m:Int),p.s,p.A,p.c,p.d⟩
def CX{w:World}{n c:Nat}{A:Option Addr}{ps:List PF}(h:PrL w n A c ps):PrX w A c (ps.map (lS n)):=by
 refine⟨?_,λp a=>?_⟩
 ·rw[length_map,flatMap_map]
  exact h.own
 ·obtain⟨q,b,rfl⟩:=mem_map.1 a
  exact h.ds q b
def CY{xs:List AX}(c:Run xs){n:Nat}{p:PF}(r:n<=xs.length)(h:p.i<n/\∃y,xs[p.i]?=some y/\p.s=gv y.a/\p.d=jH xs p.i n):(lS n p).ok/\(0<=(lS n p).i/\(lS n p).i<=12)/\(lS n p).n<=12:=by
 obtain⟨o,y,f,e,b⟩:=h;have q:=c.len;have⟨g,w2,j,k⟩:=c.wf y (gH f);have⟨l,_⟩:=yu (zT xs) (n+1) (p.i+1) 0 qo qo qo;have t:=GU (x:=p.i+1) (n:=n+1) qo qo;have m:=oG (zT xs) (n+1) (p.i+1) 0 qo qo;refine⟨⟨?_,?_,?_,?_,?_⟩,?_,?_⟩
 ·simp only[lS];omega
 ·simp only[lS];omega
 ·simp only[lS];rw[e];exact tX g w2 j k
 ·simp only[lS];rw[b];unfold jH;omega
 ·simp only[lS];rw[b];unfold jH
  exact Hb (pu xs) (n+1) (p.i+1) 0 qo (by rw[mI];omega) qo
 ·simp only[lS];omega
 ·simp only[lS];omega
def CZ:∀ {r a:RS} {l:List CH},RdCs r l a->jA l.length r=some (l,a):=by
 intro r a l h
 induction h with
 | nil r=>rfl
 | cons h t f =>
  obtain⟨tn,r2,r3,b,c,d,e⟩:=h;rw[length_cons,jA,sh,b,c,d,e];simp[f]
def zJ{r a:RS}{l:List CH}(h:I8 r l a):qO r=some (l,a):=by
 obtain⟨q,b,c⟩:=h;rw[qO,b];exact CZ c
def AK{a:AG}(h:l6 a=true)(f:a.r.length<=10)(g:a.w.length<=10):lL (gv a)=some a:=by
 have⟨r1,r2,r3,b,c,d,e⟩:=Dy h qo qo;rw[lL,b];simp[zJ c,zJ d,e,h]
def rI{xs:List AX}(c:Run xs){i n:Nat}{y:AX}(d:xs[i]?=some y)(l:i<n)(o:n<=xs.length):qh (lN xs n) i n (gv y.a) (jH xs i n)=.ok y.a:=by
 have m:=c.len;have⟨f,b⟩:=yu (zT xs) (n+1) (i+1) 0 qo qo qo;have⟨h,w2,j,k⟩:=c.wf y (gH d)
 have g:(zT xs).getD (0+(i+1)) []=gZ (1::gv y.a):=by
  unfold zT;rw[getD_eq_getElem?_getD,Nat.zero_add,List.getElem?_cons_succ,List.getElem?_map,d];rfl
 rw[g]at b
 have e:jW (gZ (1::gv y.a)) (bl (i+1) (n+1)) (jH xs i n)=(lN xs n,0):=by
  unfold jW jH lN;rw[if_pos f,b]
 unfold qh;rw[AK h j k];exact if_pos e
open Go.RowKit
def E9(w:World)(k nu ix P:Int)(so st:ByteArray)(n b c1 c2 J:Nat)(A1 A2:Option Addr)(p1 p2:List PF)(h1:PrL w n A1 c1 p1)(h2:PrL w n A2 c2 p2)(l1:p1.length=b)(l2:p2.length=b)(aV:J<=b)(az:∀(j:Nat) (p q:PF),j<=J->p1[j]?=some p->p2[j]?=some q->p.i=q.i/\p.d=q.d/\(p.s=q.s ↔ j<J))(hl:b<=13)(hd:∀p∈p1,p.d.length<=1000/\∀e∈p.d,e.length=32):
 Calls prog 15 #[tw k so nu ix st P (n:Int) (.slice A1 b c1),tw k so nu ix st P (n:Int) (.slice A2 b c2)] w (fi w (.bool (decide (J=b)))):=by
 unfold tw;obtain⟨w1,aG,aR,n1,f1⟩:=ir w #[.int .i64 k,.string so,.int .i64 nu,.int .i64 ix,.string st,.int .i64 P,.int .i64 (n:Int),.slice A1 b c1] 39 w.heap.size;obtain⟨w2,aH,aS,n2,f2⟩:=ir w1 #[.int .i64 k,.string so,.int .i64 nu,.int .i64 ix,.string st,.int .i64 P,.int .i64 (n:Int),.slice A2 b c2] 39 (w.heap.size+1);have aJ:=Hd aG;have aK:=Hd aH;have HF:=Hd (f1.then f2);have n3:=n1.fr f2 qs;obtain⟨x0,x1,x2,x3,x4,x5,x6,x7⟩:=n3.m8;obtain⟨y0,y1,y2,y3,y4,y5,y6,y7⟩:=n2.m8;have HB:=Hd (An n3 n2);have r:=Hd (An h1 (An h2 (An l1 (An (An l2 az) hd))));clear aG aH f1 f2 n1 n2 n3 aR aS h1 h2 l1 l2 az hd
 go_enter func15,ntmps15
 go_upto_region 1 with fail
 rw[aJ.out,aK.out]
 go_upto_region 3 with fail
 clear x0 x1 x2 x3 x4 x5 x6 x7 y0 y1 y2 y3 y4 y5 y6 y7;obtain⟨RA,aq⟩:=eR (w.heap.size);have ak:=HB.out;rw[aq]at ak;obtain⟨RC,ar⟩:=eR (RA+1);rw[ar]at ak;clear HB;have HB:=Hd ak;clear ak;simp only[aq,ar];clear aq ar
 go_wp2_with fail
 go_loopw [5] (λaj W=>∃j:Nat,j<=J/\aj=.int .i64 (j:Int)/\Fr [] w2 W) (λj _=>b - (intOf j).toNat)
 case atStart=>exact⟨0,Nat.zero_le _,rfl,Fq _ _⟩
 case round =>
  obtain⟨j,H,rfl,aa⟩:=hrel;have am:=HB.out.1.fr aa qs;have an:=HB.out.2.fr aa qs;have x7:=am.k7;have y7:=an.k7
  by_cases aA:j<b
  ·have aW:(j:Int)<(b:Int):=qo
   have aZ:IntKind.i64.wrap (j:Int)=(j:Int):=by simp only[IntKind.wrap_i64];omega
   obtain⟨p,hp⟩:∃y,p1[j]?=some y:=⟨_,gg (by rw[r.out.2.2.1];exact aA)⟩;have l2:=r.out.2.2.2.1.1;obtain⟨q,hq⟩:∃y,p2[j]?=some y:=⟨_,gg (by rw[l2];exact aA)⟩;have ai:=r.out.2.2.2.1.2 j p q H hp hq;have C:=r.out.1.own;have m:=r.out.2.1.own;rw[r.out.2.2.1]at C;rw[l2]at m;obtain⟨b1,rfl,g1⟩:=Cs.of_own C qo;obtain⟨b2,rfl,g2⟩:=Cs.of_own m qo;have ab:=HF.out.then aa;have R:=λo (ho:o<4)=>ia (zt n) hp ho;have S:=λo (ho:o<4)=>ia (zt n) hq ho;obtain⟨u,aC,aD,_⟩:=eS p.s;obtain⟨x,aE,aF,_⟩:=eS q.s
   have aB:u=x ↔ j<J:=by
    rw[<-ai.2.2,<-aD,<-aF];exact⟨λh=>by rw[h],λh=>ByteArray.ext (Array.ext' h)⟩
   obtain⟨a,ao⟩:=eR (p.d.length);unfold PF.cs at R S;rw[<-ai.1,<-ai.2.1,aE,ao]at S;rw[aC,ao]at R;have aX:RC<wr.heap.size:=an.lt;have aY:RA<wr.heap.size:=am.lt;have aT:b1<wr.heap.size:=(g1.fr0 ab).1;have aU:b2<wr.heap.size:=(g2.fr0 ab).1
   have HSS:=Hd (λ(W:World) (hW:Fr [] wr W)=>(show W.cell? ⟨RA,7,none⟩=some (.slice (some ⟨b1,0,none⟩) b c1)/\W.cell? ⟨RC,7,none⟩=some (.slice (some ⟨b2,0,none⟩) b c2)/\W.cell? ⟨b1,j*4,none⟩=some (.int .i64 (p.i:Int))/\W.cell? ⟨b1,j*4+1,none⟩=some (.int .i64 (n:Int))/\W.cell? ⟨b1,j*4+2,none⟩=some (.string u)/\W.cell? ⟨b1,j*4+3,none⟩=some (.slice p.A a p.c)/\W.cell? ⟨b2,j*4,none⟩=some (.int .i64 (p.i:Int))/\W.cell? ⟨b2,j*4+1,none⟩=some (.int .i64 (n:Int))/\W.cell? ⟨b2,j*4+2,none⟩=some (.string x)/\W.cell? ⟨b2,j*4+3,none⟩=some (.slice q.A a q.c)from by
    have k1:=(g1.fr0 ab).fr0 hW;have k2:=(g2.fr0 ab).fr0 hW;exact⟨(am.fr hW qs).c 7,(an.fr hW qs).c 7,k1.2 _ _ (R 0 qo),k1.2 _ _ (R 1 qo),k1.2 _ _ (R 2 qo),k1.2 _ _ (R 3 qo),k2.2 _ _ (S 0 qo),k2.2 _ _ (S 1 qo),k2.2 _ _ (S 2 qo),k2.2 _ _ (S 3 qo)⟩))
   have f:=Hd (An hp (An hq (An ai ao)));have Z:=Hd (An aa ab);have al:=Hd aB;clear hp hq ai ao aC aE aD aF aB R S g1 g2 C m am an aa ab l2
   go_upto_region 6 with fail
   clear x7 y7;obtain⟨a7,b7,aI,z1,z2,z3,u0,u1,u2,u3⟩:=HSS.out wr (Fq _ _)
   go_region
   ·obtain⟨D,z⟩:=eR (((wr.alloc (.cells #[.int .i64 (p.i:Int),.int .i64 (n:Int),.string u,.slice p.A a p.c] 53)).alloc (.cells #[.int .i64 (p.i:Int),.int .i64 (n:Int),.string x,.slice q.A a q.c] 53)).drew)
    have K:BoxN D wr.heap.size 53 #[.int .i64 (p.i:Int),.int .i64 (n:Int),.string u,.slice p.A a p.c]:=by rw[<-z];exact((BoxN.new wr _ _).alloc _).drew
    have L:BoxN D (wr.heap.size+1) 53 #[.int .i64 (p.i:Int),.int .i64 (n:Int),.string x,.slice q.A a q.c]:=by
     have h:=BoxN.new (wr.alloc (.cells #[.int .i64 (p.i:Int),.int .i64 (n:Int),.string u,.slice p.A a p.c] 53)) 53 #[.int .i64 (p.i:Int),.int .i64 (n:Int),.string x,.slice q.A a q.c];rw[jZ]at h;rw[<-z];exact h.drew
    have T:Fr [] wr D:=by rw[<-z];exact(((Fq [] wr).alloc _).alloc _).drew
    rw[z];obtain⟨O,au⟩:=eR (wr.heap.size);rw[au]at K L ⊢;obtain⟨d0,d1,d2,d3⟩:=K.m4;obtain⟨d4,d5,d6,d7⟩:=L.m4;clear z a7 b7 aI z1 z2 z3 u0 u1 u2 u3
    by_cases I:u=x
    case neg =>
     have aP:(u.toList == x.toList)=false:=beq_eq_false_iff_ne.2 λe=>I (ByteArray.ext (Array.ext' (by rw[ByteArray.toList_eq,ByteArray.toList_eq]at e;exact e)));have ah:decide (J=b)=false:=decide_eq_false λh=>I (al.out.2 qo)
     go_wp2_with fail
     go_ret
     rw[ah];exact⟨rfl,HF.out.then (Z.out.1.then T)⟩
    have aL:=al.out.1 I;subst I
    go_wp2_with fail
    have M:=Hd (An K (An L (Z.out.2.then T)));have Y:=r.out.2.2.2.2 p (gH f.out.1);have N:=Hd Y;have aN:a<=1000:=by rw[<-f.out.2.2.2];exact Y.1
    clear d0 d1 d2 d3 d4 d5 d6 d7 K L Y
    go_loopw [8] (λaj W=>∃t:Nat,t<=a/\aj=.int .i64 (t:Int)/\Fr [] D W) (λj _=>a - (intOf j).toNat)
    case atStart=>exact⟨0,Nat.zero_le _,rfl,Fq _ _⟩
    case round =>
     obtain⟨t,ht,rfl,l⟩:=hrel;have F:=M.out.1.fr l qs;have g7:=M.out.2.1.fr l qs
     by_cases ay:t<a
     ·have aM:(t:Int)<(a:Int):=qo
      have aQ:IntKind.i64.wrap (t:Int)=(t:Int):=by simp only[IntKind.wrap_i64];omega
      obtain⟨e,G⟩:∃y,p.d[t]?=some y:=⟨_,gg (by rw[f.out.2.2.2];exact ay)⟩;have U:=N.out.2 e (gH G);have C:=r.out.1.ds p (gH f.out.1);have m:=r.out.2.1.ds q (gH f.out.2.1);rw[<-f.out.2.2.1.2.1]at m;rw[f.out.2.2.2]at C m;obtain⟨E,af,ga⟩:=Cs.of_own C qo;obtain⟨Q,av,gq⟩:=Cs.of_own m qo;have V:=M.out.2.2.then l;have ac:=ga.fr0 V;have ad:=gq.fr0 V;have ag:(eO e).length=32:=by rw[eP,U]
      have aw:∀X,Fr [] wr X->X.rangeAt E (t*32) (eO e):=λX g j v B=>by
       have H:j<32:=by have:=(gV.1 B).1;omega
       exact(ac.fr0 g).2 _ _ ((kn N.out.2 G H).trans B)
      have ax:∀X,Fr [] wr X->X.rangeAt Q (t*32) (eO e):=λX g j v B=>by
       have H:j<32:=by have:=(gV.1 B).1;omega
       exact(ad.fr0 g).2 _ _ ((kn N.out.2 G H).trans B)
      have ae:wr.cell? ⟨O,3,none⟩=some (.slice (some ⟨E,0,none⟩) a p.c):=by rw[<-af];exact F.c 3
      have HSS:=Hd (λ(X:World) (g:Fr [] wr X)=>(show X.cell? ⟨O,3,none⟩=some (.slice (some ⟨E,0,none⟩) a p.c)/\X.cell? ⟨O+1,3,none⟩=some (.slice (some ⟨Q,0,none⟩) a q.c)from⟨by rw[<-af];exact(F.fr g qs).c 3,by rw[<-av];exact(g7.fr g qs).c 3⟩));have HE:=Hd U;have ap:=Hd l;clear F g7 C m ga gq ac ad V G U l
      go_upto_region 12 with fail
      clear ae;have hC:Fr [] wr wr.drew:=(Fq [] wr).drew;refine eU (λW:World=>Fr [] wr W) 10 qk ?_ qd
      show fc 0 ..
      iterate 4 (refine gJ rfl ?_;try simp only[qq])
      refine fm (i:=4) (v:=.agg (eO e).toArray) qk fh rfl qd qk (λ_ _ _ h=>h) (yieldsIf_load_mid qr 57 (.tmp 85) rfl E (t*32) rfl (eO e) (.array 32 5) (aw) qk rfl (by rw[ag];kernel_rfl)) (by assumption) ?_
      try simp only[qq]
      show fc 5 ..
      iterate 4 (refine gJ rfl ?_;try simp only[qq])
      refine fm (i:=9) (v:=.agg (eO e).toArray) qk fh rfl qd qk (λ_ _ _ h=>h) (yieldsIf_load_mid qr 57 (.tmp 90) rfl Q (t*32) rfl (eO e) (.array 32 5) (ax) qk rfl (by rw[ag];kernel_rfl)) (by assumption) ?_
      try simp only[qq]
      refine eV ⟨qk,?_⟩;simp only[qG,qH];have aO:=λW=>nh W HE.out
      go_wp2_with fail
      go_roundw
      case rel=>exact⟨t+1,qo,by go_num,ap.out.drew⟩
      case measure=>simp[intOf];omega
     ·obtain rfl:t=a:=qo
      have ae:=F.k3
      go_wp2_with fail
      go_roundw
      case rel=>exact⟨j+1,qo,by go_num,(Z.out.1.then T).then l⟩
      case measure=>simp[intOf];omega
   ·obtain⟨D,z⟩:=eR (((wr.alloc (.cells #[.int .i64 (p.i:Int),.int .i64 (n:Int),.string x,.slice q.A a q.c] 53)).alloc (.cells #[.int .i64 (p.i:Int),.int .i64 (n:Int),.string u,.slice p.A a p.c] 53)).drew)
    have K:BoxN D wr.heap.size 53 #[.int .i64 (p.i:Int),.int .i64 (n:Int),.string x,.slice q.A a q.c]:=by rw[<-z];exact((BoxN.new wr _ _).alloc _).drew
    have L:BoxN D (wr.heap.size+1) 53 #[.int .i64 (p.i:Int),.int .i64 (n:Int),.string u,.slice p.A a p.c]:=by
     have h:=BoxN.new (wr.alloc (.cells #[.int .i64 (p.i:Int),.int .i64 (n:Int),.string x,.slice q.A a q.c] 53)) 53 #[.int .i64 (p.i:Int),.int .i64 (n:Int),.string u,.slice p.A a p.c];rw[jZ]at h;rw[<-z];exact h.drew
    have T:Fr [] wr D:=by rw[<-z];exact(((Fq [] wr).alloc _).alloc _).drew
    rw[z];obtain⟨O,au⟩:=eR (wr.heap.size);rw[au]at K L ⊢;obtain⟨d0,d1,d2,d3⟩:=L.m4;obtain⟨d4,d5,d6,d7⟩:=K.m4;clear z a7 b7 aI z1 z2 z3 u0 u1 u2 u3
    by_cases I:u=x
    case neg =>
     have aP:(u.toList == x.toList)=false:=beq_eq_false_iff_ne.2 λe=>I (ByteArray.ext (Array.ext' (by rw[ByteArray.toList_eq,ByteArray.toList_eq]at e;exact e)));have ah:decide (J=b)=false:=decide_eq_false λh=>I (al.out.2 qo)
     go_wp2_with fail
     go_ret
     rw[ah];exact⟨rfl,HF.out.then (Z.out.1.then T)⟩
    have aL:=al.out.1 I;subst I
    go_wp2_with fail
    have M:=Hd (An L (An K (Z.out.2.then T)));have Y:=r.out.2.2.2.2 p (gH f.out.1);have N:=Hd Y;have aN:a<=1000:=by rw[<-f.out.2.2.2];exact Y.1
    clear d0 d1 d2 d3 d4 d5 d6 d7 K L Y
    go_loopw [8] (λaj W=>∃t:Nat,t<=a/\aj=.int .i64 (t:Int)/\Fr [] D W) (λj _=>a - (intOf j).toNat)
    case atStart=>exact⟨0,Nat.zero_le _,rfl,Fq _ _⟩
    case round =>
     obtain⟨t,ht,rfl,l⟩:=hrel;have F:=M.out.1.fr l qs;have g7:=M.out.2.1.fr l qs
     by_cases ay:t<a
     ·have aM:(t:Int)<(a:Int):=qo
      have aQ:IntKind.i64.wrap (t:Int)=(t:Int):=by simp only[IntKind.wrap_i64];omega
      obtain⟨e,G⟩:∃y,p.d[t]?=some y:=⟨_,gg (by rw[f.out.2.2.2];exact ay)⟩;have U:=N.out.2 e (gH G);have C:=r.out.1.ds p (gH f.out.1);have m:=r.out.2.1.ds q (gH f.out.2.1);rw[<-f.out.2.2.1.2.1]at m;rw[f.out.2.2.2]at C m;obtain⟨E,af,ga⟩:=Cs.of_own C qo;obtain⟨Q,av,gq⟩:=Cs.of_own m qo;have V:=M.out.2.2.then l;have ac:=ga.fr0 V;have ad:=gq.fr0 V;have ag:(eO e).length=32:=by rw[eP,U]
      have aw:∀X,Fr [] wr X->X.rangeAt E (t*32) (eO e):=λX g j v B=>by
       have H:j<32:=by have:=(gV.1 B).1;omega
       exact(ac.fr0 g).2 _ _ ((kn N.out.2 G H).trans B)
      have ax:∀X,Fr [] wr X->X.rangeAt Q (t*32) (eO e):=λX g j v B=>by
       have H:j<32:=by have:=(gV.1 B).1;omega
       exact(ad.fr0 g).2 _ _ ((kn N.out.2 G H).trans B)
      have ae:wr.cell? ⟨O+1,3,none⟩=some (.slice (some ⟨E,0,none⟩) a p.c):=by rw[<-af];exact F.c 3
      have HSS:=Hd (λ(X:World) (g:Fr [] wr X)=>(show X.cell? ⟨O+1,3,none⟩=some (.slice (some ⟨E,0,none⟩) a p.c)/\X.cell? ⟨O,3,none⟩=some (.slice (some ⟨Q,0,none⟩) a q.c)from⟨by rw[<-af];exact(F.fr g qs).c 3,by rw[<-av];exact(g7.fr g qs).c 3⟩));have HE:=Hd U;have ap:=Hd l;clear F g7 C m ga gq ac ad V G U l
      go_upto_region 12 with fail
      clear ae;have hC:Fr [] wr wr.drew:=(Fq [] wr).drew;refine eU (λW:World=>Fr [] wr W) 10 qk ?_ qd
      show fc 0 ..
      iterate 4 (refine gJ rfl ?_;try simp only[qq])
      refine fm (i:=4) (v:=.agg (eO e).toArray) qk fh rfl qd qk (λ_ _ _ h=>h) (yieldsIf_load_mid qr 57 (.tmp 85) rfl E (t*32) rfl (eO e) (.array 32 5) (aw) qk rfl (by rw[ag];kernel_rfl)) (by assumption) ?_
      try simp only[qq]
      show fc 5 ..
      iterate 4 (refine gJ rfl ?_;try simp only[qq])
      refine fm (i:=9) (v:=.agg (eO e).toArray) qk fh rfl qd qk (λ_ _ _ h=>h) (yieldsIf_load_mid qr 57 (.tmp 90) rfl Q (t*32) rfl (eO e) (.array 32 5) (ax) qk rfl (by rw[ag];kernel_rfl)) (by assumption) ?_
      try simp only[qq]
      refine eV ⟨qk,?_⟩;simp only[qG,qH];have aO:=λW=>nh W HE.out
      go_wp2_with fail
      go_roundw
      case rel=>exact⟨t+1,qo,by go_num,ap.out.drew⟩
      case measure=>simp[intOf];omega
     ·obtain rfl:t=a:=qo
      have ae:=F.k3
      go_wp2_with fail
      go_roundw
      case rel=>exact⟨j+1,qo,by go_num,(Z.out.1.then T).then l⟩
      case measure=>simp[intOf];omega
  ·obtain rfl:j=b:=qo
   have ah:decide (J=j)=true:=decide_eq_true qo
   go_wp2_with fail
   go_ret
   rw[ah];exact⟨rfl,HF.out.then aa⟩
def PrL.fr0{w w':World}{n:Nat}{A:Option Addr}{c:Nat}{b:List PF}(h:PrL w n A c b)(a:Fr [] w w'):PrL w' n A c b:=⟨h.own.fr a qs,λp d=>(h.ds p d).fr a qs⟩
def AL{xs:List AX}{nm:ON}{P:Nat}{b:Int}{L:List Nat}(h:jX xs nm P b=.inr L):0<=b/\b.toNat<=xs.length/\L.length<=b.toNat:=by
 unfold jX at h;split at h
 ·cases h
 ·rename_i f
  split at h
  ·cases h
  ·rename_i d
   injection h with h
   have g:((xs.map AX.a).take b.toNat).length<=b.toNat:=by rw[length_take];omega
   rcases sS ((xs.map AX.a).take b.toNat) nm P (by simpa using (not_or.1 d).1)with c|⟨v,j,c⟩
   ·exact absurd c (not_or.1 d).2
   ·rw[c,Int.toNat_natCast]at h
    have e:=(oY (n:=b.toNat) (i:=v) (oW ((xs.map AX.a).take b.toNat)) qo).1;rw[h]at e;exact⟨qo,qo,e⟩
def AM{xs:List AX}{nm:ON}{P:Nat}{b:Int}{L:List Nat}(h:jX xs nm P b=.inr L):0<L.length/\∀i∈L,i<b.toNat:=by
 unfold jX at h;split at h
 ·cases h
 ·rename_i j
  split at h
  ·cases h
  ·rename_i d
   injection h with h
   have k:((xs.map AX.a).take b.toNat).length<=b.toNat:=by rw[length_take];omega
   rcases sS ((xs.map AX.a).take b.toNat) nm P (by simpa using (not_or.1 d).1)with c|⟨v,l,c⟩
   ·exact absurd c (not_or.1 d).2
   ·rw[c,Int.toNat_natCast]at h
    have e:=(oY (n:=b.toNat) (i:=v) (oW ((xs.map AX.a).take b.toNat)) qo).2;rw[h]at e;refine⟨?_,e⟩;rw[<-h];unfold kK;rw[uF];obtain⟨f,g⟩:∃f,b.toNat=f+1:=⟨b.toNat - 1,qo⟩;rw[g];exact zv
def Fa{xs:List AX}{n:Nat}{C:List Nat}{ps:List PF}(o:n<=xs.length)(j:∀i∈C,i<n)(h:(ps.map λp=>(p.i,p.s,p.d))=C.map (oX xs n)):ps.map PF.i=C/\∀p∈ps,p.i<n/\∃y,xs[p.i]?=some y/\p.s=gv y.a/\p.d=jH xs p.i n:=by
 constructor
 ·have:=congrArg (List.map λx:Nat × Nm × List Nm=>x.1) h
  rw[map_map,map_map]at this;have e:((λx:Nat × Nm × List Nm=>x.1) ∘ oX xs n)=id:=by funext i;rfl
  rw[e,map_id]at this;exact this
 ·intro p m
  have f:(p.i,p.s,p.d)∈C.map (oX xs n):=by rw[<-h];exact mem_map.2 ⟨p,m,rfl⟩
  have⟨i,k,b⟩:=mem_map.1 f;unfold oX at b;simp only[Prod.mk.injEq]at b;obtain⟨rfl,c,g⟩:=b;have l:=j _ k;refine⟨l,xs[p.i],gg qo,?_,g.symm⟩;rw[gg qo]at c;exact c.symm
def C6{nm:ON}(h:eY nm=0):nm.owner.length<=140737488355328/\nm.text.length<=140737488355328:=by
 have a:=tJ (jC nm);rw[wG h]at a;simp only at a;omega
def RX.of_make{w:World}{xs:List AX}(j:Run xs){nm:ON}{so st:ByteArray}{P m c:Nat}{A:Option Addr}{ps:List PF}(n:eY nm=0)(o:fu nm=.agg #[.int .i64 nm.kind,.string so,.int .i64 nm.number,.int .i64 nm.index,.string st])(r:P<65536)(g:m<=xs.length)(b:PrL w m A c ps)(k:0<ps.length)(l:ps.length<=12)
 (h:∀p∈ps,p.i<m/\∃y,xs[p.i]?=some y/\p.s=gv y.a/\p.d=jH xs p.i m):RX.ok ⟨nm,so,st,P,m,A,c,ps.map (lS m)⟩ w/\RX.tight ⟨nm,so,st,P,m,A,c,ps.map (lS m)⟩:=by
 have f:=C6 n;refine⟨⟨f.1,f.2,o,by simp only;omega,CX b,λp b=>?_,by simp only;rw[length_map];omega⟩,⟨by simp only;rw[length_map];exact k,by simp only;rw[length_map];exact l,λp b=>?_⟩⟩
 ·obtain⟨q,e,rfl⟩:=mem_map.1 b
  exact(CY j g (h q e)).1
 ·obtain⟨q,e,rfl⟩:=mem_map.1 b
  exact(CY j g (h q e)).2
def rJ{rt:Nm}{a b:RX}(h:vU a b)(J:a.err rt=0)(K:b.err rt=0)(L:tc a.ps b.ps):(b.nm=a.nm/\b.so=a.so/\b.st=a.st/\b.P=a.P/\b.n=a.n/\b.ps.length=a.ps.length)/\∃k,k<a.ps.length/\∀(j:Nat) (p q:PX),a.ps[j]?=some p->b.ps[j]?=some q->p.i=q.i/\p.d=q.d/\(p.s=q.s ↔ j≠k):=by
 have⟨R,A⟩:=mC J;have⟨lb,N⟩:=mC K;obtain⟨p,c,q,e,w,r⟩:=L;obtain⟨j,E,rfl⟩:=getElem_of_mem c;obtain⟨t,y,rfl⟩:=getElem_of_mem e;have u:=gg E;have v:=gg y
 rcases h with h|⟨G,k,h⟩|⟨D,k,h⟩
 ·have⟨S,O,f,o⟩:=h _ (getElem_mem y)
  obtain⟨x,Q,rfl⟩:=getElem_of_mem O;have g:=A.uniq (gg Q) u (f.trans w.symm);exact absurd (by rw[<-g];exact o) r
 ·have z:t<a.ps.length:=by rw[<-G];exact y
  have m:=gg z;have f:=h t _ _ m v
  by_cases l:t=k
  ·have M:j<b.ps.length:=by rw[G];exact E
   have B:=gg M;have o:=h j _ _ u B
   by_cases F:j=k
   ·subst l F
    exact absurd o.1 r
   ·have g:=N.uniq B v ((o.2 F).symm.trans w)
    rw[g]at o;exact absurd o.1 r
  ·have g:=A.uniq m u ((f.2 l).trans w.symm)
   rw[g]at f;exact absurd f.1 r
 ·refine⟨D,?_⟩
  have z:t<a.ps.length:=by rw[<-D.2.2.2.2.2];exact y
  have m:=gg z;have f:=h t _ _ m v;have g:=A.uniq m u (f.1.trans w.symm)
  have l:t=k:=by
   by_cases l:t=k
   ·exact l
   ·have C:=f.2.2 l
    rw[g]at C;exact absurd C r
  subst l;refine⟨t,z,λx p q c e=>⟨(h x p q c e).1,(h x p q c e).2.1,⟨λH I=>?_,(h x p q c e).2.2⟩⟩⟩;rw[I,m]at c;rw[I,v]at e
  injection c with c
  injection e with e
  subst c e;rw[g]at H;exact r H
def C7{rt:Nm}{a:RX}(b:a.err rt=0):¬tc a.ps a.ps:=λ⟨p,f,q,g,c,h⟩=>by
 have⟨k,e⟩:=mC b;obtain⟨j,d,rfl⟩:=getElem_of_mem f;obtain⟨t,i,rfl⟩:=getElem_of_mem g;exact h (by rw[e.uniq (gg d) (gg i) c])
def C8{a b:List PX}(h:tc a b):tc b a:=by
 obtain⟨p,d,q,f,c,g⟩:=h;exact⟨q,f,p,d,c.symm,λe=>g e.symm⟩
def C9{rt:Nm}{a:RX}{w:World}(e:a.ok w)(f:a.err rt=0):PrL w a.n.toNat a.A a.c (a.ps.map PX.pf)/\((a.n.toNat:Nat):Int)=a.n:=by
 have⟨j,d⟩:=mC f
 have g:0<=a.n:=by
  have⟨p,r,b⟩:=exists_cons_of_length_pos d.pos;have:=d.idx p (by rw[b];simp);omega
 refine⟨⟨?_,λp b=>?_⟩,qo⟩
 ·rw[length_map,flatMap_map]
  have h:=e.pr.own
  rw[show a.ps.flatMap PX.cs=a.ps.flatMap λp=>(p.pf).cs a.n.toNat from by
   rw[flatMap_def,flatMap_def]
   congr 1
   refine map_congr_left λp b=>?_;have:=d.idx p b;exact(Gr this.1 this.2.1 g).symm]at h
  exact h
 ·obtain⟨q,i,rfl⟩:=mem_map.1 b
  exact e.pr.ds q i
def uS{rt:Nm}(a b:RX)(w:World)(g:Nat)(h:a.ok w)(E:b.ok w)(C:a.err rt=0)(D:b.err rt=0)(F:b.nm=a.nm/\b.so=a.so/\b.st=a.st/\b.P=a.P/\b.n=a.n/\b.ps.length=a.ps.length)(L:g<=a.ps.length)
 (z:∀(j:Nat) (p q:PX),j<=g->a.ps[j]?=some p->b.ps[j]?=some q->p.i=q.i/\p.d=q.d/\(p.s=q.s ↔ j<g)) :
 Calls prog 15 #[a.v,b.v] w (fi w (.bool (decide (g=a.ps.length)))):=by
 have⟨B,t⟩:=C9 h C;have⟨l,_⟩:=C9 E D;obtain⟨G,H,I,J,o,r⟩:=F;rw[o]at l
 have m:=E9 w a.nm.kind a.nm.number a.nm.index a.P a.so a.st a.n.toNat a.ps.length a.c b.c g a.A b.A _ _ B l (by rw[length_map]) (by rw[length_map,r]) L (λj p q K k f=>by
  rw[List.getElem?_map]at k f;obtain⟨O,M,rfl⟩:=Option.map_eq_some_iff.1 k;obtain⟨q',N,rfl⟩:=Option.map_eq_some_iff.1 f;have⟨u,x,y⟩:=z j O q' K M N;exact⟨by simp only[PX.pf];rw[u],x,y⟩) h.len (λp k=>by
  obtain⟨q,f,rfl⟩:=mem_map.1 k;exact⟨(h.each q f).d.2,(h.each q f).e⟩)
 unfold RX.v;rw[G,H,I,J,o,r];rw[t]at m;exact m
def AO(a b:List PX)(j:Nat):Prop:=∃i p q,i<j/\a[i]?=some p/\q∈b/\p.i=q.i/\p.s≠q.s
def AP{a b:List PX}:¬AO a b 0:=λ⟨i,_,_,h,_⟩=>by omega
def Da{a b:List PX}:AO a b a.length ↔ tc a b:=by
 constructor
 ·rintro⟨i,p,q,_,c,d,h⟩
  exact⟨p,gH c,q,d,h⟩
 ·rintro⟨p,c,q,d,h⟩
  obtain⟨i,e,rfl⟩:=getElem_of_mem c;exact⟨i,_,q,e,gg e,d,h⟩
def AQ{a b:List PX}{j:Nat}{p:PX}(g:a[j]?=some p):AO a b (j+1) ↔ (AO a b j \/ ∃u q,u<b.length/\b[u]?=some q/\p.i=q.i/\p.s≠q.s):=by
 constructor
 ·rintro⟨i,e,q,f,c,d,h⟩
  rcases Nat.lt_or_eq_of_le (Nat.le_of_lt_succ f)with l|rfl
  ·exact .inl ⟨i,e,q,l,c,d,h⟩
  ·rw[g]at c
   injection c with c
   subst c;obtain⟨u,k,rfl⟩:=getElem_of_mem d;exact .inr ⟨u,_,k,gg k,h⟩
 ·rintro (⟨i,e,q,f,h⟩|⟨u,q,_,d,h⟩)
  ·exact⟨i,e,q,qo,h⟩
  ·exact⟨j,p,q,qo,g,gH d,h⟩
section
variable {P:Program} {ops:Array Oper} {md:Region.Mode} {Q:Exit->Act->World->Prop} {D E:World->Prop} {n st:Nat} {L:Array Bool->Act->World->Prop}
def wg(P:Program)(md:Region.Mode)(ops:Array Oper)(Q:Exit->Act->World->Prop)(D:World->Prop)(st n:Nat)(L:Array Bool->Act->World->Prop):Nat->Array Bool->Act->World->Prop
 | 0,S,a,w=>L S a w
 | f+1,S,a,w=>Region.ready md ops S≠[]/\∀i∈Region.ready md ops S,i<n/\wpOp P ops Q i (λb w'=>((S.setIfInBounds i true).getD st false=false->D w')/\wg P md ops Q D st n L f (S.setIfInBounds i true) b w') a w
def rK{g:Nat}(e:∀S a w,L S a w->wpAny P md ops Q g S a w)(f:Nat):∀(S:Array Bool) (a:Act) (w:World),wg P md ops Q D st n L f S a w->wpAny P md ops Q (f+g) S a w:=by
 induction f with
 | zero=>intro S a w h;rw[Nat.zero_add];exact e S a w h
 | succ f k =>
  intro S a w h;rw[Nat.add_right_comm];exact⟨λd=>absurd d h.1,λi j=>wpOp_mono (λb w' c=>k _ b w' c.2) (h.2 i j).2⟩
def pS{i:Nat}{r:Oper}{v:Value}(C:ops[i]?=some r)(ag:Region.noSelect ops=true)(W:Region.sinkB md ops n=true)(M:Region.chainB md ops n=true)(V:n<ops.size)(u:i<n)
 (hQ:∀c a w,Q (.panic c) (a.put r.dst v) w->Q (.panic c) a w) (ab:∀S a w,L S a w->∀j∈Region.ready md ops S,n<=j) (N:i≠st) (Z:(∀w,E w) \/ ((∀w,D w->E w)/\Region.waitsFor md ops st i=true)) (f:Nat) :
 ∀(S:Array Bool) (a:Act) (w:World),HeadInv md ops n S ->
  (∀j o,ops[j]?=some o->j≠i->S.getD j true=false->(∀e∈o.after,Region.binds md e=true->e.on≠i)->r.apart ops o=true) ->
  i∈Region.ready md ops S->YieldsIf P ops E r v a->(S.getD st false=false->D w)->wg P md ops Q D st n L f (S.setIfInBounds i true) (a.put r.dst v) w->wg P md ops Q D st n L (f+1) S a w:=by
 have X:=Region.noSelect_spec ag
 have ai:∀S,HeadInv md ops n S->S.getD i true=false->Region.waitsFor md ops st i=true->S.getD st false=false:=λS g d z=>by
  have⟨o,s,e,B,A,ah⟩:=Region.waitsFor_spec z
  cases hl:S.getD st false with
  | false=>rfl
  | true =>
   have G:=g.closed st o s hl e B A;rw[ah,getD_both d]at G
   cases G
 have J:∀S w,HeadInv md ops n S->S.getD i true=false->(S.getD st false=false->D w)->E w:=λS w g d l=>by
  rcases Z with h|⟨t,z⟩
  ·exact h w
  ·exact t w (l (ai S g d z))
 have T:∀(S:Array Bool) w,(S.getD st false=false->D w)->((S.setIfInBounds i true).getD st false=false->D w):=λS w l h=>l (by rwa [getD_set_ne false N]at h)
 induction f with
 | zero =>
  intro S a w g _ p x l H;have d:=(mem_ready.1 p).1;refine⟨λh=>by rw[h]at p;simp at p,λj q=>?_⟩
  by_cases m:j=i
  ·subst m;exact⟨u,x.wpOp C (J S w g d l) ⟨T S w l,H⟩⟩
  ·have F:=Nat.lt_of_not_le λh=>tail_waits W M V g _ i rfl u d j h q
   have:=ab _ _ _ H j (ready_mono q m)
   omega
 | succ f ih =>
  intro S a w g K p x l H;have d:=(mem_ready.1 p).1;refine⟨λh=>by rw[h]at p;simp at p,λj q=>?_⟩
  by_cases m:j=i
  ·subst m;exact⟨u,x.wpOp C (J S w g d l) ⟨T S w l,H⟩⟩
  ·have F:=Nat.lt_of_not_le λh=>tail_waits W M V g _ i rfl u d j h q
   refine⟨F,?_⟩;have⟨R,o,s,aa⟩:=mem_ready.1 q
   have af:∀e∈o.after,Region.binds md e=true->e.on≠i:=by
    intro e B A ac;have t:=aa e B A;rw[ac,getD_both d]at t;exact absurd t qs
   have hq:=wpOp_putIf s (K j o s m R af) (λcs b=>X i r cs b C) (λcs b=>X j o cs b s) hQ x (H.2 j (ready_mono q m)).2;refine wpOp_mono (λY w' y=>?_) hq;have I:(S.setIfInBounds j true).getD st false=false->D w':=λh=>y.2.1 (by rw[Array.setIfInBounds_comm _ _ (Ne.symm m),getD_set_ne false N];exact h);refine⟨I,ih (S.setIfInBounds j true) Y w' (g.set q F) ?_ (ready_mono p (Ne.symm m)) y.1 I ?_⟩
   ·intro k ok hk ad U ae
    refine K k ok hk ad ?_ ae
    by_cases O:j=k
    ·subst O;exact R
    ·rw[getD_set_ne true O]at U;exact U
   ·rw[Array.setIfInBounds_comm _ _ m]
    exact y.2.2
def kT(P:Program)(md:Region.Mode)(ops:Array Oper)(Q:Exit->Act->World->Prop)(D:World->Prop)(st n:Nat)(L:Array Bool->Act->World->Prop)(f:Nat)(S:Array Bool)(a:Act)(w:World):Prop:=HeadInv md ops n S->(S.getD st false=false->D w)->wg P md ops Q D st n L f S a w
def kM{i:Nat}{e:Oper}{v:Value}{f:Nat}{S:Array Bool}{a:Act}{w:World}(b:(Region.noSelect ops && Region.sinkB md ops n && Region.chainB md ops n && decide (n<ops.size))=true)(q:∀S a w,L S a w->∀j∈Region.ready md ops S,n<=j)
 (k:ops[i]?=some e) (l:i<n) (m:i≠st) (d:(Region.free md ops S i && (Region.ready md ops S).contains i && Region.waitsFor md ops st i)=true)
 (hQ:∀c a w,Q (.panic c) (a.put e.dst v) w->Q (.panic c) a w) (r:YieldsIf P ops D e v a)
 (h:kT P md ops Q D st n L f (S.setIfInBounds i true) (a.put e.dst v) w):kT P md ops Q D st n L (f+1) S a w:=by
 simp only[Bool.and_eq_true,decide_eq_true_eq]at b d;intro p g;have o:i∈Region.ready md ops S:=by simpa using d.1.2
 exact pS k b.1.1.1 b.1.1.2 b.1.2 b.2 l hQ q m (.inr ⟨λ_ h=>h,d.2⟩) f S a w p (Region.free_spec k d.1.1) o r g (h (p.set o l) (λh=>g (by rwa [getD_set_ne false m]at h)))
def wh{i:Nat}{d:Oper}{v:Value}{f:Nat}{S:Array Bool}{a:Act}{w:World}(b:(Region.noSelect ops && Region.sinkB md ops n && Region.chainB md ops n && decide (n<ops.size))=true)(q:∀S a w,L S a w->∀j∈Region.ready md ops S,n<=j)
 (k:ops[i]?=some d) (l:i<n) (m:i≠st) (e:(Region.free md ops S i && (Region.ready md ops S).contains i)=true)
 (hQ:∀c a w,Q (.panic c) (a.put d.dst v) w->Q (.panic c) a w) (r:YieldsIf P ops (λ_=>True) d v a)
 (h:kT P md ops Q D st n L f (S.setIfInBounds i true) (a.put d.dst v) w):kT P md ops Q D st n L (f+1) S a w:=by
 simp only[Bool.and_eq_true,decide_eq_true_eq]at b e;intro p g;have o:i∈Region.ready md ops S:=by simpa using e.2
 exact pS (E:=λ_=>True) k b.1.1.1 b.1.1.2 b.1.2 b.2 l hQ q m (.inl λ_=>trivial) f S a w p (Region.free_spec k e.1) o r g (h (p.set o l) (λh=>g (by rwa [getD_set_ne false m]at h)))
def uT{c:Oper}{f:Nat}{S:Array Bool}{a:Act}{w:World}(d:Region.ready md ops S=[st])(g:st<n)(e:ops[st]?=some c)
 (l:∀K:Act->World->Prop,(∀b w',kT P md ops Q D st n L f (S.setIfInBounds st true) b w'->K b w')->if Region.wanted c (yielded ops a.tmps)=true then c.wp P a w K Q else K (a.put c.dst undef) w):kT P md ops Q D st n L (f+1) S a w:=by
 intro k r;refine⟨by rw[d];simp,λj h=>?_⟩;rw[d]at h;obtain rfl:j=st:=by simpa using h
 refine⟨g,?_⟩;have q:j∈Region.ready md ops S:=by rw[d];simp
 have p:j<S.size:=by rw[k.size];exact(Array.getElem?_eq_some_iff.1 e).1
 have i:∀w':World,((S.setIfInBounds j true).getD j false=false->D w'):=λw' m=>by simp[p]at m
 exact wpOp_step e λK o=>l K λb w' hW=>o b w' ⟨i w',hW (k.set q g) (i w')⟩
def wi{i:Nat}{c:Oper}{f:Nat}{S:Array Bool}{a:Act}{w:World}(d:Region.ready md ops S=[i])(g:i<n)(r:i≠st)(m:ops[i]?=some c)
 (k:∀K:Act->World->Prop,(∀b w',D w'->kT P md ops Q D st n L f (S.setIfInBounds i true) b w'->K b w')->if Region.wanted c (yielded ops a.tmps)=true then c.wp P a w K Q else K (a.put c.dst undef) w):kT P md ops Q D st n L (f+1) S a w:=by
 intro p q;refine⟨by rw[d];simp,λj h=>?_⟩;rw[d]at h;obtain rfl:j=i:=by simpa using h
 refine⟨g,?_⟩;have o:j∈Region.ready md ops S:=by rw[d];simp
 exact wpOp_step m λK l=>k K λb w' e hW=>l b w' ⟨λ_=>e,hW (p.set o g) (λ_=>e)⟩
def wj{S:Array Bool}{a:Act}{w:World}(h:L S a w):kT P md ops Q D st n L 0 S a w:=λ_ _=>h
def qz(D:World->Prop){o:Nat}{a:Act}{w:World}{l:List Oper}(st n:Nat)(k:P.follows .mixedOrders=true)(f:D w.drew)
 (h:kT P .any l.toArray Q D st n (λS a w=>Region.seqB .any l.toArray (l.toArray.size - n) n S=true/\wpList P l.toArray Q (l.drop n) a w) n (Array.replicate l.toArray.size false) a w.drew) (q:n<=l.length):(Code.region o l.toArray true).wp P Q a w:=by
 have p:HeadInv .any l.toArray n (Array.replicate l.toArray.size false) :=
  ⟨qs,λj r _ i=>absurd i (by rw[getD_replicate_false];simp),λt _ m=>getD_in (by simpa using m) (getD_replicate_false _ _)⟩
 refine wp_region_any k ?_;have d:(l.drop n).length=l.toArray.size - n:=qs
 have b:=rK (g:=l.toArray.size - n) (λS e w' c=>by
  have:=wpAny_of_seq (md:=.any) (Q':=Q) (l.drop n) n S e w' (λj=>by simp[List.getElem?_drop]) (by rw[d];exact c.1) c.2
  rwa [d]at this) _ _ _ _ (h p (λ_=>f))
 rw[show n+(l.toArray.size - n)=l.toArray.size by simp;omega]at b;exact b
end
end Go.Proofs.YtlpmiimgacfmkaaGreatDoor
