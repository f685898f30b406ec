/- Part of the proof. -/
import Derived.Test.YtlpmiimgacfmkaaGreatDoorRGd
set_option linter.all false
set_option maxHeartbeats 8000000
set_option maxRecDepth 100000
namespace Go.Proofs.YtlpmiimgacfmkaaGreatDoor
open Go.Proofs.Tryz
open Go.RowKit
theorem mE(a:ON):fW a a=0:=by have:=tot_cmpO.anti a a;omega
theorem ltO.ne{a b:ON}(h:ltO a b):fW a b≠0/\fW b a≠0:=by
 unfold ltO at h;have:=tot_cmpO.anti a b;omega
def qZ(w:World)(b:List ON)(n:ON)(e:Ending)(w':World):Prop:=∃a,iI w a e w'/\qh a/\(∀x∈a,x∈b/\fW n x≠0)/\a.length<=b.length
theorem zi(au:Nat):∀(p:Option Addr) (Q:List ON) (B:Int) (n:ON) (w:World),Q.length<au->TT w p Q B->qh Q->eX n=0->Q.length<50000->(∃x∈Q,fW n x=0) ->
 Calls prog 235 #[.pointer p,fg n] w (qZ w Q n):=by
 induction au with
 | zero=>intro p Q B n w hK;omega
 | succ au X =>
 intro p Q B n w hK hT u U al a
 cases p with
 | none =>
  obtain⟨rfl,rfl⟩:=hT.isNone;obtain⟨x,a,_⟩:=a
  cases a
 | some b0 =>
  obtain⟨b,H,R,h,v2,D,h2,s,d,rfl,o⟩:=hT.some;obtain⟨so,an,_,_⟩:=eT n.owner;obtain⟨st,ao,_,_⟩:=eT n.text;obtain⟨a8,ab,_,_⟩:=eT h.owner;obtain⟨a9,ac,_,_⟩:=eT h.text;have K:=gc an ao;obtain⟨f,ap,az,n1,m⟩:=il w #[.int .i64 n.kind,.string so,.int .i64 n.number,.int .i64 n.index,.string st] 31 w.heap.size;have aa:=λW=>nh n h W U o.2.2.2.2.1;rw[gc ab ac,K]at aa
  have HSS:=Hd (λ(W:World) (hW:Fr [] f W)=>An (show ((W.cell? ⟨w.heap.size,0,none⟩=some (.int .i64 n.kind)/\W.cell? ⟨w.heap.size,1,none⟩=some (.string so)/\W.cell? ⟨w.heap.size,2,none⟩=some (.int .i64 n.number)/\W.cell? ⟨w.heap.size,3,none⟩=some (.int .i64 n.index)/\W.cell? ⟨w.heap.size,4,none⟩=some (.string st)))from by
   have D:=n1.fr hW qs;exact⟨D.c 0,D.c 1,D.c 2,D.c 3,D.c 4⟩) (o.cs ab ac (m.then hW)))
  have ah:=Hd aa;obtain⟨r,z⟩:=eR (fW n h);rw[z]at ah;obtain⟨rfl,I,F,ai⟩:=o;have o:TN w b (s++h::d) H R h v2 D h2 s d:=⟨rfl,I,F,ai⟩;obtain⟨⟨s1,Y⟩,k,l⟩:=jg.1 u;have aw:s.length+1+d.length<50000:=by rw[gG,List.length_cons]at al;omega
  have av:s.length+1+d.length<au+1:=by rw[gG,List.length_cons]at hK;omega
  have HN:=Hd (An o (An z (An u (An k l))));rw[K];have T:=Hd ap;have S:=Hd m
  rcases (show r<0 \/ r=0 \/ 0<r by omega)with h0|h0|h0
  ·have G:∃x∈s,fW n x=0:=by
    obtain⟨x,a,aq⟩:=a
    rcases List.mem_append.1 a with a|a
    ·exact⟨x,a,aq⟩
    ·rcases List.mem_cons.1 a with rfl|a
     ·omega
     ·exact absurd aq (ltO.trans (b:=h) (by unfold ltO;omega) (l x a)).ne.1
   have E:∀W,Fr [] f W->Calls prog 235 #[.pointer H,fg n] W (qZ W s n):=λW hW=>X H s D n W qo (I.fr0 (m.then hW)) s1 U qo G;rw[K]at E;have HI:=Hd E;have J:∀W,Fr [] f W->∀q i C,TT W q i C->i.length<=s.length->Calls prog 267 #[.pointer q,.pointer (some ⟨b,0,none⟩),.pointer R] W (iI W (i++h::d)):=λW hW q i C hq aJ=>lg q R i d C h2 b h v2 W hq (o.mid.fr0 (m.then hW)) (F.fr0 (m.then hW)) qo;have HB:=Hd J;have HS2:=Hd (λ(W:World) (hW:Fr [] f W)=>An (HSS.out W hW).1 (HSS.out W hW).2.1);clear X hT u U al o aa z I F ai s1 Y k l aw hK av E J an ab ao ac K a G n1 ap m az
   go_enter func235,ntmps235
   go_upto_region 1 with fail
   try rw[T.out]
   refine eY (λW=>Fr [] f W) qk qk ((Fq [] f).drew) ?_
   repeat(
    first
    | go_big_quiet_skip
    | (go_big_quiet_want;first|(go_big_quiet_op;go_big_quiet_on)|(apply Exists.intro;refine⟨λW hW=>?_,?_⟩;(· obtain⟨⟨x0,x1,x2,x3,x4⟩,⟨ag,z1⟩,z2,z3,z4,z5,z6⟩:=HSS.out W hW;go_simp;first|done|with_reducible exact rfl|with_reducible exact⟨rfl,rfl⟩|((go_at_call 103;(with_reducible refine(ah.out W).mono ?_);rintro e w' ⟨rfl,B⟩;exact⟨rfl,hW.then B⟩)));simp only[qq];go_big_quiet_on))
    )
   refine wpQuiet_nil ?_;intro Z j
   go_upto_region 3 with fail
   go_region_held3 (λW=>((W.cell? ⟨w.heap.size,0,none⟩=some (.int .i64 n.kind)/\W.cell? ⟨w.heap.size,1,none⟩=some (.string so)/\W.cell? ⟨w.heap.size,2,none⟩=some (.int .i64 n.number)/\W.cell? ⟨w.heap.size,3,none⟩=some (.int .i64 n.index)/\W.cell? ⟨w.heap.size,4,none⟩=some (.string st)))/\W.cell? ⟨b,0,none⟩=some (.pointer H)/\W.cell? ⟨b,1,none⟩=some (.pointer R)) (((with_reducible refine HS2.out _ ?_;(repeat(first|exact Fq _ _|with_reducible assumption|refine Fr.drew ?_|refine Fr.alloc ?_ _|refine Fr.then ?_ (Fr.undrew (by with_reducible assumption))));done))) (first
    | (go_at_call 235;(with_reducible refine(HI.out _ j.drew).mono ?_);rintro e w5 ⟨ad,⟨q5,h5,rfl,O,L⟩,N⟩;have M:=j.then L.undrew;have A:=Hd (An O N);clear O L N)
    | (go_at_call 267;(with_reducible refine(HB.out _ M _ _ _ A.out.1 A.out.2.2.2).mono ?_);rintro e w6 ⟨q6,h6,rfl,P,aj⟩;have ak:=M.then aj;have H6:=Hd P;clear P))
   go_wp2_with fail
   go_ret
   obtain⟨o,z,u,k,l⟩:=HN.out;obtain⟨_,t1,t2,t3⟩:=A.out;refine⟨ad++h::d,⟨_,_,rfl,H6.out,S.out.then ak⟩,jg.2 ⟨⟨t1,(jg.1 u).1.2⟩,λx a=>k x (t2 x a).1,l⟩,λx a=>?_,by simp only[gG,List.length_cons];omega⟩;simp only[List.mem_append,List.mem_cons]at a ⊢
   rcases a with a|rfl|a
   ·exact⟨.inl (t2 x a).1,(t2 x a).2⟩
   ·exact⟨.inr (.inl rfl),qo⟩
   ·exact⟨.inr (.inr a),(ltO.trans (b:=h) (by unfold ltO;omega) (l x a)).ne.1⟩
  ·subst h0
   have ay:fW h n=0:=by have:=tot_cmpO.anti n h;omega
   cases R with
   | none =>
    obtain⟨rfl,rfl⟩:=F.isNone;have aO:=Hd (I.fr0 m);have aF:=Hd (An s1 ay);clear X hT u U al o aa z I F ai s1 Y k l aw hK av an ab ao ac K a n1 ap m az ay
    go_enter func235,ntmps235
    go_upto_region 1 with fail
    try rw[T.out]
    refine eY (λW=>Fr [] f W) qk qk ((Fq [] f).drew) ?_
    repeat(
     first
     | go_big_quiet_skip
     | (go_big_quiet_want;first|(go_big_quiet_op;go_big_quiet_on)|(apply Exists.intro;refine⟨λW hW=>?_,?_⟩;(· obtain⟨⟨x0,x1,x2,x3,x4⟩,⟨ag,z1⟩,z2,z3,z4,z5,z6⟩:=HSS.out W hW;go_simp;first|done|with_reducible exact rfl|with_reducible exact⟨rfl,rfl⟩|((go_at_call 103;(with_reducible refine(ah.out W).mono ?_);rintro e w' ⟨rfl,B⟩;exact⟨rfl,hW.then B⟩)));simp only[qq];go_big_quiet_on))
     )
    refine wpQuiet_nil ?_;intro Z j;obtain⟨⟨x0,x1,x2,x3,x4⟩,⟨ag,z1⟩,z2,z3,z4,z5,z6⟩:=HSS.out Z j
    go_wp2_with fail
    go_ret
    obtain⟨o,z,u,k,l⟩:=HN.out
    exact⟨s,⟨_,_,rfl,aO.out.fr0 j,S.out.then j⟩,aF.out.1,λx a=>⟨by simp[a],(ltO.eqr (k x a) aF.out.2).ne.2⟩,qs⟩
   | some rb =>
   obtain⟨b3,aV,a4,n3,v3,aP,aQ,aX,aY,rfl,aH⟩:=F.some;have E:∀W,Fr [] f W->∀x∈d,eX x=0->Calls prog 235 #[.pointer (some ⟨b3,0,none⟩),fg x] W (qZ W d x):=λW hW x a hc=>X _ d h2 x W qo (F.fr0 (m.then hW)) Y hc qo ⟨x,a,mE x⟩;have HI:=Hd E;have J:∀W,Fr [] f W->∀c x v,Mid W c x v->∀q i C,TT W q i C->i.length<=d.length->Calls prog 267 #[.pointer H,.pointer (some ⟨c,0,none⟩),.pointer q] W (iI W (s++x::i)):=λW hW c x v hm q i C hq aJ=>lg H q s i D C c x v W (I.fr0 (m.then hW)) hm hq qo;have HB:=Hd J;have ar:=Hd (An aH (An Y ay));clear X hT u U al o aa z I F ai s1 Y k l aw hK av E J an ab ao ac K a n1 ap m az ay aH
   go_enter func235,ntmps235
   go_upto_region 1 with fail
   try rw[T.out]
   refine eY (λW=>Fr [] f W) qk qk ((Fq [] f).drew) ?_
   repeat(
    first
    | go_big_quiet_skip
    | (go_big_quiet_want;first|(go_big_quiet_op;go_big_quiet_on)|(apply Exists.intro;refine⟨λW hW=>?_,?_⟩;(· obtain⟨⟨x0,x1,x2,x3,x4⟩,⟨ag,z1⟩,z2,z3,z4,z5,z6⟩:=HSS.out W hW;go_simp;first|done|with_reducible exact rfl|with_reducible exact⟨rfl,rfl⟩|((go_at_call 103;(with_reducible refine(ah.out W).mono ?_);rintro e w' ⟨rfl,B⟩;exact⟨rfl,hW.then B⟩)));simp only[qq];go_big_quiet_on))
    )
   refine wpQuiet_nil ?_;intro Z j;obtain⟨⟨x0,x1,x2,x3,x4⟩,⟨ag,z1⟩,z2,z3,z4,z5,z6⟩:=HSS.out Z j
   go_wp2_with fail
   have T:=Hd j;clear x0 x1 x2 x3 x4 ag z1 z2 z3 z4 z5 z6 j
   go_loopg [6] (d.length+1) (λg s6 W=>Z=W/\∃c lq rq y vy k1 k2 ae af rest,s6=.pointer (some ⟨c,0,none⟩)/\d=(ae++y::af)++rest/\TN w c (ae++y::af) lq rq y vy k1 k2 ae af/\(ae++y::af).length<g)
   case atStart =>
    have e:=ar.out.1.1;exact⟨rfl,b3,aV,a4,n3,v3,aP,aQ,aX,aY,[],rfl,by rw[List.append_nil];exact e,by rw[<-e];exact ar.out.1,by rw[<-e];omega⟩
   case round =>
    obtain⟨rfl,c,lq,rq,y,vy,k1,k2,ae,af,rest,rfl,hp,aB,hg⟩:=hrel;obtain⟨a6,aC,_,_⟩:=eT y.owner;obtain⟨a7,aD,_,_⟩:=eT y.text;have aT:=aB.cs aC aD (S.out.then T.out);obtain⟨⟨y0,y1⟩,y2,y3,y4,y5,y6⟩:=aT;have t:=Hd (An hp (An aB (An hg (An aC aD))));clear hp aB hg aC aD
    cases lq with
    | some lb =>
     obtain⟨b5,aW,a5,n5,v5,aR,aS,aZ,a3,rfl,aI⟩:=t.out.2.1.2.1.some;have aE:=Hd aI;clear aI
     go_wp2_with fail
     go_roundg (ae.length+1)
     case measure=>have:=t.out.2.2.1;simp only[gG,List.length_cons]at this;omega
     case rel =>
      have e:=aE.out.1;refine⟨rfl,b5,aW,a5,n5,v5,aR,aS,aZ,a3,y::af++rest,rfl,?_,by rw[<-e];exact aE.out,by rw[<-e];omega⟩
      rw[t.out.1,<-e,List.append_assoc,List.cons_append]
    | none =>
     obtain⟨ax,_⟩:=t.out.2.1.2.1.isNone;have V:y∈d:=by rw[t.out.1];simp
     have aA:=λW hW=>HI.out W hW y V t.out.2.1.2.2.2.2.1;rw[gc t.out.2.2.2.1 t.out.2.2.2.2]at aA;have aM:=Hd aA;have aG:=λW hW=>HB.out W hW c y vy (t.out.2.1.mid.fr0 (S.out.then hW));have aL:=Hd aG;have HS2:=Hd (λ(W:World) (hW:Fr [] f W)=>An (HSS.out W hW).2.1 (t.out.2.1.cs t.out.2.2.2.1 t.out.2.2.2.2 (S.out.then hW)).2);have HY:=Hd (An ax V);clear aA aG ax V
     go_upto_region 11 with fail
     clear y0 y1 y2 y3 y4 y5 y6;have j:=T.out
     go_region_held3 (λW=>(W.cell? ⟨b,0,none⟩=some (.pointer H)/\W.cell? ⟨b,1,none⟩=some (.pointer (some ⟨b3,0,none⟩)))/\W.cell? ⟨c,2,none⟩=some (.int .i64 y.kind)/\W.cell? ⟨c,3,none⟩=some (.string a6)/\W.cell? ⟨c,4,none⟩=some (.int .i64 y.number)/\W.cell? ⟨c,5,none⟩=some (.int .i64 y.index)/\W.cell? ⟨c,6,none⟩=some (.string a7)) (((with_reducible refine HS2.out _ ?_;(repeat(first|exact Fq _ _|with_reducible assumption|refine Fr.drew ?_|refine Fr.alloc ?_ _|refine Fr.then ?_ (Fr.undrew (by with_reducible assumption))));done))) (first
      | (go_at_call 235;(with_reducible refine(aM.out _ j.drew).mono ?_);rintro e w5 ⟨ad,⟨q5,h5,rfl,O,L⟩,N⟩;have M:=j.then L.undrew;have A:=Hd (An O N);clear O L N)
      | (go_at_call 267;(with_reducible refine(aL.out _ M _ _ _ A.out.1 A.out.2.2.2).mono ?_);rintro e w6 ⟨q6,h6,rfl,P,aj⟩;have ak:=M.then aj;have H6:=Hd P;clear P))
     go_wp2_with fail
     go_ret
     obtain⟨o,z,u,k,l⟩:=HN.out;obtain⟨_,t1,t2,t3⟩:=A.out;have aK:=ar.out.2.1;obtain⟨ax,V⟩:=HY.out;have hp:=t.out.1;rw[ax,List.nil_append,List.cons_append]at hp
     have am:∀x∈ad,ltO y x:=λx a=>by
      obtain⟨G,aU⟩:=t2 x a;rw[hp]at G aK
      rcases List.mem_cons.1 G with rfl|G
      ·exact absurd (mE x) aU
      ·exact(List.pairwise_cons.1 aK).1 x G
     refine⟨s++y::ad,⟨_,_,rfl,H6.out,S.out.then ak⟩,jg.2 ⟨⟨(jg.1 u).1.1,t1⟩,λx a=>(k x a).trans (l y V),am⟩,λx a=>?_,by simp only[gG,List.length_cons];omega⟩;simp only[List.mem_append,List.mem_cons]at a ⊢
     rcases a with a|rfl|a
     ·exact⟨.inl a,(ltO.eqr (k x a) ar.out.2.2).ne.2⟩
     ·exact⟨.inr (.inr V),(ltO.eql z (l x V)).ne.1⟩
     ·exact⟨.inr (.inr (t2 x a).1),(ltO.eql z (l x (t2 x a).1)).ne.1⟩
  ·have am:ltO h n:=ltO.flip qo
   have G:∃x∈d,fW n x=0:=by
    obtain⟨x,a,aq⟩:=a
    rcases List.mem_append.1 a with a|a
    ·exact absurd aq (ltO.trans (k x a) am).ne.2
    ·rcases List.mem_cons.1 a with rfl|a
     ·omega
     ·exact⟨x,a,aq⟩
   have E:∀W,Fr [] f W->Calls prog 235 #[.pointer R,fg n] W (qZ W d n):=λW hW=>X R d h2 n W qo (F.fr0 (m.then hW)) Y U qo G;rw[K]at E;have HI:=Hd E;have J:∀W,Fr [] f W->∀q i C,TT W q i C->i.length<=d.length->Calls prog 267 #[.pointer H,.pointer (some ⟨b,0,none⟩),.pointer q] W (iI W (s++h::i)):=λW hW q i C hq aJ=>lg H q s i D C b h v2 W (I.fr0 (m.then hW)) (o.mid.fr0 (m.then hW)) hq qo;have HB:=Hd J;have e1:decide (r<0)=false:=decide_eq_false qo;have HS2:=Hd (λ(W:World) (hW:Fr [] f W)=>An (HSS.out W hW).1 (HSS.out W hW).2.1);have aN:=Hd am;clear X hT u U al o aa z I F ai s1 Y k l aw hK av E J an ab ao ac K a G n1 ap m az am
   go_enter func235,ntmps235
   go_upto_region 1 with fail
   try rw[T.out]
   refine eY (λW=>Fr [] f W) qk qk ((Fq [] f).drew) ?_
   repeat(
    first
    | go_big_quiet_skip
    | (go_big_quiet_want;first|(go_big_quiet_op;go_big_quiet_on)|(apply Exists.intro;refine⟨λW hW=>?_,?_⟩;(· obtain⟨⟨x0,x1,x2,x3,x4⟩,⟨ag,z1⟩,z2,z3,z4,z5,z6⟩:=HSS.out W hW;go_simp;first|done|with_reducible exact rfl|with_reducible exact⟨rfl,rfl⟩|((go_at_call 103;(with_reducible refine(ah.out W).mono ?_);rintro e w' ⟨rfl,B⟩;exact⟨rfl,hW.then B⟩)));simp only[qq];go_big_quiet_on))
    )
   refine wpQuiet_nil ?_;intro Z j
   go_upto_region 5 with fail
   go_region_held3 (λW=>((W.cell? ⟨w.heap.size,0,none⟩=some (.int .i64 n.kind)/\W.cell? ⟨w.heap.size,1,none⟩=some (.string so)/\W.cell? ⟨w.heap.size,2,none⟩=some (.int .i64 n.number)/\W.cell? ⟨w.heap.size,3,none⟩=some (.int .i64 n.index)/\W.cell? ⟨w.heap.size,4,none⟩=some (.string st)))/\W.cell? ⟨b,0,none⟩=some (.pointer H)/\W.cell? ⟨b,1,none⟩=some (.pointer R)) (((with_reducible refine HS2.out _ ?_;(repeat(first|exact Fq _ _|with_reducible assumption|refine Fr.drew ?_|refine Fr.alloc ?_ _|refine Fr.then ?_ (Fr.undrew (by with_reducible assumption))));done))) (first
    | (go_at_call 235;(with_reducible refine(HI.out _ j.drew).mono ?_);rintro e w5 ⟨ad,⟨q5,h5,rfl,O,L⟩,N⟩;have M:=j.then L.undrew;have A:=Hd (An O N);clear O L N)
    | (go_at_call 267;(with_reducible refine(HB.out _ M _ _ _ A.out.1 A.out.2.2.2).mono ?_);rintro e w6 ⟨q6,h6,rfl,P,aj⟩;have ak:=M.then aj;have H6:=Hd P;clear P))
   go_wp2_with fail
   go_ret
   obtain⟨o,z,u,k,l⟩:=HN.out;obtain⟨_,t1,t2,t3⟩:=A.out;refine⟨s++h::ad,⟨_,_,rfl,H6.out,S.out.then ak⟩,jg.2 ⟨⟨(jg.1 u).1.1,t1⟩,k,λx a=>l x (t2 x a).1⟩,λx a=>?_,by simp only[gG,List.length_cons];omega⟩;simp only[List.mem_append,List.mem_cons]at a ⊢
   rcases a with a|rfl|a
   ·exact⟨.inl a,(ltO.trans (k x a) aN.out).ne.2⟩
   ·exact⟨.inr (.inl rfl),qo⟩
   ·exact⟨.inr (.inr (t2 x a).1),(t2 x a).2⟩
def SG(w:World)(b:Nat)(a:List ON):Prop:=∃c h,BoxN w b 184 #[.pointer c]/\TT w c a h/\qh a
theorem SG.fr0{w w':World}{b:Nat}{c:List ON}(h:SG w b c)(a:Fr [] w w'):SG w' b c:=by
 obtain⟨g,k,d,e,f⟩:=h;exact⟨g,k,d.fr a qs,e.fr0 a,f⟩
def l6(w:World)(k:Nat)(e:Ending)(w':World):Prop:=∃b a,e=.returned (.tuple #[.pointer (some ⟨b,0,none⟩),.int .i64 0])/\SG w' b a/\a.length<=k/\Fr [] w w'
theorem TT.size{w:World}{p:Option Addr}{a:List ON}{h:Int}(d:TT w p a h):Calls prog 95 #[.pointer p] w λe w'=>e=.returned (.int .i64 (a.length:Int))/\w=w':=by
 obtain⟨t,rfl,b,c,rfl,rfl⟩:=d;refine(qY t w b).mono λe w' h=>⟨?_,h.2.symm⟩;rw[h.1,c.nums.2.2.1,TG.cnt_ns]
theorem Em(b:Nat)(d:List ON)(w:World)(h:SG w b d):Calls prog 38 #[.pointer (some ⟨b,0,none⟩)] w λe w'=>e=.returned (.int .i64 (d.length:Int))/\w=w':=by
 obtain⟨g,k,a,c,_⟩:=h;have i:=a.k0;have f:=Hd c.size;clear a c
 go_enter func38,ntmps38
 go_wp2_with ((go_at_call 95;(with_reducible refine f.out.mono ?_);rintro e w' ⟨rfl,rfl⟩))
 go_ret
 exact⟨rfl,rfl⟩
theorem oq(n:ON)(w:World)(b:Ok w)(a:eX n=0)(c:n.text.length<=140737488355328):Calls prog 53 #[fg n] w (ol w 0):=by
 have h:=ld n w b (by have:=iq (fi a);omega) c;rw[a]at h;exact h
theorem EF(b:Nat)(a:List ON)(n:ON)(v:Nm)(w:World)(O:Ok w)(G:SG w b a)(t:eX n=0)(af:n.text.length<=140737488355328)(T:v.length<=65536)(N:a.length<50000):
 Calls prog 189 #[.pointer (some ⟨b,0,none⟩),fg n,ft v] w (l6 w (a.length+1)):=by
 obtain⟨z,u,_,_⟩:=eT n.owner;obtain⟨A,x,_,_⟩:=eT n.text;obtain⟨sv,y,_,aj⟩:=eT v;have J:=gc u x;have ad:¬ 65536<(sv.size:Int):=qo
 have ae:=decide_eq_false ad;obtain⟨d,U,ag,V,f⟩:=il w #[n.kind,z,n.number,n.index,A] 31 w.heap.size;have r:=oq n d (O.fr0 f) t af;have F:=λ(W:World) (hW:Fr [] d W)=>Em b a W (G.fr0 (f.then hW));have ai:decide (65536<=(a.length:Int))=false:=by simp;omega
 obtain⟨l,k,H,R,P⟩:=G;have i:∀W m,Fr [] d W->BoxN W m 191 (jP (.pointer none) (.pointer none) n v 0 0 0)->Calls prog 236 #[.pointer l,.pointer m] W (tS W a n):=λW m hW hm=>EE (a.length+1) l a k m n v W qo (R.fr0 (f.then hW)) P ⟨⟨_,_,_,_,_,hm⟩,t,T⟩ N;unfold jP at i;rw[u,x,y]at i
 have HSS:=Hd (λ(W:World) (hW:Fr [] d W)=>An (show ((W.cell? ⟨w.heap.size,0,none⟩=some n.kind/\W.cell? ⟨w.heap.size,1,none⟩=some z/\W.cell? ⟨w.heap.size,2,none⟩=some n.number/\W.cell? ⟨w.heap.size,3,none⟩=some n.index/\W.cell? ⟨w.heap.size,4,none⟩=some A))from by
  have h:=V.fr hW qs;exact⟨h.c 0,h.c 1,h.c 2,h.c 3,h.c 4⟩) (show W.cell? ⟨b,0,none⟩=some (.pointer l)from(H.fr (f.then hW) qs).c 0))
 obtain⟨⟨x0,x1,x2,x3,x4⟩,_⟩:=HSS.out d (Fq [] d);rw[J]at r ⊢;rw[y];have B:=Hd r;have Y:=Hd f;have E:=Hd U;have C:=Hd F;have Z:=Hd i;clear r f U F i V ag R P H O t T N u x y J ae
 go_enter func189,ntmps189
 go_upto_region 3 with fail
 rw[E.out]
 go_upto_region 7 with((go_at_call 53;(with_reducible refine B.out.mono ?_);rintro e w2 ⟨rfl,ab⟩))
 clear x0 x1 x2 x3 x4;refine eY (λW=>Fr [] d W) qk qk (ab.drew) ?_
 repeat(
  first
  | go_big_quiet_skip
  | (go_big_quiet_want;first|(go_big_quiet_op;go_big_quiet_on)|(apply Exists.intro;refine⟨λW hW=>?_,?_⟩;(· obtain⟨⟨ak,z1,z2,z3,z4⟩,z5⟩:=HSS.out W hW;go_simp;first|done|with_reducible exact rfl|with_reducible exact⟨rfl,rfl⟩|((go_at_call 38;(with_reducible refine(C.out W hW).mono ?_);rintro e w' ⟨rfl,rfl⟩;exact⟨rfl,hW⟩)));simp only[qq];go_big_quiet_on))
  )
 refine wpQuiet_nil ?_;intro q s
 go_upto_region 9 with fail
 have D:=Hd (λ(W:World) (hW:Fr [] q W)=>HSS.out W (s.then hW));obtain⟨g,aa⟩:=eR (w.heap.size);rw[aa]at D ⊢;clear HSS C B E
 go_region_held3 (λW=>((W.cell? ⟨g,0,none⟩=some n.kind/\W.cell? ⟨g,1,none⟩=some z/\W.cell? ⟨g,2,none⟩=some n.number/\W.cell? ⟨g,3,none⟩=some n.index/\W.cell? ⟨g,4,none⟩=some A))/\W.cell? ⟨b,0,none⟩=some (.pointer l)) (with_reducible refine D.out _ ?_;(repeat(first|exact Fq _ _|with_reducible assumption|refine Fr.drew ?_|refine Fr.alloc ?_ _));done) (first
  | (go_at_call 236;(with_reducible refine(Z.out _ _ ((s.alloc _).drew) (BoxN.new q _ _).drew).mono ?_);rintro e X ⟨ah,⟨j,h5,rfl,S,K⟩,Q⟩;have ac:=(Fr.alloc (Fq [] q) _).then K.undrew;have o:=Hd (An S Q);clear S K Q))
 have M:=ac.alloc (.cells #[.pointer j] 184);have I:=BoxN.new X 184 #[.pointer j];have L:=(Y.out.then s).then M;have p:=Hd (An L (An I (o.out.1.fr0 ((Fq [] X).alloc (.cells #[.pointer j] 184)))));clear M I L
 go_wp2_with fail
 go_ret2
 exact⟨_,ah,rfl,⟨j,h5,p.out.2.1,p.out.2.2,o.out.2.1⟩,o.out.2.2.2,p.out.1⟩
theorem zj(b:Nat)(d:List ON)(n:ON)(w:World)(M:Ok w)(D:SG w b d)(l:eX n=0)(ae:n.text.length<=140737488355328)(L:d.length<50000):
 Calls prog 188 #[.pointer (some ⟨b,0,none⟩),fg n] w (l6 w d.length):=by
 obtain⟨p,Q,_,_⟩:=eT n.owner;obtain⟨q,R,_,_⟩:=eT n.text;have G:=gc Q R;obtain⟨i,T,af,U,g⟩:=il w #[.int .i64 n.kind,.string p,.int .i64 n.number,.int .i64 n.index,.string q] 31 w.heap.size;have u:=oq n i (M.fr0 g) l ae;have Y:=Hd D;obtain⟨h,k,E,y,O⟩:=D;have hF:=λ(W:World) (hW:Fr [] i W)=>Bz h d k n W (y.fr0 (g.then hW)) l;have z:(∃x∈d,fW n x=0)->∀W,Fr [] i W->Calls prog 235 #[.pointer h,fg n] W (qZ W d n):=λm W hW=>zi (d.length+1) h d k n W qo (y.fr0 (g.then hW)) O l L m
 have HSS:=Hd (λ(W:World) (hW:Fr [] i W)=>An (show ((W.cell? ⟨w.heap.size,0,none⟩=some (.int .i64 n.kind)/\W.cell? ⟨w.heap.size,1,none⟩=some (.string p)/\W.cell? ⟨w.heap.size,2,none⟩=some (.int .i64 n.number)/\W.cell? ⟨w.heap.size,3,none⟩=some (.int .i64 n.index)/\W.cell? ⟨w.heap.size,4,none⟩=some (.string q)))from by
  have f:=U.fr hW qs;exact⟨f.c 0,f.c 1,f.c 2,f.c 3,f.c 4⟩) (show W.cell? ⟨b,0,none⟩=some (.pointer h)from(E.fr (g.then hW) qs).c 0))
 obtain⟨⟨x0,x1,x2,x3,x4⟩,_⟩:=HSS.out i (Fq [] i);rw[G]at u hF z ⊢;have V:=Hd u;have s:=Hd g;have Z:=Hd T;have X:=Hd hF;have C:=Hd z;clear u g T hF z U af y O E M l L Q R G
 go_enter func188,ntmps188
 go_upto_region 3 with fail
 rw[Z.out]
 go_upto_region 5 with((go_at_call 53;(with_reducible refine V.out.mono ?_);rintro e w2 ⟨rfl,H⟩))
 clear x0 x1 x2 x3 x4;obtain⟨a,ac⟩:=eR (w.heap.size);rw[ac]at HSS ⊢
 go_region_held3 (λW=>((W.cell? ⟨a,0,none⟩=some (.int .i64 n.kind)/\W.cell? ⟨a,1,none⟩=some (.string p)/\W.cell? ⟨a,2,none⟩=some (.int .i64 n.number)/\W.cell? ⟨a,3,none⟩=some (.int .i64 n.index)/\W.cell? ⟨a,4,none⟩=some (.string q)))/\W.cell? ⟨b,0,none⟩=some (.pointer h)) (((with_reducible refine HSS.out _ ?_;(repeat(first|exact Fq _ _|with_reducible assumption|refine Fr.drew ?_|refine Fr.alloc ?_ _|refine Fr.then ?_ (Fr.undrew (by with_reducible assumption))));done))) (first
  | (go_at_call 97;(with_reducible refine(X.out _ H.drew).mono ?_);rintro e w5 ⟨q5,rfl,N,I⟩;have j:=H.then I.undrew;have B:=Hd N;clear N I))
 cases q5 with
 | none =>
  go_wp2_with fail
  go_ret2
  exact⟨b,d,rfl,Y.out.fr0 (s.out.then j),fV _,s.out.then j⟩
 | some qb =>
  have m:∃x∈d,fW n x=0:=by
   rcases B.out with ab|⟨b,x,v,_,f,h2,_⟩
   ·cases ab
   ·exact⟨x,f,h2⟩
  have aa:=Hd (C.out m);clear m C B
  go_upto_region 7 with fail
  go_region_held3 (λW=>((W.cell? ⟨a,0,none⟩=some (.int .i64 n.kind)/\W.cell? ⟨a,1,none⟩=some (.string p)/\W.cell? ⟨a,2,none⟩=some (.int .i64 n.number)/\W.cell? ⟨a,3,none⟩=some (.int .i64 n.index)/\W.cell? ⟨a,4,none⟩=some (.string q)))/\W.cell? ⟨b,0,none⟩=some (.pointer h)) (((with_reducible refine HSS.out _ ?_;(repeat(first|exact Fq _ _|with_reducible assumption|refine Fr.drew ?_|refine Fr.alloc ?_ _|refine Fr.then ?_ (Fr.undrew (by with_reducible assumption))));done))) (first
   | (go_at_call 235;(with_reducible refine(aa.out _ j.drew).mono ?_);rintro e A ⟨ag,⟨o,h6,rfl,S,J⟩,P⟩;have ad:=j.then J.undrew;have r:=Hd (An S P);clear S J P))
  have K:Fr [] w (A.alloc (.cells #[.pointer o] 184)):=(s.out.then ad).alloc _;have F:=BoxN.new A 184 #[.pointer o];have t:=Hd (An K (An F (r.out.1.fr0 ((Fq [] A).alloc (.cells #[.pointer o] 184)))));clear F K
  go_wp2_with fail
  go_ret2
  exact⟨_,ag,rfl,⟨o,h6,t.out.2.1,t.out.2.2,r.out.2.1⟩,r.out.2.2.2,t.out.1⟩
def Fz(w:World)(a:List ON)(e:Ending)(w':World):Prop:=∃(s:ByteArray) (f:Bool),e=.returned (.tuple #[.string s,.bool f])/\s.size<=65536/\(a=[]->s=⟨#[]⟩/\f=false)/\Fr [] w w'
theorem En(b:Nat)(i:List ON)(n:ON)(w:World)(O:SG w b i)(A:eX n=0):
 Calls prog 40 #[.pointer (some ⟨b,0,none⟩),fg n] w (Fz w i):=by
 obtain⟨l,C,_,_⟩:=eT n.owner;obtain⟨m,D,_,_⟩:=eT n.text;have t:=gc C D;obtain⟨o,G,T,I,f⟩:=il w #[n.kind,l,n.number,n.index,m] 31 w.heap.size;obtain⟨j,k,s,F,P⟩:=O;have hF:=λ(W:World) (hW:Fr [] o W)=>Bz j i k n W (F.fr0 (f.then hW)) A
 have HSS:=Hd (λ(W:World) (hW:Fr [] o W)=>An (show ((W.cell? ⟨w.heap.size,0,none⟩=some n.kind/\W.cell? ⟨w.heap.size,1,none⟩=some l/\W.cell? ⟨w.heap.size,2,none⟩=some n.number/\W.cell? ⟨w.heap.size,3,none⟩=some n.index/\W.cell? ⟨w.heap.size,4,none⟩=some m))from by
  have a:=I.fr hW qs;exact⟨a.c 0,a.c 1,a.c 2,a.c 3,a.c 4⟩) (show W.cell? ⟨b,0,none⟩=some (.pointer j)from(s.fr (f.then hW) qs).c 0))
 rw[t]at hF ⊢;have q:=Hd f;have L:=Hd G;have K:=Hd hF;clear f G hF I T F P s A C D t
 go_enter func40,ntmps40
 go_upto_region 3 with fail
 try rw[L.out]
 have y:=Fq [] o;obtain⟨d,N⟩:=eR (w.heap.size);rw[N]at HSS ⊢
 go_region_held3 (λW=>((W.cell? ⟨d,0,none⟩=some n.kind/\W.cell? ⟨d,1,none⟩=some l/\W.cell? ⟨d,2,none⟩=some n.number/\W.cell? ⟨d,3,none⟩=some n.index/\W.cell? ⟨d,4,none⟩=some m))/\W.cell? ⟨b,0,none⟩=some (.pointer j)) (((with_reducible refine HSS.out _ ?_;(repeat(first|exact Fq _ _|with_reducible assumption|refine Fr.drew ?_|refine Fr.alloc ?_ _|refine Fr.then ?_ (Fr.undrew (by with_reducible assumption))));done))) (first
  | (go_at_call 97;(with_reducible refine(K.out _ y.drew).mono ?_);rintro e X ⟨U,rfl,B,u⟩;have z:=y.then u.undrew;have p:=Hd B;clear B u))
 cases U with
 | none =>
  go_wp2_with fail
  go_ret2
  exact⟨⟨#[]⟩,false,rfl,qd,λ_=>⟨rfl,rfl⟩,q.out.then z⟩
 | some V =>
  have S:∃b x v,V=⟨b,0,none⟩/\x∈i/\Mid X b x v:=by
   rcases p.out with h|⟨b,x,v,h,a,Y,M⟩
   ·cases h
   ·cases h;exact⟨b,x,v,rfl,a,M⟩
  obtain⟨c,x,v,rfl,H,⟨_,_,_,_,_,g⟩,_,R⟩:=S;obtain⟨J,E,_,Q⟩:=eT v;unfold jP at g;rw[E]at g;have Z:=g.k7;have r:=Hd (An H (show J.size<=65536 by omega));clear g H R Q E p
  go_wp2_with fail
  go_ret2
  exact⟨J,true,rfl,r.out.2,λh=>absurd r.out.1 (by rw[h];simp),q.out.then z⟩
theorem ot{c:CH}(h:iQ c=true):eX c.n=0/\c.v.length<=65536:=by
 unfold iQ at h;simp only[Bool.and_eq_true,decide_eq_true_eq]at h;exact⟨h.1,h.2.1⟩
theorem tT(E:Nat)(q:List ON)(l:List CH)(B:Option Addr)(c:Nat)(w:World)(ae:Ok w)(t:SG w E q)(h:Chs w B l)(hg:∀x∈l,x.fit/\iQ x=true)(hl:q.length+l.length<40000):
 Calls prog 153 #[.pointer (some ⟨E,0,none⟩),.slice B l.length c] w (l6 w (q.length+l.length)):=by
 obtain⟨n,R⟩:=eR (l.length);have D:=Hd (An R h);have K:=Hd ae;have aa:=Hd hg;have ab:=Hd t;obtain⟨m,Q⟩:=eR (q.length);have HM:=Hd Q;rw[R,Q]at hl ⊢
 go_enter func153,ntmps153
 go_wp2_with fail
 go_loopw [0,13] (λs i W=>∃(j b:Nat) (f:List ON),j<=n/\i=j/\s=.pointer b/\SG W b f/\f.length<=m+j/\Fr [] w W) (λ_ i _=>n - (intOf i).toNat)
 case atStart=>exact⟨0,E,q,Nat.zero_le _,rfl,rfl,ab.out,by rw[HM.out];omega,Fq _ _⟩
 case round =>
  obtain⟨j,b,f,hj,rfl,rfl,t,P,O⟩:=hrel;have d:=Hd (An t (An P O));clear t P O
  by_cases ad:j<n
  ·have ah:(j:Int)<(n:Int):=qo
   have T:Row wr wr.heap.size 7 B n (l.flatMap CH.cs):=by have h:=D.out.2.fr0 d.out.2.2;unfold Chs Rd at h;rw[D.out.1]at h;exact h
   obtain⟨bb,off,rfl,ac,N⟩:=fo ip T qo;obtain⟨x,I⟩:∃x,l[j]?=some x:=⟨_,gx (by rw[D.out.1];exact ad)⟩;obtain⟨⟨f1,G,f3⟩,S⟩:=aa.out x (iu I);obtain⟨H,af⟩:=ot S;have u:=N j x I;have p:x.a=false->∀W,Fr [] wr W->Calls prog 189 #[.pointer (some ⟨b,0,none⟩),fg x.n,ft x.v] W (l6 W (f.length+1)):=λ_ W hW=>EF b f x.n x.v W (K.out.fr0 (d.out.2.2.then hW)) (d.out.1.fr0 hW) H G af (by have:=d.out.2.1;omega);have o:x.a=true->∀W,Fr [] wr W->Calls prog 188 #[.pointer (some ⟨b,0,none⟩),fg x.n] W (l6 W f.length):=λ_ W hW=>zj b f x.n W (K.out.fr0 (d.out.2.2.then hW)) (d.out.1.fr0 hW) H G (by have:=d.out.2.1;omega);obtain⟨⟨k,ow,nu,ix,tx⟩,v,L⟩:=x;simp only at f1 G f3 p o;obtain⟨so,U,_,_⟩:=eT ow;obtain⟨st,V,_,_⟩:=eT tx;obtain⟨sv,X,_,_⟩:=eT v;unfold CH.cs at u;unfold fg at p o;simp only[U,V,X]at u p o;obtain⟨y0,y1,y2,y3,y4,y5,y6⟩:=AR u;obtain⟨w1,Y,ag,Z,M⟩:=il wr #[.int .i64 k,.string so,.int .i64 nu,.int .i64 ix,.string st,.string sv,.bool L] 95 wr.heap.size;clear u N T I H U V X S
   go_upto_region 6 with fail
   try rw[Y]
   clear y0 y1 y2 y3 y4 y5 y6 ac;obtain⟨x0,x1,x2,x3,x4,x5,x6⟩:=Z.m7;have r:=Hd M;clear Y Z M ag
   cases L with
   | false =>
    have C:=Hd (p rfl);clear p o
    go_wp2_with ((go_at_call 189;(with_reducible refine(C.out _ r.out).mono ?_);rintro e w2 ⟨F,J,rfl,A,z,y⟩;have g:=Hd (An A (An z y));clear A z y))
    go_roundw
    case rel=>exact⟨j+1,F,J,qo,by go_num,rfl,g.out.1,by have:=g.out.2.1;have:=d.out.2.1;omega,d.out.2.2.then (r.out.then g.out.2.2)⟩
    case measure=>simp[intOf];omega
   | true =>
    have C:=Hd (o rfl)
    go_wp2_with ((go_at_call 188;(with_reducible refine(C.out _ r.out).mono ?_);rintro e w2 ⟨F,J,rfl,A,z,y⟩;have g:=Hd (An A (An z y))))
    go_roundw
    case rel=>exact⟨j+1,F,J,qo,by go_num,rfl,g.out.1,by have:=g.out.2.1;have:=d.out.2.1;omega,d.out.2.2.then (r.out.then g.out.2.2)⟩
    case measure=>simp[intOf];omega
  ·obtain rfl:j=n:=qo
   go_wp2_with fail
   go_ret2
   exact⟨b,f,rfl,d.out.1,d.out.2.1,d.out.2.2⟩
def StAt(w:World)(b:Nat)(t:TR):Prop:=BoxN w b 184 #[t.ptr]/\TRat w t
theorem StAt.fr0{w w':World}{b:Nat}{t:TR}(h:StAt w b t)(a:Fr [] w w'):StAt w' b t:=⟨h.1.fr a qs,h.2.fr0 a⟩
theorem uR(w:World):Calls prog 33 #[] w λe w'=>e=.returned (.pointer (some ⟨w.heap.size,0,none⟩))/\StAt w' w.heap.size .nil/\Fr [] w w':=by
 go_enter func33,ntmps33
 go_wp2_with fail
 go_ret
 exact⟨rfl,⟨BoxN.new w _ _,trivial⟩,(Fq [] w).alloc _⟩
theorem BA(b:Nat)(t:TR)(w:World)(h:StAt w b t):Calls prog 38 #[.pointer (some ⟨b,0,none⟩)] w λe w'=>e=.returned (.int .i64 t.s)/\w'=w:=by
 have d:=h.1.k0;have a:=xz t w h.2;unfold TR.ptr at a d;have c:=Hd a
 go_enter func38,ntmps38
 go_wp2_with ((go_at_call 95;(with_reducible refine c.out.mono ?_);rintro e w' ⟨rfl,rfl⟩))
 go_ret
 exact⟨rfl,rfl⟩
theorem pN(n:Nat)(f:Value)(w:World):CallsIn Fence.wide n prog 156 #[.pointer none,f] w λe w'=>e=.returned (.bool true)/\w'=w:=by
 refine callsIn_wide.2 ?_
 go_enter func156,ntmps156
 go_wp2_with fail
 go_ret
 exact⟨rfl,rfl⟩
theorem sN(n b:Nat)(w:World):CallsIn Fence.wide n prog 96 #[.pointer (some ⟨b,0,none⟩)] w λe w'=>e=.returned (.func (.func 155) #[] #[.pointer (some ⟨w.heap.size,0,none⟩)])/\w'=w.alloc (.cells #[.pointer (some ⟨b,0,none⟩)] 86):=by
 refine callsIn_wide.2 ?_
 go_enter func96,ntmps96
 go_wp2_with fail
 go_ret
 exact⟨rfl,rfl⟩
section
variable {P:Program} {ops:Array Oper} {md:Region.Mode} {Q:Exit->Act->World->Prop} {C:World->Prop} {n:Nat} {L:Array Bool->Act->World->Prop}
def uS(P:Program)(md:Region.Mode)(ops:Array Oper)(Q:Exit->Act->World->Prop)(C:World->Prop)(n:Nat)(L:Array Bool->Act->World->Prop):Nat->Array Bool->Act->World->Prop
 | 0,S,a,w=>L S a w
 | f+1,S,a,w=>Region.ready md ops S≠[]/\∀i∈Region.ready md ops S,i<n/\wpOp P ops Q i (λb w'=>C w'/\uS P md ops Q C n L f (S.setIfInBounds i true) b w') a w
theorem l7{g:Nat}(e:∀S a w,L S a w->wpAny P md ops Q g S a w)(f:Nat):∀(S:Array Bool) (a:Act) (w:World),uS P md ops Q C n L f S a w->wpAny P md ops Q (f+g) S a w:=by
 induction f with
 | zero=>intro S a w h;rw[Nat.zero_add];exact e S a w h
 | succ f k =>
  intro S a w h;rw[Nat.add_right_comm];exact⟨λd=>absurd d h.1,λi j=>wpOp_mono (λb w' c=>k _ b w' c.2) (h.2 i j).2⟩
theorem uT{i:Nat}{o:Oper}{v:Value}(x:ops[i]?=some o)(Z:Region.noSelect ops=true)(J:Region.sinkB md ops n=true)(D:Region.chainB md ops n=true)(I:n<ops.size)(r:i<n)
 (hQ:∀c a w,Q (.panic c) (a.put o.dst v) w->Q (.panic c) a w) (R:∀S a w,L S a w->∀j∈Region.ready md ops S,n<=j) (f:Nat) :
 ∀(S:Array Bool) (a:Act) (w:World),HeadInv md ops n S ->
  (∀j m,ops[j]?=some m->j≠i->S.getD j true=false->(∀e∈m.after,Region.binds md e=true->e.on≠i)->o.apart ops m=true) ->
  i∈Region.ready md ops S->YieldsIf P ops C o v a->C w->uS P md ops Q C n L f (S.setIfInBounds i true) (a.put o.dst v) w->uS P md ops Q C n L (f+1) S a w:=by
 have K:=Region.noSelect_spec Z
 induction f with
 | zero =>
  intro S a w u _ g t p H;have s:=(mem_ready.1 g).1;refine⟨λh=>by rw[h]at g;simp at g,λj l=>?_⟩
  by_cases d:j=i
  ·subst d;exact⟨r,t.wpOp x p ⟨p,H⟩⟩
  ·have y:=Nat.lt_of_not_le λh=>tail_waits J D I u _ i rfl r s j h l
   have:=R _ _ _ H j (ready_mono l d)
   omega
 | succ f ih =>
  intro S a w u B g t p H;have s:=(mem_ready.1 g).1;refine⟨λh=>by rw[h]at g;simp at g,λj l=>?_⟩
  by_cases d:j=i
  ·subst d;exact⟨r,t.wpOp x p ⟨p,H⟩⟩
  ·have y:=Nat.lt_of_not_le λh=>tail_waits J D I u _ i rfl r s j h l
   refine⟨y,?_⟩;obtain⟨F,m,z,N⟩:=mem_ready.1 l
   have Y:∀e∈m.after,Region.binds md e=true->e.on≠i:=by
    intro e T O U;have A:=N e T O;rw[U,getD_both s]at A;exact absurd A qs
   have hq:=wpOp_putIf z (B j m z d F Y) (λcs b=>K i o cs b x) (λcs b=>K j m cs b z) hQ t (H.2 j (ready_mono l d)).2;refine wpOp_mono (λM w' q=>?_) hq;refine⟨q.2.1,ih (S.setIfInBounds j true) M w' (u.set l y) ?_ (ready_mono g (Ne.symm d)) q.1 q.2.1 ?_⟩
   ·intro k ok V W G X
    refine B k ok V W ?_ X
    by_cases E:j=k
    ·subst E;exact F
    ·rw[getD_set_ne true E]at G;exact G
   ·rw[Array.setIfInBounds_comm _ _ d]
    exact q.2.2
def jb(P:Program)(md:Region.Mode)(ops:Array Oper)(Q:Exit->Act->World->Prop)(C:World->Prop)(n:Nat)(L:Array Bool->Act->World->Prop)(f:Nat)(S:Array Bool)(a:Act)(w:World):Prop:=HeadInv md ops n S->uS P md ops Q C n L f S a w
theorem fN{i:Nat}{d:Oper}{v:Value}{f:Nat}{S:Array Bool}{a:Act}{w:World}(b:(Region.noSelect ops && Region.sinkB md ops n && Region.chainB md ops n && decide (n<ops.size))=true)(p:∀S a w,L S a w->∀j∈Region.ready md ops S,n<=j)
 (g:ops[i]?=some d) (h:i<n) (e:(Region.free md ops S i && (Region.ready md ops S).contains i)=true)
 (hQ:∀c a w,Q (.panic c) (a.put d.dst v) w->Q (.panic c) a w) (q:YieldsIf P ops C d v a) (o:C w)
 (m:jb P md ops Q C n L f (S.setIfInBounds i true) (a.put d.dst v) w):jb P md ops Q C n L (f+1) S a w:=by
 simp only[Bool.and_eq_true,decide_eq_true_eq]at b e;intro l;have k:i∈Region.ready md ops S:=by simpa using e.2
 exact uT g b.1.1.1 b.1.1.2 b.1.2 b.2 h hQ p f S a w l (Region.free_spec g e.1) k q o (m (l.set k h))
theorem wS{i:Nat}{c:Oper}{f:Nat}{S:Array Bool}{a:Act}{w:World}(d:Region.ready md ops S=[i])(e:i<n)(m:ops[i]?=some c)
 (h:∀K:Act->World->Prop,(∀b w',C w'->jb P md ops Q C n L f (S.setIfInBounds i true) b w'->K b w')->if Region.wanted c (yielded ops a.tmps)=true then c.wp P a w K Q else K (a.put c.dst undef) w):jb P md ops Q C n L (f+1) S a w:=by
 intro p;refine⟨by rw[d];simp,λj g=>?_⟩;rw[d]at g;obtain rfl:j=i:=by simpa using g
 refine⟨e,?_⟩;have o:j∈Region.ready md ops S:=by rw[d];simp
 exact wpOp_step m λK l=>h K λb w' k hW=>l b w' ⟨k,hW (p.set o e)⟩
theorem gO{i j:Nat}{d e:Oper}{f:Nat}{S:Array Bool}{a:Act}{w:World}(c:Region.ready md ops S=[i,j])(l:i<n)(o:j<n)(s:ops[i]?=some d)(u:ops[j]?=some e)
 (q:∀K:Act->World->Prop,(∀b w',C w'->jb P md ops Q C n L f (S.setIfInBounds i true) b w'->K b w')->if Region.wanted d (yielded ops a.tmps)=true then d.wp P a w K Q else K (a.put d.dst undef) w)
 (r:∀K:Act->World->Prop,(∀b w',C w'->jb P md ops Q C n L f (S.setIfInBounds j true) b w'->K b w')->if Region.wanted e (yielded ops a.tmps)=true then e.wp P a w K Q else K (a.put e.dst undef) w):jb P md ops Q C n L (f+1) S a w:=by
 intro p;refine⟨by rw[c];simp,λm k=>?_⟩;have t:i∈Region.ready md ops S:=by rw[c];simp
 have v:j∈Region.ready md ops S:=by rw[c];simp
 rw[c]at k;simp only[List.mem_cons,List.not_mem_nil,or_false]at k
 rcases k with rfl|rfl
 ·exact⟨l,wpOp_step s λK h=>q K λb w' g hW=>h b w' ⟨g,hW (p.set t l)⟩⟩
 ·exact⟨o,wpOp_step u λK h=>r K λb w' g hW=>h b w' ⟨g,hW (p.set v o)⟩⟩
theorem eW{S:Array Bool}{a:Act}{w:World}(h:L S a w):jb P md ops Q C n L 0 S a w:=λ_=>h
theorem eZ(C:World->Prop){m:Nat}{a:Act}{w:World}{l:List Oper}(n:Nat)(i:P.follows .mixedOrders=true)
 (h:jb P .any l.toArray Q C n (λS a w=>Region.seqB .any l.toArray (l.toArray.size - n) n S=true/\wpList P l.toArray Q (l.drop n) a w) n (Array.replicate l.toArray.size false) a w.drew) (p:n<=l.length):(Code.region m l.toArray true).wp P Q a w:=by
 have o:HeadInv .any l.toArray n (Array.replicate l.toArray.size false) :=
  ⟨qs,λj q _ f=>absurd f (by rw[getD_replicate_false];simp),λt _ k=>getD_in (by simpa using k) (getD_replicate_false _ _)⟩
 refine wp_region_any i ?_;have d:(l.drop n).length=l.toArray.size - n:=qs
 have b:=l7 (g:=l.toArray.size - n) (λS e w' c=>by
  have:=wpAny_of_seq (md:=.any) (Q':=Q) (l.drop n) n S e w' (λj=>by simp[List.getElem?_drop]) (by rw[d];exact c.1) c.2
  rwa [d]at this) _ _ _ _ (h o)
 rw[show n+(l.toArray.size - n)=l.toArray.size by simp;omega]at b;exact b
theorem fC{l:List Oper}{g n:Nat}:∀(S:Array Bool) (a:Act) (w:World),(Region.seqB .any l.toArray g n S=true/\wpList P l.toArray Q (l.drop n) a w)->∀j∈Region.ready .any l.toArray S,n<=j:=λ_ _ _ h=>seqB_ready h.1
end
abbrev fb(_ : Nat)(P : Program)(md : Region.Mode)(ops : Array Oper)(Q : Exit -> Act -> World -> Prop)(C : World -> Prop)(n : Nat)(L : Array Bool -> Act -> World -> Prop)(f : Nat)(S : Array Bool)(a : Act)(w : World): Prop := jb P md ops Q C n L f S a w
theorem GI{P : Program}{ops : Array Oper}{Q : Exit -> Act -> World -> Prop}{C : World -> Prop}{n : Nat}{L : Array Bool -> Act -> World -> Prop}{i : Nat}{oi : Oper}{v : Value}{f : Nat}{S : Array Bool}{a : Act}{w : World}(hi : ops[i]? = some oi)(hy : YieldsIf P ops C oi v a)
    (h : fb (i + 1) P .any ops Q C n L f (S.setIfInBounds i true) (a.put oi.dst v) w) (hB : (Region.noSelect ops && Region.sinkB .any ops n && Region.chainB .any ops n && decide (n < ops.size)) = true := by kernel_rfl) (hdone : ∀S a w, L S a w -> ∀j ∈ Region.ready .any ops S, n <= j := by exact fC)
    (hin : i < n := by decide) (hf : (Region.free .any ops S i && (Region.ready .any ops S).contains i) = true := by kernel_rfl) (hQ : ∀c a w, Q (.panic c) (a.put oi.dst v) w -> Q (.panic c) a w := by exact λ_ _ _ h => h) (hC : C w := by assumption) : fb i P .any ops Q C n L (f + 1) S a w :=
  fN hB hdone hi hin hf hQ hy hC h
theorem GJ{P : Program}{ops : Array Oper}{Q : Exit -> Act -> World -> Prop}{C : World -> Prop}{n : Nat}{L : Array Bool -> Act -> World -> Prop}{i : Nat}{oi : Oper}{v : Value}{f : Nat}{S : Array Bool}{a : Act}{w : World}(hi : ops[i]? = some oi)(hy : ∀W, C W -> (execOp a.eval oi).run P W = .ok (.value v) W)
    (h : fb (i + 1) P .any ops Q C n L f (S.setIfInBounds i true) (a.put oi.dst v) w) (hw : Region.wanted oi (yielded ops a.tmps) = true := by rfl) (hB : (Region.noSelect ops && Region.sinkB .any ops n && Region.chainB .any ops n && decide (n < ops.size)) = true := by kernel_rfl) (hdone : ∀S a w, L S a w -> ∀j ∈ Region.ready .any ops S, n <= j := by exact fC)
    (hin : i < n := by decide) (hf : (Region.free .any ops S i && (Region.ready .any ops S).contains i) = true := by kernel_rfl) (hQ : ∀c a w, Q (.panic c) (a.put oi.dst v) w -> Q (.panic c) a w := by exact λ_ _ _ h => h) (hC : C w := by assumption) : fb i P .any ops Q C n L (f + 1) S a w :=
  fN hB hdone hi hin hf hQ (Or.inl ⟨hw, hy⟩) hC h
theorem gB{P : Program}{ops : Array Oper}{Q : Exit -> Act -> World -> Prop}{C : World -> Prop}{n : Nat}{L : Array Bool -> Act -> World -> Prop}{i : Nat}{oi : Oper}{v : Value}{f : Nat}{S : Array Bool}{a : Act}{w : World}(hi : ops[i]? = some oi)
    (h : fb (i + 1) P .any ops Q C n L f (S.setIfInBounds i true) (a.put oi.dst v) w) (hw : Region.wanted oi (yielded ops a.tmps) = true := by rfl) (hy : ∀W, C W -> (execOp a.eval oi).run P W = .ok (.value v) W := by intro W hW; have hQ := HSS.out W hW; go_simp; try with_reducible rfl) (hB : (Region.noSelect ops && Region.sinkB .any ops n && Region.chainB .any ops n && decide (n < ops.size)) = true := by kernel_rfl) (hdone : ∀S a w, L S a w -> ∀j ∈ Region.ready .any ops S, n <= j := by exact fC)
    (hin : i < n := by decide) (hf : (Region.free .any ops S i && (Region.ready .any ops S).contains i) = true := by kernel_rfl) (hQ : ∀c a w, Q (.panic c) (a.put oi.dst v) w -> Q (.panic c) a w := by exact λ_ _ _ h => h) (hC : C w := by assumption) : fb i P .any ops Q C n L (f + 1) S a w :=
  fN hB hdone hi hin hf hQ (Or.inl ⟨hw, hy⟩) hC h
theorem mO{P : Program}{ops : Array Oper}{Q : Exit -> Act -> World -> Prop}{C : World -> Prop}{n : Nat}{L : Array Bool -> Act -> World -> Prop}{i : Nat}{oi : Oper}{f : Nat}{S : Array Bool}{a : Act}{w : World}(hi : ops[i]? = some oi)
    (h : jb P .any ops Q C n L f (S.setIfInBounds i true) (a.put oi.dst undef) w) (hw : Region.wanted oi (yielded ops a.tmps) = false := by rfl) (hB : (Region.noSelect ops && Region.sinkB .any ops n && Region.chainB .any ops n && decide (n < ops.size)) = true := by kernel_rfl) (hdone : ∀S a w, L S a w -> ∀j ∈ Region.ready .any ops S, n <= j := by exact fC)
    (hin : i < n := by decide) (hf : (Region.free .any ops S i && (Region.ready .any ops S).contains i) = true := by kernel_rfl) (hQ : ∀c a w, Q (.panic c) (a.put oi.dst undef) w -> Q (.panic c) a w := by exact λ_ _ _ h => h) (hC : C w := by assumption) : jb P .any ops Q C n L (f + 1) S a w :=
  fN hB hdone hi hin hf hQ (Or.inr ⟨hw, rfl⟩) hC h
theorem hO{P : Program}{md : Region.Mode}{ops : Array Oper}{Q : Exit -> Act -> World -> Prop}{C : World -> Prop}{n : Nat}{L : Array Bool -> Act -> World -> Prop}{i : Nat}{oi : Oper}{f : Nat}{S : Array Bool}{a : Act}{w : World}(hi : ops[i]? = some oi)
    (h : ∀K : Act -> World -> Prop, (∀b w', C w' -> jb P md ops Q C n L f (S.setIfInBounds i true) b w' -> K b w') -> oi.wp P a w K Q) (hr : Region.ready md ops S = [i] := by kernel_rfl) (hin : i < n := by decide) (hw : Region.wanted oi (yielded ops a.tmps) = true := by rfl) : jb P md ops Q C n L (f + 1) S a w :=
  wS hr hin hi λK c => by rw [if_pos hw]; exact h K c
theorem GL{P : Program}{md : Region.Mode}{ops : Array Oper}{Q : Exit -> Act -> World -> Prop}{C : World -> Prop}{n : Nat}{p : Array Bool -> Prop}{q : Act -> World -> Prop}{S : Array Bool}{a : Act}{w : World}(h : q a w)(hs : p S := by kernel_rfl): jb P md ops Q C n (λS a w => p S /\ q a w) 0 S a w := eW ⟨hs, h⟩
open Go.RowKit Go.Shelf
section
variable {P:Program} {r n:Nat} {ops:Array Oper} {Q:Exit->Act->World->Prop} {md:Region.Mode}
def Oper.plainB(o:Oper):Bool:=match o.op with
 | .defer _=>false
 | _=>true
theorem Oper.plain_spec{o:Oper}(h:Oper.plainB o=true):∀c,o.op≠.defer c:=by
 intro c a;simp[Oper.plainB,a]at h
theorem sO{o:Oper}{a:Act}{w:World}{K:Act->World->Prop}(g:Oper.plainB o=true)(h:o.wp P a w K Q):o.wpIn (Fence.wide.inRound r) n P a w K Q:=by
 refine⟨λ_ _=>trivial,?_⟩;rw[Oper.semAt_eq _ _ _ (Oper.plain_spec g)];unfold Oper.wp at h;generalize (execOp a.eval o).run P w=i at h ⊢
 cases i with
 | ok x w' =>
  cases x with
  | value v=>exact h
  | skip=>exact h
  | defer d=>exact h
  | enter f args=>exact⟨λh=>by simp[Fence.wide]at h,callsIn_wide.2 h⟩
  | row rw args=>exact⟨λh=>by simp[Fence.wide]at h,λc cs _=>by
   obtain ⟨v, j, b, e⟩ := h c cs
   exact⟨v, j, b, stepsIn_wide.2 e⟩⟩
  | _=>exact h.elim
 | halt x w'=>cases x <;> exact h
theorem zk{i:Nat}{K:Act->World->Prop}{a:Act}{w:World}(e:∀o,ops[i]?=some o->Oper.plainB o=true)(hQ:∀a w,¬Q .outgrown a w)(h:wpOp P ops Q i K a w):wpOpIn (Fence.wide.inRound r) n P ops Q i K a w:=by
 unfold wpOp at h;unfold wpOpIn
 cases b:ops[i]? with
 | none=>simpa [b]using h
 | some o =>
  simp only[b]at h ⊢;split at h
  ·rename_i c
   rw[if_pos c]
   rcases h with h|⟨_,d,f,h⟩
   ·exact sO (e o b) h
   ·exact absurd h (hQ d f)
  ·rename_i c
   rw[if_neg c];exact⟨λ_ _=>trivial,h⟩
theorem wT(d:∀(i:Nat) (o:Oper),ops[i]?=some o->Oper.plainB o=true)(hQ:∀a w,¬Q .outgrown a w)(f:Nat):∀(S:Array Bool) (a:Act) (w:World),wpAny P md ops Q f S a w->wpAnyIn (Fence.wide.inRound r) n P md ops Q f S a w:=by
 induction f with
 | zero=>intro S a w h;exact h
 | succ f g =>
  intro S a w h;exact⟨h.1,λi e=>wpOpIn_mono (λb w' c=>g _ b w' c) (zk (d i) hQ (h.2 i e))⟩
end
section
variable {P:Program} {r m:Nat} {Q:Exit->Act->World->Prop}
theorem wU(C:World->Prop){a:Act}{w:World}{l:List Oper}(n:Nat)
 (h:jb P .any l.toArray Q C n (λS a w=>Region.seqB .any l.toArray (l.toArray.size - n) n S=true/\wpList P l.toArray Q (l.drop n) a w) n (Array.replicate l.toArray.size false) a w) (o:n<=l.length):wpAny P .any l.toArray Q l.toArray.size (Array.replicate l.toArray.size false) a w:=by
 have k:HeadInv .any l.toArray n (Array.replicate l.toArray.size false) :=
  ⟨qs,λj p _ f=>absurd f (by rw[getD_replicate_false];simp),λt _ i=>getD_in (by simpa using i) (getD_replicate_false _ _)⟩
 have d:(l.drop n).length=l.toArray.size - n:=qs
 have b:=l7 (g:=l.toArray.size - n) (λS e w' c=>by
  have:=wpAny_of_seq (md:=.any) (Q':=Q) (l.drop n) n S e w' (λj=>by simp[List.getElem?_drop]) (by rw[d];exact c.1) c.2
  rwa [d]at this) _ _ _ _ (h k)
 rw[show n+(l.toArray.size - n)=l.toArray.size by simp;omega]at b;exact b
theorem fE(C:World->Prop){f:Nat}{a:Act}{w:World}{l:List Oper}(n:Nat)(c:P.follows .mixedOrders=true)(b:l.all Oper.plainB=true)(hQ:∀a w,¬Q .outgrown a w)
 (h:jb P .any l.toArray Q C n (λS a w=>Region.seqB .any l.toArray (l.toArray.size - n) n S=true/\wpList P l.toArray Q (l.drop n) a w) n (Array.replicate l.toArray.size false) a w.drew) (d:n<=l.length):(Code.region f l.toArray true).wpIn (Fence.wide.inRound r) m P Q a w :=
 wpIn_region_any c (wT (λi o e=>by
  have:o∈l:=iu (by simpa using e);exact List.all_eq_true.1 b o this) hQ _ _ _ _ (wU C n h d))
end
theorem jn{w W:World}{r:Nat}(o:Obj){S:List Nat}(h:Fr S w W)(a:r∈S \/ w.heap.size<=r):Fr S w (W.putObj r o) :=
 ⟨h.os,h.tape,h.output,by simpa using h.size,λk c b=>(World.putObj_heap_other (by rintro rfl;rcases a with a|a;exact b a;omega)).trans (h.block k c b)⟩
theorem kK{α:Type}{P:Program}{g:Operand}{ps:Array Tmp}{assign body:Code}{Q:Exit->Act->World->Prop}{a:Act}{w:World}{gf:Nat}{lb:Array Value}(n:Nat)(xs:List α)(encs:α->Array Value)
 (hg:a.eval g=.func (.func gf) #[] lb) (eg:∀args w,(callFunc gf args).run P w=.ok (.enter gf args) w) (hps:∀x,(encs x).size=ps.size)
 (I:Nat->World->Prop) (hI:∀k W W',I k W->Fr [w.heap.size,w.heap.size+1] W W'->I k W') (h0:I 0 w)
 (hseq:∀(l:Nat) (J:Nat->World->Prop) (W:World),Fr [] w W->(∀k W1,J k W1->I k W1)->(∀k x W1,xs[k]?=some x->J k W1->YieldAt Fence.wide (n - 1) P l (encs x) W1 λe W'=>e=.returned (.bool true)/\J (k+1) W')->J 0 W ->
  CallsIn Fence.wide n P gf (#[.func (.yield l) #[] #[]]++lb) W λe W'=>(∃v,e=.returned v)/\J xs.length W')
 (A:Nat->Act->World->Prop) (hA:∀k a' W W',A k a' W->Fr [w.heap.size,w.heap.size+1] W W'->A k a' W')
 (hassign:∀(l k:Nat) (x:α) (W:World) (K:Act->World->Prop),xs[k]?=some x->I k W->w.heap.size+2<=W.heap.size->(∀a' W',Fr [] W W'->A k a' W'->K a' W') ->
  assign.wpIn (Fence.wide.inRound l) (n - 1) P (Exit.then K (λ_ _ _=>False)) { tmps:=(ps.zip (encs x)).foldl (λt (p,v)=>t.setIfInBounds p v) a.tmps,defers:=[] } W)
 (hbody:∀(l k:Nat) (x:α) (a':Act) (W:World),xs[k]?=some x->A k a' W->w.heap.size+2<=W.heap.size->body.wpIn (Fence.wide.inRound l) (n - 1) P (λe _ W'=>e=.normal/\I (k+1) W'/\(∃S,Fr S W W'/\w.heap.size ∉ S/\w.heap.size+1 ∉ S)) a' W)
 (hdone:∀(D:Nat) (W:World),w.heap.size<=D->I xs.length W->W.heap[D]?=some (.deferred (some []))->Q .normal { a with defers:={ target:=.collected D,args:=#[] }::a.defers } W) :
 (Code.rangeFunc g ps assign body).wp P Q a w:=by
 refine(wpIn_wide (n:=n+1)).1 (wpIn_rangeFunc λfn hfn=>?_);obtain⟨rec,hrec⟩:∃rec:LoopState->Option Code->Loop,rec=λst pe=>{ state:=st,pending:=pe,fn,tmps:=a.tmps,params:=ps,assign,body,defers:=w.heap.size }:=⟨_,rfl⟩;obtain⟨W1,hW1⟩:=eR ((w.alloc (.deferred (some []))).alloc (.loop (rec .ready none)))
 have hL1:W1.heap[w.heap.size+1]?=some (.loop (rec .ready none)):=by
  rw[<-hW1];have:=World.alloc_heap_new (w.alloc (.deferred (some []))) (.loop (rec .ready none))
  rwa [kX]at this
 have hK1:W1.heap[w.heap.size]?=some (.deferred (some [])):=by
  rw[<-hW1];exact(Below.heap_alloc _ _ _ (by simp)).trans (World.alloc_heap_new w _)
 have hf1:Fr [] w W1:=by rw[<-hW1];exact((Fq [] w).alloc _).alloc _
 have hfD:∀(W:World) (o:Obj),Fr [w.heap.size,w.heap.size+1] W (W.putObj (w.heap.size+1) o):=λW o=>jn o (Fq _ W) (.inl (by simp));refine⟨w.heap.size+1,[{ target:=.collected w.heap.size,args:=#[] }],W1,{ target:=.fn (.func gf) lb,args:=#[.func (.yield (w.heap.size+1)) #[] #[]] },W1,gf,#[.func (.yield (w.heap.size+1)) #[] #[]]++lb,W1,?_,?_,λ_ _=>trivial,?_,λ_=>Nat.succ_le_succ (Nat.zero_le n),?_⟩
 ·rw[<-hW1,hrec];exact run_enterLoop_outer _ _ _ _ _
 ·simp only[resolve,hg]
  simp[go_sem]
 ·simp[invoke,go_sem,eg]
 ·refine(hseq (w.heap.size+1) (λk W=>I k W/\W.heap[w.heap.size+1]?=some (.loop (rec .ready none))/\W.heap[w.heap.size]?=some (.deferred (some []))) W1 hf1 (λ_ _ h=>h.1) ?_ ⟨hI 0 w W1 h0 (hf1.mono (by simp)),hL1,hK1⟩).mono ?_
  ·rintro k x W hx ⟨hi,hl,hk⟩
   have hlt:w.heap.size+1<W.heap.size:=(Array.getElem?_eq_some_iff.1 hl).1;have hy:=run_yield (P:=P) (args:=encs x) hl (by rw[hrec];exact hps x);rw[hrec]at hy;refine⟨fn,_,assign,body,hy,roundIn_of_wpIn hfn (hassign _ k x W _ hx hi (by omega) ?_)⟩;clear hy;intro a' Wa hfa hax;have hlta:w.heap.size+1<Wa.heap.size:=Nat.lt_of_lt_of_le hlt hfa.size
   replace hl:=(hfa.block _ (by omega) (by simp)).trans hl
   replace hk:=(hfa.block _ (by omega) (by simp)).trans hk
   refine⟨_,run_beginRound hl (by rw[hrec]),?_⟩;have hl2:(Wa.putObj (w.heap.size+1) (.loop { rec .ready none with state:=.busy })).heap[w.heap.size+1]?=some (.loop { rec .ready none with state:=.busy }):=World.putObj_heap_same hlta;have hk2:(Wa.putObj (w.heap.size+1) (.loop { rec .ready none with state:=.busy })).heap[w.heap.size]?=some (.deferred (some [])):=(World.putObj_heap_other (by omega)).trans hk;refine wpIn_mono (hbody _ k x a' _ hx (hA k a' _ _ hax (hfD _ _)) (by simp;omega)) ?_;rintro e a3 W3 ⟨rfl,hi3,S,hf3,hS0,hS1⟩;have hl3:=(hf3.block _ (by simp;omega) hS1).trans hl2;have hk3:=(hf3.block _ (by simp;omega) hS0).trans hk2;have hr:=run_endRound (P:=P) none hl3;refine⟨_,_,hr,rfl,hI _ _ _ hi3 (hfD _ _),?_,(World.putObj_heap_other (by omega)).trans hk3⟩;have hs3:=(Array.getElem?_eq_some_iff.1 hl3).1;exact(World.putObj_heap_same hs3).trans (by rw[hrec];rfl)
  ·rintro e W2 ⟨⟨v,rfl⟩,hi,hl,hk⟩
   refine⟨none,_,by have:=run_endLoop (P:=P) hl (by rw[hrec];simp);rw[hrec]at this;exact this,?_⟩;exact hdone w.heap.size _ (fV _) (hI _ _ _ hi (hfD _ _)) ((World.putObj_heap_other (by omega)).trans hk)
end Go.Proofs.YtlpmiimgacfmkaaGreatDoor
