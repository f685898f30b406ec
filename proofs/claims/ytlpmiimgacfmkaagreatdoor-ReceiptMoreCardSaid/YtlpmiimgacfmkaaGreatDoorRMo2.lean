/- The law's ReceiptMore: it returns true. -/
import Derived.Lay
import Derived.Test.YtlpmiimgacfmkaaGreatDoorRLv4
import Derived.Test.YtlpmiimgacfmkaaGreatDoorRQh2
import Derived.Test.YtlpmiimgacfmkaaGreatDoorCards
import Derived.Test.YtlpmiimgacfmkaaGreatDoorTie
set_option linter.all false
set_option maxHeartbeats 16000000
set_option maxRecDepth 100000
namespace Go.Proofs.YtlpmiimgacfmkaaGreatDoor
open Go.Proofs.Tryz
open Go.RowKit Go.Shelf
theorem ConV.fr0{w w':World}{is:List Nat}{l:List AG}{b:UInt8}{s:LS}{v:Value}(h:ConV w is l b s v)(a:Fr [] w w'):ConV w' is l b s v:=by
 obtain⟨I,K,d,c,o,p,q,e,f,n,g,i,j,k,m⟩:=h.ex;exact⟨I,K,d,c,o,p,q,e,f,n,g.fr0 a,i.fr0 a,j.fr0 a,k.fr0 a,m⟩
theorem BN(F B:Option Addr)(c d m:Nat)(l:List AX)(ap:List Nat)(af aa at_:Int)(h1:0<=af/\af<256)(h2:0<=aa/\aa<256)(h3:0<=at_/\at_<256)(C:∀q∈ap,q<256)(U:ap.length=m)(w:World)(aA:Ok w)(r:AIns w F l)(hB:Rd w 1 B m (ap.map λq:Nat=>.int .u8 (q:Int))):
 Calls prog 5 #[.slice F l.length c,.agg #[.int .u8 af,.int .u8 aa,.int .u8 at_],.slice B m d] w (fm w (.bool true)):=by
 obtain⟨w1,bw,ao,n1,f1⟩:=il w #[.int .u8 af,.int .u8 aa,.int .u8 at_] 24 w.heap.size;have aP:=Hd (DH F c l w1 (aA.fr0 f1) (r.fr0 f1));have aO:=Hd (An n1 f1);have bV:=Hd bw;have O:=Hd aA;have ar:=Hd (An h1 (An h2 h3));have HQ:=Hd (An C (An U hB));obtain⟨nl,bi⟩:=eR (l.length);rw[bi]at aP ⊢;clear bi bw n1 f1 ao aA r h1 h2 h3 C U hB
 go_enter func5,ntmps5
 go_upto_region 1 with fail
 rw[bV.out]
 go_upto_region 2 with(go_at_call 10;(with_reducible refine aP.out.mono ?_);rintro e w2 ⟨b,xs,Q,rfl,hh,h,hM⟩;have M:=Hd (An hh (An (aO.out.2.then h) h));clear hh h hM)
 have aU:=yo w2 (O.out.fr0 M.out.2.1);have aN:=Hd aU;clear aU
 by_cases hx:xs.length=0
 ·have bF:((xs.length:Int) == 0)=true:=by simp[hx]
  have ao:(xs.length:Int)=0:=by omega
  go_wp2_with (first
   | (go_at_call 11;(with_reducible refine aN.out.mono ?_);rintro e w3 ⟨rfl,h⟩;have H3:=Hd (An (M.out.1.fr0 h) (M.out.2.1.then h));clear h)
   | (go_at_call 19;(with_reducible refine(xY b xs Q w3 H3.out.1).mono ?_);rintro e w4 ⟨rfl,rfl⟩)
   | (go_at_call 11;(with_reducible refine(yo w3 (O.out.fr0 H3.out.2)).mono ?_);rintro e L ⟨rfl,h⟩;have z:=Hd (H3.out.2.then h);clear h))
  go_ret
  exact⟨rfl,z.out⟩
 ·have bF:((xs.length:Int) == 0)=false:=by simp;exact λr=>hx (by rw[r];rfl)
  have ao:¬(xs.length:Int)=0:=by omega
  obtain⟨n,bf⟩:=eR (xs.length);have HL:=Hd (λ(W:World) (r:HG W b xs Q)=>(bf ▸ xY b xs Q W r:Calls prog 19 #[.pointer (some ⟨b,0,none⟩)] W λe w'=>e=.returned (.int .i64 (n:Int))/\W=w'));rw[bf]at bF ao
  go_upto_region 4 with(first
   | (go_at_call 11;(with_reducible refine aN.out.mono ?_);rintro e w3 ⟨rfl,h⟩;have H3:=Hd (An (M.out.1.fr0 h) (An (M.out.2.1.then h) (aO.out.1.fr (M.out.2.2.then h) (by simp))));clear h)
   | (go_at_call 19;(with_reducible refine(HL.out w3 H3.out.1).mono ?_);rintro e w4 ⟨rfl,rfl⟩))
  obtain⟨x0,x1,x2⟩:=H3.out.2.2.m3;have HP:=Hd (Dp af aa at_ ar.out.1 ar.out.2.1 ar.out.2.2 b xs Q w3 (O.out.fr0 H3.out.2.1) H3.out.1)
  go_upto_region 5 with(go_at_call 12;(with_reducible refine HP.out.mono ?_);rintro e w4 ⟨nm,so,aq,P,n0,rfl,⟨a3,a6⟩,hP,U,T⟩;unfold Ep;have H4:=Hd (An a3 (An a6 hP));have aM:=Hd (An (H3.out.1.fr0 T) (H3.out.2.1.then T));clear a3 a6 hP U T)
  obtain⟨nk,ay⟩:=eR (nm.kind);obtain⟨nn,az⟩:=eR (nm.number);obtain⟨ni,ax⟩:=eR (nm.index);have au:=Hd (An ay (An az ax));rw[ay,az,ax];obtain⟨L,bx,cc,n5,f5⟩:=il w4 #[.int .i64 nk,.string so,.int .i64 nn,.int .i64 ni,.string aq,.int .i64 (P:Int)] 33 w4.heap.size
  try rw[bx]
  clear x0 x1 x2 bx cc ay az ax;have z:=Hd (An n5 (An (aM.out.1.fr0 f5) (aM.out.2.then f5)));clear n5 f5
  go_upto_region 6 with(go_at_call 19;(with_reducible refine(HL.out L z.out.2.1).mono ?_);rintro e w6 ⟨rfl,rfl⟩)
  have aC:=z.out.1;obtain⟨PB,aV⟩:=eR (w4.heap.size);rw[aV]at aC ⊢;obtain⟨aL,z1,z2,z3,z4,z5⟩:=aC.m6
  go_wp2_with fail
  obtain⟨w6,bz,cd,n6,f6⟩:=il L #[.int .i64 nk,.string so,.int .i64 nn,.int .i64 ni,.string aq,.int .i64 (P:Int),.int .i64 (n:Int),.slice none 0 0] 39 L.heap.size
  try rw[bz]
  clear aL z1 z2 z3 z4 z5 aC bz cd;obtain⟨A,aw⟩:=eR (L.heap.size);have bQ:=Hd aw;rw[aw]at n6 ⊢;have H6:=Hd (An n6 f6);clear n6 f6 aw aV
  go_loopw [13] (λt W=>∃(j c':Nat) (A':Option Addr) (J:List PF),j<=m/\j<=12/\t=.int .i64 (j:Int)/\J.length=j/\BoxN W A 39 #[.int .i64 nk,.string so,.int .i64 nn,.int .i64 ni,.string aq,.int .i64 (P:Int),.int .i64 (n:Int),.slice A' j c']/\PrL W n A' c' J/\(∀p∈J,p.i<n/\∃y,xs[p.i]?=some y/\p.s=fL y.a/\p.d=iz xs p.i n)/\(∀q∈eV A',L.heap.size<=q)/\Fr [] L W) (λt _=>m - (intOf t).toNat)
  case atStart=>exact⟨0,0,none,[],Nat.zero_le _,by omega,rfl,rfl,H6.out.1,⟨Own.nil _ _ _,by simp⟩,by simp,by simp[eV],H6.out.2⟩
  case round =>
   obtain⟨j,c',A',J,hj,b8,rfl,bm,aZ,bo,bp,bE,bc⟩:=hrel;have g:=Hd (An bm (An aZ (An bo (An bp (An bE bc)))));clear bm aZ bo bp bE bc
   go_upto_region 8 with fail
   go_cut [60]from 53 to 60 (λs W=>s=.bool (decide (j<m) && decide (j<12))/\wr=W)
   case first =>
    by_cases h0:j<m
    ·have hd:decide ((j:Int)<(m:Int))=true:=by simp;omega
     go_wp2_with fail
     go_meet
     exact⟨by rw[decide_eq_true h0,Bool.true_and];simp;omega,rfl⟩
    ·have hd:decide ((j:Int)<(m:Int))=false:=by simp;omega
     go_wp2_with fail
     go_meet
     exact⟨by rw[decide_eq_false h0,Bool.false_and],rfl⟩
   obtain⟨rfl,rfl⟩:=hcut;obtain⟨cb,G⟩:=eR ((decide (j<m) && decide (j<12)));rw[G]
   cases cb with
   | true =>
    rw[Bool.and_eq_true,decide_eq_true_eq,decide_eq_true_eq]at G;have cu:(j:Int)<(m:Int):=by omega
    have cr:j<m:=G.1;have ct:j<12:=G.2;obtain⟨K,aE⟩:∃v,ap[j]?=some v:=⟨_,gx (by rw[HQ.out.2.1];exact G.1)⟩;have cw:=HQ.out.1 K (iu aE);obtain⟨b4,b5,b6,aY,a4⟩:=HQ.out.2.2.2 (by omega);subst b6;have E:Fr [] w wr:=z.out.2.2.then g.out.2.2.2.2.2;have aL:wr.cell? ⟨b4,b5+j,none⟩=some (.int .u8 (K:Int)):=(E.cell aY (by simp)).trans (a4 j _ (by rw[List.getElem?_map,aE];rfl));have cA:IntKind.i64.wrap (K:Int)=(K:Int):=by simp[IntKind.wrap,IntKind.bits,IntKind.signed];omega
    have cz:IntKind.i64.wrap (j:Int)=(j:Int):=by simp[IntKind.wrap,IntKind.bits,IntKind.signed];omega
    obtain⟨o,ai⟩:=eR (K % n);have b9:0<n:=by omega
    have be:o<n:=by rw[<-ai];exact Nat.mod_lt _ b9
    have cx:((K:Int)).tmod (n:Int)=(o:Int):=by rw[Int.tmod_eq_emod_of_nonneg (by omega),<-ai];rfl
    have cy:((K:Int)) % (n:Int)=(o:Int):=by rw[<-ai];rfl
    have cv:((n:Int)=0)=False:=eq_false (by omega);obtain⟨y,hy⟩:∃y,xs[o]?=some y:=⟨_,gx (by omega)⟩;have aj:=xS b xs Q o n y wr (z.out.2.1.fr0 g.out.2.2.2.2.2) (O.out.fr0 E) hy be (by omega);obtain⟨sp,aI,_,_⟩:=eT (fL y.a);obtain⟨pd,aD⟩:=eR ((iz xs o n).length)
    have br:Calls prog 20 #[.pointer (some ⟨b,0,none⟩),.int .i64 (o:Int),.int .i64 (n:Int)] wr λe w'=>∃F c,e=.returned (.tuple #[.agg #[.int .i64 (o:Int),.int .i64 (n:Int),.string sp,.slice F pd c],.int .i64 0])/\Own w' 57 32 F pd c ((iz xs o n).flatMap eP)/\Fr [] wr w'/\∀k∈eV F,wr.heap.size<=k:=by
     unfold mF at aj;rw[aI,aD]at aj;exact aj
    have bP:=Hd br;have Y:=Hd (An hy (An aI (An aD be)));clear aj br aE aY a4 E hy aI aD ai G
    go_upto_region 11 with(go_at_call 20;(with_reducible refine bP.out.mono ?_);rintro e w7 ⟨Z,pc,rfl,bn,ba,bD⟩;have H7:=Hd (An bn (An ba bD));clear bn ba bD)
    obtain⟨w8,bA,cf,n8,f8⟩:=il w7 #[.int .i64 (o:Int),.int .i64 (n:Int),.string sp,.slice Z pd pc] 53 w7.heap.size
    try rw[bA]
    obtain⟨QB,aW⟩:=eR (w7.heap.size);rw[aW]at n8 ⊢;have ag:Fr [] wr w8:=H7.out.2.1.then f8;have al:=g.out.2.1.fr ag (by simp);have I:=g.out.2.2.1.own.fr ag (by simp);rw[g.out.1]at I
    have aX:A ∉ eV A':=λU=>by
     have:=NoT.own (ts:=[39]) I (by decide) A U _ _ _ al;simp at this
    have x7:=al.k7;obtain⟨q0,q1,q2,q3⟩:=n8.m4;have D:=Hd (An I (An al (An aX (An ag f8))));clear I al aX ag f8 n8 bA cf aW aL;obtain⟨ii,bd,bG,bH,bI⟩:=qQ
    go_upto_region 9 with(at_builtin;(with_reducible refine fp (w:=w8) rfl (.tmp 79) (.tmp 81) 37 rfl 53 ii _ 4 56 underlying37 bd bG bH bI rfl (by decide) A' j c' (J.flatMap (PF.cs n)) rfl D.out.1 1 1 [.int .i64 (o:Int),.int .i64 (n:Int),.string sp,.slice Z pd pc] 53 rfl rfl (by simp[Value.oneCell']) (by unfold maxLen;omega) (by omega) ?_);intro A2 c2 V I h hs;have ah:=D.out.2.1.fr h D.out.2.2.1;have p0:V.cell? ⟨A,7,none⟩=some (.slice A' j c'):=ah.c 7;have p1:=ah.f 7;have u:=Hd (An I (An h (An hs ah)));clear I h hs ah)
    obtain⟨cm,an⟩:=eR (V.setCell ⟨A,7,none⟩ (.slice A2 (j+1) c2));have aK:=u.out.2.2.2.setAt 7 (.slice A2 (j+1) c2);have aQ:Fr [A] V cm:=by rw[<-an];exact(Fq [A] V).st _
    rw[an]at aK
    try rw[an]
    have X:=Hd (An aK aQ);clear x7 q0 q1 q2 q3 p0 p1 aK aQ an bd bG bH bI
    go_wp2_with fail
    go_roundw
    case rel =>
     have bj:NoT [57] w8 (eV A'):=NoT.own D.out.1 (by decide);have bg:NoT [53,57] V [A]:=NoT.box u.out.2.2.2 (by decide);have bh:NoT [57] V [A]:=bg.sub (by simp);have b7:PF.cs n ⟨o,fL y.a,Z,pc,iz xs o n⟩=[.int .i64 (o:Int),.int .i64 (n:Int),.string sp,.slice Z pd pc]:=by unfold PF.cs;rw[Y.out.2.1,Y.out.2.2.1]
     refine⟨j+1,c2,A2,J++[⟨o,fL y.a,Z,pc,iz xs o n⟩],by omega,by omega,by go_num,by rw[gG,g.out.1];rfl,X.out.1,⟨?_,λp x=>?_⟩,λp x=>?_,λq C=>?_,?_⟩
     ·rw[gG,g.out.1,List.flatMap_append,List.flatMap_singleton,b7]
      exact u.out.1.frT X.out.2 bg (by simp)
     ·rcases List.mem_append.1 x with x|x
      ·exact(((g.out.2.2.1.ds p x).fr D.out.2.2.2.1 (by simp)).frT u.out.2.1 bj (by simp)).frT X.out.2 bh (by simp)
      ·obtain rfl:p=_:=by simpa using x
       have r:=((H7.out.1.fr D.out.2.2.2.2 (by simp)).frT u.out.2.1 bj (by simp)).frT X.out.2 bh (by simp);rw[<-Y.out.2.2.1]at r;exact r
     ·rcases List.mem_append.1 x with x|x
      ·exact g.out.2.2.2.1 p x
      ·obtain rfl:p=_:=by simpa using x
       exact⟨Y.out.2.2.2,y,Y.out.1,rfl,rfl⟩
     ·rcases u.out.2.2.1 q C with r|r
      ·exact g.out.2.2.2.2.1 q r
      ·exact Nat.le_trans (g.out.2.2.2.2.2.then D.out.2.2.2.1).size r
     ·exact((g.out.2.2.2.2.2.then D.out.2.2.2.1).trans u.out.2.1 (λq C=>.inr (g.out.2.2.2.2.1 q C))).trans X.out.2 (λq C=>.inr (by simp at C;rw[C,<-bQ.out];exact fV _))
    case measure=>simp[intOf];omega
   | false =>
    clear G
    have aG:Run xs:=by
     obtain⟨pb,pl,cp,A0,c0,F0,ns,cq,cB,hh,_⟩:=z.out.2.1;exact hh.run
    have bk:n<=xs.length:=by omega
    obtain⟨ab,am⟩:=eR (jQ xs n)
    have ak:ab.length=32:=by
     rw[<-am];unfold jQ;exact jW (nj xs) (n+1) 0 (by omega) (by rw[lx];omega) (by have:=aG.len;omega)
    have a5:(eP ab).length=32:=by rw[eU,ak]
    have E:Fr [] w wr:=z.out.2.2.then g.out.2.2.2.2.2;have aF:=BB b xs Q n wr (z.out.2.1.fr0 g.out.2.2.2.2.2) (O.out.fr0 E) bk;rw[am]at aF;have bR:=Hd aF;obtain⟨kq,is,lq,bq,sq,bv,R,S⟩:=EJ xs aG nm so aq P n j A' c' J H4.out.1 H4.out.2.1 H4.out.2.2 bk g.out.1 b8 wr (O.out.fr0 E) g.out.2.2.1 g.out.2.2.2.1;rw[am]at R S;unfold yS at R S;rw[au.out.1,au.out.2.1,au.out.2.2]at R S;unfold fu at R S;have bL:=Hd R;have bM:=Hd S;have ae:=Hd bv;have bO:=Hd E;clear aF R S bv E am aG
    go_upto_region 15 with(go_at_call 21;(with_reducible refine bR.out.mono ?_);rintro e x4 ⟨rfl,T⟩;obtain⟨x5,ca,a8,bu⟩:=pU ab ak x4;unfold fu;have N:=Hd (An (T.then a8) bu);clear T a8 bu)
    clear ca;obtain⟨ov,aB⟩:∃v:Int,((is.getLastD 0:Nat):Int)=v:=⟨_,rfl⟩;obtain⟨DB,aT⟩:=eR (x4.heap.size);rw[aT]at N ⊢;have bS:=Hd (fH N.out.2 ak);have bs:=g.out.2.1.fr N.out.1 (by simp);obtain⟨r0,r1,r2,r3,r4,r5,r6,r7⟩:=bs.m8;clear bs aT
    go_upto_region 16 with(first
     | (refine fF (by rfl) ?_;(with_reducible refine wp_load_mid 57 (.tmp 16) rfl DB 0 rfl (eP ab) (.array 32 5) bS.out (by kernel_rfl) rfl (by rw[a5];kernel_rfl) ?_))
     | (go_at_call 22;(with_reducible refine(bL.out x5 N.out.1).mono ?_);rintro e x6 ⟨v,rfl,H,a9⟩;obtain⟨bW,KK,LA,AA,ic,cj,lc,bZ,b2,aJ,_⟩:=H.ex;subst aJ;rw[aB];have u:=Hd (An H a9);clear H a9))
    obtain⟨x7,bB,ce,n7,f7⟩:=il x6 #[.int .u8 (bq.toNat:Int),.int .i64 ov,.slice bW is.length ic,.slice KK lq.length cj,.slice LA sq.lks.length lc,.slice AA b2.length bZ] 64 x6.heap.size
    try rw[bB]
    obtain⟨cn,aR⟩:=eR (x6.heap.size);rw[aR]at n7 ⊢;have av:Fr [] wr x7:=(N.out.1.then u.out.2).then f7;have bT:=Hd (fH (eS N.out.2 (u.out.2.then f7) (by simp)) ak);have ac:=Hd (An n7 (An av (u.out.1.fr0 f7)));have bt:=g.out.2.1.fr av (by simp);clear r0 r1 r2 r3 r4 r5 r6 r7 n7 bB f7 ce av aR;obtain⟨r0,r1,r2,r3,r4,r5,r6,r7⟩:=bt.m8;clear bt
    go_upto_region 17 with(first
     | (refine fF (by rfl) ?_;(with_reducible refine wp_load_mid 57 (.tmp 16) rfl DB 0 rfl (eP ab) (.array 32 5) bT.out (by kernel_rfl) rfl (by rw[a5];kernel_rfl) ?_))
     | (go_at_call 23;(with_reducible refine(bM.out x7 ac.out.2.1).mono ?_);rintro e x8 ⟨v,rfl,H,bb⟩;obtain⟨I2,bX,bY,bJ,ci,ck,cl,b0,b3,aJ,_⟩:=H.ex;subst aJ;rw[aB];have ad:=Hd (An H bb);clear H bb))
    obtain⟨x9,bC,ch,n9,f9⟩:=il x8 #[.int .u8 (bq.toNat:Int),.int .i64 ov,.slice I2 is.length ci,.slice bX lq.length ck,.slice bY sq.lks.length cl,.slice bJ b3.length b0] 64 x8.heap.size
    try rw[bC]
    obtain⟨co,aS⟩:=eR (x8.heap.size);rw[aS]at n9 ⊢;have m7:=ac.out.1.fr (ad.out.2.then f9) (by simp);obtain⟨u0,u1,u2,u3,u4,u5⟩:=m7.m6;obtain⟨v0,v1,v2,v3,v4,v5⟩:=n9.m6;have aH:=EZ x9 is lq bq sq _ _ (ac.out.2.2.fr0 (ad.out.2.then f9)) (ad.out.1.fr0 f9) (by have:=ae.out.i;omega) (by have:=ae.out.l;omega) (by have:=ae.out.k;omega) (λb1 r=>by have:=ae.out.a b1 r;omega);rw[aB]at aH;have bU:=Hd aH;have bN:=Hd (bO.out.then (ac.out.2.1.then (ad.out.2.then f9)));clear r0 r1 r2 r3 r4 r5 r6 r7 n9 bC f9 ch aS m7 aH
    go_wp2_with (go_at_call 24;(with_reducible refine bU.out.mono ?_);rintro e cC ⟨rfl,a7⟩;have bK:=Hd a7;clear a7)
    go_ret
    exact⟨rfl,bN.out.then bK.out⟩
open Go.RowKit Go.ChangeShapes Go.WideShapes Go.Deep Go.Joins
theorem ss{H:Type}{enc:TypeId × Value->H}{a:Assume}{C:Checked}{os:Os}{f:FuncId}{fn:Func}{s:ChangeSpec}{conds:List PathCond}{apart fresh handsOn again:Bool}{laid:List (String × DataW Unit)}
 (own:ownKnob C.prog.godebug=none) (started:os.Started) (noInit:C.prog.inits.idxOf? f=none) (hfn:C.prog.funcs[f]?=some fn)
 (witness:∃(w:World) (tape:Tape) (i:Input),w.os=os/\(w.forCall tape i).Shaped C.prog/\i.vars=[]/\Input.okWide C.prog (w.forCall tape i) .any w.heap.size f i /\
  ((s.pre enc C.prog fn conds apart (w.forCall tape i).memory i.args/\laidMetH C.prog laid (w.forCall tape i).memory)/\sizedMet enc C.prog fn (OpenSpec.ofChange s) apart (w.forCall tape i).memory i.args)/\a.holds C.prog (lone (Frame.enter C.prog f i.args .normal) [] (w.forCall tape i)))
 (contract:∀(W:World) (base:Nat) (args:Array Value) (ds gs:List (DataW H)) (before:List MemPlace),
  (∀(j:Nat) t v,fn.params[j]?=some t->args[j]?=some v->Value.okWide C.prog W .any base t v) ->
  DataW.Whole enc C.prog fn.params.toList s.vars apart W args.toList ds gs before ->
  (DataW.weightsEach C.prog (fn.params.toList++s.plain.varTypes C.prog) (ds++gs)).all (·<=reachBytes)=true ->
  laidMetH C.prog laid W->W.ShapedOpen C.prog ->
  Calls C.prog f args W λe W'=>∃v,e=.returned v/\s.post enc C.prog fn apart fresh handsOn again W args v W') :
 ReturnsInHanded a C os f .any (λw args=>(s.pre enc C.prog fn conds apart w args/\laidMetH C.prog laid w)/\sizedMet enc C.prog fn (OpenSpec.ofChange s) apart w args) (s.post enc C.prog fn apart fresh handsOn again) :=
 returnsInHanded_of_row (s:=OpenSpec.ofChange s) (F:=λ_ _ _=>0) (conds:=conds) (laid:=laid) own started noInit hfn witness
  λW base args ds gs before h1 h2 _ _ h5 h6 h7 _=>contract W base args ds gs before h1 h2 h5 h6 h7
theorem Tryz.own:ownKnob prog.godebug=none:=by kernel_rfl
theorem Tryz.laidOut:laidOutB prog=true:=by kernel_rfl
theorem Dg{H:Type}{enc:TypeId × Value->H}{w:World}{r:Reach}{b0:Nat}{v:Value}{d:DataW H}{p:List MemPlace}(hv:Value.okWide prog w r b0 24 v)(h:DataW.Trod enc prog w 0 (λ_=>true) true 24 v d p):
 ∃a b c:Int,v=.agg #[.int .u8 a,.int .u8 b,.int .u8 c]/\(0<=a/\a<256)/\(0<=b/\b<256)/\(0<=c/\c<256):=by
 obtain⟨cs,rfl,hsz⟩:=okWide_struct underlying24 hv;obtain⟨l⟩:=cs;have hC:prog.cellsOf 24=3:=by kernel_rfl
 match l,hsz.trans hC with
 | [c0,c1,c2],_ =>
  obtain⟨fuel,hf⟩:=h;obtain⟨xs,n,_,hx,_,hxl,hg⟩:=DataW.trod_struct underlying24 hf;have q:∀j,j<3->∃y,xs[j]?=some y:=λj hj=>⟨_,gx (by rw[hxl];exact hj)⟩;obtain⟨y0,e0⟩:=q 0 (by omega);obtain⟨y1,e1⟩:=q 1 (by omega);obtain⟨y2,e2⟩:=q 2 (by omega);have k3:prog.cellsOf 5=1:=by kernel_rfl
  have f0:DataW.trod enc prog w 0 (λ_=>true) true n 5 (([c0,c1,c2].drop 0).take (prog.cellsOf 5))=some y0:=(hg 0 _ rfl).trans e0;have f1:DataW.trod enc prog w 0 (λ_=>true) true n 5 (([c0,c1,c2].drop 1).take (prog.cellsOf 5))=some y1:=(hg 1 _ rfl).trans e1;have f2:DataW.trod enc prog w 0 (λ_=>true) true n 5 (([c0,c1,c2].drop 2).take (prog.cellsOf 5))=some y2:=(hg 2 _ rfl).trans e2;rw[k3]at f0 f1 f2;obtain⟨a0,g0,_,w0⟩:=DataW.trod_int underlying5 f0;obtain⟨a1,g1,_,w1⟩:=DataW.trod_int underlying5 f1;obtain⟨a2,g2,_,w2⟩:=DataW.trod_int underlying5 f2;simp at g0 g1 g2;subst g0 g1 g2;exact⟨a0,a1,a2,rfl,mJ w0,mJ w1,mJ w2⟩
theorem EP{H:Type}{enc:TypeId × Value->H}{w:World}{r:Reach}{b0:Nat}{v:Value}{d:DataW H}{p:List MemPlace}(hv:Value.okWide prog w r b0 49 v)(h:DataW.Trod enc prog w 0 (λ_=>true) true 49 v d p):
 ∃(B:Option Addr) (m c:Nat) (qs:List Nat),v=.slice B m c/\qs.length=m/\(∀q∈qs,q<256)/\Rd w 1 B m (qs.map λq:Nat=>.int .u8 (q:Int)):=by
 obtain⟨fuel,hf⟩:=h;obtain⟨a,len,cap,rfl⟩:=okWide_slice underlying49 hv
 rcases open_ints (k:=.u8) underlying49 underlying5 (by kernel_rfl) hf with⟨hcs,_⟩|⟨a2,len2,cap2,zs,hcs,_,hl,hm,hz,_,j0,hwz⟩
 ·simp[Value.cells]at hcs
  obtain⟨rfl,rfl,rfl⟩:=hcs;exact⟨none,0,0,[],rfl,rfl,by simp,Row.nil_⟩
 ·simp[Value.cells]at hcs
  obtain⟨rfl,rfl,rfl⟩:=hcs;simp only[if_true]at hz;have hb:∀z∈zs,0<=z/\z<256:=λz h=>mJ (hwz z h);refine⟨some a2,len,cap,(zs.take len).map Int.toNat,rfl,by rw[List.length_map,List.length_take];omega,λq hq=>?_,Row.of_add (by simp;omega) (by omega) λj u hu=>?_⟩
  ·obtain⟨z,hz2,rfl⟩:=List.mem_map.1 hq
   have:=hb z (List.mem_of_mem_take hz2);omega
  ·rw[List.getElem?_map,List.getElem?_map]at hu
   cases hzj:(zs.take len)[j]? with
   | none=>rw[hzj]at hu;cases hu
   | some z =>
    rw[hzj]at hu;have hj:=(i9.1 hzj).1;simp only[List.length_take]at hj;rw[List.getElem?_take_of_lt (by omega)]at hzj;have hb2:=hb z (iu hzj);rw[j0 j (by omega),List.getD_eq_getElem?_getD,hzj];rw[<-Option.some.inj hu]
    show some (Value.int .u8 z)=some (.int .u8 ((z.toNat:Nat):Int))
    rw[Int.toNat_of_nonneg hb2.1]
theorem xl{H:Type}{enc:TypeId × Value->H}(W:World)(base:Nat)(args:Array Value)(ds gs:List (DataW H))(before:List MemPlace)
 (hval0:∀(j:Nat) t v,Tryz.f5.params[j]?=some t->args[j]?=some v->Value.okWide prog W .any base t v)
 (hW:DataW.Whole enc prog Tryz.f5.params.toList Rows.receiptMoreSpec.vars false W args.toList ds gs before)
 (hsz0:(DataW.weightsEach prog (Tryz.f5.params.toList++Rows.receiptMoreSpec.plain.varTypes prog) (ds++gs)).all (·<=reachBytes)=true)
 (hL:laidMetH prog pX W) (hsh:W.ShapedOpen prog) :
 Calls prog 5 args W λe W'=>∃v,e=.returned v/\Rows.receiptMoreSpec.post enc prog Tryz.f5 false true false false W args v W':=by
 have hval:=hval0;have hW':=hW;have hsz:=hsz0;obtain⟨p,q,hA,hV0,rfl,_,_⟩:=hW;rw[params5]at hA hval hsz;obtain⟨v0,v1,v2,d0,d1,d2,p0,p1,p2,rfl,rfl,rfl,h0,h1,h2⟩:=trodAll_three hA;obtain⟨rfl,rfl⟩:=trodVars_none hV0;clear hV0 hval0 hsz0;simp only[List.append_nil]at hW' hsz;have hlt:∀x∈p0++p1++p2,x.block<W.heap.size:=λx hx=>by simpa using hW'.lt x hx
 have hf0:Fits 22 d0:=λk hk=>by
  have:=List.all_eq_true.1 hsz k (DataW.weights_mem_each (t:=22) (j:=0) rfl rfl k hk);simpa using this
 obtain⟨A,c,l,rfl,hl⟩:=DG (hval 0 22 v0 rfl rfl) hf0 h0;obtain⟨af,nmi,at_,rfl,b1,b2,b3⟩:=Dg (hval 1 24 v1 rfl rfl) h1;obtain⟨B,m,cB,qs,rfl,hqm,hq,hB⟩:=EP (hval 2 49 v2 rfl rfl) h2;have hok:=FO hsh hL;refine(BN A B c cB m l qs af nmi at_ b1 b2 b3 hq hqm W hok hl hB).mono ?_;rintro e W' ⟨rfl,hfr⟩;have bel:=hfr.below0;have e1:Rows.receiptMoreSpec.fn H ([d0,d1,d2]++[])={ results:=[.lit (.bool true)],args:=[d0,d1,d2] }:=rfl;refine⟨_,rfl,_,_,_,[],p0++p1++p2,[],hW',?_,?_,?_,bel.frame _,λh=>by cases h⟩
 ·rw[e1];exact trodAll_mk1 (shut_bool underlying4 true)
 ·rw[e1,params5,List.append_assoc];exact trodAll_mk3 (Below.trod Tryz.laidOut (by kernel_rfl) (of_decide_eq_true (by kernel_rfl)) h0 bel (λx hx=>hlt x (by simp[hx]))) (Below.trod Tryz.laidOut (by kernel_rfl) (of_decide_eq_true (by kernel_rfl)) h1 bel (λx hx=>hlt x (by simp[hx]))) (Below.trod Tryz.laidOut (by kernel_rfl) (of_decide_eq_true (by kernel_rfl)) h2 bel (λx hx=>hlt x (by simp[hx])))
 ·rw[e1];rfl
theorem tZ(os:Os){H:Type}(enc:TypeId × Value->H):∃(w:World) (tape:Tape) (i:Input),w.os=os/\(w.forCall tape i).Shaped prog/\i.vars=[]/\Input.okWide prog (w.forCall tape i) .any w.heap.size 5 i /\
 ((Rows.receiptMoreSpec.pre enc prog Tryz.f5 [] false (w.forCall tape i).memory i.args/\laidMetH prog pX (w.forCall tape i).memory)/\sizedMet enc prog Tryz.f5 (OpenSpec.ofChange Rows.receiptMoreSpec) false (w.forCall tape i).memory i.args)/\({ modest:=false }:Assume).holds prog (lone (Frame.enter prog 5 i.args .normal) [] (w.forCall tape i)) :=
 ChangeSpec.witness_shaped (enc:=enc) (C:=Tryz.checked) (os:=os) (X:=λw _=>laidMetH prog pX w) false (World.laidAll prog os pX) #[.slice none 0 0,.agg #[.int .u8 0,.int .u8 0,.int .u8 0],.slice none 0 0] 8 (World.laidAll_os _ _ _) (World.shaped_of_ZipB (by kernel_rfl) (by kernel_rfl)) (by kernel_rfl) (by kernel_rfl) (by kernel_rfl) (by rw[MakeChecks.laidMetH_plain _ _ _ (by kernel_rfl)];exact laidMet_laidAll _ (by kernel_rfl) (by kernel_rfl))
theorem ve(os:Os)(started:os.Started)(H:Type)(enc:TypeId × Value->H):
 ReturnsInHanded {} Tryz.checked os 5 .any (λw args=>(Rows.receiptMoreSpec.pre enc prog Tryz.f5 [] false w args/\laidMetH prog pX w)/\sizedMet enc prog Tryz.f5 (OpenSpec.ofChange Rows.receiptMoreSpec) false w args)
  (Rows.receiptMoreSpec.post enc prog Tryz.f5 false true false false) :=
 ss (C:=Tryz.checked) (s:=Rows.receiptMoreSpec) (conds:=[]) (laid:=pX) Tryz.own started (by kernel_rfl) func5 (tZ os enc) xl
theorem Dh:(Rows.receiptMoreRow.inPlace == prog.inPlace 5)=true:=by kernel_rfl
theorem Di:(Rows.receiptMoreRow.unfollowed == prog.unfollowed 5)=true:=by kernel_rfl
theorem Dj:(Rows.receiptMoreRow.recurses == prog.recurses 5)=true:=by kernel_rfl
theorem Dk:(Rows.receiptMoreRow.named == prog.varsNamed 5)=true:=by kernel_rfl
theorem xm:joinedFacts prog 5 Tryz.f5 Rows.receiptMoreSpec Rows.receiptMoreRow=true:=by
 unfold joinedFacts;rw[Dh,Di,Dj,Dk]
 kernel_rfl
theorem zL:false=Rows.receiptMoreRow.goesBy prog:=by kernel_rfl
theorem zN:Rows.ReceiptMoreSaid :=
 OpenClaim.holds_of_wide 5 Tryz.f5 rfl rfl rfl rfl rfl rfl rfl ⟨rfl,rfl,rfl,rfl,rfl⟩ rfl rfl rfl rfl rfl (by kernel_rfl) func5 xm
  (of_decide_eq_true (by kernel_rfl)) (by unfold Func.isWrapper;rw[if_neg (of_decide_eq_false (by kernel_rfl))];exact⟨rfl,rfl⟩)
  (λos started H enc _=>ve os started H enc)
theorem receiptMore_card:Rows.ReceiptMoreCardSaid :=
 Claim7.holds_tied_plain_at .later [] [.data, .data, .data] true (true, "57061b68ad7336fc6bdaa26409ad1cf0e60500f7215cca129de044d70fe20d39") false
  zN (λ_ h=>by cases h) (by kernel_rfl) (λ_ h=>by cases h) receiptMore_row_tie rfl ⟨rfl,rfl⟩ (by kernel_rfl) rfl
  (λf fn hf hfn=>by
   obtain rfl : f = 5 := Option.some.inj ((show prog.funcNamed "replevin/replevinlaw55.ReceiptMore" = some 5 by kernel_rfl).symm.trans hf) |>.symm;obtain rfl:fn=Tryz.f5:=(Option.some.inj (func5.symm.trans hfn)).symm
   exact⟨by kernel_rfl,λj t ht=>by
    rw[params5]at ht;have hm:t∈[22,24,49]:=by simpa using Array.mem_of_getElem? ht
    have hall:([22,24,49].all λu=>!prog.wantsStandIn u)=true:=by kernel_rfl
    exact(show prog.wantsStandIn t=false by simpa using List.all_eq_true.1 hall t hm)⟩)
  zL
#print axioms receiptMore_card
end Go.Proofs.YtlpmiimgacfmkaaGreatDoor
