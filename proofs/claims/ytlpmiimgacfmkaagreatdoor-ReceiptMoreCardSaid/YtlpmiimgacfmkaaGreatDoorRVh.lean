/- Part of the proof. -/
import Derived.Test.YtlpmiimgacfmkaaGreatDoorRMaps3
set_option linter.all false
set_option maxHeartbeats 8000000
set_option maxRecDepth 100000
namespace Go.Proofs.YtlpmiimgacfmkaaGreatDoor
open Go.Proofs.Tryz
open Go.RowKit
structure VGis(w:World)(b pb pl mw mr:Nat)(A:Option Addr)(c:Nat)(KA:Option Addr)(kk kc:Nat)(ks:List Value)(ys:List AX)(ew:List (NE ON VX))(er:List (NE ON Nat))(ns:List ON):Prop where
 s:VS w b pb pl mw mr A c KA kk kc ks ys ew er
 kl:kk<=ys.length
 xok:∀x∈ys,x.ok w
 base:SG w pb []
 st:SG w pl ns
 nl:ns.length<=10*ys.length
 wr:∀m,gJ ew m=oz (ys.map AX.a) m
 wl:∀m,(gJ ew m).length<=10*ys.length
 rl:∀m,(gJ er m).length<=10*ys.length
 run:Run ys
def VG(w:World)(b:Nat)(n:List AX)(M:List Nat):Prop:=∃l m g f A c a i h j e d k,VGis w b l m g f A c a i h j n e d k/\M=VB b g f A a e d
def B3(d:List AX)(a:AG)(M:List Nat)(b:Nat)(w:World)(e:Ending)(w':World):Prop:=e=.returned (.int .i64 0)/\∃c y,y.a=a/\VG w' b (d++[y]) c/\Fr M w w'/\∀k∈c,k∈M \/ w.heap.size<=k
theorem Dz(b p:Nat)(w:World)(h:w.cell? ⟨b,0,none⟩=some (.pointer (some ⟨p,0,none⟩))):Calls prog 157 #[.pointer (some ⟨b,0,none⟩)] w λe w'=>e=.returned (.bool false)/\w=w':=o9 b p w h
theorem Aj(b:Nat)(S:List AX)(bL:List Nat)(x:AX)(w:World)(h:VG w b S bL)(bX:Ok w)(cC:∀k∈bL,6<=k)(hx:x.ok w)(hA:qj S x.a=true)(hf:x.a.fit)(hr:x.a.r.length<=10)(hw:x.a.w.length<=10)(c9:S.length<=11):
 Calls prog 98 #[.pointer (some ⟨b,0,none⟩),x.v] w (B3 S x.a bL b w):=by
 obtain⟨pb,pl,E,D,I,c,P,kk,aO,ks,ew,U,ns,h,rfl⟩:=h
 have bE:mN x.a=true:=by
  unfold qj at hA;simp only[Bool.and_eq_true]at hA;exact hA.1
 obtain⟨Z,bW⟩:=eR (x.a.r.length);obtain⟨V,bC⟩:=eR (x.a.w.length);obtain⟨n,bB⟩:=eR (S.length);have bD:x.v=.agg #[.int .i64 x.a.k.rnd,.int .i64 x.a.k.phase,.int .i64 x.a.k.idx,.string x.sl,.slice x.A Z x.c,.slice x.B V x.d]:=by unfold AX.v AG.val;rw[bW,bC]
 rw[bD];obtain⟨w1,cO,bu,n1,ap⟩:=il w #[.int .i64 x.a.k.rnd,.int .i64 x.a.k.phase,.int .i64 x.a.k.idx,.string x.sl,.slice x.A Z x.c,.slice x.B V x.d] 91 w.heap.size;obtain⟨R,hR⟩:=eR (w.heap.size);have ca:=Hd hR;rw[hR]at n1
 have ac:∀W,Fr [] w1 W->(W.cell? ⟨b,0,none⟩=some (.pointer (some ⟨pb,0,none⟩))/\W.cell? ⟨b,1,none⟩=some (.slice I n c)/\W.cell? ⟨b,2,none⟩=some (.slice P kk aO)/\W.cell? ⟨b,3,none⟩=some (.pointer (some ⟨pl,0,none⟩))/\W.cell? ⟨b,4,none⟩=some (.map (some E))/\W.cell? ⟨b,5,none⟩=some (.map (some D)))/\W.cell? ⟨R,0,none⟩=some (.int .i64 x.a.k.rnd)/\W.cell? ⟨R,1,none⟩=some (.int .i64 x.a.k.phase)/\W.cell? ⟨R,2,none⟩=some (.int .i64 x.a.k.idx)/\W.cell? ⟨R,3,none⟩=some (.string x.sl)/\W.cell? ⟨R,4,none⟩=some (.slice x.A Z x.c)/\W.cell? ⟨R,5,none⟩=some (.slice x.B V x.d):=λW hW=>by
  have M:=h.s.box.fr (ap.then hW) qs;rw[bB]at M;have C:=n1.fr hW qs;exact⟨⟨M.c 0,M.c 1,M.c 2,M.c 3,M.c 4,M.c 5⟩,C.c 0,C.c 1,C.c 2,C.c 3,C.c 4,C.c 5⟩
 have cp:∀W,Fr [] w1 W->Calls prog 157 #[.pointer (some ⟨b,0,none⟩)] W λe w'=>e=.returned (.bool false)/\W=w':=λW hW=>Dz b pb W (ac W hW).1.1
 have bP:∀W,Fr [] w1 W->Calls prog 158 #[x.v] W (fm W (.bool true)):=λW hW=>by
  have:=tQ x.a x.sl x.A x.B x.c x.d W (bX.fr0 (ap.then hW)) hx.s (hx.chr.fr0 (ap.then hW)) (hx.chw.fr0 (ap.then hW)) hf;rw[bE]at this;exact this
 have cB:=gr bE;have hG:∀y∈x.a.w,y.fit/\iQ y=true:=λy hy=>⟨hf.w y hy,gC cB.2 y hy⟩;have dd:=h.nl
 have cf:∀W,Fr [] w1 W->Calls prog 153 #[.pointer (some ⟨pl,0,none⟩),.slice x.B V x.d] W (l6 W (ns.length+V)):=λW hW=>by
  have:=tT pl ns x.a.w x.B x.d W (bX.fr0 (ap.then hW)) (h.st.fr0 (ap.then hW)) (hx.chw.fr0 (ap.then hW)) hG qo;rw[bC]at this;exact this
 rw[bD]at bP;have dj:decide ((65536:Int)<=(n:Int))=false:=by simp;omega
 have cA:S.getLast?=S[n - 1]?:=by rw[List.getLast?_eq_getElem?,bB]
 have dc:n<=11:=qo
 have HN:=Hd cp;have cZ:=Hd bP;have HA:=Hd cf;have cY:=Hd cO;have bK:=Hd ap;have HSS:=Hd ac;have cW:=Hd n1;have J:=Hd h;have HX:=Hd hx;have dh:=Hd cC;have t:=Hd (An bD (An bB (An bE (An hA (An hf (An bW (An bC cA)))))));have HL:=Hd (An hr hw);have dp:Z<=10:=qo
 have dq:V<=10:=qo
 clear hx h ac cp bP cf cO ap n1 bD bX cC bE bu hf bW bC bB cB hG dd cA hr hw c9 hA hR
 go_enter func98,ntmps98
 go_upto_region 1 with fail
 rw[cY.out]
 try rw[ca.out]
 obtain⟨⟨x0,x1,x2,x3,x4,x5⟩,y0,y1,y2,y3,y4,y5⟩:=HSS.out w1 (Fq [] w1)
 go_upto_region 8 with(first
  | (go_at_call 157;(with_reducible refine(HN.out _ (Fq [] w1)).mono ?_);rintro e w' ⟨rfl,rfl⟩)
  | (go_at_call 158;(with_reducible refine(cZ.out _ (Fq [] w1)).mono ?_);rintro e w2 ⟨rfl,bR⟩;clear x0 x1 x2 x3 x4 x5 y0 y1 y2 y3 y4 y5;obtain⟨⟨x0,x1,x2,x3,x4,x5⟩,y0,y1,y2,y3,y4,y5⟩:=HSS.out w2 bR))
 clear x0 x1 x2 x3 x4 x5 y0 y1 y2 y3 y4 y5
 go_cut [40]from 24 to 41 (λs W=>s=.bool false/\Fr [] w1 W)
 case first =>
  cases n with
  | zero =>
   refine eY (λW=>Fr [] w1 W) qk qk (bR.drew) ?_
   repeat(
    first
    | go_big_quiet_skip
    | (go_big_quiet_want;first|(go_big_quiet_op;go_big_quiet_on)|(apply Exists.intro;refine⟨λW hW=>?_,?_⟩;(· obtain⟨⟨x0,x1,x2,x3,x4,x5⟩,y0,y1,y2,y3,y4,y5⟩:=HSS.out W hW;go_simp;first|done|with_reducible exact rfl|with_reducible exact⟨rfl,rfl⟩ );simp only[qq];go_big_quiet_on))
    )
   refine wpQuiet_nil ?_;intro W3 aR
   go_wp2_with fail
   go_meet
   exact⟨rfl,aR⟩
  | succ m =>
   have af:=(J.out.s.own.rd:Rd w 6 I S.length (S.flatMap AX.cs));rw[t.out.2.1]at af;obtain⟨g,off,rfl,aI,ax⟩:=fo jV af qo;obtain⟨y,hy⟩:∃y,S[m]?=some y:=⟨_,gx (by rw[t.out.2.1];omega)⟩;have aV:=ax m y hy;unfold AX.cs at aV;have bf:∀o,(W:World)->Fr [] w1 W->W.cell? ⟨g,o,none⟩=w.cell? ⟨g,o,none⟩:=λo W hW=>(bK.out.then hW).cell (p:=⟨g,o,none⟩) aI qs;have cS:=J.out.run.wf y (iu hy);have bt:=J.out.xok y (iu hy);obtain⟨r,hr⟩:=eR (pJ x.a.k y.a.k)
   have di:decide (r<=0)=false:=by
    have h0:=t.out.2.2.2.1;unfold qj at h0;rw[t.out.2.2.1,t.out.2.2.2.2.2.2.2,Nat.add_sub_cancel,hy]at h0;simp only[Bool.true_and,hr,decide_eq_true_eq]at h0;simp;omega
   have ci:∀W,Calls prog 91 #[.agg #[.int .i64 x.a.k.rnd,.int .i64 x.a.k.phase,.int .i64 x.a.k.idx,.string x.sl],.agg #[.int .i64 y.a.k.rnd,.int .i64 y.a.k.phase,.int .i64 y.a.k.idx,.string y.sl]] W (ja W r):=λW=>by
    obtain⟨v1,v2⟩:=gU (j6 t.out.2.2.1);obtain⟨v3,v4⟩:=gU (j6 cS.1);have h:=lL x.a.k y.a.k W v1 v3 qo qo;rw[hr]at h;unfold lK at h;rw[HX.out.s,bt.s]at h;exact h
   have cV:=Hd ci;have cX:=HSS;clear HSS
   have HSS:=Hd (λ(W:World) (hW:Fr [] w1 W)=>An (cX.out W hW) (show W.cell? ⟨g,off+m*6,none⟩=some (.int .i64 y.a.k.rnd)/\W.cell? ⟨g,off+m*6+1,none⟩=some (.int .i64 y.a.k.phase)/\W.cell? ⟨g,off+m*6+2,none⟩=some (.int .i64 y.a.k.idx)/\W.cell? ⟨g,off+m*6+3,none⟩=some (.string y.sl)from
    ⟨(bf _ W hW).trans (aV 0 qo),(bf _ W hW).trans (aV 1 qo),(bf _ W hW).trans (aV 2 qo),(bf _ W hW).trans (aV 3 qo)⟩))
   have dr:IntKind.i64.wrap (m:Int)=(m:Int):=by simp only[IntKind.wrap_i64];omega
   have bk:(m:Int)<(m:Int)+1:=qo
   clear aV ax af bf cS bt hr ci;refine eY (λW=>Fr [] w1 W) qk qk (bR.drew) ?_
   repeat(
    first
    | go_big_quiet_skip
    | (go_big_quiet_want;first|(go_big_quiet_op;go_big_quiet_on)|(apply Exists.intro;refine⟨λW hW=>?_,?_⟩;(· obtain⟨⟨⟨x0,x1,x2,x3,x4,x5⟩,y0,y1,y2,y3,y4,y5⟩,du,z1,z2,z3⟩:=HSS.out W hW;go_simp;first|done|with_reducible exact rfl|with_reducible exact⟨rfl,rfl⟩|((go_at_call 91;(with_reducible refine(cV.out W).mono ?_);rintro e w' ⟨rfl,h⟩;exact⟨rfl,hW.then h⟩)));simp only[qq];go_big_quiet_on))
    )
   refine wpQuiet_nil ?_;intro W3 aR
   go_wp2_with fail
   go_meet
   exact⟨rfl,aR⟩
 case rest =>
 obtain⟨rfl,aR⟩:=hcut
 go_upto_region 10 with fail
 have O:Fr [] w1 wc.drew:=aR.drew;refine eZ (λW:World=>Fr [] w1 W) 11 qk ?_ qd
 show fb 0 ..
 iterate 6 (refine gB rfl ?_;try simp only[qq])
 refine hO (i:=6) rfl λK z=>?_;go_simp
 go_at_call 153
 (with_reducible refine(HA.out _ O).mono ?_);rintro e w4 ⟨p2,b7,rfl,bo,cF,cu⟩;have bM:=O.then cu;refine z _ _ bM ?_;clear z K O cu
 try simp only[qq]
 show fb 7 ..
 iterate 4 (refine gB rfl ?_;try simp only[qq])
 refine eW ⟨qk,?_⟩;simp only[qG,qH];have a4:=Hd (An bo (An cF bM));clear bo cF bM;have cJ:=J.out.s.fr0 (bK.out.then a4.out.2.2);have bn:=cW.out.fr a4.out.2.2 qs;have aQ:=Hd (An cJ bn);clear cJ bn
 go_upto_if 56 with fail
 have aK:=J.out.kl;rw[t.out.2.1]at aK;have b9:=Hd aK;clear aK
 go_cut [57]from 57 to 70 (λ_ W=>∃cd kk' kc' ks',VS W b pb pl E D I c cd kk' kc' ks' S ew U/\kk'<=n+1/\Fr (b::eV P) w4 W/\∀q∈eV cd,q∈eV P \/ w4.heap.size<=q)
 case first =>
  have aw:=aQ.out.1.box;rw[t.out.2.1]at aw
  by_cases h0:n=0
  ·subst h0
   have c8:kk=0:=by have:=b9.out;omega
   subst c8;have ck:=aQ.out.1.kown;have az:=Hd (An aw ck);clear aw ck
   go_upto_region 14 with fail
   clear HSS;have HSS:=Hd (λ(W:World) (hW:W.cell? ⟨b,2,none⟩=some (.slice P 0 aO)/\W.cell? ⟨b,3,none⟩=some (.pointer (some ⟨pl,0,none⟩)))=>hW);have O:w4.drew.cell? ⟨b,2,none⟩=some (.slice P 0 aO)/\w4.drew.cell? ⟨b,3,none⟩=some (.pointer (some ⟨pl,0,none⟩)):=⟨az.out.1.c 2,az.out.1.c 3⟩;refine eZ (λW:World=>W.cell? ⟨b,2,none⟩=some (.slice P 0 aO)/\W.cell? ⟨b,3,none⟩=some (.pointer (some ⟨pl,0,none⟩))) 13 qk ?_ qd
   show fb 0 ..
   iterate 9 (refine gB rfl ?_;try simp only[qq])
   refine hO (i:=9) rfl λK z=>?_;go_simp
   obtain⟨X1,av,n2,Q⟩:=sf w4 #[.pointer (some ⟨pl,0,none⟩)] 86;rw[av];have bA:=az.out.1.fr Q qs;refine z _ _ ⟨bA.c 2,bA.c 3⟩ ?_;clear z K av
   try simp only[qq]
   refine hO (i:=10) rfl λK z=>?_;obtain⟨ii,bU,b1,b2,b3⟩:=BH;refine gF (.tmp 61) (.tmp 66) 133 rfl 86 ii _ 1 8 underlying133 bU b1 b2 b3 rfl qd P 0 aO ks rfl (az.out.2.fr Q qs) ⟨w4.heap.size,0,none⟩ 1 1 [.pointer (some ⟨pl,0,none⟩)] rfl rfl (λj u hu=>by rw[fx,n2.c j];simpa using hu) (by simp[Value.oneCell']) (by unfold maxLen;omega) qo ?_;intro A' c' X3 ae Y ah
   have c3:b ∉ eV P:=λhm=>by
    have:=NoT.own (ts:=[196]) az.out.2 qd b hm _ _ _ az.out.1;simp at this
   have ad:=bA.fr Y c3;have ch:X3.cell? ⟨b,2,none⟩=some (.slice P 0 aO)/\X3.cell? ⟨b,3,none⟩=some (.pointer (some ⟨pl,0,none⟩)):=⟨ad.c 2,ad.c 3⟩;refine z _ _ ch ?_;clear z K
   try simp only[qq]
   show fb 11 ..
   iterate 2 (refine gB rfl ?_;try simp only[qq])
   refine eW ⟨qk,?_⟩;simp only[qG,qH];rw[show (0+1:Nat)=1 from rfl]at ae ⊢;have e0:=ad.k2;have e1:=ad.f 2;have aU:=ad.setAt 2 (.slice A' 1 c');have f5:Fr [b] X3 (X3.setCell ⟨b,2,none⟩ (.slice A' 1 c')):=(Fq [b] X3).st _;have df:S.length=0:=t.out.2.1;have cH:=aQ.out.1.putK (K':=A') (kk':=1) (kc':=c') (ks':=ks++[.pointer (some ⟨pl,0,none⟩)]) ((Q.mono qs).then Y) ae (λk l=>(ah k l).imp id (λh=>Nat.le_trans Q.size h)) f5 (by rw[df];exact aU);have ak:Fr (b::eV P) w4 (X3.setCell ⟨b,2,none⟩ (.slice A' 1 c')):=(((Q.mono qs).then Y).mono (T:=b::eV P) (λk l=>.inl (by simp[l]))).trans f5 qs;have aa:=Hd (An cH (An ak (λk l=>(ah k l).imp id (λh=>Nat.le_trans Q.size h))));clear cH ak aU f5 ad Y ae ah bA n2 Q O ch az
   go_wp2_with fail
   go_meet
   exact⟨A',1,c',_,aa.out.1,qo,aa.out.2.1,aa.out.2.2⟩
  ·have dn:¬(n:Int) % 16=0:=qo
   clear aw
   go_wp2_with fail
   go_meet
   exact⟨P,kk,aO,ks,aQ.out.1,by have:=b9.out;omega,Fq _ _,λq G=>.inl G⟩
 case rest =>
 obtain⟨K2,bH,bG,bI,bZ,cz,cv,cj⟩:=hcut;have cl:=J.out.s.lt;have am:R ∉ VB b E D I P ew U:=λhm=>by have:=cl R hm;have:=ca.out;omega
 have cq:R≠b/\R ∉ eV I/\R ∉ eV P/\R≠E/\R≠D/\R ∉ gj ew/\R ∉ gj U:=by
  simp only[VB,List.mem_cons,List.mem_append,not_or]at am;exact⟨am.1,am.2.2.2.1,am.2.2.2.2.1,am.2.1,am.2.2.1,am.2.2.2.2.2.1,am.2.2.2.2.2.2⟩
 have aC:=Hd cq;have cP:=bK.out.then a4.out.2.2;have cb:=Hd cP;have a7:=bZ.box;rw[t.out.2.1]at a7;have e0:=a7.k3;have e1:=a7.f 3;have aD:=Hd (An bZ (An cz (An cv cj)));clear cl am cq cP bZ cz cv cj aR
 go_upto_region 16 with fail
 obtain⟨X5,bx⟩:=eR (wc.setCell ⟨b,3,none⟩ (.pointer (some ⟨p2,0,none⟩)));have aU:=a7.setAt 3 (.pointer (some ⟨p2,0,none⟩));have f5:Fr [b] wc X5:=by rw[<-bx];exact(Fq [b] wc).st _
 rw[bx]at aU
 try rw[bx]
 have cM:=aD.out.1.putLast (pl':=p2) f5 (by rw[t.out.2.1];exact aU);have cI:BoxN X5 R 91 #[.int .i64 x.a.k.rnd,.int .i64 x.a.k.phase,.int .i64 x.a.k.idx,.string x.sl,.slice x.A Z x.c,.slice x.B V x.d]:=((aQ.out.2.fr aD.out.2.2.1 (by simp only[List.mem_cons,not_or];exact⟨aC.out.1,aC.out.2.2.1⟩)).fr f5 (by simpa using aC.out.1));have cx:Fr (VB b E D I P ew U) w X5:=((cb.out.mono qs).trans (aD.out.2.2.1.mono (T:=VB b E D I P ew U) (λk l=>.inl (by rcases List.mem_cons.1 l with h|h <;> simp[VB,h]))) (λk l=>.inl l)).trans f5 (by simp[VB]);have cK:SG X5 p2 b7:=(a4.out.1.frT aD.out.2.2.1 (aQ.out.1.noS.mem (by intro k l;rcases List.mem_cons.1 l with h|h <;> simp[VB,h]))).frT f5 (aD.out.1.noS.mem (by intro k l;rw[gI]at l;simp[VB,l]));have ag:=Hd (An cM (An cI (An cx cK)));clear e0 e1 bx aU a7 cM cI cx f5 cK
 have ac:∀W,Fr [] X5 W->W.cell? ⟨b,1,none⟩=some (.slice I n c)/\W.cell? ⟨R,0,none⟩=some (.int .i64 x.a.k.rnd)/\W.cell? ⟨R,1,none⟩=some (.int .i64 x.a.k.phase)/\W.cell? ⟨R,2,none⟩=some (.int .i64 x.a.k.idx)/\W.cell? ⟨R,3,none⟩=some (.string x.sl)/\W.cell? ⟨R,4,none⟩=some (.slice x.A Z x.c)/\W.cell? ⟨R,5,none⟩=some (.slice x.B V x.d):=λW hW=>by
  have M:=ag.out.1.box.fr hW qs;rw[t.out.2.1]at M;have C:=ag.out.2.1.fr hW qs;exact⟨M.c 1,C.c 0,C.c 1,C.c 2,C.c 3,C.c 4,C.c 5⟩
 have bN:∀W,Fr [] X5 W->Calls prog 159 #[x.v] W (vI W x.a):=λW hW=>by
  have aj:=HX.out.frT (ag.out.2.2.1.trans hW qs) J.out.s.noS;exact Ag x.a x.sl x.A x.B x.c x.d W HX.out.s aj.chr aj.chw t.out.2.2.2.2.1
 rw[t.out.1]at bN;have b8:=Hd bN;clear HSS;have HSS:=Hd (λ(W:World) (hW:W.cell? ⟨b,1,none⟩=some (.slice I n c)/\W.cell? ⟨R,0,none⟩=some (.int .i64 x.a.k.rnd)/\W.cell? ⟨R,1,none⟩=some (.int .i64 x.a.k.phase)/\W.cell? ⟨R,2,none⟩=some (.int .i64 x.a.k.idx)/\W.cell? ⟨R,3,none⟩=some (.string x.sl)/\W.cell? ⟨R,4,none⟩=some (.slice x.A Z x.c)/\W.cell? ⟨R,5,none⟩=some (.slice x.B V x.d))=>hW);have O:=ac _ (Fq [] X5).drew;have bw:=Hd ac;clear ac bN;refine eZ (λW:World=>W.cell? ⟨b,1,none⟩=some (.slice I n c)/\W.cell? ⟨R,0,none⟩=some (.int .i64 x.a.k.rnd)/\W.cell? ⟨R,1,none⟩=some (.int .i64 x.a.k.phase)/\W.cell? ⟨R,2,none⟩=some (.int .i64 x.a.k.idx)/\W.cell? ⟨R,3,none⟩=some (.string x.sl)/\W.cell? ⟨R,4,none⟩=some (.slice x.A Z x.c)/\W.cell? ⟨R,5,none⟩=some (.slice x.B V x.d)) 11 qk ?_ qd
 show fb 0 ..
 iterate 6 (refine gB rfl ?_;try simp only[qq])
 refine hO (i:=6) rfl λK z=>?_;go_simp
 go_at_call 159
 (with_reducible refine(b8.out _ (Fq [] X5).drew).mono ?_);rintro e Y1 ⟨⟨ya,aY,yA,yc,yB,yd⟩,cR,rfl,bt,cy⟩
 dsimp only at cR
 subst cR;have av:=cy.undrew;refine z _ _ (bw.out _ av) ?_;clear z K O cy;have O:=bw.out _ av;unfold AX.v AG.val
 dsimp only
 rw[t.out.2.2.2.2.2.1,t.out.2.2.2.2.2.2.1]
 try simp only[qq]
 refine hO (i:=7) rfl λK z=>?_;go_simp
 obtain⟨Y2,cr,n2,f2⟩:=kS Y1 #[.int .i64 x.a.k.rnd,.int .i64 x.a.k.phase,.int .i64 x.a.k.idx,.string aY,.slice yA Z yc,.slice yB V yd] 91;rw[cr];have aS:=av.then f2;refine z _ _ (bw.out _ aS) ?_;clear z K O cr
 try simp only[qq]
 refine hO (i:=8) rfl λK z=>?_;obtain⟨ii,bU,b1,b2,b3⟩:=rn;have bO:=ag.out.1.own.fr aS qs;rw[t.out.2.1]at bO;refine gF (.tmp 78) (.tmp 81) 22 rfl 91 ii _ 6 88 underlying22 bU b1 b2 b3 rfl qd I n c (S.flatMap AX.cs) rfl bO ⟨Y1.heap.size,0,none⟩ 1 1 (AX.mk x.a aY yA yc yB yd).cs rfl rfl (λj u hu=>by unfold AX.cs at hu;dsimp only at hu;rw[t.out.2.2.2.2.2.1,t.out.2.2.2.2.2.2.1]at hu;rw[fx,n2.c j];simpa using hu) (by intro u hu;simp only[AX.cs,List.mem_cons,List.not_mem_nil,or_false]at hu;rcases hu with rfl|rfl|rfl|rfl|rfl|rfl <;> rfl) (by unfold maxLen;omega) qo ?_;intro A' c' Y3 ae Y ah
 have cE:b ∉ eV I:=λhm=>by
  have:=NoT.own (ts:=[196]) J.out.s.own qd b hm _ _ _ J.out.s.box;simp at this
 have ad:=((ag.out.1.box.fr aS qs).fr Y cE);rw[t.out.2.1]at ad;have ay:=(ag.out.2.1.fr aS qs).fr Y aC.out.2.1;have O:Y3.cell? ⟨b,1,none⟩=some (.slice I n c)/\Y3.cell? ⟨R,0,none⟩=some (.int .i64 x.a.k.rnd)/\Y3.cell? ⟨R,1,none⟩=some (.int .i64 x.a.k.phase)/\Y3.cell? ⟨R,2,none⟩=some (.int .i64 x.a.k.idx)/\Y3.cell? ⟨R,3,none⟩=some (.string x.sl)/\Y3.cell? ⟨R,4,none⟩=some (.slice x.A Z x.c)/\Y3.cell? ⟨R,5,none⟩=some (.slice x.B V x.d):=⟨ad.c 1,ay.c 0,ay.c 1,ay.c 2,ay.c 3,ay.c 4,ay.c 5⟩;refine z _ _ O ?_;clear z K
 try simp only[qq]
 show fb 9 ..
 iterate 2 (refine gB rfl ?_;try simp only[qq])
 refine eW ⟨qk,?_⟩;simp only[qG,qH];have e0:=ad.k1;have e1:=ad.f 1;have ab:=Hd (An aS (An f2 (An ae (An Y (An ah (An ad (An ay (An bt av))))))));clear aS f2 ae Y ah ad ay bt n2 av bO O bw b8 HSS cE
 go_upto_region 17 with fail
 obtain⟨Y4,bz⟩:=eR (Y3.setCell ⟨b,1,none⟩ (.slice A' (n+1) c'));have aw:=ab.out.2.2.2.2.2.1.setAt 1 (.slice A' (n+1) c');have f4:Fr [b] Y3 Y4:=by rw[<-bz];exact(Fq [b] Y3).st _
 rw[bz]at aw
 try rw[bz]
 obtain⟨zs,ar⟩:∃zs,zs=S++[AX.mk x.a aY yA yc yB yd]:=⟨_,rfl⟩;have aq:zs.length=n+1:=by rw[ar,gG,t.out.2.1];rfl
 have cU:zs.flatMap AX.cs=S.flatMap AX.cs++(AX.mk x.a aY yA yc yB yd).cs:=by rw[ar,List.flatMap_append];simp
 have fA:Fr (eV I) X5 Y3:=((ab.out.1.mono qs).then ab.out.2.2.2.1);have cL:=ag.out.1.putA (A':=A') (c':=c') (ys':=zs) fA (by rw[aq,cU];exact ab.out.2.2.1) (λk l=>(ab.out.2.2.2.2.1 k l).imp id (λh=>Nat.le_trans ab.out.1.size h)) f4 (by rw[aq];exact aw);have bn:BoxN Y4 R 91 #[.int .i64 x.a.k.rnd,.int .i64 x.a.k.phase,.int .i64 x.a.k.idx,.string x.sl,.slice x.A Z x.c,.slice x.B V x.d]:=ab.out.2.2.2.2.2.2.1.fr f4 (by simpa using aC.out.1);have fB:Fr (b::eV I) X5 Y4:=(fA.mono (λk l=>.inl (by simp[l]))).trans f4 qs;have cw:Fr (VB b E D I P ew U) w Y4:=ag.out.2.2.1.trans fB (λk l=>.inl (by rcases List.mem_cons.1 l with h|h <;> simp[VB,h]))
 have cQ:(AX.mk x.a aY yA yc yB yd).ok Y4:=by
  have h5:VS Y1 b pb p2 E D I c K2 bH bG bI S ew U:=ag.out.1.fr0 ab.out.2.2.2.2.2.2.2.2;have fX:Fr (b::eV I) Y1 Y4:=((ab.out.2.1.mono qs).trans (ab.out.2.2.2.1.mono (T:=b::eV I) (λk l=>.inl (by simp[l]))) (λk l=>.inl l)).trans f4 qs;exact ab.out.2.2.2.2.2.2.2.1.frT fX (h5.noS.mem (by intro k l;rcases List.mem_cons.1 l with h|h <;> simp[VB,h]))
 have bo:SG Y4 p2 b7:=ag.out.2.2.2.frT fB (ag.out.1.noS.mem (by intro k l;rcases List.mem_cons.1 l with h|h <;> simp[VB,h]));have cT:∀k∈eV A',k∈eV I \/ w.heap.size<=k:=λk l=>(ab.out.2.2.2.2.1 k l).imp id (λh=>by have M:=ag.out.2.2.1.size;have C:=ab.out.1.size;omega);have ai:=Hd (An cL (An bn (An cw (An cQ (An ar (An aq (An bo cT)))))));clear e0 e1 bz aw f4 cU fA cL bn fB cw cQ ar aq bo cT;have y5:=ai.out.2.1.k5
 go_wp2_with fail
 clear y5
 go_loopw [88] (λi W=>∃(j:Nat) (N:List (NE ON VX)),j<=V/\i=.int .i64 (j:Int)/\VS W b pb p2 E D A' c' K2 bH bG bI zs N U/\Fr (E::gj ew) Y4 W/\(∀q∈gj N,q∈gj ew \/ Y4.heap.size<=q)/\∀m,gJ N m=oz (S.map AX.a) m++i7 n m (x.a.w.take j)) (λi _=>V - (intOf i).toNat)
 case atStart=>exact⟨0,ew,Nat.zero_le _,rfl,ai.out.1,Fq _ _,λq G=>.inl G,λm=>by rw[J.out.wr];simp[i7]⟩
 case round =>
  obtain⟨j,N,hj,rfl,br,ak,an,aI⟩:=hrel;have bT:Fr (VB b E D I P ew U) w wr:=ai.out.2.2.1.trans ak (λk l=>.inl (by rcases List.mem_cons.1 l with h|h <;> simp[VB,h]));have aj:=HX.out.frT bT J.out.s.noS;have F:=Hd (An br (An ak (An an (An aI bT))));clear br ak an aI bT
  by_cases c6:j<V
  ·have dl:(j:Int)<(V:Int):=qo
   have af:=aj.chw;unfold Chs Rd at af;rw[t.out.2.2.2.2.2.2.1]at af;obtain⟨c1,off,hB,an,ax⟩:=fo ip af qo;obtain⟨d,hd⟩:∃d,x.a.w[j]?=some d:=⟨_,gx (by rw[t.out.2.2.2.2.2.2.1];exact c6)⟩;have aW:=ot (gC (gr t.out.2.2.1).2 d (iu hd));obtain⟨dg,aK⟩:=fU aW.1;have ao:=ax j d hd;have HD:=Hd (An hd (An aW.1 hB));obtain⟨nm,de⟩:=eR (d.n);obtain⟨so,aM,_,_⟩:=eT d.n.owner;obtain⟨aP,aN,_,_⟩:=eT d.n.text;obtain⟨sv,aX,_,_⟩:=eT d.v;obtain⟨k,l⟩:=eR (d.n.kind);obtain⟨nu,aL⟩:=eR (d.n.number);obtain⟨ix,aJ⟩:=eR (d.n.index);obtain⟨au,aT⟩:=eR (d.a);have bd:fg d.n=.agg #[.int .i64 k,.string so,.int .i64 nu,.int .i64 ix,.string aP]:=by rw[gc aM aN,l,aL,aJ]
   have cN:(VX.mk n d.v d.a).cs=[.int .i64 (n:Int),.string sv,.bool au]:=by unfold VX.cs;rw[aX,aT]
   unfold CH.cs at ao;rw[aM,aN,aX,l,aL,aJ,aT]at ao;obtain⟨y0,y1,y2,y3,y4,y5,y6⟩:=AR ao;rw[hB];obtain⟨H,a5,bF,n0,f0⟩:=il wr #[.int .i64 k,.string so,.int .i64 nu,.int .i64 ix,.string aP,.string sv,.bool au] 95 wr.heap.size;obtain⟨B9,aG⟩:=eR (wr.heap.size);rw[aG]at n0;have bq:=F.out.1.box.fr f0 qs;have cD:Gf H E N:=ML.fr0 F.out.1.wm f0;have aZ:=Hd aG;have HK:=Hd (An bd cN);have a3:=Hd cD;have aB:=Hd f0;clear ao ax af aj hd aW hB aM aN aX l aL aJ aT de bd cN cD aG an
   go_upto_region 20 with fail
   try rw[a5]
   try rw[aZ.out]
   clear y0 y1 y2 y3 y4 y5 y6 a5 bF
   have da:(gJ N d.n).length<=200:=by
    rw[F.out.2.2.2.1,gG];have M:=J.out.wl d.n;rw[J.out.wr,t.out.2.1]at M
    have C:(i7 n d.n (x.a.w.take j)).length<=j:=by
     unfold i7;rw[List.length_map];have:=List.length_filter_le (λc=>decide (CH.n c=d.n)) (x.a.w.take j);rw[List.length_take]at this;omega
    have h3:=HL.out.2;have h4:=t.out.2.2.2.2.2.2.1;omega
   have bv:=F.out.1.lt;have aH:∀q∈VB b E D A' K2 N U,q≠B9:=λq G he=>by have:=bv q G;have:=aZ.out;omega
   have bc:b≠E:=λhe=>by
    obtain⟨c2,clock,h3,_⟩:=F.out.1.wm.map;rw[<-he,show wr.heap[b]?=_ from F.out.1.box]at h3
    cases h3
   have aA:=Hd (An (aH E (by simp[VB])) (An bc (λq (G:q∈gj N)=>aH q (by simp[VB,G]))))
   have a9:b ∉ gj N:=λhm=>by
    have:=ML.noT (ts:=[196]) F.out.1.wm qd b hm _ _ _ F.out.1.box;simp at this
   have bJ:=Hd a9
   have ac:∀W,Fr (E::gj N) H W->W.cell? ⟨b,4,none⟩=some (.map (some E))/\W.cell? ⟨B9,0,none⟩=some (.int .i64 k)/\W.cell? ⟨B9,1,none⟩=some (.string so)/\W.cell? ⟨B9,2,none⟩=some (.int .i64 nu)/\W.cell? ⟨B9,3,none⟩=some (.int .i64 ix)/\W.cell? ⟨B9,4,none⟩=some (.string aP)/\W.cell? ⟨B9,5,none⟩=some (.string sv)/\W.cell? ⟨B9,6,none⟩=some (.bool au):=λW hW=>by
    have M:=bq.fr hW (by simp only[List.mem_cons,not_or];exact⟨aA.out.2.1,bJ.out⟩);have C:=n0.fr hW (by simp only[List.mem_cons,not_or];exact⟨Ne.symm aA.out.1,λhm=>aA.out.2.2 _ hm rfl⟩);exact⟨M.c 4,C.c 0,C.c 1,C.c 2,C.c 3,C.c 4,C.c 5,C.c 6⟩
   have O:Fr (E::gj N) H H.drew:=(Fq _ H).drew;have HSS:=Hd ac;clear ac bv aH bc a9 n0 f0 bq;refine eZ (λW:World=>Fr (E::gj N) H W) 17 qk ?_ qd
   show fb 0 ..
   iterate 12 (refine gB rfl ?_;try simp only[qq])
   refine hO (i:=12) rfl λK z=>?_;go_simp
   obtain⟨V1,a6,n1,Q⟩:=sf H #[.int .i64 (n:Int),.string sv,.bool au] 201;rw[a6];refine z _ _ (Q.mono qs) ?_;clear z K O a6
   try simp only[qq]
   refine hO (i:=13) rfl λK z=>?_;obtain⟨sm,Ae,ce,V2,bj,f2,bm,a8,bp⟩:=ML.step ir iA underlying193 sV (ML.fr0 a3.out Q) d.n aK;rw[HK.out.1]at bj;go_simp
   have al:Fr (E::gj N) H V2:=(Q.mono qs).trans f2 qs;refine z _ _ al ?_;clear z K bj;have O:=al
   try simp only[qq]
   show fb 14 ..
   refine gB rfl ?_;try simp only[qq]
   show fb 16 ..
   refine gB rfl ?_;try simp only[qq];refine hO (i:=15) rfl λK z=>?_;obtain⟨jj,bV,b4,b5,b6⟩:=uX;have n2:=n1.fr f2 (by have:=a3.out.map.lt;simp;omega);have cG:∀u∈[Value.int .i64 (n:Int),.string sv,.bool au],u.oneCell'=true:=by rw[<-HK.out.2];exact BI _
   refine gF (.tmp 98) (.tmp 105) 280 rfl 201 jj _ 3 32 underlying280 bV b4 b5 b6 rfl qd Ae _ ce _ rfl bm ⟨H.heap.size,0,none⟩ 1 1 [.int .i64 (n:Int),.string sv,.bool au] rfl rfl (λj u hu=>by rw[fx,n2.c j];simpa using hu) cG (by unfold maxLen;omega) qo ?_;intro AA cc V3 ae Y ah;have aE:Fr (E::gj N) H V3:=al.trans Y (λq G=>.inl (by simp[a8 q G]));refine z _ _ aE ?_;clear z K O
   try simp only[qq]
   refine eW ⟨qk,?_⟩;simp only[qG,qH];rw[<-HK.out.2]at ae;obtain⟨V4,e3,c4,f4,bi,bg,ba⟩:=bp ⟨n,d.v,d.a⟩ V3 AA cc Y ae ah;have aF:Fr (E::gj N) H V4:=aE.trans f4 qs;have bs:=(F.out.1.fr0 aB.out).putW aF bi;have bY:=aB.out.size
   have be:Fr (E::gj ew) Y4 V4:=F.out.2.1.trans ((aB.out.mono qs).then aF) (λq G=>by
    rcases List.mem_cons.1 G with h|h
    ·exact .inl (by simp[h])
    ·exact(F.out.2.2.1 q h).imp (λh=>by simp[h]) id)
   have bu:=F.out.2.1.size;have b0:=Q.size
   have bb:∀q∈gj e3,q∈gj ew \/ Y4.heap.size<=q:=λq G=>by
    rcases ba q G with h|h
    ·exact F.out.2.2.1 q h
    ·exact .inr qo
   have bh:∀m,gJ e3 m=oz (S.map AX.a) m++i7 n m (x.a.w.take (j+1)):=λm=>by
    rw[bg,List.take_add_one,HD.out.1]
    show _=_++i7 n m (x.a.w.take j++[d])
    rw[rk]
    by_cases bk:m=d.n
    ·subst bk
     rw[if_pos rfl,if_pos rfl,F.out.2.2.2.1,List.append_assoc]
    ·rw[if_neg bk,if_neg (λe=>bk e.symm),F.out.2.2.2.1,List.append_nil]
   have aa:=Hd (An bs (An be (An bb bh)));clear bs be bb bh aF aE al f4 bi bg ba ae Y ah bp bm a8 n1 n2 Q f2 HSS bY bu b0 cG
   go_wp2_with fail
   go_roundw
   case rel=>exact⟨j+1,e3,qo,by go_num,aa.out.1,aa.out.2.1,aa.out.2.2.1,aa.out.2.2.2⟩
   case measure=>simp[intOf];omega
  ·obtain rfl:j=V:=qo
   have ct:BoxN wr R 91 #[.int .i64 x.a.k.rnd,.int .i64 x.a.k.phase,.int .i64 x.a.k.idx,.string x.sl,.slice x.A Z x.c,.slice x.B j x.d]:=ai.out.2.1.fr F.out.2.1 (by simp only[List.mem_cons,not_or];exact⟨aC.out.2.2.2.1,aC.out.2.2.2.2.2.1⟩);have y4:=ct.k4;clear ct
   go_wp2_with fail
   clear y4;obtain⟨Z0,bQ⟩:=eR (wr);rw[bQ]at F aj
   try rw[bQ]
   clear bQ;have c0:=Hd aj;clear aj
   go_loopw [113] (λi W=>∃(i2:Nat) (X:List (NE ON Nat)),i2<=Z/\i=.int .i64 (i2:Int)/\VS W b pb p2 E D A' c' K2 bH bG bI zs N X/\Fr (D::gj U) Z0 W/\(∀q∈gj X,q∈gj U \/ Z0.heap.size<=q)/\∀m,(gJ X m).length<=10*n+i2) (λi _=>Z - (intOf i).toNat)
   case atStart=>exact⟨0,U,Nat.zero_le _,rfl,F.out.1,Fq _ _,λq G=>.inl G,λm=>by have:=J.out.rl m;rw[t.out.2.1]at this;exact this⟩
   case round =>
    obtain⟨i2,X,dk,rfl,br,ak,an,aI⟩:=hrel;have cm:NoT sy Z0 (D::gj U):=F.out.1.noS.mem (by intro k l;rcases List.mem_cons.1 l with h|h <;> simp[VB,h]);have aj:=c0.out.frT ak cm;have L:=Hd (An br (An ak (An an aI)));clear br ak an aI cm
    by_cases c7:i2<Z
    ·have dm:(i2:Int)<(Z:Int):=qo
     have af:=aj.chr;unfold Chs Rd at af;rw[t.out.2.2.2.2.2.1]at af;obtain⟨c1,off,hB,an,ax⟩:=fo ip af qo;obtain⟨d,hd⟩:∃d,x.a.r[i2]?=some d:=⟨_,gx (by rw[t.out.2.2.2.2.2.1];exact c7)⟩;have aW:=ot (gC (gr t.out.2.2.1).1 d (iu hd));obtain⟨dg,aK⟩:=fU aW.1;have ao:=ax i2 d hd;obtain⟨so,aM,_,_⟩:=eT d.n.owner;obtain⟨aP,aN,_,_⟩:=eT d.n.text;obtain⟨sv,aX,_,_⟩:=eT d.v;obtain⟨k,l⟩:=eR (d.n.kind);obtain⟨nu,aL⟩:=eR (d.n.number);obtain⟨ix,aJ⟩:=eR (d.n.index);obtain⟨au,aT⟩:=eR (d.a);have bd:fg d.n=.agg #[.int .i64 k,.string so,.int .i64 nu,.int .i64 ix,.string aP]:=by rw[gc aM aN,l,aL,aJ]
     unfold CH.cs at ao;rw[aM,aN,aX,l,aL,aJ,aT]at ao;obtain⟨y0,y1,y2,y3,y4,y5,y6⟩:=AR ao;rw[hB];obtain⟨H,a5,bF,n0,f0⟩:=il wr #[.int .i64 k,.string so,.int .i64 nu,.int .i64 ix,.string aP,.string sv,.bool au] 95 wr.heap.size;obtain⟨B9,aG⟩:=eR (wr.heap.size);rw[aG]at n0;have bq:=L.out.1.box.fr f0 qs;have aZ:=Hd aG;have HK:=Hd bd;have a3:=Hd (show EK H D X from ML.fr0 L.out.1.rm f0);have aB:=Hd f0;clear ao ax af aj hd aW hB aM aN aX l aL aJ aT bd aG an
     go_upto_region 25 with fail
     try rw[a5]
     try rw[aZ.out]
     clear y0 y1 y2 y3 y4 y5 y6 a5 bF;have da:(gJ X d.n).length<=200:=by have:=L.out.2.2.2 d.n;omega
     have bv:=L.out.1.lt;have aH:∀q∈VB b E D A' K2 N X,q≠B9:=λq G he=>by have:=bv q G;have:=aZ.out;omega
     have bc:b≠D:=λhe=>by
      obtain⟨c2,clock,h3,_⟩:=L.out.1.rm.map;rw[<-he,show wr.heap[b]?=_ from L.out.1.box]at h3
      cases h3
     have aA:=Hd (An (aH D (by simp[VB])) (An bc (λq (G:q∈gj X)=>aH q (by simp[VB,G]))))
     have a9:b ∉ gj X:=λhm=>by
      have:=ML.noT (ts:=[196]) L.out.1.rm qd b hm _ _ _ L.out.1.box;simp at this
     have bJ:=Hd a9
     have ac:∀W,Fr (D::gj X) H W->W.cell? ⟨b,5,none⟩=some (.map (some D))/\W.cell? ⟨B9,0,none⟩=some (.int .i64 k)/\W.cell? ⟨B9,1,none⟩=some (.string so)/\W.cell? ⟨B9,2,none⟩=some (.int .i64 nu)/\W.cell? ⟨B9,3,none⟩=some (.int .i64 ix)/\W.cell? ⟨B9,4,none⟩=some (.string aP):=λW hW=>by
      have M:=bq.fr hW (by simp only[List.mem_cons,not_or];exact⟨aA.out.2.1,bJ.out⟩);have C:=n0.fr hW (by simp only[List.mem_cons,not_or];exact⟨Ne.symm aA.out.1,λhm=>aA.out.2.2 _ hm rfl⟩);exact⟨M.c 5,C.c 0,C.c 1,C.c 2,C.c 3,C.c 4⟩
     have O:Fr (D::gj X) H H.drew:=(Fq _ H).drew;have HSS:=Hd ac;clear ac bv aH bc a9 n0 f0 bq;refine eZ (λW:World=>Fr (D::gj X) H W) 12 qk ?_ qd
     show fb 0 ..
     iterate 7 (refine gB rfl ?_;try simp only[qq])
     refine hO (i:=7) rfl λK z=>?_;go_simp
     obtain⟨V1,a6,n1,Q⟩:=sf H #[.int .i64 (n:Int)] 3;rw[a6];refine z _ _ (Q.mono qs) ?_;clear z K O a6
     try simp only[qq]
     refine hO (i:=8) rfl λK z=>?_;obtain⟨sm,Ae,ce,V2,bj,f2,bm,a8,bp⟩:=ML.step ir iA underlying194 pa (ML.fr0 a3.out Q) d.n aK;rw[HK.out]at bj;go_simp
     have al:Fr (D::gj X) H V2:=(Q.mono qs).trans f2 qs;refine z _ _ al ?_;clear z K bj;have O:=al
     try simp only[qq]
     show fb 9 ..
     refine gB rfl ?_;try simp only[qq]
     show fb 11 ..
     refine gB rfl ?_;try simp only[qq];refine hO (i:=10) rfl λK z=>?_;obtain⟨jj,bV,b4,b5,b6⟩:=kt;have n2:=n1.fr f2 (by have:=a3.out.map.lt;simp;omega);refine gF (.tmp 123) (.tmp 125) 36 rfl 3 jj _ 1 8 underlying36 bV b4 b5 b6 rfl qd Ae _ ce _ rfl bm ⟨H.heap.size,0,none⟩ 1 1 [.int .i64 (n:Int)] rfl rfl (λj u hu=>by rw[fx,n2.c j];simpa using hu) (by simp[Value.oneCell']) (by unfold maxLen;omega) qo ?_;intro AA cc V3 ae Y ah;have aE:Fr (D::gj X) H V3:=al.trans Y (λq G=>.inl (by simp[a8 q G]));refine z _ _ aE ?_;clear z K O
     try simp only[qq]
     refine eW ⟨qk,?_⟩;simp only[qG,qH];obtain⟨V4,e3,c4,f4,bi,bg,ba⟩:=bp n V3 AA cc Y ae ah;have aF:Fr (D::gj X) H V4:=aE.trans f4 qs;have bs:=(L.out.1.fr0 aB.out).putR aF bi;have bY:=aB.out.size
     have be:Fr (D::gj U) Z0 V4:=L.out.2.1.trans ((aB.out.mono qs).then aF) (λq G=>by
      rcases List.mem_cons.1 G with h|h
      ·exact .inl (by simp[h])
      ·exact(L.out.2.2.1 q h).imp (λh=>by simp[h]) id)
     have bu:=L.out.2.1.size;have b0:=Q.size
     have bb:∀q∈gj e3,q∈gj U \/ Z0.heap.size<=q:=λq G=>by
      rcases ba q G with h|h
      ·exact L.out.2.2.1 q h
      ·exact .inr qo
     have bh:∀m,(gJ e3 m).length<=10*n+(i2+1):=λm=>by
      rw[bg];split
      ·rename_i bk
       rw[gG];have:=L.out.2.2.2 d.n;simp;omega
      ·have:=L.out.2.2.2 m;omega
     have aa:=Hd (An bs (An be (An bb bh)));clear bs be bb bh aF aE al f4 bi bg ba ae Y ah bp bm a8 n1 n2 Q f2 HSS bY bu b0
     go_wp2_with fail
     go_roundw
     case rel=>exact⟨i2+1,e3,qo,by go_num,aa.out.1,aa.out.2.1,aa.out.2.2.1,aa.out.2.2.2⟩
     case measure=>simp[intOf];omega
    ·obtain rfl:i2=Z:=qo
     go_wp2_with fail
     go_ret
     have cn:NoT sy Y4 (E::gj ew):=ai.out.1.noS.mem (by intro k l;rcases List.mem_cons.1 l with h|h <;> simp[VB,h]);have co:NoT sy Z0 (D::gj U):=F.out.1.noS.mem (by intro k l;rcases List.mem_cons.1 l with h|h <;> simp[VB,h]);have bS:Fr (VB b E D I P ew U) w wr:=F.out.2.2.2.2.trans L.out.2.1 (λk l=>.inl (by rcases List.mem_cons.1 l with h|h <;> simp[VB,h]));have ds:=ai.out.2.2.1.size;have bF:=F.out.2.2.2.2.size;have dt:=cb.out.size;have aq:=ai.out.2.2.2.2.2.1;have ar:=ai.out.2.2.2.2.1;have db:zs.map AX.a=S.map AX.a++[x.a]:=by rw[ar,List.map_append];rfl
     have c5:∀m,gJ N m=oz (zs.map AX.a) m:=λm=>by
      rw[F.out.2.2.2.1,db];unfold oz;rw[pk,List.length_map,t.out.2.1,Nat.zero_add,List.take_of_length_le (by rw[t.out.2.2.2.2.2.2.1];exact fV _)]
     refine⟨rfl,VB b E D A' K2 N X,⟨x.a,aY,yA,yc,yB,yd⟩,rfl,⟨pb,p2,E,D,A',c',K2,bH,bG,bI,N,X,b7,?_,rfl⟩,bS,λk l=>?_⟩
     ·rw[<-ar]
      refine⟨L.out.1,by rw[aq];exact aD.out.2.1,λy hy=>?_,J.out.base.frT bS J.out.s.noS,(ai.out.2.2.2.2.2.2.1.frT F.out.2.1 cn).frT L.out.2.1 co,?_,c5,λm=>?_,λm=>?_,?_⟩
      ·rw[ar]at hy
       rcases List.mem_append.1 hy with hy|hy
       ·exact(J.out.xok y hy).frT bS J.out.s.noS
       ·rw[gI]at hy
        rw[hy];exact(ai.out.2.2.2.1.frT F.out.2.1 cn).frT L.out.2.1 co
      ·have M:=a4.out.2.1
       have C:=J.out.nl;rw[t.out.2.1]at C;rw[aq];omega
      ·rw[F.out.2.2.2.1,gG,aq]
       have M:=J.out.wl m;rw[J.out.wr,t.out.2.1]at M
       have C:(i7 n m (x.a.w.take j)).length<=j:=by
        unfold i7;rw[List.length_map];have:=List.length_filter_le (λc=>decide (CH.n c=m)) (x.a.w.take j);rw[List.length_take]at this;omega
       omega
      ·have M:=L.out.2.2.2 m
       rw[aq];omega
      ·rw[ar]
       exact J.out.run.snoc t.out.2.2.2.1 ⟨t.out.2.2.1,t.out.2.2.2.2.1,HL.out.1,HL.out.2⟩ (by rw[t.out.2.1];exact dc)
     ·simp only[VB,List.mem_cons,List.mem_append]at l ⊢
      rcases l with h|h|h|h|h|h|h
      ·exact .inl (by simp[h])
      ·exact .inl (by simp[h])
      ·exact .inl (by simp[h])
      ·exact(ai.out.2.2.2.2.2.2.2 k h).imp (λh=>by simp[h]) id
      ·exact(aD.out.2.2.2 k h).imp (λh=>by simp[h]) (λh=>by omega)
      ·exact(F.out.2.2.1 k h).imp (λh=>by simp[h]) (λh=>by omega)
      ·exact(L.out.2.2.1 k h).imp (λh=>by simp[h]) (λh=>by omega)
theorem Ak{xs c:List AX}(h:xs.map AX.a=c.map AX.a)(a:AG):qj xs a=qj c a:=by
 have b:xs.getLast?.map AX.a=c.getLast?.map AX.a:=by rw[<-List.getLast?_map,<-List.getLast?_map,h]
 unfold qj
 cases e:xs.getLast? with
 | none =>
  cases d:c.getLast? with
  | none=>rfl
  | some y=>rw[e,d]at b;simp at b
 | some x =>
  cases d:c.getLast? with
  | none=>rw[e,d]at b;simp at b
  | some y =>
   rw[e,d]at b;simp only[Option.map_some,Option.some.injEq]at b;simp only[b]
theorem Run.congr{xs d:List AX}(j:xs.map AX.a=d.map AX.a)(h:Run xs):Run d:=by
 have t:xs.length=d.length:=by rw[<-List.length_map (f:=AX.a),j,List.length_map]
 have g:∀(i:Nat) (y:AX),d[i]?=some y->∃x:AX,xs[i]?=some x/\x.a=y.a:=λi y c=>by
  have b:(xs.map AX.a)[i]?=(d.map AX.a)[i]?:=by rw[j]
  rw[List.getElem?_map,List.getElem?_map,c]at b
  cases e:xs[i]? with
  | none=>rw[e]at b;simp at b
  | some x=>rw[e]at b;exact⟨x,rfl,by simpa using b⟩
 refine⟨λy c=>?_,λi y z c q=>?_,by have:=h.len;omega⟩
 ·obtain⟨i,n⟩:=List.mem_iff_getElem?.1 c
  obtain⟨x,e,k⟩:=g i y n;rw[<-k];exact h.wf x (iu e)
 ·obtain⟨r,o,l⟩:=g i y c
  obtain⟨s,p,m⟩:=g (i+1) z q;rw[<-l,<-m];exact h.inc i r s o p
theorem Run.take{xs:List AX}(h:Run xs)(n:Nat):Run (xs.take n):=by
 refine⟨λx a=>h.wf x (List.mem_of_mem_take a),λi x y a b=>?_,by rw[List.length_take];have:=h.len;omega⟩;rw[List.getElem?_take]at a b;split at a
 ·split at b
  ·exact h.inc i x y a b
  ·simp at b
 ·simp at a
theorem Run.ok{xs:List AX}(h:Run xs){i:Nat}{x:AX}(b:xs[i]?=some x):qj (xs.take i) x.a=true:=by
 have e:=(h.wf x (iu b)).1;have f:=(i9.1 b).1;unfold qj;rw[e,Bool.true_and]
 cases i with
 | zero=>simp
 | succ i =>
  have d:(xs.take (i+1)).getLast?=xs[i]?:=by
   rw[List.getLast?_eq_getElem?,List.length_take,List.getElem?_take,if_pos qo,show min (i+1) xs.length - 1=i by omega]
  rw[d];obtain⟨y,c⟩:∃y,xs[i]?=some y:=⟨_,gx qo⟩;rw[c];simp only[decide_eq_true_eq];exact h.inc i y x c b
theorem VG.fr0{w w':World}{b:Nat}{d:List AX}{M:List Nat}(h:VG w b d M)(a:Fr [] w w'):VG w' b d M:=by
 obtain⟨o,p,m,l,A,c,K,j,i,k,f,e,n,h,rfl⟩:=h;exact⟨o,p,m,l,A,c,K,j,i,k,f,e,n,⟨h.s.fr0 a,h.kl,λx g=>(h.xok x g).fr0 a,h.base.fr0 a,h.st.fr0 a,h.nl,h.wr,h.wl,h.rl,h.run⟩,rfl⟩
def EU(w:World)(l:List AG)(e:Ending)(w':World):Prop:=∃b M zs,e=.returned (.tuple #[.pointer (some ⟨b,0,none⟩),.int .i64 0])/\zs.map AX.a=l/\VG w' b zs M/\Fr [] w w'/\∀k∈M,w.heap.size<=k
theorem B5(p L c aq:Nat)(u:List AX)(w:World)(ah:Ok w)(R:SG w p [])(hL:ActL w L aq u)(X:Run u):
 Calls prog 42 #[.pointer (some ⟨p,0,none⟩),.slice (some ⟨L,0,none⟩) u.length c] w (EU w (u.map AX.a)):=by
 have af:=gm w 193;obtain⟨h,s⟩:=eR (w.alloc (.map #[] 0));have D:MapIs prog 31 h w.heap.size []:=by rw[<-s];exact MapIs.new w
 have ad:Fr [] w h:=by rw[<-s];exact(Fq [] w).alloc _
 have O:h.heap.size=w.heap.size+1:=by rw[<-s];simp
 rw[s]at af;have ag:=gm h 194;obtain⟨w2,I⟩:=eR (h.alloc (.map #[] 0));have E:MapIs prog 31 w2 h.heap.size []:=by rw[<-I];exact MapIs.new h
 have z:Fr [] h w2:=by rw[<-I];exact(Fq [] h).alloc _
 have am:w2.heap.size=h.heap.size+1:=by rw[<-I];simp
 rw[I]at ag;obtain⟨n,V⟩:=eR (u.length);have ar:=X.len;rw[V]at ar ⊢;have HZ:=Hd (An O am);have ao:=Hd (D.fr z qs);have ap:=Hd E;have P:=Hd (ad.then z);have o:=Hd (An R (An hL (An X V)));have aa:=Hd ah;clear s D ad I E z O am R hL X ah V
 go_enter func42,ntmps42
 go_upto_region 4 with fail
 obtain⟨w3,aj,G,C⟩:=kS w2 #[.pointer (some ⟨p,0,none⟩),.slice none 0 0,.slice none 0 0,.pointer (some ⟨p,0,none⟩),.map (some w.heap.size),.map (some h.heap.size)] 196;rw[aj];have D:=ao.out.fr C qs;have E:=ap.out.fr C qs;have Y:=HZ.out;clear aj af ag;obtain⟨mw,K⟩:=eR (w.heap.size);obtain⟨mr,U⟩:=eR (h.heap.size);obtain⟨b,T⟩:=eR (w2.heap.size);rw[K]at D G ⊢;rw[U]at E G ⊢;rw[T]at G ⊢;rw[U,K,T]at Y;have H:VG w3 b [] (VB b mw mr none none [] []):=⟨p,p,mw,mr,none,0,none,0,0,[],[],[],[],⟨⟨G,Own.nil _ _ _,Own.nil _ _ _,ML.nil D,ML.nil E,qo⟩,Nat.zero_le _,qs,o.out.1.fr0 (P.out.then C),o.out.1.fr0 (P.out.then C),qs,λm=>by simp[gJ,oz,mP],λm=>by simp[gJ],λm=>by simp[gJ],⟨qs,qs,qs⟩⟩,rfl⟩;have Q:=Hd (An H (An (P.out.then C) (An K Y)));clear D E Y G C H K U T
 go_wp2_with fail
 go_loopw [20] (λi W=>∃(j:Nat) (zs:List AX) (M:List Nat),j<=n/\i=j/\zs.map AX.a=(u.take j).map AX.a/\VG W b zs M/\Fr [] w W/\∀k∈M,w.heap.size<=k) (λi _=>n - (intOf i).toNat)
 case atStart=>exact⟨0,[],_,Nat.zero_le _,rfl,rfl,Q.out.1,Q.out.2.1,by
  have:=Q.out.2.2;intro k t;simp[VB,eV,gj]at t;omega⟩
 case round =>
  obtain⟨j,zs,M,hj,rfl,an,H,ae,hM⟩:=hrel;have g:=Hd (An an (An H (An ae hM)));clear an H ae hM
  by_cases aw:j<n
  ·have ax:(j:Int)<(n:Int):=qo
   obtain⟨x,l⟩:∃x,u[j]?=some x:=⟨_,gx (by rw[o.out.2.2.2];omega)⟩;have N:=o.out.2.2.1.wf x (iu l);have q:=o.out.2.1.fr0 g.out.2.2.1;have ak:=q.ok x (iu l);have av:zs.length=j:=by rw[<-List.length_map (f:=AX.a),g.out.1,List.length_map,List.length_take,o.out.2.2.2];omega
   have y0:wr.cell? ⟨L,j*6,none⟩=some (.int .i64 x.a.k.rnd):=q.c l 0 _ rfl;have y1:wr.cell? ⟨L,j*6+1,none⟩=some (.int .i64 x.a.k.phase):=q.c l 1 _ rfl;have y2:wr.cell? ⟨L,j*6+2,none⟩=some (.int .i64 x.a.k.idx):=q.c l 2 _ rfl;have y3:wr.cell? ⟨L,j*6+3,none⟩=some (.string x.sl):=q.c l 3 _ rfl;have y4:wr.cell? ⟨L,j*6+4,none⟩=some (.slice x.A x.a.r.length x.c):=q.c l 4 _ rfl;have y5:wr.cell? ⟨L,j*6+5,none⟩=some (.slice x.B x.a.w.length x.d):=q.c l 5 _ rfl;obtain⟨Z,s,O,n1,F⟩:=il wr #[.int .i64 x.a.k.rnd,.int .i64 x.a.k.phase,.int .i64 x.a.k.idx,.string x.sl,.slice x.A x.a.r.length x.c,.slice x.B x.a.w.length x.d] 91 wr.heap.size;have au:=aa.out.low;have S:Calls prog 98 #[.pointer (some ⟨b,0,none⟩),x.v] Z (B3 zs x.a M b Z):=Aj b zs M x Z (g.out.2.1.fr0 F) (aa.out.fr0 (g.out.2.2.1.then F)) (λk t=>by have:=g.out.2.2.2 k t;omega) (ak.fr0 F) (by rw[Ak g.out.1];exact o.out.2.2.1.ok l) N.2.1 N.2.2.1 N.2.2.2 qo;unfold AX.v AG.val at S;have HC:=Hd S;have HX:=Hd l;clear q ak N l S av au
   go_upto_region 7 with fail
   try rw[s]
   clear y0 y1 y2 y3 y4 y5;obtain⟨x0,x1,x2,x3,x4,x5⟩:=n1.m6;have ab:=Hd F;clear s n1 F O
   go_wp2_with ((go_at_call 98;(with_reducible refine HC.out.mono ?_);rintro e v2 ⟨rfl,M2,y,al,ai,z,ac⟩;have J:=Hd (An al (An ai (An z ac)));clear al ai z ac))
   go_roundw
   case rel =>
    have az:=g.out.2.2.1.size;have ay:=ab.out.size;exact⟨j+1,zs++[y],M2,qo,by go_num,by rw[List.map_append,g.out.1,List.take_add_one,HX.out,List.map_append];simp[J.out.1],J.out.2.1,(g.out.2.2.1.then ab.out).trans J.out.2.2.1 (λk t=>.inr (g.out.2.2.2 k t)),λk t=>(J.out.2.2.2 k t).elim (g.out.2.2.2 k) (λR=>by omega)⟩
   case measure=>simp[intOf];omega
  ·obtain rfl:j=n:=qo
   go_wp2_with fail
   go_ret2
   exact⟨b,M,zs,rfl,by rw[g.out.1,List.take_of_length_le (by rw[o.out.2.2.2];exact fV _)],g.out.2.1,g.out.2.2.1,g.out.2.2.2⟩
structure VZ where
 i:Int
 v:Nm
 a:Bool
def VZ.cs(x:VZ):List Value:=[.int .i64 x.i,ft x.v,.bool x.a]
def FE(x:VX):VZ:=⟨x.i,x.v,x.a⟩
def z0:VZ:=⟨-1,[],true⟩
def AS(l:List AG)(n:ON):List VZ:=z0::(oz l n).map FE
theorem EV(x:VZ):x.cs.length=3:=rfl
theorem DA{P:Program}(w:World)(t ty e:TypeId)(i:TypeInfo)(z:Value)(d:P.underlying t=some (.slice e))(a:P.info? e=some i)(f:i.zero=some z)(g n c:Nat)(b:n<=c)(h:n<=1000000):
 (Builtin.append_ #[t,t] ty #[.slice (some ⟨g,0,none⟩) n c,.slice none 0 0]).run P w=.ok (.slice (some ⟨g,0,none⟩) n c) w:=by
 simp[Builtin.append_,run_underlying d,sizeOf,typeInfo,zeroValue,a,f,Builtin.lenOf,b,run_firstCells_none,storeCells,Result.andThen]
theorem Own.new1(w:World)(e:TypeId)(b n:Nat)(cs:List Value)(a:cs.length=n*b)(c:n<=maxLen):Own (w.alloc (.cells cs.toArray e)) e b (some ⟨w.heap.size,0,none⟩) n n cs :=
 ⟨a,.inr ⟨w.heap.size,n,cs.toArray,rfl,Nat.zero_le _,World.alloc_heap_new w _,fV _,c,by simpa using a,by rw[<-a];simp⟩⟩
theorem FF(b:Nat)(a:List AX)(M:List Nat)(w:World)(h:VG w b a M):Calls prog 99 #[.pointer (some ⟨b,0,none⟩)] w λe w'=>e=.returned (.int .i64 (a.length:Int))/\w=w':=by
 obtain⟨f,q,o,n,A,c,K,l,k,m,j,i,p,h,rfl⟩:=h;obtain⟨g,r⟩:=h.s.box.m2;have d:=Hd (o9 b f w g);clear h
 go_enter func99,ntmps99
 go_wp2_with ((go_at_call 157;(with_reducible refine d.out.mono ?_);rintro e w' ⟨rfl,rfl⟩))
 go_ret
 exact⟨rfl,rfl⟩
theorem DC(b:Nat)(ys:List AX)(T:List Nat)(n:ON)(w:World)(h:VG w b ys T)(a:eX n=0):Calls prog 192 #[.pointer (some ⟨b,0,none⟩),fg n] w (fm w (.agg #[.int .i64 (-1),.string ⟨#[]⟩,.bool true])):=by
 obtain⟨J,pl,mw,mr,aa,c,K,kk,ab,ks,ew,er,ns,h,rfl⟩:=h;obtain⟨L,G,_,_⟩:=eT n.owner;obtain⟨M,H,_,_⟩:=eT n.text;have A:=gc G H;obtain⟨g,r,E,B⟩:=kS w #[n.kind,L,n.number,n.index,M] 31;have I:g.heap.size=w.heap.size+1:=by rw[<-r];simp
 obtain⟨w2,l⟩:=eR (g.alloc (.cells #[L0,S0,.bool false] 201));have F:BoxN w2 (w.heap.size+1) 201 #[L0,S0,.bool false]:=by rw[<-l,<-I];exact BoxN.new g _ _
 have q:Fr [] g w2:=by rw[<-l];exact(Fq [] g).alloc _
 have k:=B.then q;have p:=λ(W:World) (hW:Fr [] w2 W)=>En J [] n W (h.base.fr0 (k.then hW)) a;rw[A]at p ⊢
 have x:∀W,Fr [] w2 W->W.cell? ⟨b,0,none⟩=some (.pointer J)/\W.cell? ⟨w.heap.size,0,none⟩=some n.kind/\W.cell? ⟨w.heap.size,1,none⟩=some L/\W.cell? ⟨w.heap.size,2,none⟩=some n.number/\W.cell? ⟨w.heap.size,3,none⟩=some n.index/\W.cell? ⟨w.heap.size,4,none⟩=some M:=λW hW=>by
  have Z:=h.s.box.fr (k.then hW) qs;have d:=E.fr (q.then hW) qs;exact⟨Z.c 0,d.c 0,d.c 1,d.c 2,d.c 3,d.c 4⟩
 have t:=Hd p;have HSS:=Hd x;have S:=Hd F;have P:=Hd k;have u:=Hd (An r l);clear p x F k r l E B I q h A G H a
 go_enter func192,ntmps192
 go_upto_region 1 with fail
 rw[u.out.1,u.out.2];have o:=(Fq [] w2).drew;refine eZ (λW:World=>Fr [] w2 W) 10 qk ?_ qd
 show fb 0 ..
 iterate 5 (refine gB rfl ?_;try simp only[qq])
 refine hO (i:=5) rfl λK y=>?_;go_simp
 go_at_call 40
 (with_reducible refine(t.out _ o).mono ?_);rintro e w4 ⟨sv,fv,rfl,_,Y,C⟩;obtain⟨rfl,rfl⟩:=Y rfl;have j:=o.then C;refine y _ _ j ?_;clear y K o C
 try simp only[qq]
 show fb 6 ..
 iterate 4 (refine gB rfl ?_;try simp only[qq])
 refine eW ⟨qk,?_⟩;simp only[qG,qH];have a:=S.out.fr j qs;obtain⟨u0,u1,u2⟩:=a.m3;have U:=a.f 0;have V:=a.f 1;have X:=a.f 2;have R:=Hd a;have O:=Hd (P.out.then j);clear a j HSS t
 go_wp2_with fail
 obtain⟨N,m⟩:=eR (((w4.setCell ⟨w.heap.size+1,0,none⟩ (.int .i64 (-1))).setCell ⟨w.heap.size+1,1,none⟩ S0).setCell ⟨w.heap.size+1,2,none⟩ (.bool true));have z:BoxN N (w.heap.size+1) 201 #[.int .i64 (-1),S0,.bool true]:=by rw[<-m];exact(((R.out.setAt 0 _).setAt 1 _).setAt 2 _)
 have D:Fr [] w N:=by rw[<-m];exact((O.out.set (.inr qs) _).set (.inr qs) _).set (.inr qs) _
 obtain⟨t0,t1,t2⟩:=z.m3;have Q:=Hd D;rw[m];clear m z D u0 u1 u2 U V X;exact bodyPost_ret (v:=.agg #[.int .i64 (-1),S0,.bool true]) (by simp[results,results192,go_sem,t0,t1,t2]) rfl ⟨rfl,Q.out⟩
def Ca(w:World)(l:List VZ)(e:Ending)(w':World):Prop:=∃g c,e=.returned (.slice (some ⟨g,0,none⟩) l.length c)/\Cs w' g (l.flatMap VZ.cs)/\Fr [] w w'/\w.heap.size<=g
theorem Gm(l:List VX):l.flatMap VX.cs=(l.map FE).flatMap VZ.cs:=by rw[List.flatMap_map];rfl
theorem Gn(b:Nat)(y:List AX)(O:List Nat)(n:ON)(w:World)(h:VG w b y O)(E:eX n=0):Calls prog 162 #[.pointer (some ⟨b,0,none⟩),fg n] w (Ca w (AS (y.map AX.a) n)):=by
 have C:∀W,Fr [] w W->Calls prog 192 #[.pointer (some ⟨b,0,none⟩),fg n] W (fm W (.agg #[.int .i64 (-1),.string ⟨#[]⟩,.bool true])):=λW hW=>DC b y O n W (h.fr0 hW) E;obtain⟨pb,pl,mw,mr,aG,c,K,kk,aJ,ks,ew,er,ns,h,rfl⟩:=h;obtain⟨G,aj,_,_⟩:=eT n.owner;obtain⟨H,ak,_,_⟩:=eT n.text;have Y:=gc aj ak;obtain⟨kl,ac⟩:=fU E;obtain⟨J,z,m,t,_⟩:=ML.look ir iA underlying193 sV h.s.wm n ac;have F:=h.wl n;have aB:=h.run.len;rw[h.wr]at m t F;unfold Ca AS;obtain⟨vs,al⟩:=eR (oz (y.map AX.a) n);rw[al]at m t F ⊢;have ad:(z0::vs.map FE).flatMap VZ.cs=[.int .i64 (-1),.string ⟨#[]⟩,.bool true]++vs.flatMap VX.cs:=by rw[List.flatMap_cons,<-Gm];rfl
 have ae:(z0::vs.map FE).length=1+vs.length:=by simp;omega
 rw[ae];rw[ad];rw[Y]at C m ⊢;obtain⟨p,am,af,j⟩:=kS w #[n.kind,G,n.number,n.index,H] 31
 have V:∀W,Fr [] p W->(W.cell? ⟨b,4,none⟩=some (.map (some mw))/\(Instr.lookup 193 (.map (some mw)) (.agg #[n.kind,G,n.number,n.index,H]) false).run prog W=.ok (.slice J vs.length z) W)/\W.cell? ⟨w.heap.size,0,none⟩=some n.kind/\W.cell? ⟨w.heap.size,1,none⟩=some G/\W.cell? ⟨w.heap.size,2,none⟩=some n.number/\W.cell? ⟨w.heap.size,3,none⟩=some n.index/\W.cell? ⟨w.heap.size,4,none⟩=some H:=λW hW=>by
  have k1:=h.s.box.fr (j.then hW) qs;have o:=af.fr hW qs;exact⟨⟨k1.c 4,m W ((j.then hW).block _ h.s.wm.map.lt qs)⟩,o.c 0,o.c 1,o.c 2,o.c 3,o.c 4⟩
 have x0:=(h.s.box.fr j qs).c 0;have HN:=Hd (o9 b pb p x0);have M:=Hd (λ(W:World) (hW:Fr [] p W)=>C W (j.then hW));have HSS:=Hd V;have L:=Hd j;have av:=Hd am;have aq:=Hd t;have aH:vs.length<=120:=qo
 clear C h am af j ac V m t F aB al Y aj ak E ad ae
 go_enter func162,ntmps162
 go_upto_region 1 with fail
 rw[av.out]
 go_upto_region 3 with((go_at_call 157;(with_reducible refine HN.out.mono ?_);rintro e w' ⟨rfl,rfl⟩))
 have A:=(Fq [] p).drew;refine eZ (λW:World=>Fr [] p W) 10 qk ?_ qd
 show fb 0 ..
 iterate 2 (refine gB rfl ?_;try simp only[qq])
 show fb 4 ..
 iterate 6 (refine gB rfl ?_;try simp only[qq])
 refine hO (i:=2) rfl λK l=>?_;go_simp
 go_at_call 192
 (with_reducible refine(M.out _ A).mono ?_);rintro e f ⟨rfl,Z⟩;have r:=A.then Z;refine l _ _ r ?_;clear l K A Z
 try simp only[qq]
 refine hO (i:=3) rfl λK l=>?_;go_simp
 obtain⟨I,v⟩:=eR (f.alloc (.cells #[.int .i64 (-1),S0,.bool true] 201));have ag:Own I 201 3 (some ⟨f.heap.size,0,none⟩) 1 1 [.int .i64 (-1),S0,.bool true]:=by rw[<-v];exact Own.new1 f _ 3 1 _ rfl (by unfold maxLen;omega)
 have aa:Fr [] f I:=by rw[<-v];exact(Fq [] f).alloc _
 rw[v];have B:=r.then aa;refine l _ _ B ?_;clear l K v
 try simp only[qq]
 refine eW ⟨qk,?_⟩;simp only[qG,qH];have N:=Hd ag;have q:=Hd (L.out.then B);have aw:=Hd (An r.size L.out.size);have k:=Hd (aq.out.fr q.out qs);clear ag B r aa HSS M;obtain⟨jj,aA,aD,aE,aF⟩:=uX;have hz:=aw.out;have aI:=q.out.size
 cases J with
 | none =>
  have aC:vs=[]:=by
   rcases k.out.2 with⟨_,T⟩|⟨g,P,Q,d,_⟩
   ·exact List.eq_nil_of_length_eq_zero T
   ·injection d with d;cases d
  subst aC
  have ay:z=0:=by
   rcases k.out.2 with⟨d,T⟩|⟨g,P,Q,d,_⟩
   ·injection d
   ·injection d with d;cases d
  subst ay
  go_wp2_with fail
  go_ret
  have D:=Cs.of_own N.out qo;obtain⟨g,hg,D⟩:=D
  cases hg
  refine⟨f.heap.size,1,rfl,by simpa using D,q.out,qo⟩
 | some ax =>
  obtain⟨R,rfl⟩:∃g,ax=⟨g,0,none⟩:=by
   rcases k.out.2 with⟨d,_⟩|⟨g,P,Q,d,_⟩
   ·injection d with d;cases d
   ·injection d with d;injection d with d;exact⟨g,d⟩
  have ai:∀u∈vs.flatMap VX.cs,u.oneCell'=true:=λu hu=>by
   obtain⟨x,_,hx⟩:=List.mem_flatMap.1 hu;exact BI x u hx
  have au:=Hd ai;have X:=World.ownsRow.cells k.out (g:=R) rfl;have ao:=Hd X;clear X;clear ai
  go_wp2_with (at_builtin;(with_reducible refine kF (w:=I) rfl (.tmp 10) (.tmp 16) 280 rfl 201 jj _ 3 32 underlying280 aA aD aE aF rfl qd (some ⟨f.heap.size,0,none⟩) 1 1 [.int .i64 (-1),S0,.bool true] rfl N.out ⟨R,0,none⟩ vs.length z (vs.flatMap VX.cs) rfl k.out.len ao.out au.out (by unfold maxLen;omega) qo ?_);intro A6 c6 w6 ah ab U;have ar:=Hd ah;have ap:=Hd ab;have an:=Hd U;clear ah ab U)
  go_ret
  obtain⟨S,rfl,az⟩:=Cs.of_own ar.out qo;refine⟨S,c6,rfl,az,q.out.trans ap.out (by simp[eV];omega),?_⟩
  rcases an.out S (by simp[eV])with h|h
  ·simp[eV]at h;omega
  ·omega
end Go.Proofs.YtlpmiimgacfmkaaGreatDoor
