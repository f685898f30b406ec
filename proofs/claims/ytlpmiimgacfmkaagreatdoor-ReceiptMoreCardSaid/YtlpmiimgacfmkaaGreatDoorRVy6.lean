/- Part of the proof. -/
import Derived.Test.YtlpmiimgacfmkaaGreatDoorRVz2
set_option linter.all false
set_option maxHeartbeats 16000000
set_option maxRecDepth 100000
namespace Go.Proofs.YtlpmiimgacfmkaaGreatDoor
open Go.Proofs.Tryz
open Go.RowKit Go.Shelf
def jX(xs:List Nat):List Value:=xs.map λi:Nat=>.int .i64 (i:Int)
theorem tp{a:AG}(h:mN a=true):∀x∈a.r,eX x.n=0/\x.v.length<=65536:=λx b=>iR (gC (gr h).1 x b)
theorem kE{a:AG}(h:mN a=true):∀x∈a.w,eX x.n=0/\x.v.length<=65536:=λx b=>iR (gC (gr h).2 x b)
def Ev(c:Nat)(h i k n:Value)(o:Option LS)(w:World)(e:Ending)(w':World):Prop:=match o with
 | none=>e=.returned (.tuple #[.map none,.int .i64 10])/\Fr [c] w w'
 | some s=>∃(d g f:Nat) (b a:Option Addr) (l:List CH),e=.returned (.tuple #[.map (some d),.int .i64 0])/\BoxN w' c 64 #[h,i,k,n,.slice b s.lks.length g,.slice a l.length f]/\Rd w' 7 b s.lks.length (s.lks.flatMap LK.cs)/\Rd w' 7 a l.length (l.flatMap CH.cs)/\kP s.asm l/\(∃es,MM 3 (λm:Nat=>.int .i64 (m:Int)) (λ_:Unit=>.bool true) w' d es/\∀j,iM es j=if j∈s.used then some ()else none)/\Fr [c] w w'
theorem oP(l:List AG)(c:List Nat)(i:Nat):∀(r:List CH) (b s:LS),j7 l c i r b=some s->s.lks.length=b.lks.length+r.length
 | [],b,s,h=>by rw[j7]at h;rw[<-Option.some.inj h];rfl
 | x::r,b,s,h=>by
  rw[j7]at h;obtain⟨f,a,d⟩:=Option.bind_eq_some_iff.1 h;have e:=oP l c i r f s d;rw[lm]at a;split at a
  ·cases a
  ·rw[e,<-Option.some.inj a]
   simp;omega
theorem mi{l:List AG}{c:List Nat}(b:∀a∈l,a.r.length<=10):∀ {i:Nat} {s:LS},i6 l c i=some s->s.lks.length<=10*i
 | 0,s,h=>by rw[i6]at h;rw[<-Option.some.inj h];simp[xH]
 | i+1,s,h=>by
  rw[i6]at h;obtain⟨j,d,e⟩:=Option.bind_eq_some_iff.1 h;have k:=mi b d;have f:=oP l c i _ j s e;rw[f]
  cases g:l[i]? with
  | none=>simp;omega
  | some a =>
   have:=b a (iu g);simp only;omega
def Ax(l:List AG)(i:Nat)(a:List CH)(n:ON):Option (Nat × CH):=match nA a n with
 | some c=>some (i,c)
 | none=>gM l i n
theorem Cn(l:List AG)(i:Nat):∀n,gM l i n=Ax l i [] n:=λ_=>rfl
theorem Co{l:List AG}{i:Nat}{a:AG}(h:l[i]?=some a):∀n,Ax l i a.w n=gM l (i+1) n:=λn=>by rw[gM,h];rfl
theorem Cp{l:List AG}{i j:Nat}{c:List CH}{x:CH}(q:c.Pairwise λa b=>fW a.n b.n<0)(g:c[j]?=some x):∀n,(if x.n=n then some (i,x)else Ax l i (c.take j) n)=Ax l i (c.take (j+1)) n:=λn=>by
 have p:∀y∈c.take j,y.n≠x.n:=λy d f=>by
  obtain⟨k,o,rfl⟩:=List.getElem_of_mem d;have m:=i9.1 g;rw[List.length_take]at o;have e:=List.pairwise_iff_getElem.1 q k j qo m.1 qo;rw[m.2]at e;rw[List.getElem_take]at f;rw[f,mE]at e;omega
 unfold Ax nA;rw[List.take_add_one,g,List.find?_append]
 by_cases h:x.n=n
 ·subst h
  rw[if_pos rfl,List.find?_eq_none.2 (λy d=>by simpa using p y d)];simp
 ·rw[if_neg h]
  have:([x]:List CH).find? (λx=>decide (x.n=n))=none:=by simp[h]
  simp only[Option.toList_some,this,Option.or_none]
theorem vT{n:ON}{f:Int}{t:Nat}{a b c d e:Value}(h:fg n=.agg #[a,b,c,d,e]):(⟨f,t,n⟩:LK).cs=[.int .i64 f,.int .i64 (t:Int),a,b,c,d,e]:=by
 unfold fg at h;simp only[Value.agg.injEq,Array.mk.injEq,List.cons.injEq,and_true]at h;obtain⟨rfl,rfl,rfl,rfl,rfl⟩:=h;rfl
theorem jH(y:CH):∃(b:Int) (d:ByteArray) (c g:Int) (e f:ByteArray) (a:Bool),y.cs=[.int .i64 b,.string d,.int .i64 c,.int .i64 g,.string e,.string f,.bool a]:=⟨_,_,_,_,_,_,_,rfl⟩
theorem Cq(u:World):(zeroValue 243).run prog u=.ok (vR (0,xK)) u:=by simp[go_sem,vR,xK,CH.cs,ft]
theorem E4(c m ic ct ib:Nat)(v0 v1 v3:Value)(D:List Nat)(bt:Option Addr)(ys:List AX)(R:List AG)(w:World)(a8:BoxN w c 64 #[v0,v1,.slice (some ⟨ib,0,none⟩) m ic,v3,.slice none 0 0,.slice none 0 0])
 (ba:Cs w ib (jX D)) (c9:ib≠c) (a7:ActO w bt m ct ys) (aU:ys.map AX.a=R) (dI:∀a∈R,mN a=true/\a.r.length<=10/\a.w.length<=10) (db:D.length=m) (cX:D.Pairwise (·<·)) (o:m<=12) :
 Calls prog 65 #[.pointer (some ⟨c,0,none⟩),.slice bt m ct] w (Ev c v0 v1 (.slice (some ⟨ib,0,none⟩) m ic) v3 (i6 R D m) w):=by
 have cP:∀W,Fr [c] w W->ActO W bt m ct ys/\Cs W ib (jX D):=λW hW=>by
  have ds:NoT (91::sy) w [c]:=NoT.box a8 qd;exact⟨⟨a7.own.frT hW ds qs,λy hy=>(a7.each y hy).frT hW (ds.sub (λt ht=>List.mem_cons_of_mem _ ht)),a7.len⟩,ba.fr hW (by simpa using c9)⟩
 have dl:=gm w 143;obtain⟨w1,bf⟩:=eR (w.alloc (.map #[] 0));have dg:MapIs prog 3 w1 w.heap.size []:=by rw[<-bf];exact MapIs.new w
 have aG:Fr [] w w1:=by rw[<-bf];exact(Fq [] w).alloc _
 have eD:w1.heap.size=w.heap.size+1:=by rw[<-bf];simp
 rw[bf]at dl;have dm:=gm w1 241;obtain⟨w2,bg⟩:=eR (w1.alloc (.map #[] 0));have dh:MapIs prog 31 w2 w1.heap.size []:=by rw[<-bg];exact MapIs.new w1
 have au:Fr [] w1 w2:=by rw[<-bg];exact(Fq [] w1).alloc _
 have eE:w2.heap.size=w1.heap.size+1:=by rw[<-bg];simp
 rw[bg]at dm;have dn:=gm w2 149;obtain⟨w3,bh⟩:=eR (w2.alloc (.map #[] 0));have di:MapIs prog 31 w3 w2.heap.size []:=by rw[<-bh];exact MapIs.new w2
 have bB:Fr [] w2 w3:=by rw[<-bh];exact(Fq [] w2).alloc _
 have cq:w3.heap.size=w2.heap.size+1:=by rw[<-bh];simp
 rw[bh]at dn;have b8:=(aG.then au).then bB;obtain⟨v2,cl⟩:=eR (Value.slice (some ⟨ib,0,none⟩) m ic);rw[cl]at a8 ⊢;have ax:Hid (LIg w w3 c w.heap.size w1.heap.size w2.heap.size v0 v1 v2 v3 none 0 xH (gM R 0)):=Hd ⟨a8.fr b8 qs,Own.nil _ _ _,⟨[],MM.nil ((dg.fr au qs).fr bB qs),λj=>by simp[iM,xH]⟩,⟨[],MM.nil (dh.fr bB qs),λn=>rfl⟩,⟨[],MM.nil di,λn=>rfl,qs⟩,⟨a8.lt,fV _,qo,qo⟩,by simp[eV],b8.mono qs⟩;have aW:=Hd cP;have V:=Hd (An aU (An dI (An db a7.len)));have cA:=Hd cl;have dV:=Hd cX;clear bf bg bh dg dh di aG au bB eD eE cq a8 ba c9 a7 aU dI db b8 cP cl cX
 go_enter func65,ntmps65
 go_upto_region 4 with fail
 clear dl dm dn;obtain⟨mu,dq⟩:=eR (w.heap.size);obtain⟨ms,dp⟩:=eR (w1.heap.size);obtain⟨ma,dj⟩:=eR (w2.heap.size);rw[dq,dp,dj]at ax ⊢;clear dq dp dj
 go_wp2_with fail
 go_loopw [27] (λi W=>∃(j Y:Nat) (b:Option Addr) (s:LS),j<=m/\i=.int .i64 (j:Int)/\LIg w W c mu ms ma v0 v1 v2 v3 b Y s (gM R j)/\i6 R D j=some s) (λi _=>m - (intOf i).toNat)
 case atStart=>exact⟨0,0,none,xH,Nat.zero_le _,rfl,ax.out,rfl⟩
 case round =>
  obtain⟨i,Y,b,s,hi,rfl,ad,dC⟩:=hrel;have Z:=Hd ad;have ay:=Hd dC;clear ad dC
  by_cases df:i<m
  ·have eK:(i:Int)<(m:Int):=qo
   obtain⟨b0,_⟩:=aW.out wr Z.out.fr;have aD:Row wr wr.heap.size 6 bt m (ys.flatMap AX.cs):=by have h:=b0.own.rd;unfold Rd at h;exact h
   obtain⟨g,off,rfl,ev,az⟩:=fo jV aD qo;obtain⟨y,hy⟩:∃x,ys[i]?=some x:=⟨_,gx (by rw[b0.len];exact df)⟩;have co:R[i]?=some y.a:=by rw[<-V.out.1,List.getElem?_map,hy];rfl
   obtain⟨dJ,ch,cm⟩:=V.out.2.1 y.a (iu co);have ac:=az i y hy;have ak:=Hd (An co (An dJ (An (λW (hW:Fr [c] w W)=>(aW.out W hW).1.each y (iu hy)) (An ch cm))));obtain⟨ti,dF⟩:=eR (y.a.k.rnd);obtain⟨ph,dv⟩:=eR (y.a.k.phase);obtain⟨ix,ba⟩:=eR (y.a.k.idx);obtain⟨cu,dD⟩:=eR (y.sl);obtain⟨RA,bV⟩:=eR (y.A);obtain⟨WA,bX⟩:=eR (y.B);obtain⟨rc,dx⟩:=eR (y.c);obtain⟨cv,dH⟩:=eR (y.d);obtain⟨nr,cc⟩:=eR (y.a.r.length);obtain⟨nw,cd⟩:=eR (y.a.w.length);unfold AX.cs at ac;rw[dF,dv,ba,dD,bV,bX,dx,dH,cc,cd]at ac;have al:=Hd (An bV (An bX (An cc cd)));obtain⟨eH,z1,z2,z3,z4,z5⟩:=F7 ac;obtain⟨u1,dG,eG,nR,cD⟩:=il wr #[.int .i64 ti,.int .i64 ph,.int .i64 ix,.string cu,.slice RA nr rc,.slice WA nw cv] 91 wr.heap.size;have aQ:=Z.out.young;clear ac az aD b0 hy co dJ ch cm dF dv ba dD bV bX dx dH cc cd eG
   go_upto_region 7 with fail
   try rw[dG]
   clear eH z1 z2 z3 z4 z5 ev dG;obtain⟨aX,hR⟩:=eR (wr.heap.size);rw[hR]at nR aQ ⊢;have bp:=Hd (Z.out.fr0 cD);have bs:=Hd (An nR aQ);clear cD nR aQ hR;have r4:=bs.out.1.k4
   go_wp2_with fail
   clear r4;have ch:nr<=10:=by rw[<-al.out.2.2.1];exact ak.out.2.2.2.1
   have cm:nw<=10:=by rw[<-al.out.2.2.2];exact ak.out.2.2.2.2
   go_loopw [35] (λk W=>∃(j Y:Nat) (b:Option Addr) (N:LS),j<=nr/\k=.int .i64 (j:Int)/\LIg w W c mu ms ma v0 v1 v2 v3 b Y N (gM R i)/\j7 R D i (y.a.r.take j) s=some N/\BoxN W aX 91 #[.int .i64 ti,.int .i64 ph,.int .i64 ix,.string cu,.slice RA nr rc,.slice WA nw cv]) (λk _=>nr - (intOf k).toNat)
   case atStart=>exact⟨0,Y,b,s,Nat.zero_le _,rfl,bp.out,rfl,bs.out.1⟩
   case round =>
    obtain⟨j,Y,b,N,hj,rfl,ad,dB,cN⟩:=hrel;have Z:=Hd ad;have aM:=Hd (An dB cN);clear ad dB cN
    by_cases ex:j<nr
    ·have ez:(j:Int)<(nr:Int):=qo
     have bj:=ak.out.2.2.1 wr Z.out.fr;have aD:Row wr wr.heap.size 7 RA nr (y.a.r.flatMap CH.cs):=by have h:=bj.chr;unfold Chs Rd at h;rw[al.out.1,al.out.2.2.1]at h;exact h
     obtain⟨cB,cC,rfl,b1,az⟩:=fo ip aD qo;obtain⟨x,hx⟩:∃x,y.a.r[j]?=some x:=⟨_,gx (by rw[al.out.2.2.1];exact ex)⟩;obtain⟨bi,bF⟩:=tp ak.out.2.1 x (iu hx);have ac:=az j x hx;obtain⟨ap,da⟩:∃q,D[i]?=some q:=⟨_,gx (by rw[V.out.2.2.1];exact df)⟩;have HX:=Hd (An hx (An bi (An bF da)));have dW:=Hd (show fg x.n=fg x.n/\lG x=lG x from⟨rfl,rfl⟩);obtain⟨F,aB⟩:=eR (x.n.kind);obtain⟨G,aC⟩:=eR (x.n.number);obtain⟨J,aE⟩:=eR (x.n.index);obtain⟨ag,aO⟩:=eR (x.a);obtain⟨H,ae,_,_⟩:=eT x.n.owner;obtain⟨I,L,_,_⟩:=eT x.n.text;obtain⟨sv,aT,_,_⟩:=eT x.v;have ao:fg x.n=.agg #[.int .i64 F,.string H,.int .i64 G,.int .i64 J,.string I]:=by unfold fg;rw[aB,aC,aE,ae,L]
     have c0:lG x=.agg #[.int .i64 F,.string H,.int .i64 G,.int .i64 J,.string I,.string sv,.bool ag]:=by unfold lG CH.cs;rw[aB,aC,aE,ae,L,aT,aO]
     have aI:=Hd (An ao c0);unfold CH.cs at ac;rw[aB,aC,aE,ae,L,aT,aO]at ac;obtain⟨y0,y1,y2,y3,y4,y5,y6⟩:=AR ac;obtain⟨D0,cF,bk,n0,f0⟩:=il wr #[.int .i64 F,.string H,.int .i64 G,.int .i64 J,.string I,.string sv,.bool ag] 95 wr.heap.size;have cb:=Z.out.young;clear ac az aD bj hx bi bF da aB aC aE aO ae L aT ao c0 bk dW
     go_upto_region 10 with fail
     try rw[cF]
     clear y0 y1 y2 y3 y4 y5 y6 b1 cF;obtain⟨aw,hD⟩:=eR (wr.heap.size);have bz:aX<wr.heap.size:=aM.out.2.lt;have eq:aw ∉ eV b:=λo=>by have:=Z.out.own.lt _ o;omega
     have er:=bz;rw[hD]at n0 cb bz ⊢;have ax:=Hd (Z.out.fr0 f0);have af:=Hd (An n0 (An cb (An (aM.out.2.fr f0 qs) bz)));have ew:=(aW.out D0 ax.out.fr).2;have aA:(jX D)[i]?=some (.int .i64 (ap:Int)):=by unfold jX;rw[List.getElem?_map,HX.out.2.2.2];rfl
     have HSS:=Hd (λ(W:World) (hW:Fr [] D0 W)=>(⟨(ax.out.box.fr hW qs).c 2,((aW.out _ (ax.out.fr0 hW).fr).2).2 i _ aA,(af.out.1.fr hW qs).c 0,(af.out.1.fr hW qs).c 1,(af.out.1.fr hW qs).c 2,(af.out.1.fr hW qs).c 3,(af.out.1.fr hW qs).c 4⟩:W.cell? ⟨c,2,none⟩=some v2/\W.cell? ⟨ib,i,none⟩=some (.int .i64 (ap:Int))/\W.cell? ⟨aw,0,none⟩=some (.int .i64 F)/\W.cell? ⟨aw,1,none⟩=some (.string H)/\W.cell? ⟨aw,2,none⟩=some (.int .i64 G)/\W.cell? ⟨aw,3,none⟩=some (.int .i64 J)/\W.cell? ⟨aw,4,none⟩=some (.string I)));rw[<-cA.out]at HSS;have eO:IntKind.i64.wrap (i:Int)=(i:Int):=by simp[IntKind.wrap,IntKind.bits,IntKind.signed];omega
     have S:Fr [] D0 D0.drew:=(Fq _ D0).drew;clear n0 f0 cb bz hD ew aA er;refine eZ (λW=>Fr [] D0 W) 11 qk ?_ qd
     show fb 0 ..
     iterate 10 (refine gB rfl ?_;try simp only[qq])
     refine hO (i:=10) rfl λaq hK=>?_;go_simp
     obtain⟨D1,cG,M,f1⟩:=sf D0 #[.int .i64 0,.int .i64 0,.int .i64 0,.string ⟨#[]⟩,.int .i64 0,.int .i64 0,.string ⟨#[]⟩] 98;rw[cG];refine hK _ _ f1 ?_;clear hK aq S cG HSS
     try simp only[qq]
     refine eW ⟨qk,?_⟩;simp only[qG,qH];obtain⟨Q,cV⟩:=eR (D0.heap.size);have bR:aw<D0.heap.size:=af.out.1.lt;have bS:∀q∈eV b,q<D0.heap.size:=ax.out.own.lt;rw[cV]at M bR bS ⊢;have bp:=Hd (ax.out.fr0 f1);have HO:=Hd (An af.out.2.1 (An bR (An af.out.2.2.2 (An (show Q ∉ eV b from λo=>Nat.lt_irrefl _ (bS _ o)) eq))));have c1:=af.out.1.fr f1 qs;have bc:=af.out.2.2.1.fr f1 qs;obtain⟨u0,u1,u2,u3,u4,u5,u6⟩:=M.m7;have v0:=M.f 0;have v1:=M.f 1;have v2:=M.f 2;have v3:=M.f 3;have v4:=M.f 4;have v5:=M.f 5;have v6:=M.f 6;clear f1 cV bR bS
     go_upto_region 11 with fail
     obtain⟨D2,a6,n2,f2⟩:=AP (D1) (Q) M (.int .i64 (-1)) (.int .i64 (ap:Int)) (.int .i64 F) (.string H) (.int .i64 G) (.int .i64 J) (.string I);rw[a6];clear a6;clear u0 u1 u2 u3 u4 u5 u6 v0 v1 v2 v3 v4 v5 v6;have aL:=Hd (bp.out.putB f2 (by have:=HO.out;omega) HO.out.2.2.2.1);have b5:=c1.fr f2 (by have:=HO.out;simp;omega);have bd:=bc.fr f2 (by have:=HO.out;simp;omega);have aV:=Hd (An b5 (An bd n2));obtain⟨d0,d1,d2,d3,d4,d5,d6⟩:=b5.m7;obtain⟨an,bZ⟩:=eR (N.asm x.n);obtain⟨K,dE⟩:=eR (gM R i x.n);obtain⟨ya,aU⟩:=eR (an.getD xK);have av:=Cm aL.out x.n HX.out.2.1;rw[bZ,aI.out.1,aU]at av;obtain⟨ec,ee,ed,eh,ef,eg,eb,aH⟩:=jH ya;unfold lG at av;rw[aH]at av;have aj:=Hd (An dE (An bZ (An aU aH)));clear n2 f2 b5 bd c1 bc M bp af bZ aU aH dE
     go_upto_region 12 with fail
     obtain⟨D3,cH,cq,n3,f3⟩:=il D2 #[.int .i64 ec,.string ee,.int .i64 ed,.int .i64 eh,.string ef,.string eg,.bool eb] 95 D2.heap.size;rw[cH];have bI:=Hd (aL.out.fr0 f3);have b6:=aV.out.1.fr f3 qs;have aF:=Hd (An b6 (An (aV.out.2.1.fr f3 qs) (An (aV.out.2.2.fr f3 qs) n3)));have bY:Q<D2.heap.size:=aV.out.2.2.lt;have bT:∀q∈eV b,q<D2.heap.size:=aL.out.own.lt;obtain⟨RB,cL⟩:=eR (D2.heap.size);rw[cL]at aF bY bT ⊢;have cz:=Hd (An bY (show RB ∉ eV b from λo=>Nat.lt_irrefl _ (bT _ o)));clear d0 d1 d2 d3 d4 d5 d6 av;obtain⟨d0,d1,d2,d3,d4,d5,d6⟩:=b6.m7;obtain⟨cw,cp⟩:=eR (K.getD (0,xK));have av:=Ck bI.out x.n HX.out.2.1 (Cq D3);rw[aj.out.1,aI.out.1,cp]at av;obtain⟨sk,dR,dQ,dU,dS,dT,dP,ck⟩:=jH cw.2;unfold vR at av;rw[ck]at av;have bO:=Hd (An cp ck);clear n3 f3 b6 bY cL cH aV aL cq bT cp ck
     go_upto_region 13 with fail
     obtain⟨D4,cI,eF,n4,f4⟩:=il D3 #[.int .i64 (cw.1:Int),.int .i64 sk,.string dR,.int .i64 dQ,.int .i64 dU,.string dS,.string dT,.bool dP] 243 D3.heap.size;rw[cI];have bq:=Hd (bI.out.fr0 f4);have ai:=Hd (An (aF.out.1.fr f4 qs) (An (aF.out.2.1.fr f4 qs) (An (aF.out.2.2.1.fr f4 qs) (aF.out.2.2.2.fr f4 qs))));have bW:RB<D3.heap.size:=aF.out.2.2.2.lt;obtain⟨SB,cO⟩:=eR (D3.heap.size);rw[cO]at n4 bW ⊢;have HP:=Hd (An HO.out (An cz.out bW));have bM:=Hd n4;clear d0 d1 d2 d3 d4 d5 d6 av n4 f4 bW cO cI aF bI eF cz HO
     go_upto_if 63 with fail
     go_cut [15]from 64 to 81 (λs W=>s=.bool (oO K an)/\LIg w W c mu ms ma v0 v1 v2 v3 b Y ⟨(sB D i N K x).used,(sB D i N K x).asm,N.lks⟩ (gM R i)/\BoxN W aw 95 #[.int .i64 F,.string H,.int .i64 G,.int .i64 J,.string I,.string sv,.bool ag]/\BoxN W aX 91 #[.int .i64 ti,.int .i64 ph,.int .i64 ix,.string cu,.slice (some ⟨cB,cC,none⟩) nr rc,.slice WA nw cv]/\BoxN W Q 98 #[.int .i64 (pC D K),.int .i64 (ap:Int),.int .i64 F,.string H,.int .i64 G,.int .i64 J,.string I]/\BoxN W RB 95 (pB K an).cs.toArray)
     case first =>
      have aQ:=bs.out.2;have dk:=bq.out.d;have hp:=HP.out
      cases K with
      | none =>
       obtain⟨D5,aS,f5,a3⟩:=bq.out.putA x HX.out.2.1 HX.out.2.2.1;rw[aI.out.1,aI.out.2]at aS;obtain⟨d0,d1,d2,d3,d4,d5,d6⟩:=ai.out.1.m7;have U:=Hd (An a3 (An (ai.out.1.fr f5 (by simp;omega)) (An (ai.out.2.1.fr f5 (by simp;omega)) (An (ai.out.2.2.1.fr f5 (by simp;omega)) (ai.out.2.2.2.fr f5 (by simp;omega))))));clear a3 f5 aQ dk hp
       go_wp2_with fail
       go_meet
       refine⟨by simp[oO],U.out.1,U.out.2.1,U.out.2.2.1,U.out.2.2.2.1,?_⟩
       show BoxN D5 RB 95 (an.getD xK).cs.toArray
       rw[aj.out.2.2.1,aj.out.2.2.2]
       exact U.out.2.2.2.2
      | some p =>
       obtain⟨sm,y2⟩:=p;obtain rfl:(sm,y2)=cw:=bO.out.1;obtain⟨eM,dN,dL,dO⟩:=rS (λa ha=>(V.out.2.1 a ha).1) aj.out.1;obtain⟨qi,cf⟩:∃q,D[sm]?=some q:=⟨_,gx (by rw[V.out.2.2.1];omega)⟩;have c7:pC D (some (sm,y2))=(qi:Int):=by show ((D.getD sm 0:Nat):Int)=(qi:Int);rw[List.getD_eq_getElem?_getD,cf];rfl
       have cy:=Hd (An cf (An c7 (An dN (An dL dO))));have s0:=bM.out.k0;obtain⟨D5,aS,f5,a3⟩:=bq.out.putU sm qo;have br:=Hd a3;have U:=Hd (An (ai.out.1.fr f5 (by simp;omega)) (An (ai.out.2.1.fr f5 (by simp;omega)) (An (ai.out.2.2.1.fr f5 (by simp;omega)) (An (ai.out.2.2.2.fr f5 (by simp;omega)) (bM.out.fr f5 (by simp;omega))))));have eN:sm<m:=qo
       clear a3 f5 cf c7 dN dL dO aQ dk hp
       go_upto_region 15 with fail
       clear aS s0;have ei:D5.cell? ⟨c,2,none⟩=some (.slice (some ⟨ib,0,none⟩) m ic):=by rw[cA.out];exact br.out.box.c 2
       have i0:D5.cell? ⟨ib,sm,none⟩=some (.int .i64 (qi:Int)):=(aW.out _ br.out.fr).2.2 sm _ (by unfold jX;rw[List.getElem?_map,cy.out.1];rfl);have s0:=U.out.2.2.2.2.k0;have x0:=U.out.2.2.1.k0;have xf:=U.out.2.2.1.f 0;have eC:IntKind.i64.wrap (sm:Int)=(sm:Int):=by simp[IntKind.wrap,IntKind.bits,IntKind.signed];omega
       go_still_tail 8,qk
       go_upto_region 16 with fail
       obtain⟨D6,bw⟩:=eR ((D5.setCell ⟨Q,0,none⟩ (.int .i64 (qi:Int))).drew);have n6:BoxN D6 Q 98 #[.int .i64 (qi:Int),.int .i64 (ap:Int),.int .i64 F,.string H,.int .i64 G,.int .i64 J,.string I]:=by rw[<-bw];exact(U.out.2.2.1.setAt 0 _).drew
       have f6:Fr [Q] D5 D6:=by rw[<-bw];exact((Fq [Q] D5).st _).drew
       rw[bw];have hp:=HP.out;have dZ:=Hd (br.out.putB f6 qo hp.1.2.2.2.1);have aa:=Hd (An (U.out.1.fr f6 (by simp;omega)) (An (U.out.2.1.fr f6 (by simp;omega)) (An n6 (An (U.out.2.2.2.1.fr f6 (by simp;omega)) (U.out.2.2.2.2.fr f6 (by simp;omega))))));clear n6 f6 bw ei i0 s0 x0 xf eC U br hp;obtain⟨s0,s1,N,s3,s4,s5,s6,s7⟩:=aa.out.2.2.2.2.m8;obtain⟨q0,q1,q2,q3,q4,q5,q6⟩:=aa.out.2.2.2.1.m7;have v0:=aa.out.2.2.2.1.f 0;have v1:=aa.out.2.2.2.1.f 1;have v2:=aa.out.2.2.2.1.f 2;have v3:=aa.out.2.2.2.1.f 3;have v4:=aa.out.2.2.2.1.f 4;have v5:=aa.out.2.2.2.1.f 5;have v6:=aa.out.2.2.2.1.f 6
       go_wp2_with fail
       obtain⟨D7,a6,n7,f7⟩:=AP (D6) (RB) aa.out.2.2.2.1 (.int .i64 sk) (.string dR) (.int .i64 dQ) (.int .i64 dU) (.string dS) (.string dT) (.bool dP);rw[a6];clear a6
       go_meet
       have hp:=HP.out;refine⟨by simp[oO],dZ.out.putB f7 qo hp.2.1.2,aa.out.1.fr f7 (by simp;omega),aa.out.2.1.fr f7 (by simp;omega),?_,?_⟩
       ·rw[cy.out.2.1];exact aa.out.2.2.1.fr f7 (by simp;omega)
       ·show BoxN D7 RB 95 y2.cs.toArray
        rw[show y2.cs=_ from bO.out.2];exact n7
     have E:=Hd hcut.2;obtain rfl:=hcut.1;clear hcut bq ai bM bO;obtain⟨X,hX⟩:=eR (wc);rw[hX]at E ⊢;clear hX;obtain⟨fk,em,el,ep,en,eo,ek,bC⟩:=jH (pB K an);obtain⟨bv,bA⟩:=eR (oO K an);obtain⟨bQ,b2⟩:=eR (decide (pB K an=x));have ci:=E.out.2.2.2.2;rw[bC]at ci
     have bE:bv=true->∀X,(binOp .neq 95 (.agg #[.int .i64 fk,.string em,.int .i64 el,.int .i64 ep,.string en,.string eo,.bool ek]) (.agg #[.int .i64 F,.string H,.int .i64 G,.int .i64 J,.string I,.string sv,.bool ag])).run prog X=.ok (.bool (!bQ)) X:=λhb X=>by
      have eu:eX (pB K an).n=0/\(pB K an).v.length<=65536:=by
       rw[<-bA]at hb
       cases K with
       | some p=>exact(rS (λa ha=>(V.out.2.1 a ha).1) aj.out.1).2.2
       | none =>
        cases an with
        | none=>simp[oO]at hb
        | some y =>
         obtain⟨e1,e2⟩:=Z.out.asm_ok aj.out.2.1;exact⟨by show eX y.n=0;rw[e1];exact HX.out.2.1,e2⟩
      have h:=pz eu.1 HX.out.2.1 qo (by have:=HX.out.2.2.1;omega) X;rw[b2,aI.out.2]at h;unfold lG at h;rw[bC]at h;exact h
     obtain⟨q0,q1,q2,q3,q4,q5,q6⟩:=ci.m7;obtain⟨d0,d1,d2,d3,d4,d5,d6⟩:=E.out.2.1.m7;rw[bA];have bH:=Hd (An bA b2);have dX:=Hd bC;clear bA b2 bC ci
     go_upto_region 18 with fail
     go_cut [87]from 82 to 87 (λs W=>s=.bool (bv && !bQ)/\W=X)
     case first =>
      cases bv with
      | true =>
       replace bE:=bE rfl
       go_wp2_with fail
       go_meet
       exact⟨qs,rfl⟩
      | false =>
       clear bE
       go_wp2_with fail
       go_meet
       exact⟨qs,rfl⟩
     obtain⟨rfl,dK⟩:=hcut;obtain⟨X2,cU⟩:=eR (wc);rw[cU]at dK ⊢;obtain rfl:=dK;clear cU
     try clear bE
     clear q0 q1 q2 q3 q4 q5 q6 d0 d1 d2 d3 d4 d5 d6;have L:=px aM.out.1 HX.out.1;rw[lm,aj.out.1,aj.out.2.1,bH.out.1,bH.out.2]at L;obtain⟨gb,c8⟩:=eR ((bv && !bQ));rw[c8]at L ⊢;have bN:=Hd L;clear L c8
     cases gb with
     | true =>
      go_wp2_with fail
      go_ret2
      have eB:i6 R D m=none:=by
       refine py (i:=i+1) qo ?_;rw[i6,ay.out,ak.out.1];refine tm (j:=j+1) ?_;rw[bN.out];rfl
      rw[eB]
      exact⟨rfl,E.out.1.fr⟩
     | false =>
      have L:=bN.out;rw[if_neg qs,List.getD_eq_getElem?_getD,HX.out.2.2.2]at L;have ea:=Hd L;clear L bN bH dX
      go_upto_region 20 with fail
      have a9:c ∉ eV b:=λo=>by have h1:=E.out.1.la c o;have h2:=E.out.1.d;omega
      have cM:aX ∉ eV b:=λo=>by
       have:=NoT.own (ts:=[91]) E.out.1.own qd aX o _ _ _ E.out.2.2.1;simp at this
      have cW:Q ∉ eV b:=HP.out.1.2.2.2.1;have HN:=Hd (An a9 (An cM cW));clear a9 cM cW;have HSS:=Hd (λ(W:World) (hW:Fr (eV b) X2 W)=>(⟨(E.out.1.box.fr hW HN.out.1).c 4,(E.out.2.2.2.1.fr hW HN.out.2.2).c 0,(E.out.2.2.2.1.fr hW HN.out.2.2).c 1,(E.out.2.2.2.1.fr hW HN.out.2.2).c 2,(E.out.2.2.2.1.fr hW HN.out.2.2).c 3,(E.out.2.2.2.1.fr hW HN.out.2.2).c 4,(E.out.2.2.2.1.fr hW HN.out.2.2).c 5,(E.out.2.2.2.1.fr hW HN.out.2.2).c 6⟩:W.cell? ⟨c,4,none⟩=some (.slice b N.lks.length Y)/\W.cell? ⟨Q,0,none⟩=some (.int .i64 (pC D K))/\W.cell? ⟨Q,1,none⟩=some (.int .i64 (ap:Int))/\W.cell? ⟨Q,2,none⟩=some (.int .i64 F)/\W.cell? ⟨Q,3,none⟩=some (.string H)/\W.cell? ⟨Q,4,none⟩=some (.int .i64 G)/\W.cell? ⟨Q,5,none⟩=some (.int .i64 J)/\W.cell? ⟨Q,6,none⟩=some (.string I)));have S:Fr (eV b) X2 X2.drew:=(Fq _ X2).drew;refine eZ (λW=>Fr (eV b) X2 W) 8 qk ?_ qd
      show fb 0 ..
      iterate 6 (refine gB rfl ?_;try simp only[qq])
      refine hO (i:=6) rfl λaq hK=>?_;go_simp
      obtain⟨G1,aZ,M,ah⟩:=sf X2 #[.int .i64 (pC D K),.int .i64 (ap:Int),.int .i64 F,.string H,.int .i64 G,.int .i64 J,.string I] 98;rw[aZ];refine hK _ _ (ah.mono qs) ?_;clear hK aq aZ S
      try simp only[qq]
      refine hO (i:=7) rfl λaq hK=>?_;obtain⟨ii,aA,bm,bn,bo⟩:=mB;have a4:=E.out.1.own.fr ah qs;have dd:=vT (f:=pC D K) (t:=ap) aI.out.1
      have eA:N.lks.length<=1000:=by
       have h1:=mi (λa ha=>(V.out.2.1 a ha).2.1) ay.out;have h2:=oP _ _ _ _ _ _ aM.out.1;have h3:(y.a.r.take j).length<=10:=by rw[List.length_take];omega
       omega
      refine gF (.tmp 92) (.tmp 94) 61 rfl 98 ii _ 7 72 underlying61 aA bm bn bo rfl qd b N.lks.length Y (N.lks.flatMap LK.cs) rfl a4 ⟨X2.heap.size,0,none⟩ 1 1 (⟨pC D K,ap,x.n⟩:LK).cs rfl rfl (λj u hu=>by rw[dd]at hu;rw[fx,M.c j];simpa using hu) (wL _) (by unfold maxLen;omega) qo ?_;intro bu cr G2 bb au aY;have S:Fr (eV b) X2 G2:=(ah.mono qs).then au;refine hK _ _ S ?_;clear hK aq
      try simp only[qq]
      refine eW ⟨qk,?_⟩;simp only[qG,qH];have ar:=E.out.1.box.fr S HN.out.1;have bd:=E.out.2.2.1.fr S HN.out.2.1;have q0:=ar.k4;have q1:=ar.f 4;have cE:∀q∈eV bu,q∈eV b \/ X2.heap.size<=q:=λq T=>(aY q T).imp id λh=>Nat.le_trans ah.size h;have aK:=Hd (An S (An ar (An bd (An bb cE))));clear S ah M au aY cE bb HSS bm bn bo aA a4 dd ar bd
      go_upto_region 21 with fail
      obtain⟨G3,bx⟩:=eR (G2.setCell ⟨c,4,none⟩ (.slice bu (N.lks.length+1) cr));have n3:=aK.out.2.1.setAt 4 (.slice bu (N.lks.length+1) cr);have f3:Fr [c] G2 G3:=by rw[<-bx];exact(Fq [c] G2).st _
      rw[bx]at n3
      try rw[bx]
      have bJ:=Hd (E.out.1.putL ⟨pC D K,ap,x.n⟩ aK.out.1 aK.out.2.2.2.1 aK.out.2.2.2.2 f3 n3);have d7:=Hd (aK.out.2.2.1.fr f3 (by have h1:=bs.out.2;have h2:=E.out.1.d;simp;omega));clear q0 q1 bx n3 f3 aK
      go_wp2_with fail
      go_roundw
      case rel=>exact⟨j+1,cr,bu,_,qo,by go_num,bJ.out,ea.out,d7.out⟩
      case measure=>simp[intOf];omega
    ·obtain rfl:j=nr:=qo
     have r5:=aM.out.2.k5
     go_upto_region 22 with fail
     go_wp2_with fail
     clear r5
     go_loopw [102] (λk W=>∃(j:Nat),j<=nw/\k=.int .i64 (j:Int)/\LIg w W c mu ms ma v0 v1 v2 v3 b Y N (Ax R i (y.a.w.take j))) (λk _=>nw - (intOf k).toNat)
     case atStart=>exact⟨0,Nat.zero_le _,rfl,Z.out.congr (Cn R i)⟩
     case round =>
      obtain⟨j2,eJ,rfl,ad⟩:=hrel;have bK:=Hd ad;clear ad
      rename World=>wq
      by_cases ey:j2<nw
      ·have ez:(j2:Int)<(nw:Int):=qo
       have bj:=ak.out.2.2.1 wq bK.out.fr;have aD:Row wq wq.heap.size 7 WA nw (y.a.w.flatMap CH.cs):=by have h:=bj.chw;unfold Chs Rd at h;rw[al.out.2.1,al.out.2.2.2]at h;exact h
       obtain⟨cB,cC,rfl,b1,az⟩:=fo ip aD qo;obtain⟨x,hx⟩:∃x,y.a.w[j2]?=some x:=⟨_,gx (by rw[al.out.2.2.2];exact ey)⟩;obtain⟨bi,bF⟩:=kE ak.out.2.1 x (iu hx);have ac:=az j2 x hx;obtain⟨F,aB⟩:=eR (x.n.kind);obtain⟨G,aC⟩:=eR (x.n.number);obtain⟨J,aE⟩:=eR (x.n.index);obtain⟨ag,aO⟩:=eR (x.a);obtain⟨H,ae,_,_⟩:=eT x.n.owner;obtain⟨I,L,_,_⟩:=eT x.n.text;obtain⟨sv,aT,_,_⟩:=eT x.v;have ao:fg x.n=.agg #[.int .i64 F,.string H,.int .i64 G,.int .i64 J,.string I]:=by unfold fg;rw[aB,aC,aE,ae,L]
       have b4:x.cs=[.int .i64 F,.string H,.int .i64 G,.int .i64 J,.string I,.string sv,.bool ag]:=by unfold CH.cs;rw[aB,aC,aE,ae,L,aT,aO]
       rw[b4]at ac;obtain⟨y0,y1,y2,y3,y4,y5,y6⟩:=AR ac;obtain⟨U0,a5,bk,n0,f0⟩:=il wq #[.int .i64 F,.string H,.int .i64 G,.int .i64 J,.string I,.string sv,.bool ag] 95 wq.heap.size;obtain⟨U1,aS,f1,cJ⟩:=(bK.out.fr0 f0).putS x.n (i,x) bi;have cK:=cJ.congr (Cp (ut (gr ak.out.2.1).2) hx);unfold vR at aS;rw[ao,b4]at aS;have aL:=Hd cK;clear ac az aD bj hx bi bF aB aC aE aO ae L aT ao b4 bk cJ cK
       go_upto_region 25 with fail
       try rw[a5]
       clear y0 y1 y2 y3 y4 y5 y6 b1 a5;obtain⟨d0,d1,d2,d3,d4,d5,d6⟩:=n0.m7
       go_wp2_with fail
       go_roundw
       case rel=>exact⟨j2+1,qo,by go_num,aL.out⟩
       case measure=>simp[intOf];omega
      ·obtain rfl:j2=nw:=qo
       have ad:=bK.out;rw[List.take_of_length_le (by rw[al.out.2.2.2];exact fV _)]at ad;have bJ:=Hd (ad.congr (Co ak.out.1))
       have dw:i6 R D (i+1)=some N:=by
        have h:=aM.out.1;rw[List.take_of_length_le (by rw[al.out.2.2.1];exact fV _)]at h;rw[i6,ay.out,ak.out.1];exact h
       have d8:=Hd dw;clear ad dw
       go_wp2_with fail
       go_roundw
       case rel=>exact⟨i+1,Y,b,N,qo,by go_num,bJ.out,d8.out⟩
       case measure=>simp[intOf];omega
  ·obtain rfl:i=m:=qo
   rw[ay.out]
   go_upto_region 28 with fail
   obtain⟨es,bD,b9,dc⟩:=Z.out.am;obtain⟨V0,dy,c5,bU⟩:=rT (P:=prog) (q:=fg) (f:=lG) (t:=149) underlying149 (by obtain⟨ej,clock,h1,h2,_,h4⟩:=bD.map;exact⟨ej,clock,h1,h2,h4⟩);have et:=uv ay.out (λa ha=>(V.out.2.1 a ha).2.1) b9 bD.nd
   have c3:es.length<=1000:=by
    have h1:R.length=i:=by rw[<-V.out.1,List.length_map];exact V.out.2.2.2
    omega
   have aJ:=Hd (An bD.nd (An b9 (An dc c3)));have ca:∀q∈eV b,q<wr.heap.size:=Z.out.own.lt;have cn:=Z.out.young;obtain⟨ri,dz⟩:=eR (wr.heap.size);rw[dz]at dy bU ca cn
   have dY:Hid (RIg w V0 c mu ma ri v0 v1 v2 v3 b none Y 0 s es []):=by
    have h:=Z.out.fr0 c5;have hd:=h.d;exact Hd ⟨h.box,h.own,Own.nil _ _ _,λ_=>⟨rfl,rfl⟩,h.um,bU,⟨hd.1,hd.2.1,qo,cn⟩,λq T=>⟨h.la q T,ca q T⟩,by simp[eV],h.fr⟩
   clear bD b9 dc c5 bU et c3 ca cn dz
   go_wp2_with fail
   clear dy
   go_loopw [116] (λ_ W=>∃(aN:Nat) (O:Option Addr) (l:List (ON × CH)),RIg w W c mu ma ri v0 v1 v2 v3 b O Y aN s es l) (λ_ W=>yy W ri ma)
   case atStart=>exact⟨0,none,[],dY.out⟩
   case round =>
    obtain⟨aN,O,l,dA⟩:=hrel
    rename World=>wq
    have z:=Hd dA;clear dA
    rcases z.out.rg.step (P:=prog)with⟨du,aR⟩|⟨e,W1,c2,aR,ao,aG,bc⟩
    ·have bL:=Hd du
     clear du;have eL:=bL.out.length_eq
     have dt:∀x∈l.map Prod.snd,eX x.n=0:=λx hx=>by
      obtain⟨e,he,rfl⟩:=List.mem_map.1 hx;have h:=aJ.out.2.2.1 e (bL.out.symm.subset he);rw[h.1];exact h.2.2
     have cj:=DV O aN (l.map Prod.snd) wq dt (by rw[List.length_map];have:=aJ.out.2.2.2;omega) (by rw[List.length_map,List.flatMap_map];exact z.out.oa);rw[List.length_map]at cj;have aj:=Hd cj;have q5:=z.out.box.k5;clear cj dt
     go_upto_region 33 with(go_at_call 128;(with_reducible refine aj.out.mono ?_);rintro e X1 ⟨rfl,ys,hp,hs,be,hf⟩;have HP:=Hd (An hp (An hs (An be hf)));clear hp hs be hf q5)
     clear aR;have ae:=p8 (λa ha=>(V.out.2.1 a ha).1) dV.out (by rw[<-V.out.1,List.length_map,V.out.2.2.2,V.out.2.2.1]) ay.out;have de:s.lks.length<=1000000:=by have:=mi (λa ha=>(V.out.2.1 a ha).2.1) ay.out;omega
     have b7:∀q∈eV b,q ∉ eV O:=λq T o=>by have h1:=z.out.la q T;have h2:=z.out.ab q o;omega
     have b3:c ∉ eV O:=λo=>by have h1:=z.out.d;have h2:=z.out.ab c o;omega
     have cY:c ∉ eV b:=λo=>by have h1:=z.out.d;have h2:=z.out.la c o;omega
     have d9:=Hd (DW b Y s.lks X1 ae.2.1 ae.1 de (z.out.own.fr HP.out.2.2.2 b7));have aP:=z.out.box.fr HP.out.2.2.2 b3;have q4:=aP.k4;have C:=Hd (An aP (An b3 (An cY b7)));clear ae de b7 b3 cY aP
     go_upto_region 34 with(go_at_call 130;(with_reducible refine d9.out.mono ?_);rintro e X2 ⟨rfl,be,hf⟩;have HQ:=Hd (An be hf);clear be hf q4)
     go_wp2_with fail
     go_ret2
     have dM:ys.length=l.length:=by rw[HP.out.1.length_eq,List.length_map]
     have hd:=z.out.d;obtain⟨e1,m1,g1⟩:=z.out.um;rw[ay.out];refine⟨mu,Y,aN,b,O,ys,rfl,?_,HQ.out.1,?_,CA aJ.out.2.1 aJ.out.2.2.1 aJ.out.1 bL.out HP.out.1 HP.out.2.1,⟨e1,(m1.fr HP.out.2.2.2 (λo=>by have:=z.out.ab mu o;omega)).fr HQ.out.2 (λo=>by have:=z.out.la mu o;omega),g1⟩,(z.out.fr.trans HP.out.2.2.2 (λq T=>.inr (by have:=z.out.ab q T;omega))).trans HQ.out.2 (λq T=>.inr (by have:=z.out.la q T;omega))⟩
     ·rw[dM]
      exact C.out.1.fr HQ.out.2 C.out.2.2.1
     ·rw[dM]
      exact HP.out.2.2.1.fr HQ.out.2 (λq T o=>C.out.2.2.2 q o T)
    ·obtain⟨F,H,G,J,I,sv,ag,aH⟩:=jH e.2
     unfold lG at aR ao;rw[aH]at aR ao;have HE:=Hd (An c2 (An aG (An bc aH)));have cZ:c≠ri:=by have:=z.out.d;omega
     have aP:=z.out.box.fr aG (by simpa using cZ);have ce:=z.out.oa.fr aG (λq T o=>by have:=z.out.ab q T;simp at o;omega);clear c2 aG bc aH cZ;obtain⟨eI,c4⟩:=eR (fg e.1);rw[c4]at aR ao;clear c4;obtain⟨U0,a5,bk,n0,f0⟩:=il W1 #[.int .i64 F,.string H,.int .i64 G,.int .i64 J,.string I,.string sv,.bool ag] 95 W1.heap.size
     go_upto_region 31 with fail
     try rw[a5]
     clear aR ao a5;have a9:c ∉ eV O:=λo=>by have h1:=z.out.d;have h2:=z.out.ab c o;omega
     have cS:∀q∈eV O,q<W1.heap.size:=ce.lt;obtain⟨TB,cR⟩:=eR (W1.heap.size);have cQ:TB ∉ eV O:=λo=>by have:=cS TB o;omega
     have cT:W1.heap.size<=U0.heap.size:=f0.size;rw[cR]at n0 ⊢;have C:=Hd (An (aP.fr f0 qs) (An n0 (An (ce.fr f0 qs) (An a9 (An cQ f0)))));clear aP n0 ce a9 cQ f0 cS cR bk;have HSS:=Hd (λ(W:World) (hW:Fr (eV O) U0 W)=>(⟨(C.out.1.fr hW C.out.2.2.2.1).c 5,(C.out.2.1.fr hW C.out.2.2.2.2.1).c 0,(C.out.2.1.fr hW C.out.2.2.2.2.1).c 1,(C.out.2.1.fr hW C.out.2.2.2.2.1).c 2,(C.out.2.1.fr hW C.out.2.2.2.2.1).c 3,(C.out.2.1.fr hW C.out.2.2.2.2.1).c 4,(C.out.2.1.fr hW C.out.2.2.2.2.1).c 5,(C.out.2.1.fr hW C.out.2.2.2.2.1).c 6⟩:W.cell? ⟨c,5,none⟩=some (.slice O l.length aN)/\W.cell? ⟨TB,0,none⟩=some (.int .i64 F)/\W.cell? ⟨TB,1,none⟩=some (.string H)/\W.cell? ⟨TB,2,none⟩=some (.int .i64 G)/\W.cell? ⟨TB,3,none⟩=some (.int .i64 J)/\W.cell? ⟨TB,4,none⟩=some (.string I)/\W.cell? ⟨TB,5,none⟩=some (.string sv)/\W.cell? ⟨TB,6,none⟩=some (.bool ag)));have S:Fr (eV O) U0 U0.drew:=(Fq _ U0).drew;refine eZ (λW=>Fr (eV O) U0 W) 8 qk ?_ qd
     show fb 0 ..
     iterate 6 (refine gB rfl ?_;try simp only[qq])
     refine hO (i:=6) rfl λaq hK=>?_;go_simp
     obtain⟨G1,aZ,M,ah⟩:=sf U0 #[.int .i64 F,.string H,.int .i64 G,.int .i64 J,.string I,.string sv,.bool ag] 95;rw[aZ];refine hK _ _ (ah.mono qs) ?_;clear hK aq aZ S
     try simp only[qq]
     refine hO (i:=7) rfl λaq hK=>?_;obtain⟨ii,aA,bm,bn,bo⟩:=oK;have a4:=C.out.2.2.1.fr ah qs;have eA:l.length<=1000:=by have h1:=z.out.rg.left;have h2:=aJ.out.2.2.2;omega
     refine gF (.tmp 124) (.tmp 126) 62 rfl 95 ii _ 7 80 underlying62 aA bm bn bo rfl qd O l.length aN (l.flatMap λe=>e.2.cs) rfl a4 ⟨U0.heap.size,0,none⟩ 1 1 e.2.cs rfl rfl (λj u hu=>by rw[HE.out.2.2.2]at hu;rw[fx,M.c j];simpa using hu) (xM _) (by unfold maxLen;omega) qo ?_;intro bG bP G2 bb au aY;have S:Fr (eV O) U0 G2:=(ah.mono qs).then au;refine hK _ _ S ?_;clear hK aq
     try simp only[qq]
     refine eW ⟨qk,?_⟩;simp only[qG,qH];have ar:=C.out.1.fr S C.out.2.2.2.1;have q0:=ar.k5;have q1:=ar.f 5;have c6:Fr (eV O) W1 G2:=(C.out.2.2.2.2.2.mono qs).then S;have dr:=z.out.put HE.out.2.1 HE.out.2.2.1 c6 bb (λq T=>(aY q T).imp id λh=>Nat.le_trans cT (Nat.le_trans ah.size h)) ((Fq [c] G2).set (p:=⟨c,5,none⟩) (.inl qs) (.slice bG (l.length+1) bP)) (ar.setAt 5 (.slice bG (l.length+1) bP));have cx:=Hd dr;clear S ah M au aY bb HSS bm bn bo aA a4 ar c6 dr cT
     go_wp2_with fail
     go_roundw
     case rel=>exact⟨bP,bG,l++[e],cx.out⟩
     case measure =>
      have h1:=cx.out.rg.left;have h2:=z.out.rg.left;rw[gG,List.length_singleton]at h1;omega
open Go.RowKit
theorem vU:∀(n:Nat) (l m:List UInt8),l.length=n->m.length=n->(∀c∈l,oC c=true)->(∀c∈m,oC c=true)->i8 l=i8 m->l=m
 | 0,l,m,a,b,_,_,_=>by rw[List.length_eq_zero_iff.1 a,List.length_eq_zero_iff.1 b]
 | n+1,l,m,a,b,d,e,h=>by
  obtain⟨g,x,rfl⟩:=(List.eq_nil_or_concat l).resolve_left (by rintro rfl;simp at a);obtain⟨m',y,rfl⟩:=(List.eq_nil_or_concat m).resolve_left (by rintro rfl;simp at b);simp only[List.concat_eq_append]at a b d e h ⊢;rw[nx,nx]at h;have o:=kz (d x qs);have p:=kz (e y qs);have i:i8 g=i8 m':=qo
  have j:x.toNat=y.toNat:=qo
  have k:=UInt8.toNat_inj.1 j;rw[vU n g m' (by simpa using a) (by simpa using b) (λc f=>d c (by simp[f])) (λc f=>e c (by simp[f])) i,k]
theorem vV{c:UInt8}{r:List UInt8}(d:oC c=true)(b:c≠48)(j:∀x∈r,oC x=true):10 ^ r.length<=i8 (c::r):=by
 have f:∀(l:List UInt8) (v n:Nat),10 ^ n<=v->10 ^ (n+l.length)<=l.foldl (λv c=>v*10+(c.toNat - 48)) v:=by
  intro l
  induction l with
  | nil=>intro v n a;simpa using a
  | cons x l e =>
   intro v n a;have:=e (v*10+(x.toNat - 48)) (n+1) (by rw[Nat.pow_succ];omega);simpa [Nat.add_assoc,Nat.add_comm 1]using this
 have g:=kz d;have i:c.toNat≠48:=λh=>b (UInt8.toNat_inj.1 (by simpa using h));have:=f r (c.toNat - 48) 0 (by simp;omega);simpa [i8]using this
theorem Ay{l m:List UInt8}(g:l≠[])(j:m≠[])(a:∀c∈l,oC c=true)(b:∀c∈m,oC c=true)(k:l[0]?≠some 48)(n:m[0]?≠some 48)(h:i8 l=i8 m):l=m:=by
 obtain⟨c,r,rfl⟩:=List.exists_cons_of_ne_nil g;obtain⟨d,s,rfl⟩:=List.exists_cons_of_ne_nil j;have o:=vV (c:=c) (r:=r) (a c (List.mem_cons_self ..)) (by simpa using k) (λx f=>a x (List.mem_cons_of_mem _ f));have p:=vV (c:=d) (r:=s) (b d (List.mem_cons_self ..)) (by simpa using n) (λx f=>b x (List.mem_cons_of_mem _ f));have q:=oD _ a;have t:=oD _ b
 have i:r.length=s.length:=by
  rcases Nat.lt_trichotomy r.length s.length with e|e|e
  ·have:=Nat.pow_le_pow_right (show 0<10 by omega) (show (c::r).length<=s.length by rw[List.length_cons];omega)
   omega
  ·exact e
  ·have:=Nat.pow_le_pow_right (show 0<10 by omega) (show (d::s).length<=r.length by rw[List.length_cons];omega)
   omega
 exact vU (r.length+1) _ _ qs (by simp[i]) a b h
theorem pY(s:List UInt8)(a:Nat):∀c∈(s.drop a).take (jd s a),oC c=true:=by
 intro c b
 have d:(s.drop a).take (jd s a)=((s.drop a).take 7).takeWhile oC:=by
  unfold jd;have e:((s.drop a).take 7).takeWhile oC <+: s.drop a:=(List.takeWhile_prefix _).trans (List.take_prefix _ _);exact(List.prefix_iff_eq_take.1 e).symm
 rw[d]at b;exact List.all_eq_true.1 (List.all_takeWhile) c b
theorem vW{s:List UInt8}{a c:Nat}(g:a<=s.length)(h:(gd s a c).1.2.2=0):c≠8/\gd s a c=((i8 ((s.drop a).take (jd s a)),a,0),a+jd s a)/\0<jd s a/\s[a]?≠some 48/\a+jd s a<=s.length:=by
 unfold gd at h ⊢
 by_cases d:gl s a c=0
 ·rw[if_pos d]
  have b:=d;unfold gl at b;have e:c≠8:=by rintro rfl;simp at b
  rw[if_neg e]at b;split at b
  ·omega
  ·split at b
   ·omega
   ·rename_i i
    split at b
    ·omega
    ·rename_i f
     exact⟨e,rfl,qo,f,sX s a g⟩
 ·rw[if_neg d]at h
  exact absurd h d
theorem tq:∀(f:Nat) (s t:List UInt8) (a b c:Nat),c+f=9->0<f->a<=s.length->b<=t.length->(∀p∈gi f s a c,p.2.2=0)->(∀p∈gi f t b c,p.2.2=0)->(gi f s a c).map (·.1)=(gi f t b c).map (·.1)->s.drop a=t.drop b
 | f+1,s,t,a,b,c,Q,_,F,G,e,h,l=>by
  rw[gi]at e h;obtain⟨P,K,C,N,O⟩:=vW F (e _ (List.mem_cons_self ..));obtain⟨_,L,t1,t2,t3⟩:=vW G (h _ (List.mem_cons_self ..));rw[gi,gi]at l;rw[K]at e l;rw[L]at h l;simp only[List.map_cons,List.cons.injEq,ne_eq,not_true_eq_false,false_or]at e h l;obtain⟨r,d⟩:=l;obtain⟨k,H⟩:=eR (jd s a);obtain⟨m,J⟩:=eR (jd t b);have w:=pY s a;have x:=pY t b;rw[H]at C O r d e w;rw[J]at t1 t3 r d h x;have D:((s.drop a).take k)[0]?=s[a]?:=by rw[List.getElem?_take_of_lt C,List.getElem?_drop];rfl
  have E:((t.drop b).take m)[0]?=t[b]?:=by rw[List.getElem?_take_of_lt t1,List.getElem?_drop];rfl
  have u:((s.drop a).take k).length=k:=by rw[List.length_take,List.length_drop];omega
  have l2:((t.drop b).take m).length=m:=by rw[List.length_take,List.length_drop];omega
  have y:=Ay (by intro i;rw[i]at u;simp at u;omega) (by intro i;rw[i]at l2;simp at l2;omega) w x (by rw[D];exact N) (by rw[E];exact t2) r;have I:k=m:=by rw[<-u,<-l2,y]
  subst I;rw[<-List.take_append_drop k (s.drop a),<-List.take_append_drop k (t.drop b),y,List.drop_drop,List.drop_drop]
  congr 1
  have v:0<f:=qo
  have z:∀(f:Nat) (s:List UInt8) (a c:Nat),0<f->gi f s a c≠[]:=λf s a c R=>by
   obtain⟨g,rfl⟩:∃g,f=g+1:=⟨f - 1,qo⟩;rw[gi];simp
  by_cases es:a+k=s.length
  ·rw[if_pos es]at d
   by_cases j:b+k=t.length
   ·rw[es,j,List.drop_length,List.drop_length]
   ·rw[if_neg j]at d
    split at d
    ·simp at d
    ·exact absurd (List.map_eq_nil_iff.1 d.symm) (z _ _ _ _ v)
  ·rw[if_neg es]at d e
   have A:s[a+k]?=some 46:=by
    by_cases i:s[a+k]?=some 46
    ·exact i
    ·rw[if_pos i]at e
     have:=e _ (List.mem_cons_of_mem _ (gI.2 rfl));simp at this
   rw[if_neg (by simpa using A)]at d e
   by_cases j:b+k=t.length
   ·rw[if_pos j]at d
    exact absurd (List.map_eq_nil_iff.1 d) (z _ _ _ _ v)
   ·rw[if_neg j]at d h
    have B:t[b+k]?=some 46:=by
     by_cases i:t[b+k]?=some 46
     ·exact i
     ·rw[if_pos i]at h
      have:=h _ (List.mem_cons_of_mem _ (gI.2 rfl));simp at this
    rw[if_neg (by simpa using B)]at d h;have o:=(i9.1 A);have q:=(i9.1 B);have M:=tq f s t (a+k+1) (b+k+1) (c+1) qo v (by have:=o.1;omega) (by have:=q.1;omega) (λp n=>e p (List.mem_cons_of_mem _ n)) (λp n=>h p (List.mem_cons_of_mem _ n)) d;rw[List.drop_eq_getElem_cons o.1,List.drop_eq_getElem_cons q.1,o.2,q.2,M]
theorem Cr{s t:List UInt8}(a:gp s=true)(b:gp t=true)(h:fG s=fG t):s=t:=by
 unfold fG at h;rw[if_pos a,if_pos b]at h;unfold gp at a b;rw[List.all_eq_true]at a b;unfold fT at h a b
 by_cases d:s=[]
 ·by_cases c:t=[]
  ·rw[d,c]
  ·rw[if_pos d,if_neg c,gi]at h
   simp at h
 ·by_cases c:t=[]
  ·rw[if_neg d,if_pos c,gi]at h
   simp at h
  ·rw[if_neg d]at h a
   rw[if_neg c]at h b;have:=tq 9 s t 0 0 0 rfl qo (Nat.zero_le _) (Nat.zero_le _) (λp e=>by simpa using a p e) (λp e=>by simpa using b p e) h;simpa using this
theorem tt:∀ {xs a:List Nat},jt xs a=0->xs=a
 | [],[],_=>rfl
 | [],_::_,h=>by simp[jt]at h
 | _::_,[],h=>by simp[jt]at h
 | x::xs,y::a,h=>by
  rw[jt]at h
  by_cases b:x<y
  ·rw[if_pos b]at h;omega
  ·rw[if_neg b]at h
   by_cases c:y<x
   ·rw[if_pos c]at h;omega
   ·rw[if_neg c]at h
    rw[tt h,show x=y by omega]
theorem jY{x y:Int}(h:Lib.compareInt x y=0):x=y:=by
 unfold Lib.compareInt at h;split at h
 ·omega
 ·split at h <;> omega
theorem tu{a b:ON}(l:eX a=0)(m:eX b=0)(h:fW a b=0):a=b:=by
 unfold fW at h
 by_cases c:Lib.compareInt a.kind b.kind=0
 ·rw[if_neg (by simpa using c)]at h
  by_cases d:jt (fG a.owner) (fG b.owner)=0
  ·rw[if_neg (by simpa using d)]at h
   have f:Lib.compareInt a.number b.number=0:=by
    by_cases e:Lib.compareInt a.number b.number=0
    ·exact e
    ·rw[tP,if_neg e]at h;exact h
   rw[tP,if_pos f]at h
   have g:Lib.compareInt a.index b.index=0:=by
    by_cases e:Lib.compareInt a.index b.index=0
    ·exact e
    ·rw[tP,if_neg e]at h;exact h
   rw[tP,if_pos g]at h
   have i:lR a.text b.text=0:=by
    by_cases e:lR a.text b.text=0
    ·exact e
    ·rw[tP,if_neg e]at h;exact h
   have j:a.text=b.text:=by
    unfold lR at i;split at i
    ·omega
    ·split at i
     ·assumption
     ·omega
   have k:=Cr (fi l) (fi m) (tt d);obtain⟨p,t,r,n,t1⟩:=a;obtain⟨q,u,s,o,t2⟩:=b;simp only at c f g j k;rw[jY c,jY f,jY g,j,k]
  ·rw[if_pos d]at h
   exact absurd h d
 ·rw[if_pos c]at h
  exact absurd h c
def ju(nm:ON)(P:Nat)(is:List Nat)(l:List AG):Except Int (UInt8 × LS) :=
 if nC is=false then .error 32 else
 match l.getLast?.bind λa=>nA a.w nm with
 | none=>.error 8
 | some c=>if c.a=true \/ c.v.length<=P then .error 8 else
  match i6 l is l.length with
  | none=>.error 10
  | some s=>if(List.range (l.length - 1)).all (λi=>decide (i∈s.used))=true then .ok (c.v.getD P 0,s)else .error 33
def lo(a:AG):List Value:=[.int .i64 a.k.rnd,.int .i64 a.k.phase,.int .i64 a.k.idx,ft a.k.lin]
def iU:Value:=.agg #[.int .u8 0,.int .i64 0,.slice none 0 0,.slice none 0 0,.slice none 0 0,.slice none 0 0]
structure ConV(w:World)(is:List Nat)(l:List AG)(b:UInt8)(s:LS)(v:Value):Prop where
 ex:∃(I K LA AA:Option Addr) (ic kc lc ac:Nat) (asm:List CH),v=.agg #[.int .u8 (b.toNat:Int),.int .i64 ((is.getLastD 0:Nat):Int),.slice I is.length ic,.slice K l.length kc,.slice LA s.lks.length lc,.slice AA asm.length ac]/\Rd w 1 I is.length (jX is)/\Rd w 4 K l.length (l.flatMap lo)/\Rd w 7 LA s.lks.length (s.lks.flatMap LK.cs)/\Rd w 7 AA asm.length (asm.flatMap CH.cs)/\kP s.asm asm
def kH(nm:ON)(P:Nat)(is:List Nat)(l:List AG)(w:World)(e:Ending)(w':World):Prop:=match ju nm P is l with
 | .error k=>e=.returned (.tuple #[iU,.int .i64 k])/\Fr [] w w'
 | .ok (b,s)=>∃v,e=.returned (.tuple #[v,.int .i64 0])/\ConV w' is l b s v/\Fr [] w w'
theorem DL{f:ON->Option CH}{l m:List CH}(e:kP f l)(g:kP f m):l=m:=by
 have G:∀ {l:List CH},kP f l->l.Pairwise λx y=>fW x.n y.n<0:=fun {l} h=>by
  obtain⟨c,v,_,i⟩:=h;refine List.Pairwise.imp_of_mem (fun {a b} w z A=>?_) (c.and (List.pairwise_map.1 v));have H:fW a.n b.n≠0:=λu=>A.2 (tu (i a w).1 (i b z).1 u)
  show fW a.n b.n<0
  omega
 have t:∀ {l m:List CH},kP f l->kP f m->∀x∈l,x∈m:=fun {l m} h k x E=>by
  obtain⟨j,p,r⟩:=List.getElem_of_mem E
  have c:=oM (j:=j) (by rw[gx p,r]) rfl λy F d=>by
   obtain⟨q,D,rfl⟩:=List.getElem_of_mem F;rw[List.length_take]at D;rw[List.getElem_take]at d;have o:=List.pairwise_iff_getElem.1 h.2.1 q j (by rw[List.length_map];omega) (by rw[List.length_map];exact p) qo;rw[List.getElem_map,List.getElem_map,r]at o;exact o d
  rw[h.2.2.1,<-k.2.2.1]at c;exact List.mem_of_find?_eq_some c
 have s:∀ {l:List CH},kP f l->l.Nodup:=λh=>List.Pairwise.imp (λB d=>B (by rw[d])) (List.pairwise_map.1 h.2.1);have C:=(List.perm_ext_iff_of_nodup (s e) (s g)).2 λx=>⟨t e g x,t g e x⟩;exact p7 (tot_cmpO.pull CH.n) C (G g) e.1
end Go.Proofs.YtlpmiimgacfmkaaGreatDoor
