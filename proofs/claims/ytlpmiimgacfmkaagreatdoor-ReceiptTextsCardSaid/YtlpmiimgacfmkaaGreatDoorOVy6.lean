/- receipt.link, of any actions. -/
import Derived.StillTailTactics
import Derived.Test.YtlpmiimgacfmkaaGreatDoorOVz2
import Derived.Test.YtlpmiimgacfmkaaGreatDoorOGd
set_option linter.all false
namespace Go.Proofs.YtlpmiimgacfmkaaGreatDoor
set_option maxRecDepth 100000
set_option maxHeartbeats 16000000
open Go.Proofs.Tryz
open Go.RowKit Go.Shelf
def fp(xs:List Nat):List Value:=xs.map λi:Nat=>.int .i64 (i:Int)
theorem iL{a:AG}(h:wfB a=true):∀x∈a.r,checkO x.n=0/\x.v.length<=65536:=λx b=>oneB_facts (ordB_all (wfB_lists h).1 x b)
theorem fV{a:AG}(h:wfB a=true):∀x∈a.w,checkO x.n=0/\x.v.length<=65536:=λx b=>oneB_facts (ordB_all (wfB_lists h).2 x b)
def jD(c:Nat)(h i k n:Value)(o:Option LS)(w:World)(e:Ending)(w':World):Prop:=match o with
 | none=>e=.returned (.tuple #[.map none,.int .i64 10])/\Fr [c] w w'
 | some s=>∃(d g f:Nat) (b a:Option Addr) (l:List CH),e=.returned (.tuple #[.map (some d),.int .i64 0])/\BoxN w' c 64 #[h,i,k,n,.slice b s.lks.length g,.slice a l.length f]/\Rd w' 7 b s.lks.length (s.lks.flatMap LK.cs)/\Rd w' 7 a l.length (l.flatMap CH.cs)/\AsmOf s.asm l/\(∃es,MM 3 (λm:Nat=>.int .i64 (m:Int)) (λ_:Unit=>.bool true) w' d es/\∀j,getM es j=if j∈s.used then some ()else none)/\Fr [c] w w'
theorem fW(l:List AG)(c:List Nat)(i:Nat):∀(r:List CH) (b s:LS),runR l c i r b=some s->s.lks.length=b.lks.length+r.length
 | [],b,s,h=>by rw[runR]at h;rw[<-Option.some.inj h];rfl
 | x::r,b,s,h=>by
  rw[runR]at h;obtain⟨f,a,d⟩:=Option.bind_eq_some_iff.1 h;have e:=fW l c i r f s d;rw[stepR_eq]at a;split at a
  ·cases a
  ·rw[e,<-Option.some.inj a]
   simp;omega
theorem ft{l:List AG}{c:List Nat}(b:∀a∈l,a.r.length<=10):∀ {i:Nat} {s:LS},runA l c i=some s->s.lks.length<=10*i
 | 0,s,h=>by rw[runA]at h;rw[<-Option.some.inj h];simp[ls0]
 | i+1,s,h=>by
  rw[runA]at h;obtain⟨j,d,e⟩:=Option.bind_eq_some_iff.1 h;have k:=ft b d;have f:=fW l c i _ j s e;rw[f]
  cases g:l[i]? with
  | none=>simp;omega
  | some a =>
   have:=b a (lmg g);simp only;omega
def iM(l:List AG)(i:Nat)(a:List CH)(n:ON):Option (Nat × CH):=match wrO a n with
 | some c=>some (i,c)
 | none=>srcAt l i n
theorem jb(l:List AG)(i:Nat):∀n,srcAt l i n=iM l i [] n:=λ_=>rfl
theorem jd{l:List AG}{i:Nat}{a:AG}(h:l[i]?=some a):∀n,iM l i a.w n=srcAt l (i+1) n:=λn=>by rw[srcAt,h];rfl
theorem je{l:List AG}{i j:Nat}{c:List CH}{x:CH}(q:c.Pairwise λa b=>cmpO a.n b.n<0)(g:c[j]?=some x):∀n,(if x.n=n then some (i,x)else iM l i (c.take j) n)=iM l i (c.take (j+1)) n:=λn=>by
 have p:∀y∈c.take j,y.n≠x.n:=λy d f=>by
  obtain⟨k,o,rfl⟩:=List.getElem_of_mem d;have m:=lgs.1 g;rw[List.length_take]at o;have e:=List.pairwise_iff_getElem.1 q k j qo m.1 qo;rw[m.2]at e;rw[List.getElem_take]at f;rw[f,cmpO_self]at e;omega
 unfold iM wrO;rw[List.take_add_one,g,List.find?_append]
 by_cases h:x.n=n
 ·subst h
  rw[if_pos rfl,List.find?_eq_none.2 (λy d=>by simpa using p y d)];simp
 ·rw[if_neg h]
  have:([x]:List CH).find? (λx=>decide (x.n=n))=none:=by simp[h]
  simp only[Option.toList_some,this,Option.or_none]
theorem jf{n:ON}{f:Int}{t:Nat}{a b c d e:Value}(h:encO n=.agg #[a,b,c,d,e]):(⟨f,t,n⟩:LK).cs=[.int .i64 f,.int .i64 (t:Int),a,b,c,d,e]:=by
 unfold encO at h;simp only[Value.agg.injEq,Array.mk.injEq,List.cons.injEq,and_true]at h;obtain⟨rfl,rfl,rfl,rfl,rfl⟩:=h;rfl
theorem eZ(y:CH):∃(b:Int) (d:ByteArray) (c g:Int) (e f:ByteArray) (a:Bool),y.cs=[.int .i64 b,.string d,.int .i64 c,.int .i64 g,.string e,.string f,.bool a]:=⟨_,_,_,_,_,_,_,rfl⟩
theorem jg(u:World):(zeroValue 243).run prog u=.ok (srcV (0,zCH)) u:=by simp[go_sem,srcV,zCH,CH.cs,encN]
theorem jF(c m ic ct ib:Nat)(v0 v1 v3:Value)(D:List Nat)(bt:Option Addr)(ys:List AX)(R:List AG)(w:World)(a8:BoxN w c 64 #[v0,v1,.slice (some ⟨ib,0,none⟩) m ic,v3,.slice none 0 0,.slice none 0 0])
 (ba:Cs w ib (fp D)) (c9:ib≠c) (a7:ActO w bt m ct ys) (aU:ys.map AX.a=R) (dI:∀a∈R,wfB a=true/\a.r.length<=10/\a.w.length<=10) (db:D.length=m) (cX:D.Pairwise (·<·)) (o:m<=12) :
 Calls prog 65 #[.pointer (some ⟨c,0,none⟩),.slice bt m ct] w (jD c v0 v1 (.slice (some ⟨ib,0,none⟩) m ic) v3 (runA R D m) w):=by
 have cP:∀W,Fr [c] w W->ActO W bt m ct ys/\Cs W ib (fp D):=λW hW=>by
  have ds:NoT (91::tyS) w [c]:=NoT.box a8 qd;exact⟨⟨a7.own.frT hW ds qs,λy hy=>(a7.each y hy).frT hW (ds.sub (λt ht=>List.mem_cons_of_mem _ ht)),a7.len⟩,ba.fr hW (by simpa using c9)⟩
 have dl:=run_makeMap w 143;obtain⟨w1,bf⟩:=nmd (w.alloc (.map #[] 0));have dg:MapIs prog 3 w1 w.heap.size []:=by rw[<-bf];exact MapIs.new w
 have aG:Fr [] w w1:=by rw[<-bf];exact(Fq [] w).alloc _
 have eD:w1.heap.size=w.heap.size+1:=by rw[<-bf];simp
 rw[bf]at dl;have dm:=run_makeMap w1 241;obtain⟨w2,bg⟩:=nmd (w1.alloc (.map #[] 0));have dh:MapIs prog 31 w2 w1.heap.size []:=by rw[<-bg];exact MapIs.new w1
 have au:Fr [] w1 w2:=by rw[<-bg];exact(Fq [] w1).alloc _
 have eE:w2.heap.size=w1.heap.size+1:=by rw[<-bg];simp
 rw[bg]at dm;have dn:=run_makeMap w2 149;obtain⟨w3,bh⟩:=nmd (w2.alloc (.map #[] 0));have di:MapIs prog 31 w3 w2.heap.size []:=by rw[<-bh];exact MapIs.new w2
 have bB:Fr [] w2 w3:=by rw[<-bh];exact(Fq [] w2).alloc _
 have cq:w3.heap.size=w2.heap.size+1:=by rw[<-bh];simp
 rw[bh]at dn;have b8:=(aG.then au).then bB;obtain⟨v2,cl⟩:=nmd (Value.slice (some ⟨ib,0,none⟩) m ic);rw[cl]at a8 ⊢;have ax:Hid (LIg w w3 c w.heap.size w1.heap.size w2.heap.size v0 v1 v2 v3 none 0 ls0 (srcAt R 0)):=Hd ⟨a8.fr b8 qs,Own.nil _ _ _,⟨[],MM.nil ((dg.fr au qs).fr bB qs),λj=>by simp[getM,ls0]⟩,⟨[],MM.nil (dh.fr bB qs),λn=>rfl⟩,⟨[],MM.nil di,λn=>rfl,qs⟩,⟨a8.lt,nlr _,qo,qo⟩,by simp[blk],b8.mono qs⟩;have aW:=Hd cP;have V:=Hd (An aU (An dI (An db a7.len)));have cA:=Hd cl;have dV:=Hd cX;clear bf bg bh dg dh di aG au bB eD eE cq a8 ba c9 a7 aU dI db b8 cP cl cX
 go_enter func65,ntmps65
 go_upto_region 4 with fail
 clear dl dm dn;obtain⟨mu,dq⟩:=nmd (w.heap.size);obtain⟨ms,dp⟩:=nmd (w1.heap.size);obtain⟨ma,dj⟩:=nmd (w2.heap.size);rw[dq,dp,dj]at ax ⊢;clear dq dp dj
 go_wp2_with fail
 go_loopw [27] (λi W=>∃(j Y:Nat) (b:Option Addr) (s:LS),j<=m/\i=.int .i64 (j:Int)/\LIg w W c mu ms ma v0 v1 v2 v3 b Y s (srcAt R j)/\runA R D j=some s) (λi _=>m - (intOf i).toNat)
 case atStart=>exact⟨0,0,none,ls0,Nat.zero_le _,rfl,ax.out,rfl⟩
 case round =>
  obtain⟨i,Y,b,s,hi,rfl,ad,dC⟩:=hrel;have Z:=Hd ad;have ay:=Hd dC;clear ad dC
  by_cases df:i<m
  ·have eK:(i:Int)<(m:Int):=qo
   obtain⟨b0,_⟩:=aW.out wr Z.out.fr;have aD:Row wr wr.heap.size 6 bt m (ys.flatMap AX.cs):=by have h:=b0.own.rd;unfold Rd at h;exact h
   obtain⟨g,off,rfl,ev,az⟩:=row_get ax_len aD qo;obtain⟨y,hy⟩:∃x,ys[i]?=some x:=⟨_,lge (by rw[b0.len];exact df)⟩;have co:R[i]?=some y.a:=by rw[<-V.out.1,List.getElem?_map,hy];rfl
   obtain⟨dJ,ch,cm⟩:=V.out.2.1 y.a (lmg co);have ac:=az i y hy;have ak:=Hd (An co (An dJ (An (λW (hW:Fr [c] w W)=>(aW.out W hW).1.each y (lmg hy)) (An ch cm))));obtain⟨ti,dF⟩:=nmd (y.a.k.rnd);obtain⟨ph,dv⟩:=nmd (y.a.k.phase);obtain⟨ix,ba⟩:=nmd (y.a.k.idx);obtain⟨cu,dD⟩:=nmd (y.sl);obtain⟨RA,bV⟩:=nmd (y.A);obtain⟨WA,bX⟩:=nmd (y.B);obtain⟨rc,dx⟩:=nmd (y.c);obtain⟨cv,dH⟩:=nmd (y.d);obtain⟨nr,cc⟩:=nmd (y.a.r.length);obtain⟨nw,cd⟩:=nmd (y.a.w.length);unfold AX.cs at ac;rw[dF,dv,ba,dD,bV,bX,dx,dH,cc,cd]at ac;have al:=Hd (An bV (An bX (An cc cd)));obtain⟨eH,z1,z2,z3,z4,z5⟩:=cx6 ac;obtain⟨u1,dG,eG,nR,cD⟩:=bxz wr #[.int .i64 ti,.int .i64 ph,.int .i64 ix,.string cu,.slice RA nr rc,.slice WA nw cv] 91 wr.heap.size;have aQ:=Z.out.young;clear ac az aD b0 hy co dJ ch cm dF dv ba dD bV bX dx dH cc cd eG
   go_upto_region 7 with fail
   try rw[dG]
   clear eH z1 z2 z3 z4 z5 ev dG;obtain⟨aX,hR⟩:=nmd (wr.heap.size);rw[hR]at nR aQ ⊢;have bp:=Hd (Z.out.fr0 cD);have bs:=Hd (An nR aQ);clear cD nR aQ hR;have r4:=bs.out.1.k4
   go_wp2_with fail
   clear r4;have ch:nr<=10:=by rw[<-al.out.2.2.1];exact ak.out.2.2.2.1
   have cm:nw<=10:=by rw[<-al.out.2.2.2];exact ak.out.2.2.2.2
   go_loopw [35] (λk W=>∃(j Y:Nat) (b:Option Addr) (N:LS),j<=nr/\k=.int .i64 (j:Int)/\LIg w W c mu ms ma v0 v1 v2 v3 b Y N (srcAt R i)/\runR R D i (y.a.r.take j) s=some N/\BoxN W aX 91 #[.int .i64 ti,.int .i64 ph,.int .i64 ix,.string cu,.slice RA nr rc,.slice WA nw cv]) (λk _=>nr - (intOf k).toNat)
   case atStart=>exact⟨0,Y,b,s,Nat.zero_le _,rfl,bp.out,rfl,bs.out.1⟩
   case round =>
    obtain⟨j,Y,b,N,hj,rfl,ad,dB,cN⟩:=hrel;have Z:=Hd ad;have aM:=Hd (An dB cN);clear ad dB cN
    by_cases ex:j<nr
    ·have ez:(j:Int)<(nr:Int):=qo
     have bj:=ak.out.2.2.1 wr Z.out.fr;have aD:Row wr wr.heap.size 7 RA nr (y.a.r.flatMap CH.cs):=by have h:=bj.chr;unfold Chs Rd at h;rw[al.out.1,al.out.2.2.1]at h;exact h
     obtain⟨cB,cC,rfl,b1,az⟩:=row_get ch_len aD qo;obtain⟨x,hx⟩:∃x,y.a.r[j]?=some x:=⟨_,lge (by rw[al.out.2.2.1];exact ex)⟩;obtain⟨bi,bF⟩:=iL ak.out.2.1 x (lmg hx);have ac:=az j x hx;obtain⟨ap,da⟩:∃q,D[i]?=some q:=⟨_,lge (by rw[V.out.2.2.1];exact df)⟩;have HX:=Hd (An hx (An bi (An bF da)));have dW:=Hd (show encO x.n=encO x.n/\chV x=chV x from⟨rfl,rfl⟩);obtain⟨F,aB⟩:=nmd (x.n.kind);obtain⟨G,aC⟩:=nmd (x.n.number);obtain⟨J,aE⟩:=nmd (x.n.index);obtain⟨ag,aO⟩:=nmd (x.a);obtain⟨H,ae,_,_⟩:=str_of x.n.owner;obtain⟨I,L,_,_⟩:=str_of x.n.text;obtain⟨sv,aT,_,_⟩:=str_of x.v;have ao:encO x.n=.agg #[.int .i64 F,.string H,.int .i64 G,.int .i64 J,.string I]:=by unfold encO;rw[aB,aC,aE,ae,L]
     have c0:chV x=.agg #[.int .i64 F,.string H,.int .i64 G,.int .i64 J,.string I,.string sv,.bool ag]:=by unfold chV CH.cs;rw[aB,aC,aE,ae,L,aT,aO]
     have aI:=Hd (An ao c0);unfold CH.cs at ac;rw[aB,aC,aE,ae,L,aT,aO]at ac;obtain⟨y0,y1,y2,y3,y4,y5,y6⟩:=cx7 ac;obtain⟨D0,cF,bk,n0,f0⟩:=bxz wr #[.int .i64 F,.string H,.int .i64 G,.int .i64 J,.string I,.string sv,.bool ag] 95 wr.heap.size;have cb:=Z.out.young;clear ac az aD bj hx bi bF da aB aC aE aO ae L aT ao c0 bk dW
     go_upto_region 10 with fail
     try rw[cF]
     clear y0 y1 y2 y3 y4 y5 y6 b1 cF;obtain⟨aw,hD⟩:=nmd (wr.heap.size);have bz:aX<wr.heap.size:=aM.out.2.lt;have eq:aw ∉ blk b:=λo=>by have:=Z.out.own.lt _ o;omega
     have er:=bz;rw[hD]at n0 cb bz ⊢;have ax:=Hd (Z.out.fr0 f0);have af:=Hd (An n0 (An cb (An (aM.out.2.fr f0 qs) bz)));have ew:=(aW.out D0 ax.out.fr).2;have aA:(fp D)[i]?=some (.int .i64 (ap:Int)):=by unfold fp;rw[List.getElem?_map,HX.out.2.2.2];rfl
     have HSS:=Hd (λ(W:World) (hW:Fr [] D0 W)=>(⟨(ax.out.box.fr hW qs).c 2,((aW.out _ (ax.out.fr0 hW).fr).2).2 i _ aA,(af.out.1.fr hW qs).c 0,(af.out.1.fr hW qs).c 1,(af.out.1.fr hW qs).c 2,(af.out.1.fr hW qs).c 3,(af.out.1.fr hW qs).c 4⟩:W.cell? ⟨c,2,none⟩=some v2/\W.cell? ⟨ib,i,none⟩=some (.int .i64 (ap:Int))/\W.cell? ⟨aw,0,none⟩=some (.int .i64 F)/\W.cell? ⟨aw,1,none⟩=some (.string H)/\W.cell? ⟨aw,2,none⟩=some (.int .i64 G)/\W.cell? ⟨aw,3,none⟩=some (.int .i64 J)/\W.cell? ⟨aw,4,none⟩=some (.string I)));rw[<-cA.out]at HSS;have eO:IntKind.i64.wrap (i:Int)=(i:Int):=by simp[IntKind.wrap,IntKind.bits,IntKind.signed];omega
     have S:Fr [] D0 D0.drew:=(Fq _ D0).drew;clear n0 f0 cb bz hD ew aA er;refine wp_region_head (λW=>Fr [] D0 W) 11 qk ?_ qd
     show headJ 0 ..
     iterate 10 (refine hdL rfl ?_;try simp only[qq])
     refine hO (i:=10) rfl λaq hK=>?_;go_simp
     obtain⟨D1,cG,M,f1⟩:=bxd D0 #[.int .i64 0,.int .i64 0,.int .i64 0,.string ⟨#[]⟩,.int .i64 0,.int .i64 0,.string ⟨#[]⟩] 98;rw[cG];refine hK _ _ f1 ?_;clear hK aq S cG HSS
     try simp only[qq]
     refine headI_done ⟨qk,?_⟩;simp only[qG,qH];obtain⟨Q,cV⟩:=nmd (D0.heap.size);have bR:aw<D0.heap.size:=af.out.1.lt;have bS:∀q∈blk b,q<D0.heap.size:=ax.out.own.lt;rw[cV]at M bR bS ⊢;have bp:=Hd (ax.out.fr0 f1);have HO:=Hd (An af.out.2.1 (An bR (An af.out.2.2.2 (An (show Q ∉ blk b from λo=>Nat.lt_irrefl _ (bS _ o)) eq))));have c1:=af.out.1.fr f1 qs;have bc:=af.out.2.2.1.fr f1 qs;obtain⟨u0,u1,u2,u3,u4,u5,u6⟩:=M.m7;have v0:=M.f 0;have v1:=M.f 1;have v2:=M.f 2;have v3:=M.f 3;have v4:=M.f 4;have v5:=M.f 5;have v6:=M.f 6;clear f1 cV bR bS
     go_upto_region 11 with fail
     obtain⟨D2,a6,n2,f2⟩:=sx7 (D1) (Q) M (.int .i64 (-1)) (.int .i64 (ap:Int)) (.int .i64 F) (.string H) (.int .i64 G) (.int .i64 J) (.string I);rw[a6];clear a6;clear u0 u1 u2 u3 u4 u5 u6 v0 v1 v2 v3 v4 v5 v6;have aL:=Hd (bp.out.putB f2 (by have:=HO.out;omega) HO.out.2.2.2.1);have b5:=c1.fr f2 (by have:=HO.out;simp;omega);have bd:=bc.fr f2 (by have:=HO.out;simp;omega);have aV:=Hd (An b5 (An bd n2));obtain⟨d0,d1,d2,d3,d4,d5,d6⟩:=b5.m7;obtain⟨an,bZ⟩:=nmd (N.asm x.n);obtain⟨K,dE⟩:=nmd (srcAt R i x.n);obtain⟨ya,aU⟩:=nmd (an.getD zCH);have av:=look_asm aL.out x.n HX.out.2.1;rw[bZ,aI.out.1,aU]at av;obtain⟨ec,ee,ed,eh,ef,eg,eb,aH⟩:=eZ ya;unfold chV at av;rw[aH]at av;have aj:=Hd (An dE (An bZ (An aU aH)));clear n2 f2 b5 bd c1 bc M bp af bZ aU aH dE
     go_upto_region 12 with fail
     obtain⟨D3,cH,cq,n3,f3⟩:=bxz D2 #[.int .i64 ec,.string ee,.int .i64 ed,.int .i64 eh,.string ef,.string eg,.bool eb] 95 D2.heap.size;rw[cH];have bI:=Hd (aL.out.fr0 f3);have b6:=aV.out.1.fr f3 qs;have aF:=Hd (An b6 (An (aV.out.2.1.fr f3 qs) (An (aV.out.2.2.fr f3 qs) n3)));have bY:Q<D2.heap.size:=aV.out.2.2.lt;have bT:∀q∈blk b,q<D2.heap.size:=aL.out.own.lt;obtain⟨RB,cL⟩:=nmd (D2.heap.size);rw[cL]at aF bY bT ⊢;have cz:=Hd (An bY (show RB ∉ blk b from λo=>Nat.lt_irrefl _ (bT _ o)));clear d0 d1 d2 d3 d4 d5 d6 av;obtain⟨d0,d1,d2,d3,d4,d5,d6⟩:=b6.m7;obtain⟨cw,cp⟩:=nmd (K.getD (0,zCH));have av:=look_src bI.out x.n HX.out.2.1 (jg D3);rw[aj.out.1,aI.out.1,cp]at av;obtain⟨sk,dR,dQ,dU,dS,dT,dP,ck⟩:=eZ cw.2;unfold srcV at av;rw[ck]at av;have bO:=Hd (An cp ck);clear n3 f3 b6 bY cL cH aV aL cq bT cp ck
     go_upto_region 13 with fail
     obtain⟨D4,cI,eF,n4,f4⟩:=bxz D3 #[.int .i64 (cw.1:Int),.int .i64 sk,.string dR,.int .i64 dQ,.int .i64 dU,.string dS,.string dT,.bool dP] 243 D3.heap.size;rw[cI];have bq:=Hd (bI.out.fr0 f4);have ai:=Hd (An (aF.out.1.fr f4 qs) (An (aF.out.2.1.fr f4 qs) (An (aF.out.2.2.1.fr f4 qs) (aF.out.2.2.2.fr f4 qs))));have bW:RB<D3.heap.size:=aF.out.2.2.2.lt;obtain⟨SB,cO⟩:=nmd (D3.heap.size);rw[cO]at n4 bW ⊢;have HP:=Hd (An HO.out (An cz.out bW));have bM:=Hd n4;clear d0 d1 d2 d3 d4 d5 d6 av n4 f4 bW cO cI aF bI eF cz HO
     go_upto_if 63 with fail
     go_cut [15]from 64 to 81 (λs W=>s=.bool (fndK K an)/\LIg w W c mu ms ma v0 v1 v2 v3 b Y ⟨(nxtS D i N K x).used,(nxtS D i N K x).asm,N.lks⟩ (srcAt R i)/\BoxN W aw 95 #[.int .i64 F,.string H,.int .i64 G,.int .i64 J,.string I,.string sv,.bool ag]/\BoxN W aX 91 #[.int .i64 ti,.int .i64 ph,.int .i64 ix,.string cu,.slice (some ⟨cB,cC,none⟩) nr rc,.slice WA nw cv]/\BoxN W Q 98 #[.int .i64 (fndF D K),.int .i64 (ap:Int),.int .i64 F,.string H,.int .i64 G,.int .i64 J,.string I]/\BoxN W RB 95 (fndV K an).cs.toArray)
     case first =>
      have aQ:=bs.out.2;have dk:=bq.out.d;have hp:=HP.out
      cases K with
      | none =>
       obtain⟨D5,aS,f5,a3⟩:=bq.out.putA x HX.out.2.1 HX.out.2.2.1;rw[aI.out.1,aI.out.2]at aS;obtain⟨d0,d1,d2,d3,d4,d5,d6⟩:=ai.out.1.m7;have U:=Hd (An a3 (An (ai.out.1.fr f5 (by simp;omega)) (An (ai.out.2.1.fr f5 (by simp;omega)) (An (ai.out.2.2.1.fr f5 (by simp;omega)) (ai.out.2.2.2.fr f5 (by simp;omega))))));clear a3 f5 aQ dk hp
       go_wp2_with fail
       go_meet
       refine⟨by simp[fndK],U.out.1,U.out.2.1,U.out.2.2.1,U.out.2.2.2.1,?_⟩
       show BoxN D5 RB 95 (an.getD zCH).cs.toArray
       rw[aj.out.2.2.1,aj.out.2.2.2]
       exact U.out.2.2.2.2
      | some p =>
       obtain⟨sm,y2⟩:=p;obtain rfl:(sm,y2)=cw:=bO.out.1;obtain⟨eM,dN,dL,dO⟩:=srcAt_ok (λa ha=>(V.out.2.1 a ha).1) aj.out.1;obtain⟨qi,cf⟩:∃q,D[sm]?=some q:=⟨_,lge (by rw[V.out.2.2.1];omega)⟩;have c7:fndF D (some (sm,y2))=(qi:Int):=by show ((D.getD sm 0:Nat):Int)=(qi:Int);rw[List.getD_eq_getElem?_getD,cf];rfl
       have cy:=Hd (An cf (An c7 (An dN (An dL dO))));have s0:=bM.out.k0;obtain⟨D5,aS,f5,a3⟩:=bq.out.putU sm qo;have br:=Hd a3;have U:=Hd (An (ai.out.1.fr f5 (by simp;omega)) (An (ai.out.2.1.fr f5 (by simp;omega)) (An (ai.out.2.2.1.fr f5 (by simp;omega)) (An (ai.out.2.2.2.fr f5 (by simp;omega)) (bM.out.fr f5 (by simp;omega))))));have eN:sm<m:=qo
       clear a3 f5 cf c7 dN dL dO aQ dk hp
       go_upto_region 15 with fail
       clear aS s0;have ei:D5.cell? ⟨c,2,none⟩=some (.slice (some ⟨ib,0,none⟩) m ic):=by rw[cA.out];exact br.out.box.c 2
       have i0:D5.cell? ⟨ib,sm,none⟩=some (.int .i64 (qi:Int)):=(aW.out _ br.out.fr).2.2 sm _ (by unfold fp;rw[List.getElem?_map,cy.out.1];rfl);have s0:=U.out.2.2.2.2.k0;have x0:=U.out.2.2.1.k0;have xf:=U.out.2.2.1.f 0;have eC:IntKind.i64.wrap (sm:Int)=(sm:Int):=by simp[IntKind.wrap,IntKind.bits,IntKind.signed];omega
       go_still_tail 8,qk
       go_upto_region 16 with fail
       obtain⟨D6,bw⟩:=nmd ((D5.setCell ⟨Q,0,none⟩ (.int .i64 (qi:Int))).drew);have n6:BoxN D6 Q 98 #[.int .i64 (qi:Int),.int .i64 (ap:Int),.int .i64 F,.string H,.int .i64 G,.int .i64 J,.string I]:=by rw[<-bw];exact(U.out.2.2.1.setAt 0 _).drew
       have f6:Fr [Q] D5 D6:=by rw[<-bw];exact((Fq [Q] D5).st _).drew
       rw[bw];have hp:=HP.out;have dZ:=Hd (br.out.putB f6 qo hp.1.2.2.2.1);have aa:=Hd (An (U.out.1.fr f6 (by simp;omega)) (An (U.out.2.1.fr f6 (by simp;omega)) (An n6 (An (U.out.2.2.2.1.fr f6 (by simp;omega)) (U.out.2.2.2.2.fr f6 (by simp;omega))))));clear n6 f6 bw ei i0 s0 x0 xf eC U br hp;obtain⟨s0,s1,N,s3,s4,s5,s6,s7⟩:=aa.out.2.2.2.2.m8;obtain⟨q0,q1,q2,q3,q4,q5,q6⟩:=aa.out.2.2.2.1.m7;have v0:=aa.out.2.2.2.1.f 0;have v1:=aa.out.2.2.2.1.f 1;have v2:=aa.out.2.2.2.1.f 2;have v3:=aa.out.2.2.2.1.f 3;have v4:=aa.out.2.2.2.1.f 4;have v5:=aa.out.2.2.2.1.f 5;have v6:=aa.out.2.2.2.1.f 6
       go_wp2_with fail
       obtain⟨D7,a6,n7,f7⟩:=sx7 (D6) (RB) aa.out.2.2.2.1 (.int .i64 sk) (.string dR) (.int .i64 dQ) (.int .i64 dU) (.string dS) (.string dT) (.bool dP);rw[a6];clear a6
       go_meet
       have hp:=HP.out;refine⟨by simp[fndK],dZ.out.putB f7 qo hp.2.1.2,aa.out.1.fr f7 (by simp;omega),aa.out.2.1.fr f7 (by simp;omega),?_,?_⟩
       ·rw[cy.out.2.1];exact aa.out.2.2.1.fr f7 (by simp;omega)
       ·show BoxN D7 RB 95 y2.cs.toArray
        rw[show y2.cs=_ from bO.out.2];exact n7
     have E:=Hd hcut.2;obtain rfl:=hcut.1;clear hcut bq ai bM bO;obtain⟨X,hX⟩:=nmd (wc);rw[hX]at E ⊢;clear hX;obtain⟨fk,em,el,ep,en,eo,ek,bC⟩:=eZ (fndV K an);obtain⟨bv,bA⟩:=nmd (fndK K an);obtain⟨bQ,b2⟩:=nmd (decide (fndV K an=x));have ci:=E.out.2.2.2.2;rw[bC]at ci
     have bE:bv=true->∀X,(binOp .neq 95 (.agg #[.int .i64 fk,.string em,.int .i64 el,.int .i64 ep,.string en,.string eo,.bool ek]) (.agg #[.int .i64 F,.string H,.int .i64 G,.int .i64 J,.string I,.string sv,.bool ag])).run prog X=.ok (.bool (!bQ)) X:=λhb X=>by
      have eu:checkO (fndV K an).n=0/\(fndV K an).v.length<=65536:=by
       rw[<-bA]at hb
       cases K with
       | some p=>exact(srcAt_ok (λa ha=>(V.out.2.1 a ha).1) aj.out.1).2.2
       | none =>
        cases an with
        | none=>simp[fndK]at hb
        | some y =>
         obtain⟨e1,e2⟩:=Z.out.asm_ok aj.out.2.1;exact⟨by show checkO y.n=0;rw[e1];exact HX.out.2.1,e2⟩
      have h:=run_neqCH eu.1 HX.out.2.1 qo (by have:=HX.out.2.2.1;omega) X;rw[b2,aI.out.2]at h;unfold chV at h;rw[bC]at h;exact h
     obtain⟨q0,q1,q2,q3,q4,q5,q6⟩:=ci.m7;obtain⟨d0,d1,d2,d3,d4,d5,d6⟩:=E.out.2.1.m7;rw[bA];have bH:=Hd (An bA b2);have dX:=Hd bC;clear bA b2 bC ci
     go_upto_region 18 with fail
     go_cut [87]from 82 to 87 (λs W=>s=.bool (bv && !bQ)/\W=X)
     case first =>
      cases bv with
      | true =>
       replace bE:=bE rfl
       go_wp2_with fail
       go_meet
       exact⟨qs,rfl⟩
      | false =>
       clear bE
       go_wp2_with fail
       go_meet
       exact⟨qs,rfl⟩
     obtain⟨rfl,dK⟩:=hcut;obtain⟨X2,cU⟩:=nmd (wc);rw[cU]at dK ⊢;obtain rfl:=dK;clear cU
     try clear bE
     clear q0 q1 q2 q3 q4 q5 q6 d0 d1 d2 d3 d4 d5 d6;have L:=runR_step aM.out.1 HX.out.1;rw[stepR_eq,aj.out.1,aj.out.2.1,bH.out.1,bH.out.2]at L;obtain⟨gb,c8⟩:=nmd ((bv && !bQ));rw[c8]at L ⊢;have bN:=Hd L;clear L c8
     cases gb with
     | true =>
      go_wp2_with fail
      go_ret2
      have eB:runA R D m=none:=by
       refine runA_none (i:=i+1) qo ?_;rw[runA,ay.out,ak.out.1];refine runR_none (j:=j+1) ?_;rw[bN.out];rfl
      rw[eB]
      exact⟨rfl,E.out.1.fr⟩
     | false =>
      have L:=bN.out;rw[if_neg qs,List.getD_eq_getElem?_getD,HX.out.2.2.2]at L;have ea:=Hd L;clear L bN bH dX
      go_upto_region 20 with fail
      have a9:c ∉ blk b:=λo=>by have h1:=E.out.1.la c o;have h2:=E.out.1.d;omega
      have cM:aX ∉ blk b:=λo=>by
       have:=NoT.own (ts:=[91]) E.out.1.own qd aX o _ _ _ E.out.2.2.1;simp at this
      have cW:Q ∉ blk b:=HP.out.1.2.2.2.1;have HN:=Hd (An a9 (An cM cW));clear a9 cM cW;have HSS:=Hd (λ(W:World) (hW:Fr (blk b) X2 W)=>(⟨(E.out.1.box.fr hW HN.out.1).c 4,(E.out.2.2.2.1.fr hW HN.out.2.2).c 0,(E.out.2.2.2.1.fr hW HN.out.2.2).c 1,(E.out.2.2.2.1.fr hW HN.out.2.2).c 2,(E.out.2.2.2.1.fr hW HN.out.2.2).c 3,(E.out.2.2.2.1.fr hW HN.out.2.2).c 4,(E.out.2.2.2.1.fr hW HN.out.2.2).c 5,(E.out.2.2.2.1.fr hW HN.out.2.2).c 6⟩:W.cell? ⟨c,4,none⟩=some (.slice b N.lks.length Y)/\W.cell? ⟨Q,0,none⟩=some (.int .i64 (fndF D K))/\W.cell? ⟨Q,1,none⟩=some (.int .i64 (ap:Int))/\W.cell? ⟨Q,2,none⟩=some (.int .i64 F)/\W.cell? ⟨Q,3,none⟩=some (.string H)/\W.cell? ⟨Q,4,none⟩=some (.int .i64 G)/\W.cell? ⟨Q,5,none⟩=some (.int .i64 J)/\W.cell? ⟨Q,6,none⟩=some (.string I)));have S:Fr (blk b) X2 X2.drew:=(Fq _ X2).drew;refine wp_region_head (λW=>Fr (blk b) X2 W) 8 qk ?_ qd
      show headJ 0 ..
      iterate 6 (refine hdL rfl ?_;try simp only[qq])
      refine hO (i:=6) rfl λaq hK=>?_;go_simp
      obtain⟨G1,aZ,M,ah⟩:=bxd X2 #[.int .i64 (fndF D K),.int .i64 (ap:Int),.int .i64 F,.string H,.int .i64 G,.int .i64 J,.string I] 98;rw[aZ];refine hK _ _ (ah.mono qs) ?_;clear hK aq aZ S
      try simp only[qq]
      refine hO (i:=7) rfl λaq hK=>?_;obtain⟨ii,aA,bm,bn,bo⟩:=info_link;have a4:=E.out.1.own.fr ah qs;have dd:=jf (f:=fndF D K) (t:=ap) aI.out.1
      have eA:N.lks.length<=1000:=by
       have h1:=ft (λa ha=>(V.out.2.1 a ha).2.1) ay.out;have h2:=fW _ _ _ _ _ _ aM.out.1;have h3:(y.a.r.take j).length<=10:=by rw[List.length_take];omega
       omega
      refine wp_app (.tmp 92) (.tmp 94) 61 rfl 98 ii _ 7 72 underlying61 aA bm bn bo rfl qd b N.lks.length Y (N.lks.flatMap LK.cs) rfl a4 ⟨X2.heap.size,0,none⟩ 1 1 (⟨fndF D K,ap,x.n⟩:LK).cs rfl rfl (λj u hu=>by rw[dd]at hu;rw[add_mid',M.c j];simpa using hu) (lk_one _) (by unfold maxLen;omega) qo ?_;intro bu cr G2 bb au aY;have S:Fr (blk b) X2 G2:=(ah.mono qs).then au;refine hK _ _ S ?_;clear hK aq
      try simp only[qq]
      refine headI_done ⟨qk,?_⟩;simp only[qG,qH];have ar:=E.out.1.box.fr S HN.out.1;have bd:=E.out.2.2.1.fr S HN.out.2.1;have q0:=ar.k4;have q1:=ar.f 4;have cE:∀q∈blk bu,q∈blk b \/ X2.heap.size<=q:=λq T=>(aY q T).imp id λh=>Nat.le_trans ah.size h;have aK:=Hd (An S (An ar (An bd (An bb cE))));clear S ah M au aY cE bb HSS bm bn bo aA a4 dd ar bd
      go_upto_region 21 with fail
      obtain⟨G3,bx⟩:=nmd (G2.setCell ⟨c,4,none⟩ (.slice bu (N.lks.length+1) cr));have n3:=aK.out.2.1.setAt 4 (.slice bu (N.lks.length+1) cr);have f3:Fr [c] G2 G3:=by rw[<-bx];exact(Fq [c] G2).st _
      rw[bx]at n3
      try rw[bx]
      have bJ:=Hd (E.out.1.putL ⟨fndF D K,ap,x.n⟩ aK.out.1 aK.out.2.2.2.1 aK.out.2.2.2.2 f3 n3);have d7:=Hd (aK.out.2.2.1.fr f3 (by have h1:=bs.out.2;have h2:=E.out.1.d;simp;omega));clear q0 q1 bx n3 f3 aK
      go_wp2_with fail
      go_roundw
      case rel=>exact⟨j+1,cr,bu,_,qo,by go_num,bJ.out,ea.out,d7.out⟩
      case measure=>simp[intOf];omega
    ·obtain rfl:j=nr:=qo
     have r5:=aM.out.2.k5
     go_upto_region 22 with fail
     go_wp2_with fail
     clear r5
     go_loopw [102] (λk W=>∃(j:Nat),j<=nw/\k=.int .i64 (j:Int)/\LIg w W c mu ms ma v0 v1 v2 v3 b Y N (iM R i (y.a.w.take j))) (λk _=>nw - (intOf k).toNat)
     case atStart=>exact⟨0,Nat.zero_le _,rfl,Z.out.congr (jb R i)⟩
     case round =>
      obtain⟨j2,eJ,rfl,ad⟩:=hrel;have bK:=Hd ad;clear ad
      rename World=>wq
      by_cases ey:j2<nw
      ·have ez:(j2:Int)<(nw:Int):=qo
       have bj:=ak.out.2.2.1 wq bK.out.fr;have aD:Row wq wq.heap.size 7 WA nw (y.a.w.flatMap CH.cs):=by have h:=bj.chw;unfold Chs Rd at h;rw[al.out.2.1,al.out.2.2.2]at h;exact h
       obtain⟨cB,cC,rfl,b1,az⟩:=row_get ch_len aD qo;obtain⟨x,hx⟩:∃x,y.a.w[j2]?=some x:=⟨_,lge (by rw[al.out.2.2.2];exact ey)⟩;obtain⟨bi,bF⟩:=fV ak.out.2.1 x (lmg hx);have ac:=az j2 x hx;obtain⟨F,aB⟩:=nmd (x.n.kind);obtain⟨G,aC⟩:=nmd (x.n.number);obtain⟨J,aE⟩:=nmd (x.n.index);obtain⟨ag,aO⟩:=nmd (x.a);obtain⟨H,ae,_,_⟩:=str_of x.n.owner;obtain⟨I,L,_,_⟩:=str_of x.n.text;obtain⟨sv,aT,_,_⟩:=str_of x.v;have ao:encO x.n=.agg #[.int .i64 F,.string H,.int .i64 G,.int .i64 J,.string I]:=by unfold encO;rw[aB,aC,aE,ae,L]
       have b4:x.cs=[.int .i64 F,.string H,.int .i64 G,.int .i64 J,.string I,.string sv,.bool ag]:=by unfold CH.cs;rw[aB,aC,aE,ae,L,aT,aO]
       rw[b4]at ac;obtain⟨y0,y1,y2,y3,y4,y5,y6⟩:=cx7 ac;obtain⟨U0,a5,bk,n0,f0⟩:=bxz wq #[.int .i64 F,.string H,.int .i64 G,.int .i64 J,.string I,.string sv,.bool ag] 95 wq.heap.size;obtain⟨U1,aS,f1,cJ⟩:=(bK.out.fr0 f0).putS x.n (i,x) bi;have cK:=cJ.congr (je (ordB_ne (wfB_lists ak.out.2.1).2) hx);unfold srcV at aS;rw[ao,b4]at aS;have aL:=Hd cK;clear ac az aD bj hx bi bF aB aC aE aO ae L aT ao b4 bk cJ cK
       go_upto_region 25 with fail
       try rw[a5]
       clear y0 y1 y2 y3 y4 y5 y6 b1 a5;obtain⟨d0,d1,d2,d3,d4,d5,d6⟩:=n0.m7
       go_wp2_with fail
       go_roundw
       case rel=>exact⟨j2+1,qo,by go_num,aL.out⟩
       case measure=>simp[intOf];omega
      ·obtain rfl:j2=nw:=qo
       have ad:=bK.out;rw[List.take_of_length_le (by rw[al.out.2.2.2];exact nlr _)]at ad;have bJ:=Hd (ad.congr (jd ak.out.1))
       have dw:runA R D (i+1)=some N:=by
        have h:=aM.out.1;rw[List.take_of_length_le (by rw[al.out.2.2.1];exact nlr _)]at h;rw[runA,ay.out,ak.out.1];exact h
       have d8:=Hd dw;clear ad dw
       go_wp2_with fail
       go_roundw
       case rel=>exact⟨i+1,Y,b,N,qo,by go_num,bJ.out,d8.out⟩
       case measure=>simp[intOf];omega
  ·obtain rfl:i=m:=qo
   rw[ay.out]
   go_upto_region 28 with fail
   obtain⟨es,bD,b9,dc⟩:=Z.out.am;obtain⟨V0,dy,c5,bU⟩:=run_rangeM (P:=prog) (q:=encO) (f:=chV) (t:=149) underlying149 (by obtain⟨ej,clock,h1,h2,_,h4⟩:=bD.map;exact⟨ej,clock,h1,h2,h4⟩);have et:=asm_len ay.out (λa ha=>(V.out.2.1 a ha).2.1) b9 bD.nd
   have c3:es.length<=1000:=by
    have h1:R.length=i:=by rw[<-V.out.1,List.length_map];exact V.out.2.2.2
    omega
   have aJ:=Hd (An bD.nd (An b9 (An dc c3)));have ca:∀q∈blk b,q<wr.heap.size:=Z.out.own.lt;have cn:=Z.out.young;obtain⟨ri,dz⟩:=nmd (wr.heap.size);rw[dz]at dy bU ca cn
   have dY:Hid (RIg w V0 c mu ma ri v0 v1 v2 v3 b none Y 0 s es []):=by
    have h:=Z.out.fr0 c5;have hd:=h.d;exact Hd ⟨h.box,h.own,Own.nil _ _ _,λ_=>⟨rfl,rfl⟩,h.um,bU,⟨hd.1,hd.2.1,qo,cn⟩,λq T=>⟨h.la q T,ca q T⟩,by simp[blk],h.fr⟩
   clear bD b9 dc c5 bU et c3 ca cn dz
   go_wp2_with fail
   clear dy
   go_loopw [116] (λ_ W=>∃(aN:Nat) (O:Option Addr) (l:List (ON × CH)),RIg w W c mu ma ri v0 v1 v2 v3 b O Y aN s es l) (λ_ W=>leftN W ri ma)
   case atStart=>exact⟨0,none,[],dY.out⟩
   case round =>
    obtain⟨aN,O,l,dA⟩:=hrel
    rename World=>wq
    have z:=Hd dA;clear dA
    rcases z.out.rg.step (P:=prog)with⟨du,aR⟩|⟨e,W1,c2,aR,ao,aG,bc⟩
    ·have bL:=Hd du
     clear du;have eL:=bL.out.length_eq
     have dt:∀x∈l.map Prod.snd,checkO x.n=0:=λx hx=>by
      obtain⟨e,he,rfl⟩:=List.mem_map.1 hx;have h:=aJ.out.2.2.1 e (bL.out.symm.subset he);rw[h.1];exact h.2.2
     have cj:=SortA_g O aN (l.map Prod.snd) wq dt (by rw[List.length_map];have:=aJ.out.2.2.2;omega) (by rw[List.length_map,List.flatMap_map];exact z.out.oa);rw[List.length_map]at cj;have aj:=Hd cj;have q5:=z.out.box.k5;clear cj dt
     go_upto_region 33 with(go_at_call 128;(with_reducible refine aj.out.mono ?_);rintro e X1 ⟨rfl,ys,hp,hs,be,hf⟩;have HP:=Hd (An hp (An hs (An be hf)));clear hp hs be hf q5)
     clear aR;have ae:=runA_sorted (λa ha=>(V.out.2.1 a ha).1) dV.out (by rw[<-V.out.1,List.length_map,V.out.2.2.2,V.out.2.2.1]) ay.out;have de:s.lks.length<=1000000:=by have:=ft (λa ha=>(V.out.2.1 a ha).2.1) ay.out;omega
     have b7:∀q∈blk b,q ∉ blk O:=λq T o=>by have h1:=z.out.la q T;have h2:=z.out.ab q o;omega
     have b3:c ∉ blk O:=λo=>by have h1:=z.out.d;have h2:=z.out.ab c o;omega
     have cY:c ∉ blk b:=λo=>by have h1:=z.out.d;have h2:=z.out.la c o;omega
     have d9:=Hd (SortB_g b Y s.lks X1 ae.2.1 ae.1 de (z.out.own.fr HP.out.2.2.2 b7));have aP:=z.out.box.fr HP.out.2.2.2 b3;have q4:=aP.k4;have C:=Hd (An aP (An b3 (An cY b7)));clear ae de b7 b3 cY aP
     go_upto_region 34 with(go_at_call 130;(with_reducible refine d9.out.mono ?_);rintro e X2 ⟨rfl,be,hf⟩;have HQ:=Hd (An be hf);clear be hf q4)
     go_wp2_with fail
     go_ret2
     have dM:ys.length=l.length:=by rw[HP.out.1.length_eq,List.length_map]
     have hd:=z.out.d;obtain⟨e1,m1,g1⟩:=z.out.um;rw[ay.out];refine⟨mu,Y,aN,b,O,ys,rfl,?_,HQ.out.1,?_,asm_of aJ.out.2.1 aJ.out.2.2.1 aJ.out.1 bL.out HP.out.1 HP.out.2.1,⟨e1,(m1.fr HP.out.2.2.2 (λo=>by have:=z.out.ab mu o;omega)).fr HQ.out.2 (λo=>by have:=z.out.la mu o;omega),g1⟩,(z.out.fr.trans HP.out.2.2.2 (λq T=>.inr (by have:=z.out.ab q T;omega))).trans HQ.out.2 (λq T=>.inr (by have:=z.out.la q T;omega))⟩
     ·rw[dM]
      exact C.out.1.fr HQ.out.2 C.out.2.2.1
     ·rw[dM]
      exact HP.out.2.2.1.fr HQ.out.2 (λq T o=>C.out.2.2.2 q o T)
    ·obtain⟨F,H,G,J,I,sv,ag,aH⟩:=eZ e.2
     unfold chV at aR ao;rw[aH]at aR ao;have HE:=Hd (An c2 (An aG (An bc aH)));have cZ:c≠ri:=by have:=z.out.d;omega
     have aP:=z.out.box.fr aG (by simpa using cZ);have ce:=z.out.oa.fr aG (λq T o=>by have:=z.out.ab q T;simp at o;omega);clear c2 aG bc aH cZ;obtain⟨eI,c4⟩:=nmd (encO e.1);rw[c4]at aR ao;clear c4;obtain⟨U0,a5,bk,n0,f0⟩:=bxz W1 #[.int .i64 F,.string H,.int .i64 G,.int .i64 J,.string I,.string sv,.bool ag] 95 W1.heap.size
     go_upto_region 31 with fail
     try rw[a5]
     clear aR ao a5;have a9:c ∉ blk O:=λo=>by have h1:=z.out.d;have h2:=z.out.ab c o;omega
     have cS:∀q∈blk O,q<W1.heap.size:=ce.lt;obtain⟨TB,cR⟩:=nmd (W1.heap.size);have cQ:TB ∉ blk O:=λo=>by have:=cS TB o;omega
     have cT:W1.heap.size<=U0.heap.size:=f0.size;rw[cR]at n0 ⊢;have C:=Hd (An (aP.fr f0 qs) (An n0 (An (ce.fr f0 qs) (An a9 (An cQ f0)))));clear aP n0 ce a9 cQ f0 cS cR bk;have HSS:=Hd (λ(W:World) (hW:Fr (blk O) U0 W)=>(⟨(C.out.1.fr hW C.out.2.2.2.1).c 5,(C.out.2.1.fr hW C.out.2.2.2.2.1).c 0,(C.out.2.1.fr hW C.out.2.2.2.2.1).c 1,(C.out.2.1.fr hW C.out.2.2.2.2.1).c 2,(C.out.2.1.fr hW C.out.2.2.2.2.1).c 3,(C.out.2.1.fr hW C.out.2.2.2.2.1).c 4,(C.out.2.1.fr hW C.out.2.2.2.2.1).c 5,(C.out.2.1.fr hW C.out.2.2.2.2.1).c 6⟩:W.cell? ⟨c,5,none⟩=some (.slice O l.length aN)/\W.cell? ⟨TB,0,none⟩=some (.int .i64 F)/\W.cell? ⟨TB,1,none⟩=some (.string H)/\W.cell? ⟨TB,2,none⟩=some (.int .i64 G)/\W.cell? ⟨TB,3,none⟩=some (.int .i64 J)/\W.cell? ⟨TB,4,none⟩=some (.string I)/\W.cell? ⟨TB,5,none⟩=some (.string sv)/\W.cell? ⟨TB,6,none⟩=some (.bool ag)));have S:Fr (blk O) U0 U0.drew:=(Fq _ U0).drew;refine wp_region_head (λW=>Fr (blk O) U0 W) 8 qk ?_ qd
     show headJ 0 ..
     iterate 6 (refine hdL rfl ?_;try simp only[qq])
     refine hO (i:=6) rfl λaq hK=>?_;go_simp
     obtain⟨G1,aZ,M,ah⟩:=bxd U0 #[.int .i64 F,.string H,.int .i64 G,.int .i64 J,.string I,.string sv,.bool ag] 95;rw[aZ];refine hK _ _ (ah.mono qs) ?_;clear hK aq aZ S
     try simp only[qq]
     refine hO (i:=7) rfl λaq hK=>?_;obtain⟨ii,aA,bm,bn,bo⟩:=info_chg;have a4:=C.out.2.2.1.fr ah qs;have eA:l.length<=1000:=by have h1:=z.out.rg.left;have h2:=aJ.out.2.2.2;omega
     refine wp_app (.tmp 124) (.tmp 126) 62 rfl 95 ii _ 7 80 underlying62 aA bm bn bo rfl qd O l.length aN (l.flatMap λe=>e.2.cs) rfl a4 ⟨U0.heap.size,0,none⟩ 1 1 e.2.cs rfl rfl (λj u hu=>by rw[HE.out.2.2.2]at hu;rw[add_mid',M.c j];simpa using hu) (cs_one _) (by unfold maxLen;omega) qo ?_;intro bG bP G2 bb au aY;have S:Fr (blk O) U0 G2:=(ah.mono qs).then au;refine hK _ _ S ?_;clear hK aq
     try simp only[qq]
     refine headI_done ⟨qk,?_⟩;simp only[qG,qH];have ar:=C.out.1.fr S C.out.2.2.2.1;have q0:=ar.k5;have q1:=ar.f 5;have c6:Fr (blk O) W1 G2:=(C.out.2.2.2.2.2.mono qs).then S;have dr:=z.out.put HE.out.2.1 HE.out.2.2.1 c6 bb (λq T=>(aY q T).imp id λh=>Nat.le_trans cT (Nat.le_trans ah.size h)) ((Fq [c] G2).set (p:=⟨c,5,none⟩) (.inl qs) (.slice bG (l.length+1) bP)) (ar.setAt 5 (.slice bG (l.length+1) bP));have cx:=Hd dr;clear S ah M au aY bb HSS bm bn bo aA a4 ar c6 dr cT
     go_wp2_with fail
     go_roundw
     case rel=>exact⟨bP,bG,l++[e],cx.out⟩
     case measure =>
      have h1:=cx.out.rg.left;have h2:=z.out.rg.left;rw[lla,List.length_singleton]at h1;omega
set_option maxRecDepth 512
set_option maxHeartbeats 200000
def fc(nm:ON)(P:Nat)(is:List Nat)(l:List AG):Except Int (UInt8 × LS) :=
 if ascB is=false then .error 32 else
 match l.getLast?.bind λa=>wrO a.w nm with
 | none=>.error 8
 | some c=>if c.a=true \/ c.v.length<=P then .error 8 else
  match runA l is l.length with
  | none=>.error 10
  | some s=>if(List.range (l.length - 1)).all (λi=>decide (i∈s.used))=true then .ok (c.v.getD P 0,s)else .error 33
def iO(a:AG):List Value:=[.int .i64 a.k.rnd,.int .i64 a.k.phase,.int .i64 a.k.idx,encN a.k.lin]
def fe:Value:=.agg #[.int .u8 0,.int .i64 0,.slice none 0 0,.slice none 0 0,.slice none 0 0,.slice none 0 0]
structure ConV(w:World)(is:List Nat)(l:List AG)(b:UInt8)(s:LS)(v:Value):Prop where
 ex:∃(I K LA AA:Option Addr) (ic kc lc ac:Nat) (asm:List CH),v=.agg #[.int .u8 (b.toNat:Int),.int .i64 ((is.getLastD 0:Nat):Int),.slice I is.length ic,.slice K l.length kc,.slice LA s.lks.length lc,.slice AA asm.length ac]/\Rd w 1 I is.length (fp is)/\Rd w 4 K l.length (l.flatMap iO)/\Rd w 7 LA s.lks.length (s.lks.flatMap LK.cs)/\Rd w 7 AA asm.length (asm.flatMap CH.cs)/\AsmOf s.asm asm
def fx(nm:ON)(P:Nat)(is:List Nat)(l:List AG)(w:World)(e:Ending)(w':World):Prop:=match fc nm P is l with
 | .error k=>e=.returned (.tuple #[fe,.int .i64 k])/\Fr [] w w'
 | .ok (b,s)=>∃v,e=.returned (.tuple #[v,.int .i64 0])/\ConV w' is l b s v/\Fr [] w w'
end Go.Proofs.YtlpmiimgacfmkaaGreatDoor
