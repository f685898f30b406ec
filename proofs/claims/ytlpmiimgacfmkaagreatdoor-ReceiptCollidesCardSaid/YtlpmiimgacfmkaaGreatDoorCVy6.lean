/- Part of the proof. -/
import Derived.Test.YtlpmiimgacfmkaaGreatDoorCVz2
set_option linter.all false
set_option maxHeartbeats 16000000
set_option maxRecDepth 100000
namespace Go.Proofs.YtlpmiimgacfmkaaGreatDoor
open Go.Proofs.Tryz List
open Go.RowKit Go.Shelf
def tt(xs:List Nat):List Value:=xs.map λi:Nat=>.int .i64 (i:Int)
def Cj{a:AG}(h:l6 a=true):∀x∈a.r,eY x.n=0/\x.v.length<=65536:=λx b=>iT (gG (gr h).1 x b)
def sO{a:AG}(h:l6 a=true):∀x∈a.w,eY x.n=0/\x.v.length<=65536:=λx b=>iT (gG (gr h).2 x b)
def GL(c:Nat)(h i k n:Value)(o:Option LS)(w:World)(e:Ending)(w':World):Prop:=match o with
 | none=>e=.returned (.tuple #[.map none,.int .i64 10])/\Fr [c] w w'
 | some s=>∃(d g f:Nat) (b a:Option Addr) (l:List CH),e=.returned (.tuple #[.map (some d),.int .i64 0])/\BoxN w' c 64 #[h,i,k,n,.slice b s.lks.length g,.slice a l.length f]/\Rd w' 7 b s.lks.length (s.lks.flatMap LK.cs)/\Rd w' 7 a l.length (l.flatMap CH.cs)/\Ao s.asm l/\(∃es,MM 3 (λm:Nat=>.int .i64 (m:Int)) (λ_:Unit=>.bool true) w' d es/\∀j,jd es j=if j∈s.used then some ()else none)/\Fr [c] w w'
def sP(l:List AG)(c:List Nat)(i:Nat):∀(r:List CH) (b s:LS),kB l c i r b=some s->s.lks.length=b.lks.length+r.length
 | [],b,s,h=>by rw[kB]at h;rw[<-Option.some.inj h];rfl
 | x::r,b,s,h=>by
  rw[kB]at h;have⟨f,a,d⟩:=Option.bind_eq_some_iff.1 h;have e:=sP l c i r f s d;rw[nT]at a;split at a
  ·cases a
  ·rw[e,<-Option.some.inj a]
   simp;omega
def sQ{K:Nat}{l:List AG}{c:List Nat}(b:∀a∈l,a.r.length<=K):∀ {i:Nat} {s:LS},j0 l c i=some s->s.lks.length<=K*i
 | 0,s,h=>by rw[j0]at h;rw[<-Option.some.inj h];simp[GQ]
 | i+1,s,h=>by
  rw[j0]at h;have⟨j,d,e⟩:=Option.bind_eq_some_iff.1 h;have k:=sQ b d;have f:=sP l c i _ j s e;rw[f,Nat.mul_succ]
  cases g:l[i]? with
  | none=>simp;omega
  | some a =>
   have:=b a (gH g);simp only;omega
def Ck(l:List AG)(i:Nat)(a:List CH)(n:ON):Option (Nat × CH):=match uo a n with
 | some c=>some (i,c)
 | none=>i7 l i n
def Er(l:List AG)(i:Nat):∀n,i7 l i n=Ck l i [] n:=λ_=>rfl
def Es{l:List AG}{i:Nat}{a:AG}(h:l[i]?=some a):∀n,Ck l i a.w n=i7 l (i+1) n:=λn=>by rw[i7,h];rfl
def Et{l:List AG}{i j:Nat}{c:List CH}{x:CH}(q:c.Pairwise λa b=>gD a.n b.n<0)(g:c[j]?=some x):∀n,(if x.n=n then some (i,x)else Ck l i (c.take j) n)=Ck l i (c.take (j+1)) n:=λn=>by
 have p:∀y∈c.take j,y.n≠x.n:=λy d f=>by
  obtain⟨k,o,rfl⟩:=getElem_of_mem d;have m:=gV.1 g;rw[length_take]at o;have e:=pairwise_iff_getElem.1 q k j qo m.1 qo;rw[m.2]at e;rw[getElem_take]at f;rw[f,mH]at e;omega
 unfold Ck uo;rw[take_add_one,g,List.find?_append]
 by_cases h:x.n=n
 ·subst h
  rw[if_pos rfl,List.find?_eq_none.2 (λy d=>by simpa using p y d)];simp
 ·rw[if_neg h]
  have:([x]:List CH).find? (λx=>decide (x.n=n))=none:=by simp[h]
  simp only[Option.toList_some,this,Option.or_none]
def Eu{n:ON}{f:Int}{t:Nat}{a b c d e:Value}(h:fu n=.agg #[a,b,c,d,e]):(⟨f,t,n⟩:LK).cs=[.int .i64 f,.int .i64 (t:Int),a,b,c,d,e]:=by
 unfold fu at h;simp only[Value.agg.injEq,Array.mk.injEq,List.cons.injEq,and_true]at h;obtain⟨rfl,rfl,rfl,rfl,rfl⟩:=h;rfl
def lo(y:CH):∃(b:Int) (d:ByteArray) (c g:Int) (e f:ByteArray) (a:Bool),y.cs=[.int .i64 b,.string d,.int .i64 c,.int .i64 g,.string e,.string f,.bool a]:=⟨_,_,_,_,_,_,_,rfl⟩
def Ev(u:World):(zeroValue 243).run prog u=.ok (vP (0,EP)) u:=by simp[go_sem,vP,EP,CH.cs,fg]
def Hn(c m ic cr ib:Nat)(v0 v1 v3:Value)(D:List Nat)(L:Option Addr)(ys:List AX)(Q:List AG)(w:World)(a8:BoxN w c 64 #[v0,v1,.slice (some ⟨ib,0,none⟩) m ic,v3,.slice none 0 0,.slice none 0 0])
 (ba:Cs w ib (tt D)) (c8:ib≠c) (a7:ActO w L m cr ys) (aU:ys.map AX.a=Q) (dH:∀a∈Q,l6 a=true/\a.r.length<=2000000/\a.w.length<=2000000) (da:D.length=m) (cW:D.Pairwise (·<·)) (o:m<=13) :
 Calls prog 65 #[.pointer (some ⟨c,0,none⟩),.slice L m cr] w (GL c v0 v1 (.slice (some ⟨ib,0,none⟩) m ic) v3 (j0 Q D m) w):=by
 have cO:∀W,Fr [c] w W->ActO W L m cr ys/\Cs W ib (tt D):=λW hW=>by
  have dr:NoT (91::xW) w [c]:=NoT.box a8 qd;exact⟨⟨a7.own.frT hW dr qs,λy hy=>(a7.each y hy).frT hW (dr.sub (λt ht=>mem_cons_of_mem _ ht)),a7.len⟩,ba.fr hW (by simpa using c8)⟩
 have dk:=gy w 143;have⟨w1,bf⟩:=eR (w.alloc (.map #[] 0));have df:MapIs prog 3 w1 w.heap.size []:=by rw[<-bf];exact MapIs.new w
 have aG:Fr [] w w1:=by rw[<-bf];exact(Fq [] w).alloc _
 have eC:w1.heap.size=w.heap.size+1:=by rw[<-bf];simp
 rw[bf]at dk;have dl:=gy w1 241;have⟨w2,bg⟩:=eR (w1.alloc (.map #[] 0));have dg:MapIs prog 31 w2 w1.heap.size []:=by rw[<-bg];exact MapIs.new w1
 have au:Fr [] w1 w2:=by rw[<-bg];exact(Fq [] w1).alloc _
 have eD:w2.heap.size=w1.heap.size+1:=by rw[<-bg];simp
 rw[bg]at dl;have dm:=gy w2 149;have⟨w3,bh⟩:=eR (w2.alloc (.map #[] 0));have dh:MapIs prog 31 w3 w2.heap.size []:=by rw[<-bh];exact MapIs.new w2
 have bA:Fr [] w2 w3:=by rw[<-bh];exact(Fq [] w2).alloc _
 have cp:w3.heap.size=w2.heap.size+1:=by rw[<-bh];simp
 rw[bh]at dm;have b7:=(aG.then au).then bA;have⟨v2,ck⟩:=eR (Value.slice (some ⟨ib,0,none⟩) m ic);rw[ck]at a8 ⊢;have ax:Hid (LIg w w3 c w.heap.size w1.heap.size w2.heap.size v0 v1 v2 v3 none 0 GQ (i7 Q 0)):=Hd ⟨a8.fr b7 qs,Own.nil _ _ _,⟨[],MM.nil ((df.fr au qs).fr bA qs),λj=>by simp[jd,GQ]⟩,⟨[],MM.nil (dg.fr bA qs),λn=>rfl⟩,⟨[],MM.nil dh,λn=>rfl,qs⟩,⟨a8.lt,fW _,qo,qo⟩,by simp[eX],b7.mono qs⟩;have aW:=Hd cO;have U:=Hd (An aU (An dH (An da a7.len)));have cz:=Hd ck;have dU:=Hd cW;clear bf bg bh df dg dh aG au bA eC eD cp a8 ba c8 a7 aU dH da b7 cO ck cW
 go_enter func65,ntmps65
 go_upto_region 4 with fail
 clear dk dl dm;have⟨mu,dp⟩:=eR (w.heap.size);have⟨ms,dn⟩:=eR (w1.heap.size);have⟨ma,di⟩:=eR (w2.heap.size);rw[dp,dn,di]at ax ⊢;clear dp dn di
 go_wp2
 go_loopw [27] (λi W=>∃(j V:Nat) (b:Option Addr) (s:LS),j<=m/\i=.int .i64 (j:Int)/\LIg w W c mu ms ma v0 v1 v2 v3 b V s (i7 Q j)/\j0 Q D j=some s) (λi _=>m - (intOf i).toNat)
 case atStart=>exact⟨0,0,none,GQ,Nat.zero_le _,rfl,ax.out,rfl⟩
 case round =>
  obtain⟨i,V,b,s,hi,rfl,ad,dB⟩:=hrel;have Y:=Hd ad;have ay:=Hd dB;clear ad dB
  by_cases de:i<m
  ·have eJ:(i:Int)<(m:Int):=qo
   have⟨bZ,_⟩:=aW.out wr Y.fr;have aD:Row wr wr.heap.size 6 L m (ys.flatMap AX.cs):=by have h:=bZ.own.rd;unfold Rd at h;exact h
   obtain⟨g,off,rfl,eu,az⟩:=fK lx aD qo;obtain⟨y,hy⟩:∃x,ys[i]?=some x:=⟨_,gg (by rw[bZ.len];exact de)⟩;have cn:Q[i]?=some y.a:=by rw[<-U.1,List.getElem?_map,hy];rfl
   have⟨dI,cf,cl⟩:=U.2.1 y.a (gH cn);have ac:=az i y hy;have ak:=Hd (An cn (An dI (An (λW (hW:Fr [c] w W)=>(aW.out W hW).1.each y (gH hy)) (An cf cl))));have⟨ti,dE⟩:=eR (y.a.k.rnd);have⟨ph,du⟩:=eR (y.a.k.phase);have⟨ix,ba⟩:=eR (y.a.k.idx);have⟨ct,dC⟩:=eR (y.sl);have⟨RA,bU⟩:=eR (y.A);have⟨WA,bW⟩:=eR (y.B);have⟨rc,dw⟩:=eR (y.c);have⟨cu,dG⟩:=eR (y.d);have⟨nr,cb⟩:=eR (y.a.r.length);have⟨nw,cc⟩:=eR (y.a.w.length);unfold AX.cs at ac;rw[dE,du,ba,dC,bU,bW,dw,dG,cb,cc]at ac;have al:=Hd (An bU (An bW (An cb cc)));have⟨eG,z1,z2,z3,z4,z5⟩:=Jl ac;have⟨u1,dF,eF,nR,cC⟩:=ir wr #[.int .i64 ti,.int .i64 ph,.int .i64 ix,.string ct,.slice RA nr rc,.slice WA nw cu] 91 wr.heap.size;have aQ:=Y.young;clear ac az aD bZ hy cn dI cf cl dE du ba dC bU bW dw dG cb cc eF
   go_upto_region 7 with fail
   try rw[dF]
   clear eG z1 z2 z3 z4 z5 eu dF;have⟨aX,hR⟩:=eR (wr.heap.size);rw[hR]at nR aQ ⊢;have bp:=Hd (Y.fr0 cC);have bs:=Hd (An nR aQ);clear cC nR aQ hR;have r4:=bs.1.k4
   go_wp2
   clear r4;have cf:nr<=2000000:=by rw[<-al.2.2.1];exact ak.2.2.2.1
   have cl:nw<=2000000:=by rw[<-al.2.2.2];exact ak.2.2.2.2
   go_loopw [35] (λk W=>∃(j V:Nat) (b:Option Addr) (M:LS),j<=nr/\k=.int .i64 (j:Int)/\LIg w W c mu ms ma v0 v1 v2 v3 b V M (i7 Q i)/\kB Q D i (y.a.r.take j) s=some M/\BoxN W aX 91 #[.int .i64 ti,.int .i64 ph,.int .i64 ix,.string ct,.slice RA nr rc,.slice WA nw cu]) (λk _=>nr - (intOf k).toNat)
   case atStart=>exact⟨0,V,b,s,Nat.zero_le _,rfl,bp.out,rfl,bs.1⟩
   case round =>
    obtain⟨j,V,b,M,hj,rfl,ad,dA,cM⟩:=hrel;have Y:=Hd ad;have aM:=Hd (An dA cM);clear ad dA cM
    by_cases ew:j<nr
    ·have ey:(j:Int)<(nr:Int):=qo
     have bj:=ak.2.2.1 wr Y.fr;have aD:Row wr wr.heap.size 7 RA nr (y.a.r.flatMap CH.cs):=by have h:=bj.chr;unfold Chs Rd at h;rw[al.1,al.2.2.1]at h;exact h
     obtain⟨cA,cB,rfl,b0,az⟩:=fK i9 aD qo;obtain⟨x,hx⟩:∃x,y.a.r[j]?=some x:=⟨_,gg (by rw[al.2.2.1];exact ew)⟩;have⟨bi,bE⟩:=Cj ak.2.1 x (gH hx);have ac:=az j x hx;obtain⟨ap,c9⟩:∃q,D[i]?=some q:=⟨_,gg (by rw[U.2.2.1];exact de)⟩;have HX:=Hd (An hx (An bi (An bE c9)));have dV:=Hd (show fu x.n=fu x.n/\sZ x=sZ x from⟨rfl,rfl⟩);have⟨F,aB⟩:=eR (x.n.kind);have⟨G,aC⟩:=eR (x.n.number);have⟨H,aE⟩:=eR (x.n.index);have⟨ag,aO⟩:=eR (x.a);have⟨so,ae,_,_⟩:=eS x.n.owner;have⟨st,J,_,_⟩:=eS x.n.text;have⟨sv,aT,_,_⟩:=eS x.v;have ao:fu x.n=.agg #[.int .i64 F,.string so,.int .i64 G,.int .i64 H,.string st]:=by unfold fu;rw[aB,aC,aE,ae,J]
     have cZ:sZ x=.agg #[.int .i64 F,.string so,.int .i64 G,.int .i64 H,.string st,.string sv,.bool ag]:=by unfold sZ CH.cs;rw[aB,aC,aE,ae,J,aT,aO]
     have aI:=Hd (An ao cZ);unfold CH.cs at ac;rw[aB,aC,aE,ae,J,aT,aO]at ac;have⟨y0,y1,y2,y3,y4,y5,y6⟩:=FT ac;have⟨D0,cE,bk,n0,f0⟩:=ir wr #[.int .i64 F,.string so,.int .i64 G,.int .i64 H,.string st,.string sv,.bool ag] 95 wr.heap.size;have ca:=Y.young;clear ac az aD bj hx bi bE c9 aB aC aE aO ae J aT ao cZ bk dV
     go_upto_region 10 with fail
     try rw[cE]
     clear y0 y1 y2 y3 y4 y5 y6 b0 cE;have⟨aw,hD⟩:=eR (wr.heap.size);have bx:aX<wr.heap.size:=aM.2.lt;have ep:aw ∉ eX b:=λo=>by have:=Y.own.lt _ o;omega
     have eq:=bx;rw[hD]at n0 ca bx ⊢;have ax:=Hd (Y.fr0 f0);have af:=Hd (An n0 (An ca (An (aM.2.fr f0 qs) bx)));have ev:=(aW.out D0 ax.fr).2;have aA:(tt D)[i]?=some (.int .i64 (ap:Int)):=by unfold tt;rw[List.getElem?_map,HX.2.2.2];rfl
     have HSS:=Hd (λ(W:World) (hW:Fr [] D0 W)=>(⟨(ax.box.fr hW qs).c 2,((aW.out _ (ax.fr0 hW).fr).2).2 i _ aA,(af.1.fr hW qs).c 0,(af.1.fr hW qs).c 1,(af.1.fr hW qs).c 2,(af.1.fr hW qs).c 3,(af.1.fr hW qs).c 4⟩:W.cell? ⟨c,2,none⟩=some v2/\W.cell? ⟨ib,i,none⟩=some (.int .i64 (ap:Int))/\W.cell? ⟨aw,0,none⟩=some (.int .i64 F)/\W.cell? ⟨aw,1,none⟩=some (.string so)/\W.cell? ⟨aw,2,none⟩=some (.int .i64 G)/\W.cell? ⟨aw,3,none⟩=some (.int .i64 H)/\W.cell? ⟨aw,4,none⟩=some (.string st)));rw[<-cz.out]at HSS;have eN:IntKind.i64.wrap (i:Int)=(i:Int):=by simp[IntKind.wrap,IntKind.bits,IntKind.signed];omega
     have R:Fr [] D0 D0.drew:=(Fq _ D0).drew;clear n0 f0 ca bx hD ev aA eq;refine eU (λW=>Fr [] D0 W) 11 qk ?_ qd
     show fc 0 ..
     iterate 10 (refine gJ rfl ?_;try simp only[qq])
     refine hO (i:=10) rfl λaq Z=>?_;go_simp
     have⟨D1,cF,K,f1⟩:=vC D0 #[.int .i64 0,.int .i64 0,.int .i64 0,.string ⟨#[]⟩,.int .i64 0,.int .i64 0,.string ⟨#[]⟩] 98;rw[cF];refine Z _ _ f1 ?_;clear Z aq R cF HSS
     try simp only[qq]
     refine eV ⟨qk,?_⟩;simp only[qG,qH];have⟨O,cU⟩:=eR (D0.heap.size);have bQ:aw<D0.heap.size:=af.1.lt;have bR:∀q∈eX b,q<D0.heap.size:=ax.own.lt;rw[cU]at K bQ bR ⊢;have bp:=Hd (ax.fr0 f1);have HO:=Hd (An af.2.1 (An bQ (An af.2.2.2 (An (show O ∉ eX b from λo=>Nat.lt_irrefl _ (bR _ o)) ep))));have c0:=af.1.fr f1 qs;have bc:=af.2.2.1.fr f1 qs;have⟨u0,u1,u2,u3,u4,u5,u6⟩:=K.m7;have v0:=K.f 0;have v1:=K.f 1;have v2:=K.f 2;have v3:=K.f 3;have v4:=K.f 4;have v5:=K.f 5;have v6:=K.f 6;clear f1 cU bQ bR
     go_upto_region 11 with fail
     have⟨D2,a6,n2,f2⟩:=Hr (D1) (O) K (.int .i64 (-1)) (.int .i64 (ap:Int)) (.int .i64 F) (.string so) (.int .i64 G) (.int .i64 H) (.string st);rw[a6];clear a6;clear u0 u1 u2 u3 u4 u5 u6 v0 v1 v2 v3 v4 v5 v6;have aL:=Hd (bp.putB f2 (by have:=HO.out;omega) HO.2.2.2.1);have b4:=c0.fr f2 (by have:=HO.out;simp;omega);have bd:=bc.fr f2 (by have:=HO.out;simp;omega);have aV:=Hd (An b4 (An bd n2));have⟨d0,d1,d2,d3,d4,d5,d6⟩:=b4.m7;have⟨an,bY⟩:=eR (M.asm x.n);have⟨I,dD⟩:=eR (i7 Q i x.n);have⟨ya,aU⟩:=eR (an.getD EP);have av:=CQ aL.out x.n HX.2.1;rw[bY,aI.1,aU]at av;have⟨eb,ed,ec,eg,ee,ef,ea,aH⟩:=lo ya;unfold sZ at av;rw[aH]at av;have aj:=Hd (An dD (An bY (An aU aH)));clear n2 f2 b4 bd c0 bc K bp af bY aU aH dD
     go_upto_region 12 with fail
     have⟨D3,cG,cp,n3,f3⟩:=ir D2 #[.int .i64 eb,.string ed,.int .i64 ec,.int .i64 eg,.string ee,.string ef,.bool ea] 95 D2.heap.size;rw[cG];have bH:=Hd (aL.fr0 f3);have b5:=aV.1.fr f3 qs;have aF:=Hd (An b5 (An (aV.2.1.fr f3 qs) (An (aV.2.2.fr f3 qs) n3)));have bX:O<D2.heap.size:=aV.2.2.lt;have bS:∀q∈eX b,q<D2.heap.size:=aL.own.lt;have⟨RB,cK⟩:=eR (D2.heap.size);rw[cK]at aF bX bS ⊢;have cy:=Hd (An bX (show RB ∉ eX b from λo=>Nat.lt_irrefl _ (bS _ o)));clear d0 d1 d2 d3 d4 d5 d6 av;have⟨d0,d1,d2,d3,d4,d5,d6⟩:=b5.m7;have⟨cv,co⟩:=eR (I.getD (0,EP));have av:=CP bH.out x.n HX.2.1 (Ev D3);rw[aj.1,aI.1,co]at av;have⟨sk,dQ,dP,dT,dR,dS,dO,cj⟩:=lo cv.2;unfold vP at av;rw[cj]at av;have bN:=Hd (An co cj);clear n3 f3 b5 bX cK cG aV aL cp bS co cj
     go_upto_region 13 with fail
     have⟨D4,cH,eE,n4,f4⟩:=ir D3 #[.int .i64 (cv.1:Int),.int .i64 sk,.string dQ,.int .i64 dP,.int .i64 dT,.string dR,.string dS,.bool dO] 243 D3.heap.size;rw[cH];have bq:=Hd (bH.fr0 f4);have ai:=Hd (An (aF.1.fr f4 qs) (An (aF.2.1.fr f4 qs) (An (aF.2.2.1.fr f4 qs) (aF.2.2.2.fr f4 qs))));have bV:RB<D3.heap.size:=aF.2.2.2.lt;have⟨SB,cN⟩:=eR (D3.heap.size);rw[cN]at n4 bV ⊢;have HP:=Hd (An HO.out (An cy.out bV));have bL:=Hd n4;clear d0 d1 d2 d3 d4 d5 d6 av n4 f4 bV cN cH aF bH eE cy HO
     go_upto_if 63 with fail
     go_cut [15]from 64 to 81 (λs W=>s=.bool (yl I an)/\LIg w W c mu ms ma v0 v1 v2 v3 b V ⟨(AH D i M I x).used,(AH D i M I x).asm,M.lks⟩ (i7 Q i)/\BoxN W aw 95 #[.int .i64 F,.string so,.int .i64 G,.int .i64 H,.string st,.string sv,.bool ag]/\BoxN W aX 91 #[.int .i64 ti,.int .i64 ph,.int .i64 ix,.string ct,.slice (some ⟨cA,cB,none⟩) nr rc,.slice WA nw cu]/\BoxN W O 98 #[.int .i64 (tb D I),.int .i64 (ap:Int),.int .i64 F,.string so,.int .i64 G,.int .i64 H,.string st]/\BoxN W RB 95 (ym I an).cs.toArray)
     case first =>
      have aQ:=bs.2;have dj:=bq.d;have hp:=HP.out
      cases I with
      | none =>
       have⟨D5,aS,f5,a3⟩:=bq.putA x HX.2.1 HX.2.2.1;rw[aI.1,aI.2]at aS;have⟨d0,d1,d2,d3,d4,d5,d6⟩:=ai.1.m7;have T:=Hd (An a3 (An (ai.1.fr f5 (by simp;omega)) (An (ai.2.1.fr f5 (by simp;omega)) (An (ai.2.2.1.fr f5 (by simp;omega)) (ai.2.2.2.fr f5 (by simp;omega))))));clear a3 f5 aQ dj hp
       go_wp2
       go_meet
       refine⟨by simp[yl],T.1,T.2.1,T.2.2.1,T.2.2.2.1,?_⟩
       show BoxN D5 RB 95 (an.getD EP).cs.toArray
       rw[aj.2.2.1,aj.2.2.2]
       exact T.2.2.2.2
      | some p =>
       obtain⟨sm,y2⟩:=p;obtain rfl:(sm,y2)=cv:=bN.1;have⟨eL,dM,dK,dN⟩:=rB (λa ha=>(U.2.1 a ha).1) aj.1;obtain⟨qi,ce⟩:∃q,D[sm]?=some q:=⟨_,gg (by rw[U.2.2.1];omega)⟩;have c6:tb D (some (sm,y2))=(qi:Int):=by show ((D.getD sm 0:Nat):Int)=(qi:Int);rw[getD_eq_getElem?_getD,ce];rfl
       have cx:=Hd (An ce (An c6 (An dM (An dK dN))));have s0:=bL.k0;have⟨D5,aS,f5,a3⟩:=bq.putU sm qo;have br:=Hd a3;have T:=Hd (An (ai.1.fr f5 (by simp;omega)) (An (ai.2.1.fr f5 (by simp;omega)) (An (ai.2.2.1.fr f5 (by simp;omega)) (An (ai.2.2.2.fr f5 (by simp;omega)) (bL.fr f5 (by simp;omega))))));have eM:sm<m:=qo
       clear a3 f5 ce c6 dM dK dN aQ dj hp
       go_upto_region 15 with fail
       clear aS s0;have eh:D5.cell? ⟨c,2,none⟩=some (.slice (some ⟨ib,0,none⟩) m ic):=by rw[cz.out];exact br.box.c 2
       have i0:D5.cell? ⟨ib,sm,none⟩=some (.int .i64 (qi:Int)):=(aW.out _ br.fr).2.2 sm _ (by unfold tt;rw[List.getElem?_map,cx.1];rfl);have s0:=T.2.2.2.2.k0;have x0:=T.2.2.1.k0;have xf:=T.2.2.1.f 0;have eB:IntKind.i64.wrap (sm:Int)=(sm:Int):=by simp[IntKind.wrap,IntKind.bits,IntKind.signed];omega
       go_still_tail 8,qk
       go_upto_region 16 with fail
       have⟨D6,bv⟩:=eR ((D5.setCell ⟨O,0,none⟩ (.int .i64 (qi:Int))).drew);have n6:BoxN D6 O 98 #[.int .i64 (qi:Int),.int .i64 (ap:Int),.int .i64 F,.string so,.int .i64 G,.int .i64 H,.string st]:=by rw[<-bv];exact(T.2.2.1.setAt 0 _).drew
       have f6:Fr [O] D5 D6:=by rw[<-bv];exact((Fq [O] D5).st _).drew
       rw[bv];have hp:=HP.out;have dY:=Hd (br.putB f6 qo hp.1.2.2.2.1);have aa:=Hd (An (T.1.fr f6 (by simp;omega)) (An (T.2.1.fr f6 (by simp;omega)) (An n6 (An (T.2.2.2.1.fr f6 (by simp;omega)) (T.2.2.2.2.fr f6 (by simp;omega))))));clear n6 f6 bv eh i0 s0 x0 xf eB T br hp;have⟨s0,s1,M,s3,s4,s5,s6,s7⟩:=aa.2.2.2.2.m8;have⟨q0,q1,q2,q3,q4,q5,q6⟩:=aa.2.2.2.1.m7;have v0:=aa.2.2.2.1.f 0;have v1:=aa.2.2.2.1.f 1;have v2:=aa.2.2.2.1.f 2;have v3:=aa.2.2.2.1.f 3;have v4:=aa.2.2.2.1.f 4;have v5:=aa.2.2.2.1.f 5;have v6:=aa.2.2.2.1.f 6
       go_wp2
       have⟨D7,a6,n7,f7⟩:=Hr (D6) (RB) aa.2.2.2.1 (.int .i64 sk) (.string dQ) (.int .i64 dP) (.int .i64 dT) (.string dR) (.string dS) (.bool dO);rw[a6];clear a6
       go_meet
       have hp:=HP.out;refine⟨by simp[yl],dY.putB f7 qo hp.2.1.2,aa.1.fr f7 (by simp;omega),aa.2.1.fr f7 (by simp;omega),?_,?_⟩
       ·rw[cx.2.1];exact aa.2.2.1.fr f7 (by simp;omega)
       ·show BoxN D7 RB 95 y2.cs.toArray
        rw[show y2.cs=_ from bN.2];exact n7
     have E:=Hd hcut.2;obtain rfl:=hcut.1;clear hcut bq ai bL bN;have⟨X,hX⟩:=eR (wc);rw[hX]at E ⊢;clear hX;have⟨fk,el,ek,eo,em,en,ej,bB⟩:=lo (ym I an);have⟨bu,bz⟩:=eR (yl I an);have⟨bP,b1⟩:=eR (decide (ym I an=x));have ch:=E.2.2.2.2;rw[bB]at ch
     have bD:bu=true->∀X,(binOp .neq 95 (.agg #[.int .i64 fk,.string el,.int .i64 ek,.int .i64 eo,.string em,.string en,.bool ej]) (.agg #[.int .i64 F,.string so,.int .i64 G,.int .i64 H,.string st,.string sv,.bool ag])).run prog X=.ok (.bool (!bP)) X:=λhb X=>by
      have et:eY (ym I an).n=0/\(ym I an).v.length<=65536:=by
       rw[<-bz]at hb
       cases I with
       | some p=>exact(rB (λa ha=>(U.2.1 a ha).1) aj.1).2.2
       | none =>
        cases an with
        | none=>simp[yl]at hb
        | some y =>
         have⟨e1,e2⟩:=Y.asm_ok aj.2.1;exact⟨by show eY y.n=0;rw[e1];exact HX.2.1,e2⟩
      have h:=AF et.1 HX.2.1 qo (by have:=HX.2.2.1;omega) X;rw[b1,aI.2]at h;unfold sZ at h;rw[bB]at h;exact h
     have⟨q0,q1,q2,q3,q4,q5,q6⟩:=ch.m7;have⟨d0,d1,d2,d3,d4,d5,d6⟩:=E.2.1.m7;rw[bz];have bG:=Hd (An bz b1);have dW:=Hd bB;clear bz b1 bB ch
     go_upto_region 18 with fail
     go_cut [87]from 82 to 87 (λs W=>s=.bool (bu && !bP)/\W=X)
     case first =>
      cases bu with
      | true =>
       replace bD:=bD rfl
       go_wp2
       go_meet
       exact⟨qs,rfl⟩
      | false =>
       clear bD
       go_wp2
       go_meet
       exact⟨qs,rfl⟩
     obtain⟨rfl,dJ⟩:=hcut;have⟨X2,cT⟩:=eR (wc);rw[cT]at dJ ⊢;obtain rfl:=dJ;clear cT
     try clear bD
     clear q0 q1 q2 q3 q4 q5 q6 d0 d1 d2 d3 d4 d5 d6;have J:=AD aM.1 HX.1;rw[nT,aj.1,aj.2.1,bG.1,bG.2]at J;have⟨gb,c7⟩:=eR ((bu && !bP));rw[c7]at J ⊢;have bM:=Hd J;clear J c7
     cases gb with
     | true =>
      go_wp2
      go_ret2
      have eA:j0 Q D m=none:=by
       refine tD (i:=i+1) qo ?_;rw[j0,ay.out,ak.1];refine AE (j:=j+1) ?_;rw[bM.out];rfl
      rw[eA]
      exact⟨rfl,E.1.fr⟩
     | false =>
      have J:=bM.out;rw[if_neg qs,getD_eq_getElem?_getD,HX.2.2.2]at J;have d9:=Hd J;clear J bM bG dW
      go_upto_region 20 with fail
      have a9:c ∉ eX b:=λo=>by have h1:=E.1.la c o;have h2:=E.1.d;omega
      have cL:aX ∉ eX b:=λo=>by
       have:=NoT.own (ts:=[91]) E.1.own qd aX o _ _ _ E.2.2.1;simp at this
      have cV:O ∉ eX b:=HP.1.2.2.2.1;have HN:=Hd (An a9 (An cL cV));clear a9 cL cV;have HSS:=Hd (λ(W:World) (hW:Fr (eX b) X2 W)=>(⟨(E.1.box.fr hW HN.1).c 4,(E.2.2.2.1.fr hW HN.2.2).c 0,(E.2.2.2.1.fr hW HN.2.2).c 1,(E.2.2.2.1.fr hW HN.2.2).c 2,(E.2.2.2.1.fr hW HN.2.2).c 3,(E.2.2.2.1.fr hW HN.2.2).c 4,(E.2.2.2.1.fr hW HN.2.2).c 5,(E.2.2.2.1.fr hW HN.2.2).c 6⟩:W.cell? ⟨c,4,none⟩=some (.slice b M.lks.length V)/\W.cell? ⟨O,0,none⟩=some (.int .i64 (tb D I))/\W.cell? ⟨O,1,none⟩=some (.int .i64 (ap:Int))/\W.cell? ⟨O,2,none⟩=some (.int .i64 F)/\W.cell? ⟨O,3,none⟩=some (.string so)/\W.cell? ⟨O,4,none⟩=some (.int .i64 G)/\W.cell? ⟨O,5,none⟩=some (.int .i64 H)/\W.cell? ⟨O,6,none⟩=some (.string st)));have R:Fr (eX b) X2 X2.drew:=(Fq _ X2).drew;refine eU (λW=>Fr (eX b) X2 W) 8 qk ?_ qd
      show fc 0 ..
      iterate 6 (refine gJ rfl ?_;try simp only[qq])
      refine hO (i:=6) rfl λaq Z=>?_;go_simp
      have⟨G1,aZ,K,ah⟩:=vC X2 #[.int .i64 (tb D I),.int .i64 (ap:Int),.int .i64 F,.string so,.int .i64 G,.int .i64 H,.string st] 98;rw[aZ];refine Z _ _ (ah.mono qs) ?_;clear Z aq aZ R
      try simp only[qq]
      refine hO (i:=7) rfl λaq Z=>?_;obtain⟨ii,aA,bm,bn,bo⟩:=pK;have a4:=E.1.own.fr ah qs;have dc:=Eu (f:=tb D I) (t:=ap) aI.1
      have ez:M.lks.length<=30000000:=by
       have h1:=sQ (λa ha=>(U.2.1 a ha).2.1) ay.out;have h2:=sP _ _ _ _ _ _ aM.1;have h3:(y.a.r.take j).length<=2000000:=by rw[length_take];omega
       omega
      refine ja (.tmp 92) (.tmp 94) 61 rfl 98 ii _ 7 72 underlying61 aA bm bn bo rfl qd b M.lks.length V (M.lks.flatMap LK.cs) rfl a4 ⟨X2.heap.size,0,none⟩ 1 1 (⟨tb D I,ap,x.n⟩:LK).cs rfl rfl (λj u hu=>by rw[dc]at hu;rw[fV,K.c j];simpa using hu) (EJ _) (by unfold maxLen;omega) qo ?_;intro bt cq G2 bb au aY;have R:Fr (eX b) X2 G2:=(ah.mono qs).then au;refine Z _ _ R ?_;clear Z aq
      try simp only[qq]
      refine eV ⟨qk,?_⟩;simp only[qG,qH];have ar:=E.1.box.fr R HN.1;have bd:=E.2.2.1.fr R HN.2.1;have q0:=ar.k4;have q1:=ar.f 4;have cD:∀q∈eX bt,q∈eX b \/ X2.heap.size<=q:=λq S=>(aY q S).imp id λh=>Nat.le_trans ah.size h;have aK:=Hd (An R (An ar (An bd (An bb cD))));clear R ah K au aY cD bb HSS bm bn bo aA a4 dc ar bd
      go_upto_region 21 with fail
      have⟨G3,bw⟩:=eR (G2.setCell ⟨c,4,none⟩ (.slice bt (M.lks.length+1) cq));have n3:=aK.2.1.setAt 4 (.slice bt (M.lks.length+1) cq);have f3:Fr [c] G2 G3:=by rw[<-bw];exact(Fq [c] G2).st _
      rw[bw]at n3
      try rw[bw]
      have bI:=Hd (E.1.putL ⟨tb D I,ap,x.n⟩ aK.1 aK.2.2.2.1 aK.2.2.2.2 f3 n3);have dZ:=Hd (aK.2.2.1.fr f3 (by have h1:=bs.2;have h2:=E.1.d;simp;omega));clear q0 q1 bw n3 f3 aK
      go_wp2
      go_roundw
      case rel=>exact⟨j+1,cq,bt,_,qo,by go_num,bI.out,d9.out,dZ.out⟩
      case measure=>simp[intOf];omega
    ·obtain rfl:j=nr:=qo
     have r5:=aM.2.k5
     go_upto_region 22 with fail
     go_wp2
     clear r5
     go_loopw [102] (λk W=>∃(j:Nat),j<=nw/\k=.int .i64 (j:Int)/\LIg w W c mu ms ma v0 v1 v2 v3 b V M (Ck Q i (y.a.w.take j))) (λk _=>nw - (intOf k).toNat)
     case atStart=>exact⟨0,Nat.zero_le _,rfl,Y.congr (Er Q i)⟩
     case round =>
      obtain⟨j2,eI,rfl,ad⟩:=hrel;have bJ:=Hd ad;clear ad
      rename World=>wq
      by_cases ex:j2<nw
      ·have ey:(j2:Int)<(nw:Int):=qo
       have bj:=ak.2.2.1 wq bJ.fr;have aD:Row wq wq.heap.size 7 WA nw (y.a.w.flatMap CH.cs):=by have h:=bj.chw;unfold Chs Rd at h;rw[al.2.1,al.2.2.2]at h;exact h
       obtain⟨cA,cB,rfl,b0,az⟩:=fK i9 aD qo;obtain⟨x,hx⟩:∃x,y.a.w[j2]?=some x:=⟨_,gg (by rw[al.2.2.2];exact ex)⟩;have⟨bi,bE⟩:=sO ak.2.1 x (gH hx);have ac:=az j2 x hx;have⟨F,aB⟩:=eR (x.n.kind);have⟨G,aC⟩:=eR (x.n.number);have⟨H,aE⟩:=eR (x.n.index);have⟨ag,aO⟩:=eR (x.a);have⟨so,ae,_,_⟩:=eS x.n.owner;have⟨st,J,_,_⟩:=eS x.n.text;have⟨sv,aT,_,_⟩:=eS x.v;have ao:fu x.n=.agg #[.int .i64 F,.string so,.int .i64 G,.int .i64 H,.string st]:=by unfold fu;rw[aB,aC,aE,ae,J]
       have b3:x.cs=[.int .i64 F,.string so,.int .i64 G,.int .i64 H,.string st,.string sv,.bool ag]:=by unfold CH.cs;rw[aB,aC,aE,ae,J,aT,aO]
       rw[b3]at ac;have⟨y0,y1,y2,y3,y4,y5,y6⟩:=FT ac;have⟨U0,a5,bk,n0,f0⟩:=ir wq #[.int .i64 F,.string so,.int .i64 G,.int .i64 H,.string st,.string sv,.bool ag] 95 wq.heap.size;have⟨U1,aS,f1,cI⟩:=(bJ.fr0 f0).putS x.n (i,x) bi;have cJ:=cI.congr (Et (uO (gr ak.2.1).2) hx);unfold vP at aS;rw[ao,b3]at aS;have aL:=Hd cJ;clear ac az aD bj hx bi bE aB aC aE aO ae J aT ao b3 bk cI cJ
       go_upto_region 25 with fail
       try rw[a5]
       clear y0 y1 y2 y3 y4 y5 y6 b0 a5;have⟨d0,d1,d2,d3,d4,d5,d6⟩:=n0.m7
       go_wp2
       go_roundw
       case rel=>exact⟨j2+1,qo,by go_num,aL.out⟩
       case measure=>simp[intOf];omega
      ·obtain rfl:j2=nw:=qo
       have ad:=bJ.out;rw[take_of_length_le (by rw[al.2.2.2];exact fW _)]at ad;have bI:=Hd (ad.congr (Es ak.1))
       have dv:j0 Q D (i+1)=some M:=by
        have h:=aM.1;rw[take_of_length_le (by rw[al.2.2.1];exact fW _)]at h;rw[j0,ay.out,ak.1];exact h
       have d7:=Hd dv;clear ad dv
       go_wp2
       go_roundw
       case rel=>exact⟨i+1,V,b,M,qo,by go_num,bI.out,d7.out⟩
       case measure=>simp[intOf];omega
  ·obtain rfl:i=m:=qo
   rw[ay.out]
   go_upto_region 28 with fail
   obtain⟨es,bC,b8,db⟩:=Y.out.am;obtain⟨V0,dx,c4,bT⟩:=yn (P:=prog) (q:=fu) (f:=sZ) (t:=149) underlying149 (by obtain⟨ei,clock,h1,h2,_,h4⟩:=bC.map;exact⟨ei,clock,h1,h2,h4⟩);have er:=Gi ay.out (λa ha=>(U.out.2.1 a ha).2.1) b8 bC.nd
   have c2:es.length<=30000000:=by
    have h1:Q.length=i:=by rw[<-U.1,length_map];exact U.2.2.2
    omega
   have aJ:=Hd (An bC.nd (An b8 (An db c2)));have b9:∀q∈eX b,q<wr.heap.size:=Y.own.lt;have cm:=Y.young;have⟨ri,dy⟩:=eR (wr.heap.size);rw[dy]at dx bT b9 cm
   have dX:Hid (RIg w V0 c mu ma ri v0 v1 v2 v3 b none V 0 s es []):=by
    have h:=Y.fr0 c4;have hd:=h.d;exact Hd ⟨h.box,h.own,Own.nil _ _ _,λ_=>⟨rfl,rfl⟩,h.um,bT,⟨hd.1,hd.2.1,qo,cm⟩,λq S=>⟨h.la q S,b9 q S⟩,by simp[eX],h.fr⟩
   clear bC b8 db c4 bT er c2 b9 cm dy
   go_wp2
   clear dx
   go_loopw [116] (λ_ W=>∃(aN:Nat) (N:Option Addr) (l:List (ON × CH)),RIg w W c mu ma ri v0 v1 v2 v3 b N V aN s es l) (λ_ W=>CR W ri ma)
   case atStart=>exact⟨0,none,[],dX.out⟩
   case round =>
    obtain⟨aN,N,l,dz⟩:=hrel
    rename World=>wq
    have z:=Hd dz;clear dz
    rcases z.rg.step (P:=prog)with⟨dt,aR⟩|⟨e,W1,c1,aR,ao,aG,bc⟩
    ·have bK:=Hd dt
     clear dt;have eK:=bK.length_eq
     have ds:∀x∈l.map Prod.snd,eY x.n=0:=λx hx=>by
      obtain⟨e,he,rfl⟩:=mem_map.1 hx;have h:=aJ.2.2.1 e (bK.symm.subset he);rw[h.1];exact h.2.2
     have ci:=Gj N aN (l.map Prod.snd) wq ds (by rw[length_map];have:=aJ.2.2.2;omega) (by rw[length_map,flatMap_map];exact z.oa);rw[length_map]at ci;have aj:=Hd ci;have q5:=z.box.k5;clear ci ds
     go_upto_region 33 with(go_at_call 128;(with_reducible refine aj.out.mono ?_);rintro e X1 ⟨rfl,ys,hp,hs,be,hf⟩;have HP:=Hd (An hp (An hs (An be hf)));clear hp hs be hf q5)
     clear aR;have ae:=qv (λa ha=>(U.2.1 a ha).1) dU.out (by rw[<-U.1,length_map,U.2.2.2,U.2.2.1]) ay.out;have dd:s.lks.length<=100000000:=by have:=sQ (λa ha=>(U.2.1 a ha).2.1) ay.out;omega
     have b6:∀q∈eX b,q ∉ eX N:=λq S o=>by have h1:=z.la q S;have h2:=z.ab q o;omega
     have b2:c ∉ eX N:=λo=>by have h1:=z.d;have h2:=z.ab c o;omega
     have cX:c ∉ eX b:=λo=>by have h1:=z.d;have h2:=z.la c o;omega
     have d8:=Hd (Gl b V s.lks X1 ae.2.1 ae.1 dd (z.own.fr HP.2.2.2 b6));have aP:=z.box.fr HP.2.2.2 b2;have q4:=aP.k4;have C:=Hd (An aP (An b2 (An cX b6)));clear ae dd b6 b2 cX aP
     go_upto_region 34 with(go_at_call 130;(with_reducible refine d8.out.mono ?_);rintro e X2 ⟨rfl,be,hf⟩;have HQ:=Hd (An be hf);clear be hf q4)
     go_wp2
     go_ret2
     have dL:ys.length=l.length:=by rw[HP.1.length_eq,length_map]
     have hd:=z.d;have⟨e1,m1,g1⟩:=z.um;rw[ay.out];refine⟨mu,V,aN,b,N,ys,rfl,?_,HQ.1,?_,Hp aJ.2.1 aJ.2.2.1 aJ.1 bK.out HP.1 HP.2.1,⟨e1,(m1.fr HP.2.2.2 (λo=>by have:=z.ab mu o;omega)).fr HQ.2 (λo=>by have:=z.la mu o;omega),g1⟩,(z.fr.trans HP.2.2.2 (λq S=>.inr (by have:=z.ab q S;omega))).trans HQ.2 (λq S=>.inr (by have:=z.la q S;omega))⟩
     ·rw[dL]
      exact C.1.fr HQ.2 C.2.2.1
     ·rw[dL]
      exact HP.2.2.1.fr HQ.2 (λq S o=>C.2.2.2 q o S)
    ·have⟨F,so,G,H,st,sv,ag,aH⟩:=lo e.2
     unfold sZ at aR ao;rw[aH]at aR ao;have HE:=Hd (An c1 (An aG (An bc aH)));have cY:c≠ri:=by have:=z.d;omega
     have aP:=z.box.fr aG (by simpa using cY);have cd:=z.oa.fr aG (λq S o=>by have:=z.ab q S;simp at o;omega);clear c1 aG bc aH cY;have⟨eH,c3⟩:=eR (fu e.1);rw[c3]at aR ao;clear c3;have⟨U0,a5,bk,n0,f0⟩:=ir W1 #[.int .i64 F,.string so,.int .i64 G,.int .i64 H,.string st,.string sv,.bool ag] 95 W1.heap.size
     go_upto_region 31 with fail
     try rw[a5]
     clear aR ao a5;have a9:c ∉ eX N:=λo=>by have h1:=z.d;have h2:=z.ab c o;omega
     have cR:∀q∈eX N,q<W1.heap.size:=cd.lt;have⟨TB,cQ⟩:=eR (W1.heap.size);have cP:TB ∉ eX N:=λo=>by have:=cR TB o;omega
     have cS:W1.heap.size<=U0.heap.size:=f0.size;rw[cQ]at n0 ⊢;have C:=Hd (An (aP.fr f0 qs) (An n0 (An (cd.fr f0 qs) (An a9 (An cP f0)))));clear aP n0 cd a9 cP f0 cR cQ bk;have HSS:=Hd (λ(W:World) (hW:Fr (eX N) U0 W)=>(⟨(C.1.fr hW C.2.2.2.1).c 5,(C.2.1.fr hW C.2.2.2.2.1).c 0,(C.2.1.fr hW C.2.2.2.2.1).c 1,(C.2.1.fr hW C.2.2.2.2.1).c 2,(C.2.1.fr hW C.2.2.2.2.1).c 3,(C.2.1.fr hW C.2.2.2.2.1).c 4,(C.2.1.fr hW C.2.2.2.2.1).c 5,(C.2.1.fr hW C.2.2.2.2.1).c 6⟩:W.cell? ⟨c,5,none⟩=some (.slice N l.length aN)/\W.cell? ⟨TB,0,none⟩=some (.int .i64 F)/\W.cell? ⟨TB,1,none⟩=some (.string so)/\W.cell? ⟨TB,2,none⟩=some (.int .i64 G)/\W.cell? ⟨TB,3,none⟩=some (.int .i64 H)/\W.cell? ⟨TB,4,none⟩=some (.string st)/\W.cell? ⟨TB,5,none⟩=some (.string sv)/\W.cell? ⟨TB,6,none⟩=some (.bool ag)));have R:Fr (eX N) U0 U0.drew:=(Fq _ U0).drew;refine eU (λW=>Fr (eX N) U0 W) 8 qk ?_ qd
     show fc 0 ..
     iterate 6 (refine gJ rfl ?_;try simp only[qq])
     refine hO (i:=6) rfl λaq Z=>?_;go_simp
     have⟨G1,aZ,K,ah⟩:=vC U0 #[.int .i64 F,.string so,.int .i64 G,.int .i64 H,.string st,.string sv,.bool ag] 95;rw[aZ];refine Z _ _ (ah.mono qs) ?_;clear Z aq aZ R
     try simp only[qq]
     refine hO (i:=7) rfl λaq Z=>?_;obtain⟨ii,aA,bm,bn,bo⟩:=sM;have a4:=C.2.2.1.fr ah qs;have ez:l.length<=30000000:=by have h1:=z.rg.left;have h2:=aJ.2.2.2;omega
     refine ja (.tmp 124) (.tmp 126) 62 rfl 95 ii _ 7 80 underlying62 aA bm bn bo rfl qd N l.length aN (l.flatMap λe=>e.2.cs) rfl a4 ⟨U0.heap.size,0,none⟩ 1 1 e.2.cs rfl rfl (λj u hu=>by rw[HE.2.2.2]at hu;rw[fV,K.c j];simpa using hu) (Ez _) (by unfold maxLen;omega) qo ?_;intro bF bO G2 bb au aY;have R:Fr (eX N) U0 G2:=(ah.mono qs).then au;refine Z _ _ R ?_;clear Z aq
     try simp only[qq]
     refine eV ⟨qk,?_⟩;simp only[qG,qH];have ar:=C.1.fr R C.2.2.2.1;have q0:=ar.k5;have q1:=ar.f 5;have c5:Fr (eX N) W1 G2:=(C.2.2.2.2.2.mono qs).then R;have dq:=z.put HE.2.1 HE.2.2.1 c5 bb (λq S=>(aY q S).imp id λh=>Nat.le_trans cS (Nat.le_trans ah.size h)) ((Fq [c] G2).set (p:=⟨c,5,none⟩) (.inl qs) (.slice bF (l.length+1) bO)) (ar.setAt 5 (.slice bF (l.length+1) bO));have cw:=Hd dq;clear R ah K au aY bb HSS bm bn bo aA a4 ar c5 dq cS
     go_wp2
     go_roundw
     case rel=>exact⟨bO,bF,l++[e],cw.out⟩
     case measure =>
      have h1:=cw.rg.left;have h2:=z.rg.left;rw[gu,length_singleton]at h1;omega
def lW(nm:ON)(P:Nat)(is:List Nat)(l:List AG):Except Int (UInt8 × LS) :=
 if sT is=false then .error 32 else
 match l.getLast?.bind λa=>uo a.w nm with
 | none=>.error 8
 | some c=>if c.a=true \/ c.v.length<=P then .error 8 else
  match j0 l is l.length with
  | none=>.error 10
  | some s=>if(List.range (l.length - 1)).all (λi=>decide (i∈s.used))=true then .ok (c.v.getD P 0,s)else .error 33
def Ew(a:AG):List Value:=[.int .i64 a.k.rnd,.int .i64 a.k.phase,.int .i64 a.k.idx,fg a.k.lin]
def mp:Value:=.agg #[.int .u8 0,.int .i64 0,.slice none 0 0,.slice none 0 0,.slice none 0 0,.slice none 0 0]
structure ConV(w:World)(is:List Nat)(l:List AG)(b:UInt8)(s:LS)(v:Value):Prop where
 ex:∃(I K LA AA:Option Addr) (ic kc lc ac:Nat) (asm:List CH),v=.agg #[.int .u8 (b.toNat:Int),.int .i64 ((is.getLastD 0:Nat):Int),.slice I is.length ic,.slice K l.length kc,.slice LA s.lks.length lc,.slice AA asm.length ac]/\Rd w 1 I is.length (tt is)/\Rd w 4 K l.length (l.flatMap Ew)/\Rd w 7 LA s.lks.length (s.lks.flatMap LK.cs)/\Rd w 7 AA asm.length (asm.flatMap CH.cs)/\Ao s.asm asm
def tu(nm:ON)(P:Nat)(is:List Nat)(l:List AG)(w:World)(e:Ending)(w':World):Prop:=match lW nm P is l with
 | .error k=>e=.returned (.tuple #[mp,.int .i64 k])/\Fr [] w w'
 | .ok (b,s)=>∃v,e=.returned (.tuple #[v,.int .i64 0])/\ConV w' is l b s v/\Fr [] w w'
open Go.RowKit
def sR(i:Int)(w:World):Calls prog 35 #[.int .i64 i] w (fi w (zW i)):=by
 unfold zW;have⟨d,g,a,e⟩:=kJ w #[.int .i64 0,.string ⟨#[]⟩,.int .i64 0,.int .i64 0,.string ⟨#[]⟩] 31;have b:=Hd (An g (An a e));clear g a e
 go_enter func35,ntmps35
 go_upto_region 1 with fail
 rw[b.1];have a:=b.2.1;have m:=a.f 0;have n:=a.f 1;have o:=a.f 2;have p:=a.f 3;have q:=a.f 4;have⟨r,s,t,u,x⟩:=a.m5;clear a
 go_wp2
 have⟨w2,c⟩:=eR ((((((d.setCell ⟨w.heap.size,0,none⟩ (16:Int)).setCell ⟨w.heap.size,1,none⟩ S0).setCell ⟨w.heap.size,2,none⟩ i).setCell ⟨w.heap.size,3,none⟩ L0).setCell ⟨w.heap.size,4,none⟩ S0));have j:BoxN w2 w.heap.size 31 #[(16:Int),S0,i,L0,S0]:=by rw[<-c];exact(((((b.2.1.setAt 0 _).setAt 1 _).setAt 2 _).setAt 3 _).setAt 4 _)
 have h:Fr [w.heap.size] d w2:=by rw[<-c];exact(((((Fq [w.heap.size] d).st _).st _).st _).st _).st _
 rw[c];have⟨k,t1,t2,t3,l⟩:=j.m5;refine bodyPost_ret (v:=.agg #[(16:Int),S0,i,L0,S0]) (by simp[results,results35,go_sem,k,t1,t2,t3,l]) rfl ?_;exact⟨rfl,b.2.2.trans h qs⟩
end Go.Proofs.YtlpmiimgacfmkaaGreatDoor
