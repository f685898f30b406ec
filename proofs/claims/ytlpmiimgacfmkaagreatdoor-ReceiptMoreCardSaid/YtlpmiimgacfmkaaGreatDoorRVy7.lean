/- Part of the proof. -/
import Derived.Test.YtlpmiimgacfmkaaGreatDoorRVx3
set_option linter.all false
set_option maxHeartbeats 16000000
set_option maxRecDepth 100000
namespace Go.Proofs.YtlpmiimgacfmkaaGreatDoor
open Go.Proofs.Tryz
open Go.RowKit Go.Shelf
structure VIg(v0 v1:Value)(w0 W:World)(CB ni nk ic kc:Nat)(IA KA:Option Addr)(xs ks:List Value):Prop where
 box:BoxN W CB 64 #[v0,v1,.slice IA ni ic,.slice KA nk kc,.slice none 0 0,.slice none 0 0]
 io:Own W 3 1 IA ni ic xs
 ko:Own W 89 4 KA nk kc ks
 d:CB ∉ eV IA/\CB ∉ eV KA/\w0.heap.size<=CB
 e:∀k∈eV IA,k ∉ eV KA
 hi:∀k∈eV IA,w0.heap.size<=k
 hk:∀k∈eV KA,w0.heap.size<=k
 fr:Fr [] w0 W
section
variable {v0 v1:Value} {w0 X Y Z:World} {CB ni nk ic kc ni' nk' ic' kc':Nat} {IA KA IA' KA':Option Addr} {xs ks xs' ks':List Value}
theorem VIg.fr0(h:VIg v0 v1 w0 X CB ni nk ic kc IA KA xs ks)(a:Fr [] X Y):VIg v0 v1 w0 Y CB ni nk ic kc IA KA xs ks :=
 ⟨h.box.fr a qs,h.io.fr a qs,h.ko.fr a qs,h.d,h.e,h.hi,h.hk,h.fr.then a⟩
theorem VIg.putI(h:VIg v0 v1 w0 X CB ni nk ic kc IA KA xs ks)(i:Fr (eV IA) X Y)(m:Own Y 3 1 IA' ni' ic' xs')(g:∀k∈eV IA',k∈eV IA \/ X.heap.size<=k)(f:Fr [CB] Y Z)
 (l:BoxN Z CB 64 #[v0,v1,.slice IA' ni' ic',.slice KA nk kc,.slice none 0 0,.slice none 0 0]):VIg v0 v1 w0 Z CB ni' nk ic' kc IA' KA xs' ks:=by
 have n:=h.box.lt
 have j:CB ∉ eV IA':=λc=>by
  rcases g CB c with b|b
  ·exact h.d.1 b
  ·omega
 refine⟨l,m.fr f (by intro k a;simp only[gI];rintro rfl;exact j a),(h.ko.fr i (λk a c=>h.e k c a)).fr f (by intro k a;simp only[gI];rintro rfl;exact h.d.2.1 a),⟨j,h.d.2.1,h.d.2.2⟩,λk a c=>?_,λk a=>?_,h.hk,?_⟩
 ·rcases g k a with b|b
  ·exact h.e k b c
  ·have:=h.ko.lt k c;omega
 ·rcases g k a with b|b
  ·exact h.hi k b
  ·exact Nat.le_trans h.fr.size b
 ·exact(h.fr.trans i (λk a=>.inr (h.hi k a))).trans f (λk a=>.inr (by simp at a;subst a;exact h.d.2.2))
theorem VIg.putK(h:VIg v0 v1 w0 X CB ni nk ic kc IA KA xs ks)(i:Fr (eV KA) X Y)(m:Own Y 89 4 KA' nk' kc' ks')(g:∀k∈eV KA',k∈eV KA \/ X.heap.size<=k)(f:Fr [CB] Y Z)
 (l:BoxN Z CB 64 #[v0,v1,.slice IA ni ic,.slice KA' nk' kc',.slice none 0 0,.slice none 0 0]):VIg v0 v1 w0 Z CB ni nk' ic kc' IA KA' xs ks':=by
 have n:=h.box.lt
 have j:CB ∉ eV KA':=λc=>by
  rcases g CB c with b|b
  ·exact h.d.2.1 b
  ·omega
 refine⟨l,(h.io.fr i (λk a c=>h.e k a c)).fr f (by intro k a;simp only[gI];rintro rfl;exact h.d.1 a),m.fr f (by intro k a;simp only[gI];rintro rfl;exact j a),⟨h.d.1,j,h.d.2.2⟩,λk a c=>?_,h.hi,λk a=>?_,?_⟩
 ·rcases g k c with b|b
  ·exact h.e k a b
  ·have:=h.io.lt k a;omega
 ·rcases g k a with b|b
  ·exact h.hk k b
  ·exact Nat.le_trans h.fr.size b
 ·exact(h.fr.trans i (λk a=>.inr (h.hk k a))).trans f (λk a=>.inr (by simp at a;subst a;exact h.d.2.2))
end
theorem rU(o:Option CH):∃(l:Int) (d:ByteArray) (m k:Int) (e b:ByteArray) (f c:Bool),FR o=.tuple #[.agg #[.int .i64 l,.string d,.int .i64 m,.int .i64 k,.string e,.string b,.bool f],.bool c]/\(c=false/\o=none \/ c=true/\∃x,o=some x/\x.a=f/\b.data.toList=x.v):=by
 cases o with
 | none=>exact⟨0,⟨#[]⟩,0,0,⟨#[]⟩,⟨#[]⟩,false,false,rfl,.inl ⟨rfl,rfl⟩⟩
 | some x =>
  obtain⟨d,h,_,_⟩:=eT x.n.owner;obtain⟨e,i,_,_⟩:=eT x.n.text;obtain⟨b,j,g,_⟩:=eT x.v;refine⟨x.n.kind,d,x.n.number,x.n.index,e,b,x.a,true,?_,.inr ⟨rfl,x,rfl,rfl,g⟩⟩
  show Value.tuple #[.agg x.cs.toArray,.bool true]=_
  unfold CH.cs;rw[h,i,j]
theorem Ct{s:ByteArray}{l:List UInt8}(c:s.data.toList=l)(t:TypeId)(d:prog.underlying t=some .string)(P:Nat)(b:P<s.size)(W:World):
 (Instr.index t (.string s) (.int .i64 (P:Int))).run prog W=.ok (.int .u8 ((l.getD P 0).toNat:Int)) W:=by
 rw[run_index_string W t s .i64 P d];have h:(0:Int)<=(P:Int)/\(P:Int)<(s.size:Int):=⟨qo,qo⟩;rw[dif_pos h]
 have e:(s[(P:Int).toNat]' qo)=l.getD P 0:=by
  subst c;have a:P<s.data.toList.length:=by rw[Array.length_toList,ByteArray.size_data];exact b
  rw[List.getD_eq_getElem?_getD,gx a];simp[ByteArray.getElem_eq_getElem_data]
 rw[e]
theorem mj{α:Type}{l:List α}{j:Nat}{x:α}(h:l[j]?=some x):l.take (j+1)=l.take j++[x]:=by rw[List.take_add_one,h];rfl
theorem DM{xs:List Nat}(h:nC xs=true):xs.Pairwise (·<·):=by
 unfold nC at h
 have c:∀k,0<k->k<xs.length->xs.getD (k - 1) 0<xs.getD k 0:=λk p m=>by
  have:=of_decide_eq_true (List.all_eq_true.1 h k (List.mem_range.2 m))
  rcases this with a|a
  ·omega
  ·exact a
 rw[List.pairwise_iff_getElem];intro i j g l q
 have f:∀d,i+1+d<xs.length->xs.getD i 0<xs.getD (i+1+d) 0:=by
  intro d
  induction d with
  | zero=>intro n;exact c (i+1) qo qo
  | succ d o =>
   intro n;have a:=o qo;have e:=c (i+1+(d+1)) qo qo;rw[show i+1+(d+1) - 1=i+1+d from by omega]at e;omega
 have b:=f (j - i - 1) qo;rw[show i+1+(j - i - 1)=j from by omega]at b;rw[List.getD_eq_getElem?_getD,List.getD_eq_getElem?_getD,gx g,gx l]at b;exact b
theorem Cu{w w':World}{A:Option Addr}{n B:Nat}{xs:List Value}{t:TypeId}{cs:Array Value}(h:Rd w 7 A n xs)(f:BoxN w B t cs)(p:cs.size<=6)(i:Fr [B] w w'):Rd w' 7 A n xs:=by
 rcases Nat.eq_zero_or_pos n with rfl|m
 ·exact⟨h.1,λe=>absurd e qo⟩
 ·refine h.fr i λk j d=>?_
  rw[gI]at d;subst d;obtain⟨b,off,rfl,_,g⟩:=h.2 m;have l:k=b:=by simpa [eV]using j
  subst l;have o:=h.1;have a:=g 6 (xs[6]' qo) (gx qo);rw[f.c,Array.getElem?_eq_none qo]at a
  cases a
theorem MM.look0{κ α:Type}[DecidableEq κ]{k t e:TypeId}{q:κ->Value}{f:α->Value}{w:World}{r:Nat}{es:List (κ × α)}(h:MM k q f w r es)(m:∀a b,q a=q b->a=b)(K:Maps.Keyed prog k)(i:prog.underlying t=some (.map k e))(n:κ){u:Lit}(g:keyOf prog k (q n)=some u){z:Value}(s:(zeroValue e).run prog w=.ok z w):
 (Instr.lookup t (.map (some r)) (q n) false).run prog w=.ok (match iM es n with|some v=>f v|none=>z) w:=by
 cases d:iM es n with
 | none =>
  have c:=MapIs.look_none K i h.map g (λp l=>by
   obtain⟨x,o,rfl⟩:=List.mem_map.1 l;exact λj=>ll d x o (m _ _ j)) s false
  simpa using c
 | some v =>
  obtain⟨y,l2,rfl⟩:=jq d;have c:=MapIs.look_some K i h.map g (v:=f v) qs false;simpa using c
theorem Az(u:World):(zeroValue 4).run prog u=.ok (.bool false) u:=by simp[go_sem]
theorem oQ{nm:ON}{P:Nat}{is:List Nat}{l:List AG}{a:AG}{x:CH}(d:nC is=true)(b:l.getLast?=some a)(c:nA a.w nm=some x)(h:x.a=true \/ x.v.length<=P):ju nm P is l=.error 8:=by
 have e:(l.getLast?.bind λa=>nA a.w nm)=some x:=by rw[b];exact c
 unfold ju;rw[if_neg (by rw[d];decide),e];exact if_pos h
theorem rV{nm:ON}{P:Nat}{is:List Nat}{l:List AG}{a:AG}{x:CH}(f:nC is=true)(c:l.getLast?=some a)(d:nA a.w nm=some x)(h:¬(x.a=true \/ x.v.length<=P)):(i6 l is l.length=none->ju nm P is l=.error 10)/\∀s,i6 l is l.length=some s->ju nm P is l=if(List.range (l.length - 1)).all (λi=>decide (i∈s.used))=true then .ok (x.v.getD P 0,s)else .error 33:=by
 have e:(l.getLast?.bind λa=>nA a.w nm)=some x:=by rw[c];exact d
 unfold ju;rw[if_neg (by rw[f];decide),e];refine⟨λb=>?_,λs b=>?_⟩
 ·refine(if_neg h).trans ?_
  rw[b]
 ·refine(if_neg h).trans ?_
  rw[b]
theorem tv(ao:Nm)(bN:ao.length=32)(nm:ON)(so aB:ByteArray)(P n m:Nat)(aM:Option Addr)(c:Nat)(J:List PF)(M:List AG)(w:World)(cE:Ok w)(bI:eX nm=0)(be:fg nm=.agg #[.int .i64 nm.kind,.string so,.int .i64 nm.number,.int .i64 nm.index,.string aB])(hP:P<65536)(hp:PrL w n aM c J)(aK:J.length=m)(bH:0<m)(cA:m<=12)(bs:M.length=m)
 (cR:∀a∈M,mN a=true/\a.r.length<=10/\a.w.length<=10)
 (hV:∀(j:Nat) (p:PF) (a:AG),J[j]?=some p->M[j]?=some a->∀W,Fr [] w W->Calls prog 66 #[fu ao,.agg (p.cs n).toArray] W (km W a)) :
 Calls prog 22 #[fu ao,yS nm.kind so nm.number nm.index aB (P:Int) (n:Int) (.slice aM m c)] w (kH nm P (J.map PF.i) M w):=by
 have bB:(eP ao).length=32:=by rw[eU,bN]
 obtain⟨w1,a4⟩:=eR ((w).alloc (.cells (eP ao).toArray 57));have dh:(w1).heap.size=w.heap.size+1:=by rw[<-a4,kX];try omega
 have n1:(w1).rowIs (w.heap.size) 57 32 (λj=>.int .u8 ((ao.getD j 0).toNat:Int)):=by have h0:=gS (t:=57) (w) bB;rw[show w.heap.size=(w).heap.size from by first|rfl|omega,<-a4];exact h0
 have f1:Fr [] (w) w1:=by rw[<-a4];exact(Fq [] (w)).alloc _
 obtain⟨w2,bT,di,F,f2⟩:=il w1 #[.int .i64 nm.kind,.string so,.int .i64 nm.number,.int .i64 nm.index,.string aB,.int .i64 (P:Int),.int .i64 (n:Int),.slice aM m c] 39 (w.heap.size+1);obtain⟨w3,cP,dj,n3,f3⟩:=il w2 #[.int .u8 0,.int .i64 0,.slice none 0 0,.slice none 0 0,.slice none 0 0,.slice none 0 0] 64 (w.heap.size+1+1);have m2:=F.fr f3 qs;have Q:=(f1.then f2).then f3;have bK:PrL w3 n aM c J:=⟨hp.own.fr Q qs,λp D=>(hp.ds p D).fr Q qs⟩;have ak:=xG ao bN nm so aB P n m aM c J M w3 (cE.fr0 Q) bI be hP bK aK bH cA bs (λj p a h1 h2 W hW=>hV j p a h1 h2 W (Q.then hW));obtain⟨kd,bE⟩:=eR (nm.kind);obtain⟨nu,bJ⟩:=eR (nm.number);obtain⟨xx,bW⟩:=eR (nm.index);rw[bE,bJ,bW]at be ak m2 ⊢;rw[bE,bJ,bW]at bT;obtain⟨x0,x1,x2,x3,x4,x5,x6,x7⟩:=m2.m8;have bo:=Hd (fH (eS n1 (f2.then f3) qs) bN);have HW:=Hd (An a4 (An bT cP));unfold fu yS at ak;have L:=Hd (An m2 (An n3 Q));have N:=Hd (An cR (An bI (An be (An aK bs))));have c8:=Hd bK;clear a4 bT cP n1 F n3 m2 f1 f2 f3 dh di dj Q hV cE hp bK cR bI be bE bJ bW aK bs;unfold fu yS
 by_cases aw:nC (J.map PF.i)=true
 ·unfold rP at ak
  simp only[aw,if_true]at ak;have ba:=Hd ak;clear ak
  go_enter func22,ntmps22
  go_upto_region 1 with fail
  rw[HW.out.1,HW.out.2.1,HW.out.2.2]
  go_upto_region 2 with(first
   | (refine fF qr ?_;(with_reducible refine wp_load_mid 57 (.tmp 2) rfl w.heap.size 0 rfl (eP ao) (.array 32 5) bo.out qk rfl (by rw[bB];kernel_rfl) ?_))
   | (go_at_call 63;(with_reducible refine ba.out.mono ?_);rintro e K ⟨A4,c4,ys,rfl,aS,cS,aU,cI⟩;have U:=Hd (An aS (An cS (An aU cI)));clear aS cS aU cI))
  clear x0 x1 x2 x3 x4 x5 x6 x7;obtain⟨h,dd⟩:∃h,m=h+1:=⟨m - 1,qo⟩;subst dd;have dc:((h+1:Nat):Int) - 1=(h:Int):=qo
  go_upto_region 5 with fail
  clear dc;obtain⟨o,C,rfl,ap,bz⟩:=fo jV U.out.1.own.row bH;obtain⟨y,hy⟩:∃y,ys[h]?=some y:=⟨_,gx (by rw[U.out.1.len];omega)⟩;have ab:=bz h y hy;have cT:=U.out.1.each y (iu hy);have bD:M.getLast?=some y.a:=by rw[<-U.out.2.1,List.getLast?_eq_getElem?,List.length_map,U.out.1.len,List.getElem?_map,show h+1 - 1=h from by omega,hy];rfl
  have bU:=N.out.1 y.a (List.mem_of_getLast? bD);obtain⟨ti,bQ⟩:=eR (y.a.k.rnd);obtain⟨ph,bL⟩:=eR (y.a.k.phase);obtain⟨kx,bF⟩:=eR (y.a.k.idx);obtain⟨yr,b1⟩:=eR (y.a.r.length);obtain⟨yw,b2⟩:=eR (y.a.w.length);obtain⟨bj,bP⟩:=eR (y.sl);obtain⟨yA,bX⟩:=eR (y.A);obtain⟨yB,bY⟩:=eR (y.B);obtain⟨yc,bZ⟩:=eR (y.c);obtain⟨yd,b0⟩:=eR (y.d);have cN:y.a.val y.sl y.A y.c y.B y.d=.agg #[.int .i64 ti,.int .i64 ph,.int .i64 kx,.string bj,.slice yA yr yc,.slice yB yw yd]:=by unfold AG.val;rw[bQ,bL,bF,b1,b2,bP,bX,bY,bZ,b0]
  unfold AX.cs at ab;rw[bQ,bL,bF,b1,b2,bP,bX,bY,bZ,b0]at ab;obtain⟨az,aA,av,au,aC,sv,al,aL,cn,z⟩:=rU (nA y.a.w nm);obtain⟨e0,e1,e2,e3,e4,e5⟩:=F7 ab
  have bm:Hid (∀W,Fr [] K W->Calls prog 64 #[.agg #[.int .i64 ti,.int .i64 ph,.int .i64 kx,.string bj,.slice yA yr yc,.slice yB yw yd],.agg #[.int .i64 kd,.string so,.int .i64 nu,.int .i64 xx,.string aB]] W (fm W (.tuple #[.agg #[.int .i64 az,.string aA,.int .i64 av,.int .i64 au,.string aC,.string sv,.bool al],.bool aL]))):=Hd (λW hW=>by
   have D:=DI y.a y.sl y.A y.B y.c y.d nm W ((cT.fr0 hW).chw) N.out.2.1 (λx hx=>(kE bU.1 x hx).1) (by have:=bU.2.2;omega);rw[cN,N.out.2.2.1,cn]at D;exact D)
  have HY:=Hd (An bD z);have aI:=L.out.1.fr U.out.2.2.1 qs;have HSS:=Hd (λ(W:World) (hW:Fr [] K W)=>(show W.cell? ⟨o,C+h*6,none⟩=some (.int .i64 ti)/\W.cell? ⟨o,C+h*6+1,none⟩=some (.int .i64 ph)/\W.cell? ⟨o,C+h*6+2,none⟩=some (.int .i64 kx)/\W.cell? ⟨o,C+h*6+3,none⟩=some (.string bj)/\W.cell? ⟨o,C+h*6+4,none⟩=some (.slice yA yr yc)/\W.cell? ⟨o,C+h*6+5,none⟩=some (.slice yB yw yd)/\W.cell? ⟨w.heap.size+1,0,none⟩=some (.int .i64 kd)/\W.cell? ⟨w.heap.size+1,1,none⟩=some (.string so)/\W.cell? ⟨w.heap.size+1,2,none⟩=some (.int .i64 nu)/\W.cell? ⟨w.heap.size+1,3,none⟩=some (.int .i64 xx)/\W.cell? ⟨w.heap.size+1,4,none⟩=some (.string aB)from⟨(hW.cell ap qs).trans e0,(hW.cell ap qs).trans e1,(hW.cell ap qs).trans e2,(hW.cell ap qs).trans e3,(hW.cell ap qs).trans e4,(hW.cell ap qs).trans e5,(aI.fr hW qs).c 0,(aI.fr hW qs).c 1,(aI.fr hW qs).c 2,(aI.fr hW qs).c 3,(aI.fr hW qs).c 4⟩));clear ab cT bU bD z bQ bL bF b1 b2 bP bX bY bZ b0 cN cn hy aI e0 e1 e2 e3 e4 e5;have aq:=Hd (An ap bz);clear ap bz;have dr:(h:Int)<(h:Int)+1:=qo
  have du:IntKind.i64.wrap (h:Int)=(h:Int):=by simp[IntKind.wrap,IntKind.bits,IntKind.signed];omega
  have hC:Fr [] K K.drew:=(Fq _ K).drew;refine jk (a:=?va) (λa' W'=>∃aN,a'={ tmps:=(((((((((((((Act.tmps ?va).setIfInBounds 30 (.slice (some ⟨o,C,none⟩) (h+1) c4)).setIfInBounds 31 (.int .i64 (h:Int))).setIfInBounds 32 (.pointer (some ⟨o,C+h*6,none⟩))).setIfInBounds 33 (.agg #[.int .i64 ti,.int .i64 ph,.int .i64 kx,.string bj,.slice yA yr yc,.slice yB yw yd])).setIfInBounds 34 (.pointer (some ⟨w.heap.size+1,0,none⟩))).setIfInBounds 35 (.pointer (some ⟨w.heap.size+1,0,none⟩))).setIfInBounds 36 (.agg #[.int .i64 kd,.string so,.int .i64 nu,.int .i64 xx,.string aB])).setIfInBounds 37 (.tuple #[.agg #[.int .i64 az,.string aA,.int .i64 av,.int .i64 au,.string aC,.string sv,.bool al],.bool aL])).setIfInBounds 29 (.tuple #[.agg #[.int .i64 az,.string aA,.int .i64 av,.int .i64 au,.string aC,.string sv,.bool al],.bool aL])).setIfInBounds 38 (.agg #[.int .i64 az,.string aA,.int .i64 av,.int .i64 au,.string aC,.string sv,.bool al])).setIfInBounds 39 (.bool aL)).setIfInBounds 9 (.pointer (some ⟨aN,0,none⟩))).setIfInBounds 10 (.bool aL),defers:=[] }/\BoxN W' aN 95 #[.int .i64 az,.string aA,.int .i64 av,.int .i64 au,.string aC,.string sv,.bool al]/\Fr [] K W'/\K.heap.size<=aN) ?_ ?_
  ·refine eZ (λW=>Fr [] K W) 13 qk ?_ qd
   show fb 0 ..
   iterate 7 (refine gB rfl ?_;try simp only[qq])
   refine gO (i:=7) (j:=11) qk qd qd rfl rfl (λO E=>?_) (λO E=>?_)
   ·rw[if_pos qr]
    go_simp
    go_at_call 64
    (with_reducible refine(bm.out _ hC).mono ?_);rintro e E1 ⟨rfl,Q⟩;have aj:=hC.then Q;refine E _ _ aj ?_;clear E O hC Q
    try simp only[qq]
    have hC:=aj
    show fb 8 ..
    iterate 3 (refine gB rfl ?_;try simp only[qq])
    refine hO (i:=11) rfl λO E=>?_;go_simp
    obtain⟨E2,bb⟩:=eR (E1.alloc (.cells #[.int .i64 0,.string ⟨#[]⟩,.int .i64 0,.int .i64 0,.string ⟨#[]⟩,.string ⟨#[]⟩,.bool false] 95));have F:BoxN E2 E1.heap.size 95 #[.int .i64 0,.string ⟨#[]⟩,.int .i64 0,.int .i64 0,.string ⟨#[]⟩,.string ⟨#[]⟩,.bool false]:=by rw[<-bb];exact BoxN.new E1 _ _
    have aF:Fr [] K E2:=by rw[<-bb];exact aj.alloc _
    have hD:K.heap.size<=E1.heap.size:=aj.size;rw[bb];refine E _ _ aF ?_;clear E O bb hC aj
    try simp only[qq]
    obtain⟨u0,u1,u2,u3,u4,u5,u6⟩:=F.m7;have v0:=F.f 0;have v1:=F.f 1;have v2:=F.f 2;have v3:=F.f 3;have v4:=F.f 4;have v5:=F.f 5;have v6:=F.f 6;refine hO (i:=12) rfl λO E=>?_;go_simp
    obtain⟨E3,z,n3,f3⟩:=AP (E2) (E1.heap.size) F (.int .i64 az) (.string aA) (.int .i64 av) (.int .i64 au) (.string aC) (.string sv) (.bool al);rw[z];clear z;have aP:Fr [] K E3:=aF.trans f3 (by simp <;> omega);refine E _ _ aP ?_;clear E O u0 u1 u2 u3 u4 u5 u6 v0 v1 v2 v3 v4 v5 v6
    try simp only[qq]
    refine eW ⟨qk,?_⟩;simp only[qG,qH]
    go_wp2_with fail
    exact⟨_,rfl,n3,aP,hD⟩
   ·rw[if_pos qr]
    go_simp
    obtain⟨E1,ci,n1,aj⟩:=sf K #[.int .i64 0,.string ⟨#[]⟩,.int .i64 0,.int .i64 0,.string ⟨#[]⟩,.string ⟨#[]⟩,.bool false] 95;rw[ci];refine E _ _ aj ?_;clear E O ci hC
    try simp only[qq]
    refine hO (i:=7) rfl λO E=>?_;go_simp
    go_at_call 64
    (with_reducible refine(bm.out _ aj).mono ?_);rintro e E2 ⟨rfl,Q⟩;have aF:=aj.then Q;have F:=n1.fr Q qs;have hD:K.heap.size<=K.heap.size:=fV _;refine E _ _ aF ?_;clear E O aj Q n1
    try simp only[qq]
    have hC:=aF
    show fb 8 ..
    iterate 3 (refine gB rfl ?_;try simp only[qq])
    obtain⟨u0,u1,u2,u3,u4,u5,u6⟩:=F.m7;have v0:=F.f 0;have v1:=F.f 1;have v2:=F.f 2;have v3:=F.f 3;have v4:=F.f 4;have v5:=F.f 5;have v6:=F.f 6;refine hO (i:=12) rfl λO E=>?_;go_simp
    obtain⟨E3,z,n3,f3⟩:=AP (E2) (K.heap.size) F (.int .i64 az) (.string aA) (.int .i64 av) (.int .i64 au) (.string aC) (.string sv) (.bool al);rw[z];clear z;have aP:Fr [] K E3:=aF.trans f3 (by simp <;> omega);refine E _ _ aP ?_;clear E O u0 u1 u2 u3 u4 u5 u6 v0 v1 v2 v3 v4 v5 v6
    try simp only[qq]
    refine eW ⟨qk,?_⟩;simp only[qG,qH]
    go_wp2_with fail
    exact⟨_,rfl,n3,aP,hD⟩
  rintro a' S ⟨aN,rfl,aG,bC,db⟩;simp only[qA,qB,qC];have T:=Hd (U.out.2.2.1.then bC);have c6:=Hd aG;have a7:=Hd bC;clear bC db bm HSS hC ba bo HW
  cases aL with
  | false =>
   have ac:ju nm P (J.map PF.i) M=.error 8:=by
    rcases HY.out.2 with⟨_,D⟩|⟨D,_⟩
    ·unfold ju;rw[if_neg (by rw[aw];decide),HY.out.1];show (match nA y.a.w nm with|none=>_|some c=>_)=_;rw[D]
    ·cases D
   clear aG;have g:=L.out.2.1.fr T.out qs;obtain⟨G,t1,t2,t3,H,I⟩:=g.m6;have ad:=g.f 0;have ae:=g.f 1;have af:=g.f 2;have ag:=g.f 3;have ah:=g.f 4;have ai:=g.f 5
   go_wp2_with fail
   obtain⟨u2,z,aa,g2⟩:=qN (S) (w.heap.size+1+1) g (.int .u8 0) (.int .i64 0) (.slice none 0 0) (.slice none 0 0) (.slice none 0 0) (.slice none 0 0);rw[z];clear z;clear G t1 t2 t3 H I ad ae af ag ah ai;obtain⟨G,t1,t2,t3,H,I⟩:=aa.m6
   try simp only[Exit.inBlock,Exit.then]
   refine bodyPost_ret (v:=.tuple #[iU,.int .i64 8]) (by simp[results,results22,iU,go_sem,G,t1,t2,t3,H,I]) rfl ?_;unfold kH;rw[ac]
   exact⟨rfl,(L.out.2.2.then T.out).trans g2 (by simp;omega)⟩
  | true =>
   obtain⟨x,hx,a5,a6⟩:∃x,nA y.a.w nm=some x/\x.a=al/\sv.data.toList=x.v:=by
    rcases HY.out.2 with⟨D,_⟩|⟨_,D⟩
    ·cases D
    ·exact D
   obtain⟨d0,d1,d2,d3,d4,d5,d6⟩:=aG.m7;have bS:sv.size=x.v.length:=by rw[<-a6,Array.length_toList,ByteArray.size_data]
   cases al with
   | true =>
    have ac:ju nm P (J.map PF.i) M=.error 8:=oQ aw HY.out.1 hx (.inl a5);clear bS a5 a6 hx aG d0 d1 d2 d3 d4 d5;have g:=L.out.2.1.fr T.out qs;obtain⟨G,t1,t2,t3,H,I⟩:=g.m6;have ad:=g.f 0;have ae:=g.f 1;have af:=g.f 2;have ag:=g.f 3;have ah:=g.f 4;have ai:=g.f 5
    go_wp2_with fail
    obtain⟨u2,z,aa,g2⟩:=qN (S) (w.heap.size+1+1) g (.int .u8 0) (.int .i64 0) (.slice none 0 0) (.slice none 0 0) (.slice none 0 0) (.slice none 0 0);rw[z];clear z;clear G t1 t2 t3 H I ad ae af ag ah ai;obtain⟨G,t1,t2,t3,H,I⟩:=aa.m6
    try simp only[Exit.inBlock,Exit.then]
    refine bodyPost_ret (v:=.tuple #[iU,.int .i64 8]) (by simp[results,results22,iU,go_sem,G,t1,t2,t3,H,I]) rfl ?_;unfold kH;rw[ac]
    exact⟨rfl,(L.out.2.2.then T.out).trans g2 (by simp;omega)⟩
   | false =>
    have x5:S.cell? ⟨w.heap.size+1,5,none⟩=some (.int .i64 (P:Int)):=(L.out.1.fr T.out qs).c 5
    by_cases bf:x.v.length<=P
    ·have ac:ju nm P (J.map PF.i) M=.error 8:=oQ aw HY.out.1 hx (.inr bf)
     have cr:((sv.size:Int)<=(P:Int)):=qo
     clear bS a5 a6 hx aG d0 d1 d2 d3 d4 bf;have g:=L.out.2.1.fr T.out qs;obtain⟨G,t1,t2,t3,H,I⟩:=g.m6;have ad:=g.f 0;have ae:=g.f 1;have af:=g.f 2;have ag:=g.f 3;have ah:=g.f 4;have ai:=g.f 5
     go_wp2_with fail
     obtain⟨u2,z,aa,g2⟩:=qN (S) (w.heap.size+1+1) g (.int .u8 0) (.int .i64 0) (.slice none 0 0) (.slice none 0 0) (.slice none 0 0) (.slice none 0 0);rw[z];clear z;clear G t1 t2 t3 H I ad ae af ag ah ai;obtain⟨G,t1,t2,t3,H,I⟩:=aa.m6
     try simp only[Exit.inBlock,Exit.then]
     refine bodyPost_ret (v:=.tuple #[iU,.int .i64 8]) (by simp[results,results22,iU,go_sem,G,t1,t2,t3,H,I]) rfl ?_;unfold kH;rw[ac];exact⟨rfl,(L.out.2.2.then T.out).trans g2 (by simp;omega)⟩
    ·have cr:¬((sv.size:Int)<=(P:Int)):=qo
     have ce:=Hd (rV (P:=P) aw HY.out.1 hx (by rw[a5];exact λD=>D.elim (λD=>nomatch D) bf));have df:=Ct a6 9 underlying9 P qo;obtain⟨bv,bw⟩:=eR (x.v.getD P 0);rw[bw]at df;have c3:=Hd bw;clear bS a5 a6 hx aG bf bw
     go_upto_region 8 with fail
     clear d0 d1 d2 d3 d4 d5 d6 x5 cr;obtain⟨ga,oa,rfl,bt,bA⟩:=fo (wG n) c8.out.own.row (by rw[N.out.2.2.2.1];exact bH);obtain⟨p,hp⟩:∃p,J[h]?=some p:=⟨_,gx (by rw[N.out.2.2.2.1];omega)⟩;have b3:w3.cell? ⟨ga,oa+h*4,none⟩=some (.int .i64 (p.i:Int)):=bA h p hp 0 qo;have cb:Hid ((J.map PF.i).getLastD 0=p.i):=Hd (by rw[List.getLastD_eq_getLast?,List.getLast?_eq_getElem?,List.length_map,N.out.2.2.2.1,List.getElem?_map,show h+1 - 1=h from by omega,hp];rfl);obtain⟨pl,aK⟩:=eR (p.i);rw[aK]at b3 cb;have bx:=L.out.1.fr T.out qs;have HSS:=Hd (λ(W:World) (hW:Fr [] S W)=>(show W.cell? ⟨aN,5,none⟩=some (.string sv)/\W.cell? ⟨w.heap.size+1,5,none⟩=some (.int .i64 (P:Int))/\W.cell? ⟨w.heap.size+1,7,none⟩=some (.slice (some ⟨ga,oa,none⟩) (h+1) c)/\W.cell? ⟨ga,oa+h*4,none⟩=some (.int .i64 (pl:Int))from⟨(c6.out.fr hW qs).c 5,(bx.fr hW qs).c 5,(bx.fr hW qs).c 7,((T.out.then hW).cell bt qs).trans b3⟩));have b8:=Hd (An bt bA);clear b3 bx bt bA hp aK p;have hC:Fr [] S S.drew:=(Fq _ S).drew;refine eZ (λW=>Fr [] S W) 14 qk ?_ qd
     show fb 0 ..
     iterate 13 (refine gB rfl ?_;try simp only[qq])
     refine hO (i:=13) rfl λO E=>?_;go_simp
     obtain⟨w6,cQ,n6,f6⟩:=sf S #[.int .u8 0,.int .i64 0,.slice none 0 0,.slice none 0 0,.slice none 0 0,.slice none 0 0] 64;rw[cQ];refine E _ _ f6 ?_;clear E O hC cQ HSS
     try simp only[qq]
     refine eW ⟨qk,?_⟩;simp only[qG,qH];obtain⟨CB,br⟩:=eR (S.heap.size);have b7:=Hd br;rw[br]at n6 ⊢;obtain⟨y0,y1,y2,y3,y4,y5⟩:=n6.m6;have v0:=n6.f 0;have v1:=n6.f 1;have v2:=n6.f 2;have v3:=n6.f 3;have v4:=n6.f 4;have v5:=n6.f 5;have bn:=Hd (An n6 f6);clear n6 f6 br
     go_upto_region 9 with fail
     obtain⟨w7,z,n7,f7⟩:=qN (w6) (CB) bn.out.1 (.int .u8 (bv.toNat:Int)) (.int .i64 (pl:Int)) (.slice none 0 0) (.slice none 0 0) (.slice none 0 0) (.slice none 0 0);rw[z];clear z;clear y0 y1 y2 y3 y4 y5 v0 v1 v2 v3 v4 v5;obtain⟨q0,aZ⟩:=eR ((.int .u8 (bv.toNat:Int):Value));obtain⟨q1,a3⟩:=eR ((.int .i64 (pl:Int):Value));have c9:=Hd (An aZ a3);rw[aZ,a3]at n7;have HV:Hid (VIg q0 q1 S w7 CB 0 0 0 0 none none [] []):=Hd ⟨n7,Own.nil _ _ _,Own.nil _ _ _,⟨by simp[eV],by simp[eV],by rw[b7.out];exact fV _⟩,by simp[eV],by simp[eV],by simp[eV],bn.out.2.trans f7 (by simp;rw[b7.out];exact fV _)⟩;clear n7 f7 bn aZ a3;have x7:w7.cell? ⟨w.heap.size+1,7,none⟩=some (.slice (some ⟨ga,oa,none⟩) (h+1) c):=(L.out.1.fr (T.out.then HV.out.fr) qs).c 7
     go_wp2_with fail
     clear x7
     go_loopw [72] (λi W=>∃(j ic kc:Nat) (IA KA:Option Addr),j<=h+1/\i=.int .i64 (j:Int)/\VIg q0 q1 S W CB j j ic kc IA KA (jX ((J.map PF.i).take j)) ((M.take j).flatMap lo)) (λi _=>h+1 - (intOf i).toNat)
     case atStart=>exact⟨0,0,0,none,none,Nat.zero_le _,rfl,HV.out⟩
     case round =>
      obtain⟨j,ic,kc,IA,KA,hj,rfl,cO⟩:=hrel;have HJ:=Hd cO;clear cO
      by_cases cz:j<h+1
      ·have de:(j:Int)<((h+1:Nat):Int):=qo
       obtain⟨p,hp⟩:∃p,J[j]?=some p:=⟨_,gx (by rw[N.out.2.2.2.1];omega)⟩;obtain⟨yj,bi⟩:∃y,ys[j]?=some y:=⟨_,gx (by rw[U.out.1.len];omega)⟩;have ax:=b8.out.2 j p hp;have ab:=aq.out.2 j yj bi;obtain⟨sp,cL,_,_⟩:=eT p.s;obtain⟨pi,aJ⟩:=eR (p.i);obtain⟨pA,cF⟩:=eR (p.A);obtain⟨pd,cH⟩:=eR (p.d.length);obtain⟨pc,cG⟩:=eR (p.c);obtain⟨tj,bR⟩:=eR (yj.a.k.rnd);obtain⟨pj,bM⟩:=eR (yj.a.k.phase);obtain⟨xj,bV⟩:=eR (yj.a.k.idx);obtain⟨sj,bO⟩:=eR (yj.sl)
       have cj:jX ((J.map PF.i).take (j+1))=jX ((J.map PF.i).take j)++[.int .i64 (pi:Int)]:=by
        rw[mj (x:=p.i) (by rw[List.getElem?_map,hp];rfl),<-aJ];unfold jX;rw[List.map_append];rfl
       have cl:(M.take (j+1)).flatMap lo=(M.take j).flatMap lo++[.int .i64 tj,.int .i64 pj,.int .i64 xj,.string sj]:=by
        have h1:M[j]?=some yj.a:=by rw[<-U.out.2.1,List.getElem?_map,bi];rfl
        rw[mj h1,List.flatMap_append,<-bR,<-bM,<-bV,<-bO,<-(U.out.1.each yj (iu bi)).s];simp[lo]
       have cc:=Hd (An cj cl);unfold PF.cs at ax;rw[cL,aJ,cF,cH,cG]at ax;unfold AX.cs at ab;rw[bR,bM,bV,bO]at ab;have c0:K.cell? ⟨o,C+j*6,none⟩=some (.int .i64 tj):=ab 0 qo;have k1:K.cell? ⟨o,C+j*6+1,none⟩=some (.int .i64 pj):=ab 1 qo;have c1:K.cell? ⟨o,C+j*6+2,none⟩=some (.int .i64 xj):=ab 2 qo;have c2:K.cell? ⟨o,C+j*6+3,none⟩=some (.string sj):=ab 3 qo;have HK:=Hd (An c0 (An k1 (An c1 c2)));have aQ:=T.out.then HJ.out.fr;have aX:ga<w3.heap.size:=b8.out.1;have dk:wr.cell? ⟨ga,oa+j*4,none⟩=some (.int .i64 (pi:Int)):=(aQ.cell aX qs).trans (ax 0 qo);have z1:wr.cell? ⟨ga,oa+j*4+1,none⟩=some (.int .i64 (n:Int)):=(aQ.cell aX qs).trans (ax 1 qo);have z2:wr.cell? ⟨ga,oa+j*4+2,none⟩=some (.string sp):=(aQ.cell aX qs).trans (ax 2 qo);have z3:wr.cell? ⟨ga,oa+j*4+3,none⟩=some (.slice pA pd pc):=(aQ.cell aX qs).trans (ax 3 qo);clear ax ab cL aJ cF cH cG bR bM bV bO cj cl c0 k1 c1 c2 hp bi aQ aX
       go_upto_region 12 with fail
       obtain⟨P0,hP,zP,nP,fP⟩:=il wr #[.int .i64 (pi:Int),.int .i64 (n:Int),.string sp,.slice pA pd pc] 53 wr.heap.size;rw[hP];have p0:=nP.k0;have aE:=Hd (HJ.out.fr0 fP);have ch:=aE.out.box.k2;have ca:=Hd aE.out.io;obtain⟨jj,cw,cX,cY,cZ⟩:=kt;clear dk z1 z2 z3 nP hP fP zP
       go_upto_region 13 with(at_builtin;(with_reducible refine fp (w:=P0) rfl (.tmp 78) (.tmp 81) 36 rfl 3 jj _ 1 8 underlying36 cw cX cY cZ rfl qd IA j ic _ rfl ca.out 1 1 [.int .i64 (pi:Int)] 3 rfl rfl (by simp[Value.oneCell']) (by unfold maxLen;omega) qo ?_);intro IB jc P1 ho Q hs;have bd:=aE.out.box.fr Q aE.out.d.1;have b5:P1.cell? ⟨CB,2,none⟩=_:=bd.c 2;have b6:=bd.f 2;have H1:=Hd (An ho (An Q (An hs bd)));clear ho Q hs bd)
       obtain⟨P2,bc⟩:=eR (P1.setCell ⟨CB,2,none⟩ (.slice IB (j+1) jc));have F:BoxN P2 CB 64 #[q0,q1,.slice IB (j+1) jc,.slice KA j kc,.slice none 0 0,.slice none 0 0]:=by rw[<-bc];exact H1.out.2.2.2.setAt 2 _
       have f2:Fr [CB] P1 P2:=by rw[<-bc];exact(Fq [CB] P1).st _
       try rw[bc]
       have a9:=Hd (aE.out.putI H1.out.2.1 H1.out.1 H1.out.2.2.1 f2 F);clear p0 ch b5 b6 bc F f2 H1 ca aE cX cY cZ cw;have aa:=a9.out.box
       have a8:=Hd (λ(W:World) (hW:Fr [] S W)=>(show W.cell? ⟨o,C+j*6,none⟩=some (.int .i64 tj)/\W.cell? ⟨o,C+j*6+1,none⟩=some (.int .i64 pj)/\W.cell? ⟨o,C+j*6+2,none⟩=some (.int .i64 xj)/\W.cell? ⟨o,C+j*6+3,none⟩=some (.string sj)from by
        have D:=a7.out.then hW;exact⟨(D.cell aq.out.1 qs).trans HK.out.1,(D.cell aq.out.1 qs).trans HK.out.2.1,(D.cell aq.out.1 qs).trans HK.out.2.2.1,(D.cell aq.out.1 qs).trans HK.out.2.2.2⟩))
       have HSS:=Hd (λ(W:World) (hW:W.cell? ⟨CB,3,none⟩=some (.slice KA j kc)/\W.cell? ⟨o,C+j*6,none⟩=some (.int .i64 tj)/\W.cell? ⟨o,C+j*6+1,none⟩=some (.int .i64 pj)/\W.cell? ⟨o,C+j*6+2,none⟩=some (.int .i64 xj)/\W.cell? ⟨o,C+j*6+3,none⟩=some (.string sj))=>hW);have hC:(λW:World=>W.cell? ⟨CB,3,none⟩=some (.slice KA j kc)/\W.cell? ⟨o,C+j*6,none⟩=some (.int .i64 tj)/\W.cell? ⟨o,C+j*6+1,none⟩=some (.int .i64 pj)/\W.cell? ⟨o,C+j*6+2,none⟩=some (.int .i64 xj)/\W.cell? ⟨o,C+j*6+3,none⟩=some (.string sj)) P2.drew:=⟨aa.c 3,a8.out P2 a9.out.fr⟩;refine eZ (λW:World=>W.cell? ⟨CB,3,none⟩=some (.slice KA j kc)/\W.cell? ⟨o,C+j*6,none⟩=some (.int .i64 tj)/\W.cell? ⟨o,C+j*6+1,none⟩=some (.int .i64 pj)/\W.cell? ⟨o,C+j*6+2,none⟩=some (.int .i64 xj)/\W.cell? ⟨o,C+j*6+3,none⟩=some (.string sj)) 9 qk ?_ qd
       show fb 0 ..
       iterate 7 (refine gB rfl ?_;try simp only[qq])
       refine hO (i:=7) rfl λO E=>?_;go_simp
       obtain⟨Q1,cm,nQ,fQ⟩:=sf P2 #[.int .i64 tj,.int .i64 pj,.int .i64 xj,.string sj] 89;rw[cm];have am:=a9.out.fr0 fQ;have bu:=am.box;refine E _ _ ⟨bu.c 3,a8.out Q1 am.fr⟩ ?_;clear E O cm hC
       try simp only[qq]
       refine hO (i:=8) rfl λO E=>?_;obtain⟨ii,cu,cU,cV,cW⟩:=lX;refine gF (.tmp 85) (.tmp 91) 60 rfl 89 ii _ 4 40 underlying60 cu cU cV cW rfl qd KA j kc _ rfl am.ko ⟨P2.heap.size,0,none⟩ 1 1 [.int .i64 tj,.int .i64 pj,.int .i64 xj,.string sj] rfl rfl (λj u hu=>by rw[fx,nQ.c j];simpa using hu) (by simp[Value.oneCell']) (by unfold maxLen;omega) qo ?_;intro KB b4 Q2 cD ay ck;have aR:o ∉ eV KA:=λhm=>by have h1:=am.hk o hm;have h2:=aq.out.1;have h3:=a7.out.size;omega
       have aT:=bu.fr ay am.d.2.1;have aW:o<Q1.heap.size:=Nat.lt_of_lt_of_le aq.out.1 (Nat.le_trans a7.out.size am.fr.size);have aY:=a8.out Q1 am.fr;refine E _ _ ⟨aT.c 3,(ay.cell aW aR).trans aY.1,(ay.cell aW aR).trans aY.2.1,(ay.cell aW aR).trans aY.2.2.1,(ay.cell aW aR).trans aY.2.2.2⟩ ?_;clear E O
       try simp only[qq]
       refine eW ⟨qk,?_⟩;simp only[qG,qH];have b5:=aT.k3;have b6:=aT.f 3;have aD:=Hd (An am (An cD (An ay (An ck aT))));clear am cD ay ck aT aR aW aY bu aa nQ fQ HSS cU cV cW cu
       go_upto_region 14 with fail
       obtain⟨wY,bh⟩:=eR (Q2.setCell ⟨CB,3,none⟩ (.slice KB (j+1) b4));have nY:BoxN wY CB 64 #[q0,q1,.slice IB (j+1) jc,.slice KB (j+1) b4,.slice none 0 0,.slice none 0 0]:=by rw[<-bh];exact aD.out.2.2.2.2.setAt 3 _
       have fY:Fr [CB] Q2 wY:=by rw[<-bh];exact(Fq [CB] Q2).st _
       try rw[bh]
       have da:=Hd (aD.out.1.putK aD.out.2.2.1 aD.out.2.1 aD.out.2.2.2.1 fY nY);clear b5 b6 bh nY fY aD a9 a8 HK
       go_wp2_with fail
       go_roundw
       case rel=>exact⟨j+1,jc,b4,IB,KB,qo,by go_num,by rw[cc.out.1,cc.out.2];exact da.out⟩
       case measure=>simp[intOf];omega
      ·obtain rfl:j=h+1:=qo
       clear HV
       go_upto_region 15 with fail
       have V:=HJ.out;rw[List.take_of_length_le (by rw[List.length_map,N.out.2.2.2.1];exact fV _),List.take_of_length_le (by rw[N.out.2.2.2.2];exact fV _)]at V;obtain⟨ix,rfl,cv⟩:=Cs.of_own V.io qo;have cC:ix≠CB:=by have:=V.d.1;simpa [eV,eq_comm]using this
       have aS:=U.out.1.fr0 (a7.out.then V.fr);have cy:=E4 CB (h+1) ic c4 ix q0 q1 (.slice KA (h+1) kc) (J.map PF.i) (some ⟨o,C,none⟩) ys M wr V.box cv cC aS U.out.2.1 N.out.1 (by rw[List.length_map,N.out.2.2.2.1]) (DM aw) cA;have aO:=Hd cy;have bp:=Hd V;have b9:Hid (S.heap.size<=CB):=Hd V.d.2.2;have c5:Hid (w.heap.size+1+1<S.heap.size):=Hd (L.out.2.1.fr T.out qs).lt;clear V cv cC aS cy;unfold Ev at aO
       cases bg:i6 M (J.map PF.i) (h+1)with
       | none =>
        rw[bg]at aO;have ac:ju nm P (J.map PF.i) M=.error 10:=ce.out.1 (by rw[N.out.2.2.2.2];exact bg)
        go_upto_region 16 with(go_at_call 65;(with_reducible refine aO.out.mono ?_);rintro e wA ⟨rfl,aV⟩;have HA:=Hd aV;clear aV)
        have ar:=Hd ((T.out.then bp.out.fr).trans HA.out (λk R=>.inr (by have h1:=b9.out;have h2:=T.out.size;simp at R;omega)));have g:=L.out.2.1.fr ar.out qs;obtain⟨G,t1,t2,t3,H,I⟩:=g.m6;have ad:=g.f 0;have ae:=g.f 1;have af:=g.f 2;have ag:=g.f 3;have ah:=g.f 4;have ai:=g.f 5
        go_wp2_with fail
        obtain⟨u2,z,aa,g2⟩:=qN (wA) (w.heap.size+1+1) g (.int .u8 0) (.int .i64 0) (.slice none 0 0) (.slice none 0 0) (.slice none 0 0) (.slice none 0 0);rw[z];clear z;clear G t1 t2 t3 H I ad ae af ag ah ai;obtain⟨G,t1,t2,t3,H,I⟩:=aa.m6
        try simp only[Exit.inBlock,Exit.then]
        refine bodyPost_ret (v:=.tuple #[iU,.int .i64 10]) (by simp[results,results22,iU,go_sem,G,t1,t2,t3,H,I]) rfl ?_;unfold kH;rw[ac]
        exact⟨rfl,(L.out.2.2.then ar.out).trans g2 (by simp;omega)⟩
       | some s =>
        rw[bg]at aO;have cf:Hid (ju nm P (J.map PF.i) M=if(List.range h).all (λi=>decide (i∈s.used))=true then .ok (bv,s)else .error 33):=Hd (by rw[ce.out.2 s (by rw[N.out.2.2.2.2];exact bg),N.out.2.2.2.2,show h+1 - 1=h from by omega,c3.out])
        go_upto_region 16 with(go_at_call 65;(with_reducible refine aO.out.mono ?_);rintro e wA ⟨mu,lc,bq,LA,AA,l,rfl,cp,cK,cJ,co,⟨es,cB,ct⟩,aV⟩;have HA:=Hd (An cp (An cK (An cJ (An co aV))));have HM:=Hd (An cB ct);clear cp cK cJ co cB ct aV)
        have ar:=Hd ((T.out.then bp.out.fr).trans HA.out.2.2.2.2 (λk R=>.inr (by have h1:=b9.out;have h2:=T.out.size;simp at R;omega)))
        go_wp2_with fail
        go_loopw [105] (λi W=>W=wA/\∃(j:Nat),j<=h/\i=.int .i64 (j:Int)/\∀k,k<j->k∈s.used) (λi _=>h - (intOf i).toNat)
        case atStart=>exact⟨rfl,0,Nat.zero_le _,rfl,λk R=>absurd R qo⟩
        case round =>
         obtain⟨dg,j,hj,rfl,cM⟩:=hrel;subst dg;have cd:=Hd cM;clear cM
         by_cases cz:j<h
         ·have de:(j:Int)<(h:Int):=qo
          obtain⟨kl,cx⟩:=pq (i:=(j:Int)) (jF qo qo);have bG:=HM.out.1.look0 (λa b D=>by injection D with _ D;omega) oJ underlying143 j cx (Az wr);rw[HM.out.2 j]at bG;clear cx
          by_cases aH:j∈s.used
          ·rw[if_pos aH]at bG
           have c7:=Hd aH;clear aH
           go_wp2_with fail
           go_roundw
           case rel=>exact⟨trivial,j+1,qo,by go_num,λq hq=>(Nat.lt_or_eq_of_le (Nat.le_of_lt_succ hq)).elim (cd.out q) (λD=>by rw[D];exact c7.out)⟩
           case measure=>simp[intOf];omega
          ·rw[if_neg aH]at bG
           have ac:ju nm P (J.map PF.i) M=.error 33:=by
            rw[cf.out,if_neg];intro D;exact aH (of_decide_eq_true (List.all_eq_true.1 D j (List.mem_range.2 cz)))
           clear aH;have g:=L.out.2.1.fr ar.out qs;obtain⟨G,t1,t2,t3,H,I⟩:=g.m6;have ad:=g.f 0;have ae:=g.f 1;have af:=g.f 2;have ag:=g.f 3;have ah:=g.f 4;have ai:=g.f 5
           go_wp2_with fail
           obtain⟨u2,z,aa,g2⟩:=qN (wr) (w.heap.size+1+1) g (.int .u8 0) (.int .i64 0) (.slice none 0 0) (.slice none 0 0) (.slice none 0 0) (.slice none 0 0);rw[z];clear z;clear G t1 t2 t3 H I ad ae af ag ah ai;obtain⟨G,t1,t2,t3,H,I⟩:=aa.m6
           try simp only[Exit.inBlock,Exit.then]
           refine bodyPost_ret (v:=.tuple #[iU,.int .i64 33]) (by simp[results,results22,iU,go_sem,G,t1,t2,t3,H,I]) rfl ?_;unfold kH;rw[ac];exact⟨rfl,(L.out.2.2.then ar.out).trans g2 (by simp;omega)⟩
         ·obtain rfl:j=h:=qo
          have ac:ju nm P (J.map PF.i) M=.ok (bv,s):=by
           rw[cf.out,if_pos];exact List.all_eq_true.2 λk R=>decide_eq_true (cd.out k (List.mem_range.1 R))
          obtain⟨aZ,a3⟩:=c9.out;subst aZ;subst a3;have an:=L.out.2.1.fr ar.out qs;have bk:=Hd an;have cq:=HA.out.1;obtain⟨dl,dm,ch,dn,dp,dq⟩:=cq.m6;obtain⟨y0,y1,y2,y3,y4,y5⟩:=an.m6;have v0:=an.f 0;have v1:=an.f 1;have v2:=an.f 2;have v3:=an.f 3;have v4:=an.f 4;have v5:=an.f 5;clear cq an
          go_wp2_with fail
          obtain⟨wB,z,nB,fB⟩:=qN (wr) (w.heap.size+1+1) bk.out (.int .u8 (bv.toNat:Int)) (.int .i64 (pl:Int)) (.slice (some ⟨ix,0,none⟩) (j+1) ic) (.slice KA (j+1) kc) (.slice LA s.lks.length lc) (.slice AA l.length bq);rw[z];clear z;obtain⟨G,t1,t2,t3,H,I⟩:=nB.m6;refine bodyPost_ret (v:=.tuple #[.agg #[.int .u8 (bv.toNat:Int),.int .i64 (pl:Int),.slice (some ⟨ix,0,none⟩) (j+1) ic,.slice KA (j+1) kc,.slice LA s.lks.length lc,.slice AA l.length bq],.int .i64 0]) (by simp[results,results22,go_sem,G,t1,t2,t3,H,I]) rfl ?_;unfold kH;rw[ac];have dt:w.heap.size+1+1<S.heap.size:=c5.out;have aJ:(J.map PF.i).length=j+1:=by rw[List.length_map,N.out.2.2.2.1]
          have V:=bp.out;refine⟨_,rfl,⟨some ⟨ix,0,none⟩,KA,LA,AA,ic,kc,lc,bq,l,?_,?_,?_,?_,?_,HA.out.2.2.2.1⟩,(L.out.2.2.then ar.out).trans fB (λk R=>.inr (by simp at R;omega))⟩
          ·rw[aJ,N.out.2.2.2.2,cb.out]
          ·rw[aJ];exact(V.io.rd.fr HA.out.2.2.2.2 (by intro k R;simp only[gI];rintro rfl;exact V.d.1 R)).fr fB (by intro k R;have:=V.hi k R;simp;omega)
          ·rw[N.out.2.2.2.2];exact(V.ko.rd.fr HA.out.2.2.2.2 (by intro k R;simp only[gI];rintro rfl;exact V.d.2.1 R)).fr fB (by intro k R;have:=V.hk k R;simp;omega)
          ·exact Cu HA.out.2.1 bk.out qs fB
          ·exact Cu HA.out.2.2.1 bk.out qs fB
 ·have hb:nC (J.map PF.i)=false:=by simpa using aw
  unfold rP at ak;simp only[hb,Bool.false_eq_true,if_false]at ak;have ba:=Hd ak;clear ak
  go_enter func22,ntmps22
  go_upto_region 1 with fail
  rw[HW.out.1,HW.out.2.1,HW.out.2.2]
  go_upto_region 2 with(first
   | (refine fF qr ?_;(with_reducible refine wp_load_mid 57 (.tmp 2) rfl w.heap.size 0 rfl (eP ao) (.array 32 5) bo.out qk rfl (by rw[bB];kernel_rfl) ?_))
   | (go_at_call 63;(with_reducible refine ba.out.mono ?_);rintro e K ⟨rfl,aU⟩;have U:=Hd aU;clear aU))
  clear x0 x1 x2 x3 x4 x5 x6 x7;have g:=L.out.2.1.fr U.out qs;obtain⟨G,t1,t2,t3,H,I⟩:=g.m6;have ad:=g.f 0;have ae:=g.f 1;have af:=g.f 2;have ag:=g.f 3;have ah:=g.f 4;have ai:=g.f 5
  go_wp2_with fail
  obtain⟨u2,z,aa,g2⟩:=qN (K) (w.heap.size+1+1) g (.int .u8 0) (.int .i64 0) (.slice none 0 0) (.slice none 0 0) (.slice none 0 0) (.slice none 0 0);rw[z];clear z;clear G t1 t2 t3 H I ad ae af ag ah ai;obtain⟨G,t1,t2,t3,H,I⟩:=aa.m6;refine bodyPost_ret (v:=.tuple #[iU,.int .i64 32]) (by simp[results,results22,iU,go_sem,G,t1,t2,t3,H,I]) rfl ?_;unfold kH ju;rw[if_pos hb];exact⟨rfl,(L.out.2.2.then U.out).trans g2 (by simp;omega)⟩
theorem AB:∃i,(prog).info? 4=some i/\i.zero=some (.bool false)/\i.size=1/\i.bytes=1:=info_parts qk
def nD(m:Nat)(u:List Nat):Array Value:=((List.range m).map λj=>Value.bool (decide (j∈u))).toArray
theorem yz{m j:Nat}{u:List Nat}(h:j<m):(nD m u)[j]?=some (.bool (decide (j∈u))):=by
 unfold nD;simp[h]
theorem DN{m k:Nat}{u:List Nat}(h:k<m):(nD m u).setIfInBounds k (.bool true)=nD m (k::u):=by
 apply Array.ext
 ·simp[nD]
 ·intro j g d
  have f:j<m:=by simpa [nD]using d
  rw[Array.getElem_setIfInBounds (by simpa [nD]using f)]
  by_cases e:k=j
  ·subst e;simp[nD]
  ·have a:j≠k:=λh=>e h.symm
   simp[nD,e,a]
theorem AD(w:World)(n:Nat)(o:n<=1000):(Instr.makeSlice 148 (.int .i64 (n:Int)) (.int .i64 (n:Int))).run prog w=.ok (.slice (some ⟨w.heap.size,0,none⟩) n n) (w.alloc (.cells (nD n []) 4)):=by
 obtain⟨i,e,g,a,d⟩:=AB;have h:=run_makeSlice (P:=prog) (w:=w) 148 4 i (.bool false) underlying148 e g .i64 .i64 n n qo qo (by rw[a];omega) (by rw[d];omega) qo
 have f:madeCells (Value.bool false).cells ((n:Int).toNat*1)=nD n []:=by
  rw[Nat.mul_one,Int.toNat_natCast]
  apply Array.ext
  ·simp[madeCells,nD]
  ·intro j k l
   simp[madeCells,nD,Nat.mod_one,Value.cells]
 rw[h,a,f,Int.toNat_natCast]
structure LVg(w W:World)(c ub ma m:Nat)(v0 v1 v2 v3:Value)(LA:Option Addr)(lc:Nat)(s:LS):Prop where
 box:BoxN W c 64 #[v0,v1,v2,v3,.slice LA s.lks.length lc,.slice none 0 0]
 own:Own W 98 7 LA s.lks.length lc (s.lks.flatMap LK.cs)
 us:BoxN W ub 4 (nD m s.used)
 am:∃es,MM 31 fg lG W ma es/\(∀n,iM es n=s.asm n)/\∀e∈es,e.2.n=e.1/\e.2.v.length<=65536/\eX e.1=0
 d:c<w.heap.size/\w.heap.size<=ub/\ub<ma
 la:∀q∈eV LA,ma<q
 fr:Fr [c] w W
section
variable {w X Y Z:World} {c ub ma m b lc:Nat} {v0 v1 v2 v3:Value} {LA:Option Addr} {s:LS}
theorem LVg.young(h:LVg w X c ub ma m v0 v1 v2 v3 LA lc s):ma<X.heap.size:=by obtain⟨es,a,_⟩:=h.am;exact a.map.lt
theorem LVg.fr0(h:LVg w X c ub ma m v0 v1 v2 v3 LA lc s)(a:Fr [] X Y):LVg w Y c ub ma m v0 v1 v2 v3 LA lc s:=by
 obtain⟨e,g,f⟩:=h.am;exact⟨h.box.fr a qs,h.own.fr a qs,h.us.fr a qs,⟨e,g.fr0 a,f⟩,h.d,h.la,h.fr.trans a qs⟩
theorem LVg.putU(h:LVg w X c ub ma m v0 v1 v2 v3 LA lc s){k:Nat}(j:k<m):LVg w (X.setCell ⟨ub,k,none⟩ (.bool true)) c ub ma m v0 v1 v2 v3 LA lc ⟨k::s.used,s.asm,s.lks⟩/\Fr [ub] X (X.setCell ⟨ub,k,none⟩ (.bool true)):=by
 have i:=h.d;have a:Fr [ub] X (X.setCell ⟨ub,k,none⟩ (.bool true)):=(Fq [ub] X).st _;obtain⟨f,p,g⟩:=h.am;refine⟨⟨h.box.fr a (by simp;omega),h.own.fr a (λq n l=>?_),?_,⟨f,p.fr a (by simp;omega),g⟩,i,h.la,h.fr.trans a (λx o=>.inr (by simp at o;omega))⟩,a⟩
 ·have:=h.la q n
  simp at l;omega
 ·have e:=h.us.setAt k (.bool true)
  rw[DN j]at e;exact e
theorem LVg.putA(h:LVg w X c ub ma m v0 v1 v2 v3 LA lc s)(x:CH)(l:eX x.n=0)(D:x.v.length<=65536):
 ∃Y,(Instr.mapUpdate 149 (.map (some ma)) (fg x.n) (lG x)).run prog X=.ok () Y/\Fr [ma] X Y/\LVg w Y c ub ma m v0 v1 v2 v3 LA lc ⟨s.used,λy=>if x.n=y then some x else s.asm y,s.lks⟩:=by
 have r:=h.d;obtain⟨I,H,p,F⟩:=h.am;obtain⟨J,u⟩:=fU l;obtain⟨Y,i,B,g,k,j⟩:=H.put ir iA underlying149 x.n x u;refine⟨Y,B,g,h.box.fr g (by simp;omega),h.own.fr g (λq C A=>?_),h.us.fr g (by simp;omega),⟨i,k,λy=>by rw[j y,p y],λe t=>?_⟩,r,h.la,h.fr.trans g (λx a=>.inr (by simp at a;omega))⟩
 ·have:=h.la q C
  simp at A;omega
 ·have f:iM i e.1=some e.2:=by
   obtain⟨G,l2,rfl⟩:=List.append_of_mem t;have o:=k.nd;rw[List.map_append,List.map_cons]at o;rw[kD (λy E=>(List.nodup_append.1 o).2.2 y.1 (List.mem_map.2 ⟨y,E,rfl⟩) e.1 qs),jG,if_pos rfl]
  rw[j e.1]at f
  by_cases a:x.n=e.1
  ·rw[if_pos a]at f
   rw[<-Option.some.inj f];exact⟨a,D,by rw[<-a];exact l⟩
  ·rw[if_neg a]at f
   obtain⟨G,l2,z⟩:=jq f;exact F (e.1,e.2) (by rw[z];simp)
theorem LVg.putL(h:LVg w X c ub ma m v0 v1 v2 v3 LA lc s){e:Option Addr}{k:Nat}(x:LK)(i:Fr (eV LA) X Y)(v:Own Y 98 7 e (s.lks.length+1) k (s.lks.flatMap LK.cs++x.cs))(r:∀q∈eV e,q∈eV LA \/ X.heap.size<=q)
 (g:Fr [c] Y Z) (t:BoxN Z c 64 #[v0,v1,v2,v3,.slice e (s.lks.length+1) k,.slice none 0 0]):LVg w Z c ub ma m v0 v1 v2 v3 e k ⟨s.used,s.asm,s.lks++[x]⟩:=by
 have u:=h.d;have z:=h.young;obtain⟨o,y,p⟩:=h.am
 have l:∀q∈eV e,ma<q:=λq a=>by
  rcases r q a with f|f
  ·exact h.la q f
  ·omega
 have n:∀q,q<=ma->q ∉ eV LA:=λq a j=>by have:=h.la q j;omega
 refine⟨by rw[gG];exact t,?_,(h.us.fr i (n _ qo)).fr g (by simp;omega),⟨o,(y.fr i (n _ qo)).fr g (by simp;omega),p⟩,u,l,(h.fr.trans i (λq a=>.inr (by have:=h.la q a;omega))).then g⟩;have f:=v.fr g (λq a j=>by have:=l q a;simp at j;omega);rw[gG,List.flatMap_append];simpa using f
theorem AE(h:LVg w X c ub ma m v0 v1 v2 v3 LA lc s)(n:ON)(f:eX n=0):
 (Instr.lookup 149 (.map (some ma)) (fg n) true).run prog X=.ok (.tuple #[lG ((s.asm n).getD xK),.bool (s.asm n).isSome]) X:=by
 obtain⟨j,i,d,_⟩:=h.am;obtain⟨k,e⟩:=fU f;have a:=i.look ir iA underlying149 n e (z:=lG xK) (rQ X);rw[d]at a
 cases g:s.asm n <;> rw[g]at a <;> exact a
theorem LVg.asm_ok(h:LVg w X c ub ma m v0 v1 v2 v3 LA lc s){n:ON}{y:CH}(a:s.asm n=some y):y.n=n/\y.v.length<=65536:=by
 obtain⟨g,j,d,f⟩:=h.am;rw[<-d]at a;obtain⟨i,l2,e⟩:=jq a;have h:=f (n,y) (by rw[e];simp);exact⟨h.1,h.2.1⟩
end
theorem Cv{l:List AG}{j:Nat}{n:ON}(h:(l[j]?.bind λa=>nA a.w n)=none):gM l (j+1) n=gM l j n:=by rw[gM,h]
theorem Cw{l:List AG}{j:Nat}{n:ON}{c:CH}(h:(l[j]?.bind λa=>nA a.w n)=some c):gM l (j+1) n=some (j,c):=by rw[gM,h]
theorem E5{l:List ON}(f:l.Pairwise λx y=>fW x y<=0)(e:l.Nodup)(c:∀x∈l,eX x=0):uk l:=λi x y g j=>by
 obtain⟨a,rfl⟩:=i9.1 g;obtain⟨b,rfl⟩:=i9.1 j;have k:=List.pairwise_iff_getElem.1 f i (i+1) a b (Nat.lt_succ_self i);have d:=List.pairwise_iff_getElem.1 e i (i+1) a b (Nat.lt_succ_self i);have m:fW l[i] l[i+1]≠0:=λh=>d (tu (c _ (List.getElem_mem a)) (c _ (List.getElem_mem b)) h);have n:=tot_cmpO.anti l[i] l[i+1];omega
theorem Cx(b c:Nat)(l:List ON)(w:World)(f:∀x∈l,eX x=0)(d:l.length<=1000000)(o:l≠[])(h:Own w 31 5 (some ⟨b,0,none⟩) l.length c (l.flatMap ON.cs)):
 Calls prog 137 #[.slice (some ⟨b,0,none⟩) l.length c,.func (.func 103) #[] #[]] w λe w'=>e=.returned (.tuple #[])/\∃a:List ON,a.Perm l/\(a.Pairwise λx y=>fW x y<=0)/\Cs w' b (a.flatMap ON.cs)/\Fr [b] w w':=by
 obtain⟨xs,rfl⟩:∃xs:List {x:ON // eX x=0},xs.map Subtype.val=l:=⟨l.attachWith _ f,qs⟩;obtain⟨g,s⟩:=List.exists_mem_of_ne_nil _ o
 letI:Inhabited {x:ON // eX x=0}:=⟨⟨g,f g s⟩⟩
 rw[List.length_map,List.flatMap_map]at h;rw[List.length_map]at d ⊢;have i:=enters_of func103 qk rfl;have q:=pD Tryz.lSortON (k:=5) (aE:=Tryz.isAgg31) (zE:=Tryz.sizeOf31) (enc:=λx:{x:ON // eX x=0}=>x.1.cs) (λx=>rfl) (λx=>ui x.1) (cf:=λx y=>fW x.1 y.1) (tot_cmpO.pull λx:{x:ON // eX x=0}=>x.1) i (λx y W=>nh x.1 y.1 W x.2 y.2) d h;refine q.mono ?_;rintro e w' ⟨m,a,p,r,j,n⟩;refine⟨m,a.map Subtype.val,p.map _,?_,?_,n⟩
 ·rw[List.pairwise_map]
  exact r
 ·rw[List.flatMap_map]
  exact j
theorem pZ:∀l:List ON,(l.flatMap ON.cs).length=l.length*5
 | []=>rfl
 | a::r=>by rw[List.flatMap_cons,gG,pZ r,List.length_cons,me];omega
theorem DP(c n:Nat)(A:Option Addr)(xs:List ON)(w:World)(h:xs.length=n)(J:Rd w 5 A n (xs.flatMap ON.cs))(B:∀x∈xs,eX x=0)(U:xs.Nodup)(T:n<=100000):Calls prog 68 #[.slice A n c] w λe w'=>∃(A':Option Addr) (c':Nat) (a:List ON),e=.returned (.slice A' n c')/\Rd w' 5 A' n (a.flatMap ON.cs)/\a.Perm xs/\(a.Pairwise λx y=>fW x y<=0)/\Fr [] w w'/\(∀k∈eV A',w.heap.size<=k)/\∀k∈eV A',k<w'.heap.size:=by
 have F:=Hd (uH n c A (xs.flatMap ON.cs) w J (λu l=>by
  obtain⟨x,_,l⟩:=List.mem_flatMap.1 l;exact ui x u l) qo)
 have aa:∀(A':Option Addr) (c':Nat) (W:World),Own W 31 5 A' n c' (xs.flatMap ON.cs)->Calls prog 137 #[.slice A' n c',.func (.func 103) #[] #[]] W λe w'=>e=.returned (.tuple #[])/\∃a:List ON,a.Perm xs/\uk a/\Rd w' 5 A' n (a.flatMap ON.cs)/\Fr (eV A') W w'/\a.Pairwise λx y=>fW x y<=0:=λA' c' W D=>by
  by_cases z:xs=[]
  ·subst z
   simp only[List.length_nil]at h;subst h;exact(Et A' 0 c' _ qo W).mono (by rintro e w' ⟨rfl,rfl⟩;exact⟨rfl,[],List.Perm.refl _,by intro i x y m;simp at m,nH,Fq _ _,List.Pairwise.nil⟩)
  ·obtain⟨g,rfl,q⟩:=Cs.of_own D (by cases xs with|nil=>exact absurd rfl z|cons _ _=>rw[<-h];simp)
   subst h;refine(Cx g c' xs W B qo z D).mono ?_;rintro e w' ⟨rfl,a,d,E,N,v⟩;exact⟨rfl,a,d,E5 E (d.nodup_iff.2 U) (λx m=>B x (d.mem_iff.1 m)),yC N (by rw[pZ,d.length_eq]),by simpa [eV]using v,E⟩
 have O:∀(A':Option Addr) (c':Nat) (a:List ON) (W:World),a.Perm xs->uk a->Rd W 5 A' n (a.flatMap ON.cs)->(∀g o,A'=some ⟨g,o,none⟩->0<n->o=0)->Calls prog 138 #[.slice A' n c'] W λe w'=>e=.returned (.slice A' n c')/\Fr [] W w':=λA' c' a W d L X K=>by
  rcases Nat.lt_or_ge n 1 with t|t
  ·exact(nX A' n c' qo W).mono (by rintro e w' ⟨rfl,rfl⟩;exact⟨rfl,Fq _ _⟩)
  ·obtain⟨g,o,rfl,S,q⟩:=X.2 qo
   obtain rfl:=K g o rfl qo;have ab:a.length=n:=by rw[d.length_eq,h]
   subst ab;exact yu g c' a W ⟨S,λj u l=>by have:=q j u l;rwa [Nat.zero_add]at this⟩ (λx m=>B x (d.mem_iff.1 m)) L T
 have I:=Hd aa;have H:=Hd O
 go_enter func68,ntmps68
 go_wp2_with (first
  | (go_at_call 136;(with_reducible refine F.out.mono ?_);rintro e w1 ⟨A',c',rfl,q,v,f⟩;have s:=Hd q;have G:=Hd v;have C:=Hd f)
  | (go_at_call 137;(with_reducible refine(I.out A' c' w1 s.out).mono ?_);rintro e w2 ⟨rfl,a,V,M,Y,Q,Z⟩;have b:=Hd (An V (An M (An Y (An Q Z)))))
  | (go_at_call 138;(with_reducible refine(H.out A' c' a w2 b.out.1 b.out.2.1 b.out.2.2.1 (λg o P t=>by obtain⟨g',p,_⟩:=Cs.of_own s.out t;rw[P]at p;injection p with p;injection p)).mono ?_);rintro e w3 ⟨rfl,R⟩;have r:=Hd R))
 go_ret
 exact⟨A',c',a,rfl,b.out.2.2.1.fr r.out qs,b.out.1,b.out.2.2.2.2,(G.out.trans b.out.2.2.2.1 (λk f=>.inr (C.out k f))).then r.out,C.out,λk f=>Nat.lt_of_lt_of_le (s.out.lt k f) (Nat.le_trans b.out.2.2.2.1.size r.out.size)⟩
end Go.Proofs.YtlpmiimgacfmkaaGreatDoor
