/- Part of the proof. -/
import Derived.Test.YtlpmiimgacfmkaaGreatDoorCVy6
set_option linter.all false
set_option maxHeartbeats 16000000
set_option maxRecDepth 100000
namespace Go.Proofs.YtlpmiimgacfmkaaGreatDoor
open Go.Proofs.Tryz List
open Go.RowKit Go.Shelf
structure VIg(v0 v1:Value)(w0 W:World)(CB ni nk ic kc:Nat)(IA KA:Option Addr)(xs ks:List Value):Prop where
 box:BoxN W CB 64 #[v0,v1,.slice IA ni ic,.slice KA nk kc,.slice none 0 0,.slice none 0 0]
 io:Own W 3 1 IA ni ic xs
 ko:Own W 89 4 KA nk kc ks
 d:CB ∉ eX IA/\CB ∉ eX KA/\w0.heap.size<=CB
 e:∀k∈eX IA,k ∉ eX KA
 hi:∀k∈eX IA,w0.heap.size<=k
 hk:∀k∈eX KA,w0.heap.size<=k
 fr:Fr [] w0 W
section
variable {v0 v1:Value} {w0 X Y Z:World} {CB ni nk ic kc ni' nk' ic' kc':Nat} {IA KA IA' KA':Option Addr} {xs ks xs' ks':List Value}
def VIg.fr0(h:VIg v0 v1 w0 X CB ni nk ic kc IA KA xs ks)(a:Fr [] X Y):VIg v0 v1 w0 Y CB ni nk ic kc IA KA xs ks :=
 ⟨h.box.fr a qs,h.io.fr a qs,h.ko.fr a qs,h.d,h.e,h.hi,h.hk,h.fr.then a⟩
def VIg.putI(h:VIg v0 v1 w0 X CB ni nk ic kc IA KA xs ks)(i:Fr (eX IA) X Y)(m:Own Y 3 1 IA' ni' ic' xs')(g:∀k∈eX IA',k∈eX IA \/ X.heap.size<=k)(f:Fr [CB] Y Z)
 (l:BoxN Z CB 64 #[v0,v1,.slice IA' ni' ic',.slice KA nk kc,.slice none 0 0,.slice none 0 0]):VIg v0 v1 w0 Z CB ni' nk ic' kc IA' KA xs' ks:=by
 have n:=h.box.lt
 have j:CB ∉ eX IA':=λc=>by
  rcases g CB c with b|b
  ·exact h.d.1 b
  ·omega
 refine⟨l,m.fr f (by intro k a;simp only[ip];rintro rfl;exact j a),(h.ko.fr i (λk a c=>h.e k c a)).fr f (by intro k a;simp only[ip];rintro rfl;exact h.d.2.1 a),⟨j,h.d.2.1,h.d.2.2⟩,λk a c=>?_,λk a=>?_,h.hk,?_⟩
 ·rcases g k a with b|b
  ·exact h.e k b c
  ·have:=h.ko.lt k c;omega
 ·rcases g k a with b|b
  ·exact h.hi k b
  ·exact Nat.le_trans h.fr.size b
 ·exact(h.fr.trans i (λk a=>.inr (h.hi k a))).trans f (λk a=>.inr (by simp at a;subst a;exact h.d.2.2))
def VIg.putK(h:VIg v0 v1 w0 X CB ni nk ic kc IA KA xs ks)(i:Fr (eX KA) X Y)(m:Own Y 89 4 KA' nk' kc' ks')(g:∀k∈eX KA',k∈eX KA \/ X.heap.size<=k)(f:Fr [CB] Y Z)
 (l:BoxN Z CB 64 #[v0,v1,.slice IA ni ic,.slice KA' nk' kc',.slice none 0 0,.slice none 0 0]):VIg v0 v1 w0 Z CB ni nk' ic kc' IA KA' xs ks':=by
 have n:=h.box.lt
 have j:CB ∉ eX KA':=λc=>by
  rcases g CB c with b|b
  ·exact h.d.2.1 b
  ·omega
 refine⟨l,(h.io.fr i (λk a c=>h.e k a c)).fr f (by intro k a;simp only[ip];rintro rfl;exact h.d.1 a),m.fr f (by intro k a;simp only[ip];rintro rfl;exact j a),⟨h.d.1,j,h.d.2.2⟩,λk a c=>?_,h.hi,λk a=>?_,?_⟩
 ·rcases g k c with b|b
  ·exact h.e k a b
  ·have:=h.io.lt k a;omega
 ·rcases g k a with b|b
  ·exact h.hk k b
  ·exact Nat.le_trans h.fr.size b
 ·exact(h.fr.trans i (λk a=>.inr (h.hk k a))).trans f (λk a=>.inr (by simp at a;subst a;exact h.d.2.2))
end
def Ex(o:Option CH):∃(l:Int) (d:ByteArray) (m k:Int) (e b:ByteArray) (f c:Bool),Jr o=.tuple #[.agg #[.int .i64 l,.string d,.int .i64 m,.int .i64 k,.string e,.string b,.bool f],.bool c]/\(c=false/\o=none \/ c=true/\∃x,o=some x/\x.a=f/\b.data.toList=x.v):=by
 cases o with
 | none=>exact⟨0,⟨#[]⟩,0,0,⟨#[]⟩,⟨#[]⟩,false,false,rfl,.inl ⟨rfl,rfl⟩⟩
 | some x =>
  have⟨d,h,_,_⟩:=eS x.n.owner;have⟨e,i,_,_⟩:=eS x.n.text;have⟨b,j,g,_⟩:=eS x.v;refine⟨x.n.kind,d,x.n.number,x.n.index,e,b,x.a,true,?_,.inr ⟨rfl,x,rfl,rfl,g⟩⟩
  show Value.tuple #[.agg x.cs.toArray,.bool true]=_
  unfold CH.cs;rw[h,i,j]
def Ho{s:ByteArray}{l:List UInt8}(c:s.data.toList=l)(t:TypeId)(d:prog.underlying t=some .string)(P:Nat)(b:P<s.size)(W:World):
 (Instr.index t (.string s) (.int .i64 (P:Int))).run prog W=.ok (.int .u8 ((l.getD P 0).toNat:Int)) W:=by
 rw[run_index_string W t s .i64 P d];have h:(0:Int)<=(P:Int)/\(P:Int)<(s.size:Int):=⟨qo,qo⟩;rw[dif_pos h]
 have e:(s[(P:Int).toNat]' qo)=l.getD P 0:=by
  subst c;have a:P<s.data.toList.length:=by rw[Array.length_toList,ByteArray.size_data];exact b
  rw[getD_eq_getElem?_getD,gg a];simp[ByteArray.getElem_eq_getElem_data]
 rw[e]
def xF{α:Type}{l:List α}{j:Nat}{x:α}(h:l[j]?=some x):l.take (j+1)=l.take j++[x]:=by rw[take_add_one,h];rfl
def Am{xs:List Nat}(h:sT xs=true):xs.Pairwise (·<·):=by
 unfold sT at h
 have c:∀k,0<k->k<xs.length->xs.getD (k - 1) 0<xs.getD k 0:=λk p m=>by
  have:=of_decide_eq_true (all_eq_true.1 h k (mem_range.2 m))
  rcases this with a|a
  ·omega
  ·exact a
 rw[pairwise_iff_getElem];intro i j g l q
 have f:∀d,i+1+d<xs.length->xs.getD i 0<xs.getD (i+1+d) 0:=by
  intro d
  induction d with
  | zero=>intro n;exact c (i+1) qo qo
  | succ d o =>
   intro n;have a:=o qo;have e:=c (i+1+(d+1)) qo qo;rw[show i+1+(d+1) - 1=i+1+d from by omega]at e;omega
 have b:=f (j - i - 1) qo;rw[show i+1+(j - i - 1)=j from by omega]at b;rw[getD_eq_getElem?_getD,getD_eq_getElem?_getD,gg g,gg l]at b;exact b
def Ey{w w':World}{A:Option Addr}{n B:Nat}{xs:List Value}{t:TypeId}{cs:Array Value}(h:Rd w 7 A n xs)(f:BoxN w B t cs)(p:cs.size<=6)(i:Fr [B] w w'):Rd w' 7 A n xs:=by
 rcases Nat.eq_zero_or_pos n with rfl|m
 ·exact⟨h.1,λe=>absurd e qo⟩
 ·refine h.fr i λk j d=>?_
  rw[ip]at d;subst d;obtain⟨b,off,rfl,_,g⟩:=h.2 m;have l:k=b:=by simpa [eX]using j
  subst l;have o:=h.1;have a:=g 6 (xs[6]' qo) (gg qo);rw[f.c,Array.getElem?_eq_none qo]at a
  cases a
def MM.look0{κ α:Type}[DecidableEq κ]{k t e:TypeId}{q:κ->Value}{f:α->Value}{w:World}{r:Nat}{es:List (κ × α)}(h:MM k q f w r es)(m:∀a b,q a=q b->a=b)(K:Maps.Keyed prog k)(i:prog.underlying t=some (.map k e))(n:κ){u:Lit}(g:keyOf prog k (q n)=some u){z:Value}(s:(zeroValue e).run prog w=.ok z w):
 (Instr.lookup t (.map (some r)) (q n) false).run prog w=.ok (match jd es n with|some v=>f v|none=>z) w:=by
 cases d:jd es n with
 | none =>
  have c:=MapIs.look_none K i h.map g (λp l=>by
   obtain⟨x,o,rfl⟩:=mem_map.1 l;exact λj=>kY d x o (m _ _ j)) s false
  simpa using c
 | some v =>
  obtain⟨y,l2,rfl⟩:=km d;have c:=MapIs.look_some K i h.map g (v:=f v) qs false;simpa using c
def Cm(u:World):(zeroValue 4).run prog u=.ok (.bool false) u:=by simp[go_sem]
def xG{nm:ON}{P:Nat}{is:List Nat}{l:List AG}{a:AG}{x:CH}(d:sT is=true)(b:l.getLast?=some a)(c:uo a.w nm=some x)(h:x.a=true \/ x.v.length<=P):lW nm P is l=.error 8:=by
 have e:(l.getLast?.bind λa=>uo a.w nm)=some x:=by rw[b];exact c
 unfold lW;rw[if_neg (by rw[d];decide),e];exact if_pos h
def xH{nm:ON}{P:Nat}{is:List Nat}{l:List AG}{a:AG}{x:CH}(f:sT is=true)(c:l.getLast?=some a)(d:uo a.w nm=some x)(h:¬(x.a=true \/ x.v.length<=P)):(j0 l is l.length=none->lW nm P is l=.error 10)/\∀s,j0 l is l.length=some s->lW nm P is l=if(List.range (l.length - 1)).all (λi=>decide (i∈s.used))=true then .ok (x.v.getD P 0,s)else .error 33:=by
 have e:(l.getLast?.bind λa=>uo a.w nm)=some x:=by rw[c];exact d
 unfold lW;rw[if_neg (by rw[f];decide),e];refine⟨λb=>?_,λs b=>?_⟩
 ·refine(if_neg h).trans ?_
  rw[b]
 ·refine(if_neg h).trans ?_
  rw[b]
def uq(rt:Nm)(cD:rt.length=32)(nm:ON)(so st:ByteArray)(P n m:Nat)(A:Option Addr)(c:Nat)(ps:List PF)(L:List AG)(w:World)(cv:eY nm=0)(bu:fu nm=.agg #[.int .i64 nm.kind,.string so,.int .i64 nm.number,.int .i64 nm.index,.string st])(hP:P<65536)(hp:PrL w n A c ps)(aU:ps.length=m)(ct:0<m)(da:m<=13)(cf:L.length=m)
 (cM:∀a∈L,l6 a=true/\a.r.length<=2000000/\a.w.length<=2000000)
 (ce:∀W,Fr [] w W->Calls prog 63 #[tw nm.kind so nm.number nm.index st (P:Int) (n:Int) (.slice A m c),fo rt] W (vv W m (ps.map PF.i) L)) :
 Calls prog 22 #[fo rt,tw nm.kind so nm.number nm.index st (P:Int) (n:Int) (.slice A m c)] w (tu nm P (ps.map PF.i) L w):=by
 have bt:(eO rt).length=32:=by rw[eP,cD]
 have⟨w1,aX⟩:=eR ((w).alloc (.cells (eO rt).toArray 57));have dd:(w1).heap.size=w.heap.size+1:=by rw[<-aX,jZ];try omega
 have n1:(w1).rowIs (w.heap.size) 57 32 (λj=>.int .u8 ((rt.getD j 0).toNat:Int)):=by have h0:=gX (t:=57) (w) bt;rw[show w.heap.size=(w).heap.size from by first|rfl|omega,<-aX];exact h0
 have f1:Fr [] (w) w1:=by rw[<-aX];exact(Fq [] (w)).alloc _
 have⟨w2,bK,de,F,f2⟩:=ir w1 #[.int .i64 nm.kind,.string so,.int .i64 nm.number,.int .i64 nm.index,.string st,.int .i64 (P:Int),.int .i64 (n:Int),.slice A m c] 39 (w.heap.size+1);have⟨w3,cK,df,n3,f3⟩:=ir w2 #[.int .u8 0,.int .i64 0,.slice none 0 0,.slice none 0 0,.slice none 0 0,.slice none 0 0] 64 (w.heap.size+1+1);have m2:=F.fr f3 qs;have S:=(f1.then f2).then f3;have cy:PrL w3 n A c ps:=⟨hp.own.fr S qs,λp D=>(hp.ds p D).fr S qs⟩;have aj:=ce w3 S;have⟨kd,bz⟩:=eR (nm.kind);have⟨nu,bC⟩:=eR (nm.number);have⟨xx,bN⟩:=eR (nm.index);rw[bz,bC,bN]at bu aj m2 ⊢;rw[bz,bC,bN]at bK;have⟨x0,x1,x2,x3,x4,x5,x6,x7⟩:=m2.m8;have bi:=Hd (fw (eT n1 (f2.then f3) qs) cD);have HW:=Hd (An aX (An bK cK));unfold fo tw at aj;have K:=Hd (An m2 (An n3 S));have M:=Hd (An cM (An cv (An bu (An aU cf))));have c2:=Hd cy;clear aX bK cK n1 F n3 m2 f1 f2 f3 dd de df S ce hp cy cM cv bu bz bC bN aU cf;unfold fo tw
 by_cases au:sT (ps.map PF.i)=true
 ·unfold vv at aj
  simp only[au,if_true]at aj;have a6:=Hd aj;clear aj
  go_enter func22,ntmps22
  go_upto_region 1 with fail
  rw[HW.1,HW.2.1,HW.2.2]
  go_upto_region 2 with(first
   | (refine fG qr ?_;(with_reducible refine wp_load_mid 57 (.tmp 2) rfl w.heap.size 0 rfl (eO rt) (.array 32 5) bi.out qk rfl (by rw[bt];kernel_rfl) ?_))
   | (go_at_call 63;(with_reducible refine a6.out.mono ?_);rintro e J ⟨A4,c4,ys,rfl,aN,cN,aP,cC⟩;have T:=Hd (An aN (An cN (An aP cC)));clear aN cN aP cC))
  clear x0 x1 x2 x3 x4 x5 x6 x7;obtain⟨h,c8⟩:∃h,m=h+1:=⟨m - 1,qo⟩;subst c8;have c7:((h+1:Nat):Int) - 1=(h:Int):=qo
  go_upto_region 5 with fail
  clear c7;obtain⟨o,C,rfl,an,br⟩:=fK lx T.1.own.row ct;obtain⟨y,hy⟩:∃y,ys[h]?=some y:=⟨_,gg (by rw[T.1.len];omega)⟩;have aa:=br h y hy;have cO:=T.1.each y (gH hy);have bx:L.getLast?=some y.a:=by rw[<-T.2.1,List.getLast?_eq_getElem?,length_map,T.1.len,List.getElem?_map,show h+1 - 1=h from by omega,hy];rfl
  have bL:=M.1 y.a (mem_of_getLast? bx);have⟨ti,bH⟩:=eR (y.a.k.rnd);have⟨ph,bD⟩:=eR (y.a.k.phase);have⟨kx,bA⟩:=eR (y.a.k.idx);have⟨yr,bS⟩:=eR (y.a.r.length);have⟨yw,bT⟩:=eR (y.a.w.length);have⟨be,bG⟩:=eR (y.sl);have⟨yA,bO⟩:=eR (y.A);have⟨yB,bP⟩:=eR (y.B);have⟨yc,bQ⟩:=eR (y.c);have⟨yd,bR⟩:=eR (y.d);have cI:y.a.val y.sl y.A y.c y.B y.d=.agg #[.int .i64 ti,.int .i64 ph,.int .i64 kx,.string be,.slice yA yr yc,.slice yB yw yd]:=by unfold AG.val;rw[bH,bD,bA,bS,bT,bG,bO,bP,bQ,bR]
  unfold AX.cs at aa;rw[bH,bD,bA,bS,bT,bG,bO,bP,bQ,bR]at aa;have⟨ax,ay,ar,aq,az,sv,ak,aH,cd,z⟩:=Ex (uo y.a.w nm);have⟨e0,e1,e2,e3,e4,e5⟩:=Jl aa
  have bg:Hid (∀W,Fr [] J W->Calls prog 64 #[.agg #[.int .i64 ti,.int .i64 ph,.int .i64 kx,.string be,.slice yA yr yc,.slice yB yw yd],.agg #[.int .i64 kd,.string so,.int .i64 nu,.int .i64 xx,.string st]] W (fi W (.tuple #[.agg #[.int .i64 ax,.string ay,.int .i64 ar,.int .i64 aq,.string az,.string sv,.bool ak],.bool aH]))):=Hd (λW hW=>by
   have D:=Gb y.a y.sl y.A y.B y.c y.d nm W ((cO.fr0 hW).chw) M.2.1 (λx hx=>(sO bL.1 x hx).1) (by have:=bL.2.2;omega);rw[cI,M.2.2.1,cd]at D;exact D)
  have HY:=Hd (An bx z);have aF:=K.1.fr T.2.2.1 qs;have HSS:=Hd (λ(W:World) (hW:Fr [] J W)=>(show W.cell? ⟨o,C+h*6,none⟩=some (.int .i64 ti)/\W.cell? ⟨o,C+h*6+1,none⟩=some (.int .i64 ph)/\W.cell? ⟨o,C+h*6+2,none⟩=some (.int .i64 kx)/\W.cell? ⟨o,C+h*6+3,none⟩=some (.string be)/\W.cell? ⟨o,C+h*6+4,none⟩=some (.slice yA yr yc)/\W.cell? ⟨o,C+h*6+5,none⟩=some (.slice yB yw yd)/\W.cell? ⟨w.heap.size+1,0,none⟩=some (.int .i64 kd)/\W.cell? ⟨w.heap.size+1,1,none⟩=some (.string so)/\W.cell? ⟨w.heap.size+1,2,none⟩=some (.int .i64 nu)/\W.cell? ⟨w.heap.size+1,3,none⟩=some (.int .i64 xx)/\W.cell? ⟨w.heap.size+1,4,none⟩=some (.string st)from⟨(hW.cell an qs).trans e0,(hW.cell an qs).trans e1,(hW.cell an qs).trans e2,(hW.cell an qs).trans e3,(hW.cell an qs).trans e4,(hW.cell an qs).trans e5,(aF.fr hW qs).c 0,(aF.fr hW qs).c 1,(aF.fr hW qs).c 2,(aF.fr hW qs).c 3,(aF.fr hW qs).c 4⟩));clear aa cO bL bx z bH bD bA bS bT bG bO bP bQ bR cI cd hy aF e0 e1 e2 e3 e4 e5;have ao:=Hd (An an br);clear an br;have dm:(h:Int)<(h:Int)+1:=qo
  have dp:IntKind.i64.wrap (h:Int)=(h:Int):=by simp[IntKind.wrap,IntKind.bits,IntKind.signed];omega
  have hC:Fr [] J J.drew:=(Fq _ J).drew;refine jw (a:=?va) (λa' W'=>∃aI,a'={ tmps:=(((((((((((((Act.tmps ?va).setIfInBounds 30 (.slice (some ⟨o,C,none⟩) (h+1) c4)).setIfInBounds 31 (.int .i64 (h:Int))).setIfInBounds 32 (.pointer (some ⟨o,C+h*6,none⟩))).setIfInBounds 33 (.agg #[.int .i64 ti,.int .i64 ph,.int .i64 kx,.string be,.slice yA yr yc,.slice yB yw yd])).setIfInBounds 34 (.pointer (some ⟨w.heap.size+1,0,none⟩))).setIfInBounds 35 (.pointer (some ⟨w.heap.size+1,0,none⟩))).setIfInBounds 36 (.agg #[.int .i64 kd,.string so,.int .i64 nu,.int .i64 xx,.string st])).setIfInBounds 37 (.tuple #[.agg #[.int .i64 ax,.string ay,.int .i64 ar,.int .i64 aq,.string az,.string sv,.bool ak],.bool aH])).setIfInBounds 29 (.tuple #[.agg #[.int .i64 ax,.string ay,.int .i64 ar,.int .i64 aq,.string az,.string sv,.bool ak],.bool aH])).setIfInBounds 38 (.agg #[.int .i64 ax,.string ay,.int .i64 ar,.int .i64 aq,.string az,.string sv,.bool ak])).setIfInBounds 39 (.bool aH)).setIfInBounds 9 (.pointer (some ⟨aI,0,none⟩))).setIfInBounds 10 (.bool aH),defers:=[] }/\BoxN W' aI 95 #[.int .i64 ax,.string ay,.int .i64 ar,.int .i64 aq,.string az,.string sv,.bool ak]/\Fr [] J W'/\J.heap.size<=aI) ?_ ?_
  ·refine eU (λW=>Fr [] J W) 13 qk ?_ qd
   show fc 0 ..
   iterate 7 (refine gJ rfl ?_;try simp only[qq])
   refine iy (i:=7) (j:=11) qk qd qd rfl rfl (λN E=>?_) (λN E=>?_)
   ·rw[if_pos qr]
    go_simp
    go_at_call 64
    (with_reducible refine(bg.out _ hC).mono ?_);rintro e E1 ⟨rfl,S⟩;have ai:=hC.then S;refine E _ _ ai ?_;clear E N hC S
    try simp only[qq]
    have hC:=ai
    show fc 8 ..
    iterate 3 (refine gJ rfl ?_;try simp only[qq])
    refine hO (i:=11) rfl λN E=>?_;go_simp
    have⟨E2,a7⟩:=eR (E1.alloc (.cells #[.int .i64 0,.string ⟨#[]⟩,.int .i64 0,.int .i64 0,.string ⟨#[]⟩,.string ⟨#[]⟩,.bool false] 95));have F:BoxN E2 E1.heap.size 95 #[.int .i64 0,.string ⟨#[]⟩,.int .i64 0,.int .i64 0,.string ⟨#[]⟩,.string ⟨#[]⟩,.bool false]:=by rw[<-a7];exact BoxN.new E1 _ _
    have aC:Fr [] J E2:=by rw[<-a7];exact ai.alloc _
    have hD:J.heap.size<=E1.heap.size:=ai.size;rw[a7];refine E _ _ aC ?_;clear E N a7 hC ai
    try simp only[qq]
    have⟨u0,u1,u2,u3,u4,u5,u6⟩:=F.m7;have v0:=F.f 0;have v1:=F.f 1;have v2:=F.f 2;have v3:=F.f 3;have v4:=F.f 4;have v5:=F.f 5;have v6:=F.f 6;refine hO (i:=12) rfl λN E=>?_;go_simp
    have⟨E3,z,n3,f3⟩:=Hr (E2) (E1.heap.size) F (.int .i64 ax) (.string ay) (.int .i64 ar) (.int .i64 aq) (.string az) (.string sv) (.bool ak);rw[z];clear z;have aK:Fr [] J E3:=aC.trans f3 (by simp <;> omega);refine E _ _ aK ?_;clear E N u0 u1 u2 u3 u4 u5 u6 v0 v1 v2 v3 v4 v5 v6
    try simp only[qq]
    refine eV ⟨qk,?_⟩;simp only[qG,qH]
    go_wp2
    exact⟨_,rfl,n3,aK,hD⟩
   ·rw[if_pos qr]
    go_simp
    have⟨E1,b8,n1,ai⟩:=vC J #[.int .i64 0,.string ⟨#[]⟩,.int .i64 0,.int .i64 0,.string ⟨#[]⟩,.string ⟨#[]⟩,.bool false] 95;rw[b8];refine E _ _ ai ?_;clear E N b8 hC
    try simp only[qq]
    refine hO (i:=7) rfl λN E=>?_;go_simp
    go_at_call 64
    (with_reducible refine(bg.out _ ai).mono ?_);rintro e E2 ⟨rfl,S⟩;have aC:=ai.then S;have F:=n1.fr S qs;have hD:J.heap.size<=J.heap.size:=fW _;refine E _ _ aC ?_;clear E N ai S n1
    try simp only[qq]
    have hC:=aC
    show fc 8 ..
    iterate 3 (refine gJ rfl ?_;try simp only[qq])
    have⟨u0,u1,u2,u3,u4,u5,u6⟩:=F.m7;have v0:=F.f 0;have v1:=F.f 1;have v2:=F.f 2;have v3:=F.f 3;have v4:=F.f 4;have v5:=F.f 5;have v6:=F.f 6;refine hO (i:=12) rfl λN E=>?_;go_simp
    have⟨E3,z,n3,f3⟩:=Hr (E2) (J.heap.size) F (.int .i64 ax) (.string ay) (.int .i64 ar) (.int .i64 aq) (.string az) (.string sv) (.bool ak);rw[z];clear z;have aK:Fr [] J E3:=aC.trans f3 (by simp <;> omega);refine E _ _ aK ?_;clear E N u0 u1 u2 u3 u4 u5 u6 v0 v1 v2 v3 v4 v5 v6
    try simp only[qq]
    refine eV ⟨qk,?_⟩;simp only[qG,qH]
    go_wp2
    exact⟨_,rfl,n3,aK,hD⟩
  rintro a' Q ⟨aI,rfl,aD,bw,c6⟩;simp only[qA,qB,qC];have R:=Hd (T.2.2.1.then bw);have c0:=Hd aD;have a3:=Hd bw;clear bw c6 bg HSS hC a6 bi HW
  cases aH with
  | false =>
   have ab:lW nm P (ps.map PF.i) L=.error 8:=by
    rcases HY.2 with⟨_,D⟩|⟨D,_⟩
    ·unfold lW;rw[if_neg (by rw[au];decide),HY.1];show (match uo y.a.w nm with|none=>_|some c=>_)=_;rw[D]
    ·cases D
   clear aD;have g:=K.2.1.fr R.out qs;have⟨G,t1,t2,t3,H,I⟩:=g.m6;have ac:=g.f 0;have ad:=g.f 1;have ae:=g.f 2;have af:=g.f 3;have ag:=g.f 4;have ah:=g.f 5
   go_wp2
   have⟨u2,z,V,g2⟩:=rn (Q) (w.heap.size+1+1) g (.int .u8 0) (.int .i64 0) (.slice none 0 0) (.slice none 0 0) (.slice none 0 0) (.slice none 0 0);rw[z];clear z;clear G t1 t2 t3 H I ac ad ae af ag ah;have⟨G,t1,t2,t3,H,I⟩:=V.m6
   try simp only[Exit.inBlock,Exit.then]
   refine bodyPost_ret (v:=.tuple #[mp,.int .i64 8]) (by simp[results,results22,mp,go_sem,G,t1,t2,t3,H,I]) rfl ?_;unfold tu;rw[ab]
   exact⟨rfl,(K.2.2.then R.out).trans g2 (by simp;omega)⟩
  | true =>
   obtain⟨x,hx,aY,aZ⟩:∃x,uo y.a.w nm=some x/\x.a=ak/\sv.data.toList=x.v:=by
    rcases HY.2 with⟨D,_⟩|⟨_,D⟩
    ·cases D
    ·exact D
   have⟨d0,d1,d2,d3,d4,d5,d6⟩:=aD.m7;have bJ:sv.size=x.v.length:=by rw[<-aZ,Array.length_toList,ByteArray.size_data]
   cases ak with
   | true =>
    have ab:lW nm P (ps.map PF.i) L=.error 8:=xG au HY.1 hx (.inl aY);clear bJ aY aZ hx aD d0 d1 d2 d3 d4 d5;have g:=K.2.1.fr R.out qs;have⟨G,t1,t2,t3,H,I⟩:=g.m6;have ac:=g.f 0;have ad:=g.f 1;have ae:=g.f 2;have af:=g.f 3;have ag:=g.f 4;have ah:=g.f 5
    go_wp2
    have⟨u2,z,V,g2⟩:=rn (Q) (w.heap.size+1+1) g (.int .u8 0) (.int .i64 0) (.slice none 0 0) (.slice none 0 0) (.slice none 0 0) (.slice none 0 0);rw[z];clear z;clear G t1 t2 t3 H I ac ad ae af ag ah;have⟨G,t1,t2,t3,H,I⟩:=V.m6
    try simp only[Exit.inBlock,Exit.then]
    refine bodyPost_ret (v:=.tuple #[mp,.int .i64 8]) (by simp[results,results22,mp,go_sem,G,t1,t2,t3,H,I]) rfl ?_;unfold tu;rw[ab]
    exact⟨rfl,(K.2.2.then R.out).trans g2 (by simp;omega)⟩
   | false =>
    have x5:Q.cell? ⟨w.heap.size+1,5,none⟩=some (.int .i64 (P:Int)):=(K.1.fr R.out qs).c 5
    by_cases ba:x.v.length<=P
    ·have ab:lW nm P (ps.map PF.i) L=.error 8:=xG au HY.1 hx (.inr ba)
     have ck:((sv.size:Int)<=(P:Int)):=qo
     clear bJ aY aZ hx aD d0 d1 d2 d3 d4 ba;have g:=K.2.1.fr R.out qs;have⟨G,t1,t2,t3,H,I⟩:=g.m6;have ac:=g.f 0;have ad:=g.f 1;have ae:=g.f 2;have af:=g.f 3;have ag:=g.f 4;have ah:=g.f 5
     go_wp2
     have⟨u2,z,V,g2⟩:=rn (Q) (w.heap.size+1+1) g (.int .u8 0) (.int .i64 0) (.slice none 0 0) (.slice none 0 0) (.slice none 0 0) (.slice none 0 0);rw[z];clear z;clear G t1 t2 t3 H I ac ad ae af ag ah;have⟨G,t1,t2,t3,H,I⟩:=V.m6
     try simp only[Exit.inBlock,Exit.then]
     refine bodyPost_ret (v:=.tuple #[mp,.int .i64 8]) (by simp[results,results22,mp,go_sem,G,t1,t2,t3,H,I]) rfl ?_;unfold tu;rw[ab];exact⟨rfl,(K.2.2.then R.out).trans g2 (by simp;omega)⟩
    ·have ck:¬((sv.size:Int)<=(P:Int)):=qo
     have b5:=Hd (xH (P:=P) au HY.1 hx (by rw[aY];exact λD=>D.elim (λD=>nomatch D) ba));have db:=Ho aZ 9 underlying9 P qo;have⟨bv,bp⟩:=eR (x.v.getD P 0);rw[bp]at db;have cY:=Hd bp;clear bJ aY aZ hx aD ba bp
     go_upto_region 8 with fail
     clear d0 d1 d2 d3 d4 d5 d6 x5 ck;obtain⟨ga,oa,rfl,bn,bs⟩:=fK (zt n) c2.own.row (by rw[M.2.2.2.1];exact ct);obtain⟨p,hp⟩:∃p,ps[h]?=some p:=⟨_,gg (by rw[M.2.2.2.1];omega)⟩;have bU:w3.cell? ⟨ga,oa+h*4,none⟩=some (.int .i64 (p.i:Int)):=bs h p hp 0 qo;have b2:Hid ((ps.map PF.i).getLastD 0=p.i):=Hd (by rw[getLastD_eq_getLast?,List.getLast?_eq_getElem?,length_map,M.2.2.2.1,List.getElem?_map,show h+1 - 1=h from by omega,hp];rfl);have⟨pl,aU⟩:=eR (p.i);rw[aU]at bU b2;have bq:=K.1.fr R.out qs;have HSS:=Hd (λ(W:World) (hW:Fr [] Q W)=>(show W.cell? ⟨aI,5,none⟩=some (.string sv)/\W.cell? ⟨w.heap.size+1,5,none⟩=some (.int .i64 (P:Int))/\W.cell? ⟨w.heap.size+1,7,none⟩=some (.slice (some ⟨ga,oa,none⟩) (h+1) c)/\W.cell? ⟨ga,oa+h*4,none⟩=some (.int .i64 (pl:Int))from⟨(c0.fr hW qs).c 5,(bq.fr hW qs).c 5,(bq.fr hW qs).c 7,((R.then hW).cell bn qs).trans bU⟩));have bZ:=Hd (An bn bs);clear bU bq bn bs hp aU p;have hC:Fr [] Q Q.drew:=(Fq _ Q).drew;refine eU (λW=>Fr [] Q W) 14 qk ?_ qd
     show fc 0 ..
     iterate 13 (refine gJ rfl ?_;try simp only[qq])
     refine hO (i:=13) rfl λN E=>?_;go_simp
     have⟨w6,cL,n6,f6⟩:=vC Q #[.int .u8 0,.int .i64 0,.slice none 0 0,.slice none 0 0,.slice none 0 0,.slice none 0 0] 64;rw[cL];refine E _ _ f6 ?_;clear E N hC cL HSS
     try simp only[qq]
     refine eV ⟨qk,?_⟩;simp only[qG,qH];have⟨CB,bm⟩:=eR (Q.heap.size);have bY:=Hd bm;rw[bm]at n6 ⊢;have⟨y0,y1,y2,y3,y4,y5⟩:=n6.m6;have v0:=n6.f 0;have v1:=n6.f 1;have v2:=n6.f 2;have v3:=n6.f 3;have v4:=n6.f 4;have v5:=n6.f 5;have bh:=Hd (An n6 f6);clear n6 f6 bm
     go_upto_region 9 with fail
     have⟨w7,z,n7,f7⟩:=rn (w6) (CB) bh.1 (.int .u8 (bv.toNat:Int)) (.int .i64 (pl:Int)) (.slice none 0 0) (.slice none 0 0) (.slice none 0 0) (.slice none 0 0);rw[z];clear z;clear y0 y1 y2 y3 y4 y5 v0 v1 v2 v3 v4 v5;have⟨q0,aV⟩:=eR ((.int .u8 (bv.toNat:Int):Value));have⟨q1,aW⟩:=eR ((.int .i64 (pl:Int):Value));have c3:=Hd (An aV aW);rw[aV,aW]at n7;have HV:Hid (VIg q0 q1 Q w7 CB 0 0 0 0 none none [] []):=Hd ⟨n7,Own.nil _ _ _,Own.nil _ _ _,⟨by simp[eX],by simp[eX],by rw[bY.out];exact fW _⟩,by simp[eX],by simp[eX],by simp[eX],bh.2.trans f7 (by simp;rw[bY.out];exact fW _)⟩;clear n7 f7 bh aV aW;have x7:w7.cell? ⟨w.heap.size+1,7,none⟩=some (.slice (some ⟨ga,oa,none⟩) (h+1) c):=(K.1.fr (R.then HV.fr) qs).c 7
     go_wp2
     clear x7
     go_loopw [72] (λi W=>∃(j ic kc:Nat) (IA KA:Option Addr),j<=h+1/\i=.int .i64 (j:Int)/\VIg q0 q1 Q W CB j j ic kc IA KA (tt ((ps.map PF.i).take j)) ((L.take j).flatMap Ew)) (λi _=>h+1 - (intOf i).toNat)
     case atStart=>exact⟨0,0,0,none,none,Nat.zero_le _,rfl,HV.out⟩
     case round =>
      obtain⟨j,ic,kc,IA,KA,hj,rfl,cJ⟩:=hrel;have HJ:=Hd cJ;clear cJ
      by_cases cr:j<h+1
      ·have c9:(j:Int)<((h+1:Nat):Int):=qo
       obtain⟨p,hp⟩:∃p,ps[j]?=some p:=⟨_,gg (by rw[M.2.2.2.1];omega)⟩;obtain⟨yj,bd⟩:∃y,ys[j]?=some y:=⟨_,gg (by rw[T.1.len];omega)⟩;have av:=bZ.2 j p hp;have aa:=ao.2 j yj bd;have⟨sp,cG,_,_⟩:=eS p.s;have⟨pi,aG⟩:=eR (p.i);have⟨pA,cz⟩:=eR (p.A);have⟨pd,cB⟩:=eR (p.d.length);have⟨pc,cA⟩:=eR (p.c);have⟨tj,bI⟩:=eR (yj.a.k.rnd);have⟨pj,bE⟩:=eR (yj.a.k.phase);have⟨xj,bM⟩:=eR (yj.a.k.idx);have⟨sj,bF⟩:=eR (yj.sl)
       have b9:tt ((ps.map PF.i).take (j+1))=tt ((ps.map PF.i).take j)++[.int .i64 (pi:Int)]:=by
        rw[xF (x:=p.i) (by rw[List.getElem?_map,hp];rfl),<-aG];unfold tt;rw[map_append];rfl
       have cb:(L.take (j+1)).flatMap Ew=(L.take j).flatMap Ew++[.int .i64 tj,.int .i64 pj,.int .i64 xj,.string sj]:=by
        have h1:L[j]?=some yj.a:=by rw[<-T.2.1,List.getElem?_map,bd];rfl
        rw[xF h1,flatMap_append,<-bI,<-bE,<-bM,<-bF,<-(T.1.each yj (gH bd)).s];simp[Ew]
       have b3:=Hd (An b9 cb);unfold PF.cs at av;rw[cG,aG,cz,cB,cA]at av;unfold AX.cs at aa;rw[bI,bE,bM,bF]at aa;have cV:J.cell? ⟨o,C+j*6,none⟩=some (.int .i64 tj):=aa 0 qo;have k1:J.cell? ⟨o,C+j*6+1,none⟩=some (.int .i64 pj):=aa 1 qo;have cW:J.cell? ⟨o,C+j*6+2,none⟩=some (.int .i64 xj):=aa 2 qo;have cX:J.cell? ⟨o,C+j*6+3,none⟩=some (.string sj):=aa 3 qo;have HK:=Hd (An cV (An k1 (An cW cX)));have aL:=R.then HJ.fr;have aS:ga<w3.heap.size:=bZ.1;have dg:wr.cell? ⟨ga,oa+j*4,none⟩=some (.int .i64 (pi:Int)):=(aL.cell aS qs).trans (av 0 qo);have z1:wr.cell? ⟨ga,oa+j*4+1,none⟩=some (.int .i64 (n:Int)):=(aL.cell aS qs).trans (av 1 qo);have z2:wr.cell? ⟨ga,oa+j*4+2,none⟩=some (.string sp):=(aL.cell aS qs).trans (av 2 qo);have z3:wr.cell? ⟨ga,oa+j*4+3,none⟩=some (.slice pA pd pc):=(aL.cell aS qs).trans (av 3 qo);clear av aa cG aG cz cB cA bI bE bM bF b9 cb cV k1 cW cX hp bd aL aS
       go_upto_region 12 with fail
       have⟨P0,hP,zP,nP,fP⟩:=ir wr #[.int .i64 (pi:Int),.int .i64 (n:Int),.string sp,.slice pA pd pc] 53 wr.heap.size;rw[hP];have p0:=nP.k0;have aB:=Hd (HJ.fr0 fP);have b7:=aB.box.k2;have b1:=Hd aB.io;obtain⟨jj,co,cS,cT,cU⟩:=oh;clear dg z1 z2 z3 nP hP fP zP
       go_upto_region 13 with(at_builtin;(with_reducible refine fC (w:=P0) rfl (.tmp 78) (.tmp 81) 36 rfl 3 jj _ 1 8 underlying36 co cS cT cU rfl qd IA j ic _ rfl b1.out 1 1 [.int .i64 (pi:Int)] 3 rfl rfl (by simp[Value.oneCell']) (by unfold maxLen;omega) qo ?_);intro IB jc P1 ho S hs;have a9:=aB.box.fr S aB.d.1;have bW:P1.cell? ⟨CB,2,none⟩=_:=a9.c 2;have bX:=a9.f 2;have H1:=Hd (An ho (An S (An hs a9)));clear ho S hs a9)
       have⟨P2,a8⟩:=eR (P1.setCell ⟨CB,2,none⟩ (.slice IB (j+1) jc));have F:BoxN P2 CB 64 #[q0,q1,.slice IB (j+1) jc,.slice KA j kc,.slice none 0 0,.slice none 0 0]:=by rw[<-a8];exact H1.2.2.2.setAt 2 _
       have f2:Fr [CB] P1 P2:=by rw[<-a8];exact(Fq [CB] P1).st _
       try rw[a8]
       have a5:=Hd (aB.putI H1.2.1 H1.1 H1.2.2.1 f2 F);clear p0 b7 bW bX a8 F f2 H1 b1 aB cS cT cU co;have V:=a5.box
       have a4:=Hd (λ(W:World) (hW:Fr [] Q W)=>(show W.cell? ⟨o,C+j*6,none⟩=some (.int .i64 tj)/\W.cell? ⟨o,C+j*6+1,none⟩=some (.int .i64 pj)/\W.cell? ⟨o,C+j*6+2,none⟩=some (.int .i64 xj)/\W.cell? ⟨o,C+j*6+3,none⟩=some (.string sj)from by
        have D:=a3.then hW;exact⟨(D.cell ao.1 qs).trans HK.1,(D.cell ao.1 qs).trans HK.2.1,(D.cell ao.1 qs).trans HK.2.2.1,(D.cell ao.1 qs).trans HK.2.2.2⟩))
       have HSS:=Hd (λ(W:World) (hW:W.cell? ⟨CB,3,none⟩=some (.slice KA j kc)/\W.cell? ⟨o,C+j*6,none⟩=some (.int .i64 tj)/\W.cell? ⟨o,C+j*6+1,none⟩=some (.int .i64 pj)/\W.cell? ⟨o,C+j*6+2,none⟩=some (.int .i64 xj)/\W.cell? ⟨o,C+j*6+3,none⟩=some (.string sj))=>hW);have hC:(λW:World=>W.cell? ⟨CB,3,none⟩=some (.slice KA j kc)/\W.cell? ⟨o,C+j*6,none⟩=some (.int .i64 tj)/\W.cell? ⟨o,C+j*6+1,none⟩=some (.int .i64 pj)/\W.cell? ⟨o,C+j*6+2,none⟩=some (.int .i64 xj)/\W.cell? ⟨o,C+j*6+3,none⟩=some (.string sj)) P2.drew:=⟨V.c 3,a4.out P2 a5.fr⟩;refine eU (λW:World=>W.cell? ⟨CB,3,none⟩=some (.slice KA j kc)/\W.cell? ⟨o,C+j*6,none⟩=some (.int .i64 tj)/\W.cell? ⟨o,C+j*6+1,none⟩=some (.int .i64 pj)/\W.cell? ⟨o,C+j*6+2,none⟩=some (.int .i64 xj)/\W.cell? ⟨o,C+j*6+3,none⟩=some (.string sj)) 9 qk ?_ qd
       show fc 0 ..
       iterate 7 (refine gJ rfl ?_;try simp only[qq])
       refine hO (i:=7) rfl λN E=>?_;go_simp
       have⟨Q1,cc,nQ,fQ⟩:=vC P2 #[.int .i64 tj,.int .i64 pj,.int .i64 xj,.string sj] 89;rw[cc];have al:=a5.fr0 fQ;have bo:=al.box;refine E _ _ ⟨bo.c 3,a4.out Q1 al.fr⟩ ?_;clear E N cc hC
       try simp only[qq]
       refine hO (i:=8) rfl λN E=>?_;obtain⟨ii,cm,cP,cQ,cR⟩:=xm;refine ja (.tmp 85) (.tmp 91) 60 rfl 89 ii _ 4 40 underlying60 cm cP cQ cR rfl qd KA j kc _ rfl al.ko ⟨P2.heap.size,0,none⟩ 1 1 [.int .i64 tj,.int .i64 pj,.int .i64 xj,.string sj] rfl rfl (λj u hu=>by rw[fV,nQ.c j];simpa using hu) (by simp[Value.oneCell']) (by unfold maxLen;omega) qo ?_;intro KB bV Q2 cx aw ca;have aM:o ∉ eX KA:=λhm=>by have h1:=al.hk o hm;have h2:=ao.1;have h3:=a3.size;omega
       have aO:=bo.fr aw al.d.2.1;have aR:o<Q1.heap.size:=Nat.lt_of_lt_of_le ao.1 (Nat.le_trans a3.size al.fr.size);have aT:=a4.out Q1 al.fr;refine E _ _ ⟨aO.c 3,(aw.cell aR aM).trans aT.1,(aw.cell aR aM).trans aT.2.1,(aw.cell aR aM).trans aT.2.2.1,(aw.cell aR aM).trans aT.2.2.2⟩ ?_;clear E N
       try simp only[qq]
       refine eV ⟨qk,?_⟩;simp only[qG,qH];have bW:=aO.k3;have bX:=aO.f 3;have aA:=Hd (An al (An cx (An aw (An ca aO))));clear al cx aw ca aO aM aR aT bo V nQ fQ HSS cP cQ cR cm
       go_upto_region 14 with fail
       have⟨wY,bc⟩:=eR (Q2.setCell ⟨CB,3,none⟩ (.slice KB (j+1) bV));have nY:BoxN wY CB 64 #[q0,q1,.slice IB (j+1) jc,.slice KB (j+1) bV,.slice none 0 0,.slice none 0 0]:=by rw[<-bc];exact aA.2.2.2.2.setAt 3 _
       have fY:Fr [CB] Q2 wY:=by rw[<-bc];exact(Fq [CB] Q2).st _
       try rw[bc]
       have c5:=Hd (aA.1.putK aA.2.2.1 aA.2.1 aA.2.2.2.1 fY nY);clear bW bX bc nY fY aA a5 a4 HK
       go_wp2
       go_roundw
       case rel=>exact⟨j+1,jc,bV,IB,KB,qo,by go_num,by rw[b3.1,b3.2];exact c5.out⟩
       case measure=>simp[intOf];omega
      ·obtain rfl:j=h+1:=qo
       clear HV
       go_upto_region 15 with fail
       have U:=HJ.out;rw[take_of_length_le (by rw[length_map,M.2.2.2.1];exact fW _),take_of_length_le (by rw[M.2.2.2.2];exact fW _)]at U;obtain⟨ix,rfl,cn⟩:=Cs.of_own U.io qo;have cw:ix≠CB:=by have:=U.d.1;simpa [eX,eq_comm]using this
       have aN:=T.1.fr0 (a3.then U.fr);have cq:=Hn CB (h+1) ic c4 ix q0 q1 (.slice KA (h+1) kc) (ps.map PF.i) (some ⟨o,C,none⟩) ys L wr U.box cn cw aN T.2.1 M.1 (by rw[length_map,M.2.2.2.1]) (Am au) da;have aJ:=Hd cq;have bj:=Hd U;have b0:Hid (Q.heap.size<=CB):=Hd U.d.2.2;have cZ:Hid (w.heap.size+1+1<Q.heap.size):=Hd (K.2.1.fr R.out qs).lt;clear U cn cw aN cq;unfold GL at aJ
       cases bb:j0 L (ps.map PF.i) (h+1)with
       | none =>
        rw[bb]at aJ;have ab:lW nm P (ps.map PF.i) L=.error 10:=b5.1 (by rw[M.2.2.2.2];exact bb)
        go_upto_region 16 with(go_at_call 65;(with_reducible refine aJ.out.mono ?_);rintro e wA ⟨rfl,aQ⟩;have HA:=Hd aQ;clear aQ)
        have ap:=Hd ((R.then bj.fr).trans HA.out (λk O=>.inr (by have h1:=b0.out;have h2:=R.size;simp at O;omega)));have g:=K.2.1.fr ap.out qs;have⟨G,t1,t2,t3,H,I⟩:=g.m6;have ac:=g.f 0;have ad:=g.f 1;have ae:=g.f 2;have af:=g.f 3;have ag:=g.f 4;have ah:=g.f 5
        go_wp2
        have⟨u2,z,V,g2⟩:=rn (wA) (w.heap.size+1+1) g (.int .u8 0) (.int .i64 0) (.slice none 0 0) (.slice none 0 0) (.slice none 0 0) (.slice none 0 0);rw[z];clear z;clear G t1 t2 t3 H I ac ad ae af ag ah;have⟨G,t1,t2,t3,H,I⟩:=V.m6
        try simp only[Exit.inBlock,Exit.then]
        refine bodyPost_ret (v:=.tuple #[mp,.int .i64 10]) (by simp[results,results22,mp,go_sem,G,t1,t2,t3,H,I]) rfl ?_;unfold tu;rw[ab]
        exact⟨rfl,(K.2.2.then ap.out).trans g2 (by simp;omega)⟩
       | some s =>
        rw[bb]at aJ;have b6:Hid (lW nm P (ps.map PF.i) L=if(List.range h).all (λi=>decide (i∈s.used))=true then .ok (bv,s)else .error 33):=Hd (by rw[b5.2 s (by rw[M.2.2.2.2];exact bb),M.2.2.2.2,show h+1 - 1=h from by omega,cY.out])
        go_upto_region 16 with(go_at_call 65;(with_reducible refine aJ.out.mono ?_);rintro e wA ⟨mu,lc,bk,LA,AA,l,rfl,ci,cF,cE,ch,⟨es,cu,cl⟩,aQ⟩;have HA:=Hd (An ci (An cF (An cE (An ch aQ))));have HM:=Hd (An cu cl);clear ci cF cE ch cu cl aQ)
        have ap:=Hd ((R.then bj.fr).trans HA.2.2.2.2 (λk O=>.inr (by have h1:=b0.out;have h2:=R.size;simp at O;omega)))
        go_wp2
        go_loopw [105] (λi W=>W=wA/\∃(j:Nat),j<=h/\i=.int .i64 (j:Int)/\∀k,k<j->k∈s.used) (λi _=>h - (intOf i).toNat)
        case atStart=>exact⟨rfl,0,Nat.zero_le _,rfl,λk O=>absurd O qo⟩
        case round =>
         obtain⟨dc,j,hj,rfl,cH⟩:=hrel;subst dc;have b4:=Hd cH;clear cH
         by_cases cr:j<h
         ·have c9:(j:Int)<(h:Int):=qo
          have⟨kl,cp⟩:=pB (i:=(j:Int)) (jL qo qo);have bB:=HM.1.look0 (λa b D=>by injection D with _ D;omega) oE underlying143 j cp (Cm wr);rw[HM.2 j]at bB;clear cp
          by_cases aE:j∈s.used
          ·rw[if_pos aE]at bB
           have c1:=Hd aE;clear aE
           go_wp2
           go_roundw
           case rel=>exact⟨trivial,j+1,qo,by go_num,λq hq=>(Nat.lt_or_eq_of_le (Nat.le_of_lt_succ hq)).elim (b4.out q) (λD=>by rw[D];exact c1.out)⟩
           case measure=>simp[intOf];omega
          ·rw[if_neg aE]at bB
           have ab:lW nm P (ps.map PF.i) L=.error 33:=by
            rw[b6.out,if_neg];intro D;exact aE (of_decide_eq_true (all_eq_true.1 D j (mem_range.2 cr)))
           clear aE;have g:=K.2.1.fr ap.out qs;have⟨G,t1,t2,t3,H,I⟩:=g.m6;have ac:=g.f 0;have ad:=g.f 1;have ae:=g.f 2;have af:=g.f 3;have ag:=g.f 4;have ah:=g.f 5
           go_wp2
           have⟨u2,z,V,g2⟩:=rn (wr) (w.heap.size+1+1) g (.int .u8 0) (.int .i64 0) (.slice none 0 0) (.slice none 0 0) (.slice none 0 0) (.slice none 0 0);rw[z];clear z;clear G t1 t2 t3 H I ac ad ae af ag ah;have⟨G,t1,t2,t3,H,I⟩:=V.m6
           try simp only[Exit.inBlock,Exit.then]
           refine bodyPost_ret (v:=.tuple #[mp,.int .i64 33]) (by simp[results,results22,mp,go_sem,G,t1,t2,t3,H,I]) rfl ?_;unfold tu;rw[ab];exact⟨rfl,(K.2.2.then ap.out).trans g2 (by simp;omega)⟩
         ·obtain rfl:j=h:=qo
          have ab:lW nm P (ps.map PF.i) L=.ok (bv,s):=by
           rw[b6.out,if_pos];exact all_eq_true.2 λk O=>decide_eq_true (b4.out k (mem_range.1 O))
          have⟨aV,aW⟩:=c3.out;subst aV;subst aW;have am:=K.2.1.fr ap.out qs;have bf:=Hd am;have cj:=HA.1;have⟨dh,di,b7,dj,dk,dl⟩:=cj.m6;have⟨y0,y1,y2,y3,y4,y5⟩:=am.m6;have v0:=am.f 0;have v1:=am.f 1;have v2:=am.f 2;have v3:=am.f 3;have v4:=am.f 4;have v5:=am.f 5;clear cj am
          go_wp2
          have⟨wB,z,nB,fB⟩:=rn (wr) (w.heap.size+1+1) bf.out (.int .u8 (bv.toNat:Int)) (.int .i64 (pl:Int)) (.slice (some ⟨ix,0,none⟩) (j+1) ic) (.slice KA (j+1) kc) (.slice LA s.lks.length lc) (.slice AA l.length bk);rw[z];clear z;have⟨G,t1,t2,t3,H,I⟩:=nB.m6;refine bodyPost_ret (v:=.tuple #[.agg #[.int .u8 (bv.toNat:Int),.int .i64 (pl:Int),.slice (some ⟨ix,0,none⟩) (j+1) ic,.slice KA (j+1) kc,.slice LA s.lks.length lc,.slice AA l.length bk],.int .i64 0]) (by simp[results,results22,go_sem,G,t1,t2,t3,H,I]) rfl ?_;unfold tu;rw[ab];have dn:w.heap.size+1+1<Q.heap.size:=cZ.out;have aG:(ps.map PF.i).length=j+1:=by rw[length_map,M.2.2.2.1]
          have U:=bj.out;refine⟨_,rfl,⟨some ⟨ix,0,none⟩,KA,LA,AA,ic,kc,lc,bk,l,?_,?_,?_,?_,?_,HA.2.2.2.1⟩,(K.2.2.then ap.out).trans fB (λk O=>.inr (by simp at O;omega))⟩
          ·rw[aG,M.2.2.2.2,b2.out]
          ·rw[aG];exact(U.io.rd.fr HA.2.2.2.2 (by intro k O;simp only[ip];rintro rfl;exact U.d.1 O)).fr fB (by intro k O;have:=U.hi k O;simp;omega)
          ·rw[M.2.2.2.2];exact(U.ko.rd.fr HA.2.2.2.2 (by intro k O;simp only[ip];rintro rfl;exact U.d.2.1 O)).fr fB (by intro k O;have:=U.hk k O;simp;omega)
          ·exact Ey HA.2.1 bf.out qs fB
          ·exact Ey HA.2.2.1 bf.out qs fB
 ·have hb:sT (ps.map PF.i)=false:=by simpa using au
  unfold vv at aj;simp only[hb,Bool.false_eq_true,if_false]at aj;have a6:=Hd aj;clear aj
  go_enter func22,ntmps22
  go_upto_region 1 with fail
  rw[HW.1,HW.2.1,HW.2.2]
  go_upto_region 2 with(first
   | (refine fG qr ?_;(with_reducible refine wp_load_mid 57 (.tmp 2) rfl w.heap.size 0 rfl (eO rt) (.array 32 5) bi.out qk rfl (by rw[bt];kernel_rfl) ?_))
   | (go_at_call 63;(with_reducible refine a6.out.mono ?_);rintro e J ⟨rfl,aP⟩;have T:=Hd aP;clear aP))
  clear x0 x1 x2 x3 x4 x5 x6 x7;have g:=K.2.1.fr T.out qs;have⟨G,t1,t2,t3,H,I⟩:=g.m6;have ac:=g.f 0;have ad:=g.f 1;have ae:=g.f 2;have af:=g.f 3;have ag:=g.f 4;have ah:=g.f 5
  go_wp2
  have⟨u2,z,V,g2⟩:=rn (J) (w.heap.size+1+1) g (.int .u8 0) (.int .i64 0) (.slice none 0 0) (.slice none 0 0) (.slice none 0 0) (.slice none 0 0);rw[z];clear z;clear G t1 t2 t3 H I ac ad ae af ag ah;have⟨G,t1,t2,t3,H,I⟩:=V.m6;refine bodyPost_ret (v:=.tuple #[mp,.int .i64 32]) (by simp[results,results22,mp,go_sem,G,t1,t2,t3,H,I]) rfl ?_;unfold tu lW;rw[if_pos hb];exact⟨rfl,(K.2.2.then T.out).trans g2 (by simp;omega)⟩
end Go.Proofs.YtlpmiimgacfmkaaGreatDoor
