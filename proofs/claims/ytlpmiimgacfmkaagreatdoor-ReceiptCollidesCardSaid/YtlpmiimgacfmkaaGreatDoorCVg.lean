/- Part of the proof. -/
import Derived.Test.YtlpmiimgacfmkaaGreatDoorCGr
set_option linter.all false
set_option maxHeartbeats 8000000
set_option maxRecDepth 100000
namespace Go.Proofs.YtlpmiimgacfmkaaGreatDoor
open Go.Proofs.Tryz List
open Go.RowKit
structure VX where
 i:Nat
 v:Nm
 a:Bool
def VX.cs(x:VX):List Value:=[.int .i64 (x.i:Int),fg x.v,.bool x.a]
def Ce(i:Nat):List Value:=[.int .i64 (i:Int)]
def i8(i:Nat)(n:ON)(l:List CH):List VX:=(l.filter λc=>decide (c.n=n)).map λc=>⟨i,c.v,c.a⟩
def mU:Nat->List AG->ON->List VX
 | _,[],_=>[]
 | i,a::r,n=>i8 i n a.w++mU (i+1) r n
def oT(l:List AG)(n:ON):List VX:=mU 0 l n
def pM(y:AG)(n:ON):∀(l:List AG) (i:Nat),mU i (l++[y]) n=mU i l n++i8 (i+l.length) n y.w
 | [],i=>by simp[mU]
 | a::r,i=>by
  rw[cons_append,mU,pM y n r (i+1),mU,append_assoc,length_cons,show i+1+r.length=i+(r.length+1) by omega]
def sN(i:Nat)(n:ON)(l:List CH)(c:CH):i8 i n (l++[c])=i8 i n l++(if c.n=n then [⟨i,c.v,c.a⟩]else []):=by
 unfold i8;rw[filter_append,map_append]
 by_cases h:c.n=n
 ·simp[h]
 ·simp[h]
def Ek(x:VX):∀u∈x.cs,u.oneCell'=true:=by
 intro u a;simp only[VX.cs,mem_cons,not_mem_nil,or_false]at a
 rcases a with rfl|rfl|rfl <;> first|rfl|exact encN_one _
def Jm(w:World)(r:Nat)(es:List (NE ON VX)):Prop:=ML prog 31 fu 201 3 VX.cs w r es
def Hh(w:World)(r:Nat)(es:List (NE ON Nat)):Prop:=ML prog 31 fu 3 1 Ce w r es
section
variable {κ α:Type} {P:Program} {k e:TypeId} {q:κ->Value} {size:Nat} {f:α->List Value} {w w':World} {r:Nat} {es:List (NE κ α)} {S:List Nat} {ts:List TypeId}
def ML.noT(h:ML P k q e size f w r es)(l:e ∉ ts):NoT ts w (gh es):=λb g a d z i=>by
 have⟨x,m,j⟩:=mem_flatMap.1 g;exact NoT.own (h.own x m) l b j a d z i
def ML.frT(h:ML P k q e size f w r es)(a:Fr S w w')(g:r ∉ S)(d:NoT [e] w S):ML P k q e size f w' r es :=
 ⟨h.map.fr a g,λx i=>(h.own x i).frT a d qs,h.dj⟩
def ML.noMap{o:TypeId}{r2:Nat}{p:List (Value × Value)}(i:ML P k q e size f w r es)(j:MapIs P o w r2 p):r2 ∉ gh es:=λl=>by
 have⟨x,n,d⟩:=mem_flatMap.1 l;obtain⟨u,clock,h,_⟩:=j
 rcases (i.own x n).2 with⟨a,_⟩|⟨g,s,t,a,_,m,_⟩
 ·injection a with a;rw[a]at d;simp[eX]at d
 ·injection a with a
  rw[a]at d;simp only[eX,Option.map_some,Option.toList_some,ip]at d;subst d;rw[m]at h
  cases h
end
def VB(b mw mr:Nat)(A K:Option Addr)(ew:List (NE ON VX))(er:List (NE ON Nat)):List Nat:=b::mw::mr::(eX A++(eX K++(gh ew++gh er)))
structure VS(w:World)(b pb pl mw mr:Nat)(A:Option Addr)(c:Nat)(K:Option Addr)(kk kc:Nat)(ks:List Value)(ys:List AX)(ew:List (NE ON VX))(er:List (NE ON Nat)):Prop where
 box:BoxN w b 196 #[.pointer (some ⟨pb,0,none⟩),.slice A ys.length c,.slice K kk kc,.pointer (some ⟨pl,0,none⟩),.map (some mw),.map (some mr)]
 own:Own w 91 6 A ys.length c (ys.flatMap AX.cs)
 kown:Own w 86 1 K kk kc ks
 wm:Jm w mw ew
 rm:Hh w mr er
 ne:mw≠mr
section
variable {w w':World} {b pb pl mw mr:Nat} {A:Option Addr} {c:Nat} {K:Option Addr} {kk kc:Nat} {ks:List Value} {ys:List AX} {ew:List (NE ON VX)} {er:List (NE ON Nat)} {S:List Nat}
def VS.fr0(h:VS w b pb pl mw mr A c K kk kc ks ys ew er)(a:Fr [] w w'):VS w' b pb pl mw mr A c K kk kc ks ys ew er :=
 ⟨h.box.fr a qs,h.own.fr a qs,h.kown.fr a qs,ML.fr0 h.wm a,ML.fr0 h.rm a,h.ne⟩
def VS.noT(h:VS w b pb pl mw mr A c K kk kc ks ys ew er){ts:List TypeId}(d:196 ∉ ts)(g:91 ∉ ts)(i:86 ∉ ts)(j:201 ∉ ts)(l:3 ∉ ts):NoT ts w (VB b mw mr A K ew er) :=
 (((((NoT.box h.box d).app (NoT.map h.wm.map)).app (NoT.map h.rm.map)).app (NoT.own h.own g)).app ((NoT.own h.kown i).app ((ML.noT h.wm j).app (ML.noT h.rm l)))).mem (by
  intro k a;simp only[VB,mem_cons,mem_append,ip,not_mem_nil,or_false]at a ⊢
  rcases a with h|h|h|h|h|h|h <;> simp[h])
def VS.noS(h:VS w b pb pl mw mr A c K kk kc ks ys ew er):NoT xW w (VB b mw mr A K ew er):=h.noT qd qd qd qd qd
def VS.lt(h:VS w b pb pl mw mr A c K kk kc ks ys ew er):∀k∈VB b mw mr A K ew er,k<w.heap.size:=λk a=>by
 simp only[VB,mem_cons,mem_append]at a
 rcases a with rfl|rfl|rfl|a|a|a|a
 ·exact h.box.lt
 ·exact h.wm.map.lt
 ·exact h.rm.map.lt
 ·exact h.own.lt k a
 ·exact h.kown.lt k a
 ·exact ML.lt h.wm k a
 ·exact ML.lt h.rm k a
def VS.putW{g:List (NE ON VX)}(h:VS w b pb pl mw mr A c K kk kc ks ys ew er)(d:Fr (mw::gh ew) w w')(i:Jm w' mw g):VS w' b pb pl mw mr A c K kk kc ks ys g er:=by
 have a:∀ts:List TypeId,201 ∉ ts->NoT ts w (mw::gh ew):=λts j=>((NoT.map h.wm.map).app (ML.noT h.wm j)).mem qs
 exact⟨h.box.frT d (a [196] qd) qs,h.own.frT d (a [91] qd) qs,h.kown.frT d (a [86] qd) qs,i,ML.frT h.rm d (by
  simp only[mem_cons,not_or];exact⟨Ne.symm h.ne,ML.noMap h.wm h.rm.map⟩) (a [3] qd),h.ne⟩
def VS.putR{g:List (NE ON Nat)}(h:VS w b pb pl mw mr A c K kk kc ks ys ew er)(d:Fr (mr::gh er) w w')(i:Hh w' mr g):VS w' b pb pl mw mr A c K kk kc ks ys ew g:=by
 have a:∀ts:List TypeId,3 ∉ ts->NoT ts w (mr::gh er):=λts j=>((NoT.map h.rm.map).app (ML.noT h.rm j)).mem qs
 exact⟨h.box.frT d (a [196] qd) qs,h.own.frT d (a [91] qd) qs,h.kown.frT d (a [86] qd) qs,ML.frT h.wm d (by
  simp only[mem_cons,not_or];exact⟨h.ne,ML.noMap h.rm h.wm.map⟩) (a [201] qd),i,h.ne⟩
def VS.putLast{pl':Nat}(h:VS w b pb pl mw mr A c K kk kc ks ys ew er)(d:Fr [b] w w')(m:BoxN w' b 196 #[.pointer (some ⟨pb,0,none⟩),.slice A ys.length c,.slice K kk kc,.pointer (some ⟨pl',0,none⟩),.map (some mw),.map (some mr)]):VS w' b pb pl' mw mr A c K kk kc ks ys ew er:=by
 have a:∀ts:List TypeId,196 ∉ ts->NoT ts w [b]:=λts n=>NoT.box h.box n
 have j:∀ {o:TypeId} {r2:Nat} {p:List (Value × Value)},MapIs prog o w r2 p->r2 ∉ [b]:=λl i=>by
  rw[ip]at i;obtain⟨s,clock,g,_⟩:=l;rw[i,show w.heap[b]?=_ from h.box]at g
  cases g
 exact⟨m,h.own.frT d (a [91] qd) qs,h.kown.frT d (a [86] qd) qs,ML.frT h.wm d (j h.wm.map) (a [201] qd),ML.frT h.rm d (j h.rm.map) (a [3] qd),h.ne⟩
def VS.putA{X:World}{A':Option Addr}{c':Nat}{ys':List AX}(h:VS w b pb pl mw mr A c K kk kc ks ys ew er)(t:Fr (eX A) w X)(z:Own X 91 6 A' ys'.length c' (ys'.flatMap AX.cs))(u:∀k∈eX A',k∈eX A \/ w.heap.size<=k)(p:Fr [b] X w')
 (v:BoxN w' b 196 #[.pointer (some ⟨pb,0,none⟩),.slice A' ys'.length c',.slice K kk kc,.pointer (some ⟨pl,0,none⟩),.map (some mw),.map (some mr)]):VS w' b pb pl mw mr A' c' K kk kc ks ys' ew er:=by
 have n:Fr (b::eX A) w w':=(t.mono (λk o=>.inl (by simp[o]))).trans p qs;have m:∀ts:List TypeId,196 ∉ ts->91 ∉ ts->NoT ts w (b::eX A):=λts i l=>((NoT.box h.box i).app (NoT.own h.own l)).mem qs
 have s:∀ {B:TypeId} {r2:Nat} {C:List (Value × Value)},MapIs prog B w r2 C->r2 ∉ b::eX A:=λl a=>by
  obtain⟨F,clock,j,_⟩:=l
  rcases mem_cons.1 a with e|a
  ·rw[e,show w.heap[b]?=_ from h.box]at j
   cases j
  ·rcases h.own.2 with⟨d,_⟩|⟨g,D,E,d,_,y,_⟩
   ·injection d with d;rw[d]at a;simp[eX]at a
   ·injection d with d
    rw[d]at a;simp only[eX,Option.map_some,Option.toList_some,ip]at a;rw[a,y]at j
    cases j
 have x:b ∉ eX A':=λa=>by
  rcases u b a with i|i
  ·have:=NoT.own (ts:=[196]) h.own qd b i _ _ _ h.box
   simp at this
  ·have:=h.box.lt;omega
 exact⟨v,z.fr p (λk o=>by simp only[ip];rintro rfl;exact x o),h.kown.frT n (m [86] qd qd) qs,ML.frT h.wm n (s h.wm.map) (m [201] qd qd),ML.frT h.rm n (s h.rm.map) (m [3] qd qd),h.ne⟩
def VS.putK{X:World}{K':Option Addr}{kk' kc':Nat}{ks':List Value}(h:VS w b pb pl mw mr A c K kk kc ks ys ew er)(t:Fr (eX K) w X)(z:Own X 86 1 K' kk' kc' ks')(u:∀k∈eX K',k∈eX K \/ w.heap.size<=k)(p:Fr [b] X w')
 (v:BoxN w' b 196 #[.pointer (some ⟨pb,0,none⟩),.slice A ys.length c,.slice K' kk' kc',.pointer (some ⟨pl,0,none⟩),.map (some mw),.map (some mr)]):VS w' b pb pl mw mr A c K' kk' kc' ks' ys ew er:=by
 have n:Fr (b::eX K) w w':=(t.mono (λk o=>.inl (by simp[o]))).trans p qs;have m:∀ts:List TypeId,196 ∉ ts->86 ∉ ts->NoT ts w (b::eX K):=λts i l=>((NoT.box h.box i).app (NoT.own h.kown l)).mem qs
 have s:∀ {B:TypeId} {r2:Nat} {C:List (Value × Value)},MapIs prog B w r2 C->r2 ∉ b::eX K:=λl a=>by
  obtain⟨F,clock,j,_⟩:=l
  rcases mem_cons.1 a with e|a
  ·rw[e,show w.heap[b]?=_ from h.box]at j
   cases j
  ·rcases h.kown.2 with⟨d,_⟩|⟨g,D,E,d,_,y,_⟩
   ·injection d with d;rw[d]at a;simp[eX]at a
   ·injection d with d
    rw[d]at a;simp only[eX,Option.map_some,Option.toList_some,ip]at a;rw[a,y]at j
    cases j
 have x:b ∉ eX K':=λa=>by
  rcases u b a with i|i
  ·have:=NoT.own (ts:=[196]) h.kown qd b i _ _ _ h.box
   simp at this
  ·have:=h.box.lt;omega
 exact⟨v,h.own.frT n (m [91] qd qd) qs,z.fr p (λk o=>by simp only[ip];rintro rfl;exact x o),ML.frT h.wm n (s h.wm.map) (m [201] qd qd),ML.frT h.rm n (s h.rm.map) (m [3] qd qd),h.ne⟩
end
structure VGis(w:World)(b pb pl mw mr:Nat)(A:Option Addr)(c:Nat)(KA:Option Addr)(kk kc:Nat)(ks:List Value)(ys:List AX)(ew:List (NE ON VX))(er:List (NE ON Nat))(ns:List ON):Prop where
 s:VS w b pb pl mw mr A c KA kk kc ks ys ew er
 kl:kk<=ys.length
 xok:∀x∈ys,x.ok w
 base:SG w pb []
 st:SG w pl ns
 nl:ns.length<=10*ys.length
 wr:∀m,gM ew m=oT (ys.map AX.a) m
 wl:∀m,(gM ew m).length<=10*ys.length
 rl:∀m,(gM er m).length<=10*ys.length
 run:Run ys
def VG(w:World)(b:Nat)(n:List AX)(M:List Nat):Prop:=∃l m g f A c a i h j e d k,VGis w b l m g f A c a i h j n e d k/\M=VB b g f A a e d
def El(d:List AX)(a:AG)(M:List Nat)(b:Nat)(w:World)(e:Ending)(w':World):Prop:=e=.returned (.int .i64 0)/\∃c y,y.a=a/\VG w' b (d++[y]) c/\Fr M w w'/\∀k∈c,k∈M \/ w.heap.size<=k
def FU(b p:Nat)(w:World)(h:w.cell? ⟨b,0,none⟩=some (.pointer (some ⟨p,0,none⟩))):Calls prog 157 #[.pointer (some ⟨b,0,none⟩)] w λe w'=>e=.returned (.bool false)/\w=w':=o6 b p w h
def Cf(b:Nat)(Q:List AX)(bK:List Nat)(x:AX)(w:World)(h:VG w b Q bK)(bW:Ok w)(cB:∀k∈bK,6<=k)(hx:x.ok w)(hA:qN Q x.a=true)(hf:x.a.fit)(hr:x.a.r.length<=10)(hw:x.a.w.length<=10)(c8:Q.length<=11):
 Calls prog 98 #[.pointer (some ⟨b,0,none⟩),x.v] w (El Q x.a bK b w):=by
 obtain⟨pb,pl,E,D,A,c,O,kk,aO,ks,ew,S,ns,h,rfl⟩:=h
 have bD:l6 x.a=true:=by
  unfold qN at hA;simp only[Bool.and_eq_true]at hA;exact hA.1
 have⟨Y,bV⟩:=eR (x.a.r.length);have⟨U,bB⟩:=eR (x.a.w.length);have⟨n,bA⟩:=eR (Q.length);have bC:x.v=.agg #[.int .i64 x.a.k.rnd,.int .i64 x.a.k.phase,.int .i64 x.a.k.idx,.string x.sl,.slice x.A Y x.c,.slice x.B U x.d]:=by unfold AX.v AG.val;rw[bV,bB]
 rw[bC];have⟨w1,cN,bt,n1,ap⟩:=ir w #[.int .i64 x.a.k.rnd,.int .i64 x.a.k.phase,.int .i64 x.a.k.idx,.string x.sl,.slice x.A Y x.c,.slice x.B U x.d] 91 w.heap.size;have⟨R,hR⟩:=eR (w.heap.size);have b9:=Hd hR;rw[hR]at n1
 have ac:∀W,Fr [] w1 W->(W.cell? ⟨b,0,none⟩=some (.pointer (some ⟨pb,0,none⟩))/\W.cell? ⟨b,1,none⟩=some (.slice A n c)/\W.cell? ⟨b,2,none⟩=some (.slice O kk aO)/\W.cell? ⟨b,3,none⟩=some (.pointer (some ⟨pl,0,none⟩))/\W.cell? ⟨b,4,none⟩=some (.map (some E))/\W.cell? ⟨b,5,none⟩=some (.map (some D)))/\W.cell? ⟨R,0,none⟩=some (.int .i64 x.a.k.rnd)/\W.cell? ⟨R,1,none⟩=some (.int .i64 x.a.k.phase)/\W.cell? ⟨R,2,none⟩=some (.int .i64 x.a.k.idx)/\W.cell? ⟨R,3,none⟩=some (.string x.sl)/\W.cell? ⟨R,4,none⟩=some (.slice x.A Y x.c)/\W.cell? ⟨R,5,none⟩=some (.slice x.B U x.d):=λW hW=>by
  have L:=h.s.box.fr (ap.then hW) qs;rw[bA]at L;have C:=n1.fr hW qs;exact⟨⟨L.c 0,L.c 1,L.c 2,L.c 3,L.c 4,L.c 5⟩,C.c 0,C.c 1,C.c 2,C.c 3,C.c 4,C.c 5⟩
 have co:∀W,Fr [] w1 W->Calls prog 157 #[.pointer (some ⟨b,0,none⟩)] W λe w'=>e=.returned (.bool false)/\W=w':=λW hW=>FU b pb W (ac W hW).1.1
 have bO:∀W,Fr [] w1 W->Calls prog 158 #[x.v] W (fi W (.bool true)):=λW hW=>by
  have:=uX x.a x.sl x.A x.B x.c x.d W (bW.fr0 (ap.then hW)) hx.s (hx.chr.fr0 (ap.then hW)) (hx.chw.fr0 (ap.then hW)) hf;rw[bD]at this;exact this
 have cA:=gr bD;have hG:∀y∈x.a.w,y.fit/\j6 y=true:=λy hy=>⟨hf.w y hy,gG cA.2 y hy⟩;have dc:=h.nl
 have cd:∀W,Fr [] w1 W->Calls prog 153 #[.pointer (some ⟨pl,0,none⟩),.slice x.B U x.d] W (l8 W (ns.length+U)):=λW hW=>by
  have:=vc pl ns x.a.w x.B x.d W (bW.fr0 (ap.then hW)) (h.st.fr0 (ap.then hW)) (hx.chw.fr0 (ap.then hW)) hG qo;rw[bB]at this;exact this
 rw[bC]at bO;have di:decide ((65536:Int)<=(n:Int))=false:=by simp;omega
 have cz:Q.getLast?=Q[n - 1]?:=by rw[List.getLast?_eq_getElem?,bA]
 have db:n<=11:=qo
 have HN:=Hd co;have cY:=Hd bO;have HA:=Hd cd;have cX:=Hd cN;have bJ:=Hd ap;have HSS:=Hd ac;have cV:=Hd n1;have I:=Hd h;have HX:=Hd hx;have dg:=Hd cB;have t:=Hd (An bC (An bA (An bD (An hA (An hf (An bV (An bB cz)))))));have HL:=Hd (An hr hw);have dn:Y<=10:=qo
 have dp:U<=10:=qo
 clear hx h ac co bO cd cN ap n1 bC bW cB bD bt hf bV bB bA cA hG dc cz hr hw c8 hA hR
 go_enter func98,ntmps98
 go_upto_region 1 with fail
 rw[cX.out]
 try rw[b9.out]
 have⟨⟨x0,x1,x2,x3,x4,x5⟩,y0,y1,y2,y3,y4,y5⟩:=HSS.out w1 (Fq [] w1)
 go_upto_region 8 with(first
  | (go_at_call 157;(with_reducible refine(HN.out _ (Fq [] w1)).mono ?_);rintro e w' ⟨rfl,rfl⟩)
  | (go_at_call 158;(with_reducible refine(cY.out _ (Fq [] w1)).mono ?_);rintro e w2 ⟨rfl,bQ⟩;clear x0 x1 x2 x3 x4 x5 y0 y1 y2 y3 y4 y5;have⟨⟨x0,x1,x2,x3,x4,x5⟩,y0,y1,y2,y3,y4,y5⟩:=HSS.out w2 bQ))
 clear x0 x1 x2 x3 x4 x5 y0 y1 y2 y3 y4 y5
 go_cut [40]from 24 to 41 (λs W=>s=.bool false/\Fr [] w1 W)
 case first =>
  cases n with
  | zero =>
   refine eW (λW=>Fr [] w1 W) qk qk (bQ.drew) ?_
   repeat(
    first
    | go_big_quiet_skip
    | (go_big_quiet_want;first|(go_big_quiet_op;go_big_quiet_on)|(apply Exists.intro;refine⟨λW hW=>?_,?_⟩;(· have⟨⟨x0,x1,x2,x3,x4,x5⟩,y0,y1,y2,y3,y4,y5⟩:=HSS.out W hW;go_simp;first|done|with_reducible exact rfl|with_reducible exact⟨rfl,rfl⟩ );simp only[qq];go_big_quiet_on))
    )
   refine wpQuiet_nil ?_;intro W3 aQ
   go_wp2
   go_meet
   exact⟨rfl,aQ⟩
  | succ m =>
   have af:=(I.s.own.rd:Rd w 6 A Q.length (Q.flatMap AX.cs));rw[t.2.1]at af;obtain⟨g,off,rfl,aI,ax⟩:=fK lx af qo;obtain⟨y,hy⟩:∃y,Q[m]?=some y:=⟨_,gg (by rw[t.2.1];omega)⟩;have aU:=ax m y hy;unfold AX.cs at aU;have be:∀o,(W:World)->Fr [] w1 W->W.cell? ⟨g,o,none⟩=w.cell? ⟨g,o,none⟩:=λo W hW=>(bJ.then hW).cell (p:=⟨g,o,none⟩) aI qs;have cR:=I.run.wf y (gH hy);have bs:=I.xok y (gH hy);have⟨r,hr⟩:=eR (pL x.a.k y.a.k)
   have dh:decide (r<=0)=false:=by
    have h0:=t.2.2.2.1;unfold qN at h0;rw[t.2.2.1,t.2.2.2.2.2.2.2,Nat.add_sub_cancel,hy]at h0;simp only[Bool.true_and,hr,decide_eq_true_eq]at h0;simp;omega
   have ch:∀W,Calls prog 91 #[.agg #[.int .i64 x.a.k.rnd,.int .i64 x.a.k.phase,.int .i64 x.a.k.idx,.string x.sl],.agg #[.int .i64 y.a.k.rnd,.int .i64 y.a.k.phase,.int .i64 y.a.k.idx,.string y.sl]] W (jg W r):=λW=>by
    have⟨v1,v2⟩:=gY (kh t.2.2.1);have⟨v3,v4⟩:=gY (kh cR.1);have h:=lI x.a.k y.a.k W v1 v3 qo qo;rw[hr]at h;unfold lU at h;rw[HX.s,bs.s]at h;exact h
   have cU:=Hd ch;have cW:=HSS;clear HSS
   have HSS:=Hd (λ(W:World) (hW:Fr [] w1 W)=>An (cW.out W hW) (show W.cell? ⟨g,off+m*6,none⟩=some (.int .i64 y.a.k.rnd)/\W.cell? ⟨g,off+m*6+1,none⟩=some (.int .i64 y.a.k.phase)/\W.cell? ⟨g,off+m*6+2,none⟩=some (.int .i64 y.a.k.idx)/\W.cell? ⟨g,off+m*6+3,none⟩=some (.string y.sl)from
    ⟨(be _ W hW).trans (aU 0 qo),(be _ W hW).trans (aU 1 qo),(be _ W hW).trans (aU 2 qo),(be _ W hW).trans (aU 3 qo)⟩))
   have dq:IntKind.i64.wrap (m:Int)=(m:Int):=by simp only[IntKind.wrap_i64];omega
   have bj:(m:Int)<(m:Int)+1:=qo
   clear aU ax af be cR bs hr ch;refine eW (λW=>Fr [] w1 W) qk qk (bQ.drew) ?_
   repeat(
    first
    | go_big_quiet_skip
    | (go_big_quiet_want;first|(go_big_quiet_op;go_big_quiet_on)|(apply Exists.intro;refine⟨λW hW=>?_,?_⟩;(· have⟨⟨⟨x0,x1,x2,x3,x4,x5⟩,y0,y1,y2,y3,y4,y5⟩,dt,z1,z2,z3⟩:=HSS.out W hW;go_simp;first|done|with_reducible exact rfl|with_reducible exact⟨rfl,rfl⟩|((go_at_call 91;(with_reducible refine(cU.out W).mono ?_);rintro e w' ⟨rfl,h⟩;exact⟨rfl,hW.then h⟩)));simp only[qq];go_big_quiet_on))
    )
   refine wpQuiet_nil ?_;intro W3 aQ
   go_wp2
   go_meet
   exact⟨rfl,aQ⟩
 case rest =>
 obtain⟨rfl,aQ⟩:=hcut
 go_upto_region 10 with fail
 have N:Fr [] w1 wc.drew:=aQ.drew;refine eU (λW:World=>Fr [] w1 W) 11 qk ?_ qd
 show fc 0 ..
 iterate 6 (refine gJ rfl ?_;try simp only[qq])
 refine hO (i:=6) rfl λK z=>?_;go_simp
 go_at_call 153
 (with_reducible refine(HA.out _ N).mono ?_);rintro e w4 ⟨p2,b6,rfl,bn,cE,ct⟩;have bL:=N.then ct;refine z _ _ bL ?_;clear z K N ct
 try simp only[qq]
 show fc 7 ..
 iterate 4 (refine gJ rfl ?_;try simp only[qq])
 refine eV ⟨qk,?_⟩;simp only[qG,qH];have a3:=Hd (An bn (An cE bL));clear bn cE bL;have cI:=I.s.fr0 (bJ.then a3.2.2);have bm:=cV.fr a3.2.2 qs;have aP:=Hd (An cI bm);clear cI bm
 go_upto_if 56 with fail
 have aK:=I.kl;rw[t.2.1]at aK;have b8:=Hd aK;clear aK
 go_cut [57]from 57 to 70 (λ_ W=>∃cb kk' kc' ks',VS W b pb pl E D A c cb kk' kc' ks' Q ew S/\kk'<=n+1/\Fr (b::eX O) w4 W/\∀q∈eX cb,q∈eX O \/ w4.heap.size<=q)
 case first =>
  have aw:=aP.1.box;rw[t.2.1]at aw
  by_cases h0:n=0
  ·subst h0
   have c7:kk=0:=by have:=b8.out;omega
   subst c7;have cj:=aP.1.kown;have az:=Hd (An aw cj);clear aw cj
   go_upto_region 14 with fail
   clear HSS;have HSS:=Hd (λ(W:World) (hW:W.cell? ⟨b,2,none⟩=some (.slice O 0 aO)/\W.cell? ⟨b,3,none⟩=some (.pointer (some ⟨pl,0,none⟩)))=>hW);have N:w4.drew.cell? ⟨b,2,none⟩=some (.slice O 0 aO)/\w4.drew.cell? ⟨b,3,none⟩=some (.pointer (some ⟨pl,0,none⟩)):=⟨az.1.c 2,az.1.c 3⟩;refine eU (λW:World=>W.cell? ⟨b,2,none⟩=some (.slice O 0 aO)/\W.cell? ⟨b,3,none⟩=some (.pointer (some ⟨pl,0,none⟩))) 13 qk ?_ qd
   show fc 0 ..
   iterate 9 (refine gJ rfl ?_;try simp only[qq])
   refine hO (i:=9) rfl λK z=>?_;go_simp
   have⟨X1,av,n2,P⟩:=vC w4 #[.pointer (some ⟨pl,0,none⟩)] 86;rw[av];have bz:=az.1.fr P qs;refine z _ _ ⟨bz.c 2,bz.c 3⟩ ?_;clear z K av
   try simp only[qq]
   refine hO (i:=10) rfl λK z=>?_;obtain⟨ii,bT,b0,b1,b2⟩:=Dh;refine ja (.tmp 61) (.tmp 66) 133 rfl 86 ii _ 1 8 underlying133 bT b0 b1 b2 rfl qd O 0 aO ks rfl (az.2.fr P qs) ⟨w4.heap.size,0,none⟩ 1 1 [.pointer (some ⟨pl,0,none⟩)] rfl rfl (λj u hu=>by rw[fV,n2.c j];simpa using hu) (by simp[Value.oneCell']) (by unfold maxLen;omega) qo ?_;intro A' c' X3 ae X ah
   have c2:b ∉ eX O:=λhm=>by
    have:=NoT.own (ts:=[196]) az.2 qd b hm _ _ _ az.1;simp at this
   have ad:=bz.fr X c2;have cf:X3.cell? ⟨b,2,none⟩=some (.slice O 0 aO)/\X3.cell? ⟨b,3,none⟩=some (.pointer (some ⟨pl,0,none⟩)):=⟨ad.c 2,ad.c 3⟩;refine z _ _ cf ?_;clear z K
   try simp only[qq]
   show fc 11 ..
   iterate 2 (refine gJ rfl ?_;try simp only[qq])
   refine eV ⟨qk,?_⟩;simp only[qG,qH];rw[show (0+1:Nat)=1 from rfl]at ae ⊢;have e0:=ad.k2;have e1:=ad.f 2;have aT:=ad.setAt 2 (.slice A' 1 c');have f5:Fr [b] X3 (X3.setCell ⟨b,2,none⟩ (.slice A' 1 c')):=(Fq [b] X3).st _;have de:Q.length=0:=t.2.1;have cG:=aP.1.putK (K':=A') (kk':=1) (kc':=c') (ks':=ks++[.pointer (some ⟨pl,0,none⟩)]) ((P.mono qs).then X) ae (λk l=>(ah k l).imp id (λh=>Nat.le_trans P.size h)) f5 (by rw[de];exact aT);have ak:Fr (b::eX O) w4 (X3.setCell ⟨b,2,none⟩ (.slice A' 1 c')):=(((P.mono qs).then X).mono (T:=b::eX O) (λk l=>.inl (by simp[l]))).trans f5 qs;have aa:=Hd (An cG (An ak (λk l=>(ah k l).imp id (λh=>Nat.le_trans P.size h))));clear cG ak aT f5 ad X ae ah bz n2 P N cf az
   go_wp2
   go_meet
   exact⟨A',1,c',_,aa.1,qo,aa.2.1,aa.2.2⟩
  ·have dm:¬(n:Int) % 16=0:=qo
   clear aw
   go_wp2
   go_meet
   exact⟨O,kk,aO,ks,aP.1,by have:=b8.out;omega,Fq _ _,λq G=>.inl G⟩
 case rest =>
 obtain⟨K2,bG,bF,bH,bY,cy,cu,ci⟩:=hcut;have ck:=I.s.lt;have am:R ∉ VB b E D A O ew S:=λhm=>by have:=ck R hm;have:=b9.out;omega
 have cp:R≠b/\R ∉ eX A/\R ∉ eX O/\R≠E/\R≠D/\R ∉ gh ew/\R ∉ gh S:=by
  simp only[VB,mem_cons,mem_append,not_or]at am;exact⟨am.1,am.2.2.2.1,am.2.2.2.2.1,am.2.1,am.2.2.1,am.2.2.2.2.2.1,am.2.2.2.2.2.2⟩
 have aC:=Hd cp;have cO:=bJ.then a3.2.2;have ca:=Hd cO;have a6:=bY.box;rw[t.2.1]at a6;have e0:=a6.k3;have e1:=a6.f 3;have aD:=Hd (An bY (An cy (An cu ci)));clear ck am cp cO bY cy cu ci aQ
 go_upto_region 16 with fail
 have⟨X5,bw⟩:=eR (wc.setCell ⟨b,3,none⟩ (.pointer (some ⟨p2,0,none⟩)));have aT:=a6.setAt 3 (.pointer (some ⟨p2,0,none⟩));have f5:Fr [b] wc X5:=by rw[<-bw];exact(Fq [b] wc).st _
 rw[bw]at aT
 try rw[bw]
 have cL:=aD.1.putLast (pl':=p2) f5 (by rw[t.2.1];exact aT);have cH:BoxN X5 R 91 #[.int .i64 x.a.k.rnd,.int .i64 x.a.k.phase,.int .i64 x.a.k.idx,.string x.sl,.slice x.A Y x.c,.slice x.B U x.d]:=((aP.2.fr aD.2.2.1 (by simp only[mem_cons,not_or];exact⟨aC.1,aC.2.2.1⟩)).fr f5 (by simpa using aC.1));have cw:Fr (VB b E D A O ew S) w X5:=((ca.mono qs).trans (aD.2.2.1.mono (T:=VB b E D A O ew S) (λk l=>.inl (by rcases mem_cons.1 l with h|h <;> simp[VB,h]))) (λk l=>.inl l)).trans f5 (by simp[VB]);have cJ:SG X5 p2 b6:=(a3.1.frT aD.2.2.1 (aP.1.noS.mem (by intro k l;rcases mem_cons.1 l with h|h <;> simp[VB,h]))).frT f5 (aD.1.noS.mem (by intro k l;rw[ip]at l;simp[VB,l]));have ag:=Hd (An cL (An cH (An cw cJ)));clear e0 e1 bw aT a6 cL cH cw f5 cJ
 have ac:∀W,Fr [] X5 W->W.cell? ⟨b,1,none⟩=some (.slice A n c)/\W.cell? ⟨R,0,none⟩=some (.int .i64 x.a.k.rnd)/\W.cell? ⟨R,1,none⟩=some (.int .i64 x.a.k.phase)/\W.cell? ⟨R,2,none⟩=some (.int .i64 x.a.k.idx)/\W.cell? ⟨R,3,none⟩=some (.string x.sl)/\W.cell? ⟨R,4,none⟩=some (.slice x.A Y x.c)/\W.cell? ⟨R,5,none⟩=some (.slice x.B U x.d):=λW hW=>by
  have L:=ag.1.box.fr hW qs;rw[t.2.1]at L;have C:=ag.2.1.fr hW qs;exact⟨L.c 1,C.c 0,C.c 1,C.c 2,C.c 3,C.c 4,C.c 5⟩
 have bM:∀W,Fr [] X5 W->Calls prog 159 #[x.v] W (zO W x.a):=λW hW=>by
  have aj:=HX.frT (ag.2.2.1.trans hW qs) I.s.noS;exact rY (.inr rfl) x.a x.sl x.A x.B x.c x.d W HX.s aj.chr aj.chw t.2.2.2.2.1
 rw[t.1]at bM;have b7:=Hd bM;clear HSS;have HSS:=Hd (λ(W:World) (hW:W.cell? ⟨b,1,none⟩=some (.slice A n c)/\W.cell? ⟨R,0,none⟩=some (.int .i64 x.a.k.rnd)/\W.cell? ⟨R,1,none⟩=some (.int .i64 x.a.k.phase)/\W.cell? ⟨R,2,none⟩=some (.int .i64 x.a.k.idx)/\W.cell? ⟨R,3,none⟩=some (.string x.sl)/\W.cell? ⟨R,4,none⟩=some (.slice x.A Y x.c)/\W.cell? ⟨R,5,none⟩=some (.slice x.B U x.d))=>hW);have N:=ac _ (Fq [] X5).drew;have bv:=Hd ac;clear ac bM;refine eU (λW:World=>W.cell? ⟨b,1,none⟩=some (.slice A n c)/\W.cell? ⟨R,0,none⟩=some (.int .i64 x.a.k.rnd)/\W.cell? ⟨R,1,none⟩=some (.int .i64 x.a.k.phase)/\W.cell? ⟨R,2,none⟩=some (.int .i64 x.a.k.idx)/\W.cell? ⟨R,3,none⟩=some (.string x.sl)/\W.cell? ⟨R,4,none⟩=some (.slice x.A Y x.c)/\W.cell? ⟨R,5,none⟩=some (.slice x.B U x.d)) 11 qk ?_ qd
 show fc 0 ..
 iterate 6 (refine gJ rfl ?_;try simp only[qq])
 refine hO (i:=6) rfl λK z=>?_;go_simp
 go_at_call 159
 (with_reducible refine(b7.out _ (Fq [] X5).drew).mono ?_);rintro e Y1 ⟨⟨ya,aX,yA,yc,yB,yd⟩,cQ,rfl,bs,cx⟩
 dsimp only at cQ
 subst cQ;have av:=cx.undrew;refine z _ _ (bv.out _ av) ?_;clear z K N cx;have N:=bv.out _ av;unfold AX.v AG.val
 dsimp only
 rw[t.2.2.2.2.2.1,t.2.2.2.2.2.2.1]
 try simp only[qq]
 refine hO (i:=7) rfl λK z=>?_;go_simp
 have⟨Y2,cq,n2,f2⟩:=kJ Y1 #[.int .i64 x.a.k.rnd,.int .i64 x.a.k.phase,.int .i64 x.a.k.idx,.string aX,.slice yA Y yc,.slice yB U yd] 91;rw[cq];have aR:=av.then f2;refine z _ _ (bv.out _ aR) ?_;clear z K N cq
 try simp only[qq]
 refine hO (i:=8) rfl λK z=>?_;obtain⟨ii,bT,b0,b1,b2⟩:=sd;have bN:=ag.1.own.fr aR qs;rw[t.2.1]at bN;refine ja (.tmp 78) (.tmp 81) 22 rfl 91 ii _ 6 88 underlying22 bT b0 b1 b2 rfl qd A n c (Q.flatMap AX.cs) rfl bN ⟨Y1.heap.size,0,none⟩ 1 1 (AX.mk x.a aX yA yc yB yd).cs rfl rfl (λj u hu=>by unfold AX.cs at hu;dsimp only at hu;rw[t.2.2.2.2.2.1,t.2.2.2.2.2.2.1]at hu;rw[fV,n2.c j];simpa using hu) (by intro u hu;simp only[AX.cs,mem_cons,not_mem_nil,or_false]at hu;rcases hu with rfl|rfl|rfl|rfl|rfl|rfl <;> rfl) (by unfold maxLen;omega) qo ?_;intro A' c' Y3 ae X ah
 have cD:b ∉ eX A:=λhm=>by
  have:=NoT.own (ts:=[196]) I.s.own qd b hm _ _ _ I.s.box;simp at this
 have ad:=((ag.1.box.fr aR qs).fr X cD);rw[t.2.1]at ad;have ay:=(ag.2.1.fr aR qs).fr X aC.2.1;have N:Y3.cell? ⟨b,1,none⟩=some (.slice A n c)/\Y3.cell? ⟨R,0,none⟩=some (.int .i64 x.a.k.rnd)/\Y3.cell? ⟨R,1,none⟩=some (.int .i64 x.a.k.phase)/\Y3.cell? ⟨R,2,none⟩=some (.int .i64 x.a.k.idx)/\Y3.cell? ⟨R,3,none⟩=some (.string x.sl)/\Y3.cell? ⟨R,4,none⟩=some (.slice x.A Y x.c)/\Y3.cell? ⟨R,5,none⟩=some (.slice x.B U x.d):=⟨ad.c 1,ay.c 0,ay.c 1,ay.c 2,ay.c 3,ay.c 4,ay.c 5⟩;refine z _ _ N ?_;clear z K
 try simp only[qq]
 show fc 9 ..
 iterate 2 (refine gJ rfl ?_;try simp only[qq])
 refine eV ⟨qk,?_⟩;simp only[qG,qH];have e0:=ad.k1;have e1:=ad.f 1;have ab:=Hd (An aR (An f2 (An ae (An X (An ah (An ad (An ay (An bs av))))))));clear aR f2 ae X ah ad ay bs n2 av bN N bv b7 HSS cD
 go_upto_region 17 with fail
 have⟨Y4,bx⟩:=eR (Y3.setCell ⟨b,1,none⟩ (.slice A' (n+1) c'));have aw:=ab.2.2.2.2.2.1.setAt 1 (.slice A' (n+1) c');have f4:Fr [b] Y3 Y4:=by rw[<-bx];exact(Fq [b] Y3).st _
 rw[bx]at aw
 try rw[bx]
 obtain⟨zs,ar⟩:∃zs,zs=Q++[AX.mk x.a aX yA yc yB yd]:=⟨_,rfl⟩;have aq:zs.length=n+1:=by rw[ar,gu,t.2.1];rfl
 have cT:zs.flatMap AX.cs=Q.flatMap AX.cs++(AX.mk x.a aX yA yc yB yd).cs:=by rw[ar,flatMap_append];simp
 have fA:Fr (eX A) X5 Y3:=((ab.1.mono qs).then ab.2.2.2.1);have cK:=ag.1.putA (A':=A') (c':=c') (ys':=zs) fA (by rw[aq,cT];exact ab.2.2.1) (λk l=>(ab.2.2.2.2.1 k l).imp id (λh=>Nat.le_trans ab.1.size h)) f4 (by rw[aq];exact aw);have bm:BoxN Y4 R 91 #[.int .i64 x.a.k.rnd,.int .i64 x.a.k.phase,.int .i64 x.a.k.idx,.string x.sl,.slice x.A Y x.c,.slice x.B U x.d]:=ab.2.2.2.2.2.2.1.fr f4 (by simpa using aC.1);have fB:Fr (b::eX A) X5 Y4:=(fA.mono (λk l=>.inl (by simp[l]))).trans f4 qs;have cv:Fr (VB b E D A O ew S) w Y4:=ag.2.2.1.trans fB (λk l=>.inl (by rcases mem_cons.1 l with h|h <;> simp[VB,h]))
 have cP:(AX.mk x.a aX yA yc yB yd).ok Y4:=by
  have h5:VS Y1 b pb p2 E D A c K2 bG bF bH Q ew S:=ag.1.fr0 ab.2.2.2.2.2.2.2.2;have fX:Fr (b::eX A) Y1 Y4:=((ab.2.1.mono qs).trans (ab.2.2.2.1.mono (T:=b::eX A) (λk l=>.inl (by simp[l]))) (λk l=>.inl l)).trans f4 qs;exact ab.2.2.2.2.2.2.2.1.frT fX (h5.noS.mem (by intro k l;rcases mem_cons.1 l with h|h <;> simp[VB,h]))
 have bn:SG Y4 p2 b6:=ag.2.2.2.frT fB (ag.1.noS.mem (by intro k l;rcases mem_cons.1 l with h|h <;> simp[VB,h]));have cS:∀k∈eX A',k∈eX A \/ w.heap.size<=k:=λk l=>(ab.2.2.2.2.1 k l).imp id (λh=>by have L:=ag.2.2.1.size;have C:=ab.1.size;omega);have ai:=Hd (An cK (An bm (An cv (An cP (An ar (An aq (An bn cS)))))));clear e0 e1 bx aw f4 cT fA cK bm fB cv cP ar aq bn cS;have y5:=ai.2.1.k5
 go_wp2
 clear y5
 go_loopw [88] (λi W=>∃(j:Nat) (M:List (NE ON VX)),j<=U/\i=.int .i64 (j:Int)/\VS W b pb p2 E D A' c' K2 bG bF bH zs M S/\Fr (E::gh ew) Y4 W/\(∀q∈gh M,q∈gh ew \/ Y4.heap.size<=q)/\∀m,gM M m=oT (Q.map AX.a) m++i8 n m (x.a.w.take j)) (λi _=>U - (intOf i).toNat)
 case atStart=>exact⟨0,ew,Nat.zero_le _,rfl,ai.1,Fq _ _,λq G=>.inl G,λm=>by rw[I.wr];simp[i8]⟩
 case round =>
  obtain⟨j,M,hj,rfl,bq,ak,an,aI⟩:=hrel;have bS:Fr (VB b E D A O ew S) w wr:=ai.2.2.1.trans ak (λk l=>.inl (by rcases mem_cons.1 l with h|h <;> simp[VB,h]));have aj:=HX.frT bS I.s.noS;have F:=Hd (An bq (An ak (An an (An aI bS))));clear bq ak an aI bS
  by_cases c5:j<U
  ·have dk:(j:Int)<(U:Int):=qo
   have af:=aj.chw;unfold Chs Rd at af;rw[t.2.2.2.2.2.2.1]at af;have⟨c0,off,hB,an,ax⟩:=fK i9 af qo;obtain⟨d,hd⟩:∃d,x.a.w[j]?=some d:=⟨_,gg (by rw[t.2.2.2.2.2.2.1];exact c5)⟩;have aV:=ox (gG (gr t.2.2.1).2 d (gH hd));have⟨df,aK⟩:=gx aV.1;have ao:=ax j d hd;have HD:=Hd (An hd (An aV.1 hB));have⟨nm,dd⟩:=eR (d.n);have⟨so,aM,_,_⟩:=eS d.n.owner;have⟨st,aN,_,_⟩:=eS d.n.text;have⟨sv,aW,_,_⟩:=eS d.v;have⟨k,l⟩:=eR (d.n.kind);have⟨nu,aL⟩:=eR (d.n.number);have⟨ix,aJ⟩:=eR (d.n.index);have⟨au,aS⟩:=eR (d.a);have bc:fu d.n=.agg #[.int .i64 k,.string so,.int .i64 nu,.int .i64 ix,.string st]:=by rw[gc aM aN,l,aL,aJ]
   have cM:(VX.mk n d.v d.a).cs=[.int .i64 (n:Int),.string sv,.bool au]:=by unfold VX.cs;rw[aW,aS]
   unfold CH.cs at ao;rw[aM,aN,aW,l,aL,aJ,aS]at ao;have⟨y0,y1,y2,y3,y4,y5,y6⟩:=FT ao;rw[hB];have⟨H,a4,bE,n0,f0⟩:=ir wr #[.int .i64 k,.string so,.int .i64 nu,.int .i64 ix,.string st,.string sv,.bool au] 95 wr.heap.size;have⟨Z,aG⟩:=eR (wr.heap.size);rw[aG]at n0;have bp:=F.1.box.fr f0 qs;have cC:Jm H E M:=ML.fr0 F.1.wm f0;have aY:=Hd aG;have HK:=Hd (An bc cM);have aZ:=Hd cC;have aB:=Hd f0;clear ao ax af aj hd aV hB aM aN aW l aL aJ aS dd bc cM cC aG an
   go_upto_region 20 with fail
   try rw[a4]
   try rw[aY.out]
   clear y0 y1 y2 y3 y4 y5 y6 a4 bE
   have c9:(gM M d.n).length<=200:=by
    rw[F.2.2.2.1,gu];have L:=I.wl d.n;rw[I.wr,t.2.1]at L
    have C:(i8 n d.n (x.a.w.take j)).length<=j:=by
     unfold i8;rw[length_map];have:=length_filter_le (λc=>decide (CH.n c=d.n)) (x.a.w.take j);rw[length_take]at this;omega
    have h3:=HL.2;have h4:=t.2.2.2.2.2.2.1;omega
   have bu:=F.1.lt;have aH:∀q∈VB b E D A' K2 M S,q≠Z:=λq G he=>by have:=bu q G;have:=aY.out;omega
   have bb:b≠E:=λhe=>by
    have⟨c1,clock,h3,_⟩:=F.1.wm.map;rw[<-he,show wr.heap[b]?=_ from F.1.box]at h3
    cases h3
   have aA:=Hd (An (aH E (by simp[VB])) (An bb (λq (G:q∈gh M)=>aH q (by simp[VB,G]))))
   have a8:b ∉ gh M:=λhm=>by
    have:=ML.noT (ts:=[196]) F.1.wm qd b hm _ _ _ F.1.box;simp at this
   have bI:=Hd a8
   have ac:∀W,Fr (E::gh M) H W->W.cell? ⟨b,4,none⟩=some (.map (some E))/\W.cell? ⟨Z,0,none⟩=some (.int .i64 k)/\W.cell? ⟨Z,1,none⟩=some (.string so)/\W.cell? ⟨Z,2,none⟩=some (.int .i64 nu)/\W.cell? ⟨Z,3,none⟩=some (.int .i64 ix)/\W.cell? ⟨Z,4,none⟩=some (.string st)/\W.cell? ⟨Z,5,none⟩=some (.string sv)/\W.cell? ⟨Z,6,none⟩=some (.bool au):=λW hW=>by
    have L:=bp.fr hW (by simp only[mem_cons,not_or];exact⟨aA.2.1,bI.out⟩);have C:=n0.fr hW (by simp only[mem_cons,not_or];exact⟨Ne.symm aA.1,λhm=>aA.2.2 _ hm rfl⟩);exact⟨L.c 4,C.c 0,C.c 1,C.c 2,C.c 3,C.c 4,C.c 5,C.c 6⟩
   have N:Fr (E::gh M) H H.drew:=(Fq _ H).drew;have HSS:=Hd ac;clear ac bu aH bb a8 n0 f0 bp;refine eU (λW:World=>Fr (E::gh M) H W) 17 qk ?_ qd
   show fc 0 ..
   iterate 12 (refine gJ rfl ?_;try simp only[qq])
   refine hO (i:=12) rfl λK z=>?_;go_simp
   have⟨V1,a5,n1,P⟩:=vC H #[.int .i64 (n:Int),.string sv,.bool au] 201;rw[a5];refine z _ _ (P.mono qs) ?_;clear z K N a5
   try simp only[qq]
   refine hO (i:=13) rfl λK z=>?_;have⟨sm,Ae,ce,V2,bi,f2,bk,a7,bo⟩:=ML.step je jB underlying193 tM (ML.fr0 aZ.out P) d.n aK;rw[HK.1]at bi;go_simp
   have al:Fr (E::gh M) H V2:=(P.mono qs).trans f2 qs;refine z _ _ al ?_;clear z K bi;have N:=al
   try simp only[qq]
   show fc 14 ..
   refine gJ rfl ?_;try simp only[qq]
   show fc 16 ..
   refine gJ rfl ?_;try simp only[qq];refine hO (i:=15) rfl λK z=>?_;obtain⟨jj,bU,b3,b4,b5⟩:=wk;have n2:=n1.fr f2 (by have:=aZ.map.lt;simp;omega);have cF:∀u∈[Value.int .i64 (n:Int),.string sv,.bool au],u.oneCell'=true:=by rw[<-HK.2];exact Ek _
   refine ja (.tmp 98) (.tmp 105) 280 rfl 201 jj _ 3 32 underlying280 bU b3 b4 b5 rfl qd Ae _ ce _ rfl bk ⟨H.heap.size,0,none⟩ 1 1 [.int .i64 (n:Int),.string sv,.bool au] rfl rfl (λj u hu=>by rw[fV,n2.c j];simpa using hu) cF (by unfold maxLen;omega) qo ?_;intro AA cc V3 ae X ah;have aE:Fr (E::gh M) H V3:=al.trans X (λq G=>.inl (by simp[a7 q G]));refine z _ _ aE ?_;clear z K N
   try simp only[qq]
   refine eV ⟨qk,?_⟩;simp only[qG,qH];rw[<-HK.2]at ae;have⟨V4,e3,c3,f4,bh,bf,a9⟩:=bo ⟨n,d.v,d.a⟩ V3 AA cc X ae ah;have aF:Fr (E::gh M) H V4:=aE.trans f4 qs;have br:=(F.1.fr0 aB.out).putW aF bh;have bX:=aB.size
   have bd:Fr (E::gh ew) Y4 V4:=F.2.1.trans ((aB.mono qs).then aF) (λq G=>by
    rcases mem_cons.1 G with h|h
    ·exact .inl (by simp[h])
    ·exact(F.2.2.1 q h).imp (λh=>by simp[h]) id)
   have bt:=F.2.1.size;have bZ:=P.size
   have ba:∀q∈gh e3,q∈gh ew \/ Y4.heap.size<=q:=λq G=>by
    rcases a9 q G with h|h
    ·exact F.2.2.1 q h
    ·exact .inr qo
   have bg:∀m,gM e3 m=oT (Q.map AX.a) m++i8 n m (x.a.w.take (j+1)):=λm=>by
    rw[bf,take_add_one,HD.1]
    show _=_++i8 n m (x.a.w.take j++[d])
    rw[sN]
    by_cases bj:m=d.n
    ·subst bj
     rw[if_pos rfl,if_pos rfl,F.2.2.2.1,append_assoc]
    ·rw[if_neg bj,if_neg (λe=>bj e.symm),F.2.2.2.1,append_nil]
   have aa:=Hd (An br (An bd (An ba bg)));clear br bd ba bg aF aE al f4 bh bf a9 ae X ah bo bk a7 n1 n2 P f2 HSS bX bt bZ cF
   go_wp2
   go_roundw
   case rel=>exact⟨j+1,e3,qo,by go_num,aa.1,aa.2.1,aa.2.2.1,aa.2.2.2⟩
   case measure=>simp[intOf];omega
  ·obtain rfl:j=U:=qo
   have cr:BoxN wr R 91 #[.int .i64 x.a.k.rnd,.int .i64 x.a.k.phase,.int .i64 x.a.k.idx,.string x.sl,.slice x.A Y x.c,.slice x.B j x.d]:=ai.2.1.fr F.2.1 (by simp only[mem_cons,not_or];exact⟨aC.2.2.2.1,aC.2.2.2.2.2.1⟩);have y4:=cr.k4;clear cr
   go_wp2
   clear y4;have⟨Z0,bP⟩:=eR (wr);rw[bP]at F aj
   try rw[bP]
   clear bP;have cZ:=Hd aj;clear aj
   go_loopw [113] (λi W=>∃(i2:Nat) (V:List (NE ON Nat)),i2<=Y/\i=.int .i64 (i2:Int)/\VS W b pb p2 E D A' c' K2 bG bF bH zs M V/\Fr (D::gh S) Z0 W/\(∀q∈gh V,q∈gh S \/ Z0.heap.size<=q)/\∀m,(gM V m).length<=10*n+i2) (λi _=>Y - (intOf i).toNat)
   case atStart=>exact⟨0,S,Nat.zero_le _,rfl,F.1,Fq _ _,λq G=>.inl G,λm=>by have:=I.rl m;rw[t.2.1]at this;exact this⟩
   case round =>
    obtain⟨i2,V,dj,rfl,bq,ak,an,aI⟩:=hrel;have cl:NoT xW Z0 (D::gh S):=F.1.noS.mem (by intro k l;rcases mem_cons.1 l with h|h <;> simp[VB,h]);have aj:=cZ.frT ak cl;have J:=Hd (An bq (An ak (An an aI)));clear bq ak an aI cl
    by_cases c6:i2<Y
    ·have dl:(i2:Int)<(Y:Int):=qo
     have af:=aj.chr;unfold Chs Rd at af;rw[t.2.2.2.2.2.1]at af;have⟨c0,off,hB,an,ax⟩:=fK i9 af qo;obtain⟨d,hd⟩:∃d,x.a.r[i2]?=some d:=⟨_,gg (by rw[t.2.2.2.2.2.1];exact c6)⟩;have aV:=ox (gG (gr t.2.2.1).1 d (gH hd));have⟨df,aK⟩:=gx aV.1;have ao:=ax i2 d hd;have⟨so,aM,_,_⟩:=eS d.n.owner;have⟨st,aN,_,_⟩:=eS d.n.text;have⟨sv,aW,_,_⟩:=eS d.v;have⟨k,l⟩:=eR (d.n.kind);have⟨nu,aL⟩:=eR (d.n.number);have⟨ix,aJ⟩:=eR (d.n.index);have⟨au,aS⟩:=eR (d.a);have bc:fu d.n=.agg #[.int .i64 k,.string so,.int .i64 nu,.int .i64 ix,.string st]:=by rw[gc aM aN,l,aL,aJ]
     unfold CH.cs at ao;rw[aM,aN,aW,l,aL,aJ,aS]at ao;have⟨y0,y1,y2,y3,y4,y5,y6⟩:=FT ao;rw[hB];have⟨H,a4,bE,n0,f0⟩:=ir wr #[.int .i64 k,.string so,.int .i64 nu,.int .i64 ix,.string st,.string sv,.bool au] 95 wr.heap.size;have⟨Z,aG⟩:=eR (wr.heap.size);rw[aG]at n0;have bp:=J.1.box.fr f0 qs;have aY:=Hd aG;have HK:=Hd bc;have aZ:=Hd (show Hh H D V from ML.fr0 J.1.rm f0);have aB:=Hd f0;clear ao ax af aj hd aV hB aM aN aW l aL aJ aS bc aG an
     go_upto_region 25 with fail
     try rw[a4]
     try rw[aY.out]
     clear y0 y1 y2 y3 y4 y5 y6 a4 bE;have c9:(gM V d.n).length<=200:=by have:=J.2.2.2 d.n;omega
     have bu:=J.1.lt;have aH:∀q∈VB b E D A' K2 M V,q≠Z:=λq G he=>by have:=bu q G;have:=aY.out;omega
     have bb:b≠D:=λhe=>by
      have⟨c1,clock,h3,_⟩:=J.1.rm.map;rw[<-he,show wr.heap[b]?=_ from J.1.box]at h3
      cases h3
     have aA:=Hd (An (aH D (by simp[VB])) (An bb (λq (G:q∈gh V)=>aH q (by simp[VB,G]))))
     have a8:b ∉ gh V:=λhm=>by
      have:=ML.noT (ts:=[196]) J.1.rm qd b hm _ _ _ J.1.box;simp at this
     have bI:=Hd a8
     have ac:∀W,Fr (D::gh V) H W->W.cell? ⟨b,5,none⟩=some (.map (some D))/\W.cell? ⟨Z,0,none⟩=some (.int .i64 k)/\W.cell? ⟨Z,1,none⟩=some (.string so)/\W.cell? ⟨Z,2,none⟩=some (.int .i64 nu)/\W.cell? ⟨Z,3,none⟩=some (.int .i64 ix)/\W.cell? ⟨Z,4,none⟩=some (.string st):=λW hW=>by
      have L:=bp.fr hW (by simp only[mem_cons,not_or];exact⟨aA.2.1,bI.out⟩);have C:=n0.fr hW (by simp only[mem_cons,not_or];exact⟨Ne.symm aA.1,λhm=>aA.2.2 _ hm rfl⟩);exact⟨L.c 5,C.c 0,C.c 1,C.c 2,C.c 3,C.c 4⟩
     have N:Fr (D::gh V) H H.drew:=(Fq _ H).drew;have HSS:=Hd ac;clear ac bu aH bb a8 n0 f0 bp;refine eU (λW:World=>Fr (D::gh V) H W) 12 qk ?_ qd
     show fc 0 ..
     iterate 7 (refine gJ rfl ?_;try simp only[qq])
     refine hO (i:=7) rfl λK z=>?_;go_simp
     have⟨V1,a5,n1,P⟩:=vC H #[.int .i64 (n:Int)] 3;rw[a5];refine z _ _ (P.mono qs) ?_;clear z K N a5
     try simp only[qq]
     refine hO (i:=8) rfl λK z=>?_;have⟨sm,Ae,ce,V2,bi,f2,bk,a7,bo⟩:=ML.step je jB underlying194 o7 (ML.fr0 aZ.out P) d.n aK;rw[HK.out]at bi;go_simp
     have al:Fr (D::gh V) H V2:=(P.mono qs).trans f2 qs;refine z _ _ al ?_;clear z K bi;have N:=al
     try simp only[qq]
     show fc 9 ..
     refine gJ rfl ?_;try simp only[qq]
     show fc 11 ..
     refine gJ rfl ?_;try simp only[qq];refine hO (i:=10) rfl λK z=>?_;obtain⟨jj,bU,b3,b4,b5⟩:=oh;have n2:=n1.fr f2 (by have:=aZ.map.lt;simp;omega);refine ja (.tmp 123) (.tmp 125) 36 rfl 3 jj _ 1 8 underlying36 bU b3 b4 b5 rfl qd Ae _ ce _ rfl bk ⟨H.heap.size,0,none⟩ 1 1 [.int .i64 (n:Int)] rfl rfl (λj u hu=>by rw[fV,n2.c j];simpa using hu) (by simp[Value.oneCell']) (by unfold maxLen;omega) qo ?_;intro AA cc V3 ae X ah;have aE:Fr (D::gh V) H V3:=al.trans X (λq G=>.inl (by simp[a7 q G]));refine z _ _ aE ?_;clear z K N
     try simp only[qq]
     refine eV ⟨qk,?_⟩;simp only[qG,qH];have⟨V4,e3,c3,f4,bh,bf,a9⟩:=bo n V3 AA cc X ae ah;have aF:Fr (D::gh V) H V4:=aE.trans f4 qs;have br:=(J.1.fr0 aB.out).putR aF bh;have bX:=aB.size
     have bd:Fr (D::gh S) Z0 V4:=J.2.1.trans ((aB.mono qs).then aF) (λq G=>by
      rcases mem_cons.1 G with h|h
      ·exact .inl (by simp[h])
      ·exact(J.2.2.1 q h).imp (λh=>by simp[h]) id)
     have bt:=J.2.1.size;have bZ:=P.size
     have ba:∀q∈gh e3,q∈gh S \/ Z0.heap.size<=q:=λq G=>by
      rcases a9 q G with h|h
      ·exact J.2.2.1 q h
      ·exact .inr qo
     have bg:∀m,(gM e3 m).length<=10*n+(i2+1):=λm=>by
      rw[bf];split
      ·rename_i bj
       rw[gu];have:=J.2.2.2 d.n;simp;omega
      ·have:=J.2.2.2 m;omega
     have aa:=Hd (An br (An bd (An ba bg)));clear br bd ba bg aF aE al f4 bh bf a9 ae X ah bo bk a7 n1 n2 P f2 HSS bX bt bZ
     go_wp2
     go_roundw
     case rel=>exact⟨i2+1,e3,qo,by go_num,aa.1,aa.2.1,aa.2.2.1,aa.2.2.2⟩
     case measure=>simp[intOf];omega
    ·obtain rfl:i2=Y:=qo
     go_wp2
     go_ret
     have cm:NoT xW Y4 (E::gh ew):=ai.1.noS.mem (by intro k l;rcases mem_cons.1 l with h|h <;> simp[VB,h]);have cn:NoT xW Z0 (D::gh S):=F.1.noS.mem (by intro k l;rcases mem_cons.1 l with h|h <;> simp[VB,h]);have bR:Fr (VB b E D A O ew S) w wr:=F.2.2.2.2.trans J.2.1 (λk l=>.inl (by rcases mem_cons.1 l with h|h <;> simp[VB,h]));have dr:=ai.2.2.1.size;have bE:=F.2.2.2.2.size;have ds:=ca.size;have aq:=ai.2.2.2.2.2.1;have ar:=ai.2.2.2.2.1;have da:zs.map AX.a=Q.map AX.a++[x.a]:=by rw[ar,map_append];rfl
     have c4:∀m,gM M m=oT (zs.map AX.a) m:=λm=>by
      rw[F.2.2.2.1,da];unfold oT;rw[pM,length_map,t.2.1,Nat.zero_add,take_of_length_le (by rw[t.2.2.2.2.2.2.1];exact fW _)]
     refine⟨rfl,VB b E D A' K2 M V,⟨x.a,aX,yA,yc,yB,yd⟩,rfl,⟨pb,p2,E,D,A',c',K2,bG,bF,bH,M,V,b6,?_,rfl⟩,bR,λk l=>?_⟩
     ·rw[<-ar]
      refine⟨J.1,by rw[aq];exact aD.2.1,λy hy=>?_,I.base.frT bR I.s.noS,(ai.2.2.2.2.2.2.1.frT F.2.1 cm).frT J.2.1 cn,?_,c4,λm=>?_,λm=>?_,?_⟩
      ·rw[ar]at hy
       rcases mem_append.1 hy with hy|hy
       ·exact(I.xok y hy).frT bR I.s.noS
       ·rw[ip]at hy
        rw[hy];exact(ai.2.2.2.1.frT F.2.1 cm).frT J.2.1 cn
      ·have L:=a3.2.1
       have C:=I.nl;rw[t.2.1]at C;rw[aq];omega
      ·rw[F.2.2.2.1,gu,aq]
       have L:=I.wl m;rw[I.wr,t.2.1]at L
       have C:(i8 n m (x.a.w.take j)).length<=j:=by
        unfold i8;rw[length_map];have:=length_filter_le (λc=>decide (CH.n c=m)) (x.a.w.take j);rw[length_take]at this;omega
       omega
      ·have L:=J.2.2.2 m
       rw[aq];omega
      ·rw[ar]
       exact I.run.snoc t.2.2.2.1 ⟨t.2.2.1,t.2.2.2.2.1,HL.1,HL.2⟩ (by rw[t.2.1];exact db)
     ·simp only[VB,mem_cons,mem_append]at l ⊢
      rcases l with h|h|h|h|h|h|h
      ·exact .inl (by simp[h])
      ·exact .inl (by simp[h])
      ·exact .inl (by simp[h])
      ·exact(ai.2.2.2.2.2.2.2 k h).imp (λh=>by simp[h]) id
      ·exact(aD.2.2.2 k h).imp (λh=>by simp[h]) (λh=>by omega)
      ·exact(F.2.2.1 k h).imp (λh=>by simp[h]) (λh=>by omega)
      ·exact(J.2.2.1 k h).imp (λh=>by simp[h]) (λh=>by omega)
end Go.Proofs.YtlpmiimgacfmkaaGreatDoor
