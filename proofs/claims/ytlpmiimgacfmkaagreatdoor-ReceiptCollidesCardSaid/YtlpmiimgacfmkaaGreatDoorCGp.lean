/- Part of the proof. -/
import Derived.Test.YtlpmiimgacfmkaaGreatDoorCGl
set_option linter.all false
set_option maxHeartbeats 4000000
set_option maxRecDepth 100000
namespace Go.Proofs.YtlpmiimgacfmkaaGreatDoor
open Go.Proofs.Tryz List
open Go.RowKit
def Dx(x:AX):Nm:=gZ (1::gv x.a)
def qN(xs:List AX)(a:AG):Bool:=l6 a && (match xs.getLast? with|none=>true|some y=>decide (0<pL a.k y.a.k))
structure Run(xs:List AX):Prop where
 wf:∀x∈xs,l6 x.a=true/\x.a.fit/\x.a.r.length<=10/\x.a.w.length<=10
 inc:∀i x y,xs[i]?=some x->xs[i+1]?=some y->0<pL y.a.k x.a.k
 len:xs.length<=12
structure HGis(w:World)(b pb pl bt:Nat)(A:Option Addr)(c:Nat)(F:List Nat)(xs:List AX)(ns:List ON)(ds:List Nm)(kvs:List (Value × Value)):Prop where
 box:BoxN w b 136 #[.pointer (some ⟨pb,0,none⟩),.slice A xs.length c,.slice none 0 0,.pointer (some ⟨pl,0,none⟩),.pointer (some ⟨bt,0,none⟩)]
 own:Own w 91 6 A xs.length c (xs.flatMap AX.cs)
 xok:∀x∈xs,x.ok w
 base:SG w pb []
 st:SG w pl ns
 nl:ns.length<=10*xs.length
 tree:TreeM w bt ds kvs F
 parts:mY ds kvs
 keys:lA kvs 0 ds.length
 ds:ds=leaf0::xs.map Dx
 run:Run xs
def HG(w:World)(b:Nat)(xs:List AX)(M:List Nat):Prop:=∃pb pl bt A c F ns ds kvs,HGis w b pb pl bt A c F xs ns ds kvs/\M=b::(eX A++F)
def TreeM.noT{w:World}{b:Nat}{ds:List Nm}{kvs:List (Value × Value)}{F:List Nat}{ts:List TypeId}(h:TreeM w b ds kvs F)(a:237 ∉ ts)(d:57 ∉ ts):NoT ts w F:=by
 obtain⟨A,c,r,h,rfl⟩:=h;exact((NoT.box h.box a).app ((NoT.own h.own d).app (NoT.map (h.ms r rfl).1))).mem qs
section
variable {w w':World} {b pb pl bt c:Nat} {A:Option Addr} {F:List Nat} {xs:List AX} {ns:List ON} {ds:List Nm} {kvs:List (Value × Value)} {M S:List Nat}
def HGis.noT(h:HGis w b pb pl bt A c F xs ns ds kvs):NoT xW w (b::(eX A++F)) :=
 ((NoT.box h.box qd).app ((NoT.own h.own qd).app (h.tree.noT qd qd))).mem qs
def HGis.fr0(h:HGis w b pb pl bt A c F xs ns ds kvs)(a:Fr [] w w'):HGis w' b pb pl bt A c F xs ns ds kvs :=
 ⟨h.box.fr a qs,h.own.fr a qs,λx d=>(h.xok x d).fr0 a,h.base.fr0 a,h.st.fr0 a,h.nl,h.tree.fr a qs,h.parts,h.keys,h.ds,h.run⟩
def HG.fr0(h:HG w b xs M)(a:Fr [] w w'):HG w' b xs M:=by
 obtain⟨pb,pl,bt,A,c,F,ns,ds,kvs,h,rfl⟩:=h;exact⟨pb,pl,bt,A,c,F,ns,ds,kvs,h.fr0 a,rfl⟩
def HG.lt(h:HG w b xs M):∀k∈M,k<w.heap.size:=by
 obtain⟨pb,pl,bt,A,c,F,ns,ds,kvs,h,rfl⟩:=h;intro k a
 rcases mem_cons.1 a with rfl|a
 ·exact h.box.lt
 ·rcases mem_append.1 a with a|a
  ·exact h.own.lt k a
  ·exact h.tree.lt k a
def HGis.nb(h:HGis w b pb pl bt A c F xs ns ds kvs):b ∉ eX A:=λa=>by
 have:=NoT.own (ts:=[136]) h.own qd b a _ _ _ h.box;simp at this
def HGis.nF(h:HGis w b pb pl bt A c F xs ns ds kvs):b ∉ F:=λa=>by
 have:=h.tree.noT (ts:=[136]) qd qd b a _ _ _ h.box;simp at this
def HGis.dj(h:HGis w b pb pl bt A c F xs ns ds kvs):∀k∈eX A,k ∉ F:=λk d f=>by
 rcases h.own.2 with⟨a,_⟩|⟨g,i,j,a,_,e,_⟩
 ·injection a with a;subst a;simp[eX]at d
 ·injection a with a
  subst a;simp only[eX,Option.map_some,Option.toList_some,ip]at d;subst d;have:=h.tree.noT (ts:=[91]) qd qd k f _ _ _ e;simp at this
def HG.len12(h:HG w b xs M):xs.length<=12:=by
 obtain⟨pb,pl,bt,A,c,F,ns,ds,kvs,h,rfl⟩:=h;exact h.run.len
end
def GA(b:Nat)(xs:List AX)(M:List Nat)(w:World)(h:HG w b xs M):Calls prog 19 #[.pointer (some ⟨b,0,none⟩)] w λe w'=>e=.returned (.int .i64 (xs.length:Int))/\w=w':=by
 obtain⟨pb,pl,bt,A,c,F,ns,ds,kvs,h,rfl⟩:=h;have⟨d,g⟩:=h.box.m2;have a:=Hd (kC b pb w d)
 go_enter func19,ntmps19
 go_wp2_with ((go_at_call 59;(with_reducible refine a.out.mono ?_);rintro e f ⟨rfl,rfl⟩))
 go_ret
 exact⟨rfl,rfl⟩
def G4(b:Nat)(xs:List AX)(M:List Nat)(w:World)(h:HG w b xs M):Calls prog 43 #[.pointer (some ⟨b,0,none⟩)] w λe w'=>∃p,e=.returned (.pointer (some ⟨p,0,none⟩))/\SG w p []/\w=w':=by
 obtain⟨pb,pl,bt,A,c,F,ns,ds,kvs,h,rfl⟩:=h;have f:=h.box.k0;have d:=Hd (kC b pb w f);have a:=Hd h.base
 go_enter func43,ntmps43
 go_wp2_with ((go_at_call 59;(with_reducible refine d.out.mono ?_);rintro e g ⟨rfl,rfl⟩))
 go_ret
 exact⟨pb,rfl,a.out,rfl⟩
def wD(a:AG)(j:ByteArray)(A B:Option Addr)(c d k p:Nat)(w:World)(g:∀W,Fr [] w W->Calls prog 153 #[.pointer (some ⟨p,0,none⟩),.slice B a.w.length d] W (l8 W k)):
 Calls prog 92 #[a.val j A c B d,.pointer (some ⟨p,0,none⟩)] w (l8 w k):=by
 unfold AG.val;have⟨v,h,u,i,f⟩:=ir w #[.int .i64 a.k.rnd,.int .i64 a.k.phase,.int .i64 a.k.idx,.string j,.slice A a.r.length c,.slice B a.w.length d] 91 w.heap.size;have x:=i.k5;have l:=Hd (g v f);have o:=Hd h;have m:=Hd f;clear h i f g u
 go_enter func92,ntmps92
 go_upto_region 1 with fail
 rw[o.out]
 go_wp2_with ((go_at_call 153;(with_reducible refine l.out.mono ?_);rintro e w2 ⟨p2,ns,rfl,t,s,q⟩;have n:=Hd (m.then q)))
 go_ret2
 exact⟨p2,ns,rfl,t,s,n.out⟩
def gY{k:KY}(a:j9 k=0):gF k.lin=true/\k.lin.length<=72:=by
 have b:k.lin=[] \/ gF k.lin=true:=by
  unfold j9 at a;split at a
  ·simp at a
  split at a
  ·simp at a
  split at a
  ·simp at a
  split at a
  ·split at a
   ·simp at a
   ·rename_i h;simp at h;exact .inl h
  ·split at a
   ·simp at a
   ·rename_i h;simp at h;exact .inr h.2
 have c:gF k.lin=true:=by
  rcases b with b|b
  ·rw[b];decide
  ·exact b
 exact⟨c,iw c⟩
def kh{a:AG}(h:l6 a=true):j9 a.k=0:=by
 unfold l6 at h;simp only[Bool.and_eq_true,decide_eq_true_eq]at h;exact h.1
def gr{a:AG}(h:l6 a=true):jp none a.r=true/\jp none a.w=true:=by
 unfold l6 at h;simp only[Bool.and_eq_true]at h;exact h.2
def tX{a:AG}(h:l6 a=true)(e:a.fit)(l:a.r.length<=10)(n:a.w.length<=10):(gv a).length<=2000000:=by
 have⟨c,d⟩:=gr h;have o:=ov c e.rl;have l2:=ov d e.wl;have⟨m,j⟩:=gY (kh h);have b:=kh h
 have i:(0<=a.k.rnd/\a.k.rnd<=9223372036854775807)/\(0<=a.k.phase/\a.k.phase<=9223372036854775807)/\(0<=a.k.idx/\a.k.idx<=9223372036854775807):=by
  unfold j9 at b;split at b
  ·simp at b
  split at b
  ·simp at b
  split at b
  ·simp at b
  omega
 unfold gv lJ;have c:=fJ (u:=a.k.rnd.toNat) qo;have d:=fJ (u:=a.k.phase.toNat) qo;have f:=fJ (u:=a.k.idx.toNat) qo;have g:=iG (s:=a.k.lin) qo;simp only[gu];omega
def Run.snoc{xs:List AX}{y:AX}(h:Run xs)(d:qN xs y.a=true)(f:l6 y.a=true/\y.a.fit/\y.a.r.length<=10/\y.a.w.length<=10)(j:xs.length<=11):Run (xs++[y]):=by
 refine⟨λx b=>?_,λi x z b c=>?_,by rw[gu];simp;omega⟩
 ·rcases mem_append.1 b with b|b
  ·exact h.wf x b
  ·rw[ip]at b;rw[b];exact f
 ·by_cases g:i+1<xs.length
  ·rw[List.getElem?_append_left qo]at b c
   exact h.inc i x z b c
  ·have e:i+1=xs.length:=by
    have:=(gV.1 c).1;rw[gu]at this;simp at this;omega
   rw[List.getElem?_append_left qo]at b;rw[List.getElem?_append_right qo,e,Nat.sub_self,List.getElem?_cons_zero]at c
   injection c with c
   subst c;unfold qN at d;rw[List.getLast?_eq_getElem?,show xs.length - 1=i by omega,b]at d;simp only[Bool.and_eq_true,decide_eq_true_eq]at d;exact d.2
def G5(xs:List AX)(a:AG)(M:List Nat)(b:Nat)(w:World)(e:Ending)(w':World):Prop :=
 ∃q:Int,e=.returned (.int .i64 q)/\((qN xs a=false/\q≠0/\Fr [] w w') \/ (qN xs a=true/\q=0/\∃c y,y.a=a/\HG w' b (xs++[y]) c/\Fr M w w'/\∀k∈c,k∈M \/ w.heap.size<=k))
def tY(b:Nat)(xs:List AX)(aw:List Nat)(a:AG)(D:ByteArray)(E C:Option Addr)(I H:Nat)(w:World)(h:HG w b xs aw)(ae:Ok w)(aH:∀k∈aw,6<=k)(ar:fg a.k.lin=.string D)(hf:a.fit)(hr:a.r.length<=10)(hw:a.w.length<=10)(bU:xs.length<=11)
 (G:Kept aw w λW=>Chs W E a.r/\Chs W C a.w):Calls prog 34 #[.pointer (some ⟨b,0,none⟩),a.val D E I C H] w (G5 xs a aw b w):=by
 obtain⟨pb,pl,bt,A,c,F,ns,ax,b0,h,rfl⟩:=h;have⟨ti,aJ⟩:=eR (a.k.rnd);have⟨Z,aI⟩:=eR (a.k.phase);have⟨Y,aG⟩:=eR (a.k.idx);have⟨nr,aV⟩:=eR (a.r.length);have⟨nw,aW⟩:=eR (a.w.length);have⟨n,ak⟩:=eR (xs.length);have al:a.val D E I C H=.agg #[ti,Z,Y,D,.slice E nr I,.slice C nw H]:=by unfold AG.val;rw[aJ,aI,aG,aV,aW]
 rw[al];have aK:=Hd (An aJ (An aI aG));have⟨t,aY,aZ,n1,J⟩:=ir w #[ti,Z,Y,D,.slice E nr I,.slice C nw H] 91 w.heap.size
 have S:∀W,Fr [] t W->(W.cell? ⟨b,0,none⟩=some (.pointer pb)/\W.cell? ⟨b,1,none⟩=some (.slice A n c)/\W.cell? ⟨b,3,none⟩=some (.pointer pl)/\W.cell? ⟨b,4,none⟩=some (.pointer bt)) /\
  W.cell? ⟨w.heap.size,0,none⟩=some ti/\W.cell? ⟨w.heap.size,1,none⟩=some Z/\W.cell? ⟨w.heap.size,2,none⟩=some Y/\W.cell? ⟨w.heap.size,3,none⟩=some D/\W.cell? ⟨w.heap.size,4,none⟩=some (.slice E nr I)/\W.cell? ⟨w.heap.size,5,none⟩=some (.slice C nw H):=λW hW=>by
  have N:=h.box.fr (J.then hW) qs;rw[ak]at N;have q:=n1.fr hW qs;exact⟨⟨N.c 0,N.c 1,N.c 3,N.c 4⟩,q.c 0,q.c 1,q.c 2,q.c 3,q.c 4,q.c 5⟩
 have aN:∀W,Fr [] t W->Calls prog 59 #[.pointer b] W λe w'=>e=.returned (.bool false)/\W=w':=λW hW=>kC b pb W (S W hW).1.1;have HN:=Hd aN;have a9:=Hd aY;have aa:=Hd J;have HSS:=Hd S;have a6:=Hd n1;have b4:decide ((65536:Int)<=(n:Int))=false:=by simp;omega
 cases X:l6 a with
 | false =>
  have U:∀W,Fr [] t W->Calls prog 60 #[a.val D E I C H] W (fi W (.tuple #[S0,(3:Int)])):=λW hW=>uY a D E C I H W (ae.fr0 (J.then hW)) ar (G.fr0 (J.then hW)).now.1 (G.fr0 (J.then hW)).now.2 hf X;rw[al]at U;have HE:=Hd U;have V:qN xs a=false:=by unfold qN;rw[X];rfl
  have ab:=Hd V;clear G h S U aY J n1 V al ae aH aN X aZ ar hf aJ aI aG aV aW ak
  go_enter func34,ntmps34
  go_upto_region 1 with fail
  rw[a9.out];have⟨⟨x0,x1,x3,x4⟩,y0,y1,y2,y3,y4,y5⟩:=HSS.out t (Fq [] t)
  go_wp2_with (first
   | (go_at_call 59;(with_reducible refine(HN.out _ (Fq [] t)).mono ?_);rintro e w' ⟨rfl,rfl⟩)
   | (go_at_call 60;(with_reducible refine(HE.out _ (Fq [] t)).mono ?_);rintro e w2 ⟨rfl,aj⟩;have bB:=Hd aj;clear aj))
  go_ret
  exact⟨3,rfl,.inl ⟨ab.out,qd,aa.then bB.out⟩⟩
 | true =>
  have U:∀W,Fr [] t W->Calls prog 60 #[a.val D E I C H] W (fi W (.tuple #[fg (gv a),L0])):=λW hW=>pY a D E C I H W (ae.fr0 (J.then hW)) ar (G.fr0 (J.then hW)).now.1 (G.fr0 (J.then hW)).now.2 hf X;have bQ:=tX X hf hr hw;have bp:=gr X;have hG:∀x∈a.w,x.fit/\j6 x=true:=λx G=>⟨hf.w x G,gG bp.2 x G⟩;have bW:=h.nl;have aL:∀W,Fr [] t W->Calls prog 92 #[a.val D E I C H,.pointer pl] W (l8 W (ns.length+a.w.length)):=λW hW=>wD a D E C I H _ pl W λW2 aR=>vc pl ns a.w C H W2 (ae.fr0 ((J.then hW).then aR)) (h.st.fr0 ((J.then hW).then aR)) (G.fr0 ((J.then hW).then aR)).now.2 hG qo;have aA:∀W,Fr [] t W->Calls prog 93 #[fg (gv a)] W (fN W (gZ (1::gv a))):=λW hW=>tU (gv a) W (ae.fr0 (J.then hW)) qo;have bP:ax.length=n+1:=by rw[h.ds,length_cons,length_map,ak]
  have aQ:∀W,Fr [] t W->Calls prog 89 #[.pointer bt,fo (gZ (1::gv a))] W (zX bt (ax++[gZ (1::gv a)]) F W):=λW hW=>DT bt ax (gZ (1::gv a)) b0 F W (h.tree.fr (J.then hW) qs) h.parts h.keys (ae.fr0 (J.then hW)) (λk l=>aH k (by simp[l])) (fy _) qo qo;rw[al]at U aL;have⟨d,hd⟩:=eR (gZ (1::gv a));have⟨tx,bw⟩:=eR (fg (gv a));have HD:=Hd hd;rw[bw]at U aA;rw[hd]at aA aQ;have bo:xs.getLast?=xs[n - 1]?:=by rw[List.getLast?_eq_getElem?,ak]
  have HE:=Hd U;have HA:=Hd aL;have HL:=Hd aA;have HT:=Hd aQ;have HX:=Hd G;have z:=Hd h;have b3:=Hd aH;have B:=Hd (An al (An ak (An X (An ar (An hf (An hr (An hw bo)))))));have bV:n<=11:=qo
  clear G h S U aL aA aQ aY J n1 al ae aH aN X aZ ar hf aJ aI aG aV aW ak hd bw bQ bp hG bW bP bo hr hw bU
  go_enter func34,ntmps34
  go_upto_region 1 with fail
  rw[a9.out];have⟨⟨x0,x1,x3,x4⟩,y0,y1,y2,y3,y4,y5⟩:=HSS.out t (Fq [] t)
  go_upto_region 9 with(first
   | (go_at_call 59;(with_reducible refine(HN.out _ (Fq [] t)).mono ?_);rintro e w' ⟨rfl,rfl⟩)
   | (go_at_call 60;(with_reducible refine(HE.out _ (Fq [] t)).mono ?_);rintro e w2 ⟨rfl,aj⟩;clear x0 x1 x3 x4 y0 y1 y2 y3 y4 y5;have⟨⟨x0,x1,x3,x4⟩,y0,y1,y2,y3,y4,y5⟩:=HSS.out w2 aj))
  clear x0 x1 x3 x4 y0 y1 y2 y3 y4 y5;have bO:∃T,T=(decide (0<n) && !(qN xs a)):=⟨_,rfl⟩;obtain⟨T,P⟩:=bO
  go_cut [47]from 31 to 48 (λs W=>s=.bool T/\Fr [] t W)
  case first =>
   cases n with
   | zero =>
    refine eW (λW=>Fr [] t W) qk qk (aj.drew) ?_
    repeat(
     first
     | go_big_quiet_skip
     | (go_big_quiet_want;first|(go_big_quiet_op;go_big_quiet_on)|(apply Exists.intro;refine⟨λW hW=>?_,?_⟩;(· have⟨⟨x0,x1,x3,x4⟩,y0,y1,y2,y3,y4,y5⟩:=HSS.out W hW;go_simp;first|done|with_reducible exact rfl|with_reducible exact⟨rfl,rfl⟩ );simp only[qq];go_big_quiet_on))
     )
    refine wpQuiet_nil ?_;intro W3 ad
    go_wp2
    go_meet
    exact⟨by rw[P];rfl,ad⟩
   | succ m =>
    have aX:=(z.own.rd:Rd w 6 A xs.length (xs.flatMap AX.cs));rw[B.2.1]at aX;obtain⟨g,off,rfl,bS,bi⟩:=fK lx aX qo;obtain⟨y,hy⟩:∃y,xs[m]?=some y:=⟨_,gg (by rw[B.2.1];omega)⟩;have ai:=bi m y hy;unfold AX.cs at ai;have aq:∀o,(W:World)->Fr [] t W->W.cell? ⟨g,o,none⟩=w.cell? ⟨g,o,none⟩:=λo W hW=>(aa.then hW).cell (p:=⟨g,o,none⟩) bS qs;have bz:=z.run.wf y (gH hy);have au:=z.xok y (gH hy);have⟨r,hr⟩:=eR (pL a.k y.a.k)
    have bN:T=decide (r<=0):=by
     rw[P];unfold qN;rw[B.2.2.1,B.2.2.2.2.2.2.2,Nat.add_sub_cancel,hy];simp only[Bool.true_and,hr]
     by_cases h0:r<=0
     ·have:¬ 0<r:=qo
      simp[h0,this]
     ·have:0<r:=qo
      simp[h0,this]
    have be:∀W,Calls prog 91 #[.agg #[ti,Z,Y,D],.agg #[y.a.k.rnd,y.a.k.phase,y.a.k.idx,y.sl]] W (jg W r):=λW=>by
     have⟨v1,v2⟩:=gY (kh B.2.2.1);have⟨v3,v4⟩:=gY (kh bz.1);have h:=lI a.k y.a.k W v1 v3 qo qo;rw[hr]at h;unfold lU at h;rw[aK.1,aK.2.1,aK.2.2,B.2.2.2.1,au.s]at h;exact h
    have bA:=Hd be;have bE:=HSS;clear HSS
    have HSS:=Hd (λ(W:World) (hW:Fr [] t W)=>An (bE.out W hW) (show W.cell? ⟨g,off+m*6,none⟩=some y.a.k.rnd/\W.cell? ⟨g,off+m*6+1,none⟩=some y.a.k.phase/\W.cell? ⟨g,off+m*6+2,none⟩=some y.a.k.idx/\W.cell? ⟨g,off+m*6+3,none⟩=some y.sl from
     ⟨(aq _ W hW).trans (ai 0 qo),(aq _ W hW).trans (ai 1 qo),(aq _ W hW).trans (ai 2 qo),(aq _ W hW).trans (ai 3 qo)⟩))
    have b9:IntKind.i64.wrap (m:Int)=(m:Int):=by simp only[IntKind.wrap_i64];omega
    have b8:(m:Int)<(m:Int)+1:=qo
    clear ai bi aX aq bz au hr be P;refine eW (λW=>Fr [] t W) qk qk (aj.drew) ?_
    repeat(
     first
     | go_big_quiet_skip
     | (go_big_quiet_want;first|(go_big_quiet_op;go_big_quiet_on)|(apply Exists.intro;refine⟨λW hW=>?_,?_⟩;(· have⟨⟨⟨x0,x1,x3,x4⟩,y0,y1,y2,y3,y4,y5⟩,cd,z1,z2,z3⟩:=HSS.out W hW;go_simp;first|done|with_reducible exact rfl|with_reducible exact⟨rfl,rfl⟩|((go_at_call 91;(with_reducible refine(bA.out W).mono ?_);rintro e w' ⟨rfl,h⟩;exact⟨rfl,hW.then h⟩)));simp only[qq];go_big_quiet_on))
     )
    refine wpQuiet_nil ?_;intro W3 ad
    go_wp2
    go_meet
    exact⟨by rw[bN],ad⟩
  case rest =>
   obtain⟨rfl,ad⟩:=hcut
   cases T with
   | true =>
    have V:qN xs a=false:=by
     cases hq:qN xs a with
     | false=>rfl
     | true=>rw[hq]at P;simp at P
    have ab:=Hd (An V ad);clear ad P V
    go_wp2
    go_ret
    exact⟨32,rfl,.inl ⟨ab.1,qd,aa.then ab.2⟩⟩
   | false =>
    have V:qN xs a=true:=by
     cases hq:qN xs a with
     | true=>rfl
     | false =>
      rw[hq]at P;have h0:n=0:=by simpa using P
      have N:=B.2.1;rw[h0]at N;have q:=eq_nil_of_length_eq_zero N;unfold qN at hq;rw[B.2.2.1,q]at hq;simp at hq
    have ab:=Hd V;clear P V
    go_upto_region 11 with fail
    have K:=ad.drew;refine eU (λW:World=>Fr [] t W) 10 qk ?_ qd
    show fc 0 ..
    iterate 5 (refine gJ rfl ?_;try simp only[qq])
    refine hO (i:=5) rfl λO L=>?_;go_simp
    go_at_call 92
    (with_reducible refine(HA.out _ K).mono ?_);rintro e w4 ⟨p2,b1,rfl,bu,bq,bj⟩;have bd:=K.then bj;refine L _ _ bd ?_;clear L O K bj
    try simp only[qq]
    show fc 6 ..
    iterate 4 (refine gJ rfl ?_;try simp only[qq])
    refine eV ⟨qk,?_⟩;simp only[qG,qH];have a8:=Hd (An bu bq);clear bu bq
    go_upto_region 14 with fail
    have K:=bd.drew;refine eU (λW:World=>Fr [] t W) 6 qk ?_ qd
    show fc 0 ..
    iterate 5 (refine gJ rfl ?_;try simp only[qq])
    refine hO (i:=5) rfl λO L=>?_;go_simp
    go_at_call 93
    (with_reducible refine(HL.out _ K).mono ?_);rintro e w6 ⟨rfl,aT⟩;have ac:=K.then aT;have bH:=aT.undrew;refine L _ _ ac ?_;clear L O K aT
    try simp only[qq]
    refine eV ⟨qk,?_⟩;simp only[qG,qH]
    go_upto_region 17 with((go_at_call 89;(with_reducible refine(HT.out _ ac).mono ?_);rintro e w5 ⟨rfl,kvs',F',bv,bs,bn,bk,bf⟩;have am:=Hd (An bv (An bf (An bs bn)));have R:=Hd bk;clear bv bf bk bs bn))
    have bJ:=z.tree.lt;have bc:=z.own.lt;have b5:=z.box.lt;have bM:w.heap.size ∉ F:=λQ=>by have:=bJ _ Q;omega
    have bL:w.heap.size ∉ eX A:=λQ=>by have:=bc _ Q;omega
    have aE:=aa.then ac;have ay:=(z.box.fr aE qs).fr R.out z.nF;have aO:=(z.own.fr aE qs).fr R.out z.dj;rw[B.2.1]at ay aO;have aP:=(a6.fr ac qs).fr R.out bM;have az:Fr (b::(eX A++F)) w w5:=(aE.mono qs).trans R.out (by intro k l;exact .inl (by simp[l]))
    have S:∀W,Fr [] w5 W->W.cell? ⟨b,1,none⟩=some (.slice A n c)/\W.cell? ⟨w.heap.size,0,none⟩=some ti/\W.cell? ⟨w.heap.size,1,none⟩=some Z/\W.cell? ⟨w.heap.size,2,none⟩=some Y/\W.cell? ⟨w.heap.size,3,none⟩=some D/\W.cell? ⟨w.heap.size,4,none⟩=some (.slice E nr I)/\W.cell? ⟨w.heap.size,5,none⟩=some (.slice C nw H):=λW hW=>by
     have N:=ay.fr hW qs;have q:=aP.fr hW qs;exact⟨N.c 1,q.c 0,q.c 1,q.c 2,q.c 3,q.c 4,q.c 5⟩
    have aM:∀W,Fr [] w5 W->Calls prog 94 #[a.val D E I C H] W (zO W a):=λW hW=>rY (.inl rfl) a D E C I H W B.2.2.2.1 (HX.out W (az.trans hW qs)).1 (HX.out W (az.trans hW qs)).2 B.2.2.2.2.1;rw[B.1]at aM;have a4:=Hd aM;clear HSS;have HSS:=Hd (λ(W:World) (hW:W.cell? ⟨b,1,none⟩=some (.slice A n c)/\W.cell? ⟨w.heap.size,0,none⟩=some ti/\W.cell? ⟨w.heap.size,1,none⟩=some Z/\W.cell? ⟨w.heap.size,2,none⟩=some Y/\W.cell? ⟨w.heap.size,3,none⟩=some D/\W.cell? ⟨w.heap.size,4,none⟩=some (.slice E nr I)/\W.cell? ⟨w.heap.size,5,none⟩=some (.slice C nw H))=>hW);have K:=S _ (Fq [] w5).drew;have av:=Hd S;have ag:=Hd ay;have a5:=Hd aO;have a7:=Hd aP;have b2:=Hd az;clear S aM ay aO aP az aE a6 HX;refine eU (λW:World=>W.cell? ⟨b,1,none⟩=some (.slice A n c)/\W.cell? ⟨w.heap.size,0,none⟩=some ti/\W.cell? ⟨w.heap.size,1,none⟩=some Z/\W.cell? ⟨w.heap.size,2,none⟩=some Y/\W.cell? ⟨w.heap.size,3,none⟩=some D/\W.cell? ⟨w.heap.size,4,none⟩=some (.slice E nr I)/\W.cell? ⟨w.heap.size,5,none⟩=some (.slice C nw H)) 11 qk ?_ qd
    show fc 0 ..
    iterate 6 (refine gJ rfl ?_;try simp only[qq])
    refine hO (i:=6) rfl λO L=>?_;go_simp
    go_at_call 94
    (with_reducible refine(a4.out _ (Fq [] w5).drew).mono ?_);rintro e X1 ⟨⟨ya,ys,yA,yc,yB,yd⟩,bx,rfl,au,bm⟩
    dsimp only at bx
    subst bx;have an:=bm.undrew;refine L _ _ (av.out _ an) ?_;clear L O K bm;have K:=av.out _ an;unfold AX.v AG.val
    try simp only[qq]
    try dsimp only
    refine hO (i:=7) rfl λO L=>?_;go_simp
    have⟨X2,bh,n2,f2⟩:=kJ X1 #[ya.k.rnd,ya.k.phase,ya.k.idx,ys,.slice yA ya.r.length yc,.slice yB ya.w.length yd] 91;rw[bh];have ao:=an.then f2;refine L _ _ (av.out _ ao) ?_;clear L O K bh
    try simp only[qq]
    refine hO (i:=8) rfl λO L=>?_;obtain⟨ii,bT,bX,bY,bZ⟩:=sd;have bg:=a5.fr ao qs;refine ja (.tmp 74) (.tmp 77) 22 rfl 91 ii _ 6 88 underlying22 bT bX bY bZ rfl qd A n c (xs.flatMap AX.cs) rfl bg ⟨X1.heap.size,0,none⟩ 1 1 (AX.mk ya ys yA yc yB yd).cs rfl rfl (λj u hu=>by rw[fV,n2.c j];simpa [AX.cs]using hu) (by intro u hu;simp only[AX.cs,mem_cons,not_mem_nil,or_false]at hu;rcases hu with rfl|rfl|rfl|rfl|rfl|rfl <;> rfl) (by unfold maxLen;omega) qo ?_;intro A' c' M br aF bb;have ap:=(ag.fr ao qs).fr aF z.nb;have af:=(a7.fr ao qs).fr aF bL;have K:M.cell? ⟨b,1,none⟩=some (.slice A n c)/\M.cell? ⟨w.heap.size,0,none⟩=some ti/\M.cell? ⟨w.heap.size,1,none⟩=some Z/\M.cell? ⟨w.heap.size,2,none⟩=some Y/\M.cell? ⟨w.heap.size,3,none⟩=some D/\M.cell? ⟨w.heap.size,4,none⟩=some (.slice E nr I)/\M.cell? ⟨w.heap.size,5,none⟩=some (.slice C nw H):=⟨ap.c 1,af.c 0,af.c 1,af.c 2,af.c 3,af.c 4,af.c 5⟩;refine L _ _ K ?_;clear L O
    try simp only[qq]
    show fc 9 ..
    iterate 2 (refine gJ rfl ?_;try simp only[qq])
    refine eV ⟨qk,?_⟩;simp only[qG,qH];have bD:=Hd br;have bC:=Hd aF;have a3:=Hd bb;have ah:=Hd (An an f2);have bF:=Hd au;clear br aF bb ao an f2 n2 au af bg a7 ag a5 av a4 K HSS;have e0:=ap.k1;have e1:=ap.f 1
    go_upto_region 18 with fail
    have⟨X4,aB⟩:=eR (M.setCell ⟨b,1,none⟩ (.slice A' (n+1) c'));have aD:BoxN X4 b 136 #[.pointer pb,.slice A' (n+1) c',gz,.pointer pl,.pointer bt]:=by rw[<-aB];exact ap.setAt 1 _
    have f4:Fr [b] M X4:=by rw[<-aB];exact(Fq [b] M).st _
    try rw[aB]
    clear e0 e1 aB ap;have e0:=aD.k3;have e1:=aD.f 3
    go_upto_region 19 with fail
    have⟨X5,aC⟩:=eR (X4.setCell ⟨b,3,none⟩ (.pointer p2));have aS:BoxN X5 b 136 #[.pointer pb,.slice A' (n+1) c',gz,.pointer p2,.pointer bt]:=by rw[<-aC];exact aD.setAt 3 _
    have f5:Fr [b] M X5:=by rw[<-aC];exact f4.st _
    try rw[aC]
    clear e0 e1 aC aD f4;have e0:=aS.k1;have b6:((n:Int)+1) % 16=(n:Int)+1:=qo
    have b7:((n:Int)+1 == 0)=false:=by simp;omega
    have ag:=Hd (An aS f5);clear aS f5
    go_wp2
    go_ret
    have h6:=z.fr0 (aa.then ac);have aZ:=aa.size;have cb:=ac.size;have ca:=(ah.1.then ah.2).size;have cc:=R.size
    have bG:b ∉ eX A':=λQ=>by
     rcases a3.out b Q with h|h
     ·exact z.nb h
     ·omega
    have fX:Fr (b::eX A) X1 X5:=((ah.2.mono qs).trans (bC.mono (T:=b::eX A) (λk l=>.inl (by simp[l]))) (λk l=>.inl l)).trans ag.2 qs;have ba:Fr (b::eX A) w5 X5:=(ah.1.mono qs).then fX;have f6:Fr (b::(eX A++F)) w6 X5:=(R.mono (T:=b::(eX A++F)) (λk l=>.inl (by simp[l]))).trans ba (λk l=>.inl (by rcases mem_cons.1 l with h|h <;> simp[h]));have bR:Fr (b::(eX A++F)) w X5:=((aa.then ac).mono qs).then f6;have bK:NoT xW X1 (b::eX A):=((NoT.box ((h6.box.fr R.out z.nF).fr ah.1 qs) qd).app (NoT.own ((h6.own.fr R.out z.dj).fr ah.1 qs) qd)).mem qs
    have bI:∀k∈b::eX A,k ∉ F':=λk l Q=>by
     rcases am.2.1 k Q with h|h
     ·rcases mem_cons.1 l with rfl|l
      ·exact z.nF h
      ·exact z.dj k l h
     ·rcases mem_cons.1 l with rfl|l
      ·omega
      ·have:=bc k l;omega
    have aU:(xs++[AX.mk ya ys yA yc yB yd]).length=n+1:=by rw[gu,B.2.1];rfl
    refine⟨0,rfl,.inr ⟨ab.out,rfl,b::(eX A'++F'),⟨ya,ys,yA,yc,yB,yd⟩,rfl,⟨pb,p2,bt,A',c',F',b1,ax++[d],kvs',⟨?_,?_,?_,h6.base.frT f6 h6.noT,(a8.1.fr0 bH).frT f6 h6.noT,?_,am.1.fr ba (λk l Q=>bI k Q l),am.2.2.1,am.2.2.2,?_,?_⟩,rfl⟩,bR,λk l=>?_⟩⟩
    ·rw[aU];exact ag.1
    ·rw[aU,flatMap_append]
     have:=bD.fr ag.2 (λk l=>by simp only[ip];rintro rfl;exact bG l);simpa using this
    ·intro x G
     rcases mem_append.1 G with G|G
     ·exact(h6.xok x G).frT f6 h6.noT
     ·rw[ip]at G
      rw[G];exact bF.frT fX bK
    ·have N:=a8.2
     have q:=z.nl;have h3:=B.2.2.2.2.2.2.1;rw[B.2.1]at q;rw[aU];omega
    ·rw[z.ds,<-HD.out];simp[Dx]
    ·exact z.run.snoc ab.out ⟨B.2.2.1,B.2.2.2.2.1,B.2.2.2.2.2.1,B.2.2.2.2.2.2.1⟩ (by rw[B.2.1];exact bV)
    ·rcases mem_cons.1 l with h|h
     ·exact .inl (by simp[h])
     ·rcases mem_append.1 h with h|h
      ·rcases a3.out k h with q|q
       ·exact .inl (by simp[q])
       ·exact .inr qo
      ·rcases am.2.1 k h with q|q
       ·exact .inl (by simp[q])
       ·exact .inr qo
def se:∀(f u:Nat),u<128 ^ (f+1)->∀(l:Nm) (M:Nat),(gd u).length<=M+1->gL (gd u++l) M=(gd u).length - 1/\mv (gd u)=u/\(0<u->((gd u++l).getD ((gd u).length - 1) 0).toNat≠0)
 | f,u,c,l,M,b=>by
  by_cases h:u<128
  ·rw[mQ h]
   have a:(UInt8.ofNat u).toNat=u:=by rw[UInt8.toNat_ofNat'];omega
   refine⟨?_,?_,?_⟩
   ·cases M with
    | zero=>rfl
    | succ M=>rw[singleton_append,gL,if_neg (by rw[a];omega)];rfl
   ·rw[mv,mv,a];omega
   ·intro i
    rw[singleton_append,show ([UInt8.ofNat u]:Nm).length - 1=0 from rfl,getD_cons_zero,a];omega
  ·rw[rk h]at b ⊢
   have a:(UInt8.ofNat (u % 128+128)).toNat=u % 128+128:=by rw[UInt8.toNat_ofNat'];omega
   have j:=sU (u / 128)
   cases f with
   | zero=>exact absurd (by simpa using c) h
   | succ f =>
    cases M with
    | zero=>rw[length_cons]at b;omega
    | succ M =>
     have⟨d,e,g⟩:=se f (u / 128) (by rw[Nat.div_lt_iff_lt_mul qo,<-Nat.pow_succ];exact c) l M (by rw[length_cons]at b;omega);refine⟨?_,?_,?_⟩
     ·rw[cons_append,gL,if_pos (by rw[a];omega),d,length_cons];omega
     ·rw[mv,e,a];omega
     ·intro _
      rw[length_cons,cons_append,show (gd (u / 128)).length+1 - 1=((gd (u / 128)).length - 1)+1 by omega,getD_cons_succ];exact g qo
def sf{u:Nat}(h:u<=9223372036854775807)(l:Nm):ft (gd u++l)=(u,(gd u).length,0):=by
 have g:=fJ h;have i:=sU u;have⟨c,d,e⟩:=se 8 u qo l 9 qo;unfold ft
 rw[c,if_neg qo,if_neg (by rw[gu];omega),if_neg (by
  rintro⟨b,f⟩;refine e ?_ f
  rcases Nat.eq_zero_or_pos u with a|a
  ·rw[a,mQ qo]at b
   simp at b
  ·exact a),show (gd u).length - 1+1=(gd u).length by omega,take_left' rfl,d]
def ky{u m:Nat}(a:u<=9223372036854775807)(b:u<=m)(l:Nm)(p:Nat):fe m ⟨gd u++l,p,0⟩=((u:Int),⟨l,p+(gd u).length,0⟩):=by
 unfold fe ji mT;simp only[sf a l];rw[if_neg qs,if_neg qo];simp
def Bi{s:Nm}{m:Nat}(a:s.length<=m)(h:s.length<=16777216)(l:Nm):jV m (iX s++l)=(s,(iX s).length,0):=by
 unfold jV iX;simp only[append_assoc,sf (u:=s.length) qo (s++l)];rw[if_neg qs,if_neg qo,if_neg (by simp only[gu];omega),drop_left' rfl,take_left' rfl,gu]
def ly{s:Nm}{m:Nat}(a:s.length<=m)(h:s.length<=16777216)(l:Nm)(p:Nat):fU m ⟨iX s++l,p,0⟩=(s,⟨l,p+(iX s).length,0⟩):=by
 unfold fU ji;simp only[Bi a h l,ne_eq,not_true,if_false,drop_left']
def wF(b:Bool){s:Nm}{m:Nat}(a:b=true->s.length<=m/\s.length<=16777216)(l:Nm)(p:Nat):(if b=true then fU m ⟨(if b=true then iX s else [])++l,p,0⟩else([],⟨(if b=true then iX s else [])++l,p,0⟩))=((if b=true then s else []),⟨l,p+(if b=true then iX s else []).length,0⟩):=by
 cases b with
 | true=>simp only[if_true];exact ly (a rfl).1 (a rfl).2 l p
 | false=>simp
def zQ(b:Bool){u m:Nat}(a:b=true->u<=m/\u<=9223372036854775807)(l:Nm)(p:Nat):(if b=true then fe m ⟨(if b=true then gd u else [])++l,p,0⟩else((0:Int),⟨(if b=true then gd u else [])++l,p,0⟩))=((if b=true then(u:Int)else 0),⟨l,p+(if b=true then gd u else []).length,0⟩):=by
 cases b with
 | true=>simp only[if_true];exact ky (a rfl).2 (a rfl).1 l p
 | false=>simp
def yC(b:Bool)(l:Nm)(p:Nat):jb ⟨nf b::l,p,0⟩=(b,⟨l,p+1,0⟩):=by
 cases b <;> simp[jb,ji,lP,nf]
def vd{n:ON}(h:eY n=0):∃k:Nat,n.kind=(k:Int)/\1<=k/\k<=20/\kU (us k) n=0:=by
 have b:iR n.kind=true:=by
  unfold eY at h
  by_cases a:iR n.kind=true
  ·exact a
  ·rw[if_neg a]at h
   simp at h
 unfold eY at h;rw[if_pos b]at h;simp only[iR,decide_eq_true_eq]at b;exact⟨n.kind.toNat,qo,qo,qo,h⟩
def mb{u:Usage}{n:ON}(h:kU u n=0):(u.owner=false->n.owner=[])/\(u.number=false->n.number=0)/\(u.index=false->n.index=0)/\(u.text=false->n.text=[]):=by
 unfold kU at h;refine⟨λe=>?_,λe=>?_,λe=>?_,λe=>?_⟩
 ·cases a:Gu u n with
  | true=>rw[a]at h;simp at h
  | false=>simpa [Gu,e,s9]using a
 ·cases a:Gv u n with
  | true=>rw[a]at h;revert h;cases Gu u n <;> simp
  | false=>simpa [Gv,e]using a
 ·cases a:GV u n with
  | true=>rw[a]at h;revert h;cases Gu u n <;> cases Gv u n <;> simp
  | false=>simpa [GV,e]using a
 ·cases a:Ht u n with
  | true=>rw[a]at h;revert h;cases Gu u n <;> cases Gv u n <;> cases GV u n <;> simp
  | false=>simpa [Ht,e,s9]using a
def wG{n:ON}(h:eY n=0):mR (jC n)=(n,0):=by
 have⟨k,o,v,p,c⟩:=vd h;have x:=iw (fI h);have w:=mO (k:=k) qo;have⟨d,f,t⟩:=ju c;have⟨g,i,j,l⟩:=mb c;have r:n.kind.toNat=k:=qo
 have b:∃q,yQ (jC n)=(n,⟨[],q,0⟩):=by
  unfold yQ jC wS;rw[r];simp only[append_assoc];rw[ky (u:=k) qo p];simp only[Int.toNat_natCast];rw[<-append_nil (if(us k).text=true then iX n.text else [])];unfold FC;simp only[];rw[wF (us k).owner (s:=n.owner) (m:=16777216) (λ_=>by omega)];simp only[]
  rw[zQ (us k).number (u:=n.number.toNat) (m:=1073741824) (λe=>by
   have:=d e;simp only[fM,decide_eq_true_eq]at this;omega)]
  simp only[]
  rw[zQ (us k).index (u:=n.index.toNat) (m:=(us k).most.toNat) (λe=>by
   have:=f e;simp only[fM,decide_eq_true_eq]at this;omega)]
  simp only[]
  rw[wF (us k).text (s:=n.text) (m:=32) (λe=>by
   have:=t e;simp only[jG,Bool.and_eq_true,decide_eq_true_eq]at this;omega)]
  refine⟨_,Prod.ext ?_ rfl⟩;obtain⟨z,B,A,y,C⟩:=n;simp only[ON.mk.injEq]at *;refine⟨o.symm,?_,?_,?_,?_⟩
  ·cases a:(us k).owner with
   | true=>rfl
   | false=>exact(g a).symm
  ·cases a:(us k).number with
   | true =>
    have:=d a;simp only[fM,decide_eq_true_eq]at this;simp only[if_true]
    omega
   | false=>exact(i a).symm
  ·cases a:(us k).index with
   | true =>
    have:=f a;simp only[fM,decide_eq_true_eq]at this;simp only[if_true]
    omega
   | false=>exact(j a).symm
  ·cases a:(us k).text with
   | true=>rfl
   | false=>exact(l a).symm
 obtain⟨q,b⟩:=b;unfold mR;rw[b,if_neg (by simp[jD,h])]
def Bj{k:KY}(h:j9 k=0)(l:Nm)(p:Nat):∃q,lR ⟨lJ k++l,p,0⟩=(k,⟨l,q,0⟩):=by
 have⟨_,b⟩:=gY h
 have a:(0<=k.rnd/\k.rnd<=1073741824)/\(0<=k.phase/\k.phase<=2)/\(0<=k.idx/\k.idx<=999999):=by
  unfold j9 at h;split at h
  ·simp at h
  ·split at h
   ·simp at h
   ·split at h
    ·simp at h
    ·omega
 obtain⟨e,d,c,o⟩:=k;simp only at a b;obtain⟨⟨f,g⟩,⟨i,j⟩,m,n⟩:=a;unfold lR lJ;simp only[append_assoc];rw[ky (u:=e.toNat) qo qo];simp only[];rw[ky (u:=d.toNat) qo qo];simp only[];rw[ky (u:=c.toNat) qo qo];simp only[];rw[ly qo qo];refine⟨_,Prod.ext ?_ rfl⟩;simp only[KY.mk.injEq,and_true];omega
def Jt(r:RS)(c:CH)(b:RS):Prop:=∃tn r2 r3,fU 16777216 r=(tn,r2)/\mR tn=(c.n,0)/\jb r2=(c.a,r3)/\fU 65536 r3=(c.v,b)
inductive RdCs:RS->List CH->RS->Prop
 | nil (r:RS):RdCs r [] r
 | cons {r r1 r2:RS} {c:CH} {l:List CH} (h:Jt r c r1) (t:RdCs r1 l r2):RdCs r (c::l) r2
def I8(r:RS)(l:List CH)(a:RS):Prop:=∃r1,fe r.l.length r=((l.length:Int),r1)/\RdCs r1 l a
def Jf(s:Nm)(a:AG):Prop:=∃r1 r2 r3,lR ⟨s,0,0⟩=(a.k,r1)/\I8 r1 a.r r2/\I8 r2 a.w r3/\jD r3=0
def Ff{c:CH}(h:j6 c=true)(l:Nm)(p:Nat):∃q,Jt ⟨l7 c++l,p,0⟩ c ⟨l,q,0⟩:=by
 have⟨a,b⟩:=iT h;have d:=mG a;unfold l7;simp only[append_assoc,cons_append];exact⟨_,jC c.n,_,_,ly qo qo _ _,wG a,yC _ _ _,ly qo qo _ _⟩
def wH:∀(cs:List CH),(∀c∈cs,j6 c=true)->∀(l:Nm) (p:Nat),∃q,RdCs ⟨cs.flatMap l7++l,p,0⟩ cs ⟨l,q,0⟩
 | [],_,l,p=>⟨p,.nil _⟩
 | c::cs,h,l,p=>by
  rw[flatMap_cons,append_assoc];have⟨q,a⟩:=Ff (h c qs) (cs.flatMap l7++l) p;have⟨e,b⟩:=wH cs (λx d=>h x (by simp[d])) l q;exact⟨e,.cons a b⟩
def zR:∀cs:List CH,cs.length<=(cs.flatMap l7).length
 | []=>by simp
 | c::cs=>by
  have a:=zR cs;have b:1<=(l7 c).length:=by unfold l7;rw[gu,length_cons];omega
  rw[flatMap_cons,gu,length_cons];omega
def zS{cs:List CH}(h:jp none cs=true)(c:cs.length<=2000000)(l:Nm)(p:Nat):∃q,I8 ⟨jF cs++l,p,0⟩ cs ⟨l,q,0⟩:=by
 unfold jF;rw[append_assoc];have b:=zR cs;have⟨q,a⟩:=wH cs (gG h) l (p+(gd cs.length).length);exact⟨q,_,ky qo (by simp only[gu];omega) _ _,a⟩
def Dy{a:AG}(h:l6 a=true)(g:a.r.length<=2000000)(i:a.w.length<=2000000):Jf (gv a) a:=by
 have⟨e,f⟩:=gr h;unfold gv;rw[append_assoc];have⟨j,c⟩:=Bj (kh h) (jF a.r++jF a.w) 0;have⟨k,d⟩:=zS e g (jF a.w) j;have⟨l,b⟩:=zS f i [] k;rw[append_nil]at b;exact⟨_,_,_,c,d,b,by simp[jD]⟩
def ve(w:World)(a d b:Nat)(l:List CH)(f:RS)(e:Ending)(w':World):Prop :=
 ∃A c,e=.returned (.tuple #[.slice A l.length c,.bool true])/\RdS a d b f w'/\Fr [b] w w'/\Own w' 95 7 A l.length c (l.flatMap CH.cs)/\∀k∈eX A,w.heap.size<=k
def sh(r:RS):Option (CH × RS) :=
 if(mR (fU 16777216 r).1).2=0 then
  some (⟨(mR (fU 16777216 r).1).1,(fU 65536 (jb (fU 16777216 r).2).2).1,(jb (fU 16777216 r).2).1⟩,(fU 65536 (jb (fU 16777216 r).2).2).2)
 else none
def jA:Nat->RS->Option (List CH × RS)
 | 0,r=>some ([],r)
 | n+1,r=>(sh r).bind λx=>(jA n x.2).map λy=>(x.1::y.1,y.2)
def qO(r:RS):Option (List CH × RS):=jA (fe r.l.length r).1.toNat (fe r.l.length r).2
def tZ:∀ {n:Nat} {r:RS} {l:List CH} {q:RS},jA n r=some (l,q)->l.length=n
 | 0,r,l,q,h=>by rw[jA]at h;injection h with h;injection h with a b;rw[<-a];rfl
 | n+1,r,l,q,h=>by
  rw[jA]at h;have⟨x,d,h⟩:=Option.bind_eq_some_iff.1 h;have⟨y,c,h⟩:=Option.map_eq_some_iff.1 h
  injection h with a b
  rw[<-a,length_cons,tZ (l:=y.1) (q:=y.2) c]
def wI{n j:Nat}{q:RS}{b:List CH}{o:Option (List CH × RS)}(d:j<n)(h:o=(jA (n - j) q).map λp=>(b++p.1,p.2)):
 (sh q=none/\o=none) \/ ∃x c,sh q=some (x,c)/\o=(jA (n - (j+1)) c).map λp=>((b++[x])++p.1,p.2):=by
 rw[show n - j=(n - (j+1))+1 by omega,jA]at h
 cases a:sh q with
 | none=>rw[a]at h;exact .inl ⟨rfl,h⟩
 | some x =>
  rw[a]at h;refine .inr ⟨x.1,x.2,rfl,?_⟩;rw[h,Option.bind_some,Option.map_map]
  congr 1
  funext p
  simp
def Ix(w:World)(a c b:Nat)(o:Option (List CH × RS))(e:Ending)(w':World):Prop:=match o with
 | none=>e=.returned (.tuple #[.slice none 0 0,.bool false])/\Fr [b] w w'
 | some (l,d)=>ve w a c b l d e w'
def Dz{s:Nm}(h:(mR s).2≠0):mR s=(Hw,3):=by
 unfold mR at h ⊢;split
 ·rfl
 ·rename_i a
  rw[if_neg a]at h;exact absurd rfl h
def jP(N B b:Nat)(r:RS)(w:World)(aB:Ok w)(h:RdS N B b r w)(hc:B<=w.heap.size)(h6:6<=b)(hl:r.l.length<=2000000):Calls prog 177 #[.pointer (some ⟨b,0,none⟩)] w (Ix w N B b (qO r)):=by
 obtain⟨n,r1,ab⟩:∃(n:Nat) (r1:RS),fe r.l.length r=((n:Int),r1):=⟨(fe r.l.length r).1.toNat,(fe r.l.length r).2,Prod.ext (by have:=(oK r.l.length r).1;simp only;omega) rfl⟩;have a9:n<=2000000:=by have:=(oK r.l.length r).2;rw[ab]at this;simp only at this;omega
 have⟨o,H⟩:=eR (qO r);have P:o=(jA (n - 0) r1).map λp=>([]++p.1,p.2):=by rw[<-H];unfold qO;rw[ab];simp
 have hR:=FA h;have hN:=jM h r.l.length;rw[ab]at hN;have a7:b<B:=by obtain⟨_,_,_,q,_⟩:=h;exact q
 have ap:=Hd hR;have HN:=Hd hN;have aP:=Hd P;rw[H];have ao:=Hd (λ(W:World) (hW:Fr [b] w W)=>aB.fr1 hW h6);clear hR hN h aB ab P H hl
 go_enter func177,ntmps177
 go_wp2_with (first
  | (go_at_call 216;(with_reducible refine ap.out.mono ?_);rintro e w2 ⟨rfl,rfl⟩)
  | (go_at_call 50;(with_reducible refine HN.out.mono ?_);rintro e w3 ⟨rfl,R,ax⟩))
 have H3:=Hd (An R ax);clear R ax HN ap
 go_loopw [4,12] (λs i W=>∃(j c:Nat) (A:Option Addr) (q:RS) (z:List CH),j<=n/\i=.int .i64 (j:Int)/\s=.slice A j c/\RdS N B b q W/\(z.length=j/\o=(jA (n - j) q).map λp=>(z++p.1,p.2))/\Own W 95 7 A j c (z.flatMap CH.cs)/\Fr [b] w W/\∀k∈eX A,w.heap.size<=k) (λ_ i _=>n - (intOf i).toNat)
 case atStart=>exact⟨0,0,none,r1,[],Nat.zero_le _,rfl,rfl,H3.1,⟨rfl,aP.out⟩,Own.nil _ _ _,H3.2,by simp[eX]⟩
 case round =>
  obtain⟨j,c,A,q,z,hj,rfl,rfl,R,P,H,az,hA⟩:=hrel;have d:=Hd (An R (An P (An H (An az hA))));clear R P H az hA
  by_cases aA:j<n
  ·have a8:(j:Int)<(n:Int):=qo
   obtain⟨tn,I,C⟩:∃tn I,fU 16777216 q=(tn,I):=⟨_,_,rfl⟩;have f:=oI d.1 16777216;rw[C,show (((16777216:Nat)):Int)=16777216 from rfl]at f;have⟨ts,aK,aL,bb⟩:=eS tn;simp only at f;rw[aK]at f;have ba:tn.length<=16777216:=by have:=jq 16777216 q;rw[C]at this;exact this
   have M:=Hd f;have aq:=Hd aL;clear f aK aL
   rcases wI aA d.2.1.2 with⟨aa,av⟩|⟨x,q4,t,aN⟩
   ·have aw:mR tn=(Hw,3):=Dz λh0=>by
     unfold sh at aa;rw[C,if_pos h0]at aa
     cases aa
    have L:=Hd aw;have HO:=Hd av;clear aw aa av C
    go_upto_region 5 with(first
     | (go_at_call 49;(with_reducible refine M.out.mono ?_);rintro e V ⟨rfl,ac,g⟩;have X:=Hd (pZ ts V (ao.out V (d.2.2.2.1.then g)) qo))
     | (go_at_call 48;have D:=X.out;rw[aq.out,L.out]at D;(with_reducible refine D.mono ?_);clear D;rintro e J ⟨rfl,u⟩;unfold fu Hw;simp only[];rw[show fg []=Value.string ⟨#[]⟩from rfl]))
    have aY:=Hd (d.2.2.2.1.then (g.trans (u.then ((Fq [] J).alloc (.cells #[.int .i64 0,.string ⟨#[]⟩,.int .i64 0,.int .i64 0,.string ⟨#[]⟩] 31))) qs));clear g u ac
    go_wp2
    go_ret2
    rw[HO.out];exact⟨rfl,aY.out⟩
   obtain⟨O,G,e4⟩:mR tn=(x.n,0)/\jb I=(x.a,(jb I).2)/\fU 65536 (jb I).2=(x.v,q4):=by
    unfold sh at t;rw[C]at t;simp only at t;split at t
    ·rename_i h0
     injection t with t
     injection t with h1 h2
     rw[<-h1,<-h2];exact⟨Prod.ext rfl h0,rfl,rfl⟩
    ·cases t
   have⟨q3,aC⟩:=eR ((jb I).2);rw[aC]at G e4;have Y:=Hd (An aN aA);obtain⟨⟨k,ow,U,T,tx⟩,v,au⟩:=x;simp only at O G e4;have⟨so,aG,_,_⟩:=eS ow;have⟨st,aI,_,_⟩:=eS tx;have⟨sv,aJ,_,_⟩:=eS v;have L:=Hd (An O (An G e4));have F:=Hd (An aG (An aI aJ));clear C O G e4 t aN aC aG aI aJ
   go_upto_region 5 with(first
    | (go_at_call 49;(with_reducible refine M.out.mono ?_);rintro e V ⟨rfl,ac,g⟩;have X:=Hd (pZ ts V (ao.out V (d.2.2.2.1.then g)) qo))
    | (go_at_call 48;have D:=X.out;rw[aq.out,L.1]at D;(with_reducible refine D.mono ?_);clear D;rintro e J ⟨rfl,u⟩;unfold fu;simp only[F.1,F.2.1]))
   have aX:b<J.heap.size:=by
    have C:=d.2.2.2.1.size;have O:=g.size;have G:=u.size;omega
   have⟨w6,aM,ah,ae⟩:=kJ J #[.int .i64 k,.string so,.int .i64 U,.int .i64 T,.string st] 31;have ay:Fr [b] wr w6:=g.trans (u.then ae) qs;have aD:=(ac.fr0 u).fr0 ae
   have ai:J.heap.size ∉ b::eX A:=by
    intro m
    rcases mem_cons.1 m with h|h
    ·omega
    ·have h1:=d.2.2.1.lt _ h
     have O:=g.size;have G:=u.size;omega
   rw[aM];generalize J.heap.size=Z at ah ai ⊢;have ad:=Fz aD;rw[L.2.1]at ad;have an:=Hd ad;have aj:=Hd ay;have ar:=Hd ah;clear ac g u aM ah ae ay aD ad M X aX
   go_upto_region 8 with((go_at_call 217;(with_reducible refine an.out.mono ?_);rintro e K ⟨rfl,aE,af⟩))
   have f:=λW (hW:Fr [] K W)=>oI (aE.fr0 hW) 65536;rw[L.2.2,show (((65536:Nat)):Int)=65536 from rfl]at f;simp only[F.2.2]at f;have M:=Hd f;have aO:=ar.fr af (λm=>ai (by rw[ip]at m;simp[m]));have ak:=Hd (aj.then af)
   have aH:∀W,Fr (b::eX A) K W->W.cell? ⟨Z,0,none⟩=some (.int .i64 k)/\W.cell? ⟨Z,1,none⟩=some (.string so)/\W.cell? ⟨Z,2,none⟩=some (.int .i64 U)/\W.cell? ⟨Z,3,none⟩=some (.int .i64 T)/\W.cell? ⟨Z,4,none⟩=some (.string st):=λW hf=>by
    have h:=aO.fr hf ai;exact⟨h.c 0,h.c 1,h.c 2,h.c 3,h.c 4⟩
   have HSS:=Hd aH;have aV:b ∉ eX A:=λm=>by have:=d.2.2.2.2 b m;omega
   have aS:=Hd (λ(W:World) (hW:Fr [b] K W)=>d.2.2.1.fr (ak.then hW) (λq hq m=>by rw[ip]at m;subst m;exact aV hq));clear f aO aH aE af an aj ar;obtain⟨ii,aZ,a4,a5,a6⟩:=sM
   go_region_held3 (λW=>W.cell? ⟨Z,0,none⟩=some (.int .i64 k)/\W.cell? ⟨Z,1,none⟩=some (.string so)/\W.cell? ⟨Z,2,none⟩=some (.int .i64 U)/\W.cell? ⟨Z,3,none⟩=some (.int .i64 T)/\W.cell? ⟨Z,4,none⟩=some (.string st)) (with_reducible refine HSS.out _ ?_;(repeat(first|exact Fq _ _|exact al.out|exact aQ.out|refine Fr.drew ?_|refine Fr.alloc ?_ _|refine Fr.then ?_ E.undrew));done) (first
    | (go_at_call 49;(with_reducible refine(M.out _ (Fq [] K).drew).mono ?_);rintro e w8 ⟨rfl,a3,E⟩;have al:Hid (Fr (b::eX A) K w8):=Hd (E.undrew.mono (λk hk=>.inl (by rw[ip]at hk;simp[hk]))))
    | (rw[if_pos qr];(with_reducible refine nA (w:=w8) (.tmp 24) (.tmp 30) 62 rfl 95 ii _ 7 80 underlying62 aZ a4 a5 a6 rfl qd A j c (z.flatMap CH.cs) rfl (aS.out w8 E.undrew) 1 1 [.int .i64 k,.string so,.int .i64 U,.int .i64 T,.string st,.string sv,.bool au] 95 rfl rfl (by simp[Value.oneCell']) (by unfold maxLen;omega) qo ?_);intro A2 c2 w9 Q ag aF;have aR:=Hd Q;have aQ:Hid (Fr (b::eX A) K w9):=Hd (al.trans ag (λk hk=>.inl (by simp[hk])));have am:=Hd ag;have aU:=Hd aF;have aT:=Hd a3;clear Q ag aF))
   go_wp2
   go_roundw
   case rel =>
    have Q:=aR.out;have aW:∀y∈eX A,y<N \/ B<=y:=λy S=>by have:=d.2.2.2.2 y S;omega
    have E:=d.2.2.2.1.then (ak.then E.undrew);refine⟨j+1,c2,A2,q4,z++[⟨⟨k,ow,U,T,tx⟩,v,au⟩],qo,by go_num,rfl,aT.fr am.out aW,⟨by rw[gu,d.2.1.1];rfl,Y.1⟩,?_,E.trans am.out (λy S=>.inr (d.2.2.2.2 y S)),λy S=>?_⟩
    ·rw[flatMap_append]
     unfold CH.cs at Q ⊢;simp only[flatMap_cons,flatMap_nil,append_nil,F.1,F.2.1,F.2.2];exact Q
    ·rcases aU.out y S with h|h
     ·exact d.2.2.2.2 y h
     ·have:=E.size;omega
   case measure=>simp[intOf];omega
  ·obtain rfl:j=n:=qo
   have h3:o=some (z,q):=by
    have h:=d.2.1.2;rw[Nat.sub_self,jA]at h;simpa using h
   have Y:=Hd (An h3 d.2.1.1);clear h3
   go_wp2
   go_ret2
   rw[Y.1]
   show ve w N B b z q _ _
   unfold ve;rw[Y.2];exact⟨A,c,rfl,d.1,d.2.2.2.1,d.2.2.1,d.2.2.2.2⟩
end Go.Proofs.YtlpmiimgacfmkaaGreatDoor
