/- Part of the proof. -/
import Derived.WideKeyEntry
import Derived.Test.YtlpmiimgacfmkaaGreatDoorRMb
set_option linter.all false
set_option maxHeartbeats 4000000
set_option maxRecDepth 100000
namespace Go.Proofs.YtlpmiimgacfmkaaGreatDoor
open Go.Proofs.Tryz
open Go.RowKit
theorem gU{k:KY}(a:jE k=0):gp k.lin=true/\k.lin.length<=72:=by
 have b:k.lin=[] \/ gp k.lin=true:=by
  unfold jE at a;split at a
  ·simp at a
  split at a
  ·simp at a
  split at a
  ·simp at a
  split at a
  ·split at a
   ·simp at a
   ·rename_i h;simp at h;exact .inl h
  ·split at a
   ·simp at a
   ·rename_i h;simp at h;exact .inr h.2
 have c:gp k.lin=true:=by
  rcases b with b|b
  ·rw[b];decide
  ·exact b
 exact⟨c,iq c⟩
theorem j6{a:AG}(h:mN a=true):jE a.k=0:=by
 unfold mN at h;simp only[Bool.and_eq_true,decide_eq_true_eq]at h;exact h.1
theorem gr{a:AG}(h:mN a=true):iL none a.r=true/\iL none a.w=true:=by
 unfold mN at h;simp only[Bool.and_eq_true]at h;exact h.2
theorem sP{a:AG}(h:mN a=true)(e:a.fit)(l:a.r.length<=10)(n:a.w.length<=10):(fL a).length<=2000000:=by
 obtain⟨c,d⟩:=gr h;have o:=oo c e.rl;have l2:=oo d e.wl;obtain⟨m,j⟩:=gU (j6 h);have b:=j6 h
 have i:(0<=a.k.rnd/\a.k.rnd<=9223372036854775807)/\(0<=a.k.phase/\a.k.phase<=9223372036854775807)/\(0<=a.k.idx/\a.k.idx<=9223372036854775807):=by
  unfold jE at b;split at b
  ·simp at b
  split at b
  ·simp at b
  split at b
  ·simp at b
  omega
 unfold fL lM;have c:=fJ (u:=a.k.rnd.toNat) qo;have d:=fJ (u:=a.k.phase.toNat) qo;have f:=fJ (u:=a.k.idx.toNat) qo;have g:=iC (s:=a.k.lin) qo;simp only[gG];omega
theorem Run.snoc{xs:List AX}{y:AX}(h:Run xs)(d:qj xs y.a=true)(f:mN y.a=true/\y.a.fit/\y.a.r.length<=10/\y.a.w.length<=10)(j:xs.length<=11):Run (xs++[y]):=by
 refine⟨λx b=>?_,λi x z b c=>?_,by rw[gG];simp;omega⟩
 ·rcases List.mem_append.1 b with b|b
  ·exact h.wf x b
  ·rw[gI]at b;rw[b];exact f
 ·by_cases g:i+1<xs.length
  ·rw[List.getElem?_append_left qo]at b c
   exact h.inc i x z b c
  ·have e:i+1=xs.length:=by
    have:=(i9.1 c).1;rw[gG]at this;simp at this;omega
   rw[List.getElem?_append_left qo]at b;rw[List.getElem?_append_right qo,e,Nat.sub_self,List.getElem?_cons_zero]at c
   injection c with c
   subst c;unfold qj at d;rw[List.getLast?_eq_getElem?,show xs.length - 1=i by omega,b]at d;simp only[Bool.and_eq_true,decide_eq_true_eq]at d;exact d.2
def EG(xs:List AX)(a:AG)(M:List Nat)(b:Nat)(w:World)(e:Ending)(w':World):Prop :=
 ∃q:Int,e=.returned (.int .i64 q)/\((qj xs a=false/\q≠0/\Fr [] w w') \/ (qj xs a=true/\q=0/\∃c y,y.a=a/\HG w' b (xs++[y]) c/\Fr M w w'/\∀k∈c,k∈M \/ w.heap.size<=k))
theorem sQ(b:Nat)(xs:List AX)(aw:List Nat)(a:AG)(C:ByteArray)(D B:Option Addr)(I G:Nat)(w:World)(h:HG w b xs aw)(ae:Ok w)(aH:∀k∈aw,6<=k)(ar:ft a.k.lin=.string C)(hf:a.fit)(hr:a.r.length<=10)(hw:a.w.length<=10)(bU:xs.length<=11)
 (E:Kept aw w λW=>Chs W D a.r/\Chs W B a.w):Calls prog 34 #[.pointer (some ⟨b,0,none⟩),a.val C D I B G] w (EG xs a aw b w):=by
 obtain⟨pb,pl,bt,H,c,F,ns,ax,b0,h,rfl⟩:=h;obtain⟨ti,aJ⟩:=eR (a.k.rnd);obtain⟨Z,aI⟩:=eR (a.k.phase);obtain⟨Y,aG⟩:=eR (a.k.idx);obtain⟨nr,aV⟩:=eR (a.r.length);obtain⟨nw,aW⟩:=eR (a.w.length);obtain⟨n,ak⟩:=eR (xs.length);have al:a.val C D I B G=.agg #[ti,Z,Y,C,.slice D nr I,.slice B nw G]:=by unfold AG.val;rw[aJ,aI,aG,aV,aW]
 rw[al];have aK:=Hd (An aJ (An aI aG));obtain⟨t,aY,aZ,n1,J⟩:=il w #[ti,Z,Y,C,.slice D nr I,.slice B nw G] 91 w.heap.size
 have S:∀W,Fr [] t W->(W.cell? ⟨b,0,none⟩=some (.pointer pb)/\W.cell? ⟨b,1,none⟩=some (.slice H n c)/\W.cell? ⟨b,3,none⟩=some (.pointer pl)/\W.cell? ⟨b,4,none⟩=some (.pointer bt)) /\
  W.cell? ⟨w.heap.size,0,none⟩=some ti/\W.cell? ⟨w.heap.size,1,none⟩=some Z/\W.cell? ⟨w.heap.size,2,none⟩=some Y/\W.cell? ⟨w.heap.size,3,none⟩=some C/\W.cell? ⟨w.heap.size,4,none⟩=some (.slice D nr I)/\W.cell? ⟨w.heap.size,5,none⟩=some (.slice B nw G):=λW hW=>by
  have N:=h.box.fr (J.then hW) qs;rw[ak]at N;have q:=n1.fr hW qs;exact⟨⟨N.c 0,N.c 1,N.c 3,N.c 4⟩,q.c 0,q.c 1,q.c 2,q.c 3,q.c 4,q.c 5⟩
 have aN:∀W,Fr [] t W->Calls prog 59 #[.pointer b] W λe w'=>e=.returned (.bool false)/\W=w':=λW hW=>ky b pb W (S W hW).1.1;have HN:=Hd aN;have a9:=Hd aY;have aa:=Hd J;have HSS:=Hd S;have a6:=Hd n1;have b4:decide ((65536:Int)<=(n:Int))=false:=by simp;omega
 cases X:mN a with
 | false =>
  have U:∀W,Fr [] t W->Calls prog 60 #[a.val C D I B G] W (fm W (.tuple #[S0,(3:Int)])):=λW hW=>tR a C D B I G W (ae.fr0 (J.then hW)) ar (E.fr0 (J.then hW)).now.1 (E.fr0 (J.then hW)).now.2 hf X;rw[al]at U;have HE:=Hd U;have V:qj xs a=false:=by unfold qj;rw[X];rfl
  have ab:=Hd V;clear E h S U aY J n1 V al ae aH aN X aZ ar hf aJ aI aG aV aW ak
  go_enter func34,ntmps34
  go_upto_region 1 with fail
  rw[a9.out];obtain⟨⟨x0,x1,x3,x4⟩,y0,y1,y2,y3,y4,y5⟩:=HSS.out t (Fq [] t)
  go_wp2_with (first
   | (go_at_call 59;(with_reducible refine(HN.out _ (Fq [] t)).mono ?_);rintro e w' ⟨rfl,rfl⟩)
   | (go_at_call 60;(with_reducible refine(HE.out _ (Fq [] t)).mono ?_);rintro e w2 ⟨rfl,aj⟩;have bB:=Hd aj;clear aj))
  go_ret
  exact⟨3,rfl,.inl ⟨ab.out,qd,aa.out.then bB.out⟩⟩
 | true =>
  have U:∀W,Fr [] t W->Calls prog 60 #[a.val C D I B G] W (fm W (.tuple #[ft (fL a),L0])):=λW hW=>pM a C D B I G W (ae.fr0 (J.then hW)) ar (E.fr0 (J.then hW)).now.1 (E.fr0 (J.then hW)).now.2 hf X;have bQ:=sP X hf hr hw;have bp:=gr X;have hG:∀x∈a.w,x.fit/\iQ x=true:=λx E=>⟨hf.w x E,gC bp.2 x E⟩;have bW:=h.nl;have aL:∀W,Fr [] t W->Calls prog 92 #[a.val C D I B G,.pointer pl] W (l6 W (ns.length+a.w.length)):=λW hW=>vd a C D B I G _ pl W λW2 aR=>tT pl ns a.w B G W2 (ae.fr0 ((J.then hW).then aR)) (h.st.fr0 ((J.then hW).then aR)) (E.fr0 ((J.then hW).then aR)).now.2 hG qo;have aA:∀W,Fr [] t W->Calls prog 93 #[ft (fL a)] W (gh W (jo (1::fL a))):=λW hW=>sW (fL a) W (ae.fr0 (J.then hW)) qo;have bP:ax.length=n+1:=by rw[h.ds,List.length_cons,List.length_map,ak]
  have aQ:∀W,Fr [] t W->Calls prog 89 #[.pointer bt,fu (jo (1::fL a))] W (xV bt (ax++[jo (1::fL a)]) F W):=λW hW=>BK bt ax (jo (1::fL a)) b0 F W (h.tree.fr (J.then hW) qs) h.parts h.keys (ae.fr0 (J.then hW)) (λk l=>aH k (by simp[l])) (fw _) qo qo;rw[al]at U aL;obtain⟨d,hd⟩:=eR (jo (1::fL a));obtain⟨tx,bw⟩:=eR (ft (fL a));have HD:=Hd hd;rw[bw]at U aA;rw[hd]at aA aQ;have bo:xs.getLast?=xs[n - 1]?:=by rw[List.getLast?_eq_getElem?,ak]
  have HE:=Hd U;have HA:=Hd aL;have HL:=Hd aA;have HT:=Hd aQ;have HX:=Hd E;have z:=Hd h;have b3:=Hd aH;have A:=Hd (An al (An ak (An X (An ar (An hf (An hr (An hw bo)))))));have bV:n<=11:=qo
  clear E h S U aL aA aQ aY J n1 al ae aH aN X aZ ar hf aJ aI aG aV aW ak hd bw bQ bp hG bW bP bo hr hw bU
  go_enter func34,ntmps34
  go_upto_region 1 with fail
  rw[a9.out];obtain⟨⟨x0,x1,x3,x4⟩,y0,y1,y2,y3,y4,y5⟩:=HSS.out t (Fq [] t)
  go_upto_region 9 with(first
   | (go_at_call 59;(with_reducible refine(HN.out _ (Fq [] t)).mono ?_);rintro e w' ⟨rfl,rfl⟩)
   | (go_at_call 60;(with_reducible refine(HE.out _ (Fq [] t)).mono ?_);rintro e w2 ⟨rfl,aj⟩;clear x0 x1 x3 x4 y0 y1 y2 y3 y4 y5;obtain⟨⟨x0,x1,x3,x4⟩,y0,y1,y2,y3,y4,y5⟩:=HSS.out w2 aj))
  clear x0 x1 x3 x4 y0 y1 y2 y3 y4 y5;have bO:∃T,T=(decide (0<n) && !(qj xs a)):=⟨_,rfl⟩;obtain⟨T,P⟩:=bO
  go_cut [47]from 31 to 48 (λs W=>s=.bool T/\Fr [] t W)
  case first =>
   cases n with
   | zero =>
    refine eY (λW=>Fr [] t W) qk qk (aj.drew) ?_
    repeat(
     first
     | go_big_quiet_skip
     | (go_big_quiet_want;first|(go_big_quiet_op;go_big_quiet_on)|(apply Exists.intro;refine⟨λW hW=>?_,?_⟩;(· obtain⟨⟨x0,x1,x3,x4⟩,y0,y1,y2,y3,y4,y5⟩:=HSS.out W hW;go_simp;first|done|with_reducible exact rfl|with_reducible exact⟨rfl,rfl⟩ );simp only[qq];go_big_quiet_on))
     )
    refine wpQuiet_nil ?_;intro W3 ad
    go_wp2_with fail
    go_meet
    exact⟨by rw[P];rfl,ad⟩
   | succ m =>
    have aX:=(z.out.own.rd:Rd w 6 H xs.length (xs.flatMap AX.cs));rw[A.out.2.1]at aX;obtain⟨g,off,rfl,bS,bi⟩:=fo jV aX qo;obtain⟨y,hy⟩:∃y,xs[m]?=some y:=⟨_,gx (by rw[A.out.2.1];omega)⟩;have ai:=bi m y hy;unfold AX.cs at ai;have aq:∀o,(W:World)->Fr [] t W->W.cell? ⟨g,o,none⟩=w.cell? ⟨g,o,none⟩:=λo W hW=>(aa.out.then hW).cell (p:=⟨g,o,none⟩) bS qs;have bz:=z.out.run.wf y (iu hy);have au:=z.out.xok y (iu hy);obtain⟨r,hr⟩:=eR (pJ a.k y.a.k)
    have bN:T=decide (r<=0):=by
     rw[P];unfold qj;rw[A.out.2.2.1,A.out.2.2.2.2.2.2.2,Nat.add_sub_cancel,hy];simp only[Bool.true_and,hr]
     by_cases h0:r<=0
     ·have:¬ 0<r:=qo
      simp[h0,this]
     ·have:0<r:=qo
      simp[h0,this]
    have be:∀W,Calls prog 91 #[.agg #[ti,Z,Y,C],.agg #[y.a.k.rnd,y.a.k.phase,y.a.k.idx,y.sl]] W (ja W r):=λW=>by
     obtain⟨v1,v2⟩:=gU (j6 A.out.2.2.1);obtain⟨v3,v4⟩:=gU (j6 bz.1);have h:=lL a.k y.a.k W v1 v3 qo qo;rw[hr]at h;unfold lK at h;rw[aK.out.1,aK.out.2.1,aK.out.2.2,A.out.2.2.2.1,au.s]at h;exact h
    have bA:=Hd be;have bE:=HSS;clear HSS
    have HSS:=Hd (λ(W:World) (hW:Fr [] t W)=>An (bE.out W hW) (show W.cell? ⟨g,off+m*6,none⟩=some y.a.k.rnd/\W.cell? ⟨g,off+m*6+1,none⟩=some y.a.k.phase/\W.cell? ⟨g,off+m*6+2,none⟩=some y.a.k.idx/\W.cell? ⟨g,off+m*6+3,none⟩=some y.sl from
     ⟨(aq _ W hW).trans (ai 0 qo),(aq _ W hW).trans (ai 1 qo),(aq _ W hW).trans (ai 2 qo),(aq _ W hW).trans (ai 3 qo)⟩))
    have b9:IntKind.i64.wrap (m:Int)=(m:Int):=by simp only[IntKind.wrap_i64];omega
    have b8:(m:Int)<(m:Int)+1:=qo
    clear ai bi aX aq bz au hr be P;refine eY (λW=>Fr [] t W) qk qk (aj.drew) ?_
    repeat(
     first
     | go_big_quiet_skip
     | (go_big_quiet_want;first|(go_big_quiet_op;go_big_quiet_on)|(apply Exists.intro;refine⟨λW hW=>?_,?_⟩;(· obtain⟨⟨⟨x0,x1,x3,x4⟩,y0,y1,y2,y3,y4,y5⟩,cd,z1,z2,z3⟩:=HSS.out W hW;go_simp;first|done|with_reducible exact rfl|with_reducible exact⟨rfl,rfl⟩|((go_at_call 91;(with_reducible refine(bA.out W).mono ?_);rintro e w' ⟨rfl,h⟩;exact⟨rfl,hW.then h⟩)));simp only[qq];go_big_quiet_on))
     )
    refine wpQuiet_nil ?_;intro W3 ad
    go_wp2_with fail
    go_meet
    exact⟨by rw[bN],ad⟩
  case rest =>
   obtain⟨rfl,ad⟩:=hcut
   cases T with
   | true =>
    have V:qj xs a=false:=by
     cases hq:qj xs a with
     | false=>rfl
     | true=>rw[hq]at P;simp at P
    have ab:=Hd (An V ad);clear ad P V
    go_wp2_with fail
    go_ret
    exact⟨32,rfl,.inl ⟨ab.out.1,qd,aa.out.then ab.out.2⟩⟩
   | false =>
    have V:qj xs a=true:=by
     cases hq:qj xs a with
     | true=>rfl
     | false =>
      rw[hq]at P;have h0:n=0:=by simpa using P
      have N:=A.out.2.1;rw[h0]at N;have q:=List.eq_nil_of_length_eq_zero N;unfold qj at hq;rw[A.out.2.2.1,q]at hq;simp at hq
    have ab:=Hd V;clear P V
    go_upto_region 11 with fail
    have K:=ad.drew;refine eZ (λW:World=>Fr [] t W) 10 qk ?_ qd
    show fb 0 ..
    iterate 5 (refine gB rfl ?_;try simp only[qq])
    refine hO (i:=5) rfl λO L=>?_;go_simp
    go_at_call 92
    (with_reducible refine(HA.out _ K).mono ?_);rintro e w4 ⟨p2,b1,rfl,bu,bq,bj⟩;have bd:=K.then bj;refine L _ _ bd ?_;clear L O K bj
    try simp only[qq]
    show fb 6 ..
    iterate 4 (refine gB rfl ?_;try simp only[qq])
    refine eW ⟨qk,?_⟩;simp only[qG,qH];have a8:=Hd (An bu bq);clear bu bq
    go_upto_region 14 with fail
    have K:=bd.drew;refine eZ (λW:World=>Fr [] t W) 6 qk ?_ qd
    show fb 0 ..
    iterate 5 (refine gB rfl ?_;try simp only[qq])
    refine hO (i:=5) rfl λO L=>?_;go_simp
    go_at_call 93
    (with_reducible refine(HL.out _ K).mono ?_);rintro e w6 ⟨rfl,aT⟩;have ac:=K.then aT;have bH:=aT.undrew;refine L _ _ ac ?_;clear L O K aT
    try simp only[qq]
    refine eW ⟨qk,?_⟩;simp only[qG,qH]
    go_upto_region 17 with((go_at_call 89;(with_reducible refine(HT.out _ ac).mono ?_);rintro e w5 ⟨rfl,kvs',F',bv,bs,bn,bk,bf⟩;have am:=Hd (An bv (An bf (An bs bn)));have R:=Hd bk;clear bv bf bk bs bn))
    have bJ:=z.out.tree.lt;have bc:=z.out.own.lt;have b5:=z.out.box.lt;have bM:w.heap.size ∉ F:=λQ=>by have:=bJ _ Q;omega
    have bL:w.heap.size ∉ eV H:=λQ=>by have:=bc _ Q;omega
    have aE:=aa.out.then ac;have ay:=(z.out.box.fr aE qs).fr R.out z.out.nF;have aO:=(z.out.own.fr aE qs).fr R.out z.out.dj;rw[A.out.2.1]at ay aO;have aP:=(a6.out.fr ac qs).fr R.out bM;have az:Fr (b::(eV H++F)) w w5:=(aE.mono qs).trans R.out (by intro k l;exact .inl (by simp[l]))
    have S:∀W,Fr [] w5 W->W.cell? ⟨b,1,none⟩=some (.slice H n c)/\W.cell? ⟨w.heap.size,0,none⟩=some ti/\W.cell? ⟨w.heap.size,1,none⟩=some Z/\W.cell? ⟨w.heap.size,2,none⟩=some Y/\W.cell? ⟨w.heap.size,3,none⟩=some C/\W.cell? ⟨w.heap.size,4,none⟩=some (.slice D nr I)/\W.cell? ⟨w.heap.size,5,none⟩=some (.slice B nw G):=λW hW=>by
     have N:=ay.fr hW qs;have q:=aP.fr hW qs;exact⟨N.c 1,q.c 0,q.c 1,q.c 2,q.c 3,q.c 4,q.c 5⟩
    have aM:∀W,Fr [] w5 W->Calls prog 94 #[a.val C D I B G] W (vI W a):=λW hW=>ta a C D B I G W A.out.2.2.2.1 (HX.out W (az.trans hW qs)).1 (HX.out W (az.trans hW qs)).2 A.out.2.2.2.2.1;rw[A.out.1]at aM;have a4:=Hd aM;clear HSS;have HSS:=Hd (λ(W:World) (hW:W.cell? ⟨b,1,none⟩=some (.slice H n c)/\W.cell? ⟨w.heap.size,0,none⟩=some ti/\W.cell? ⟨w.heap.size,1,none⟩=some Z/\W.cell? ⟨w.heap.size,2,none⟩=some Y/\W.cell? ⟨w.heap.size,3,none⟩=some C/\W.cell? ⟨w.heap.size,4,none⟩=some (.slice D nr I)/\W.cell? ⟨w.heap.size,5,none⟩=some (.slice B nw G))=>hW);have K:=S _ (Fq [] w5).drew;have av:=Hd S;have ag:=Hd ay;have a5:=Hd aO;have a7:=Hd aP;have b2:=Hd az;clear S aM ay aO aP az aE a6 HX;refine eZ (λW:World=>W.cell? ⟨b,1,none⟩=some (.slice H n c)/\W.cell? ⟨w.heap.size,0,none⟩=some ti/\W.cell? ⟨w.heap.size,1,none⟩=some Z/\W.cell? ⟨w.heap.size,2,none⟩=some Y/\W.cell? ⟨w.heap.size,3,none⟩=some C/\W.cell? ⟨w.heap.size,4,none⟩=some (.slice D nr I)/\W.cell? ⟨w.heap.size,5,none⟩=some (.slice B nw G)) 11 qk ?_ qd
    show fb 0 ..
    iterate 6 (refine gB rfl ?_;try simp only[qq])
    refine hO (i:=6) rfl λO L=>?_;go_simp
    go_at_call 94
    (with_reducible refine(a4.out _ (Fq [] w5).drew).mono ?_);rintro e X1 ⟨⟨ya,ys,yA,yc,yB,yd⟩,bx,rfl,au,bm⟩
    dsimp only at bx
    subst bx;have an:=bm.undrew;refine L _ _ (av.out _ an) ?_;clear L O K bm;have K:=av.out _ an;unfold AX.v AG.val
    try simp only[qq]
    try dsimp only
    refine hO (i:=7) rfl λO L=>?_;go_simp
    obtain⟨X2,bh,n2,f2⟩:=kS X1 #[ya.k.rnd,ya.k.phase,ya.k.idx,ys,.slice yA ya.r.length yc,.slice yB ya.w.length yd] 91;rw[bh];have ao:=an.then f2;refine L _ _ (av.out _ ao) ?_;clear L O K bh
    try simp only[qq]
    refine hO (i:=8) rfl λO L=>?_;obtain⟨ii,bT,bX,bY,bZ⟩:=rn;have bg:=a5.out.fr ao qs;refine gF (.tmp 74) (.tmp 77) 22 rfl 91 ii _ 6 88 underlying22 bT bX bY bZ rfl qd H n c (xs.flatMap AX.cs) rfl bg ⟨X1.heap.size,0,none⟩ 1 1 (AX.mk ya ys yA yc yB yd).cs rfl rfl (λj u hu=>by rw[fx,n2.c j];simpa [AX.cs]using hu) (by intro u hu;simp only[AX.cs,List.mem_cons,List.not_mem_nil,or_false]at hu;rcases hu with rfl|rfl|rfl|rfl|rfl|rfl <;> rfl) (by unfold maxLen;omega) qo ?_;intro A' c' M br aF bb;have ap:=(ag.out.fr ao qs).fr aF z.out.nb;have af:=(a7.out.fr ao qs).fr aF bL;have K:M.cell? ⟨b,1,none⟩=some (.slice H n c)/\M.cell? ⟨w.heap.size,0,none⟩=some ti/\M.cell? ⟨w.heap.size,1,none⟩=some Z/\M.cell? ⟨w.heap.size,2,none⟩=some Y/\M.cell? ⟨w.heap.size,3,none⟩=some C/\M.cell? ⟨w.heap.size,4,none⟩=some (.slice D nr I)/\M.cell? ⟨w.heap.size,5,none⟩=some (.slice B nw G):=⟨ap.c 1,af.c 0,af.c 1,af.c 2,af.c 3,af.c 4,af.c 5⟩;refine L _ _ K ?_;clear L O
    try simp only[qq]
    show fb 9 ..
    iterate 2 (refine gB rfl ?_;try simp only[qq])
    refine eW ⟨qk,?_⟩;simp only[qG,qH];have bD:=Hd br;have bC:=Hd aF;have a3:=Hd bb;have ah:=Hd (An an f2);have bF:=Hd au;clear br aF bb ao an f2 n2 au af bg a7 ag a5 av a4 K HSS;have e0:=ap.k1;have e1:=ap.f 1
    go_upto_region 18 with fail
    obtain⟨X4,aB⟩:=eR (M.setCell ⟨b,1,none⟩ (.slice A' (n+1) c'));have aD:BoxN X4 b 136 #[.pointer pb,.slice A' (n+1) c',gz,.pointer pl,.pointer bt]:=by rw[<-aB];exact ap.setAt 1 _
    have f4:Fr [b] M X4:=by rw[<-aB];exact(Fq [b] M).st _
    try rw[aB]
    clear e0 e1 aB ap;have e0:=aD.k3;have e1:=aD.f 3
    go_upto_region 19 with fail
    obtain⟨X5,aC⟩:=eR (X4.setCell ⟨b,3,none⟩ (.pointer p2));have aS:BoxN X5 b 136 #[.pointer pb,.slice A' (n+1) c',gz,.pointer p2,.pointer bt]:=by rw[<-aC];exact aD.setAt 3 _
    have f5:Fr [b] M X5:=by rw[<-aC];exact f4.st _
    try rw[aC]
    clear e0 e1 aC aD f4;have e0:=aS.k1;have b6:((n:Int)+1) % 16=(n:Int)+1:=qo
    have b7:((n:Int)+1 == 0)=false:=by simp;omega
    have ag:=Hd (An aS f5);clear aS f5
    go_wp2_with fail
    go_ret
    have h6:=z.out.fr0 (aa.out.then ac);have aZ:=aa.out.size;have cb:=ac.size;have ca:=(ah.out.1.then ah.out.2).size;have cc:=R.out.size
    have bG:b ∉ eV A':=λQ=>by
     rcases a3.out b Q with h|h
     ·exact z.out.nb h
     ·omega
    have fX:Fr (b::eV H) X1 X5:=((ah.out.2.mono qs).trans (bC.out.mono (T:=b::eV H) (λk l=>.inl (by simp[l]))) (λk l=>.inl l)).trans ag.out.2 qs;have ba:Fr (b::eV H) w5 X5:=(ah.out.1.mono qs).then fX;have f6:Fr (b::(eV H++F)) w6 X5:=(R.out.mono (T:=b::(eV H++F)) (λk l=>.inl (by simp[l]))).trans ba (λk l=>.inl (by rcases List.mem_cons.1 l with h|h <;> simp[h]));have bR:Fr (b::(eV H++F)) w X5:=((aa.out.then ac).mono qs).then f6;have bK:NoT sy X1 (b::eV H):=((NoT.box ((h6.box.fr R.out z.out.nF).fr ah.out.1 qs) qd).app (NoT.own ((h6.own.fr R.out z.out.dj).fr ah.out.1 qs) qd)).mem qs
    have bI:∀k∈b::eV H,k ∉ F':=λk l Q=>by
     rcases am.out.2.1 k Q with h|h
     ·rcases List.mem_cons.1 l with rfl|l
      ·exact z.out.nF h
      ·exact z.out.dj k l h
     ·rcases List.mem_cons.1 l with rfl|l
      ·omega
      ·have:=bc k l;omega
    have aU:(xs++[AX.mk ya ys yA yc yB yd]).length=n+1:=by rw[gG,A.out.2.1];rfl
    refine⟨0,rfl,.inr ⟨ab.out,rfl,b::(eV A'++F'),⟨ya,ys,yA,yc,yB,yd⟩,rfl,⟨pb,p2,bt,A',c',F',b1,ax++[d],kvs',⟨?_,?_,?_,h6.base.frT f6 h6.noT,(a8.out.1.fr0 bH).frT f6 h6.noT,?_,am.out.1.fr ba (λk l Q=>bI k Q l),am.out.2.2.1,am.out.2.2.2,?_,?_⟩,rfl⟩,bR,λk l=>?_⟩⟩
    ·rw[aU];exact ag.out.1
    ·rw[aU,List.flatMap_append]
     have:=bD.out.fr ag.out.2 (λk l=>by simp only[gI];rintro rfl;exact bG l);simpa using this
    ·intro x E
     rcases List.mem_append.1 E with E|E
     ·exact(h6.xok x E).frT f6 h6.noT
     ·rw[gI]at E
      rw[E];exact bF.out.frT fX bK
    ·have N:=a8.out.2
     have q:=z.out.nl;have h3:=A.out.2.2.2.2.2.2.1;rw[A.out.2.1]at q;rw[aU];omega
    ·rw[z.out.ds,<-HD.out];simp[BM]
    ·exact z.out.run.snoc ab.out ⟨A.out.2.2.1,A.out.2.2.2.2.1,A.out.2.2.2.2.2.1,A.out.2.2.2.2.2.2.1⟩ (by rw[A.out.2.1];exact bV)
    ·rcases List.mem_cons.1 l with h|h
     ·exact .inl (by simp[h])
     ·rcases List.mem_append.1 h with h|h
      ·rcases a3.out k h with q|q
       ·exact .inl (by simp[q])
       ·exact .inr qo
      ·rcases am.out.2.1 k h with q|q
       ·exact .inl (by simp[q])
       ·exact .inr qo
theorem SG.of_nil{w:World}{b:Nat}(h:StAt w b .nil):SG w b []:=⟨none,0,h.1,TT.nil w,List.Pairwise.nil⟩
theorem zl:mW [leaf0] []:=by
 intro l i h;have c:=Nat.one_le_two_pow (n:=l);have d:(i+1)*2 ^ l<=1:=h;have e:1*2 ^ l<=(i+1)*2 ^ l:=Nat.mul_le_mul_right _ qo;have f:2 ^ l=1:=qo
 have a:l=0:=by
  rcases Nat.eq_zero_or_pos l with h|h
  ·exact h
  ·have:2 ^ 1<=2 ^ l:=Nat.pow_le_pow_right qo h
   omega
 subst a;have b:i=0:=qo
 subst b;simp only[Nat.pow_zero,Nat.mul_one,pt];exact⟨fw _,.inl ⟨rfl,rfl⟩⟩
theorem Eo(p:Nat)(w:World)(i:Ok w)(h:StAt w p .nil):Calls prog 32 #[.pointer (some ⟨p,0,none⟩)] w λe w'=>∃b M,e=.returned (.tuple #[.pointer (some ⟨b,0,none⟩),.int .i64 0])/\HG w' b [] M/\Fr [] w w'/\∀k∈M,w.heap.size<=k:=by
 refine(BL p w i h).mono ?_;rintro e w' ⟨b,M,rfl,⟨l,m,d,A,c,F,a,rfl⟩,g,f⟩;exact⟨b,_,rfl,⟨l,m,d,A,c,F,[],[leaf0],[],⟨a.box,a.own,qs,SG.of_nil a.kept.now.1,SG.of_nil a.st,qs,a.tree,zl,by intro p j;simp at j,rfl,⟨qs,qs,qs⟩⟩,rfl⟩,g,f⟩
theorem C9(b:Nat)(xs:List AX)(af:List Nat)(n:Nat)(w:World)(J:Ok w)(h:HG w b xs af)(Y:n<=xs.length):Calls prog 37 #[.pointer (some ⟨b,0,none⟩),.int .i64 (n:Int)] w (l6 w 120):=by
 have ai:=h.len12;obtain⟨pb,pl,bt,ac,c,F,ns,ds,ay,h,rfl⟩:=h;obtain⟨m,t⟩:=eR (xs.length);have v:=h.box;rw[t]at v Y ai;obtain⟨L,x1⟩:=v.m2;have x3:=v.k3;have M:=Hd (ky b pb w L);have E:=Hd h;have ae:=Hd J;have HM:=Hd t;have ag:=h.own.le_cap;rw[t]at ag;have an:decide ((n:Int)<0)=false:=qs
 have ao:decide (m<n)=false:=by simp;omega
 rcases Nat.lt_or_eq_of_le Y with au|rfl
 ·have K:=(h.own.rd:Rd w 6 ac xs.length (xs.flatMap AX.cs))
  rw[t]at K;obtain⟨g,off,rfl,ah,R⟩:=fo jV K qo;have ad:=Hd R;have aw:¬n=m:=qo
  have ax:((n:Int) == (m:Int))=false:=by simp;omega
  have am:decide ((16:Int)<=(n:Int))=false:=by simp;omega
  have aj:(n:Int) % 16=(n:Int):=qo
  have aq:(n:Int)<=(c:Int):=qo
  have ar:(n:Int)<=(m:Int):=qo
  clear h J t v K R
  go_enter func37,ntmps37
  go_upto_region 3 with((go_at_call 59;(with_reducible refine M.out.mono ?_);rintro e w' ⟨rfl,rfl⟩))
  go_wp2_with fail
  clear L x1 x3
  try rw[aj]
  go_loopw [6,61] (λs i W=>∃(j b':Nat) (u:List ON),j<=n/\i=.int .i64 (j:Int)/\s=.pointer (some ⟨b',0,none⟩)/\SG W b' u/\u.length<=10*j/\Fr [] w W) (λ_ i _=>n - (intOf i).toNat)
  case atStart=>exact⟨0,pb,[],Nat.zero_le _,rfl,rfl,E.out.base,qs,Fq _ _⟩
  case round =>
   obtain⟨j,b',u,hj,rfl,rfl,Q,V,T⟩:=hrel;have f:=Hd (An Q (An V T));clear Q V T
   by_cases ap:j<n
   ·have av:(j:Int)<(n:Int):=qo
    obtain⟨x,C⟩:∃x,xs[j]?=some x:=⟨_,gx (by rw[HM.out];omega)⟩;have z:=E.out.run.wf x (iu C);have ab:=(E.out.xok x (iu C)).fr0 f.out.2.2;have l:=ad.out j x C;unfold AX.cs at l;have q:∀o,wr.cell? ⟨g,o,none⟩=w.cell? ⟨g,o,none⟩:=λo=>f.out.2.2.cell (p:=⟨g,o,none⟩) ah qs;have X:=gr z.1;have G:∀W,Fr [] wr W->Calls prog 92 #[x.a.val x.sl x.A x.c x.B x.d,.pointer (some ⟨b',0,none⟩)] W (l6 W (u.length+x.a.w.length)):=λW hW=>vd x.a x.sl x.A x.B x.c x.d _ b' W λW2 H=>tT b' u x.a.w x.B x.d W2 (ae.out.fr0 (f.out.2.2.then (hW.then H))) (f.out.1.fr0 (hW.then H)) (ab.chw.fr0 (hW.then H)) (λy hy=>⟨z.2.1.w y hy,gC X.2 y hy⟩) (by have:=f.out.2.1;have:=z.2.2.2;omega);unfold AG.val at G;have y0:wr.cell? ⟨g,off+j*6,none⟩=some (.int .i64 x.a.k.rnd):=(q _).trans (l 0 qo);have y1:wr.cell? ⟨g,off+j*6+1,none⟩=some (.int .i64 x.a.k.phase):=(q _).trans (l 1 qo);have y2:wr.cell? ⟨g,off+j*6+2,none⟩=some (.int .i64 x.a.k.idx):=(q _).trans (l 2 qo);have y3:wr.cell? ⟨g,off+j*6+3,none⟩=some (.string x.sl):=(q _).trans (l 3 qo);have y4:wr.cell? ⟨g,off+j*6+4,none⟩=some (.slice x.A x.a.r.length x.c):=(q _).trans (l 4 qo);have y5:wr.cell? ⟨g,off+j*6+5,none⟩=some (.slice x.B x.a.w.length x.d):=(q _).trans (l 5 qo);obtain⟨w1,aa,ak,n1,P⟩:=il wr #[.int .i64 x.a.k.rnd,.int .i64 x.a.k.phase,.int .i64 x.a.k.idx,.string x.sl,.slice x.A x.a.r.length x.c,.slice x.B x.a.w.length x.d] 91 wr.heap.size;have HA:=Hd G;have HX:=Hd z.2.2.2;clear l q G ab z X C
    go_upto_region 13 with fail
    try rw[aa]
    clear y0 y1 y2 y3 y4 y5;obtain⟨L,x1,x2,x3,x4,x5⟩:=n1.m6;have O:=Hd P;clear aa n1 P ak
    go_wp2_with ((go_at_call 92;(with_reducible refine(HA.out _ O.out).mono ?_);rintro e w2 ⟨b2,al,rfl,Z,U,S⟩;have D:=Hd (An Z (An U S));clear Z U S))
    go_roundw
    case rel=>exact⟨j+1,b2,al,qo,by go_num,rfl,D.out.1,by have:=D.out.2.1;have:=f.out.2.1;have:=HX.out;omega,f.out.2.2.then (O.out.then D.out.2.2)⟩
    case measure=>simp[intOf];omega
   ·obtain rfl:j=n:=qo
    go_wp2_with fail
    go_ret2
    exact⟨b',u,rfl,f.out.1,by have:=f.out.2.1;omega,f.out.2.2⟩
 ·have I:=h.nl
  rw[t]at I;have N:=Hd (An h.st I);clear h J t v I
  go_enter func37,ntmps37
  go_wp2_with ((go_at_call 59;(with_reducible refine M.out.mono ?_);rintro e w' ⟨rfl,rfl⟩))
  go_ret2
  exact⟨pl,ns,rfl,N.out.1,by have:=N.out.2;omega,Fq _ _⟩
structure ActL(w:World)(b:Nat)(N:Nat)(ys:List AX):Prop where
 row:∃f,w.rowIs b 91 N f/\∀j x,ys[j]?=some x->∀o u,x.cs[o]?=some u->j*6+o<N/\f (j*6+o)=u
 ok:∀y∈ys,y.ok w
section
variable {w w':World} {b N:Nat} {ys:List AX} {S:List Nat}
theorem ActL.fr0(h:ActL w b N ys)(a:Fr [] w w'):ActL w' b N ys:=by
 obtain⟨f,c,d⟩:=h.row;exact⟨⟨f,eS c a qs,d⟩,λy e=>(h.ok y e).fr0 a⟩
theorem ActL.take(h:ActL w b N ys)(n:Nat):ActL w b N (ys.take n):=by
 obtain⟨f,c,d⟩:=h.row;exact⟨⟨f,c,λj x a=>d j x (by rw[List.getElem?_take]at a;split at a <;> simp_all)⟩,λy e=>h.ok y (List.mem_of_mem_take e)⟩
theorem ActL.c(h:ActL w b N ys){j:Nat}{x:AX}(k:ys[j]?=some x)(o:Nat)(u:Value)(i:x.cs[o]?=some u):w.cell? ⟨b,j*6+o,none⟩=some u:=by
 obtain⟨f,a,d⟩:=h.row;obtain⟨e,g⟩:=d j x k o u i;rw[a.cell e,g]
end
theorem ActL.snoc{w w':World}{b N:Nat}{ys:List AX}{y:AX}(m:ActL w b N ys)(H:y.ok w)(J:ys.length*6+6<=N)
 (v:w'=(((((w.setCell ⟨b,ys.length*6,none⟩ (.int .i64 y.a.k.rnd)).setCell ⟨b,ys.length*6+1,none⟩ (.int .i64 y.a.k.phase)).setCell ⟨b,ys.length*6+2,none⟩ (.int .i64 y.a.k.idx)).setCell ⟨b,ys.length*6+3,none⟩ (.string y.sl)).setCell ⟨b,ys.length*6+4,none⟩ (.slice y.A y.a.r.length y.c)).setCell ⟨b,ys.length*6+5,none⟩ (.slice y.B y.a.w.length y.d)) :
 ActL w' b N (ys++[y])/\Fr [b] w w':=by
 obtain⟨f,n,C⟩:=m.row;have l:Fr [b] w w':=by rw[v];exact((((((Fq [b] w).st _).st _).st _).st _).st _).st _
 have p:NoT sy w [b]:=by
  obtain⟨c,i,_⟩:=n;intro k s I e z q;rw[gI]at s;subst s;rw[i]at q
  cases q
  decide
 have t:=(((((n.set (ys.length*6) y.a.k.rnd).set (ys.length*6+1) y.a.k.phase).set (ys.length*6+2) y.a.k.idx).set (ys.length*6+3) y.sl).set (ys.length*6+4) (.slice y.A y.a.r.length y.c)).set (ys.length*6+5) (.slice y.B y.a.w.length y.d);rw[<-v]at t;refine⟨⟨⟨_,t,λj x g o u h=>?_⟩,λx g=>?_⟩,l⟩
 ·have G:o<6:=by have:=(i9.1 h).1;exact this
  by_cases E:j<ys.length
  ·rw[List.getElem?_append_left E]at g
   obtain⟨i,D⟩:=C j x g o u h;refine⟨i,?_⟩;have K:j*6+o<ys.length*6:=qo
   rw[if_neg qo,if_neg qo,if_neg qo,if_neg qo,if_neg qo,if_neg qo,D]
  ·have F:j=ys.length:=by
    have:=(i9.1 g).1;rw[gG]at this;simp at this;omega
   subst F;rw[List.getElem?_append_right (fV _),Nat.sub_self,List.getElem?_cons_zero]at g
   injection g with g
   subst g;refine⟨qo,?_⟩;unfold AX.cs at h
   match o,G with
   | 0,_=>rw[if_neg qo,if_neg qo,if_neg qo,if_neg qo,if_neg qo,if_pos qo];simpa using h
   | 1,_=>rw[if_neg qo,if_neg qo,if_neg qo,if_neg qo,if_pos rfl];simpa using h
   | 2,_=>rw[if_neg qo,if_neg qo,if_neg qo,if_pos rfl];simpa using h
   | 3,_=>rw[if_neg qo,if_neg qo,if_pos rfl];simpa using h
   | 4,_=>rw[if_neg qo,if_pos rfl];simpa using h
   | 5,_=>rw[if_pos rfl];simpa using h
 ·rcases List.mem_append.1 g with g|g
  ·exact(m.ok x g).frT l p
  ·rw[gI]at g
   rw[g];exact H.frT l p
theorem tU(w:World)(n:Nat)(g:n<=1000):∃w',(Instr.makeSlice 22 (.int .i64 (n:Int)) (.int .i64 (n:Int))).run prog w=.ok (.slice (some ⟨w.heap.size,0,none⟩) n n) w'/\ActL w' w.heap.size (n*6) []/\Fr [] w w':=by
 obtain⟨i,e,f,c,d⟩:=rn;have h:=run_makeSlice (P:=prog) (w:=w) 22 91 i (.agg rG) underlying22 e f .i64 .i64 n n qo qo (by rw[c];omega) (by rw[d];omega) qo;rw[c]at h;refine⟨_,h,⟨?_,qs⟩,(Fq [] w).alloc _⟩;have a:=gn w (madeCells (Value.agg rG).cells (n*6)) 91;rw[size_madeCells]at a;exact⟨_,a,qs⟩
def q8(w:World)(xs:List AX)(e:Ending)(w':World):Prop:=∃L ys,e=.returned (.slice (some ⟨L,0,none⟩) xs.length xs.length)/\ys.map AX.a=xs.map AX.a/\ActL w' L (xs.length*6) ys/\Fr [] w w'/\w.heap.size<=L
theorem zm(b:Nat)(xs:List AX)(au:List Nat)(w:World)(q:HG w b xs au):Calls prog 41 #[.pointer (some ⟨b,0,none⟩)] w (q8 w xs):=by
 have ax:=q.len12;obtain⟨pb,pl,bt,ap,c,F,ns,ds,aD,q,rfl⟩:=q;obtain⟨m,Q⟩:=eR (xs.length);have G:=q.box;rw[Q]at G ax;obtain⟨U,x1⟩:=G.m2;obtain⟨X0,ay,u,O⟩:=tU w m qo;have z1:=(G.fr O qs).c 1;have HN:=Hd (ky b pb w U);have J:=Hd q;have C:=Hd Q;have I:=Hd (An u O);clear q G Q u O;unfold q8;rw[C.out]
 go_enter func41,ntmps41
 go_wp2_with ((go_at_call 59;(with_reducible refine HN.out.mono ?_);rintro e w' ⟨rfl,rfl⟩))
 clear U x1 z1 ay;obtain⟨L,E⟩:=eR (w.heap.size);rw[E]at I
 try rw[E]
 have ac:=Hd E;clear E
 go_loopw [19] (λi W=>∃(j:Nat) (ys:List AX),j<=m/\i=.int .i64 (j:Int)/\ys.length=j/\ys.map AX.a=(xs.take j).map AX.a/\ActL W L (m*6) ys/\Fr [] w W) (λi _=>m - (intOf i).toNat)
 case atStart=>exact⟨0,[],Nat.zero_le _,rfl,rfl,qs,I.out.1,I.out.2⟩
 case round =>
  obtain⟨j,ys,hj,rfl,t,am,u,ai⟩:=hrel;have h:=Hd (An t (An am (An u ai)));clear t am u ai
  by_cases aB:j<m
  ·have aC:(j:Int)<(m:Int):=qo
   have R:=(J.out.own.rd:Rd w 6 ap xs.length (xs.flatMap AX.cs));rw[C.out]at R;obtain⟨g,off,rfl,aw,af⟩:=fo jV R qo;obtain⟨x,z⟩:∃x,xs[j]?=some x:=⟨_,gx (by rw[C.out];omega)⟩;have al:=J.out.run.wf x (iu z);have H:=(J.out.xok x (iu z)).fr0 h.out.2.2.2;have l:=af j x z;unfold AX.cs at l;have n:∀o,wr.cell? ⟨g,o,none⟩=w.cell? ⟨g,o,none⟩:=λo=>h.out.2.2.2.cell (p:=⟨g,o,none⟩) aw qs;have y0:wr.cell? ⟨g,off+j*6,none⟩=some (.int .i64 x.a.k.rnd):=(n _).trans (l 0 qo);have y1:wr.cell? ⟨g,off+j*6+1,none⟩=some (.int .i64 x.a.k.phase):=(n _).trans (l 1 qo);have y2:wr.cell? ⟨g,off+j*6+2,none⟩=some (.int .i64 x.a.k.idx):=(n _).trans (l 2 qo);have y3:wr.cell? ⟨g,off+j*6+3,none⟩=some (.string x.sl):=(n _).trans (l 3 qo);have y4:wr.cell? ⟨g,off+j*6+4,none⟩=some (.slice x.A x.a.r.length x.c):=(n _).trans (l 4 qo);have y5:wr.cell? ⟨g,off+j*6+5,none⟩=some (.slice x.B x.a.w.length x.d):=(n _).trans (l 5 qo);obtain⟨T,aj,az,n1,D⟩:=il wr #[.int .i64 x.a.k.rnd,.int .i64 x.a.k.phase,.int .i64 x.a.k.idx,.string x.sl,.slice x.A x.a.r.length x.c,.slice x.B x.a.w.length x.d] 91 wr.heap.size;have K:Calls prog 94 #[x.a.val x.sl x.A x.c x.B x.d] T (vI T x.a):=ta x.a x.sl x.A x.B x.c x.d T H.s (H.chr.fr0 D) (H.chw.fr0 D) al.2.1;unfold AG.val at K;have ar:=Hd K;have HX:=Hd z;clear l n H al z K R af
   go_upto_region 7 with fail
   try rw[aj]
   clear y0 y1 y2 y3 y4 y5;obtain⟨U,x1,x2,x3,x4,x5⟩:=n1.m6;have ad:=Hd D;clear aj n1 D az
   go_wp2_with ((go_at_call 94;(with_reducible refine ar.out.mono ?_);rintro e w2 ⟨⟨ya,aa,V,Y,X,Z⟩,an,rfl,ao,P⟩;dsimp only at an;subst an;unfold AX.v AG.val;dsimp only;have HY:=Hd (An ao P);have M:=h.out.2.2.1.fr0 (ad.out.then P);obtain⟨aA,f,av⟩:=M.row;clear ao P;have q0:=f.cell (i:=j*6) qo;have q1:=f.cell (i:=j*6+1) qo;have q2:=f.cell (i:=j*6+2) qo;have q3:=f.cell (i:=j*6+3) qo;have q4:=f.cell (i:=j*6+4) qo;have q5:=f.cell (i:=j*6+5) qo;have g0:=f.frozen (j*6);have g1:=f.frozen (j*6+1);have g2:=f.frozen (j*6+2);have g3:=f.frozen (j*6+3);have g4:=f.frozen (j*6+4);have g5:=f.frozen (j*6+5);have aq:=Hd M;clear f av M))
   obtain⟨w3,ak⟩:=eR ((((((w2.setCell ⟨L,j*6,none⟩ (.int .i64 x.a.k.rnd)).setCell ⟨L,j*6+1,none⟩ (.int .i64 x.a.k.phase)).setCell ⟨L,j*6+2,none⟩ (.int .i64 x.a.k.idx)).setCell ⟨L,j*6+3,none⟩ (.string aa)).setCell ⟨L,j*6+4,none⟩ (.slice V x.a.r.length Y)).setCell ⟨L,j*6+5,none⟩ (.slice X x.a.w.length Z))
   try rw[ak]
   have t:=h.out.1;obtain⟨ae,ag⟩:=ActL.snoc (w':=w3) (y:=⟨x.a,aa,V,Y,X,Z⟩) aq.out HY.out.1 (by rw[t];omega) (by rw[t];exact ak.symm);have ah:=(h.out.2.2.2.then (ad.out.then HY.out.2)).trans ag (by have:=ac.out;simp;omega);have ab:=Hd (An ae ah);clear ae ah ag
   go_roundw
   case rel =>
    refine⟨j+1,ys++[⟨x.a,aa,V,Y,X,Z⟩],qo,by go_num,by simp[t],?_,ab.out.1,ab.out.2⟩;rw[List.map_append,h.out.2.1,List.take_add_one,HX.out,List.map_append];simp
   case measure=>simp[intOf];omega
  ·obtain rfl:j=m:=qo
   go_wp2_with fail
   go_ret
   refine⟨L,ys,rfl,?_,h.out.2.2.1,h.out.2.2.2,by have:=ac.out;omega⟩;rw[h.out.2.1,List.take_of_length_le (by rw[C.out];exact fV _)]
def zn(xs:List AX):List Nm:=leaf0::xs.map BM
theorem lx(xs:List AX):(zn xs).length=xs.length+1:=by simp[zn]
theorem nj(xs:List AX):∀d∈zn xs,d.length=32:=by
 intro d a
 rcases List.mem_cons.1 a with rfl|a
 ·exact fw _
 ·obtain⟨x,_,rfl⟩:=List.mem_map.1 a
  exact fw _
def iz(xs:List AX)(i n:Nat):List Nm:=uZ (zn xs) (i+1) 0 (n+1)
theorem xS(b:Nat)(xs:List AX)(an:List Nat)(i n:Nat)(y:AX)(w:World)(j:HG w b xs an)(O:Ok w)(E:xs[i]?=some y)(aE:i<n)(ar:n<=xs.length):
 Calls prog 20 #[.pointer (some ⟨b,0,none⟩),.int .i64 (i:Int),.int .i64 (n:Int)] w (mF w (i:Int) (n:Int) (fL y.a) (iz xs i n)):=by
 have aq:=j.len12;obtain⟨pb,pl,V,ah,c,F,ns,J,aw,j,rfl⟩:=j;obtain⟨m,z⟩:=eR (xs.length);rw[z]at ar aq;have D:J=zn xs:=j.ds;have P:=(j.own.rd:Rd w 6 ah xs.length (xs.flatMap AX.cs));rw[z]at P;obtain⟨g,off,rfl,ap,ab⟩:=fo jV P qo;have t:=ab i y E;unfold AX.cs at t;have Q:=j.run.wf y (iu E);obtain⟨h,ag,av,Y,u⟩:=il w #[.int .i64 0,.int .i64 0,.string ⟨#[]⟩,.slice none 0 0] 53 w.heap.size;have G:=(j.xok y (iu E)).fr0 u;have L:Calls prog 60 #[y.a.val y.sl y.A y.c y.B y.d] h (fm h (.tuple #[ft (fL y.a),.int .i64 0])):=pM y.a y.sl y.A y.B y.c y.d h (O.fr0 u) G.s G.chr G.chw Q.2.1 Q.1;unfold AG.val at L;have C:=j.box.fr u qs;rw[z]at C;have l:∀o,h.cell? ⟨g,o,none⟩=w.cell? ⟨g,o,none⟩:=λo=>u.cell (p:=⟨g,o,none⟩) ap qs;obtain⟨x0,x1⟩:=C.m2;have ax:h.cell? ⟨g,off+i*6,none⟩=some (.int .i64 y.a.k.rnd):=(l _).trans (t 0 qo);have z1:h.cell? ⟨g,off+i*6+1,none⟩=some (.int .i64 y.a.k.phase):=(l _).trans (t 1 qo);have z2:h.cell? ⟨g,off+i*6+2,none⟩=some (.int .i64 y.a.k.idx):=(l _).trans (t 2 qo);have z3:h.cell? ⟨g,off+i*6+3,none⟩=some (.string y.sl):=(l _).trans (t 3 qo);have z4:h.cell? ⟨g,off+i*6+4,none⟩=some (.slice y.A y.a.r.length y.c):=(l _).trans (t 4 qo);have z5:h.cell? ⟨g,off+i*6+5,none⟩=some (.slice y.B y.a.w.length y.d):=(l _).trans (t 5 qo);have ao:J.length=m+1:=by rw[D,lx,z]
 have M:∀W,Fr [] h W->Calls prog 61 #[.pointer (some ⟨V,0,none⟩),.int .i64 ((i:Int)+1),.int .i64 ((n:Int)+1)] W (s9 W (iz xs i n)):=λW hW=>by
  have:=zI V J aw F j.parts (by rw[D];exact nj xs) qo (n+1) (i+1) W (j.tree.at_.fr0 (u.then hW)) (O.fr0 (u.then hW)) qo qo qo;rw[D]at this;exact this
 have au:(iz xs i n).length<n+1:=qw (zn xs) (n+1) (i+1) 0 qo qo;obtain⟨ps,ad⟩:=eR (iz xs i n);rw[ad]at M au ⊢;have HB:=Hd C;have HN:=Hd (ky b pb h x0);have H:=Hd L;have HI:=Hd M;have S:=Hd Y;have ai:=Hd u;have am:=Hd ag;obtain⟨tx,af⟩:=eR ((⟨(fL y.a).toArray⟩:ByteArray));unfold ft at H;unfold mF ft;rw[af]at H ⊢;have az:decide ((n:Int)<0)=false:=qs
 have aA:decide (m<n)=false:=by simp;omega
 have aB:decide ((i:Int)<0)=false:=qs
 have aC:decide (n<=i)=false:=by simp;omega
 have aD:(i:Int)<(m:Int):=qo
 clear j C L M Y u ag t ab P G Q l af ao D z E O ad av
 go_enter func20,ntmps20
 go_upto_region 1 with fail
 rw[am.out]
 go_wp2_with (first
  | (go_at_call 59;(with_reducible refine HN.out.mono ?_);rintro e w' ⟨rfl,rfl⟩)
  | (go_at_call 60;(with_reducible refine H.out.mono ?_);rintro e w2 ⟨rfl,x⟩;have aa:=HB.out.fr x qs;have y4:=aa.c 4;clear x0 x1 ax z1 z2 z3 z4 z5 aa)
  | (go_at_call 61;(with_reducible refine(HI.out _ x).mono ?_);rintro e w3 ⟨A3,I,rfl,ac,N,ae⟩;have q:=S.out.fr (x.then N) qs;have u0:=q.c 0;have u1:=q.c 1;have u2:=q.c 2;have u3:=q.c 3;have g0:=q.f 0;have g1:=q.f 1;have g2:=q.f 2;have g3:=q.f 3;have ak:=Hd ac;have aj:=Hd ((ai.out.then x).then N);have U:=Hd ae;have al:=Hd q;have ay:=x.size;clear ac N ae q y4))
 obtain⟨w4,Z,X,K⟩:=Gv (w3) (w.heap.size) al.out i n tx (.slice A3 ps.length I);rw[Z];clear Z;have aF:=S.out.lt;obtain⟨t0,t1,t2,t3⟩:=X.m4;have R:=Hd (An (ak.out.fr K (by intro k l;have:=U.out k l;simp only[gI];omega)) (aj.out.trans K (T:=[w.heap.size]) qs));clear X K u0 u1 u2 u3 g0 g1 g2 g3;refine bodyPost_ret (v:=.tuple #[.agg #[i,n,tx,.slice A3 ps.length I],L0]) (by simp[results,results20,go_sem,t0,t1,t2,t3]) rfl ⟨A3,I,rfl,R.out.1,R.out.2,λk l=>?_⟩;have:=U.out k l;omega
def jQ(xs:List AX)(n:Nat):Nm:=rt (zn xs) 0 (n+1)
theorem BB(b:Nat)(xs:List AX)(M:List Nat)(n:Nat)(w:World)(h:HG w b xs M)(D:Ok w)(P:n<=xs.length):
 Calls prog 21 #[.pointer (some ⟨b,0,none⟩),.int .i64 (n:Int)] w (mH w (jQ xs n)):=by
 have O:=h.len12;obtain⟨S,pl,L,W,c,F,ns,s,R,h,rfl⟩:=h;obtain⟨m,l⟩:=eR (xs.length);rw[l]at P O;have k:s=zn xs:=h.ds;have N:s.length=m+1:=by rw[k,lx,l]
 obtain⟨r,q⟩:=eR (w.alloc (.cells qm 57));have g:Fr [] w r:=by rw[<-q];exact(Fq [] w).alloc _
 obtain⟨Y,A⟩:∃f,r.rowIs w.heap.size 57 32 f:=by rw[<-q];exact⟨_,gn w _ _⟩
 have i:=EM L s R F h.parts (by rw[k];exact nj xs) qo (n+1) r (h.tree.at_.fr0 g) (D.fr0 g) qo qo;have a:(jQ xs n).length=32:=jW (nj xs) (n+1) 0 qo (by rw[lx];omega) qo;rw[k,show rt (zn xs) 0 (n+1)=jQ xs n from rfl,Int.natCast_add,show ((1:Nat):Int)=1 from rfl]at i;obtain⟨d,B⟩:=eR (jQ xs n);rw[B]at i a ⊢;have Z:(eP d).length=32:=by rw[eU,a]
 have j:=h.box.fr g qs;rw[l]at j;obtain⟨V,x1⟩:=j.m2;have x4:=j.k4;have aa:decide ((n:Int)<0)=false:=qs
 have ab:decide (m<n)=false:=by simp;omega
 have I:=Hd (ky b S r V);have E:=Hd i;have J:=Hd A;have G:=Hd g;have K:=Hd q;clear i A g q j h B k N l D
 go_enter func21,ntmps21
 go_upto_region 1 with fail
 rw[K.out]
 go_wp2_with (first
  | (go_at_call 59;(with_reducible refine I.out.mono ?_);rintro e w' ⟨rfl,rfl⟩)
  | (go_at_call 62;(with_reducible refine E.out.mono ?_);rintro e T ⟨rfl,x⟩;unfold fu;have t:=eS J.out x qs;have Q:=fc (d:=d) t a;have y:=fh (d:=d) t a;obtain⟨U,z⟩:∃X,T.setCells w.heap.size 0 (eP d)=X:=⟨_,rfl⟩;have C:Fr [] w U:=(by rw[<-z];exact((G.out.then x).setCells (.inr (fV _)) _ _));rw[z]at Q y;have HRD:=Hd y.1;have H:=Hd C;clear z y C t x))
 exact bodyPost_ret (v:=.tuple #[fu d,.int .i64 0]) (iK (d:=.array 32 5) (p:=4) (u:=5) (ty:=57) (b:=w.heap.size) (o:=0) rfl rfl rfl HRD.out qk rfl (by rw[eU,a];rfl)) rfl ⟨rfl,H.out⟩
section
variable {P:Program} {w w':World} {t k e:TypeId} {r:Nat} {key z v:Value} {kl:Lit} {kvs:List (Value × Value)}
theorem MapIs.entry_new(K:Maps.Keyed P k)(ht:P.underlying t=some (.map k e))(hz:∀u:World,(zeroValue e).run P u=.ok z u)(h:MapIs P k w r kvs)(hkey:keyOf P k key=some kl)(hn:∀p∈kvs,p.1≠key):
 ∃st w1,(Instr.mapEntry t (.map (some r)) key).run P w=.ok (.tuple #[z,.int .i64 st]) w1/\Fr [r] w w1/\MapIs P k w1 r (kvs++[(key,z)]) /\
  ∀w2 val,w2.heap[r]?=w1.heap[r]?->∃w3,(Instr.entryStore t (.map (some r)) (.int .i64 st) val).run P w2=.ok () w3/\Fr [r] w2 w3/\MapIs P k w3 r (kvs++[(key,val)]):=by
 obtain⟨es,clock,h1,h2,h3,rfl⟩:=h
 rcases K.find w hkey es.toList h3 with⟨f1,f2⟩|⟨j,e0,f1,f2,f3⟩
 ·have hkeys:∀u:Value,∀x∈(es.push ⟨key,u,clock⟩).toList,∃l,keyOf P k x.key=some l:=by
   intro u x hx;simp only[Array.toList_push,List.mem_append,gI]at hx
   rcases hx with hx|rfl
   ·exact h3 x hx
   ·exact⟨kl,hkey⟩
  refine⟨((clock:Nat):Int),{ w with heap:=w.heap.setIfInBounds r (.map (es.push ⟨key,z,clock⟩) (clock+1)) },?_,⟨rfl,rfl,rfl,by simp,λj _ hj=>(MapKept.heap_set h1).2 j (by simpa using hj)⟩,⟨_,_,(MapKept.heap_set h1).1,MapKept.stamped_push h2 f2,hkeys z,by simp⟩,λw2 val hw2=>?_⟩
  ·simp[Instr.mapEntry,run_underlying ht,MapKept.run_getObj_map h1,K.check w false hkey,f1,hz,goInt,MapKept.run_setObj_map _ h1,Result.andThen]
  ·have hw3:w2.heap[r]?=some (.map (es.push ⟨key,z,clock⟩) (clock+1)):=hw2.trans (MapKept.heap_set h1).1
   have hidx:(es.push ⟨key,z,clock⟩).findIdx? (λe=>((e.born:Nat):Int) == ((clock:Nat):Int))=some es.size:=by
    rw[WideElems.findIdx_arr]
    have:=WideElems.findIdx_born (l:=(es.push ⟨key,z,clock⟩).toList) (j:=es.size) (e0:=⟨key,z,clock⟩) (by
     simp only[Array.toList_push,List.map_append,List.map_cons,List.map_nil];refine List.nodup_append.2 ⟨h2.2.1,by simp,λa ha c hc e1=>?_⟩;simp only[gI]at hc;obtain⟨x,hx,rfl⟩:=List.mem_map.1 ha;have:=h2.1 x hx;omega) (by simp)
    exact this
   have hmod:(es.push ⟨key,z,clock⟩).modify es.size (λe=>{ e with val:=val })=es.push ⟨key,val,clock⟩:=by
    apply Array.ext'
    rw[Array.toList_modify,Array.toList_push,Array.toList_push,<-Array.length_toList,WideElems.modify_last]
   refine⟨{ w2 with heap:=w2.heap.setIfInBounds r (.map (es.push ⟨key,val,clock⟩) (clock+1)) },?_,⟨rfl,rfl,rfl,by simp,λj _ hj=>(MapKept.heap_set hw3).2 j (by simpa using hj)⟩,_,_,(MapKept.heap_set hw3).1,MapKept.stamped_push h2 f2,hkeys val,by simp⟩;simp[Instr.entryStore,MapKept.run_getObj_map hw3,asInt,asIntOf,hidx,hmod,MapKept.run_setObj_map _ hw3,Result.andThen]
 ·exact absurd f3 (hn _ (List.mem_map.2 ⟨e0,iu f2,rfl⟩))
end
end Go.Proofs.YtlpmiimgacfmkaaGreatDoor
