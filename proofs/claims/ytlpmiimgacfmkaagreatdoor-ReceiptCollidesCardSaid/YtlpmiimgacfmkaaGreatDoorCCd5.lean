/- Part of the proof. -/
import Derived.Sort.CutIn
import Derived.Test.YtlpmiimgacfmkaaGreatDoorCPf3
set_option linter.all false
set_option maxHeartbeats 4000000
set_option maxRecDepth 100000
namespace Go.Proofs.YtlpmiimgacfmkaaGreatDoor
open Go.Proofs.Tryz List
open Go.RowKit Go.Shelf
attribute [local go_sem] Oper.semAt_some
def xV(d:Nm)(bs:List Bool)(ps:List Nm):Nat->List Value
 | 0=>[]
 | k+1=>xV d bs ps k++(if bs.getD k false then fF (iE d bs ps k) (ps.getD k [])else fF (ps.getD k []) (iE d bs ps k))
def Cy(d:Nm){bs:List Bool}{ps:List Nm}{k:Nat}{b:Bool}{p:Nm}(a:bs[k]?=some b)(c:ps[k]?=some p):xV d bs ps (k+1)=xV d bs ps k++(if b then fF (iE d bs ps k) p else fF p (iE d bs ps k)):=by
 rw[xV,getD_eq_getElem?_getD,getD_eq_getElem?_getD,a,c];rfl
def zD:Nm:=List.replicate 32 0
def nM(w:World)(d:Nm)(bs:List Bool)(a:List Nm)(e:Ending)(w':World):Prop :=
 (a.length=bs.length->∃A c,e=.returned (.tuple #[fo (iE d bs a bs.length),.slice A bs.length c,.int .i64 0])/\Fr [] w w'/\Own w' 308 64 A bs.length c (xV d bs a bs.length)) /\
 (a.length≠bs.length->e=.returned (.tuple #[fo zD,.slice none 0 0,.int .i64 35])/\Fr [] w w')
structure NSx(N:Nat)(w W:World)(B7 B8 B9 B10 B11 B12 g c D k:Nat)(r:Nm)(xs:List Value):Prop where
 fr:Fr [] w W
 path:BoxN W B7 51 #[.slice (some ⟨g,0,none⟩) N c]
 res:∃f,W.rowIs B8 57 32 f
 lres:BoxN W B9 303 #[.slice none 0 0]
 eres:BoxN W B10 40 #[.int .i64 0]
 l:∃Al cl,BoxN W B11 303 #[.slice Al k cl]/\Own W 308 64 Al k cl xs/\∀q∈eX Al,D+2<=q
 root:W.rowIs B12 57 32 (λj=>.int .u8 ((r.getD j 0).toNat:Int))
def NSx.fr2{N:Nat}{w W o:World}{j m n d e i g c D k:Nat}{r:Nm}{xs:List Value}(h:NSx N w W j m n d e i g c D k r xs)(a:Fr [D,D+1] W o)(F:w.heap.size<=D)(v:j<D)(x:m<D)(y:n<D)(s:d<D)(t:e<D)(u:i<D):NSx N w o j m n d e i g c D k r xs:=by
 have b:∀B,B<D->B ∉ [D,D+1]:=λB E=>by simp;omega
 have⟨f,A⟩:=h.res;have⟨p,q,C,l2,l3⟩:=h.l;exact⟨h.fr.trans a (by simp;omega),h.path.fr a (b _ v),⟨f,eT A a (b _ x)⟩,h.lres.fr a (b _ y),h.eres.fr a (b _ s),⟨p,q,C.fr a (b _ t),l2.fr a (λk z=>by have:=l3 k z;simp;omega),l3⟩,eT h.root a (b _ u)⟩
structure NEnd(w W:World)(B8 B9 B10:Nat):Prop where
 fr:Fr [] w W
 res:W.rowIs B8 57 32 (λj=>.int .u8 ((zD.getD j 0).toNat:Int))
 lres:BoxN W B9 303 #[.slice none 0 0]
 eres:BoxN W B10 40 #[.int .i64 35]
def NEnd.fr2{w W e:World}{c d b D:Nat}(h:NEnd w W c d b)(a:Fr [D,D+1] W e)(g:w.heap.size<=D)(f:c<D/\d<D/\b<D):NEnd w e c d b :=
 ⟨h.fr.trans a (by simp;omega),eT h.res a (by simp;omega),h.lres.fr a (by simp;omega),h.eres.fr a (by simp;omega)⟩
def E0{w:World}{e:TypeId}{m n c:Nat}{A:Option Addr}{xs:List Value}{D:Nat}{x:Option (List Deferred)}(i:Own w e m A n c xs)(d:w.heap[D]?=some (.deferred x)):D ∉ eX A:=by
 intro a
 rcases i.2 with⟨h,_⟩|⟨g,j,k,h,_,f,_⟩
 ·injection h with b _ _
  rw[b]at a;simp[eX]at a
 ·injection h with b _ _
  rw[b]at a;have a:D=g:=by simpa [eX]using a
  rw[a,f]at d
  cases d
def NEnd.fr1{w W e:World}{b d a D:Nat}(h:NEnd w W b d a)(c:Fr [D] W e)(f:a<D)(g:b<a/\d<a/\w.heap.size<=b):NEnd w e b d a :=
 ⟨h.fr.trans c (by simp;omega),eT h.res c (by simp;omega),h.lres.fr c (by simp;omega),h.eres.fr c (by simp;omega)⟩
def uG(d:Nm)(I:List Nm)(i O N:Nat)(A:Option Addr)(c:Nat)(w:World)(aM:Ok w)(hi:i<O)(dC:O<=1000)(c9:0<N)(du:N<=1000)(cm:(bl i O).length<=1000)(cB:I.length=N)(aL:d.length=32)(hp:∀p∈I,p.length=32)(ho:Own w 57 32 A N c (I.flatMap eO)):
 Calls prog 178 #[fo d,.int .i64 (i:Int),.int .i64 (O:Int),.slice A N c] w (nM w d (bl i O) I):=by
 have cp:(eO d).length=32:=by rw[eP,aL]
 obtain⟨g,rfl,cr⟩:=Cs.of_own ho c9;unfold fo;have⟨w1,aN⟩:=eR (w.alloc (.cells (eO d).toArray 57));have cc:w1.rowIs w.heap.size 57 32 (λj=>.int .u8 ((d.getD j 0).toNat:Int)):=by rw[<-aN];exact gX w cp
 have aA:Fr [] w w1:=by rw[<-aN];exact(Fq [] w).alloc _
 have bG:w1.heap.size=w.heap.size+1:=by rw[<-aN];simp
 have⟨w2,aO⟩:=eR (w1.alloc (.cells #[.slice (some ⟨g,0,none⟩) N c] 51));have ci:BoxN w2 (w.heap.size+1) 51 #[.slice (some ⟨g,0,none⟩) N c]:=by rw[<-aO,<-bG];exact BoxN.new w1 _ _
 have Y:Fr [] w1 w2:=by rw[<-aO];exact(Fq [] w1).alloc _
 have bH:w2.heap.size=w.heap.size+2:=by rw[<-aO];simp[bG]
 have⟨w3,aP⟩:=eR (w2.alloc (.cells (qP) 57));obtain⟨fR,aI⟩:∃f,w3.rowIs (w.heap.size+2) 57 32 f:=by rw[<-aP,<-bH];exact⟨_,gi w2 _ _⟩
 have aq:Fr [] w2 w3:=by rw[<-aP];exact(Fq [] w2).alloc _
 have bI:w3.heap.size=w.heap.size+3:=by rw[<-aP];simp[bH]
 have⟨w4,aQ⟩:=eR (w3.alloc (.cells #[.slice none 0 0] 303));have cj:BoxN w4 (w.heap.size+3) 303 #[.slice none 0 0]:=by rw[<-aQ,<-bI];exact BoxN.new w3 _ _
 have Z:Fr [] w3 w4:=by rw[<-aQ];exact(Fq [] w3).alloc _
 have bJ:w4.heap.size=w.heap.size+4:=by rw[<-aQ];simp[bI]
 have⟨w5,aR⟩:=eR (w4.alloc (.cells #[.int .i64 0] 40));have ck:BoxN w5 (w.heap.size+4) 40 #[.int .i64 0]:=by rw[<-aR,<-bJ];exact BoxN.new w4 _ _
 have ap:Fr [] w4 w5:=by rw[<-aR];exact(Fq [] w4).alloc _
 have aG:w5.heap.size=w.heap.size+5:=by rw[<-aR];simp[bJ]
 have bk:=jz (O:Int) 1 1048576 w5;have bm:=jz (i:Int) 0 ((O:Int) - 1) w5;rw[decide_eq_true (show (1:Int)<=(O:Int)/\(O:Int)<=1048576 by omega)]at bk;rw[decide_eq_true (show (0:Int)<=(i:Int)/\(i:Int)<=(O:Int) - 1 by omega)]at bm;have dD:IntKind.i64.wrap ((O:Int) - 1)=(O:Int) - 1:=by simp[IntKind.wrap,IntKind.bits,IntKind.signed];omega
 have⟨bs,bq⟩:=eR (bl i O);have⟨U,bp⟩:=eR (bs.length);rw[bq]at cm ⊢;rw[bp]at cm;have R:=Hd (An bq (An bp (An cB hp)));have bt:=(aq.then Z).then ap;have br:=Y.then bt;have bV:=Hd (eT cc br qs);have bM:=Hd (ci.fr bt qs);have aU:=Hd (eT aI (Z.then ap) qs);have bO:=Hd (cj.fr ap qs);have bK:=Hd ck;have aS:=Hd (aA.then br);have b5:=Hd aG;have HW:=Hd (An aN (An aO (An aP (An aQ aR))));have b3:=Hd bk;have b4:=Hd bm;have bQ:=Hd cr;have bY:=Hd aM;clear bq bp cB hp cc ci aI cj ck aA Y aq Z ap bt br bG bH bI bJ aG aN aO aP aQ aR bk bm ho cr aM;refine(callsIn_wide (n:=5)).1 ?_;refine callsIn_of_wp_marks func178 rfl trivial ?_ rfl;simp only[ntmps178,size_toArray,length_cons,length_nil,Nat.reduceAdd,Nat.reduceSub,Array.replicate_succ,Array.replicate_zero,push_toArray,append_toArray,nil_append,cons_append];refine wpIn_wide.2 ?_
 go_upto_region 1 with fail
 rw[HW.1,HW.2.1,HW.2.2.1,HW.2.2.2.1,HW.2.2.2.2];simp only[Nat.add_assoc,Nat.reduceAdd]
 go_upto_region 4 with(first
  | (go_at_call 124;(with_reducible refine b3.out.mono ?_);rintro e w1 ⟨rfl,rfl⟩)
  | (go_at_call 124;(with_reducible refine b4.out.mono ?_);rintro e w1 ⟨rfl,rfl⟩))
 have⟨w6,bE,ch,bu⟩:=kJ w5 #[.slice none 0 0] 303;have cK:w6.heap.size=w5.heap.size+1:=by rw[<-bE];simp
 rw[bE];have⟨w7,dk,bv,bB⟩:=mL w6 d aL;have aB:=bu.then bv;have bW:=Hd (fw (eT bV.out bu qs) aL);have bN:=Hd (bM.fr aB qs);have b0:=Hd (eT aU.out aB qs);have bP:=Hd (bO.fr aB qs);have bL:=Hd (bK.fr aB qs);have a6:=Hd (ch.fr bv qs);have ba:=Hd bB;have bT:=Hd (aS.then aB);have b6:=Hd (An cK bB.lt);have b2:=Hd (λ(W:World)=>Bq (i:Int) (O:Int) W);clear bE ch bu bv bB aB cK bM aU bO bK aS bV
 go_wp2_with (first
  | (with_reducible refine wpList_load_mid rfl 57 (.tmp 4) rfl w.heap.size 0 rfl (eO d) (.array 32 5) bW.out qk rfl (by rw[cp];kernel_rfl) ?_)
  | (go_at_call 218;(with_reducible refine(b2.out _).mono ?_);rintro e P ⟨rfl,rfl⟩))
 have⟨P,aE⟩:=eR ((w7.alloc (.cells #[.int .i64 (i:Int)] 3)).alloc (.cells #[.int .i64 (O:Int)] 3));have ar:Fr [] w7 P:=by rw[<-aE];exact((Fq [] w7).alloc _).alloc _
 have cI:P.heap.size=w7.heap.size+2:=by rw[<-aE];simp
 have cn:BoxN P w7.heap.size 3 #[.int .i64 (i:Int)]:=by rw[<-aE];exact(BoxN.new w7 _ _).alloc _
 have co:BoxN P (w7.heap.size+1) 3 #[.int .i64 (O:Int)]:=by
  rw[<-aE];have h:=BoxN.new (w7.alloc (.cells #[.int .i64 (i:Int)] 3)) 3 #[.int .i64 (O:Int)]
  rwa [jZ]at h
 rw[aE];have⟨s,aW⟩:=eR (w5.heap.size);have⟨t,aX⟩:=eR (w6.heap.size);have aG:=b5.out;have a5:=b6.out;rw[aX,aW]at a5;rw[aW]at aG a6;rw[aX]at ba;rw[aW,aX];have cM:=a5.2;have cL:=a5.1
 have h0:NSx N w P (w.heap.size+1) (w.heap.size+2) (w.heap.size+3) (w.heap.size+4) s t g c P.heap.size 0 d [] :=
  ⟨bT.then ar,bN.fr ar qs,⟨_,eT b0.out ar qs⟩,bP.fr ar qs,bL.fr ar qs,⟨none,0,a6.fr ar qs,Own.nil _ _ _,by simp[eX]⟩,eT ba.out ar qs⟩
 have bF:w.heap.size<=P.heap.size:=h0.fr.size
 have hI:∀(k:Nat) (r:Nm) (xs:List Value) (W W':World),NSx N w W (w.heap.size+1) (w.heap.size+2) (w.heap.size+3) (w.heap.size+4) s t g c P.heap.size k r xs->Fr [P.heap.size,P.heap.size+1] W W'->NSx N w W' (w.heap.size+1) (w.heap.size+2) (w.heap.size+3) (w.heap.size+4) s t g c P.heap.size k r xs :=
  λk r xs W W' h hf=>h.fr2 hf bF qo qo qo qo qo qo
 have HZ:=Hd (An aG (An cL (An cM (An cI bF))));clear aG cL cM cI bF;clear aE bN b0 bP bL a6 ba bT bW b2 dk aW aX a5 b6 b5 HW b3 b4
 have da:∀(k:Nat) (p:Nm),I[k]?=some p->∀X,Fr [] w X->X.rangeAt g (k*32) (eO p):=λk p hk X F j v hv=>by
  have af:=R.2.2.2 p (gH hk);have hj:j<32:=by have:=(gV.1 hv).1;rw[eP,af]at this;exact this
  exact(bQ.fr0 F).2 (k*32+j) v (by rw[Ad R.2.2.2 hk hj];exact hv)
 have bg:=R.1;have⟨ts,bD⟩:=eR (bs.take (N+1));have dn:ts.length=min (N+1) U:=by rw[<-bD,length_take,R.2.1]
 have dm:∀(k:Nat) (x:Bool),ts[k]?=some x->bs[k]?=some x/\k<=N:=λk x h=>by
  rw[<-bD,List.getElem?_take]at h;split at h
  ·exact⟨h,qo⟩
  ·cases h
 have ag:=Hd (An dn (An dm bD))
 refine pH (if N<U then some none else none) (λ_=>True) (a:=?aa) 5 ts (λx:Bool=>#[.bool x]) (lb:=#[.pointer (some ⟨w7.heap.size,0,none⟩),.pointer (some ⟨w7.heap.size+1,0,none⟩)]) ?_ (enters_of func258 qk rfl) ?_
  (λk W=>if k<=N then NSx N w W (w.heap.size+1) (w.heap.size+2) (w.heap.size+3) (w.heap.size+4) s t g c P.heap.size k (iE d bs I k) (xV d bs I k)else NEnd w W (w.heap.size+2) (w.heap.size+3) (w.heap.size+4)) (λk W W' h hf=>?_) (by rw[if_pos (Nat.zero_le _)];exact h0)
  (λl b7 W hW _ _ _ hy hJ=>?_)
  (λk a' W=>(∃x:Bool,bs[k]?=some x/\a'={ tmps:=((Act.tmps ?aa).setIfInBounds 30 (.bool x)).setIfInBounds 13 (.bool x),defers:=[] })/\NSx N w W (w.heap.size+1) (w.heap.size+2) (w.heap.size+3) (w.heap.size+4) s t g c P.heap.size k (iE d bs I k) (xV d bs I k))
  (λk a' W W' h hf=>⟨h.1,hI k _ _ W W' h.2 hf⟩) ?_ ?_ (λh=>?_) ?_
 ·rfl
 ·intro x;rfl
 ·split at h
  ·rename_i hk;rw[if_pos hk];exact hI k _ _ W W' h hf
  ·rename_i hk;rw[if_neg hk];exact h.fr2 hf (by have:=HZ.out;omega) (by have:=HZ.out;omega)
 ·rcases Nat.lt_or_ge N U with ay|dt
  ·have h:=IP 5 w7.heap.size (w7.heap.size+1) i O N P hi qo (by rw[bg,R.2.1];exact ay) cn co l b7 W hW
   have e1:ts.length=N+1:=by rw[ag.1];omega
   rw[bg]at h;rw[e1];refine h (λk x W1 hk hx hj=>?_) (λx W1 hx hj=>?_) hJ
   ·exact YieldAt.mono' (hy k x W1 (by rw[<-ag.2.2,List.getElem?_take,if_pos qo];exact hx) hj) λe W' he=>⟨he.1 (λ_=>by omega),he.2.2.1⟩
   ·exact YieldAt.mono' (hy N x W1 (by rw[<-ag.2.2,List.getElem?_take,if_pos qo];exact hx) hj) λe W' he=>⟨he.2.1 (by rw[if_pos ay];simp) e1.symm,he.2.2.1⟩
  ·have h:=IM 5 w7.heap.size (w7.heap.size+1) i O P hi qo cn co l b7 W hW
   have e2:ts=bs:=by rw[<-ag.2.2];exact take_of_length_le (by rw[R.2.1];omega)
   rw[bg]at h;rw[e2];exact h (λk x W1 hx hj=>YieldAt.mono' (hy k x W1 (by rw[e2];exact hx) hj) λe W' he=>⟨he.1 (λh1=>absurd (if_neg qo) h1),he.2.2.1⟩) hJ
 ·intro l k x W ax hx b dl H
  have⟨hx,bz⟩:=ag.2.1 k x hx;rw[if_pos bz]at b
  gi_wp2_with fail
  exact H _ _ (Fq [] W) ⟨⟨x,hx,rfl⟩,b⟩
 ·intro l k x a' W hx hA dl
  have⟨hx,dy⟩:=ag.2.1 k x hx;have de:k<U:=by have h:=(gV.1 hx).1;rw[R.2.1]at h;exact h
  rcases Nat.lt_or_ge k N with bz|db
  ·rw[show (if k+1=ts.length then xe (if N<U then some none else none)else Exit.normal)=.normal by
    by_cases h:k+1=ts.length
    ·rw[if_pos h,if_neg (by rw[ag.1]at h;omega)];rfl
    ·rw[if_neg h]]
   simp only[eq_true (show k+1<=N by omega),if_true];obtain⟨⟨x',aF,rfl⟩,b⟩:=hA;simp only[qA,qB,qC];have dp:x'=x:=by rw[hx]at aF;exact(Option.some.inj aF).symm
   subst dp;obtain⟨D,a3⟩:∃p,I[k]?=some p:=⟨_,gg (by rw[R.2.2.1];exact bz)⟩;have af:=R.2.2.2 D (gH a3);have C:=mi bs I aL k;have⟨J,cG⟩:=eR (iE d bs I k);have⟨xs,cJ⟩:=eR (xV d bs I k);have aD:=BK d aF a3;have aw:=Cy d aF a3;rw[cG]at aD aw b C;rw[cJ]at aw b;have dw:((k:Int) == (N:Int))=false:=by simp;omega
   have dx:(k:Int)<(N:Int):=qo
   have dz:k<1000:=qo
   clear hx aF cG cJ;have aM:=bY.fr0 b.fr;have⟨o,K,l1,l2,l3⟩:=b.l;have lc:=l1.k0;have pc:=b.path.k0;have av:W.rowIs t 57 32 (λj=>.int .u8 (((J).getD j 0).toNat:Int)):=b.root;have cC:W.rangeAt g (k*32) (eO D):=da k D a3 W b.fr;have aK:(eO (J)).length=32:=by rw[eP,C]
   have cq:(eO D).length=32:=by rw[eP,af]
   have z:=Hd b;have HL:=Hd (An l1 (An l2 l3));have cV:=Hd cC;have b1:=Hd av;have cS:=Hd aM;clear b l1 l2 l3 aM cC av
   gi_wp2_with fail
   have hC:Fr [] W W.drew:=(Fq [] W).drew;have HSS:=Hd (λ(X:World) (F:Fr [] W X)=>(show X.cell? ⟨s,0,none⟩=some (.slice o k K)/\X.cell? ⟨w.heap.size+1,0,none⟩=some (.slice (some ⟨g,0,none⟩) N c)from⟨(HL.1.fr F qs).c 0,(z.path.fr F qs).c 0⟩));have dc:=(bQ.fr0 z.fr).1;have cE:∀X,Fr [] W X->X.rangeAt g (k*32) (eO D):=λX F j v hv=>(F.cell dc qs).trans (cV.out j v hv);have cF:∀X,Fr [] W X->X.rangeAt t 0 (eO (J)):=λX F=>fw (eT b1.out F qs) C;clear lc pc;refine iA (λX:World=>Fr [] W X) 8 qk qk (λ_ _ h=>by have h1:=And.left h;cases h1) ?_ qd
   show fc 0 ..
   iterate 4 (refine gJ rfl ?_;try simp only[qq])
   refine fm (i:=4) (v:=.agg (eO D).toArray) qk fh rfl qd qk (λ_ _ _ h=>h) (yieldsIf_load_mid qr 57 (.tmp 40) rfl g ((k*32)) rfl (eO D) (.array 32 5) (cE) qk rfl (by rw[cq];kernel_rfl)) (by assumption) ?_
   try simp only[qq]
   refine fm (i:=5) (v:=.agg (eO (J)).toArray) qk fh rfl qd qk (λ_ _ _ h=>h) (yieldsIf_load_mid qr 57 (.tmp 12) rfl t (0) rfl (eO (J)) (.array 32 5) (cF) qk rfl (by rw[aK];kernel_rfl)) (by assumption) ?_
   try simp only[qq]
   refine fm (i:=6) (v:=.agg (fF D (J)).toArray) qk fh rfl qd qk (λ_ _ _ h=>h) (Or.inl ⟨qr,λX F=>?_⟩) (by assumption) ?_
   ·have hb:=mf X af C
    simp[execOp,Act.eval,hb,Sem.run_bind,Result.andThen]
   try simp only[qq]
   refine hO (i:=7) rfl λax H=>?_;go_simp
   have⟨y,L⟩:=eR ((W.alloc (.cells ((List.toArray (.int .u8 0::.int .u8 0::.int .u8 0::.int .u8 0::.int .u8 0::.int .u8 0::.int .u8 0::.int .u8 0::.int .u8 0::.int .u8 0::.int .u8 0::.int .u8 0::.int .u8 0::.int .u8 0::.int .u8 0::.int .u8 0::.int .u8 0::.int .u8 0::.int .u8 0::.int .u8 0::.int .u8 0::.int .u8 0::.int .u8 0::.int .u8 0::.int .u8 0::.int .u8 0::.int .u8 0::.int .u8 0::.int .u8 0::.int .u8 0::.int .u8 0::.int .u8 0::.int .u8 0::.int .u8 0::.int .u8 0::.int .u8 0::.int .u8 0::.int .u8 0::.int .u8 0::.int .u8 0::.int .u8 0::.int .u8 0::.int .u8 0::.int .u8 0::.int .u8 0::.int .u8 0::.int .u8 0::.int .u8 0::.int .u8 0::.int .u8 0::.int .u8 0::.int .u8 0::.int .u8 0::.int .u8 0::.int .u8 0::.int .u8 0::.int .u8 0::.int .u8 0::.int .u8 0::.int .u8 0::.int .u8 0::.int .u8 0::.int .u8 0::.int .u8 0::[]):Array Value)) 308)).drew);have aA:Fr [] W y:=by rw[<-L];exact((Fq [] W).alloc _).drew
   have bC:y.there W.heap.size 0 64:=by rw[<-L];exact BJ W rfl
   have cx:W.heap.size<y.heap.size:=by rw[<-L];simp[World.drew]
   rw[L];refine H _ _ aA ?_;clear H ax L hC
   try simp only[qq]
   refine eV ⟨qk,?_⟩;simp only[qG,qH];have aj:=iZ af C;have au:(fF D (J)).toArray.size=64:=by simpa using aj
   refine wpList_store_mid rfl 308 (.tmp 14) (.tmp 43) rfl W.heap.size 0 (fF D (J)).toArray rfl rfl (by rw[au];exact bC) (by rw[au];kernel_rfl) (all_oneCell_toArray (pE _ _)) ?_;have⟨m,ad⟩:=eR (y.setCells W.heap.size 0 (fF D (J)).toArray.toList);have ai:PairAt m W.heap.size D (J):=by rw[<-ad];exact PairAt.put bC cx af C
   have Y:Fr [] W m:=by rw[<-ad];exact aA.setCells (.inr (fW _)) _ _
   rw[ad];clear ad bC cx aA HSS;have⟨al,bf⟩:=eR (W.heap.size);rw[bf]at ai ⊢;have a7:=Hd bf;clear bf
   iterate 2 go_step
   gi_upto_if 44 with fail
   gi_cut [30]from 36 (λ_ X=>∃l r,iE d bs I (k+1)=iO l r/\xV d bs I (k+1)=xs++fF l r/\l.length=32/\r.length=32/\PairAt X al l r/\Fr [] W X)
   case first =>
    cases x' with
    | false =>
     gi_wp2_with fail
     gi_meet
     exact⟨D,J,aD,aw,af,C,ai,Y⟩
    | true =>
     gi_wp2_with fail
     have aT:=Hd ai;have am:=Hd Y;have hC:Fr [] m m.drew:=(Fq [] m).drew;have HSS:=Hd (λ(X:World) (F:Fr [] m X)=>(show X.cell? ⟨s,0,none⟩=some (.slice o k K)/\X.cell? ⟨w.heap.size+1,0,none⟩=some (.slice (some ⟨g,0,none⟩) N c)from⟨(HL.1.fr (Y.then F) qs).c 0,(z.path.fr (Y.then F) qs).c 0⟩));have di:∀X,Fr [] m X->X.rangeAt g (k*32) (eO D):=λX F=>cE X (am.then F);have dj:∀X,Fr [] m X->X.rangeAt t 0 (eO (J)):=λX F=>cF X (am.then F);clear ai Y;refine iA (λX:World=>Fr [] m X) 7 qk qk (λ_ _ h=>by have h1:=And.left h;cases h1) ?_ qd;refine fm (i:=0) (v:=.agg (eO (J)).toArray) qk fh rfl qd qk (λ_ _ _ h=>h) (yieldsIf_load_mid qr 57 (.tmp 12) rfl t (0) rfl (eO (J)) (.array 32 5) (dj) qk rfl (by rw[aK];kernel_rfl)) (by assumption) ?_
     try simp only[qq]
     show fc 1 ..
     iterate 4 (refine gJ rfl ?_;try simp only[qq])
     refine fm (i:=5) (v:=.agg (eO D).toArray) qk fh rfl qd qk (λ_ _ _ h=>h) (yieldsIf_load_mid qr 57 (.tmp 49) rfl g ((k*32)) rfl (eO D) (.array 32 5) (di) qk rfl (by rw[cq];kernel_rfl)) (by assumption) ?_
     try simp only[qq]
     refine fm (i:=6) (v:=.agg (fF (J) D).toArray) qk fh rfl qd qk (λ_ _ _ h=>h) (Or.inl ⟨qr,λX F=>?_⟩) (by assumption) ?_
     ·have hb:=mf X C af
      simp[execOp,Act.eval,hb,Sem.run_bind,Result.andThen]
     try simp only[qq]
     refine eV ⟨qk,?_⟩;simp only[qG,qH];clear aj au;have aj:=iZ C af;have au:(fF (J) D).toArray.size=64:=by simpa using aj
     refine wpList_store_mid rfl 308 (.tmp 14) (.tmp 51) rfl al 0 (fF (J) D).toArray rfl rfl (by rw[au];exact aT.there) (by rw[au];kernel_rfl) (all_oneCell_toArray (pE _ _)) ?_;have⟨b8,aY⟩:=eR (m.drew.setCells al 0 (fF (J) D).toArray.toList);have ai:PairAt b8 al (J) D:=by rw[<-aY];exact PairAt.put aT.there aT.lt C af
     have Y:Fr [] W b8:=by rw[<-aY];exact am.drew.setCells (.inr (by have:=a7.out;omega)) _ _
     rw[aY];clear aY aT am hC HSS
     go_wp2
     gi_meet
     exact⟨J,D,aD,aw,C,af,ai,Y⟩
   clear aD aw ai Y af C aj au;obtain⟨l,r,aD,aw,cv,C,ai,Y⟩:=hcut;have aj:=iZ cv C;have bZ:=Hd ai;have am:=Hd Y;have lc:wc.cell? ⟨s,0,none⟩=some (.slice o k K):=(HL.1.fr Y qs).c 0;have cd:=HL.2.1.fr Y qs;have aH:=Hd cd;clear ai Y cd;obtain⟨ii,dd,dq,dr,ds⟩:=BI;have df:(fF l r).length=1*64:=aj;have c0:s ∉ eX o:=λhm=>by have h1:=HL.2.2 _ hm;have h2:=HZ.out;omega
   have c8:al ∉ eX o:=λhm=>by have h1:=HL.2.1.lt _ hm;have h2:=a7.out;omega
   have c7:al≠s:=by have h2:=HZ.out;have h3:=a7.out;omega
   have c4:t ∉ [s]:=by have h2:=HZ.out;simp;omega
   have c5:t ∉ eX o:=λhm=>by have h1:=HL.2.2 _ hm;have h2:=HZ.out;omega
   gi_wp2_with (first
    | (refine ki rfl rfl ?_;(with_reducible refine wp_load_mid 308 (.tmp 14) rfl al 0 rfl (fF l r) _ bZ.out.rng underlying308 rfl (by rw[aj];kernel_rfl) ?_))
    | (refine ki rfl rfl ?_;(with_reducible refine wp_load_mid 308 (.tmp 14) rfl al 0 rfl (fF l r) _ cU.out.rng underlying308 rfl (by rw[aj];kernel_rfl) ?_))
    | (rw[BH (fF l r) _ (by rw[aj];rfl)];refine ki rfl rfl ?_;(with_reducible refine nA (w:=wc) (.tmp 52) (.tmp 54) 303 rfl 308 ii _ 64 64 underlying303 dd dq dr ds rfl qd o k K xs rfl aH.out 1 1 (fF l r) 308 rfl df (pE _ _) (by unfold maxLen;omega) qo ?_);intro A3 c3 E cy aq cH;have aZ:=(HL.1.fr am.out qs).fr aq c0;have dE:E.cell? ⟨s,0,none⟩=some (.slice o k K):=aZ.c 0;have dF:=aZ.f 0;obtain⟨X4,az⟩:∃X,E.setCell ⟨s,0,none⟩ (.slice A3 (k+1) c3)=X:=⟨_,rfl⟩;have bd:Fr [s] E X4:=(by rw[<-az];exact(Fq [s] E).st _);have cN:Hid (BoxN X4 s 303 #[.slice A3 (k+1) c3]):=Hd (by rw[<-az];exact aZ.setAt 0 _);have cU:=Hd ((bZ.fr aq c8).fr bd (by simpa using c7));have bR:=Hd bd;have HF3:=Hd aq;have cR:=Hd cy;have cY:=Hd cH;clear aZ bd aq cy cH))
   have ct:Fr (eX o) W E:=(am.mono qs).then HF3.out;have bw:Fr (s::eX o) W X4:=(ct.mono (λk hk=>.inl (by simp[hk]))).trans bR.out qs
   have cz:Ok X4:=cS.fr bw (by
    intro k hk;have h0:=bY.low;have h2:=HZ.out
    rcases mem_cons.1 hk with h|h
    ·omega
    ·have:=HL.2.2 _ h;omega)
   have bX:=sC l r X4 cz cv C;refine⟨trivial,?_⟩;(with_reducible refine(CallsIn.inRound _ (callsIn_wide.2 bX)).mono ?_);clear bX;rintro e X5 ⟨rfl,ap⟩;unfold fo;have bx:Fr (s::eX o) W X5:=bw.trans ap qs;have c6:t ∉ s::eX o:=by simp only[mem_cons,not_or];exact⟨by simpa using c4,c5⟩
   have bi:=eT b1.out bx c6;have a4:=fj (d:=iO l r) bi (fy _);have ab:=fp (d:=iO l r) bi (fy _);have⟨X6,bn⟩:=eR (X5.setCells t 0 (eO (iO l r)));have b9:Fr [t] X5 X6:=by rw[<-bn];exact(Fq [t] X5).setCells (.inl qs) _ _
   rw[bn]at a4 ab;have cW:=Hd ab.2;have bS:=Hd b9;have cP:=Hd bx;have aS:=Hd ap;have dv:(eO (iO l r)).length=32:=by rw[eP];exact fy _
   clear bn ab b9 bx bw ct ap bi cz
   gi_wp2_with fail
   have M:Fr (t::s::eX o) W X6:=(cP.mono (λk hk=>.inl (mem_cons_of_mem _ hk))).trans bS.out qs;have hZ:=HZ.out
   have cw:∀q∈t::s::eX o,q=t \/ q=s \/ P.heap.size+2<=q:=λq G=>by
    rcases mem_cons.1 G with h|G
    ·exact .inl h
    ·rcases mem_cons.1 G with h|G
     ·exact .inr (.inl h)
     ·exact .inr (.inr (HL.2.2 q G))
   have aC:∀B,B≠t->B≠s->B<P.heap.size+2->B ∉ t::s::eX o:=λB h1 h2 h3 hm=>by
    rcases cw B hm with h|h|h
    ·exact h1 h
    ·exact h2 h
    ·omega
   have be:∀q∈eX A3,P.heap.size+2<=q:=λq G=>by
    rcases cY.out q G with h|h
    ·exact HL.2.2 q h
    ·have:=am.size;omega
   have cs:Fr [t] X4 X6:=(aS.mono qs).then bS.out;have⟨aV,ak⟩:=z.res
   try rw[aD]
   try rw[aw]
   refine⟨⟨z.fr.trans M (λq G=>by rcases cw q G with h|h|h <;> right <;> omega),z.path.fr M (aC _ qo qo qo),⟨aV,eT ak M (aC _ qo qo qo)⟩,z.lres.fr M (aC _ qo qo qo),z.eres.fr M (aC _ qo qo qo),⟨A3,c3,cN.fr cs (by simp;omega),(cR.fr bR.out (λq G=>by have:=be q G;simp;omega)).fr cs (λq G=>by have:=be q G;simp;omega),be⟩,cW.out⟩,_,M,aC _ qo qo qo,aC _ qo qo qo⟩
  ·obtain rfl:k=N:=qo
   rw[if_pos (by rw[ag.1];omega),if_pos de,show xe (some none)=Exit.ret from rfl];simp only[eq_false (show ¬(k+1<=k) by omega),if_false];obtain⟨⟨x',aF,rfl⟩,b⟩:=hA;simp only[qA,qB,qC];have⟨o,K,l1,l2,l3⟩:=b.l;have⟨aV,ak⟩:=b.res;have lc:=l1.k0;have pc:=b.path.k0
   have bo:((#[.int .u8 0,.int .u8 0,.int .u8 0,.int .u8 0,.int .u8 0,.int .u8 0,.int .u8 0,.int .u8 0,.int .u8 0,.int .u8 0,.int .u8 0,.int .u8 0,.int .u8 0,.int .u8 0,.int .u8 0,.int .u8 0,.int .u8 0,.int .u8 0,.int .u8 0,.int .u8 0,.int .u8 0,.int .u8 0,.int .u8 0,.int .u8 0,.int .u8 0,.int .u8 0,.int .u8 0,.int .u8 0,.int .u8 0,.int .u8 0,.int .u8 0,.int .u8 0]):Array Value).toList=eO zD:=rfl;have bc:Hid (W.there (w.heap.size+2) 0 ((#[.int .u8 0,.int .u8 0,.int .u8 0,.int .u8 0,.int .u8 0,.int .u8 0,.int .u8 0,.int .u8 0,.int .u8 0,.int .u8 0,.int .u8 0,.int .u8 0,.int .u8 0,.int .u8 0,.int .u8 0,.int .u8 0,.int .u8 0,.int .u8 0,.int .u8 0,.int .u8 0,.int .u8 0,.int .u8 0,.int .u8 0,.int .u8 0,.int .u8 0,.int .u8 0,.int .u8 0,.int .u8 0,.int .u8 0,.int .u8 0,.int .u8 0,.int .u8 0]):Array Value).size):=Hd (iJ ak (fW 32));have z:=Hd b;clear b l1 l2 l3
   gi_wp2_with (refine ki rfl rfl ?_;(with_reducible refine wp_store_mid 57 (.tmp 8) (.tmp 36) rfl (w.heap.size+2) 0 ((#[.int .u8 0,.int .u8 0,.int .u8 0,.int .u8 0,.int .u8 0,.int .u8 0,.int .u8 0,.int .u8 0,.int .u8 0,.int .u8 0,.int .u8 0,.int .u8 0,.int .u8 0,.int .u8 0,.int .u8 0,.int .u8 0,.int .u8 0,.int .u8 0,.int .u8 0,.int .u8 0,.int .u8 0,.int .u8 0,.int .u8 0,.int .u8 0,.int .u8 0,.int .u8 0,.int .u8 0,.int .u8 0,.int .u8 0,.int .u8 0,.int .u8 0,.int .u8 0])) rfl rfl bc.out qk qk ?_);have ab:=(fp (d:=zD) ak rfl).2;obtain⟨y,L⟩:∃X,W.setCells (w.heap.size+2) 0 (eO zD)=X:=⟨_,rfl⟩;(rw[bo,L]);rw[L]at ab;have Q:Fr [w.heap.size+2] W y:=(by rw[<-L];exact(Fq [w.heap.size+2] W).setCells (.inl qs) _ _);have ac:=z.lres.fr Q qs;have ah:=z.eres.fr Q qs;have e0:y.cell? ⟨w.heap.size+3,0,none⟩=some (.slice none 0 0):=ac.c 0;have e1:=ac.f 0;obtain⟨m,ad⟩:∃X,y.setCell ⟨w.heap.size+3,0,none⟩ (.slice none 0 0)=X:=⟨_,rfl⟩;have V:Fr [w.heap.size+3] y m:=(by rw[<-ad];exact(Fq [w.heap.size+3] y).st _);have ao:BoxN m (w.heap.size+3) 303 #[.slice none 0 0]:=(by rw[<-ad];exact ac.setAt 0 _);have ae:=ah.fr V qs;have e2:m.cell? ⟨w.heap.size+4,0,none⟩=some (.int .i64 0):=ae.c 0;have e3:=ae.f 0;obtain⟨E,an⟩:∃X,m.setCell ⟨w.heap.size+4,0,none⟩ (.int .i64 35)=X:=⟨_,rfl⟩;have f3:Fr [w.heap.size+4] m E:=(by rw[<-an];exact(Fq [w.heap.size+4] m).st _);have aJ:BoxN E (w.heap.size+4) 40 #[.int .i64 35]:=(by rw[<-an];exact ae.setAt 0 _);have M:Fr [w.heap.size+2,w.heap.size+3,w.heap.size+4] W E:=(((Q.mono qs).trans V qs).trans f3 qs);have HE:=Hd (An (NEnd.mk (z.fr.trans M qs) (eT (eT ab V qs) f3 qs) (ao.fr f3 qs) aJ) M);clear ab L Q ac ah V ao ae f3 aJ M)
   exact⟨HE.1,_,HE.2,by have:=HZ.out;simp;omega,by have:=HZ.out;simp;omega⟩
 ·intro h1
  have ay:N<U:=by
   by_cases G:N<U
   ·exact G
   ·exact absurd (if_neg G) h
  have:=ag.1;rw[h1]at this;simp only[length_nil]at this;omega
 ·intro T W hD b H
  rw[ag.1]at b
  rcases Nat.lt_or_ge N U with ay|ay
  ·simp only[if_pos ay]
   show (Code.ret).wp _ _ _ _
   rw[if_neg (show ¬(min (N+1) U<=N) by omega)]at b;have bA:I.length≠bs.length:=by rw[R.2.2.1,R.2.1];omega
   have bh:w.heap.size+4<T:=by have:=HZ.out;omega
   go_wp2
   have a8:=Hd b;have a9:=Hd H;clear b H;refine⟨qs,.inl ⟨_,_,rfl,run_takeDeferred a9.out,?_⟩⟩;have Z:=λX=>i6 (r:=T) (S:=[T]) (.deferred none) (Fq [T] X) (.inl qs);have h5:=NEnd.fr1 a8.out (Z _) bh qo;have c2:=h5.lres.c 0;have c3:=h5.eres.c 0;refine⟨.tuple #[.agg (eO zD).toArray,.slice none 0 0,.int .i64 35],?_,λh=>absurd h bA,λ_=>⟨rfl,h5.fr⟩⟩;exact kE (p:=8) (q:=9) (u:=10) (t1:=57) (t2:=303) (t3:=40) (A1:=⟨w.heap.size+2,0,none⟩) (A2:=⟨w.heap.size+3,0,none⟩) (A3:=⟨w.heap.size+4,0,none⟩) rfl rfl rfl rfl (run_loadVar_mid _ _ 0 _ (eO zD) (.array 32 5) (fw h5.res rfl) qk rfl qk) (by simp[loadVar,go_sem,c2]) (by simp[loadVar,go_sem,c3])
  ·simp only[if_neg (show ¬N<U by omega)]
   rw[if_pos (show min (N+1) U<=N by omega),show min (N+1) U=U by omega]at b
   rcases Nat.lt_or_ge U N with dA|db
   ·have bA:I.length≠bs.length:=by rw[R.2.2.1,R.2.1];omega
    have bh:w.heap.size+4<T:=by have:=HZ.out;omega
    have⟨o,K,l1,l2,l3⟩:=b.l;have⟨aV,ak⟩:=b.res;have lc:=l1.k0;have pc:=b.path.k0;have dB:(U:Int)<(N:Int):=qo
    have bo:((#[.int .u8 0,.int .u8 0,.int .u8 0,.int .u8 0,.int .u8 0,.int .u8 0,.int .u8 0,.int .u8 0,.int .u8 0,.int .u8 0,.int .u8 0,.int .u8 0,.int .u8 0,.int .u8 0,.int .u8 0,.int .u8 0,.int .u8 0,.int .u8 0,.int .u8 0,.int .u8 0,.int .u8 0,.int .u8 0,.int .u8 0,.int .u8 0,.int .u8 0,.int .u8 0,.int .u8 0,.int .u8 0,.int .u8 0,.int .u8 0,.int .u8 0,.int .u8 0]):Array Value).toList=eO zD:=rfl;have bc:Hid (W.there (w.heap.size+2) 0 ((#[.int .u8 0,.int .u8 0,.int .u8 0,.int .u8 0,.int .u8 0,.int .u8 0,.int .u8 0,.int .u8 0,.int .u8 0,.int .u8 0,.int .u8 0,.int .u8 0,.int .u8 0,.int .u8 0,.int .u8 0,.int .u8 0,.int .u8 0,.int .u8 0,.int .u8 0,.int .u8 0,.int .u8 0,.int .u8 0,.int .u8 0,.int .u8 0,.int .u8 0,.int .u8 0,.int .u8 0,.int .u8 0,.int .u8 0,.int .u8 0,.int .u8 0,.int .u8 0]):Array Value).size):=Hd (iJ ak (fW 32));have z:=Hd b;clear b l1 l2 l3
    go_wp2_with ((with_reducible refine wpList_store_mid rfl 57 (.tmp 8) (.tmp 63) rfl (w.heap.size+2) 0 ((#[.int .u8 0,.int .u8 0,.int .u8 0,.int .u8 0,.int .u8 0,.int .u8 0,.int .u8 0,.int .u8 0,.int .u8 0,.int .u8 0,.int .u8 0,.int .u8 0,.int .u8 0,.int .u8 0,.int .u8 0,.int .u8 0,.int .u8 0,.int .u8 0,.int .u8 0,.int .u8 0,.int .u8 0,.int .u8 0,.int .u8 0,.int .u8 0,.int .u8 0,.int .u8 0,.int .u8 0,.int .u8 0,.int .u8 0,.int .u8 0,.int .u8 0,.int .u8 0])) rfl rfl bc.out qk qk ?_);have ab:=(fp (d:=zD) ak rfl).2;obtain⟨y,L⟩:∃X,W.setCells (w.heap.size+2) 0 (eO zD)=X:=⟨_,rfl⟩;(rw[bo,L]);rw[L]at ab;have Q:Fr [w.heap.size+2] W y:=(by rw[<-L];exact(Fq [w.heap.size+2] W).setCells (.inl qs) _ _);have ac:=z.lres.fr Q qs;have ah:=z.eres.fr Q qs;have e0:y.cell? ⟨w.heap.size+3,0,none⟩=some (.slice none 0 0):=ac.c 0;have e1:=ac.f 0;obtain⟨m,ad⟩:∃X,y.setCell ⟨w.heap.size+3,0,none⟩ (.slice none 0 0)=X:=⟨_,rfl⟩;have V:Fr [w.heap.size+3] y m:=(by rw[<-ad];exact(Fq [w.heap.size+3] y).st _);have ao:BoxN m (w.heap.size+3) 303 #[.slice none 0 0]:=(by rw[<-ad];exact ac.setAt 0 _);have ae:=ah.fr V qs;have e2:m.cell? ⟨w.heap.size+4,0,none⟩=some (.int .i64 0):=ae.c 0;have e3:=ae.f 0;obtain⟨E,an⟩:∃X,m.setCell ⟨w.heap.size+4,0,none⟩ (.int .i64 35)=X:=⟨_,rfl⟩;have f3:Fr [w.heap.size+4] m E:=(by rw[<-an];exact(Fq [w.heap.size+4] m).st _);have aJ:BoxN E (w.heap.size+4) 40 #[.int .i64 35]:=(by rw[<-an];exact ae.setAt 0 _);have M:Fr [w.heap.size+2,w.heap.size+3,w.heap.size+4] W E:=(((Q.mono qs).trans V qs).trans f3 qs);have HE:=Hd (An (NEnd.mk (z.fr.trans M qs) (eT (eT ab V qs) f3 qs) (ao.fr f3 qs) aJ) M);clear ab L Q ac ah V ao ae f3 aJ M)
    replace H:=(HE.2.block T (Array.getElem?_eq_some_iff.1 H).1 (by simp;omega)).trans H
    have b:=HE.1;have a8:=Hd b;have a9:=Hd H;clear b H;refine⟨qs,.inl ⟨_,_,rfl,run_takeDeferred a9.out,?_⟩⟩;have Z:=λX=>i6 (r:=T) (S:=[T]) (.deferred none) (Fq [T] X) (.inl qs);have h5:=NEnd.fr1 a8.out (Z _) bh qo;have c2:=h5.lres.c 0;have c3:=h5.eres.c 0;refine⟨.tuple #[.agg (eO zD).toArray,.slice none 0 0,.int .i64 35],?_,λh=>absurd h bA,λ_=>⟨rfl,h5.fr⟩⟩;exact kE (p:=8) (q:=9) (u:=10) (t1:=57) (t2:=303) (t3:=40) (A1:=⟨w.heap.size+2,0,none⟩) (A2:=⟨w.heap.size+3,0,none⟩) (A3:=⟨w.heap.size+4,0,none⟩) rfl rfl rfl rfl (run_loadVar_mid _ _ 0 _ (eO zD) (.array 32 5) (fw h5.res rfl) qk rfl qk) (by simp[loadVar,go_sem,c2]) (by simp[loadVar,go_sem,c3])
   obtain rfl:N=U:=qo
   have dh:=mi bs I aL N;have⟨rr,av⟩:=eR (iE d bs I N);have C:rr.length=32:=by rw[<-av];exact dh
   rw[av]at b;have cX:=Hd av;clear av;have⟨o,K,l1,l2,l3⟩:=b.l;have⟨aV,ak⟩:=b.res;have lc:=l1.k0;have pc:=b.path.k0;have aK:(eO rr).length=32:=by rw[eP,C]
   have z:=Hd b;have bU:=Hd l1;have aH:=Hd (An l2 l3);have aU:=Hd ak;have HK:=Hd H;have HD:=Hd hD;clear b l1 l2 l3 ak H hD
   go_wp2
   have cD:W.rangeAt t 0 (eO rr):=fw z.root C;have hC:(λX:World=>X.cell? ⟨s,0,none⟩=some (.slice o N K)/\X.rangeAt t 0 (eO rr)) W.drew:=⟨lc,cD⟩;have HSS:=Hd (λ(X:World) (F:X.cell? ⟨s,0,none⟩=some (.slice o N K)/\X.rangeAt t 0 (eO rr))=>An F.1 trivial);clear lc pc;refine kj ?_;refine eU (λX:World=>X.cell? ⟨s,0,none⟩=some (.slice o N K)/\X.rangeAt t 0 (eO rr)) 4 qk ?_ qd;refine fm (i:=0) (v:=.agg (eO rr).toArray) qk fh rfl qd qk (λ_ _ _ h=>h) (yieldsIf_load_mid qr 57 (.tmp 12) rfl t (0) rfl (eO rr) (.array 32 5) (λX F=>F.2) qk rfl (by rw[aK];kernel_rfl)) (by assumption) ?_
   try simp only[qq]
   show fc 1 ..
   refine gJ rfl ?_;try simp only[qq];refine hO (i:=2) rfl λax H=>?_;have hZ:=HZ.out;have bj:=aU.drew;have a4:=fj (d:=rr) bj C;have ab:=fp (d:=rr) bj C;have⟨y,L⟩:=eR (W.drew.setCells (w.heap.size+2) 0 (eO rr));have Q:Fr [w.heap.size+2] W y:=by rw[<-L];exact(Fq [w.heap.size+2] W).drew.setCells (.inl qs) _ _
   rw[L]at a4 ab;have ce:y.cell? ⟨s,0,none⟩=some (.slice o N K)/\y.rangeAt t 0 (eO rr):=⟨(bU.fr Q (by simp;omega)).c 0,fw (eT z.root Q (by simp;omega)) C⟩;go_simp
   refine H _ _ ce ?_;clear H ax hC
   try simp only[qq]
   refine hO (i:=3) rfl λax H=>?_;have ac:=z.lres.fr Q qs;have e0:=ac.k0;have e1:y.frozen? ⟨w.heap.size+3,0,none⟩=false:=ac.f 0;have⟨m,ad⟩:=eR (y.setCell ⟨w.heap.size+3,0,none⟩ (.slice o N K));have V:Fr [w.heap.size+3] y m:=by rw[<-ad];exact(Fq [w.heap.size+3] y).st _
   have ao:BoxN m (w.heap.size+3) 303 #[.slice o N K]:=by rw[<-ad];exact ac.setAt 0 _
   have cf:m.cell? ⟨s,0,none⟩=some (.slice o N K)/\m.rangeAt t 0 (eO rr):=⟨((bU.fr Q (by simp;omega)).fr V (by simp;omega)).c 0,fw (eT (eT z.root Q (by simp;omega)) V (by simp;omega)) C⟩;go_simp
   refine H _ _ cf ?_;clear H ax
   try simp only[qq]
   refine eV ⟨qk,?_⟩;simp only[qG,qH];have ah:=(z.eres.fr Q qs).fr V qs;have e2:=ah.k0;have e3:m.frozen? ⟨w.heap.size+4,0,none⟩=false:=ah.f 0;have⟨E,an⟩:=eR (m.setCell ⟨w.heap.size+4,0,none⟩ (.int .i64 0));have f3:Fr [w.heap.size+4] m E:=by rw[<-an];exact(Fq [w.heap.size+4] m).st _
   have ae:BoxN E (w.heap.size+4) 40 #[.int .i64 0]:=by rw[<-an];exact ah.setAt 0 _
   have cl:=ao.fr f3 qs;have aI:=eT (eT ab.2 V qs) f3 qs;have M:Fr [w.heap.size+2,w.heap.size+3,w.heap.size+4] W E:=((Q.mono qs).trans V qs).trans f3 qs;have ca:T<W.heap.size:=(Array.getElem?_eq_some_iff.1 HK.out).1;have hD:=HD.out;have cb:E.heap[T]?=some (.deferred (some [])):=(M.block T ca (by simp;omega)).trans HK.out;have Z:Fr [T] E (E.putObj T (.deferred none)):=i6 _ (Fq _ _) (.inl qs);have⟨X4,az⟩:=eR (E.putObj T (.deferred none));rw[az]at Z;have cu:Fr [] w X4:=((z.fr.trans M qs).trans Z (by simp;omega));have bb:=Hd (An (fw (eT aI Z (by simp;omega)) C) (An (show X4.cell? ⟨w.heap.size+3,0,none⟩=some (.slice o N K)from(cl.fr Z (by simp;omega)).c 0) (show X4.cell? ⟨w.heap.size+4,0,none⟩=some (.int .i64 0)from(ae.fr Z (by simp;omega)).c 0)));have cO:=Hd cu
   have cA:Own X4 308 64 o N K (xV d bs I N):=(aH.1.fr M (λq G=>by have:=aH.2 q G;simp;omega)).fr Z (λq G=>by
    have dg:q≠T:=λhe=>by rw[he]at G;exact E0 aH.1 HK.out G
    simp only[ip];exact dg)
   have cT:=Hd cA;have cQ:=Hd cb;have cZ:=Hd az;clear bj ab Q ac V ao ah f3 ae cl aI M ca hD cb Z az cu cA hZ cD ce cf a4 L
   go_wp2
   refine⟨qs,.inl ⟨_,_,rfl,run_takeDeferred cQ.out,?_⟩⟩;rw[cZ.out];have c1:=bb.2.1;have c2:=bb.2.2;refine⟨.tuple #[.agg (eO rr).toArray,.slice o N K,.int .i64 0],?_,λ_=>⟨o,K,by rw[R.2.1,cX.out];rfl,cO.out,by rw[R.2.1];exact cT.out⟩,λh=>absurd (R.2.2.1.trans R.2.1.symm) h⟩;exact kE (p:=8) (q:=9) (u:=10) (t1:=57) (t2:=303) (t3:=40) (A1:=⟨w.heap.size+2,0,none⟩) (A2:=⟨w.heap.size+3,0,none⟩) (A3:=⟨w.heap.size+4,0,none⟩) rfl rfl rfl rfl (run_loadVar_mid X4 _ 0 _ (eO rr) (.array 32 5) bb.1 qk rfl (by rw[aK];kernel_rfl)) (by simp[loadVar,go_sem,c1]) (by simp[loadVar,go_sem,c2])
end Go.Proofs.YtlpmiimgacfmkaaGreatDoor
