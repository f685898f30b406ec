/- Part of the proof. -/
import Derived.Test.YtlpmiimgacfmkaaGreatDoorRVy1
set_option linter.all false
set_option maxHeartbeats 4000000
set_option maxRecDepth 100000
namespace Go.Proofs.YtlpmiimgacfmkaaGreatDoor
open Go.Proofs.Tryz
open Go.RowKit Go.Shelf
attribute [local go_sem] Oper.semAt_some
theorem xZ:∀ {xs:List Nm} {j:Nat} {x:Nm} {o:Nat},(∀y∈xs,y.length=32)->xs[j]?=some x->o<32->(xs.flatMap eP)[j*32+o]?=(eP x)[o]?
 | [],j,x,o,_,h,_=>by simp at h
 | y::r,0,x,o,a,h,b=>by
  simp at h;subst h
  rw[List.flatMap_cons,Nat.zero_mul,Nat.zero_add,List.getElem?_append_left (by rw[eU,a y qs];exact b)]
 | y::r,j+1,x,o,a,h,b=>by
  rw[List.flatMap_cons,List.getElem?_append_right (by rw[eU,a y qs,Nat.add_mul];omega),eU,a y qs,show (j+1)*32+o - 32=j*32+o by rw[Nat.add_mul];omega];exact xZ (λz c=>a z (by simp[c])) (by simpa using h) b
def jR(d:Nm)(bs:List Bool)(a:List Nm):Nat->Nm
 | 0=>d
 | k+1=>if bs.getD k false then ig (jR d bs a k) (a.getD k [])else ig (a.getD k []) (jR d bs a k)
theorem oB{d:Nm}(bs:List Bool)(b:List Nm)(a:d.length=32):∀k,(jR d bs b k).length=32
 | 0=>a
 | k+1=>by rw[jR];split <;> exact fw _
theorem zO(d:Nm){bs:List Bool}{a:List Nm}{k:Nat}{b:Bool}{p:Nm}(c:bs[k]?=some b)(e:a[k]?=some p):jR d bs a (k+1)=if b then ig (jR d bs a k) p else ig p (jR d bs a k):=by
 rw[jR,List.getD_eq_getElem?_getD,List.getD_eq_getElem?_getD,c,e];rfl
structure NSg(N:Nat)(w W:World)(B7 B8 B9 B10 B11 B12 g c D k:Nat)(r:Nm):Prop where
 fr:Fr [] w W
 path:BoxN W B7 51 #[.slice (some ⟨g,0,none⟩) N c]
 res:∃f,W.rowIs B8 57 32 f
 lres:BoxN W B9 303 #[.slice none 0 0]
 eres:BoxN W B10 40 #[.int .i64 0]
 l:∃Al cl xs,BoxN W B11 303 #[.slice Al k cl]/\Own W 308 64 Al k cl xs/\∀q∈eV Al,D+2<=q
 root:W.rowIs B12 57 32 (λj=>.int .u8 ((r.getD j 0).toNat:Int))
theorem NSg.fr2{N:Nat}{w W o:World}{j m n d e i g c D k:Nat}{r:Nm}(h:NSg N w W j m n d e i g c D k r)(a:Fr [D,D+1] W o)(F:w.heap.size<=D)(v:j<D)(x:m<D)(y:n<D)(s:d<D)(t:e<D)(u:i<D):NSg N w o j m n d e i g c D k r:=by
 have b:∀B,B<D->B ∉ [D,D+1]:=λB E=>by simp;omega
 obtain⟨f,A⟩:=h.res;obtain⟨p,q,xs,C,l2,l3⟩:=h.l;exact⟨h.fr.trans a (by simp;omega),h.path.fr a (b _ v),⟨f,eS A a (b _ x)⟩,h.lres.fr a (b _ y),h.eres.fr a (b _ s),⟨p,q,xs,C.fr a (b _ t),l2.fr a (λk z=>by have:=l3 k z;simp;omega),l3⟩,eS h.root a (b _ u)⟩
theorem Dl(d:Nm)(ab:List Nm)(i K N:Nat)(cb:Option Addr)(c:Nat)(w:World)(ar:Ok w)(hi:i<K)(dh:K<=1000)(cX:0<N)(dd:N<=1000)(bS:(bl i K).length=N)(cK:ab.length=N)(aW:d.length=32)(hp:∀p∈ab,p.length=32)(ho:Own w 57 32 cb N c (ab.flatMap eP)):
 Calls prog 178 #[fu d,.int .i64 (i:Int),.int .i64 (K:Int),.slice cb N c] w (Aw w (jR d (bl i K) ab N)):=by
 have cH:(eP d).length=32:=by rw[eU,aW]
 obtain⟨g,rfl,cI⟩:=Cs.of_own ho cX;unfold fu;obtain⟨w1,a8⟩:=eR (w.alloc (.cells (eP d).toArray 57));have cv:w1.rowIs w.heap.size 57 32 (λj=>.int .u8 ((d.getD j 0).toNat:Int)):=by rw[<-a8];exact gS w cH
 have aj:Fr [] w w1:=by rw[<-a8];exact(Fq [] w).alloc _
 have b4:w1.heap.size=w.heap.size+1:=by rw[<-a8];simp
 obtain⟨w2,a9⟩:=eR (w1.alloc (.cells #[.slice (some ⟨g,0,none⟩) N c] 51));have cC:BoxN w2 (w.heap.size+1) 51 #[.slice (some ⟨g,0,none⟩) N c]:=by rw[<-a9,<-b4];exact BoxN.new w1 _ _
 have M:Fr [] w1 w2:=by rw[<-a9];exact(Fq [] w1).alloc _
 have b5:w2.heap.size=w.heap.size+2:=by rw[<-a9];simp[b4]
 obtain⟨w3,ba⟩:=eR (w2.alloc (.cells (qm) 57));obtain⟨fR,aV⟩:∃f,w3.rowIs (w.heap.size+2) 57 32 f:=by rw[<-ba,<-b5];exact⟨_,gn w2 _ _⟩
 have ag:Fr [] w2 w3:=by rw[<-ba];exact(Fq [] w2).alloc _
 have b6:w3.heap.size=w.heap.size+3:=by rw[<-ba];simp[b5]
 obtain⟨w4,bb⟩:=eR (w3.alloc (.cells #[.slice none 0 0] 303));have cD:BoxN w4 (w.heap.size+3) 303 #[.slice none 0 0]:=by rw[<-bb,<-b6];exact BoxN.new w3 _ _
 have ak:Fr [] w3 w4:=by rw[<-bb];exact(Fq [] w3).alloc _
 have b7:w4.heap.size=w.heap.size+4:=by rw[<-bb];simp[b6]
 obtain⟨w5,bc⟩:=eR (w4.alloc (.cells #[.int .i64 0] 40));have cE:BoxN w5 (w.heap.size+4) 40 #[.int .i64 0]:=by rw[<-bc,<-b7];exact BoxN.new w4 _ _
 have ah:Fr [] w4 w5:=by rw[<-bc];exact(Fq [] w4).alloc _
 have aN:w5.heap.size=w.heap.size+5:=by rw[<-bc];simp[b7]
 have bQ:=jy (K:Int) 1 1048576 w5;have bR:=jy (i:Int) 0 ((K:Int) - 1) w5;rw[decide_eq_true (show (1:Int)<=(K:Int)/\(K:Int)<=1048576 by omega)]at bQ;rw[decide_eq_true (show (0:Int)<=(i:Int)/\(i:Int)<=(K:Int) - 1 by omega)]at bR;have di:IntKind.i64.wrap ((K:Int) - 1)=(K:Int) - 1:=by simp[IntKind.wrap,IntKind.bits,IntKind.signed];omega
 obtain⟨bs,bT⟩:=eR (bl i K);rw[bT]at bS ⊢;have au:=Hd (An bT (An bS (An cK hp)));have bV:=(ag.then ak).then ah;have bU:=M.then bV;have cl:=Hd (eS cv bU qs);have ce:=Hd (cC.fr bV qs);have bf:=Hd (eS aV (ak.then ah) qs);have ch:=Hd (cD.fr ah qs);have cc:=Hd cE;have aI:=Hd (aj.then bU);have cr:=Hd aN;have HW:=Hd (An a8 (An a9 (An ba (An bb bc))));have cp:=Hd bQ;have cq:=Hd bR;have bx:=Hd cI;have bd:=Hd ar;clear bT bS cK hp cv cC aV cD cE aj M ag ak ah bV bU b4 b5 b6 b7 aN a8 a9 ba bb bc bQ bR ho cI ar;refine(callsIn_wide (n:=5)).1 ?_;refine callsIn_of_wp_marks func178 rfl trivial ?_ rfl;simp only[ntmps178,List.size_toArray,List.length_cons,List.length_nil,Nat.reduceAdd,Nat.reduceSub,Array.replicate_succ,Array.replicate_zero,List.push_toArray,List.append_toArray,List.nil_append,List.cons_append];refine wpIn_wide.2 ?_
 go_upto_region 1 with fail
 rw[HW.out.1,HW.out.2.1,HW.out.2.2.1,HW.out.2.2.2.1,HW.out.2.2.2.2];simp only[Nat.add_assoc,Nat.reduceAdd]
 go_upto_region 4 with(first
  | (go_at_call 124;(with_reducible refine cp.out.mono ?_);rintro e w1 ⟨rfl,rfl⟩)
  | (go_at_call 124;(with_reducible refine cq.out.mono ?_);rintro e w1 ⟨rfl,rfl⟩))
 obtain⟨w6,b2,cB,bW⟩:=kS w5 #[.slice none 0 0] 303;have cO:w6.heap.size=w5.heap.size+1:=by rw[<-b2];simp
 rw[b2];obtain⟨w7,c8,bX,b1⟩:=qI w6 d aW;have aJ:=bW.then bX;have cm:=Hd (fH (eS cl.out bW qs) aW);have cf:=Hd (ce.out.fr aJ qs);have cn:=Hd (eS bf.out aJ qs);have ci:=Hd (ch.out.fr aJ qs);have cd:=Hd (cc.out.fr aJ qs);have bv:=Hd (cB.fr bX qs);have bF:=Hd b1;have cj:=Hd (aI.out.then aJ);have cs:=Hd (An cO b1.lt);have co:=Hd (λ(W:World)=>Ad (i:Int) (K:Int) W);clear b2 cB bW bX b1 aJ cO ce bf ch cc aI cl
 go_wp2_with (first
  | (with_reducible refine wpList_load_mid rfl 57 (.tmp 4) rfl w.heap.size 0 rfl (eP d) (.array 32 5) cm.out qk rfl (by rw[cH];kernel_rfl) ?_)
  | (go_at_call 218;(with_reducible refine(co.out _).mono ?_);rintro e H ⟨rfl,rfl⟩))
 obtain⟨H,aM⟩:=eR ((w7.alloc (.cells #[.int .i64 (i:Int)] 3)).alloc (.cells #[.int .i64 (K:Int)] 3));have aB:Fr [] w7 H:=by rw[<-aM];exact((Fq [] w7).alloc _).alloc _
 have cN:H.heap.size=w7.heap.size+2:=by rw[<-aM];simp
 have cY:BoxN H w7.heap.size 3 #[.int .i64 (i:Int)]:=by rw[<-aM];exact(BoxN.new w7 _ _).alloc _
 have cZ:BoxN H (w7.heap.size+1) 3 #[.int .i64 (K:Int)]:=by
  rw[<-aM];have h:=BoxN.new (w7.alloc (.cells #[.int .i64 (i:Int)] 3)) 3 #[.int .i64 (K:Int)]
  rwa [kX]at h
 rw[aM];obtain⟨o,bi⟩:=eR (w5.heap.size);obtain⟨s,bj⟩:=eR (w6.heap.size);have aN:=cr.out;have bu:=cs.out;rw[bj,bi]at bu;rw[bi]at aN bv;rw[bj]at bF;rw[bi,bj];have cQ:=bu.2;have cP:=bu.1
 have h0:NSg N w H (w.heap.size+1) (w.heap.size+2) (w.heap.size+3) (w.heap.size+4) o s g c H.heap.size 0 d :=
  ⟨cj.out.then aB,cf.out.fr aB qs,⟨_,eS cn.out aB qs⟩,ci.out.fr aB qs,cd.out.fr aB qs,⟨none,0,[],bv.out.fr aB qs,Own.nil _ _ _,by simp[eV]⟩,eS bF.out aB qs⟩
 have b3:w.heap.size<=H.heap.size:=h0.fr.size
 have hI:∀(k:Nat) (r:Nm) (W W':World),NSg N w W (w.heap.size+1) (w.heap.size+2) (w.heap.size+3) (w.heap.size+4) o s g c H.heap.size k r->Fr [H.heap.size,H.heap.size+1] W W'->NSg N w W' (w.heap.size+1) (w.heap.size+2) (w.heap.size+3) (w.heap.size+4) o s g c H.heap.size k r :=
  λk r W W' h hf=>h.fr2 hf b3 qo qo qo qo qo qo
 have HZ:=Hd (An aN (An cP (An cQ (An cN b3))));clear aN cP cQ cN b3;clear aM cf cn ci cd bv bF cj cm co c8 bi bj bu cs cr HW cp cq
 have cw:∀(k:Nat) (p:Nm),ab[k]?=some p->∀X,Fr [] w X->X.rangeAt g (k*32) (eP p):=λk p Y X y j v hv=>by
  have U:=au.out.2.2.2 p (iu Y);have hj:j<32:=by have:=(i9.1 hv).1;rw[eU,U]at this;exact this
  exact(bx.out.fr0 y).2 (k*32+j) v (by rw[xZ au.out.2.2.2 Y hj];exact hv)
 have cW:=au.out.1
 refine kK (a:=?aa) 5 bs (λx:Bool=>#[.bool x]) (lb:=#[.pointer (some ⟨w7.heap.size,0,none⟩),.pointer (some ⟨w7.heap.size+1,0,none⟩)]) ?_ (enters_of func258 qk rfl) ?_
  (λk W=>NSg N w W (w.heap.size+1) (w.heap.size+2) (w.heap.size+3) (w.heap.size+4) o s g c H.heap.size k (jR d bs ab k)) (λk W W' h hf=>hI k _ W W' h hf) h0
  (λl cV W hW _ hy hJ=>by have h:=FT 5 w7.heap.size (w7.heap.size+1) i K H hi qo cY cZ l cV W hW;rw[cW]at h;exact h hy hJ)
  (λk a' W=>(∃x:Bool,bs[k]?=some x/\a'={ tmps:=((Act.tmps ?aa).setIfInBounds 30 (.bool x)).setIfInBounds 13 (.bool x),defers:=[] })/\NSg N w W (w.heap.size+1) (w.heap.size+2) (w.heap.size+3) (w.heap.size+4) o s g c H.heap.size k (jR d bs ab k))
  (λk a' W W' h hf=>⟨h.1,hI k _ W W' h.2 hf⟩) ?_ ?_ ?_
 ·rfl
 ·intro x;rfl
 ·intro l k x W aq hx A c9 P
  gi_wp2_with fail
  exact P _ _ (Fq [] W) ⟨⟨x,hx,rfl⟩,A⟩
 ·intro l k x a' W hx hA c9
  obtain⟨⟨x',bt,rfl⟩,A⟩:=hA;simp only[qA,qB,qC];have da:x'=x:=by rw[hx]at bt;exact(Option.some.inj bt).symm
  subst da;have c4:k<N:=by have h:=(i9.1 hx).1;rw[au.out.2.1]at h;exact h
  obtain⟨b,bp⟩:∃p,ab[k]?=some p:=⟨_,gx (by rw[au.out.2.2.1];exact c4)⟩;have U:=au.out.2.2.2 b (iu bp);have D:=oB bs ab aW k;obtain⟨m,cM⟩:=eR (jR d bs ab k);have aE:=zO d bt bp;rw[cM]at aE A D;have de:((k:Int) == (N:Int))=false:=by simp;omega
  have df:(k:Int)<(N:Int):=qo
  have dg:k<1000:=qo
  clear hx bt cM
  cases x' with
  | false =>
   replace aE:jR d bs ab (k+1)=ig b m:=aE
   have ar:=bd.out.fr0 A.fr;obtain⟨t,G,xs,l1,l2,l3⟩:=A.l;have lc:=l1.k0;have pc:=A.path.k0;have am:W.rowIs s 57 32 (λj=>.int .u8 (((m).getD j 0).toNat:Int)):=A.root;have a6:W.rangeAt g (k*32) (eP b):=cw k b bp W A.fr;have aA:(eP (m)).length=32:=by rw[eU,D]
   have bo:(eP b).length=32:=by rw[eU,U]
   have E:=Hd A;have F:=Hd (An l1 (An l2 l3));have bE:=Hd a6;have aS:=Hd am;have bC:=Hd ar;clear A l1 l2 l3 ar a6 am
   gi_wp2_with fail
   have hC:Fr [] W W.drew:=(Fq [] W).drew;have HSS:=Hd (λ(X:World) (y:Fr [] W X)=>(show X.cell? ⟨o,0,none⟩=some (.slice t k G)/\X.cell? ⟨w.heap.size+1,0,none⟩=some (.slice (some ⟨g,0,none⟩) N c)from⟨(F.out.1.fr y qs).c 0,(E.out.path.fr y qs).c 0⟩));have bY:=(bx.out.fr0 E.out.fr).1;have bq:∀X,Fr [] W X->X.rangeAt g (k*32) (eP b):=λX y j v hv=>(y.cell bY qs).trans (bE.out j v hv);have br:∀X,Fr [] W X->X.rangeAt s 0 (eP (m)):=λX y=>fH (eS aS.out y qs) D;clear lc pc;refine fE (λX:World=>Fr [] W X) 8 qk qk (λ_ _ h=>by have Q:=And.left h;cases Q) ?_ qd
   show fb 0 ..
   iterate 4 (refine gB rfl ?_;try simp only[qq])
   refine fN (i:=4) (v:=.agg (eP b).toArray) qk fC rfl qd qk (λ_ _ _ h=>h) (yieldsIf_load_mid qr 57 (.tmp 40) rfl g ((k*32)) rfl (eP b) (.array 32 5) (bq) qk rfl (by rw[bo];kernel_rfl)) (by assumption) ?_
   try simp only[qq]
   refine fN (i:=5) (v:=.agg (eP (m)).toArray) qk fC rfl qd qk (λ_ _ _ h=>h) (yieldsIf_load_mid qr 57 (.tmp 12) rfl s (0) rfl (eP (m)) (.array 32 5) (br) qk rfl (by rw[aA];kernel_rfl)) (by assumption) ?_
   try simp only[qq]
   refine fN (i:=6) (v:=.agg (gu b (m)).toArray) qk fC rfl qd qk (λ_ _ _ h=>h) (Or.inl ⟨qr,λX y=>?_⟩) (by assumption) ?_
   ·have hb:=kC X U D
    simp[execOp,Act.eval,hb,Sem.run_bind,Result.andThen]
   try simp only[qq]
   refine hO (i:=7) rfl λaq P=>?_;go_simp
   obtain⟨L,S⟩:=eR ((W.alloc (.cells ((List.toArray (.int .u8 0::.int .u8 0::.int .u8 0::.int .u8 0::.int .u8 0::.int .u8 0::.int .u8 0::.int .u8 0::.int .u8 0::.int .u8 0::.int .u8 0::.int .u8 0::.int .u8 0::.int .u8 0::.int .u8 0::.int .u8 0::.int .u8 0::.int .u8 0::.int .u8 0::.int .u8 0::.int .u8 0::.int .u8 0::.int .u8 0::.int .u8 0::.int .u8 0::.int .u8 0::.int .u8 0::.int .u8 0::.int .u8 0::.int .u8 0::.int .u8 0::.int .u8 0::.int .u8 0::.int .u8 0::.int .u8 0::.int .u8 0::.int .u8 0::.int .u8 0::.int .u8 0::.int .u8 0::.int .u8 0::.int .u8 0::.int .u8 0::.int .u8 0::.int .u8 0::.int .u8 0::.int .u8 0::.int .u8 0::.int .u8 0::.int .u8 0::.int .u8 0::.int .u8 0::.int .u8 0::.int .u8 0::.int .u8 0::.int .u8 0::.int .u8 0::.int .u8 0::.int .u8 0::.int .u8 0::.int .u8 0::.int .u8 0::.int .u8 0::.int .u8 0::[]):Array Value)) 308)).drew);have aj:Fr [] W L:=by rw[<-S];exact((Fq [] W).alloc _).drew
   have aF:L.there W.heap.size 0 64:=by rw[<-S];exact th W rfl
   have a3:W.heap.size<L.heap.size:=by rw[<-S];simp[World.drew]
   rw[S];refine P _ _ aj ?_;clear P aq S hC
   try simp only[qq]
   refine eW ⟨qk,?_⟩;simp only[qG,qH];have Z:=mK U D;have ap:(gu b (m)).toArray.size=64:=by simpa using Z
   refine wpList_store_mid rfl 308 (.tmp 14) (.tmp 43) rfl W.heap.size 0 (gu b (m)).toArray rfl rfl (by rw[ap];exact aF) (by rw[ap];kernel_rfl) (all_oneCell_toArray (lj _ _)) ?_;obtain⟨C,af⟩:=eR (L.setCells W.heap.size 0 (gu b (m)).toArray.toList);have al:PairAt C W.heap.size b (m):=by rw[<-af];exact PairAt.put aF a3 U D
   have M:Fr [] W C:=by rw[<-af];exact aj.setCells (.inr (fV _)) _ _
   rw[af];clear af aF a3 aj HSS
   go_wp2_with fail
   obtain⟨ad,ax⟩:=eR (W.heap.size);rw[ax]at al ⊢;have aH:=Hd ax;clear ax;have aR:=Hd al;have ae:=Hd M;have lc:C.cell? ⟨o,0,none⟩=some (.slice t k G):=(F.out.1.fr M qs).c 0;have aU:=F.out.2.1.fr M qs;have bA:=Hd aU;clear al M aU;obtain⟨ii,bZ,b8,b9,ca⟩:=tg;have b0:(gu b m).length=1*64:=Z;have bJ:o ∉ eV t:=λT=>by have Q:=F.out.2.2 _ T;have R:=HZ.out;omega
   have bO:ad ∉ eV t:=λT=>by have Q:=F.out.2.1.lt _ T;have R:=aH.out;omega
   have bN:ad≠o:=by have R:=HZ.out;have h3:=aH.out;omega
   have bK:s ∉ [o]:=by have R:=HZ.out;simp;omega
   have bL:s ∉ eV t:=λT=>by have Q:=F.out.2.2 _ T;have R:=HZ.out;omega
   gi_wp2_with (first
    | (refine iZ rfl rfl ?_;(with_reducible refine wp_load_mid 308 (.tmp 14) rfl ad 0 rfl (gu b m) _ aR.out.rng underlying308 rfl (by rw[Z];kernel_rfl) ?_))
    | (refine iZ rfl rfl ?_;(with_reducible refine wp_load_mid 308 (.tmp 14) rfl ad 0 rfl (gu b m) _ bD.out.rng underlying308 rfl (by rw[Z];kernel_rfl) ?_))
    | (rw[tf (gu b m) _ (by rw[Z];rfl)];refine iZ rfl rfl ?_;(with_reducible refine lz (w:=C) (.tmp 52) (.tmp 54) 303 rfl 308 ii _ 64 64 underlying303 bZ b8 b9 ca rfl qd t k G xs rfl bA.out 1 1 (gu b m) 308 rfl b0 (lj _ _) (by unfold maxLen;omega) qo ?_);intro A3 c3 I a4 ag a7;have ao:=(F.out.1.fr ae.out qs).fr ag bJ;have db:I.cell? ⟨o,0,none⟩=some (.slice t k G):=ao.c 0;have dc:=ao.f 0;obtain⟨J,an⟩:∃X,I.setCell ⟨o,0,none⟩ (.slice A3 (k+1) c3)=X:=⟨_,rfl⟩;have av:Fr [o] I J:=(by rw[<-an];exact(Fq [o] I).st _);have bw:Hid (BoxN J o 303 #[.slice A3 (k+1) c3]):=Hd (by rw[<-an];exact ao.setAt 0 _);have bD:=Hd ((aR.out.fr ag bO).fr av (by simpa using bN));have aO:=Hd av;have HF3:=Hd ag;have bB:=Hd a4;have bI:=Hd a7;clear ao av ag a4 a7))
   have aY:Fr (eV t) W I:=(ae.out.mono qs).then HF3.out;have aC:Fr (o::eV t) W J:=(aY.mono (λk Y=>.inl (by simp[Y]))).trans aO.out qs
   have a5:Ok J:=bC.out.fr aC (by
    intro k Y;have h0:=bd.out.low;have R:=HZ.out
    rcases List.mem_cons.1 Y with h|h
    ·omega
    ·have:=F.out.2.2 _ h;omega)
   have aQ:=mg b m J a5 U D;refine⟨trivial,?_⟩;(with_reducible refine(CallsIn.inRound _ (callsIn_wide.2 aQ)).mono ?_);clear aQ;rintro e X5 ⟨rfl,ah⟩;unfold fu;have aD:Fr (o::eV t) W X5:=aC.trans ah qs;have bM:s ∉ o::eV t:=by simp only[List.mem_cons,not_or];exact⟨by simpa using bK,bL⟩
   have ay:=eS aS.out aD bM;have aL:=fc (d:=ig b m) ay (fw _);have ai:=fh (d:=ig b m) ay (fw _);obtain⟨X6,az⟩:=eR (X5.setCells s 0 (eP (ig b m)));have aT:Fr [s] X5 X6:=by rw[<-az];exact(Fq [s] X5).setCells (.inl qs) _ _
   rw[az]at aL ai;have bG:=Hd ai.2;have aP:=Hd aT;have bz:=Hd aD;have aI:=Hd ah;have c0:(eP (ig b m)).length=32:=by rw[eU];exact fw _
   clear az ai aT aD aC aY ah ay a5
   gi_wp2_with fail
   have O:Fr (s::o::eV t) W X6:=(bz.out.mono (λk Y=>.inl (List.mem_cons_of_mem _ Y))).trans aP.out qs;have hZ:=HZ.out
   have aZ:∀q∈s::o::eV t,q=s \/ q=o \/ H.heap.size+2<=q:=λq z=>by
    rcases List.mem_cons.1 z with h|z
    ·exact .inl h
    ·rcases List.mem_cons.1 z with h|z
     ·exact .inr (.inl h)
     ·exact .inr (.inr (F.out.2.2 q z))
   have ac:∀B,B≠s->B≠o->B<H.heap.size+2->B ∉ s::o::eV t:=λB Q R h3 T=>by
    rcases aZ B T with h|h|h
    ·exact Q h
    ·exact R h
    ·omega
   have aw:∀q∈eV A3,H.heap.size+2<=q:=λq z=>by
    rcases bI.out q z with h|h
    ·exact F.out.2.2 q h
    ·have:=ae.out.size;omega
   have aX:Fr [s] J X6:=(aI.out.mono qs).then aP.out;obtain⟨bh,aK⟩:=E.out.res
   try rw[aE]
   refine⟨⟨E.out.fr.trans O (λq z=>by rcases aZ q z with h|h|h <;> right <;> omega),E.out.path.fr O (ac _ qo qo qo),⟨bh,eS aK O (ac _ qo qo qo)⟩,E.out.lres.fr O (ac _ qo qo qo),E.out.eres.fr O (ac _ qo qo qo),⟨A3,c3,_,bw.out.fr aX (by simp;omega),(bB.out.fr aO.out (λq z=>by have:=aw q z;simp;omega)).fr aX (λq z=>by have:=aw q z;simp;omega),aw⟩,bG.out⟩,_,O,ac _ qo qo qo,ac _ qo qo qo⟩
  | true =>
   replace aE:jR d bs ab (k+1)=ig m b:=aE
   have ar:=bd.out.fr0 A.fr;obtain⟨t,G,xs,l1,l2,l3⟩:=A.l;have lc:=l1.k0;have pc:=A.path.k0;have am:W.rowIs s 57 32 (λj=>.int .u8 (((m).getD j 0).toNat:Int)):=A.root;have a6:W.rangeAt g (k*32) (eP b):=cw k b bp W A.fr;have aA:(eP (m)).length=32:=by rw[eU,D]
   have bo:(eP b).length=32:=by rw[eU,U]
   have E:=Hd A;have F:=Hd (An l1 (An l2 l3));have bE:=Hd a6;have aS:=Hd am;have bC:=Hd ar;clear A l1 l2 l3 ar a6 am
   gi_wp2_with fail
   have hC:Fr [] W W.drew:=(Fq [] W).drew;have HSS:=Hd (λ(X:World) (y:Fr [] W X)=>(show X.cell? ⟨o,0,none⟩=some (.slice t k G)/\X.cell? ⟨w.heap.size+1,0,none⟩=some (.slice (some ⟨g,0,none⟩) N c)from⟨(F.out.1.fr y qs).c 0,(E.out.path.fr y qs).c 0⟩));have bY:=(bx.out.fr0 E.out.fr).1;have bq:∀X,Fr [] W X->X.rangeAt g (k*32) (eP b):=λX y j v hv=>(y.cell bY qs).trans (bE.out j v hv);have br:∀X,Fr [] W X->X.rangeAt s 0 (eP (m)):=λX y=>fH (eS aS.out y qs) D;clear lc pc;refine fE (λX:World=>Fr [] W X) 8 qk qk (λ_ _ h=>by have Q:=And.left h;cases Q) ?_ qd
   show fb 0 ..
   iterate 4 (refine gB rfl ?_;try simp only[qq])
   refine fN (i:=4) (v:=.agg (eP b).toArray) qk fC rfl qd qk (λ_ _ _ h=>h) (yieldsIf_load_mid qr 57 (.tmp 40) rfl g ((k*32)) rfl (eP b) (.array 32 5) (bq) qk rfl (by rw[bo];kernel_rfl)) (by assumption) ?_
   try simp only[qq]
   refine fN (i:=5) (v:=.agg (eP (m)).toArray) qk fC rfl qd qk (λ_ _ _ h=>h) (yieldsIf_load_mid qr 57 (.tmp 12) rfl s (0) rfl (eP (m)) (.array 32 5) (br) qk rfl (by rw[aA];kernel_rfl)) (by assumption) ?_
   try simp only[qq]
   refine fN (i:=6) (v:=.agg (gu b (m)).toArray) qk fC rfl qd qk (λ_ _ _ h=>h) (Or.inl ⟨qr,λX y=>?_⟩) (by assumption) ?_
   ·have hb:=kC X U D
    simp[execOp,Act.eval,hb,Sem.run_bind,Result.andThen]
   try simp only[qq]
   refine hO (i:=7) rfl λaq P=>?_;go_simp
   obtain⟨L,S⟩:=eR ((W.alloc (.cells ((List.toArray (.int .u8 0::.int .u8 0::.int .u8 0::.int .u8 0::.int .u8 0::.int .u8 0::.int .u8 0::.int .u8 0::.int .u8 0::.int .u8 0::.int .u8 0::.int .u8 0::.int .u8 0::.int .u8 0::.int .u8 0::.int .u8 0::.int .u8 0::.int .u8 0::.int .u8 0::.int .u8 0::.int .u8 0::.int .u8 0::.int .u8 0::.int .u8 0::.int .u8 0::.int .u8 0::.int .u8 0::.int .u8 0::.int .u8 0::.int .u8 0::.int .u8 0::.int .u8 0::.int .u8 0::.int .u8 0::.int .u8 0::.int .u8 0::.int .u8 0::.int .u8 0::.int .u8 0::.int .u8 0::.int .u8 0::.int .u8 0::.int .u8 0::.int .u8 0::.int .u8 0::.int .u8 0::.int .u8 0::.int .u8 0::.int .u8 0::.int .u8 0::.int .u8 0::.int .u8 0::.int .u8 0::.int .u8 0::.int .u8 0::.int .u8 0::.int .u8 0::.int .u8 0::.int .u8 0::.int .u8 0::.int .u8 0::.int .u8 0::.int .u8 0::.int .u8 0::[]):Array Value)) 308)).drew);have aj:Fr [] W L:=by rw[<-S];exact((Fq [] W).alloc _).drew
   have aF:L.there W.heap.size 0 64:=by rw[<-S];exact th W rfl
   have a3:W.heap.size<L.heap.size:=by rw[<-S];simp[World.drew]
   rw[S];refine P _ _ aj ?_;clear P aq S hC
   try simp only[qq]
   refine eW ⟨qk,?_⟩;simp only[qG,qH];have Z:=mK U D;have ap:(gu b (m)).toArray.size=64:=by simpa using Z
   refine wpList_store_mid rfl 308 (.tmp 14) (.tmp 43) rfl W.heap.size 0 (gu b (m)).toArray rfl rfl (by rw[ap];exact aF) (by rw[ap];kernel_rfl) (all_oneCell_toArray (lj _ _)) ?_;obtain⟨C,af⟩:=eR (L.setCells W.heap.size 0 (gu b (m)).toArray.toList);have al:PairAt C W.heap.size b (m):=by rw[<-af];exact PairAt.put aF a3 U D
   have M:Fr [] W C:=by rw[<-af];exact aj.setCells (.inr (fV _)) _ _
   rw[af];clear af aF a3 aj HSS
   go_wp2_with fail
   obtain⟨ad,ax⟩:=eR (W.heap.size);rw[ax]at al ⊢;have aH:=Hd ax;clear ax
   gi_wp2_with fail
   have be:=Hd al;have ae:=Hd M;have hC:Fr [] C C.drew:=(Fq [] C).drew;have HSS:=Hd (λ(X:World) (y:Fr [] C X)=>(show X.cell? ⟨o,0,none⟩=some (.slice t k G)/\X.cell? ⟨w.heap.size+1,0,none⟩=some (.slice (some ⟨g,0,none⟩) N c)from⟨(F.out.1.fr (M.then y) qs).c 0,(E.out.path.fr (M.then y) qs).c 0⟩));have c6:∀X,Fr [] C X->X.rangeAt g (k*32) (eP b):=λX y=>bq X (ae.out.then y);have c7:∀X,Fr [] C X->X.rangeAt s 0 (eP (m)):=λX y=>br X (ae.out.then y);clear al M;refine fE (λX:World=>Fr [] C X) 7 qk qk (λ_ _ h=>by have Q:=And.left h;cases Q) ?_ qd;refine fN (i:=0) (v:=.agg (eP (m)).toArray) qk fC rfl qd qk (λ_ _ _ h=>h) (yieldsIf_load_mid qr 57 (.tmp 12) rfl s (0) rfl (eP (m)) (.array 32 5) (c7) qk rfl (by rw[aA];kernel_rfl)) (by assumption) ?_
   try simp only[qq]
   show fb 1 ..
   iterate 4 (refine gB rfl ?_;try simp only[qq])
   refine fN (i:=5) (v:=.agg (eP b).toArray) qk fC rfl qd qk (λ_ _ _ h=>h) (yieldsIf_load_mid qr 57 (.tmp 49) rfl g ((k*32)) rfl (eP b) (.array 32 5) (c6) qk rfl (by rw[bo];kernel_rfl)) (by assumption) ?_
   try simp only[qq]
   refine fN (i:=6) (v:=.agg (gu (m) b).toArray) qk fC rfl qd qk (λ_ _ _ h=>h) (Or.inl ⟨qr,λX y=>?_⟩) (by assumption) ?_
   ·have hb:=kC X D U
    simp[execOp,Act.eval,hb,Sem.run_bind,Result.andThen]
   try simp only[qq]
   refine eW ⟨qk,?_⟩;simp only[qG,qH];clear Z ap;have Z:=mK D U;have ap:(gu (m) b).toArray.size=64:=by simpa using Z
   refine wpList_store_mid rfl 308 (.tmp 14) (.tmp 51) rfl ad 0 (gu (m) b).toArray rfl rfl (by rw[ap];exact be.out.there) (by rw[ap];kernel_rfl) (all_oneCell_toArray (lj _ _)) ?_;obtain⟨bg,bk⟩:=eR (C.drew.setCells ad 0 (gu (m) b).toArray.toList);have al:PairAt bg ad (m) b:=by rw[<-bk];exact PairAt.put be.out.there be.out.lt D U
   have M:Fr [] W bg:=by rw[<-bk];exact ae.out.drew.setCells (.inr (by have:=aH.out;omega)) _ _
   rw[bk];clear bk be ae hC HSS
   go_wp2_with fail
   have aR:=Hd al;have ae:=Hd M;have lc:bg.cell? ⟨o,0,none⟩=some (.slice t k G):=(F.out.1.fr M qs).c 0;have aU:=F.out.2.1.fr M qs;have bA:=Hd aU;clear al M aU;obtain⟨ii,bZ,b8,b9,ca⟩:=tg;have b0:(gu m b).length=1*64:=Z;have bJ:o ∉ eV t:=λT=>by have Q:=F.out.2.2 _ T;have R:=HZ.out;omega
   have bO:ad ∉ eV t:=λT=>by have Q:=F.out.2.1.lt _ T;have R:=aH.out;omega
   have bN:ad≠o:=by have R:=HZ.out;have h3:=aH.out;omega
   have bK:s ∉ [o]:=by have R:=HZ.out;simp;omega
   have bL:s ∉ eV t:=λT=>by have Q:=F.out.2.2 _ T;have R:=HZ.out;omega
   gi_wp2_with (first
    | (refine iZ rfl rfl ?_;(with_reducible refine wp_load_mid 308 (.tmp 14) rfl ad 0 rfl (gu m b) _ aR.out.rng underlying308 rfl (by rw[Z];kernel_rfl) ?_))
    | (refine iZ rfl rfl ?_;(with_reducible refine wp_load_mid 308 (.tmp 14) rfl ad 0 rfl (gu m b) _ bD.out.rng underlying308 rfl (by rw[Z];kernel_rfl) ?_))
    | (rw[tf (gu m b) _ (by rw[Z];rfl)];refine iZ rfl rfl ?_;(with_reducible refine lz (w:=bg) (.tmp 52) (.tmp 54) 303 rfl 308 ii _ 64 64 underlying303 bZ b8 b9 ca rfl qd t k G xs rfl bA.out 1 1 (gu m b) 308 rfl b0 (lj _ _) (by unfold maxLen;omega) qo ?_);intro A3 c3 I a4 ag a7;have ao:=(F.out.1.fr ae.out qs).fr ag bJ;have db:I.cell? ⟨o,0,none⟩=some (.slice t k G):=ao.c 0;have dc:=ao.f 0;obtain⟨J,an⟩:∃X,I.setCell ⟨o,0,none⟩ (.slice A3 (k+1) c3)=X:=⟨_,rfl⟩;have av:Fr [o] I J:=(by rw[<-an];exact(Fq [o] I).st _);have bw:Hid (BoxN J o 303 #[.slice A3 (k+1) c3]):=Hd (by rw[<-an];exact ao.setAt 0 _);have bD:=Hd ((aR.out.fr ag bO).fr av (by simpa using bN));have aO:=Hd av;have HF3:=Hd ag;have bB:=Hd a4;have bI:=Hd a7;clear ao av ag a4 a7))
   have aY:Fr (eV t) W I:=(ae.out.mono qs).then HF3.out;have aC:Fr (o::eV t) W J:=(aY.mono (λk Y=>.inl (by simp[Y]))).trans aO.out qs
   have a5:Ok J:=bC.out.fr aC (by
    intro k Y;have h0:=bd.out.low;have R:=HZ.out
    rcases List.mem_cons.1 Y with h|h
    ·omega
    ·have:=F.out.2.2 _ h;omega)
   have aQ:=mg m b J a5 D U;refine⟨trivial,?_⟩;(with_reducible refine(CallsIn.inRound _ (callsIn_wide.2 aQ)).mono ?_);clear aQ;rintro e X5 ⟨rfl,ah⟩;unfold fu;have aD:Fr (o::eV t) W X5:=aC.trans ah qs;have bM:s ∉ o::eV t:=by simp only[List.mem_cons,not_or];exact⟨by simpa using bK,bL⟩
   have ay:=eS aS.out aD bM;have aL:=fc (d:=ig m b) ay (fw _);have ai:=fh (d:=ig m b) ay (fw _);obtain⟨X6,az⟩:=eR (X5.setCells s 0 (eP (ig m b)));have aT:Fr [s] X5 X6:=by rw[<-az];exact(Fq [s] X5).setCells (.inl qs) _ _
   rw[az]at aL ai;have bG:=Hd ai.2;have aP:=Hd aT;have bz:=Hd aD;have aI:=Hd ah;have c0:(eP (ig m b)).length=32:=by rw[eU];exact fw _
   clear az ai aT aD aC aY ah ay a5
   gi_wp2_with fail
   have O:Fr (s::o::eV t) W X6:=(bz.out.mono (λk Y=>.inl (List.mem_cons_of_mem _ Y))).trans aP.out qs;have hZ:=HZ.out
   have aZ:∀q∈s::o::eV t,q=s \/ q=o \/ H.heap.size+2<=q:=λq z=>by
    rcases List.mem_cons.1 z with h|z
    ·exact .inl h
    ·rcases List.mem_cons.1 z with h|z
     ·exact .inr (.inl h)
     ·exact .inr (.inr (F.out.2.2 q z))
   have ac:∀B,B≠s->B≠o->B<H.heap.size+2->B ∉ s::o::eV t:=λB Q R h3 T=>by
    rcases aZ B T with h|h|h
    ·exact Q h
    ·exact R h
    ·omega
   have aw:∀q∈eV A3,H.heap.size+2<=q:=λq z=>by
    rcases bI.out q z with h|h
    ·exact F.out.2.2 q h
    ·have:=ae.out.size;omega
   have aX:Fr [s] J X6:=(aI.out.mono qs).then aP.out;obtain⟨bh,aK⟩:=E.out.res
   try rw[aE]
   refine⟨⟨E.out.fr.trans O (λq z=>by rcases aZ q z with h|h|h <;> right <;> omega),E.out.path.fr O (ac _ qo qo qo),⟨bh,eS aK O (ac _ qo qo qo)⟩,E.out.lres.fr O (ac _ qo qo qo),E.out.eres.fr O (ac _ qo qo qo),⟨A3,c3,_,bw.out.fr aX (by simp;omega),(bB.out.fr aO.out (λq z=>by have:=aw q z;simp;omega)).fr aX (λq z=>by have:=aw q z;simp;omega),aw⟩,bG.out⟩,_,O,ac _ qo qo qo,ac _ qo qo qo⟩
 ·intro aG W hD A P
  rw[au.out.2.1]at A;have c5:=oB bs ab aW N;obtain⟨V,am⟩:=eR (jR d bs ab N);have D:V.length=32:=by rw[<-am];exact c5
  rw[am]at A;have cT:=Hd am;clear am;obtain⟨t,G,xs,l1,l2,l3⟩:=A.l;obtain⟨bh,aK⟩:=A.res;have lc:=l1.k0;have pc:=A.path.k0;have aA:(eP V).length=32:=by rw[eU,D]
  have E:=Hd A;have ck:=Hd l1;have bf:=Hd aK;have HK:=Hd P;have HD:=Hd hD;clear A l1 l2 l3 aK P hD
  go_wp2_with fail
  have cL:W.rangeAt s 0 (eP V):=fH E.out.root D;have hC:(λX:World=>X.cell? ⟨o,0,none⟩=some (.slice t N G)/\X.rangeAt s 0 (eP V)) W.drew:=⟨lc,cL⟩;have HSS:=Hd (λ(X:World) (y:X.cell? ⟨o,0,none⟩=some (.slice t N G)/\X.rangeAt s 0 (eP V))=>An y.1 trivial);clear lc pc;refine uq ?_;refine eZ (λX:World=>X.cell? ⟨o,0,none⟩=some (.slice t N G)/\X.rangeAt s 0 (eP V)) 4 qk ?_ qd;refine fN (i:=0) (v:=.agg (eP V).toArray) qk fC rfl qd qk (λ_ _ _ h=>h) (yieldsIf_load_mid qr 57 (.tmp 12) rfl s (0) rfl (eP V) (.array 32 5) (λX y=>y.2) qk rfl (by rw[aA];kernel_rfl)) (by assumption) ?_
  try simp only[qq]
  show fb 1 ..
  refine gB rfl ?_;try simp only[qq];refine hO (i:=2) rfl λaq P=>?_;have hZ:=HZ.out;have bP:=bf.out.drew;have aL:=fc (d:=V) bP D;have ai:=fh (d:=V) bP D;obtain⟨L,S⟩:=eR (W.drew.setCells (w.heap.size+2) 0 (eP V));have f1:Fr [w.heap.size+2] W L:=by rw[<-S];exact(Fq [w.heap.size+2] W).drew.setCells (.inl qs) _ _
  rw[S]at aL ai;have cx:L.cell? ⟨o,0,none⟩=some (.slice t N G)/\L.rangeAt s 0 (eP V):=⟨(ck.out.fr f1 (by simp;omega)).c 0,fH (eS E.out.root f1 (by simp;omega)) D⟩;go_simp
  refine P _ _ cx ?_;clear P aq hC
  try simp only[qq]
  refine hO (i:=3) rfl λaq P=>?_;have bn:=E.out.lres.fr f1 qs;have e0:=bn.k0;have e1:L.frozen? ⟨w.heap.size+3,0,none⟩=false:=bn.f 0;obtain⟨C,af⟩:=eR (L.setCell ⟨w.heap.size+3,0,none⟩ (.slice t N G));have f2:Fr [w.heap.size+3] L C:=by rw[<-af];exact(Fq [w.heap.size+3] L).st _
  have cF:BoxN C (w.heap.size+3) 303 #[.slice t N G]:=by rw[<-af];exact bn.setAt 0 _
  have cy:C.cell? ⟨o,0,none⟩=some (.slice t N G)/\C.rangeAt s 0 (eP V):=⟨((ck.out.fr f1 (by simp;omega)).fr f2 (by simp;omega)).c 0,fH (eS (eS E.out.root f1 (by simp;omega)) f2 (by simp;omega)) D⟩;go_simp
  refine P _ _ cy ?_;clear P aq
  try simp only[qq]
  refine eW ⟨qk,?_⟩;simp only[qG,qH];have bm:=(E.out.eres.fr f1 qs).fr f2 qs;have e2:=bm.k0;have e3:C.frozen? ⟨w.heap.size+4,0,none⟩=false:=bm.f 0;obtain⟨I,cz⟩:=eR (C.setCell ⟨w.heap.size+4,0,none⟩ (.int .i64 0));have f3:Fr [w.heap.size+4] C I:=by rw[<-cz];exact(Fq [w.heap.size+4] C).st _
  have cA:BoxN I (w.heap.size+4) 40 #[.int .i64 0]:=by rw[<-cz];exact bm.setAt 0 _
  have cG:=cF.fr f3 qs;have aV:=eS (eS ai.2 f2 qs) f3 qs;have O:Fr [w.heap.size+2,w.heap.size+3,w.heap.size+4] W I:=((f1.mono qs).trans f2 qs).trans f3 qs;have ct:aG<W.heap.size:=(Array.getElem?_eq_some_iff.1 HK.out).1;have hD:=HD.out;have cu:I.heap[aG]?=some (.deferred (some [])):=(O.block aG ct (by simp;omega)).trans HK.out;have ak:Fr [aG] I (I.putObj aG (.deferred none)):=jn _ (Fq _ _) (.inl qs);obtain⟨J,an⟩:=eR (I.putObj aG (.deferred none));rw[an]at ak;have cJ:Fr [] w J:=((E.out.fr.trans O qs).trans ak (by simp;omega));have bH:=Hd (An (fH (eS aV ak (by simp;omega)) D) (An (show J.cell? ⟨w.heap.size+3,0,none⟩=some (.slice t N G)from(cG.fr ak (by simp;omega)).c 0) (show J.cell? ⟨w.heap.size+4,0,none⟩=some (.int .i64 0)from(cA.fr ak (by simp;omega)).c 0)));have cR:=Hd cJ;have cS:=Hd cu;have cU:=Hd an;clear bP ai f1 bn f2 cF bm f3 cA cG aV O ct hD cu ak an cJ hZ cL cx cy aL S
  go_wp2_with fail
  refine⟨qs,.inl ⟨_,_,rfl,run_takeDeferred cS.out,?_⟩⟩;rw[cU.out];have c1:=bH.out.2.1;have c2:=bH.out.2.2;refine⟨.tuple #[.agg (eP V).toArray,.slice t N G,.int .i64 0],?_,.slice t N G,by rw[cT.out];rfl,cR.out⟩;exact rO (p:=8) (q:=9) (u:=10) (t1:=57) (t2:=303) (t3:=40) (A1:=⟨w.heap.size+2,0,none⟩) (A2:=⟨w.heap.size+3,0,none⟩) (A3:=⟨w.heap.size+4,0,none⟩) rfl rfl rfl rfl (run_loadVar_mid J _ 0 _ (eP V) (.array 32 5) bH.out.1 qk rfl (by rw[aA];kernel_rfl)) (by simp[loadVar,go_sem,c1]) (by simp[loadVar,go_sem,c2])
open Go.RowKit
theorem rr:∀(f u:Nat),u<128 ^ (f+1)->∀(l:Nm) (M:Nat),(gg u).length<=M+1->gH (gg u++l) M=(gg u).length - 1/\mo (gg u)=u/\(0<u->((gg u++l).getD ((gg u).length - 1) 0).toNat≠0)
 | f,u,c,l,M,b=>by
  by_cases h:u<128
  ·rw[mL h]
   have a:(UInt8.ofNat u).toNat=u:=by rw[UInt8.toNat_ofNat'];omega
   refine⟨?_,?_,?_⟩
   ·cases M with
    | zero=>rfl
    | succ M=>rw[List.singleton_append,gH,if_neg (by rw[a];omega)];rfl
   ·rw[mo,mo,a];omega
   ·intro i
    rw[List.singleton_append,show ([UInt8.ofNat u]:Nm).length - 1=0 from rfl,List.getD_cons_zero,a];omega
  ·rw[qL h]at b ⊢
   have a:(UInt8.ofNat (u % 128+128)).toNat=u % 128+128:=by rw[UInt8.toNat_ofNat'];omega
   have j:=rX (u / 128)
   cases f with
   | zero=>exact absurd (by simpa using c) h
   | succ f =>
    cases M with
    | zero=>rw[List.length_cons]at b;omega
    | succ M =>
     obtain⟨d,e,g⟩:=rr f (u / 128) (by rw[Nat.div_lt_iff_lt_mul qo,<-Nat.pow_succ];exact c) l M (by rw[List.length_cons]at b;omega);refine⟨?_,?_,?_⟩
     ·rw[List.cons_append,gH,if_pos (by rw[a];omega),d,List.length_cons];omega
     ·rw[mo,e,a];omega
     ·intro _
      rw[List.length_cons,List.cons_append,show (gg (u / 128)).length+1 - 1=((gg (u / 128)).length - 1)+1 by omega,List.getD_cons_succ];exact g qo
theorem rv{u:Nat}(h:u<=9223372036854775807)(l:Nm):fj (gg u++l)=(u,(gg u).length,0):=by
 have g:=fJ h;have i:=rX u;obtain⟨c,d,e⟩:=rr 8 u qo l 9 qo;unfold fj
 rw[c,if_neg qo,if_neg (by rw[gG];omega),if_neg (by
  rintro⟨b,f⟩;refine e ?_ f
  rcases Nat.eq_zero_or_pos u with a|a
  ·rw[a,mL qo]at b
   simp at b
  ·exact a),show (gg u).length - 1+1=(gg u).length by omega,List.take_left' rfl,d]
theorem kh{u m:Nat}(a:u<=9223372036854775807)(b:u<=m)(l:Nm)(p:Nat):ff m ⟨gg u++l,p,0⟩=((u:Int),⟨l,p+(gg u).length,0⟩):=by
 unfold ff gA mQ;simp only[rv a l];rw[if_neg qs,if_neg qo];simp
theorem zQ{s:Nm}{m:Nat}(a:s.length<=m)(h:s.length<=16777216)(l:Nm):jS m (iV s++l)=(s,(iV s).length,0):=by
 unfold jS iV;simp only[List.append_assoc,rv (u:=s.length) qo (s++l)];rw[if_neg qs,if_neg qo,if_neg (by simp only[gG];omega),List.drop_left' rfl,List.take_left' rfl,gG]
theorem lB{s:Nm}{m:Nat}(a:s.length<=m)(h:s.length<=16777216)(l:Nm)(p:Nat):gN m ⟨iV s++l,p,0⟩=(s,⟨l,p+(iV s).length,0⟩):=by
 unfold gN gA;simp only[zQ a h l,ne_eq,not_true,if_false,List.drop_left']
theorem vf(b:Bool){s:Nm}{m:Nat}(a:b=true->s.length<=m/\s.length<=16777216)(l:Nm)(p:Nat):(if b=true then gN m ⟨(if b=true then iV s else [])++l,p,0⟩else([],⟨(if b=true then iV s else [])++l,p,0⟩))=((if b=true then s else []),⟨l,p+(if b=true then iV s else []).length,0⟩):=by
 cases b with
 | true=>simp only[if_true];exact lB (a rfl).1 (a rfl).2 l p
 | false=>simp
theorem yb(b:Bool){u m:Nat}(a:b=true->u<=m/\u<=9223372036854775807)(l:Nm)(p:Nat):(if b=true then ff m ⟨(if b=true then gg u else [])++l,p,0⟩else((0:Int),⟨(if b=true then gg u else [])++l,p,0⟩))=((if b=true then(u:Int)else 0),⟨l,p+(if b=true then gg u else []).length,0⟩):=by
 cases b with
 | true=>simp only[if_true];exact kh (a rfl).2 (a rfl).1 l p
 | false=>simp
theorem xn(b:Bool)(l:Nm)(p:Nat):mq ⟨mX b::l,p,0⟩=(b,⟨l,p+1,0⟩):=by
 cases b <;> simp[mq,gA,lQ,mX]
theorem ua{n:ON}(h:eX n=0):∃k:Nat,n.kind=(k:Int)/\1<=k/\k<=20/\kT (us k) n=0:=by
 have b:iP n.kind=true:=by
  unfold eX at h
  by_cases a:iP n.kind=true
  ·exact a
  ·rw[if_neg a]at h
   simp at h
 unfold eX at h;rw[if_pos b]at h;simp only[iP,decide_eq_true_eq]at b;exact⟨n.kind.toNat,qo,qo,qo,h⟩
theorem mb{u:Usage}{n:ON}(h:kT u n=0):(u.owner=false->n.owner=[])/\(u.number=false->n.number=0)/\(u.index=false->n.index=0)/\(u.text=false->n.text=[]):=by
 unfold kT at h;refine⟨λe=>?_,λe=>?_,λe=>?_,λe=>?_⟩
 ·cases a:Ej u n with
  | true=>rw[a]at h;simp at h
  | false=>simpa [Ej,e,qg]using a
 ·cases a:Ek u n with
  | true=>rw[a]at h;revert h;cases Ej u n <;> simp
  | false=>simpa [Ek,e]using a
 ·cases a:EC u n with
  | true=>rw[a]at h;revert h;cases Ej u n <;> cases Ek u n <;> simp
  | false=>simpa [EC,e]using a
 ·cases a:Fa u n with
  | true=>rw[a]at h;revert h;cases Ej u n <;> cases Ek u n <;> cases EC u n <;> simp
  | false=>simpa [Fa,e,qg]using a
theorem BO{n:ON}(h:eX n=0):AM (jC n)=(n,0):=by
 obtain⟨k,o,v,p,c⟩:=ua h;have x:=iq (fi h);have w:=mM (k:=k) qo;obtain⟨d,f,t⟩:=jr c;obtain⟨g,i,j,l⟩:=mb c;have r:n.kind.toNat=k:=qo
 have b:∃q,AL (jC n)=(n,⟨[],q,0⟩):=by
  unfold AL jC wo;rw[r];simp only[List.append_assoc];rw[kh (u:=k) qo p];simp only[Int.toNat_natCast];rw[<-List.append_nil (if(us k).text=true then iV n.text else [])];unfold E8;simp only[];rw[vf (us k).owner (s:=n.owner) (m:=16777216) (λ_=>by omega)];simp only[]
  rw[yb (us k).number (u:=n.number.toNat) (m:=1073741824) (λe=>by
   have:=d e;simp only[fO,decide_eq_true_eq]at this;omega)]
  simp only[]
  rw[yb (us k).index (u:=n.index.toNat) (m:=(us k).most.toNat) (λe=>by
   have:=f e;simp only[fO,decide_eq_true_eq]at this;omega)]
  simp only[]
  rw[vf (us k).text (s:=n.text) (m:=32) (λe=>by
   have:=t e;simp only[jB,Bool.and_eq_true,decide_eq_true_eq]at this;omega)]
  refine⟨_,Prod.ext ?_ rfl⟩;obtain⟨z,B,A,y,C⟩:=n;simp only[ON.mk.injEq]at *;refine⟨o.symm,?_,?_,?_,?_⟩
  ·cases a:(us k).owner with
   | true=>rfl
   | false=>exact(g a).symm
  ·cases a:(us k).number with
   | true =>
    have:=d a;simp only[fO,decide_eq_true_eq]at this;simp only[if_true]
    omega
   | false=>exact(i a).symm
  ·cases a:(us k).index with
   | true =>
    have:=f a;simp only[fO,decide_eq_true_eq]at this;simp only[if_true]
    omega
   | false=>exact(j a).symm
  ·cases a:(us k).text with
   | true=>rfl
   | false=>exact(l a).symm
 obtain⟨q,b⟩:=b;unfold AM;rw[b,if_neg (by simp[kR,h])]
theorem zR{k:KY}(h:jE k=0)(l:Nm)(p:Nat):∃q,s8 ⟨lM k++l,p,0⟩=(k,⟨l,q,0⟩):=by
 obtain⟨_,b⟩:=gU h
 have a:(0<=k.rnd/\k.rnd<=1073741824)/\(0<=k.phase/\k.phase<=2)/\(0<=k.idx/\k.idx<=999999):=by
  unfold jE at h;split at h
  ·simp at h
  ·split at h
   ·simp at h
   ·split at h
    ·simp at h
    ·omega
 obtain⟨e,d,c,o⟩:=k;simp only at a b;obtain⟨⟨f,g⟩,⟨i,j⟩,m,n⟩:=a;unfold s8 lM;simp only[List.append_assoc];rw[kh (u:=e.toNat) qo qo];simp only[];rw[kh (u:=d.toNat) qo qo];simp only[];rw[kh (u:=c.toNat) qo qo];simp only[];rw[lB qo qo];refine⟨_,Prod.ext ?_ rfl⟩;simp only[KY.mk.injEq,and_true];omega
def Gg(r:RS)(c:CH)(b:RS):Prop:=∃tn r2 r3,gN 16777216 r=(tn,r2)/\AM tn=(c.n,0)/\mq r2=(c.a,r3)/\gN 65536 r3=(c.v,b)
inductive RdCs:RS->List CH->RS->Prop
 | nil (r:RS):RdCs r [] r
 | cons {r r1 r2:RS} {c:CH} {l:List CH} (h:Gg r c r1) (t:RdCs r1 l r2):RdCs r (c::l) r2
def F6(r:RS)(l:List CH)(a:RS):Prop:=∃r1,ff r.l.length r=((l.length:Int),r1)/\RdCs r1 l a
def FA(s:Nm)(a:AG):Prop:=∃r1 r2 r3,s8 ⟨s,0,0⟩=(a.k,r1)/\F6 r1 a.r r2/\F6 r2 a.w r3/\kR r3=0
theorem Dm{c:CH}(h:iQ c=true)(l:Nm)(p:Nat):∃q,Gg ⟨l5 c++l,p,0⟩ c ⟨l,q,0⟩:=by
 obtain⟨a,b⟩:=iR h;have d:=mD a;unfold l5;simp only[List.append_assoc,List.cons_append];exact⟨_,jC c.n,_,_,lB qo qo _ _,BO a,xn _ _ _,lB qo qo _ _⟩
theorem vg:∀(cs:List CH),(∀c∈cs,iQ c=true)->∀(l:Nm) (p:Nat),∃q,RdCs ⟨cs.flatMap l5++l,p,0⟩ cs ⟨l,q,0⟩
 | [],_,l,p=>⟨p,.nil _⟩
 | c::cs,h,l,p=>by
  rw[List.flatMap_cons,List.append_assoc];obtain⟨q,a⟩:=Dm (h c qs) (cs.flatMap l5++l) p;obtain⟨e,b⟩:=vg cs (λx d=>h x (by simp[d])) l q;exact⟨e,.cons a b⟩
theorem ye:∀cs:List CH,cs.length<=(cs.flatMap l5).length
 | []=>by simp
 | c::cs=>by
  have a:=ye cs;have b:1<=(l5 c).length:=by unfold l5;rw[gG,List.length_cons];omega
  rw[List.flatMap_cons,gG,List.length_cons];omega
theorem yg{cs:List CH}(h:iL none cs=true)(c:cs.length<=100000)(l:Nm)(p:Nat):∃q,F6 ⟨jA cs++l,p,0⟩ cs ⟨l,q,0⟩:=by
 unfold jA;rw[List.append_assoc];have b:=ye cs;obtain⟨q,a⟩:=vg cs (gC h) l (p+(gg cs.length).length);exact⟨q,_,kh qo (by simp only[gG];omega) _ _,a⟩
theorem BP{a:AG}(h:mN a=true)(g:a.r.length<=100000)(i:a.w.length<=100000):FA (fL a) a:=by
 obtain⟨e,f⟩:=gr h;unfold fL;rw[List.append_assoc];obtain⟨j,c⟩:=zR (j6 h) (jA a.r++jA a.w) 0;obtain⟨k,d⟩:=yg e g (jA a.w) j;obtain⟨l,b⟩:=yg f i [] k;rw[List.append_nil]at b;exact⟨_,_,_,c,d,b,by simp[kR]⟩
def yh(w:World)(a d b:Nat)(l:List CH)(f:RS)(e:Ending)(w':World):Prop :=
 ∃A c,e=.returned (.tuple #[.slice A l.length c,.bool true])/\RdS a d b f w'/\Fr [b] w w'/\Own w' 95 7 A l.length c (l.flatMap CH.cs)/\∀k∈eV A,w.heap.size<=k
theorem FB{α β:Type}{f:α->List β}{xs:List α}{j:Nat}{x:α}(a:xs[j]?=some x):(xs.take (j+1)).flatMap f=(xs.take j).flatMap f++f x:=by
 rw[List.take_add_one,a,List.flatMap_append];simp
theorem mU(O z b:Nat)(r L:RS)(l:List CH)(w:World)(aw:Ok w)(h:RdS O z b r w)(hc:z<=w.heap.size)(h6:6<=b)(hl:l.length<=100000)(hr:F6 r l L):Calls prog 177 #[.pointer (some ⟨b,0,none⟩)] w (yh w O z b l L):=by
 obtain⟨r1,av,F⟩:=hr;have hR:=Eb h;have Q:=jI h r.l.length;rw[av]at Q;obtain⟨n,S⟩:=eR (l.length);rw[S]at Q hl;have a3:b<z:=by obtain⟨_,_,_,q,_⟩:=h;exact q
 have am:=Hd hR;have HN:=Hd Q;have M:=Hd (An F S);have aM:=Hd (λ(W:World) (hW:Fr [b] w W)=>aw.fr1 hW h6);clear hR Q h aw av F;unfold yh;rw[S];clear S
 go_enter func177,ntmps177
 go_wp2_with (first
  | (go_at_call 216;(with_reducible refine am.out.mono ?_);rintro e w2 ⟨rfl,rfl⟩)
  | (go_at_call 50;(with_reducible refine HN.out.mono ?_);rintro e w3 ⟨rfl,J,ap⟩))
 have H3:=Hd (An J ap);clear J ap HN am
 go_loopw [4,12] (λs i W=>∃(j c:Nat) (A:Option Addr) (q:RS),j<=n/\i=.int .i64 (j:Int)/\s=.slice A j c/\RdS O z b q W/\RdCs q (l.drop j) L/\Own W 95 7 A j c ((l.take j).flatMap CH.cs)/\Fr [b] w W/\∀k∈eV A,w.heap.size<=k) (λ_ i _=>n - (intOf i).toNat)
 case atStart=>exact⟨0,0,none,r1,Nat.zero_le _,rfl,rfl,H3.out.1,M.out.1,Own.nil _ _ _,H3.out.2,by simp[eV]⟩
 case round =>
  obtain⟨j,c,A,q,hj,rfl,rfl,J,F,ho,ar,hA⟩:=hrel;have a:=Hd (An J (An F (An ho (An ar hA))));clear J F ho ar hA
  by_cases au:j<n
  ·have a4:(j:Int)<(n:Int):=qo
   obtain⟨x,p⟩:∃x,l[j]?=some x:=⟨_,gx (by rw[M.out.2];exact au)⟩
   have ao:l.drop j=x::l.drop (j+1):=by
    have m:=i9.1 p;rw[List.drop_eq_getElem_cons m.1,m.2]
   have ab:=a.out.2.1;rw[ao]at ab
   obtain⟨V,aF,tn,q2,q3,P,D,E,e4⟩:∃V,RdCs V (l.drop (j+1)) L/\Gg q x V:=by
    cases ab with
    | cons h t=>exact⟨_,t,h⟩
   have C:=Hd (An aF (An p au));obtain⟨⟨k,ow,U,T,tx⟩,v,aR⟩:=x;simp only at D E e4;obtain⟨X,aB,_,_⟩:=eT ow;obtain⟨Y,aD,_,_⟩:=eT tx;obtain⟨sv,aE,_,_⟩:=eT v;have d:=oT a.out.1 16777216;rw[P,show (((16777216:Nat)):Int)=16777216 from rfl]at d;obtain⟨ts,aG,aH,a6⟩:=eT tn;simp only at d;rw[aG]at d;have a5:tn.length<=16777216:=by have:=nM 16777216 q;rw[P]at this;exact this
   have N:=Hd d;have HE:=Hd (An D (An E e4));have u:=Hd (An aB (An aD aE));have aQ:=Hd aH;clear d aG aH P D E e4 aF p ao ab aB aD aE
   go_upto_region 5 with(first
    | (go_at_call 49;(with_reducible refine N.out.mono ?_);rintro e w4 ⟨rfl,ax,G⟩;have HD:=Hd (wt ts w4 (aM.out w4 (a.out.2.2.2.1.then G)) qo))
    | (go_at_call 48;have hD:=HD.out;rw[aQ.out,HE.out.1]at hD;(with_reducible refine hD.mono ?_);clear hD;rintro e w5 ⟨rfl,H⟩;unfold fg;simp only[u.out.1,u.out.2.1]))
   have aU:b<w5.heap.size:=by
    have P:=a.out.2.2.2.1.size;have D:=G.size;have E:=H.size;omega
   obtain⟨w6,aI,af,ac⟩:=kS w5 #[.int .i64 k,.string X,.int .i64 U,.int .i64 T,.string Y] 31;have aq:Fr [b] wr w6:=G.trans (H.then ac) qs;have ay:=(ax.fr0 H).fr0 ac
   have ag:w5.heap.size ∉ b::eV A:=by
    intro g
    rcases List.mem_cons.1 g with h|h
    ·omega
    ·have m:=a.out.2.2.1.lt _ h
     have D:=G.size;have E:=H.size;omega
   rw[aI];generalize w5.heap.size=Z at af ag ⊢;have aa:=Ea ay;rw[HE.out.2.1]at aa;have al:=Hd aa;have ah:=Hd aq;have an:=Hd af;clear ax G H aI af ac aq ay aa N HD aU
   go_upto_region 8 with((go_at_call 217;(with_reducible refine al.out.mono ?_);rintro e B ⟨rfl,az,ad⟩))
   have d:=λW (hW:Fr [] B W)=>oT (az.fr0 hW) 65536;rw[HE.out.2.2,show (((65536:Nat)):Int)=65536 from rfl]at d;simp only[u.out.2.2]at d;have N:=Hd d;have aJ:=an.out.fr ad (λg=>ag (by rw[gI]at g;simp[g]));have ai:=Hd (ah.out.then ad)
   have aC:∀W,Fr (b::eV A) B W->W.cell? ⟨Z,0,none⟩=some (.int .i64 k)/\W.cell? ⟨Z,1,none⟩=some (.string X)/\W.cell? ⟨Z,2,none⟩=some (.int .i64 U)/\W.cell? ⟨Z,3,none⟩=some (.int .i64 T)/\W.cell? ⟨Z,4,none⟩=some (.string Y):=λW hf=>by
    have h:=aJ.fr hf ag;exact⟨h.c 0,h.c 1,h.c 2,h.c 3,h.c 4⟩
   have HSS:=Hd aC;have aS:b ∉ eV A:=λg=>by have:=a.out.2.2.2.2 b g;omega
   have aN:=Hd (λ(W:World) (hW:Fr [b] B W)=>a.out.2.2.1.fr (ai.out.then hW) (λq hq g=>by rw[gI]at g;subst g;exact aS hq));clear d aJ aC az ad al ah an;obtain⟨ii,aV,aX,aY,aZ⟩:=oK
   go_region_held3 (λW=>W.cell? ⟨Z,0,none⟩=some (.int .i64 k)/\W.cell? ⟨Z,1,none⟩=some (.string X)/\W.cell? ⟨Z,2,none⟩=some (.int .i64 U)/\W.cell? ⟨Z,3,none⟩=some (.int .i64 T)/\W.cell? ⟨Z,4,none⟩=some (.string Y)) (with_reducible refine HSS.out _ ?_;(repeat(first|exact Fq _ _|exact aj.out|exact aK.out|refine Fr.drew ?_|refine Fr.alloc ?_ _|refine Fr.then ?_ o.undrew));done) (first
    | (go_at_call 49;(with_reducible refine(N.out _ (Fq [] B).drew).mono ?_);rintro e w8 ⟨rfl,aW,o⟩;have aj:Hid (Fr (b::eV A) B w8):=Hd (o.undrew.mono (λk R=>.inl (by rw[gI]at R;simp[R]))))
    | (rw[if_pos qr];(with_reducible refine lz (w:=w8) (.tmp 24) (.tmp 30) 62 rfl 95 ii _ 7 80 underlying62 aV aX aY aZ rfl qd A j c ((l.take j).flatMap CH.cs) rfl (aN.out w8 o.undrew) 1 1 [.int .i64 k,.string X,.int .i64 U,.int .i64 T,.string Y,.string sv,.bool aR] 95 rfl rfl (by simp[Value.oneCell']) (by unfold maxLen;omega) qo ?_);intro A2 c2 w9 I ae aA;have aL:=Hd I;have aK:Hid (Fr (b::eV A) B w9):=Hd (aj.out.trans ae (λk R=>.inl (by simp[R])));have ak:=Hd ae;have aP:=Hd aA;have aO:=Hd aW;clear I ae aA))
   go_wp2_with fail
   go_roundw
   case rel =>
    have p:=FB (f:=CH.cs) C.out.2.1;unfold CH.cs at p;simp only[u.out.1,u.out.2.1,u.out.2.2]at p;have I:=aL.out;have aT:∀y∈eV A,y<O \/ z<=y:=λy K=>by have:=a.out.2.2.2.2 y K;omega
    have o:=a.out.2.2.2.1.then (ai.out.then o.undrew);refine⟨j+1,c2,A2,V,qo,by go_num,rfl,aO.out.fr ak.out aT,C.out.1,?_,o.trans ak.out (λy K=>.inr (a.out.2.2.2.2 y K)),λy K=>?_⟩
    ·unfold CH.cs at I ⊢
     rw[p];exact I
    ·rcases aP.out y K with h|h
     ·exact a.out.2.2.2.2 y h
     ·have:=o.size;omega
   case measure=>simp[intOf];omega
  ·obtain rfl:j=n:=qo
   have m:=a.out.2.1;have h2:=a.out.2.2.1;rw[List.drop_eq_nil_of_le (by rw[M.out.2];exact fV _)]at m;rw[List.take_of_length_le (by rw[M.out.2];exact fV _)]at h2;have h3:q=L:=by cases m;rfl
   have C:=Hd (An h2 h3);clear m h2 h3
   go_wp2_with fail
   go_ret2
   exact⟨A,c,rfl,by rw[<-C.out.2];exact a.out.1,a.out.2.2.2.1,C.out.1,a.out.2.2.2.2⟩
end Go.Proofs.YtlpmiimgacfmkaaGreatDoor
