import Derived.Test.YtlpmiimgacfmkaaGreatDoorOTx1
import Derived.Test.YtlpmiimgacfmkaaGreatDoorOVy6
import Derived.Test.YtlpmiimgacfmkaaGreatDoorOCa1
import Derived.Test.YtlpmiimgacfmkaaGreatDoorOMaps3
import Derived.Test.YtlpmiimgacfmkaaGreatDoorORm0
set_option linter.all false
namespace Go.Proofs.YtlpmiimgacfmkaaGreatDoor
set_option maxRecDepth 100000
set_option maxHeartbeats 8000000
open Go.Proofs.Tryz
open Go.RowKit Go.Shelf
def fH(x:LK):Nm:=(([32]++eU x.f)++[58])++fL x.n
def fh(a:List LK)(i:Nat):Nm:=(a.filter λx=>decide (x.t=i)).flatMap fH
def eY(a:List LK)(p:Nat×KY):Nm:=((((eU (p.1:Int))++[32])++fb p.2)++fh a p.1)++[10]
def eT(b:UInt8)(a:Int):Nm:=((([98,121,116,101,32]++eU (b.toNat:Int))++[32,102,114,111,109,32])++eU a)++[10]
def fm(b:UInt8)(d:Int)(is:List Nat)(a:List KY)(c:List LK):Nm:=eT b d++(is.zip a).flatMap (eY c)
structure LkOk(x:LK):Prop where
 f:gc x.f
 n:checkO x.n=0
 t:x.t<=1000000
 tx:x.n.text.length<=1000
theorem fo{α:Type}(f:α->Nm)(c:Nat):∀(l:List α),(∀x∈l,(f x).length<=c)->(l.flatMap f).length<=l.length*c
 |[],_=>by simp
 |x::l,h=>by
  have b:=fo f c l λy a=>h y (by simp[a]);have d:=h x qs;simp only[List.flatMap_cons,lla,List.length_cons,Nat.add_mul,Nat.one_mul];omega
theorem fN{n:ON}(b:checkO n=0)(s:n.text.length<=1000):(fL n).length<=2000:=by
 have r:=valid_len (valid_of_check b);obtain⟨k,e,o,p,g⟩:=kind_of b;have c:=checkU_zero g;have q:=us_most (k:=k) qo;have t:=ip k qo;unfold fL im;rw[e,Int.toNat_natCast]
 have f:(us k).number=true->(eU n.number).length<=21:=λh=>by
  have:=c.1 h;simp only[withinB,decide_eq_true_eq]at this;exact eR qo qo
 have d:(us k).index=true->(eU n.index).length<=21:=λh=>by
  have:=c.2.1 h;simp only[withinB,decide_eq_true_eq]at this;exact eR qo qo
 simp only[lla]
 have i:(if(us k).owner=true then 32::(if n.owner=[]then [48]else n.owner)else([]:Nm)).length<=100:=by
  split
  ·split <;> simp <;> omega
  ·simp
 have j:(if((us k).number && (us k).owner)=true then 35::eU n.number else if(us k).number=true then 32::eU n.number else([]:Nm)).length<=22:=by
  cases a:(us k).number with
  |false=>simp
  |true=>
   have:=f a
   cases (us k).owner <;> simp <;> omega
 have l:(if(us k).index=true then 32::eU n.index else([]:Nm)).length<=22:=by
  cases a:(us k).index with
  |false=>simp
  |true=>have:=d a;simp;omega
 have m:(if(us k).text=true then 32::n.text else([]:Nm)).length<=1001:=by
  split <;> simp
  omega
 omega
theorem gJ{x:LK}(h:LkOk x):(fH x).length<=2100:=by
 have a:=eR h.f.1 h.f.2;have b:=fN h.n h.tx;unfold fH;simp only[lla,List.length_cons,List.length_nil];omega
theorem gj{l:List LK}(i:Nat)(h:∀x∈l,LkOk x)(d:l.length<=200):(fh l i).length<=420000:=by
 have b:=fo fH 2100 (l.filter λx=>decide (x.t=i)) λx a=>gJ (h x ((List.mem_filter.1 a).1));have c:=List.length_filter_le (λx=>decide (x.t=i)) l;unfold fh;omega
theorem fu(b:UInt8){a:Int}(h:gc a):(eT b a).length<=100:=by
 have c:=eR (n:=(b.toNat:Int)) qo (by have:=b.toNat_lt;omega);have d:=eR h.1 h.2;unfold eT;simp only[lla,List.length_cons,List.length_nil];omega
theorem gm{l:List LK}{p:Nat×KY}(h:∀x∈l,LkOk x)(b:l.length<=200)(f:p.1<=1000000)(a:KeyOk p.2):(eY l p).length<=430000:=by
 have c:=eR (n:=(p.1:Int)) qo qo;have d:=fM a;have e:=gj p.1 h b;unfold eY;simp only[lla,List.length_cons,List.length_nil];omega
theorem fO(l:List LK)(x:LK)(i:Nat):fh (l++[x]) i=fh l i++(if x.t=i then fH x else []):=by
 unfold fh;rw[List.filter_append,List.flatMap_append]
 by_cases h:x.t=i <;> simp[h]
def iC(k:KY):List Value:=[.int .i64 k.rnd,.int .i64 k.phase,.int .i64 k.idx,encN k.lin]
theorem gL(k:KY):(iC k).length=4:=rfl
theorem gM(x:LK):x.cs.length=7:=rfl
theorem gn(is:List Nat):fp is=is.flatMap λi:Nat=>[.int .i64 (i:Int)]:=by
 unfold fp
 induction is with
 |nil=>rfl
 |cons a r b=>rw[List.map_cons,b];rfl
def iq(b:UInt8)(l:Int)(I:Option Addr)(i e:Nat)(K:Option Addr)(j f:Nat)(c:Option Addr)(k g:Nat)(a:Option Addr)(h d:Nat):Value:=.agg #[.int .u8 (b.toNat:Int),.int .i64 l,.slice I i e,.slice K j f,.slice c k g,.slice a h d]
theorem ir(b:UInt8)(E:Int)(af K LA AA:Option Addr)(L ic A aF D lc na aJ:Nat)(is:List Nat)(z:List KY)(q:List LK)(w:World)(a5:Ok w)(hp:Pw w)(ax:gc E)
 (hI:Rd w 1 af L (fp is)) (d:Rd w 4 K A (z.flatMap iC)) (hL:Rd w 7 LA D (q.flatMap LK.cs)) (e1:is.length=L) (e2:z.length=A) (e3:q.length=D) (aw:A<=L) (bM:L<=100) (hl:D<=200)
 (hi:∀i∈is,i<=1000000) (Z:∀k∈z,KeyOk k) (aZ:∀x∈q,LkOk x) :
 Calls prog 31 #[iq b E af L ic K A aF LA D lc AA na aJ] w (RetPost w (encN (fm b E is z q))):=by
 unfold iq;obtain⟨V,bj,bL,n1,Q⟩:=bxz w #[.int .u8 (b.toNat:Int),E,.slice af L ic,.slice K A aF,.slice LA D lc,.slice AA na aJ] 64 w.heap.size
 have HSS:=Hd (λ(W:World) (hW:Fr [] V W)=>(show W.cell? ⟨w.heap.size,0,none⟩=some (.int .u8 (b.toNat:Int))/\W.cell? ⟨w.heap.size,1,none⟩=some E/\W.cell? ⟨w.heap.size,2,none⟩=some (.slice af L ic)/\W.cell? ⟨w.heap.size,3,none⟩=some (.slice K A aF)/\W.cell? ⟨w.heap.size,4,none⟩=some (.slice LA D lc)from by
  have h:=n1.fr hW qs;exact⟨h.c 0,h.c 1,h.c 2,h.c 3,h.c 4⟩))
 have aK:∀(n:Int) (s:ByteArray) (W:World),gc n->encN (eU n)=s->Fr [] V W->Calls prog 81 #[n] W (RetPost W s):=λn s W aw hs hW=>by
  have h:=fK n W aw.1 aw.2 (hp.fr0 (Q.then hW));rw[hs]at h;exact h
 have X:=Hd aK;have bt:=Hd Q;have aI:=Hd bj;have HM:=Hd (An (hI.fr0 Q) (An (d.fr0 Q) (hL.fr0 Q)));have r:=Hd (An e1 (An e2 (An e3 (An hi (An Z aZ)))));have HO:=Hd (An (a5.fr0 Q) (hp.fr0 Q));have aH:=Hd ax;have C:=(Fq [] V).drew;have ab:gc (b.toNat:Int):=⟨qo,by have:=b.toNat_lt;omega⟩;obtain⟨bv,ap⟩:∃v:Int,(b.toNat:Int)=v:=⟨_,rfl⟩;have bs:=Hd ap;rw[ap]at HSS aI ab ⊢;obtain⟨U,a8,_,bq⟩:=str_of (eU bv);obtain⟨s2,a9,_,br⟩:=str_of (eU E);have bN:U.size<=21:=by rw[bq];exact eR ab.1 ab.2
 have bO:s2.size<=21:=by rw[br];exact eR ax.1 ax.2
 clear aK Q bj n1 bL hp a5 hI d hL e1 e2 e3 hi Z aZ bq br ap
 go_enter func31,ntmps31
 go_upto_region 1 with fail
 rw[aI.out];have bJ:IntKind.i64.wrap bv=bv:=by simp only[IntKind.wrap_i64];unfold gc at ab;omega
 have c1:¬9223372036854775807<5+U.size:=qo
 have c2:¬9223372036854775807<5+U.size+6:=qo
 have c3:¬9223372036854775807<5+U.size+6+s2.size:=qo
 have c4:¬9223372036854775807<5+U.size+6+s2.size+1:=qo
 refine wp_region_head (λW:World=>Fr [] V W) 11 qk ?_ qd
 show headJ 0 ..
 iterate 3 (refine hdL rfl ?_;try simp only[qq])
 show headJ 6 ..
 iterate 2 (refine hdL rfl ?_;try simp only[qq])
 refine hO (i:=3) rfl λK d=>?_;go_simp
 go_at_call 81
 (with_reducible refine(X.out bv U _ ab a8 C).mono ?_);rintro e y1 ⟨rfl,R⟩;have y:=C.then R;refine d _ _ y ?_;clear d K
 try simp only[qq]
 show headJ 4 ..
 iterate 2 (refine hdL rfl ?_;try simp only[qq])
 refine hO (i:=8) rfl λK d=>?_;go_simp
 go_at_call 81
 (with_reducible refine(X.out E s2 _ aH.out a9 y).mono ?_);rintro e y2 ⟨rfl,S⟩;have I:=y.then S;refine d _ _ I ?_;clear d K
 try simp only[qq]
 show headJ 9 ..
 iterate 2 (refine hdL rfl ?_;try simp only[qq])
 refine headI_done ⟨qk,?_⟩;simp only[qG,qH]
 have hh:Value.string ((((⟨#[98,121,116,101,32]⟩++U)++⟨#[32,102,114,111,109,32]⟩)++s2)++⟨#[10]⟩)=encN (eT b E):=by
  unfold eT;rw[bs.out];exact eP (eP (eP (eP (eS [98,121,116,101,32]) a8).symm (eS [32,102,114,111,109,32])).symm a9).symm (eS [10])
 obtain⟨sh,ba⟩:∃s:ByteArray,(((⟨#[98,121,116,101,32]⟩++U)++⟨#[32,102,114,111,109,32]⟩)++s2)++⟨#[10]⟩=s:=⟨_,rfl⟩;rw[ba]at hh ⊢;have HH:=Hd (An hh I);clear hh ba C y I R S c1 c2 c3 c4 bJ
 go_upto_region 3 with fail
 go_loopw [3,4] (λs ix W=>∃i:Nat,i<=A/\ix=i/\s=encN (eT b E++((is.zip z).take i).flatMap (eY q))/\Fr [] V W) (λ_ ix _=>A-(intOf ix).toNat)
 case atStart=>exact⟨0,Nat.zero_le _,rfl,by rw[List.take_zero,List.flatMap_nil,List.append_nil];exact HH.out.1,HH.out.2⟩
 case round=>
  obtain⟨i,hi,rfl,rfl,ar⟩:=hrel;have b1:(is.zip z).length=A:=by rw[List.length_zip,r.out.1,r.out.2.1];omega
  have a6:(eT b E++((is.zip z).take i).flatMap (eY q)).length<=50000000:=by
   have h1:=fu b aH.out
   have h2:=fo (eY q) 430000 ((is.zip z).take i) λp hp=>by
    have hm:=List.mem_of_mem_take hp;exact gm r.out.2.2.2.2.2 (by rw[r.out.2.2.1];exact hl) (r.out.2.2.2.1 p.1 (List.of_mem_zip hm).1) (r.out.2.2.2.2.1 p.2 (List.of_mem_zip hm).2)
   have h3:((is.zip z).take i).length<=100:=by rw[List.length_take];omega
   rw[lla];omega
  obtain⟨aG,az⟩:=nmd (eT b E++((is.zip z).take i).flatMap (eY q));rw[az]at a6 ⊢;obtain⟨M,am,_,bc⟩:=str_of aG;rw[am];obtain⟨q0,q1,q2,q3,q4⟩:=HSS.out wr ar;have HF:=Hd (An ar az);clear ar az
  by_cases bC:i<A
  ·have bE:(i:Int)<(A:Int):=qo
   have bH:i<L:=qo
   have bW:(i:Int)<(L:Int):=qo
   obtain⟨k,Z⟩:∃v,z[i]?=some v:=⟨_,lge (by rw[r.out.2.1];exact bC)⟩;obtain⟨g,ak⟩:∃v,is[i]?=some v:=⟨_,lge (by rw[r.out.1];exact bH)⟩;have T:=r.out.2.2.2.2.1 k (lmg Z);have bV:=r.out.2.2.2.1 g (lmg ak);obtain⟨gk,ok,d,aW,aQ⟩:=row_get gL HM.out.2.1 qo;have ao:=HM.out.1;rw[gn]at ao;obtain⟨gi,oi,hI,aV,aO⟩:=row_get (m:=1) (f:=λi:Nat=>[Value.int .i64 (i:Int)]) (λ_=>rfl) ao qo;subst d hI;have Y:=aQ i k Z;have aP:=aO i g ak;unfold iC at Y;obtain⟨ls,aa,ae,a3⟩:=str_of k.lin;rw[aa]at Y;have bP:ls.size<=1000:=by rw[a3];exact T.l
   have kk:∀o,wr.cell? ⟨gk,o,none⟩=V.cell? ⟨gk,o,none⟩:=λo=>HF.out.1.cell (p:=⟨gk,o,none⟩) aW qs;have k0:wr.cell? ⟨gk,ok+i*4,none⟩=some (.int .i64 k.rnd):=(kk _).trans (Y 0 qo);have k1:wr.cell? ⟨gk,ok+i*4+1,none⟩=some (.int .i64 k.phase):=(kk _).trans (Y 1 qo);have k2:wr.cell? ⟨gk,ok+i*4+2,none⟩=some (.int .i64 k.idx):=(kk _).trans (Y 2 qo);have k3:wr.cell? ⟨gk,ok+i*4+3,none⟩=some (.string ls):=(kk _).trans (Y 3 qo);have aY:V.cell? ⟨gi,oi+i,none⟩=some (.int .i64 (g:Int)):=by have h:=aP 0 qo;simpa using h
   clear kk Y aP aQ aO ao aW
   go_upto_region 6 with fail
   obtain⟨N,bk,bK,n3,f3⟩:=bxz wr #[.int .i64 k.rnd,.int .i64 k.phase,.int .i64 k.idx,.string ls] 89 wr.heap.size
   try rw[bk]
   obtain⟨KB,aL⟩:=nmd (wr.heap.size);rw[aL]at n3 ⊢;have u:=Hd (An n3 (HF.out.1.then f3));have bw:=HSS;clear HSS
   have HSS:=Hd (λ(W:World) (hW:Fr [] N W)=>An (bw.out W (u.out.2.then hW)) (show W.cell? ⟨gi,oi+i,none⟩=some g/\W.cell? ⟨KB,0,none⟩=some k.rnd/\W.cell? ⟨KB,1,none⟩=some k.phase/\W.cell? ⟨KB,2,none⟩=some k.idx/\W.cell? ⟨KB,3,none⟩=some ls from by
    have h:=u.out.1.fr hW qs;exact⟨((u.out.2.then hW).cell (p:=⟨gi,oi+i,none⟩) aV qs).trans aY,h.c 0,h.c 1,h.c 2,h.c 3⟩))
   obtain⟨t1,bd,_,y⟩:=str_of (eU (g:Int));obtain⟨t2,be,_,I⟩:=str_of (eU k.rnd);obtain⟨t3,bf,_,bo⟩:=str_of (eU k.phase);obtain⟨t4,bg,_,bp⟩:=str_of (eU k.idx);have ad:gc (g:Int):=⟨qo,qo⟩;have bQ:t1.size<=21:=by rw[y];exact eR ad.1 ad.2
   have bR:t2.size<=21:=by rw[I];exact eR T.a.1 T.a.2
   have bS:t3.size<=21:=by rw[bo];exact eR T.b.1 T.b.2
   have bT:t4.size<=21:=by rw[bp];exact eR T.c.1 T.c.2
   have bZ:M.size<=50000000:=by rw[bc];exact a6
   have P:=Hd (An Z (An ak (An T (An aa ae))));have J:=Hd (An bd (An be (An bf (An bg am))));clear Z ak aa a3 aV k0 k1 k2 k3 aY n3 f3 bk bK aL y I bo bp bc bd be bf bg am q0 q1 q2 q3 q4;have c1:¬9223372036854775807<M.size+t1.size:=qo
   have c2:¬9223372036854775807<M.size+t1.size+1:=qo
   have c3:¬9223372036854775807<M.size+t1.size+1+t2.size:=qo
   have c4:¬9223372036854775807<M.size+t1.size+1+t2.size+1:=qo
   have c5:¬9223372036854775807<M.size+t1.size+1+t2.size+1+t3.size:=qo
   have c6:¬9223372036854775807<M.size+t1.size+1+t2.size+1+t3.size+1:=qo
   have c7:¬9223372036854775807<M.size+t1.size+1+t2.size+1+t3.size+1+t4.size:=qo
   have C:=(Fq [] N).drew;refine wp_region_head (λW:World=>Fr [] N W) 23 qk ?_ qd
   show headJ 0 ..
   iterate 6 (refine hdL rfl ?_;try simp only[qq])
   show headJ 9 ..
   iterate 2 (refine hdL rfl ?_;try simp only[qq])
   show headJ 14 ..
   iterate 2 (refine hdL rfl ?_;try simp only[qq])
   show headJ 19 ..
   iterate 2 (refine hdL rfl ?_;try simp only[qq])
   refine hO (i:=6) rfl λK d=>?_;go_simp
   go_at_call 81
   (with_reducible refine(X.out (g:Int) t1 _ ad J.out.1 (u.out.2.then C)).mono ?_);rintro e b2 ⟨rfl,aT⟩;have ag:=C.then aT;refine d _ _ ag ?_;clear d K
   try simp only[qq]
   show headJ 7 ..
   iterate 2 (refine hdL rfl ?_;try simp only[qq])
   refine hO (i:=11) rfl λK d=>?_;go_simp
   go_at_call 81
   (with_reducible refine(X.out k.rnd t2 _ P.out.2.2.1.a J.out.2.1 (u.out.2.then ag)).mono ?_);rintro e z1 ⟨rfl,R⟩;have ah:=ag.then R;refine d _ _ ah ?_;clear d K
   try simp only[qq]
   show headJ 12 ..
   iterate 2 (refine hdL rfl ?_;try simp only[qq])
   refine hO (i:=16) rfl λK d=>?_;go_simp
   go_at_call 81
   (with_reducible refine(X.out k.phase t3 _ P.out.2.2.1.b J.out.2.2.1 (u.out.2.then ah)).mono ?_);rintro e z2 ⟨rfl,S⟩;have ai:=ah.then S;refine d _ _ ai ?_;clear d K
   try simp only[qq]
   show headJ 17 ..
   iterate 2 (refine hdL rfl ?_;try simp only[qq])
   refine hO (i:=21) rfl λK d=>?_;go_simp
   go_at_call 81
   (with_reducible refine(X.out k.idx t4 _ P.out.2.2.1.c J.out.2.2.2.1 (u.out.2.then ai)).mono ?_);rintro e z3 ⟨rfl,aU⟩;have aj:=ai.then aU;refine d _ _ aj ?_;clear d K
   try simp only[qq]
   show headJ 22 ..
   refine hdL rfl ?_;try simp only[qq];refine headI_done ⟨qk,?_⟩;simp only[qG,qH]
   have H:=
    eP (eP (eP (eP (eP (eP (eP J.out.2.2.2.2 J.out.1).symm (eS [32])).symm J.out.2.1).symm (eS [46])).symm J.out.2.2.1).symm (eS [46])).symm J.out.2.2.2.1
   obtain⟨sx,aD⟩:∃s:ByteArray,((((((M++t1)++⟨#[32]⟩)++t2)++⟨#[46]⟩)++t3)++⟨#[46]⟩)++t4=s:=⟨_,rfl⟩
   have bI:sx.size<=50001000:=by
    have e1:(⟨#[32]⟩:ByteArray).size=1:=rfl;have e2:(⟨#[46]⟩:ByteArray).size=1:=rfl;rw[<-aD];simp only[ByteArray.size_append,e1,e2];omega
   rw[aD]at H ⊢;have HX:=Hd H;have HY:=Hd aj;obtain⟨⟨q0,q1,q2,q3,q4⟩,qi,k0,k1,k2,k3⟩:=HSS.out _ aj;clear H aD C ag ah ai aj aT R S aU c1 c2 c3 c4 c5 c6 c7;have aa:=P.out.2.2.2.1;have ae:=P.out.2.2.2.2;obtain⟨cb,ac⟩:=nmd ((ls.toList==[]))
   go_upto_if 55 with fail
   go_cut [3]from 18 to 60 (λs W=>s=encN ((aG++eU (g:Int))++[32]++fb k)/\Fr [] N W)
   case first=>
    cases cb with
    |true=>
     have av:k.lin=[]:=by rw[ByteArray.toList_eq,ae]at ac;exact beq_iff_eq.1 ac
     go_wp2_with fail
     go_meet
     refine⟨?_,HY.out⟩;rw[HX.out];unfold fb;rw[if_pos av]
     simp only[List.append_assoc,List.append_nil,List.cons_append,List.nil_append]
    |false=>
     have av:¬k.lin=[]:=by rw[ByteArray.toList_eq,ae]at ac;exact beq_eq_false_iff_ne.1 ac
     have d1:¬9223372036854775807<sx.size+1:=qo
     have d2:¬9223372036854775807<sx.size+1+ls.size:=qo
     go_wp2_with fail
     go_meet
     refine⟨?_,HY.out⟩;have h:=eP (eP HX.out.symm (eS [47])).symm aa;rw[h];unfold fb;rw[if_neg av];simp only[List.append_assoc,List.cons_append,List.nil_append]
   obtain⟨rfl,au⟩:=hcut;obtain⟨w7,bm⟩:=nmd (wc);rw[bm]at au ⊢;obtain⟨p7,al⟩:∃l:Nm,(aG++eU (g:Int))++[32]++fb k=l:=⟨_,rfl⟩
   have bY:p7.length<=50003000:=by
    have h1:=eR ad.1 ad.2;have h2:=fM P.out.2.2.1;rw[<-al];simp only[lla,List.length_cons,List.length_nil];omega
   rw[al];have H7:=Hd (An au al);clear q0 q1 q2 q3 q4 qi k0 k1 k2 k3 bm au al ac aa ae HX HY
   go_upto_region 10 with fail
   go_loopw [3,6] (λs jx W=>∃j:Nat,j<=D/\jx=j/\s=encN (p7++fh (q.take j) g)/\Fr [] N W) (λ_ jx _=>D-(intOf jx).toNat)
   case atStart=>exact⟨0,Nat.zero_le _,rfl,by unfold fh;rw[List.take_zero,List.filter_nil,List.flatMap_nil,List.append_nil],H7.out.1⟩
   case round=>
    obtain⟨j,hj,rfl,rfl,aq⟩:=hrel
    have a7:(p7++fh (q.take j) g).length<=60000000:=by
     have h1:=gj (l:=q.take j) g (λx H=>r.out.2.2.2.2.2 x (List.mem_of_mem_take H)) (by rw[List.length_take];omega);rw[lla];omega
    obtain⟨pj,ay⟩:=nmd (p7++fh (q.take j) g);rw[ay]at a7 ⊢;obtain⟨sj,aA,_,bb⟩:=str_of pj;rw[aA];have bI:sj.size<=60000000:=by rw[bb];exact a7
    obtain⟨⟨q0,q1,q2,q3,q4⟩,qi,k0,k1,k2,k3⟩:=HSS.out wr aq;have O:=Hd (An aq (An ay aA));clear aq ay aA bb
    by_cases bD:j<D
    ·have bF:(j:Int)<(D:Int):=qo
     obtain⟨x,H⟩:∃v,q[j]?=some v:=⟨_,lge (by rw[r.out.2.2.1];exact bD)⟩;have bn:=r.out.2.2.2.2.2 x (lmg H);obtain⟨F,ol,bA,aX,aR⟩:=row_get gM HM.out.2.2 qo;subst bA;have G:=aR j x H;unfold LK.cs at G;obtain⟨so,aB,_,_⟩:=str_of x.n.owner;obtain⟨st,aC,_,_⟩:=str_of x.n.text;rw[aB,aC]at G;have bx:=HSS;clear HSS
     have HSS:=Hd (λ(W:World) (hW:Fr [] N W)=>An (bx.out W hW) (show W.cell? ⟨F,ol+j*7,none⟩=some x.f/\W.cell? ⟨F,ol+j*7+1,none⟩=some x.t/\W.cell? ⟨F,ol+j*7+2,none⟩=some x.n.kind/\W.cell? ⟨F,ol+j*7+2+1,none⟩=some so/\W.cell? ⟨F,ol+j*7+2+2,none⟩=some x.n.number/\W.cell? ⟨F,ol+j*7+2+3,none⟩=some x.n.index/\W.cell? ⟨F,ol+j*7+2+4,none⟩=some st from by
      have h:∀o,W.cell? ⟨F,o,none⟩=V.cell? ⟨F,o,none⟩:=λo=>(u.out.2.then hW).cell (p:=⟨F,o,none⟩) aX qs;exact⟨(h _).trans (G 0 qo),(h _).trans (G 1 qo),(h _).trans (G 2 qo),(h _).trans (G 3 qo),(h _).trans (G 4 qo),(h _).trans (G 5 qo),(h _).trans (G 6 qo)⟩))
     have B:=Hd (An H (An bn (An aB aC)));obtain⟨cx,aS⟩:=nmd (((x.t:Int)==(g:Int)));have b0:IntKind.i64.wrap (j:Int)=(j:Int):=by simp only[IntKind.wrap_i64];omega
     clear H bn aX aR G aB aC
     go_upto_region 12 with fail
     clear q0 q1 q2 q3 q4 qi k0 k1 k2 k3;refine wp_region_qall (λW=>Fr [] N W) qk qk (O.out.1.drew) ?_
     repeat(
      first
      |go_big_quiet_skip
      |(go_big_quiet_want;first|(go_big_quiet_op;go_big_quiet_on)|(apply Exists.intro;refine⟨λW hW=>?_,?_⟩;(· obtain⟨⟨⟨q0,q1,q2,q3,q4⟩,qi,k0,k1,k2,k3⟩,l0,l1,l2,l3,l4,l5,l6⟩:=HSS.out W hW;go_simp;first|done|with_reducible exact rfl|with_reducible exact⟨rfl,rfl⟩);simp only[qq];go_big_quiet_on))
      )
     refine wpQuiet_nil ?_;intro W2 aN
     cases cx with
     |false=>
      have bG:¬x.t=g:=by have:=beq_eq_false_iff_ne.1 aS;omega
      go_wp2_with fail
      go_roundw
      case rel=>
       refine⟨j+1,qo,by go_num,?_,aN⟩;rw[List.take_add_one,B.out.1,Option.toList_some,fO,if_neg bG,List.append_nil,O.out.2.1];exact O.out.2.2.symm
      case measure=>simp[intOf];omega
     |true=>
      have bB:x.t=g:=by have:=beq_iff_eq.1 aS;omega
      obtain⟨tf,bh,_,bi⟩:=str_of (eU x.f);obtain⟨tn,aE,_,a4⟩:=str_of (fL x.n);have bU:tf.size<=21:=by rw[bi];exact eR B.out.2.1.f.1 B.out.2.1.f.2
      have bX:tn.size<=2000:=by rw[a4];exact fN B.out.2.1.n B.out.2.1.tx
      have aM:∀W,Fr [] N W->Calls prog 82 #[.agg #[x.n.kind,so,x.n.number,x.n.index,st]] W (RetPost W tn):=λW hW=>by
       have h:=fj x.n W (HO.out.1.fr0 (u.out.2.then hW)) (HO.out.2.fr0 (u.out.2.then hW)) B.out.2.1.n (by have:=B.out.2.1.tx;omega);rw[aE]at h;unfold encO at h;rw[B.out.2.2.1,B.out.2.2.2]at h;exact h
      have bu:=Hd aM;have an:=Hd (An bh aE);clear aM bh aE bi a4;have d1:¬9223372036854775807<sj.size+1:=qo
      have d2:¬9223372036854775807<sj.size+1+tf.size:=qo
      have d3:¬9223372036854775807<sj.size+1+tf.size+1:=qo
      have d4:¬9223372036854775807<sj.size+1+tf.size+1+tn.size:=qo
      go_upto_region 13 with fail
      have C:=aN.drew;refine wp_region_head (λW:World=>Fr [] N W) 19 qk ?_ qd
      show headJ 0 ..
      iterate 8 (refine hdL rfl ?_;try simp only[qq])
      show headJ 11 ..
      iterate 6 (refine hdL rfl ?_;try simp only[qq])
      refine hO (i:=8) rfl λK d=>?_;go_simp
      go_at_call 81
      (with_reducible refine(X.out x.f tf _ B.out.2.1.f an.out.1 (u.out.2.then C)).mono ?_);rintro e y1 ⟨rfl,R⟩;have y:=C.then R;refine d _ _ y ?_;clear d K
      try simp only[qq]
      show headJ 9 ..
      iterate 2 (refine hdL rfl ?_;try simp only[qq])
      refine hO (i:=17) rfl λK d=>?_;go_simp
      go_at_call 82
      (with_reducible refine(bu.out _ y).mono ?_);rintro e y2 ⟨rfl,S⟩;have I:=y.then S;refine d _ _ I ?_;clear d K
      try simp only[qq]
      show headJ 18 ..
      refine hdL rfl ?_;try simp only[qq];refine headI_done ⟨qk,?_⟩;simp only[qG,qH];have bz:=Hd I;clear C y I R S d1 d2 d3 d4
      go_wp2_with fail
      go_roundw
      case rel=>
       refine⟨j+1,qo,by go_num,?_,bz.out⟩;rw[List.take_add_one,B.out.1,Option.toList_some,fO,if_pos bB,<-List.append_assoc,O.out.2.1];have h:=eP (eP (eP (eP O.out.2.2 (eS [32])).symm an.out.1).symm (eS [58])).symm an.out.2;rw[h];unfold fH;simp only[List.append_assoc]
      case measure=>simp[intOf];omega
    ·obtain rfl:j=D:=qo
     have bF:¬(j:Int)<(j:Int):=qo
     have d1:¬9223372036854775807<sj.size+1:=qo
     go_wp2_with fail
     go_roundw
     case rel=>
      refine⟨i+1,qo,by go_num,?_,u.out.2.then O.out.1⟩;rw[eP O.out.2.2 (eS [10]),<-O.out.2.1,<-H7.out.2,<-HF.out.2,show q.take j=q from List.take_of_length_le (by rw[r.out.2.2.1];exact nlr _)];have hz:(is.zip z)[i]?=some (g,k):=by rw[List.getElem?_zip_eq_some];exact⟨P.out.2.1,P.out.1⟩
      rw[List.take_add_one,hz,List.flatMap_append]
      congr 1
      unfold eY;simp only[Option.toList_some,List.flatMap_cons,List.flatMap_nil,List.append_nil,List.append_assoc,List.cons_append,List.nil_append]
     case measure=>simp[intOf];omega
  ·obtain rfl:i=A:=qo
   have bE:¬(i:Int)<(i:Int):=qo
   go_wp2_with fail
   go_ret
   refine⟨?_,bt.out.then HF.out.1⟩;unfold fm;rw[List.take_of_length_le qo]at HF;rw[HF.out.2,am];rfl
section
variable {κ α:Type} [DecidableEq κ] {P:Program} {k e t:TypeId} {q:κ->Value} {size:Nat} {f:α->List Value} {w:World} {r:Nat} {es:List (NE κ α)}
theorem ML.put{Y:TypeId}(hq:∀a b,q a=q b->a=b)(K:Maps.Keyed P k)(M:P.underlying t=some (.map k Y))(I:∀u:World,(zeroValue Y).run P u=.ok (.slice none 0 0) u)(h:ML P k q e size f w r es)(n:κ){kl:Lit}(L:keyOf P k (q n)=some kl):
 ∃E c,(∀W,W.heap[r]?=w.heap[r]?->(Instr.lookup t (.map (some r)) (q n) false).run P W=.ok (.slice E (getL es n).length c) W)/\Own w e size E (getL es n).length c ((getL es n).flatMap f)/\(∀b∈blk E,b∈blsL es)/\
  ∀v w2 A' c',Fr (blk E) w w2->Own w2 e size A' ((getL es n).length+1) c' ((getL es n).flatMap f++f v)->(∀b∈blk A',b∈blk E\/w.heap.size<=b)->
   ∃o Q,(Instr.mapUpdate t (.map (some r)) (q n) (.slice A' ((getL es n).length+1) c')).run P w2=.ok () o/\Fr [r] w2 o/\ML P k q e size f o r Q/\(∀m,getL Q m=if m=n then getL es n++[v]else getL es m)/\∀b∈blsL Q,b∈blsL es\/w.heap.size<=b:=by
 have ae:=h.map.lt;have ad:=h.rb
 cases J:es.find? (λx=>decide (x.n=n))with
 |none=>
  have Z:∀y∈es,y.n≠n:=by simpa using List.find?_eq_none.1 J
  have ac:∀p∈es.map (NE.kv q),p.1≠q n:=by
   intro p hp F;obtain⟨y,g,rfl⟩:=List.mem_map.1 hp;exact Z y g (hq _ _ F)
  rw[getL_none J];refine⟨none,0,λW hW=>(h.map.at_ hW).look_none K M L ac (I W) false,Own.nil _ _ _,by simp[blk],λv w2 A' c' G V T=>?_⟩;obtain⟨o,R,s,S⟩:=MapIs.put_new (v:=.slice A' (0+1) c') K M (h.map.at_ (G.block r ae (by simp[blk]))) L ac
  have B:∀b∈blk A',w.heap.size<=b:=λb d=>by
   rcases T b d with h|h
   ·simp[blk]at h
   ·omega
  refine⟨o,es++[⟨n,A',c',[v]⟩],R,s,⟨?_,?_,?_⟩,λm=>?_,λb d=>?_⟩
  ·rw[List.map_append];exact S
  ·intro x l
   rcases List.mem_append.1 l with l|l
   ·have H:∀b∈blk x.A,b≠r:=λb d F=>ad (List.mem_flatMap.2 ⟨x,l,by rw[<-F];exact d⟩)
    exact((h.own x l).fr G (by simp[blk])).fr s (λb d=>by simpa using H b d)
   ·rw[lms]at l
    subst l;have:=V.fr s (λb d=>by have:=B b d;simp;omega);simpa using this
  ·rw[List.pairwise_append]
   refine⟨h.dj,List.pairwise_singleton _ _,λx l y g b d i=>?_⟩;rw[lms]at g;subst g;have j:=B b i;have h9:=h.lt b (List.mem_flatMap.2 ⟨x,l,d⟩);omega
  ·by_cases d:m=n
   ·subst d
    rw[if_pos rfl,getL_app Z,getL_cons,if_pos rfl,List.nil_append]
   ·rw[if_neg d]
    by_cases C:∀y∈es,y.n≠m
    ·rw[getL_app C,getL_cons,if_neg (λe=>d e.symm)]
     have:getL es m=[]:=getL_none (List.find?_eq_none.2 (by simpa using C));rw[this];rfl
    ·have:=getL_same (l2:=[⟨n,A',c',[v]⟩]) (l3:=[]) C
     rw[this,List.append_nil]
  ·unfold blsL at d
   rw[List.flatMap_append]at d
   rcases List.mem_append.1 d with d|d
   ·exact .inl d
   ·simp only[List.flatMap_cons,List.flatMap_nil,List.append_nil]at d
    exact .inr (B b d)
 |some x=>
  obtain⟨D,l2,rfl,rfl,ag⟩:=find_split J;have aa:=h.map;rw[List.map_append,List.map_cons]at aa;rw[getL_some J];have N:x∈D++x::l2:=qs
  have H:∀y∈D++x::l2,∀b∈blk y.A,b≠r:=λy g b d F=>ad (List.mem_flatMap.2 ⟨y,g,by rw[<-F];exact d⟩);refine⟨x.A,x.c,λW hW=>(h.map.at_ hW).look_some K M L (v:=.slice x.A x.xs.length x.c) (List.mem_map.2 ⟨x,qs,rfl⟩) false,h.own x N,λb d=>List.mem_flatMap.2 ⟨x,N,d⟩,λv w2 A' c' G V T=>?_⟩;obtain⟨o,R,s,S⟩:=MapIs.put_old (v:=.slice A' (x.xs.length+1) c') K M (aa.at_ (G.block r ae (λd=>H x N r d rfl))) L;have B:=T;obtain⟨d1,d2,O⟩:=List.pairwise_append.1 h.dj;obtain⟨X,d5⟩:=List.pairwise_cons.1 d2
  have af:∀y∈D++x::l2,(∀b∈blk y.A,b ∉ blk x.A)->Own o e size y.A y.xs.length y.c (y.xs.flatMap f):=λy g U=>
   ((h.own y g).fr G U).fr s (λb d=>by simpa using H y g b d)
  have ab:∀y∈D++x::l2,(∀b∈blk y.A,b ∉ blk x.A)->∀b∈blk y.A,b ∉ blk A':=λy g U b d i=>by
   rcases B b i with j|j
   ·exact U b d j
   ·have h9:=h.lt b (List.mem_flatMap.2 ⟨y,g,d⟩)
    omega
  refine⟨o,D++⟨x.n,A',c',x.xs++[v]⟩::l2,R,s,⟨?_,?_,?_⟩,λm=>?_,λb d=>?_⟩
  ·rw[List.map_append,List.map_cons]
   have:NE.kv q (⟨x.n,A',c',x.xs++[v]⟩:NE κ α)=(q x.n,.slice A' (x.xs.length+1) c'):=by simp[NE.kv]
   rw[this];exact S
  ·intro y g
   rcases List.mem_append.1 g with g|g
   ·exact af y (by simp[g]) (λb d=>O y g x qs b d)
   ·rcases List.mem_cons.1 g with rfl|g
    ·have:=V.fr s (λb d=>by
      rcases B b d with j|j
      ·simpa using H x N b j
      ·simp;omega)
     simpa using this
    ·exact af y (by simp[g]) (λb d i=>X y g b i d)
  ·rw[List.pairwise_append]
   refine⟨d1,List.pairwise_cons.2 ⟨λy g b d i=>ab y (by simp[g]) (λb d i=>X y g b i d) b i d,d5⟩,λy g z I b d i=>?_⟩
   rcases List.mem_cons.1 I with rfl|I
   ·exact ab y (by simp[g]) (λb d=>O y g x qs b d) b d i
   ·exact O y g z (by simp[I]) b d i
  ·by_cases d:m=x.n
   ·subst d
    rw[if_pos rfl,getL_app ag,getL_cons,if_pos rfl]
   ·rw[if_neg d]
    by_cases C:∀y∈D,y.n≠m
    ·rw[getL_app C,getL_app C,getL_cons,getL_cons,if_neg (λe=>d e.symm),if_neg (λe=>d e.symm)]
    ·exact getL_same C
  ·unfold blsL at d ⊢
   rw[List.flatMap_append,List.flatMap_cons]at d ⊢
   rcases List.mem_append.1 d with d|d
   ·exact .inl (by simp[d])
   ·rcases List.mem_append.1 d with d|d
    ·rcases B b d with j|j
     ·exact .inl (by simp[j])
     ·exact .inr j
    ·exact .inl (by simp[d])
end
theorem gp(u:World):(zeroValue 169).run prog u=.ok (.slice none 0 0) u:=by simp[go_sem]
theorem iU:∃i,(prog).info? 9=some i/\i.zero=some (.string ⟨#[]⟩)/\i.size=1/\i.bytes=16:=info_parts qk
def jr(s:Nm):List Value:=[encN s]
def jS(w:World)(r:Nat)(es:List (NE Nat Nm)):Prop:=ML prog 3 (λi:Nat=>.int .i64 (i:Int)) 9 1 jr w r es
theorem gN(a b:Nat)(h:Value.int .i64 (a:Int)=.int .i64 (b:Int)):a=b:=by
 injection h with _ h
 omega
theorem SB.frr{a w:World}{b:Nat}{bs:Nm}(h:SB a b bs w):Fr [] a w:=by
 obtain⟨_,_,_,_,_,_,_,_,_,h⟩:=h;exact h
abbrev LkS(LB mr:Nat)(w3:World)(x:LK)(so st:ByteArray)(W:World):Prop:=(W.cell? ⟨LB,0,none⟩=some (.int .i64 x.f)/\W.cell? ⟨LB,1,none⟩=some (.int .i64 (x.t:Int))/\W.cell? ⟨LB,2,none⟩=some (.int .i64 x.n.kind)/\W.cell? ⟨LB,3,none⟩=some (.string so)/\W.cell? ⟨LB,4,none⟩=some (.int .i64 x.n.number)/\W.cell? ⟨LB,5,none⟩=some (.int .i64 x.n.index)/\W.cell? ⟨LB,6,none⟩=some (.string st))/\W.heap[mr]?=w3.heap[mr]?
theorem iV(b:UInt8)(og:Int)(I K LA AA:Option Addr)(ni ic nk kc nl lc na ac:Nat)(is:List Nat)(ks:List KY)(lks:List LK)(w:World)(hok:Ok w)(hp:Pw w)(hog:gc og)
 (hI:Rd w 1 I ni (fp is)) (hK:Rd w 4 K nk (ks.flatMap iC)) (hL:Rd w 7 LA nl (lks.flatMap LK.cs)) (e1:is.length=ni) (e2:ks.length=nk) (e3:lks.length=nl) (h12:ni<=100) (h13:nk<=100) (hl:nl<=200)
 (hi:∀i∈is,i<=1000000) (hk:∀k∈ks,KeyOk k) (hlk:∀x∈lks,LkOk x) :
 Calls prog 30 #[iq b og I ni ic K nk kc LA nl lc AA na ac] w (RetPost w (encN (fm b og is ks lks))):=by
 unfold iq;obtain⟨w1,hw1,hzz,n1,f1⟩:=bxz w #[.int .u8 (b.toNat:Int),.int .i64 og,.slice I ni ic,.slice K nk kc,.slice LA nl lc,.slice AA na ac] 64 w.heap.size
 have HSS:=Hd (λ(W:World) (hW:Fr [] w1 W)=>(show W.cell? ⟨w.heap.size,0,none⟩=some (.int .u8 (b.toNat:Int))/\W.cell? ⟨w.heap.size,1,none⟩=some og/\W.cell? ⟨w.heap.size,2,none⟩=some (.slice I ni ic)/\W.cell? ⟨w.heap.size,3,none⟩=some (.slice K nk kc)/\W.cell? ⟨w.heap.size,4,none⟩=some (.slice LA nl lc)from by
  have h:=n1.fr hW qs;exact⟨h.c 0,h.c 1,h.c 2,h.c 3,h.c 4⟩))
 have hIt:∀(n:Int) (s:ByteArray) (W:World),gc n->encN (eU n)=.string s->Fr [] w1 W->Calls prog 81 #[.int .i64 n] W (RetPost W (.string s)):=λn s W hn hs hW=>by
  have h:=fK n W hn.1 hn.2 (hp.fr0 (f1.then hW));rw[hs]at h;exact h
 have HI:=Hd hIt;have HF1:=Hd f1;have CC:=Hd hw1;have HM:=Hd (An (hI.fr0 f1) (An (hK.fr0 f1) (hL.fr0 f1)));have HE:=Hd (An e1 (An e2 (An e3 (An hi (An hk hlk)))));have HO:=Hd (An (hok.fr0 f1) (hp.fr0 f1));have HG:=Hd hog;have BH:gc (b.toNat:Int):=⟨by omega,by have:=b.toNat_lt;omega⟩;obtain⟨bv,BI⟩:∃v:Int,(b.toNat:Int)=v:=⟨_,rfl⟩;have BJ:=Hd BI;rw[BI]at HSS CC BH ⊢;have DC:=run_makeMap w1 168;have CZ:=MapIs.new (P:=prog) (k:=3) w1;have DA:Fr [] w1 (w1.alloc (.map #[] 0)):=(Fq [] w1).alloc _;obtain⟨w2,hw2⟩:=nmd (w1.alloc (.map #[] 0));obtain⟨mr,DB⟩:=nmd (w1.heap.size);rw[hw2]at DC CZ DA;rw[DB]at DC CZ;have BK:=Hd (An CZ (An DA DB));obtain⟨q0,q1,q2,q3,q4⟩:=HSS.out w2 DA;clear hIt f1 hw1 n1 hzz hp hok hI hK hL e1 e2 e3 hi hk hlk BI hw2 CZ DA DB
 go_enter func30,ntmps30
 go_upto_region 1 with fail
 rw[CC.out]
 go_upto_region 3 with fail
 clear q0 q1 q2 q3 q4 DC
 go_loopw [14] (λjx W=>∃(j:Nat) (es:List (NE Nat Nm)),j<=nl/\jx=.int .i64 (j:Int)/\jS W mr es/\(∀m,getL es m=((lks.take j).filter λx=>decide (x.t=m)).map fH)/\(∀q∈blsL es,mr<q)/\Fr [] w1 W) (λjx _=>nl-(intOf jx).toNat)
 case atStart=>exact⟨0,[],Nat.zero_le _,rfl,ML.nil BK.out.1,λm=>by rw[List.take_zero];rfl,by simp[blsL],BK.out.2.1⟩
 case round=>
  obtain⟨j,es,hj,rfl,DW,DU,DV,hfr⟩:=hrel;have HJ:=Hd (An DW (An DU (An DV hfr)));clear DW DU DV hfr
  by_cases CT:j<nl
  ·have AW:(j:Int)<(nl:Int):=qo
   obtain⟨x,hx⟩:∃v,lks[j]?=some v:=⟨_,lge (by rw[HE.out.2.2.1];exact CT)⟩;have hxo:=HE.out.2.2.2.2.2 x (lmg hx);obtain⟨gl,ol,BW,DU,CK⟩:=row_get gM HM.out.2.2 qo;subst BW;have AB:=CK j x hx;unfold LK.cs at AB;obtain⟨so,hso,_,_⟩:=str_of x.n.owner;obtain⟨st,hst,_,_⟩:=str_of x.n.text;rw[hso,hst]at AB;have AP:∀o,wr.cell? ⟨gl,o,none⟩=w1.cell? ⟨gl,o,none⟩:=λo=>HJ.out.2.2.2.cell (p:=⟨gl,o,none⟩) DU qs;have l0:wr.cell? ⟨gl,ol+j*7,none⟩=some x.f:=(AP _).trans (AB 0 qo);have l1:wr.cell? ⟨gl,ol+j*7+1,none⟩=some x.t:=(AP _).trans (AB 1 qo);have l2:wr.cell? ⟨gl,ol+j*7+2,none⟩=some x.n.kind:=(AP _).trans (AB 2 qo);have l3:wr.cell? ⟨gl,ol+j*7+3,none⟩=some so:=(AP _).trans (AB 3 qo);have l4:wr.cell? ⟨gl,ol+j*7+4,none⟩=some x.n.number:=(AP _).trans (AB 4 qo);have l5:wr.cell? ⟨gl,ol+j*7+5,none⟩=some x.n.index:=(AP _).trans (AB 5 qo);have l6:wr.cell? ⟨gl,ol+j*7+6,none⟩=some st:=(AP _).trans (AB 6 qo);have AL:=Hd (An hx (An hxo (An hso hst)));clear hx hxo DU CK AB hso hst AP
   go_upto_region 5 with fail
   obtain⟨w3,hw3,hz3,n3,f3⟩:=bxz wr #[.int .i64 x.f,.int .i64 (x.t:Int),.int .i64 x.n.kind,.string so,.int .i64 x.n.number,.int .i64 x.n.index,.string st] 98 wr.heap.size
   try rw[hw3]
   obtain⟨LB,hLB⟩:=nmd (wr.heap.size);rw[hLB]at n3 ⊢;have H3:=Hd (An n3 (An (HJ.out.2.2.2.then f3) (An (ML.fr0 HJ.out.1 f3) f3)));clear l0 l1 l2 l3 l4 l5 l6 n3 f3 hw3 hz3 hLB;obtain⟨kl,BV⟩:=keyOf_nat AL.out.2.1.t;obtain⟨A,c,AC,AF,hsub,AU⟩:=ML.put gN key_int underlying168 gp H3.out.2.2.1 x.t BV;obtain⟨n,hn⟩:=nmd ((getL es x.t).length);rw[hn]at AC AF AU
   have BU:n<=200:=by
    rw[<-hn,HJ.out.2.1,List.length_map];have h1:=List.length_filter_le (λy:LK=>decide (y.t=x.t)) (lks.take j);rw[List.length_take]at h1;omega
   obtain⟨tf,BO,_,BQ⟩:=str_of (eU x.f);obtain⟨tn,BP,_,BR⟩:=str_of (fL x.n);have BS:tf.size<=21:=by rw[BQ];exact eR AL.out.2.1.f.1 AL.out.2.1.f.2
   have BT:tn.size<=2000:=by rw[BR];exact fN AL.out.2.1.n AL.out.2.1.tx
   have BN:∀W,Fr [] w3 W->Calls prog 82 #[.agg #[.int .i64 x.n.kind,.string so,.int .i64 x.n.number,.int .i64 x.n.index,.string st]] W (RetPost W (.string tn)):=λW hW=>by
    have h:=fj x.n W (HO.out.1.fr0 (H3.out.2.1.then hW)) (HO.out.2.fr0 (H3.out.2.1.then hW)) AL.out.2.1.n (by have:=AL.out.2.1.tx;omega);rw[BP]at h;unfold encO at h;rw[AL.out.2.2.1,AL.out.2.2.2]at h;exact h
   have BM:=Hd BN;have BL:=Hd (An BO BP);have AM:=Hd (An AF (An hsub (An AU hn)))
   have AH:∀W,Fr [] w3 W->LkS LB mr w3 x so st W:=λW hW=>by
    have h:=H3.out.1.fr hW qs;exact⟨⟨h.c 0,h.c 1,h.c 2,h.c 3,h.c 4,h.c 5,h.c 6⟩,hW.block mr H3.out.2.2.1.map.lt qs⟩
   have AD:=Hd AH;have HS0:=HSS;clear HSS;have HSS:=Hd (λ(W:World) (hW:LkS LB mr w3 x so st W)=>An hW.1 (AC W hW.2));clear BN BO BP BQ BR AC AF hsub AU hn AH BV;have d1:¬9223372036854775807<1+tf.size:=qo
   have d2:¬9223372036854775807<1+tf.size+1:=qo
   have d3:¬9223372036854775807<1+tf.size+1+tn.size:=qo
   have hC:=AD.out _ ((Fq [] w3).drew);have hC0:Fr [] w3 w3.drew:=(Fq [] w3).drew;refine wp_region_head (λW:World=>LkS LB mr w3 x so st W) 18 qk ?_ qd
   show headJ 0 ..
   iterate 9 (refine hdL rfl ?_;try simp only[qq])
   show headJ 12 ..
   iterate 2 (refine hdL rfl ?_;try simp only[qq])
   refine hO (i:=9) rfl λK hK=>?_;go_simp
   go_at_call 81
   (with_reducible refine(HI.out x.f tf _ AL.out.2.1.f BL.out.1 (H3.out.2.1.then hC0)).mono ?_);rintro e X1 ⟨rfl,AQ⟩;have BB:=hC0.then AQ;refine hK _ _ (AD.out _ BB) ?_;clear hK K hC;have hC:=AD.out _ BB
   try simp only[qq]
   show headJ 10 ..
   iterate 2 (refine hdL rfl ?_;try simp only[qq])
   refine hO (i:=14) rfl λK hK=>?_;go_simp
   go_at_call 82
   (with_reducible refine(BM.out _ BB).mono ?_);rintro e X2 ⟨rfl,AR⟩;have BC:=BB.then AR;refine hK _ _ (AD.out _ BC) ?_;clear hK K hC;have hC:=AD.out _ BC
   try simp only[qq]
   show headJ 15 ..
   refine hdL rfl ?_;try simp only[qq];refine hO (i:=16) rfl λK hK=>?_;go_simp
   obtain⟨sv,DS⟩:∃v:ByteArray,((⟨#[32]⟩++tf)++⟨#[58]⟩)++tn=v:=⟨_,rfl⟩
   have DR:encN (fH x)=.string sv:=by
    rw[<-DS];unfold fH;exact(eP (eP (eP (eS [32]) BL.out.1).symm (eS [58])).symm BL.out.2).symm
   rw[DS];obtain⟨X3,hX3,nX3,fX3⟩:=bxn X2 #[.string sv] 9;rw[hX3];have AI:=BC.then fX3;refine hK _ _ (AD.out _ AI) ?_;clear hK K hC hX3
   try simp only[qq]
   refine hO (i:=17) rfl λK hK=>?_;obtain⟨ii,DT,iz0,iz1,iz2⟩:=iU;have DO:=AM.out.1.fr AI qs;refine wp_app (.tmp 24) (.tmp 34) 169 rfl 9 ii _ 1 16 underlying169 DT iz0 iz1 iz2 rfl qd A n c _ rfl DO ⟨X2.heap.size,0,none⟩ 1 1 [.string sv] rfl rfl (λjx u hu=>by rw[add_mid',nX3.c jx];simpa using hu) (by simp[Value.oneCell']) (by unfold maxLen;omega) qo ?_;intro A' c' X4 DQ DP hA4
   have BW:LB ∉ blk A:=λhm=>by
    have:=NoT.own (ts:=[98]) AM.out.1 qd LB hm _ _ _ H3.out.1;simp at this
   have BX:mr ∉ blk A:=λhm=>H3.out.2.2.1.rb (AM.out.2.1 mr hm);have AS:=(H3.out.1.fr AI qs).fr DP BW
   have hC:LkS LB mr w3 x so st X4:=
    ⟨⟨AS.c 0,AS.c 1,AS.c 2,AS.c 3,AS.c 4,AS.c 5,AS.c 6⟩,(DP.block mr (Nat.lt_of_lt_of_le H3.out.2.2.1.map.lt AI.size) BX).trans (AI.block mr H3.out.2.2.1.map.lt qs)⟩
   refine hK _ _ hC ?_;clear hK K
   try simp only[qq]
   refine headI_done ⟨by kernel_rfl,?_⟩;simp only[qG,qH];have DD:Fr (blk A) w3 X4:=(AI.mono qs).then DP;have CN:=AI.size;obtain⟨X5,es',hmu,DL,DI,DJ,DK⟩:=AM.out.2.2.1 (fH x) X4 A' c' DD (by unfold jr;rw[DR];exact DQ) (λq hq=>(hA4 q hq).imp id λh=>by omega);have h3z:=H3.out.2.2.2.size;have DE:∀q∈blk A,mr<q:=λq hq=>HJ.out.2.2.1 q (AM.out.2.1 q hq);have DF:=BK.out.2.2;have DH:Fr [] w1 X5:=(H3.out.2.1.trans DD (λq hq=>.inr (by have:=DE q hq;omega))).trans DL (by simp;omega);have DG:=H3.out.2.2.1.map.lt;have AN:=Hd (An DI (An DJ (An DK DH)));clear hC hC0 BB BC AI AQ AR DP DL DD AS DQ DO nX3 fX3 DI DJ DK DH DT iz0 iz1 iz2 d1 d2 d3 CN hA4 BW BX
   go_wp2_with fail
   go_roundw
   case rel=>
    refine⟨j+1,es',by omega,by go_num,AN.out.1,λm=>?_,λq hq=>?_,AN.out.2.2.2⟩
    ·rw[AN.out.2.1 m,List.take_add_one,AL.out.1,Option.toList_some,List.filter_append,List.map_append]
     by_cases hm:m=x.t
     ·subst hm
      rw[if_pos rfl,HJ.out.2.1];simp
     ·rw[if_neg hm,HJ.out.2.1]
      have:¬x.t=m:=λe=>hm e.symm;simp[this]
    ·rcases AN.out.2.2.1 q hq with h|h
     ·exact HJ.out.2.2.1 q h
     ·omega
   case measure=>simp[intOf];omega
  ·obtain rfl:j=nl:=qo
   have AW:¬(j:Int)<(j:Int):=qo
   have AO:=SB.new wr wr (Fq [] wr);have f4:Fr [] wr (wr.alloc (.cells #[.pointer none,.slice none 0 0] 172)):=(Fq [] wr).alloc _;obtain⟨w4,hw4⟩:=nmd (wr.alloc (.cells #[.pointer none,.slice none 0 0] 172));obtain⟨AV,hSB⟩:=nmd (wr.heap.size)
   go_upto_region 8 with fail
   try rw[hw4]
   try rw[hSB]
   rw[hw4]at AO f4;rw[hSB]at AO;have H4:=Hd (An AO (An (HJ.out.2.2.2.then f4) f4));clear AO f4 hw4 hSB;have HS0:=HSS;clear HSS;have HSS:=Hd (λ(W:World) (hW:Fr [] w4 W)=>HS0.out W (H4.out.2.1.then hW));obtain⟨s1,EN,_,EP⟩:=str_of (eU bv);obtain⟨s2,EO,_,EQ⟩:=str_of (eU og);have ER:s1.size<=21:=by rw[EP];exact eR BH.1 BH.2
   have ES:s2.size<=21:=by rw[EQ];exact eR hog.1 hog.2
   clear EP EQ;have ET:IntKind.i64.wrap bv=bv:=by simp only[IntKind.wrap_i64];unfold gc at BH;omega
   have c1:¬9223372036854775807<5+s1.size:=qo
   have c2:¬9223372036854775807<5+s1.size+6:=qo
   have c3:¬9223372036854775807<5+s1.size+6+s2.size:=qo
   have c4:¬9223372036854775807<5+s1.size+6+s2.size+1:=qo
   have hC:Fr [] w4 w4.drew:=(Fq [] w4).drew;refine wp_region_head (λW:World=>Fr [] w4 W) 11 qk ?_ qd
   show headJ 0 ..
   iterate 3 (refine hdL rfl ?_;try simp only[qq])
   show headJ 6 ..
   iterate 2 (refine hdL rfl ?_;try simp only[qq])
   refine hO (i:=3) rfl λK hK=>?_;go_simp
   go_at_call 81
   (with_reducible refine(HI.out bv s1 _ BH EN (H4.out.2.1.then hC)).mono ?_);rintro e y1 ⟨rfl,AQ⟩;have BD:=hC.then AQ;refine hK _ _ BD ?_;clear hK K
   try simp only[qq]
   show headJ 4 ..
   iterate 2 (refine hdL rfl ?_;try simp only[qq])
   refine hO (i:=8) rfl λK hK=>?_;go_simp
   go_at_call 81
   (with_reducible refine(HI.out og s2 _ HG.out EO (H4.out.2.1.then BD)).mono ?_);rintro e y2 ⟨rfl,AR⟩;have BE:=BD.then AR;refine hK _ _ BE ?_;clear hK K
   try simp only[qq]
   show headJ 9 ..
   iterate 2 (refine hdL rfl ?_;try simp only[qq])
   refine headI_done ⟨by kernel_rfl,?_⟩;simp only[qG,qH]
   have hh:Value.string ((((⟨#[98,121,116,101,32]⟩++s1)++⟨#[32,102,114,111,109,32]⟩)++s2)++⟨#[10]⟩)=encN (eT b og):=by
    unfold eT;rw[BJ.out];exact eP (eP (eP (eP (eS [98,121,116,101,32]) EN).symm (eS [32,102,114,111,109,32])).symm EO).symm (eS [10])
   obtain⟨sh,hsh⟩:∃s:ByteArray,(((⟨#[98,121,116,101,32]⟩++s1)++⟨#[32,102,114,111,109,32]⟩)++s2)++⟨#[10]⟩=s:=⟨_,rfl⟩;rw[hsh]at hh ⊢
   have AJ:sh.data.toList=eT b og:=by
    unfold encN at hh
    injection hh with hh
    rw[hh]
   have EM:sh.size<=100:=by
    have h:=fu b HG.out;rw[<-AJ,Array.length_toList,ByteArray.size_data]at h;exact h
   have AE:=eX wr AV [] sh y2 (H4.out.1.fr0 BE) (by simp;omega);rw[List.nil_append,AJ]at AE;have CB:=Hd AE;clear hh hsh hC BD BE AQ AR c1 c2 c3 c4 ET AE AJ EN EO
   go_upto_region 9 with(go_at_call 83;(with_reducible refine CB.out.mono ?_);rintro e w5 ⟨rfl,hsb5⟩;have H5:=Hd hsb5;clear hsb5)
   obtain⟨wz,rfl⟩:∃X,X=wr:=⟨_,rfl⟩;have DL:Fr [] wz w5:=H5.out.frr;obtain⟨q0,q1,q2,q3,q4⟩:=HS0.out w5 (HJ.out.2.2.2.then DL);clear DL
   go_upto_region 10 with fail
   obtain⟨n,CV⟩:∃n:Nat,min ni nk=n:=⟨_,rfl⟩;have EU:min (ni:Int) (nk:Int)=(n:Int):=qo
   rw[EU];have CY:(is.zip ks).length=n:=by rw[List.length_zip,HE.out.1,HE.out.2.1];exact CV
   have CW:n<=ni:=qo
   have CX:n<=nk:=qo
   have HS1:=HSS;clear EU q0 q1 q2 q3 q4 HSS
   go_loopw [56] (λix W=>∃i:Nat,i<=n/\ix=.int .i64 (i:Int)/\SB wz AV (eT b og++((is.zip ks).take i).flatMap (eY lks)) W) (λix _=>n-(intOf ix).toNat)
   case atStart=>exact⟨0,Nat.zero_le _,rfl,by rw[List.take_zero,List.flatMap_nil,List.append_nil];exact H5.out⟩
   case round=>
    obtain⟨i,hi,rfl,AT⟩:=hrel
    have CF:(eT b og++((is.zip ks).take i).flatMap (eY lks)).length<=50000000:=by
     have h1:=fu b HG.out
     have h2:=fo (eY lks) 430000 ((is.zip ks).take i) λp hp=>by
      have hm:=List.mem_of_mem_take hp;exact gm HE.out.2.2.2.2.2 (by rw[HE.out.2.2.1];exact hl) (HE.out.2.2.2.1 p.1 (List.of_mem_zip hm).1) (HE.out.2.2.2.2.1 p.2 (List.of_mem_zip hm).2)
     have h3:((is.zip ks).take i).length<=100:=by rw[List.length_take];omega
     rw[lla];omega
    obtain⟨pre,CI⟩:=nmd (eT b og++((is.zip ks).take i).flatMap (eY lks));rw[CI]at CF AT;have HF:=Hd (An AT (An CI (HJ.out.2.2.2.then AT.frr)));clear AT CI;obtain⟨wl,rfl⟩:∃X,X=wr:=⟨_,rfl⟩
    by_cases CS:i<n
    ·have AZ:(i:Int)<(n:Int):=qo
     have BA:(i:Int)<(ni:Int):=qo
     have AW:(i:Int)<(nk:Int):=qo
     obtain⟨k,hk⟩:∃v,ks[i]?=some v:=⟨_,lge (by rw[HE.out.2.1];omega)⟩;obtain⟨iv,hiv⟩:∃v,is[i]?=some v:=⟨_,lge (by rw[HE.out.1];omega)⟩;have CQ:=HE.out.2.2.2.2.1 k (lmg hk);have CR:=HE.out.2.2.2.1 iv (lmg hiv);obtain⟨gk,ok,hK,EC,DZ⟩:=row_get gL HM.out.2.1 qo;have EA:=HM.out.1;rw[gn]at EA;obtain⟨gi,oi,hI,EB,DY⟩:=row_get (m:=1) (f:=λi:Nat=>[Value.int .i64 (i:Int)]) (λ_=>rfl) EA qo;subst hK hI;have AK:=DZ i k hk;have DX:=DY i iv hiv;unfold iC at AK;obtain⟨ls,ED,EE,EF⟩:=str_of k.lin;rw[ED]at AK
     have AH:∀W,Fr [] w1 W->W.cell? ⟨gi,oi+i,none⟩=some iv/\W.cell? ⟨gk,ok+i*4,none⟩=some k.rnd/\W.cell? ⟨gk,ok+i*4+1,none⟩=some k.phase/\W.cell? ⟨gk,ok+i*4+2,none⟩=some k.idx/\W.cell? ⟨gk,ok+i*4+3,none⟩=some ls:=λW hW=>by
      have h1:=DX 0 qo;have h2:∀o,W.cell? ⟨gk,o,none⟩=w1.cell? ⟨gk,o,none⟩:=λo=>hW.cell (p:=⟨gk,o,none⟩) EC qs;have h3:=hW.cell (p:=⟨gi,oi+i,none⟩) EB qs;exact⟨h3.trans (by simpa using h1),(h2 _).trans (AK 0 qo),(h2 _).trans (AK 1 qo),(h2 _).trans (AK 2 qo),(h2 _).trans (AK 3 qo)⟩
     have HC:=Hd AH;have HSS:=Hd (λ(W:World) (hW:Fr [] wl W)=>An (HS0.out W (HF.out.2.2.then hW)) (HC.out W (HF.out.2.2.then hW)));obtain⟨t1,ht1,_,BD⟩:=str_of (eU (iv:Int));obtain⟨t2,ht2,_,BE⟩:=str_of (fb k);have CP:gc (iv:Int):=⟨by omega,by omega⟩;have hd1:t1.size<=21:=by rw[BD];exact eR CP.1 CP.2
     have hd2:t2.size<=2000:=by rw[BE];exact fM CQ
     have BZ:∀W,Fr [] w1 W->Calls prog 84 #[.agg #[.int .i64 k.rnd,.int .i64 k.phase,.int .i64 k.idx,.string ls]] W (RetPost W (.string t2)):=λW hW=>by
      have h:=iB k W (HO.out.2.fr0 hW) CQ;rw[ht2]at h;unfold encK at h;rw[ED]at h;exact h
     have BY:=Hd BZ;have HK:=Hd (An hk (An hiv (An CQ (An ht1 ht2))));clear hk hiv ED EF EE EB EC AK DX DZ DY EA AH BD BE ht1 ht2 BZ;have c1:¬9223372036854775807<t1.size+1:=qo
     have c2:¬9223372036854775807<t1.size+1+t2.size:=qo
     have hC:Fr [] wl wl.drew:=(Fq [] wl).drew
     go_upto_region 12 with fail
     refine wp_region_head (λW:World=>Fr [] wl W) 14 qk ?_ qd
     show headJ 0 ..
     iterate 5 (refine hdL rfl ?_;try simp only[qq])
     show headJ 7 ..
     iterate 5 (refine hdL rfl ?_;try simp only[qq])
     refine hO (i:=5) rfl λK hK=>?_;go_simp
     go_at_call 81
     (with_reducible refine(HI.out (iv:Int) t1 _ CP HK.out.2.2.2.1 (HF.out.2.2.then hC)).mono ?_);rintro e y1 ⟨rfl,AQ⟩;have BF:=hC.then AQ;refine hK _ _ BF ?_;clear hK K
     try simp only[qq]
     show headJ 6 ..
     refine hdL rfl ?_;try simp only[qq];refine hO (i:=12) rfl λK hK=>?_;go_simp
     go_at_call 84
     (with_reducible refine(BY.out _ (HF.out.2.2.then BF)).mono ?_);rintro e y2 ⟨rfl,AR⟩;have BG:=BF.then AR;refine hK _ _ BG ?_;clear hK K
     try simp only[qq]
     show headJ 13 ..
     refine hdL rfl ?_;try simp only[qq];refine headI_done ⟨by kernel_rfl,?_⟩;simp only[qG,qH];have hh:Value.string ((t1++⟨#[32]⟩)++t2)=encN ((eU (iv:Int)++[32])++fb k):=eP (eP HK.out.2.2.2.1 (eS [32])).symm HK.out.2.2.2.2;obtain⟨sx,EG⟩:∃s:ByteArray,(t1++⟨#[32]⟩)++t2=s:=⟨_,rfl⟩
     have CO:sx.size<=3000:=by
      have e1:(⟨#[32]⟩:ByteArray).size=1:=rfl;rw[<-EG];simp only[ByteArray.size_append,e1];omega
     rw[EG]at hh ⊢
     have AJ:sx.data.toList=(eU (iv:Int)++[32])++fb k:=by
      unfold encN at hh
      injection hh with hh
      rw[hh]
     have AE:=eX wz AV pre sx y2 (HF.out.1.fr0 BG) qo;rw[AJ]at AE;have CL:((eU (iv:Int)++[32])++fb k).length<=3000:=by rw[<-AJ,Array.length_toList,ByteArray.size_data];exact CO
     obtain⟨x3,EH⟩:∃l:Nm,(eU (iv:Int)++[32])++fb k=l:=⟨_,rfl⟩;rw[EH]at AE CL;have CA:=Hd EH;have CB:=Hd AE;clear hh EG hC BF BG AQ AR c1 c2 AE AJ EH
     go_upto_region 13 with(go_at_call 83;(with_reducible refine CB.out.mono ?_);rintro e w7 ⟨rfl,CD⟩;have H7:=Hd CD;clear CD)
     have DM:Fr [] wz w7:=H7.out.frr;obtain⟨q0,q1,q2,q3,q4⟩:=HS0.out w7 (HJ.out.2.2.2.then DM);obtain⟨qi,-,-,-,-⟩:=HC.out w7 (HJ.out.2.2.2.then DM);obtain⟨kl,BV⟩:=keyOf_nat CR;obtain⟨A3,c3,AC,AF,_⟩:=ML.look gN key_int underlying168 gp HJ.out.1 iv BV;have hq:=AC w7 (DM.block mr HJ.out.1.map.lt qs);obtain⟨L,hL⟩:=nmd (getL es iv);obtain⟨m,hm⟩:=nmd (L.length);rw[hL]at AF hq;rw[hm]at AF hq
     have EI:L=(lks.filter λx=>decide (x.t=iv)).map fH:=by
      rw[<-hL,HJ.out.2.1 iv,List.take_of_length_le (by rw[HE.out.2.2.1];exact nlr _)]
     have EK:m<=200:=by
      rw[<-hm,EI,List.length_map];have h1:=List.length_filter_le (λy:LK=>decide (y.t=iv)) lks;rw[HE.out.2.2.1]at h1;omega
     have EJ:∀x∈L,x.length<=2100:=by
      rw[EI];intro x hx;obtain⟨y,hy,rfl⟩:=List.mem_map.1 hx;exact gJ (HE.out.2.2.2.2.2 y (List.mem_filter.1 hy).1)
     have HL:=Hd (An EI (An EJ (An AF hm)));clear AC AF hL EI EJ BV DM hm;have EL:IntKind.i64.wrap (i:Int)=(i:Int):=by simp only[IntKind.wrap_i64];omega
     go_upto_region 14 with fail
     clear q0 q1 q2 q3 q4 qi hq
     go_loopw [82] (λjx W=>∃i2:Nat,i2<=m/\jx=.int .i64 (i2:Int)/\SB wz AV ((pre++x3)++(L.take i2).flatMap λx=>x) W) (λjx _=>m-(intOf jx).toNat)
     case atStart=>exact⟨0,Nat.zero_le _,rfl,by rw[List.take_zero,List.flatMap_nil,List.append_nil];exact H7.out⟩
     case round=>
      obtain⟨i2,hi2,rfl,AT⟩:=hrel
      have CG:((pre++x3)++(L.take i2).flatMap λx=>x).length<=60000000:=by
       have h2:((L.take i2).flatMap λx=>x).length<=(L.take i2).length*2100:=fo (λx:Nm=>x) 2100 (L.take i2) λx hx=>HL.out.2.1 x (List.mem_of_mem_take hx);have h3:(L.take i2).length<=200:=by rw[List.length_take];omega
       rw[lla,lla];omega
      obtain⟨pj,CJ⟩:=nmd ((pre++x3)++((L.take i2).flatMap λx=>x));rw[CJ]at CG AT;have HP:=Hd (An AT CJ);clear AT CJ;obtain⟨wm,rfl⟩:∃X,X=wr:=⟨_,rfl⟩
      by_cases CU:i2<m
      ·have AY:(i2:Int)<(m:Int):=qo
       obtain⟨x,hx⟩:∃v,L[i2]?=some v:=⟨_,lge (by rw[HL.out.2.2.2];exact CU)⟩;obtain⟨ga,oa,hA,hga,hca⟩:=row_get (m:=1) (f:=jr) (λ_=>rfl) HL.out.2.2.1.row qo;subst hA;obtain⟨sl,hsl,hsll,hslz⟩:=str_of x;have CM:=HL.out.2.1 x (lmg hx);have CN:sl.size<=2100:=by rw[hslz];exact CM
       have CK:wm.cell? ⟨ga,oa+i2,none⟩=some sl:=by
        have h1:=hca i2 x hx 0 qo;unfold jr at h1;rw[hsl]at h1;exact((HP.out.1.frr).cell (p:=⟨ga,oa+i2,none⟩) hga qs).trans (by simpa using h1)
       have AE:=eX wz AV pj sl wm HP.out.1 qo;rw[hsll]at AE;have CC:=Hd AE;have AL:=Hd hx;clear hx hga hca hsl hsll hslz CM AE
       go_upto_region 17 with(go_at_call 83;(with_reducible refine CC.out.mono ?_);rintro e w8 ⟨rfl,CE⟩;have H8:=Hd CE;clear CE)
       clear CK
       go_wp2_with fail
       go_roundw
       case rel=>
        refine⟨i2+1,by omega,by go_num,?_⟩;have h:=H8.out;rw[<-HP.out.2]at h;rw[List.take_add_one,AL.out,Option.toList_some,List.flatMap_append,List.flatMap_cons,List.flatMap_nil,List.append_nil,<-List.append_assoc];exact h
       case measure=>simp[intOf];omega
      ·obtain rfl:i2=m:=qo
       have AY:¬(i2:Int)<(i2:Int):=qo
       have AE:=gI wz AV pj 10 wm HP.out.1 qo;rw[show (((10:UInt8).toNat:Nat):Int)=10 from rfl]at AE;have CC:=Hd AE;clear AE
       go_upto_region 19 with(go_at_call 85;(with_reducible refine CC.out.mono ?_);rintro e w8 ⟨rfl,CE⟩;have H8:=Hd CE;clear CE)
       go_wp2_with fail
       go_roundw
       case rel=>
        refine⟨i+1,by omega,by go_num,?_⟩;have hz:(is.zip ks)[i]?=some (iv,k):=by rw[List.getElem?_zip_eq_some];exact⟨HK.out.2.1,HK.out.1⟩
        have h:=H8.out;rw[<-HP.out.2,<-CA.out,<-HF.out.2.1,show L.take i2=L from List.take_of_length_le (by rw[HL.out.2.2.2];exact nlr _),HL.out.1,List.flatMap_map]at h;have he:eY lks (iv,k)=((((eU (iv:Int))++[32])++fb k)++(lks.filter λx=>decide (x.t=iv)).flatMap λa=>fH a)++[10]:=rfl;rw[List.take_add_one,hz,List.flatMap_append,Option.toList_some,List.flatMap_cons,List.flatMap_nil,he];simp only[List.append_nil,List.append_assoc,List.cons_append,List.nil_append]at h ⊢;exact h
       case measure=>simp[intOf];omega
    ·obtain rfl:i=n:=qo
     have AZ:¬(i:Int)<(i:Int):=qo
     have AE:=iT wz AV pre wl HF.out.1;have CC:=Hd AE;clear AE
     go_wp2_with (go_at_call 86;(with_reducible refine CC.out.mono ?_);rintro e w8 ⟨rfl,DN⟩;have H8:=Hd DN;clear DN)
     go_ret
     refine⟨?_,HF1.out.then (HJ.out.2.2.2.then H8.out)⟩;unfold fm;rw[<-HF.out.2.1,List.take_of_length_le qo];rfl
theorem iE{n:ON}(h:checkO n=0):n.text.length<=1000:=by
 obtain⟨k,f,d,e,c⟩:=kind_of h
 cases b:(us k).text with
 |false=>rw[(checkU_none c).2.2.2 b];simp
 |true=>
  have a:=(checkU_zero c).2.2 b;unfold wordB at a;simp only[Bool.and_eq_true,decide_eq_true_eq]at a;omega
theorem iW{k:KY}(h:checkK k=0):KeyOk k:=by
 unfold checkK at h;split at h
 ·simp at h
 rename_i c;split at h
 ·simp at h
 rename_i d;split at h
 ·simp at h
 rename_i e;refine⟨⟨qo,qo⟩,⟨qo,qo⟩,⟨qo,qo⟩,?_⟩;split at h
 ·split at h
  ·simp at h
  ·rename_i a
   simp only[ne_eq,Decidable.not_not]at a;rw[a];simp
 ·split at h
  ·simp at h
  ·rename_i a
   have b:validB k.lin=true:=by
    have:=(not_or.1 a).2;simpa using this
   have:=valid_len b;omega
theorem js{a:List Nat}(b:∀i∈a,i<=1000000)(c:Option (Nat×CH)):gc (fndF a c):=by
 unfold fndF gc;split
 ·rename_i p
  rw[List.getD_eq_getElem?_getD]
  cases h:a[p.1]? with
  |none=>simp
  |some v=>have:=b v (lmg h);simp;omega
 ·omega
theorem iX(l:List AG){g:List Nat}(e:∀i∈g,i<=1000000)(i:Nat):∀(r:List CH) (c s:LS),runR l g i r c=some s->(∀x∈c.lks,gc x.f)->∀x∈s.lks,gc x.f
 |[],c,s,h,d=>by rw[runR]at h;rw[<-Option.some.inj h];exact d
 |x::r,c,s,h,d=>by
  rw[runR]at h;obtain⟨k,b,j⟩:=Option.bind_eq_some_iff.1 h;refine iX l e i r k s j ?_;rw[stepR_eq]at b;split at b
  ·cases b
  ·rw[<-Option.some.inj b]
   intro y a
   rcases List.mem_append.1 a with a|a
   ·exact d y a
   ·rw[lms]at a
    rw[a];exact js e _
theorem iY(l:List AG){b:List Nat}(a:∀i∈b,i<=1000000):∀ {i:Nat} {s:LS},runA l b i=some s->∀x∈s.lks,gc x.f
 |0,s,h=>by rw[runA]at h;rw[<-Option.some.inj h];simp[ls0]
 |i+1,s,h=>by
  rw[runA]at h;obtain⟨e,c,d⟩:=Option.bind_eq_some_iff.1 h;exact iX l a i _ e s d (iY l a c)
structure TxOk(is:List Nat)(l:List AG)(s:LS):Prop where
 n:is.length<=100
 e:l.length=is.length
 k:s.lks.length<=200
 i:∀i∈is,i<=1000000
 y:∀a∈l,KeyOk a.k
 x:∀x∈s.lks,LkOk x
theorem jt:TxOk [] [] ls0:=⟨qs,qs,by simp[ls0],qs,qs,by simp[ls0]⟩
theorem ju(nm:ON)(P:Nat)(is:List Nat)(l:List AG)(C:l.length<=12)(n:l.length=is.length)(o:∀a∈l,wfB a=true)(v:∀a∈l,a.r.length<=10)(m:∀i∈is,i<=1000000):∃k q t b s,TxOk q t s/\∀w e w',fx nm P is l w e w'->VQ k q t b s w e w':=by
 cases c:fc nm P is l with
 |error k=>
  refine⟨k,[],[],0,ls0,jt,λw e w' h=>?_⟩;unfold fx at h;rw[c]at h
  exact⟨fe,h.1,iQ w',h.2⟩
 |ok p=>
  obtain⟨b,s⟩:=p
  have d:runA l is l.length=some s/\ascB is=true:=by
   unfold fc at c;split at c
   ·cases c
   ·rename_i g
    split at c
    ·cases c
    ·split at c
     ·cases c
     ·split at c
      ·cases c
      ·split at c
       ·rename_i A B
        injection c with c
        injection c with _ c
        rw[<-c];exact⟨by assumption,by simpa using g⟩
       ·cases c
  obtain⟨d,g⟩:=d;obtain⟨D,u,z⟩:=runA_sorted o (iu g) n d;refine⟨0,is,l,b,s,⟨qo,n,by have:=ft v d;omega,m,λa h=>iW (wfB_key (o a h)),λx f=>?_⟩,λw e w' h=>?_⟩
  ·obtain⟨j,_,y⟩:=z x f
   exact⟨iY l m d x f,u x f,m _ (lmg y),iE (u x f)⟩
  ·unfold fx at h
   rw[c]at h;exact h
theorem ie(l:List AG):(l.map AG.k).flatMap iC=l.flatMap iO:=by rw[List.flatMap_map];rfl
theorem jv{xs:List AX}(d:Run xs){is:List Nat}(h:∀i∈is,i<xs.length):∀a∈fa xs is,wfB a=true:=λa b=>by
 obtain⟨i,c,rfl⟩:=List.mem_map.1 b;rw[lge (h i c)];exact(d.wf _ (List.getElem_mem _)).1
end Go.Proofs.YtlpmiimgacfmkaaGreatDoor
