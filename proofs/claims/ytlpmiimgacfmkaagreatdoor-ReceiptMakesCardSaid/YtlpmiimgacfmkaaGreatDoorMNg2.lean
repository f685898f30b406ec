/- logtree: nodes, for any leaf and any path of the right length. -/
import Derived.Test.YtlpmiimgacfmkaaGreatDoorMNg1
import Derived.Test.YtlpmiimgacfmkaaGreatDoorMPf3
set_option linter.all false
namespace Go.Proofs.YtlpmiimgacfmkaaGreatDoor
open Go.Proofs.Tryz
open Go.RowKit Go.Shelf
set_option maxRecDepth 100000
set_option maxHeartbeats 4000000
attribute [local go_sem] Oper.semAt_some
theorem flat_32:∀ {xs:List Nm} {j:Nat} {x:Nm} {o:Nat},(∀ y∈xs,y.length=32)->xs[j]?=some x->o<32->(xs.flatMap dCells)[j*32+o]?=(dCells x)[o]?
 | [],j,x,o,_,h,_=>by simp at h
 | y::r,0,x,o,hl,h,ho=>by
  simp at h;subst h
  rw[List.flatMap_cons,Nat.zero_mul,Nat.zero_add,List.getElem?_append_left (by rw[dcells_len,hl y (by simp)];exact ho)]
 | y::r,j+1,x,o,hl,h,ho=>by
  rw[List.flatMap_cons,List.getElem?_append_right (by rw[dcells_len,hl y (by simp),Nat.add_mul];omega),dcells_len,hl y (by simp),show (j+1)*32+o - 32=j*32+o by rw[Nat.add_mul];omega];exact flat_32 (fun z hz=>hl z (by simp[hz])) (by simpa using h) ho
def rseq (d:Nm) (bs:List Bool) (ps:List Nm):Nat->Nm
 | 0=>d
 | k+1=>if bs.getD k false then nodeN (rseq d bs ps k) (ps.getD k []) else nodeN (ps.getD k []) (rseq d bs ps k)
theorem rseq_len {d:Nm} (bs:List Bool) (ps:List Nm) (hd:d.length=32):∀ k,(rseq d bs ps k).length=32
 | 0=>hd
 | k+1=>by rw[rseq];split <;> exact shaN_len _
theorem rseq_succ (d:Nm) {bs:List Bool} {ps:List Nm} {k:Nat} {b:Bool} {p:Nm} (hb:bs[k]?=some b) (hp:ps[k]?=some p):rseq d bs ps (k+1)=if b then nodeN (rseq d bs ps k) p else nodeN p (rseq d bs ps k):=by
 rw[rseq,List.getD_eq_getElem?_getD,List.getD_eq_getElem?_getD,hb,hp];rfl
structure NSg (N:Nat) (w W:World) (B7 B8 B9 B10 B11 B12 g c D k:Nat) (r:Nm):Prop where
 fr:Fr [] w W
 path:BoxN W B7 51 #[.slice (some ⟨g,0,none⟩) N c]
 res:∃ f,W.rowIs B8 57 32 f
 lres:BoxN W B9 303 #[.slice none 0 0]
 eres:BoxN W B10 40 #[.int .i64 0]
 l:∃ Al cl xs,BoxN W B11 303 #[.slice Al k cl]/\Own W 308 64 Al k cl xs/\∀ q∈blk Al,D+2<=q
 root:W.rowIs B12 57 32 (fun j=>.int .u8 ((r.getD j 0).toNat:Int))
theorem NSg.fr2 {N:Nat} {w W W':World} {B7 B8 B9 B10 B11 B12 g c D k:Nat} {r:Nm} (h:NSg N w W B7 B8 B9 B10 B11 B12 g c D k r) (hf:Fr [D,D+1] W W') (hD:w.heap.size<=D) (h7:B7<D) (h8:B8<D) (h9:B9<D) (h10:B10<D) (h11:B11<D) (h12:B12<D):NSg N w W' B7 B8 B9 B10 B11 B12 g c D k r:=by
 have hn:∀ B,B<D->B ∉ [D,D+1]:=fun B hB=>by simp;omega
 obtain⟨f,hr8⟩:=h.res;obtain⟨Al,cl,xs,l1,l2,l3⟩:=h.l;exact⟨h.fr.trans hf (by simp;omega),h.path.fr hf (hn _ h7),⟨f,rowIs_fr hr8 hf (hn _ h8)⟩,h.lres.fr hf (hn _ h9),h.eres.fr hf (hn _ h10),⟨Al,cl,xs,l1.fr hf (hn _ h11),l2.fr hf (fun k hk=>by have:=l3 k hk;simp;omega),l3⟩,rowIs_fr h.root hf (hn _ h12)⟩
theorem Nodes_g (d:Nm) (path:List Nm) (i nn N:Nat) (A:Option Addr) (c:Nat) (w:World) (hok:Ok w) (hi:i<nn) (hnn:nn<=1000) (hN0:0<N) (hNb:N<=1000) (hbN:(bl i nn).length=N) (hpN:path.length=N) (hd32:d.length=32) (hp:∀ p∈path,p.length=32) (ho:Own w 57 32 A N c (path.flatMap dCells)) :
 Calls prog 178 #[encD d,.int .i64 (i:Int),.int .i64 (nn:Int),.slice A N c] w (NodesPost w (rseq d (bl i nn) path N)):=by
 have hcl:(dCells d).length=32:=by rw[dcells_len,hd32]
 obtain⟨g,rfl,hcs⟩:=Cs.of_own ho hN0;unfold encD;obtain⟨w1,hw1⟩:=nmd (w.alloc (.cells (dCells d).toArray 57));have hL1:w1.rowIs w.heap.size 57 32 (fun j=>.int .u8 ((d.getD j 0).toNat:Int)):=by rw[<-hw1];exact row_cells w hcl
 have hf1:Fr [] w w1:=by rw[<-hw1];exact (Fq [] w).alloc _
 have hz1:w1.heap.size=w.heap.size+1:=by rw[<-hw1];simp
 obtain⟨w2,hw2⟩:=nmd (w1.alloc (.cells #[.slice (some ⟨g,0,none⟩) N c] 51));have hb2:BoxN w2 (w.heap.size+1) 51 #[.slice (some ⟨g,0,none⟩) N c]:=by rw[<-hw2,<-hz1];exact BoxN.new w1 _ _
 have hf2:Fr [] w1 w2:=by rw[<-hw2];exact (Fq [] w1).alloc _
 have hz2:w2.heap.size=w.heap.size+2:=by rw[<-hw2];simp[hz1]
 obtain⟨w3,hw3⟩:=nmd (w2.alloc (.cells (z32) 57));obtain⟨fR,hR3⟩:∃ f,w3.rowIs (w.heap.size+2) 57 32 f:=by rw[<-hw3,<-hz2];exact⟨_,row_new w2 _ _⟩
 have hf3:Fr [] w2 w3:=by rw[<-hw3];exact (Fq [] w2).alloc _
 have hz3:w3.heap.size=w.heap.size+3:=by rw[<-hw3];simp[hz2]
 obtain⟨w4,hw4⟩:=nmd (w3.alloc (.cells #[.slice none 0 0] 303));have hb4:BoxN w4 (w.heap.size+3) 303 #[.slice none 0 0]:=by rw[<-hw4,<-hz3];exact BoxN.new w3 _ _
 have hf4:Fr [] w3 w4:=by rw[<-hw4];exact (Fq [] w3).alloc _
 have hz4:w4.heap.size=w.heap.size+4:=by rw[<-hw4];simp[hz3]
 obtain⟨w5,hw5⟩:=nmd (w4.alloc (.cells #[.int .i64 0] 40));have hb5:BoxN w5 (w.heap.size+4) 40 #[.int .i64 0]:=by rw[<-hw5,<-hz4];exact BoxN.new w4 _ _
 have hf5:Fr [] w4 w5:=by rw[<-hw5];exact (Fq [] w4).alloc _
 have hz5:w5.heap.size=w.heap.size+5:=by rw[<-hw5];simp[hz4]
 have hW1:=ltwithin_any (nn:Int) 1 1048576 w5;have hW2:=ltwithin_any (i:Int) 0 ((nn:Int) - 1) w5;rw[decide_eq_true (show (1:Int)<=(nn:Int)/\(nn:Int)<=1048576 by omega)] at hW1;rw[decide_eq_true (show (0:Int)<=(i:Int)/\(i:Int)<=(nn:Int) - 1 by omega)] at hW2;have hwn:IntKind.i64.wrap ((nn:Int) - 1)=(nn:Int) - 1:=by simp[IntKind.wrap,IntKind.bits,IntKind.signed];omega
 obtain⟨bs,hbs⟩:=nmd (bl i nn);rw[hbs] at hbN ⊢;have HBS:=Hd (An hbs (An hbN (An hpN hp)));have hf25:=(hf3.then hf4).then hf5;have hf15:=hf2.then hf25;have HL5:=Hd (rowIs_fr hL1 hf15 (by simp));have HB7:=Hd (hb2.fr hf25 (by simp));have HR8:=Hd (rowIs_fr hR3 (hf4.then hf5) (by simp));have HB9:=Hd (hb4.fr hf5 (by simp));have HB10:=Hd hb5;have HF5:=Hd (hf1.then hf15);have HZ5:=Hd hz5;have HW:=Hd (An hw1 (An hw2 (An hw3 (An hw4 hw5))));have HWI1:=Hd hW1;have HWI2:=Hd hW2;have HCS:=Hd hcs;have HOK:=Hd hok;clear hbs hbN hpN hp hL1 hb2 hR3 hb4 hb5 hf1 hf2 hf3 hf4 hf5 hf25 hf15 hz1 hz2 hz3 hz4 hz5 hw1 hw2 hw3 hw4 hw5 hW1 hW2 ho hcs hok;refine (callsIn_wide (n:=5)).1 ?_;refine callsIn_of_wp_marks func178 rfl trivial ?_ rfl;simp only[ntmps178,List.size_toArray,List.length_cons,List.length_nil,Nat.reduceAdd,Nat.reduceSub,Array.replicate_succ,Array.replicate_zero,List.push_toArray,List.append_toArray,List.nil_append,List.cons_append];refine wpIn_wide.2 ?_
 go_upto_region 1 with fail
 rw[HW.out.1,HW.out.2.1,HW.out.2.2.1,HW.out.2.2.2.1,HW.out.2.2.2.2];simp only[Nat.add_assoc,Nat.reduceAdd]
 go_upto_region 4 with (first
  | (go_at_call 124;(with_reducible refine HWI1.out.mono ?_);rintro e w1 ⟨rfl,rfl⟩)
  | (go_at_call 124;(with_reducible refine HWI2.out.mono ?_);rintro e w1 ⟨rfl,rfl⟩))
 obtain⟨w6,hw6,hb11,hf6⟩:=bxn w5 #[.slice none 0 0] 303;have hz6:w6.heap.size=w5.heap.size+1:=by rw[<-hw6];simp
 rw[hw6];obtain⟨w7,hst7,hf7,hr7⟩:=new_dig w6 d hd32;have hf57:=hf6.then hf7;have HL6:=Hd (row_range (rowIs_fr HL5.out hf6 (by simp)) hd32);have HB7b:=Hd (HB7.out.fr hf57 (by simp));have HR8b:=Hd (rowIs_fr HR8.out hf57 (by simp));have HB9b:=Hd (HB9.out.fr hf57 (by simp));have HB10b:=Hd (HB10.out.fr hf57 (by simp));have HB11b:=Hd (hb11.fr hf7 (by simp));have HR12:=Hd hr7;have HF7:=Hd (HF5.out.then hf57);have HZ7:=Hd (An hz6 hr7.lt);have HSTEP:=Hd (fun (W:World)=>steps_any (i:Int) (nn:Int) W);clear hw6 hb11 hf6 hf7 hr7 hf57 hz6 HB7 HR8 HB9 HB10 HF5 HL5
 go_wp2_with (first
  | (with_reducible refine wpList_load_mid rfl 57 (.tmp 4) rfl w.heap.size 0 rfl (dCells d) (.array 32 5) HL6.out (by kernel_rfl) rfl (by rw[hcl];kernel_rfl) ?_)
  | (go_at_call 218;(with_reducible refine (HSTEP.out _).mono ?_);rintro e w8 ⟨rfl,rfl⟩))
 obtain⟨w8,hw8⟩:=nmd ((w7.alloc (.cells #[.int .i64 (i:Int)] 3)).alloc (.cells #[.int .i64 (nn:Int)] 3));have hf8:Fr [] w7 w8:=by rw[<-hw8];exact ((Fq [] w7).alloc _).alloc _
 have hs8:w8.heap.size=w7.heap.size+2:=by rw[<-hw8];simp
 have hbi:BoxN w8 w7.heap.size 3 #[.int .i64 (i:Int)]:=by rw[<-hw8];exact (BoxN.new w7 _ _).alloc _
 have hbn:BoxN w8 (w7.heap.size+1) 3 #[.int .i64 (nn:Int)]:=by
  rw[<-hw8];have h:=BoxN.new (w7.alloc (.cells #[.int .i64 (i:Int)] 3)) 3 #[.int .i64 (nn:Int)]
  rwa [wsA] at h
 rw[hw8];obtain⟨B11,hB11⟩:=nmd (w5.heap.size);obtain⟨B12,hB12⟩:=nmd (w6.heap.size);have hz5:=HZ5.out;have hz7:=HZ7.out;rw[hB12,hB11] at hz7;rw[hB11] at hz5 HB11b;rw[hB12] at HR12;rw[hB11,hB12];have hz7b:=hz7.2;have hz7a:=hz7.1
 have h0:NSg N w w8 (w.heap.size+1) (w.heap.size+2) (w.heap.size+3) (w.heap.size+4) B11 B12 g c w8.heap.size 0 d :=
  ⟨HF7.out.then hf8,HB7b.out.fr hf8 (by simp),⟨_,rowIs_fr HR8b.out hf8 (by simp)⟩,HB9b.out.fr hf8 (by simp),HB10b.out.fr hf8 (by simp),⟨none,0,[],HB11b.out.fr hf8 (by simp),Own.nil _ _ _,by simp[blk]⟩,rowIs_fr HR12.out hf8 (by simp)⟩
 have hws:w.heap.size<=w8.heap.size:=h0.fr.size
 have hI:∀ (k:Nat) (r:Nm) (W W':World),NSg N w W (w.heap.size+1) (w.heap.size+2) (w.heap.size+3) (w.heap.size+4) B11 B12 g c w8.heap.size k r->Fr [w8.heap.size,w8.heap.size+1] W W'->NSg N w W' (w.heap.size+1) (w.heap.size+2) (w.heap.size+3) (w.heap.size+4) B11 B12 g c w8.heap.size k r :=
  fun k r W W' h hf=>h.fr2 hf hws (by omega) (by omega) (by omega) (by omega) (by omega) (by omega)
 have HZ:=Hd (An hz5 (An hz7a (An hz7b (An hs8 hws))));clear hz5 hz7a hz7b hs8 hws;clear hw8 HB7b HR8b HB9b HB10b HB11b HR12 HF7 HL6 HSTEP hst7 hB11 hB12 hz7 HZ7 HZ5 HW HWI1 HWI2
 have hPATH:∀ (k:Nat) (p:Nm),path[k]?=some p->∀ X,Fr [] w X->X.rangeAt g (k*32) (dCells p):=fun k p hk X hX j v hv=>by
  have hp32:=HBS.out.2.2.2 p (lmg hk);have hj:j<32:=by have:=(lgs.1 hv).1;rw[dcells_len,hp32] at this;exact this
  exact (HCS.out.fr0 hX).2 (k*32+j) v (by rw[flat_32 HBS.out.2.2.2 hk hj];exact hv)
 have hBI:=HBS.out.1
 refine wp_rangeFunc_list (a:=?aa) 5 bs (fun x:Bool=>#[.bool x]) (lb:=#[.pointer (some ⟨w7.heap.size,0,none⟩),.pointer (some ⟨w7.heap.size+1,0,none⟩)]) ?_ (enters_of func258 (by kernel_rfl) rfl) ?_
  (fun k W=>NSg N w W (w.heap.size+1) (w.heap.size+2) (w.heap.size+3) (w.heap.size+4) B11 B12 g c w8.heap.size k (rseq d bs path k)) (fun k W W' h hf=>hI k _ W W' h hf) h0
  (fun l J W hW _ hy hJ=>by have h:=seq_g 5 w7.heap.size (w7.heap.size+1) i nn w8 hi (by omega) hbi hbn l J W hW;rw[hBI] at h;exact h hy hJ)
  (fun k a' W=>(∃ x:Bool,bs[k]?=some x/\a'={ tmps:=((Act.tmps ?aa).setIfInBounds 30 (.bool x)).setIfInBounds 13 (.bool x),defers:=[] })/\NSg N w W (w.heap.size+1) (w.heap.size+2) (w.heap.size+3) (w.heap.size+4) B11 B12 g c w8.heap.size k (rseq d bs path k))
  (fun k a' W W' h hf=>⟨h.1,hI k _ W W' h.2 hf⟩) ?_ ?_ ?_
 ·rfl
 ·intro x;rfl
 ·intro l k x W K hx hS hsz hK
  gi_wp2_with fail
  exact hK _ _ (Fq [] W) ⟨⟨x,hx,rfl⟩,hS⟩
 ·intro l k x a' W hx hA hsz
  obtain⟨⟨x',hx',rfl⟩,hS⟩:=hA;simp only[qA,qB,qC];have hxx:x'=x:=by rw[hx] at hx';exact (Option.some.inj hx').symm
  subst hxx;have hkN:k<N:=by have h:=(lgs.1 hx).1;rw[HBS.out.2.1] at h;exact h
  obtain⟨pk,hkp⟩:∃ p,path[k]?=some p:=⟨_,lge (by rw[HBS.out.2.2.1];exact hkN)⟩;have hp32:=HBS.out.2.2.2 pk (lmg hkp);have hr32:=rseq_len bs path hd32 k;obtain⟨rk,hrk⟩:=nmd (rseq d bs path k);have hrs:=rseq_succ d hx' hkp;rw[hrk] at hrs hS hr32;have hk1:((k:Int) == (N:Int))=false:=by simp;omega
  have hk2:(k:Int)<(N:Int):=by omega
  have hkb:k<1000:=by omega
  clear hx hx' hrk
  cases x' with
  | false =>
   replace hrs:rseq d bs path (k+1)=nodeN pk rk:=hrs
   have hok:=HOK.out.fr0 hS.fr;obtain⟨Al,cl,xs,l1,l2,l3⟩:=hS.l;have lc:=l1.k0;have pc:=hS.path.k0;have hrr:W.rowIs B12 57 32 (fun j=>.int .u8 (((rk).getD j 0).toNat:Int)):=hS.root;have hpr:W.rangeAt g (k*32) (dCells pk):=hPATH k pk hkp W hS.fr;have hcr:(dCells (rk)).length=32:=by rw[dcells_len,hr32]
   have hcp:(dCells pk).length=32:=by rw[dcells_len,hp32]
   have HS:=Hd hS;have HL:=Hd (An l1 (An l2 l3));have HPR:=Hd hpr;have HRR:=Hd hrr;have HOKW:=Hd hok;clear hS l1 l2 l3 hok hpr hrr
   gi_wp2_with fail
   have hC:Fr [] W W.drew:=(Fq [] W).drew;have HSS:=Hd (fun (X:World) (hX:Fr [] W X)=>(show X.cell? ⟨B11,0,none⟩=some (.slice Al k cl)/\X.cell? ⟨w.heap.size+1,0,none⟩=some (.slice (some ⟨g,0,none⟩) N c) from ⟨(HL.out.1.fr hX (by simp)).c 0,(HS.out.path.fr hX (by simp)).c 0⟩));have hgl:=(HCS.out.fr0 HS.out.fr).1;have hrgP:∀ X,Fr [] W X->X.rangeAt g (k*32) (dCells pk):=fun X hX j v hv=>(hX.cell hgl (by simp)).trans (HPR.out j v hv);have hrgR:∀ X,Fr [] W X->X.rangeAt B12 0 (dCells (rk)):=fun X hX=>row_range (rowIs_fr HRR.out hX (by simp)) hr32;clear lc pc;refine wpIn_region_head (fun X:World=>Fr [] W X) 8 (by kernel_rfl) (by kernel_rfl) (fun _ _ h=>by have h1:=And.left h;cases h1) ?_ (by decide)
   show headJ 0 _ _ _ _ _ _ _ _ _ _ _
   iterate 4
    refine hdJ (v:=?_) rfl (Or.inl ⟨by rfl,?_⟩) ?_
    rotate_left
    ·intro W hW;obtain⟨lc,pc⟩:=HSS.out W hW;go_simp;try with_reducible rfl
    try simp only[Act.put,qA,qB,qC,qD,qE,qF]
   refine headI_take (i:=4) (v:=.agg (dCells pk).toArray) (by kernel_rfl) head_done rfl (by decide) (by kernel_rfl) (fun _ _ _ h=>h) (yieldsIf_load_mid (by rfl) 57 (.tmp 40) rfl g ((k*32)) rfl (dCells pk) (.array 32 5) (hrgP) (by kernel_rfl) rfl (by rw[hcp];kernel_rfl)) (by assumption) ?_
   try simp only[Act.put,qA,qB,qC,qD,qE,qF]
   refine headI_take (i:=5) (v:=.agg (dCells (rk)).toArray) (by kernel_rfl) head_done rfl (by decide) (by kernel_rfl) (fun _ _ _ h=>h) (yieldsIf_load_mid (by rfl) 57 (.tmp 12) rfl B12 (0) rfl (dCells (rk)) (.array 32 5) (hrgR) (by kernel_rfl) rfl (by rw[hcr];kernel_rfl)) (by assumption) ?_
   try simp only[Act.put,qA,qB,qC,qD,qE,qF]
   refine headI_take (i:=6) (v:=.agg (pairC pk (rk)).toArray) (by kernel_rfl) head_done rfl (by decide) (by kernel_rfl) (fun _ _ _ h=>h) (Or.inl ⟨by rfl,fun X hX=>?_⟩) (by assumption) ?_
   ·have hb:=run_build_pair X hp32 hr32
    simp[execOp,Act.eval,hb,Sem.run_bind,Result.andThen]
   try simp only[Act.put,qA,qB,qC,qD,qE,qF]
   refine hO (i:=7) rfl fun K hK=>?_;go_simp
   obtain⟨X1,hX1⟩:=nmd ((W.alloc (.cells ((List.toArray (.int .u8 0::.int .u8 0::.int .u8 0::.int .u8 0::.int .u8 0::.int .u8 0::.int .u8 0::.int .u8 0::.int .u8 0::.int .u8 0::.int .u8 0::.int .u8 0::.int .u8 0::.int .u8 0::.int .u8 0::.int .u8 0::.int .u8 0::.int .u8 0::.int .u8 0::.int .u8 0::.int .u8 0::.int .u8 0::.int .u8 0::.int .u8 0::.int .u8 0::.int .u8 0::.int .u8 0::.int .u8 0::.int .u8 0::.int .u8 0::.int .u8 0::.int .u8 0::.int .u8 0::.int .u8 0::.int .u8 0::.int .u8 0::.int .u8 0::.int .u8 0::.int .u8 0::.int .u8 0::.int .u8 0::.int .u8 0::.int .u8 0::.int .u8 0::.int .u8 0::.int .u8 0::.int .u8 0::.int .u8 0::.int .u8 0::.int .u8 0::.int .u8 0::.int .u8 0::.int .u8 0::.int .u8 0::.int .u8 0::.int .u8 0::.int .u8 0::.int .u8 0::.int .u8 0::.int .u8 0::.int .u8 0::.int .u8 0::.int .u8 0::.int .u8 0::[]):Array Value)) 308)).drew);have hf1:Fr [] W X1:=by rw[<-hX1];exact ((Fq [] W).alloc _).drew
   have ht1:X1.there W.heap.size 0 64:=by rw[<-hX1];exact there_new W rfl
   have hlt1:W.heap.size<X1.heap.size:=by rw[<-hX1];simp[World.drew]
   rw[hX1];refine hK _ _ hf1 ?_;clear hK K hX1 hC
   try simp only[Act.put,qA,qB,qC,qD,qE,qF]
   refine headI_done ⟨by kernel_rfl,?_⟩;simp only[qG,qH];have hplen:=pairC_len hp32 hr32;have hpsz:(pairC pk (rk)).toArray.size=64:=by simpa using hplen
   refine wpList_store_mid rfl 308 (.tmp 14) (.tmp 43) rfl W.heap.size 0 (pairC pk (rk)).toArray rfl rfl (by rw[hpsz];exact ht1) (by rw[hpsz];kernel_rfl) (all_oneCell_toArray (pairC_one _ _)) ?_;obtain⟨X2,hX2⟩:=nmd (X1.setCells W.heap.size 0 (pairC pk (rk)).toArray.toList);have hpa2:PairAt X2 W.heap.size pk (rk):=by rw[<-hX2];exact PairAt.put ht1 hlt1 hp32 hr32
   have hf2:Fr [] W X2:=by rw[<-hX2];exact hf1.setCells (.inr (nlr _)) _ _
   rw[hX2];clear hX2 ht1 hlt1 hf1 HSS
   go_wp2_with fail
   obtain⟨B14,hB14⟩:=nmd (W.heap.size);rw[hB14] at hpa2 ⊢;have HB14:=Hd hB14;clear hB14;have HPA:=Hd hpa2;have HF2:=Hd hf2;have lc:X2.cell? ⟨B11,0,none⟩=some (.slice Al k cl):=(HL.out.1.fr hf2 (by simp)).c 0;have hO2:=HL.out.2.1.fr hf2 (by simp);have HO2:=Hd hO2;clear hpa2 hf2 hO2;obtain⟨ii,hii,iz0,iz1,iz2⟩:=info_pair;have hlen1:(pairC pk rk).length=1*64:=hplen;have hB11A:B11 ∉ blk Al:=fun hm=>by have h1:=HL.out.2.2 _ hm;have h2:=HZ.out;omega
   have hB14A:B14 ∉ blk Al:=fun hm=>by have h1:=HL.out.2.1.lt _ hm;have h2:=HB14.out;omega
   have hB1411:B14≠B11:=by have h2:=HZ.out;have h3:=HB14.out;omega
   have hB1211:B12 ∉ [B11]:=by have h2:=HZ.out;simp;omega
   have hB12A:B12 ∉ blk Al:=fun hm=>by have h1:=HL.out.2.2 _ hm;have h2:=HZ.out;omega
   gi_wp2_with (first
    | (refine wpListIn_one rfl rfl ?_;(with_reducible refine wp_load_mid 308 (.tmp 14) rfl B14 0 rfl (pairC pk rk) _ HPA.out.rng underlying308 rfl (by rw[hplen];kernel_rfl) ?_))
    | (refine wpListIn_one rfl rfl ?_;(with_reducible refine wp_load_mid 308 (.tmp 14) rfl B14 0 rfl (pairC pk rk) _ HPA4.out.rng underlying308 rfl (by rw[hplen];kernel_rfl) ?_))
    | (rw[fold_full (pairC pk rk) _ (by rw[hplen];rfl)];refine wpListIn_one rfl rfl ?_;(with_reducible refine wp_app_tmp (w:=X2) (.tmp 52) (.tmp 54) 303 rfl 308 ii _ 64 64 underlying303 hii iz0 iz1 iz2 rfl (by decide) Al k cl xs rfl HO2.out 1 1 (pairC pk rk) 308 rfl hlen1 (pairC_one _ _) (by unfold maxLen;omega) (by omega) ?_);intro A3 c3 X3 ho3 hf3 hs3;have hb3:=(HL.out.1.fr HF2.out (by simp)).fr hf3 hB11A;have lc3:X3.cell? ⟨B11,0,none⟩=some (.slice Al k cl):=hb3.c 0;have lf3:=hb3.f 0;obtain⟨X4,hX4⟩:∃ X,X3.setCell ⟨B11,0,none⟩ (.slice A3 (k+1) c3)=X:=⟨_,rfl⟩;have f34:Fr [B11] X3 X4:=(by rw[<-hX4];exact (Fq [B11] X3).set (.inl (by simp)) _);have HB4:Hid (BoxN X4 B11 303 #[.slice A3 (k+1) c3]):=Hd (by rw[<-hX4];exact hb3.setAt 0 _);have HPA4:=Hd ((HPA.out.fr hf3 hB14A).fr f34 (by simpa using hB1411));have HF34:=Hd f34;have HF3:=Hd hf3;have HO3:=Hd ho3;have HS3:=Hd hs3;clear hb3 f34 hf3 ho3 hs3))
   have hfW3:Fr (blk Al) W X3:=(HF2.out.mono (by simp)).then HF3.out;have hfW4:Fr (B11::blk Al) W X4:=(hfW3.mono (fun k hk=>.inl (by simp[hk]))).trans HF34.out (by simp)
   have hok4:Ok X4:=HOKW.out.fr hfW4 (by
    intro k hk;have h0:=HOK.out.low;have h2:=HZ.out
    rcases List.mem_cons.1 hk with h | h
    ·omega
    ·have:=HL.out.2.2 _ h;omega)
   have HN4:=PairDigest_any pk rk X4 hok4 hp32 hr32;refine⟨trivial,?_⟩;(with_reducible refine (CallsIn.inRound _ (callsIn_wide.2 HN4)).mono ?_);clear HN4;rintro e X5 ⟨rfl,hf5⟩;unfold encD;have hfW5:Fr (B11::blk Al) W X5:=hfW4.trans hf5 (by simp);have hB12S:B12 ∉ B11::blk Al:=by simp only[List.mem_cons,not_or];exact⟨by simpa using hB1211,hB12A⟩
   have hR5:=rowIs_fr HRR.out hfW5 hB12S;have hst:=store_digest (d:=nodeN pk rk) hR5 (shaN_len _);have hrd:=row_digest (d:=nodeN pk rk) hR5 (shaN_len _);obtain⟨X6,hX6⟩:=nmd (X5.setCells B12 0 (dCells (nodeN pk rk)));have f56:Fr [B12] X5 X6:=by rw[<-hX6];exact (Fq [B12] X5).setCells (.inl (by simp)) _ _
   rw[hX6] at hst hrd;have HR6:=Hd hrd.2;have HF56:=Hd f56;have HFW5:=Hd hfW5;have HF5:=Hd hf5;have hcn:(dCells (nodeN pk rk)).length=32:=by rw[dcells_len];exact shaN_len _
   clear hX6 hrd f56 hfW5 hfW4 hfW3 hf5 hR5 hok4
   gi_wp2_with fail
   have hfS:Fr (B12::B11::blk Al) W X6:=(HFW5.out.mono (fun k hk=>.inl (List.mem_cons_of_mem _ hk))).trans HF56.out (by simp);have hZ:=HZ.out
   have hlowS:∀ q∈B12::B11::blk Al,q=B12 \/ q=B11 \/ w8.heap.size+2<=q:=fun q hq=>by
    rcases List.mem_cons.1 hq with h | hq
    ·exact .inl h
    ·rcases List.mem_cons.1 hq with h | hq
     ·exact .inr (.inl h)
     ·exact .inr (.inr (HL.out.2.2 q hq))
   have hnot:∀ B,B≠B12->B≠B11->B<w8.heap.size+2->B ∉ B12::B11::blk Al:=fun B h1 h2 h3 hm=>by
    rcases hlowS B hm with h | h | h
    ·exact h1 h
    ·exact h2 h
    ·omega
   have hA3:∀ q∈blk A3,w8.heap.size+2<=q:=fun q hq=>by
    rcases HS3.out q hq with h | h
    ·exact HL.out.2.2 q h
    ·have:=HF2.out.size;omega
   have hf46:Fr [B12] X4 X6:=(HF5.out.mono (by simp)).then HF56.out;obtain⟨fr8,hr8⟩:=HS.out.res
   try rw[hrs]
   refine⟨⟨HS.out.fr.trans hfS (fun q hq=>by rcases hlowS q hq with h | h | h <;> right <;> omega),HS.out.path.fr hfS (hnot _ (by omega) (by omega) (by omega)),⟨fr8,rowIs_fr hr8 hfS (hnot _ (by omega) (by omega) (by omega))⟩,HS.out.lres.fr hfS (hnot _ (by omega) (by omega) (by omega)),HS.out.eres.fr hfS (hnot _ (by omega) (by omega) (by omega)),⟨A3,c3,_,HB4.out.fr hf46 (by simp;omega),(HO3.out.fr HF34.out (fun q hq=>by have:=hA3 q hq;simp;omega)).fr hf46 (fun q hq=>by have:=hA3 q hq;simp;omega),hA3⟩,HR6.out⟩,_,hfS,hnot _ (by omega) (by omega) (by omega),hnot _ (by omega) (by omega) (by omega)⟩
  | true =>
   replace hrs:rseq d bs path (k+1)=nodeN rk pk:=hrs
   have hok:=HOK.out.fr0 hS.fr;obtain⟨Al,cl,xs,l1,l2,l3⟩:=hS.l;have lc:=l1.k0;have pc:=hS.path.k0;have hrr:W.rowIs B12 57 32 (fun j=>.int .u8 (((rk).getD j 0).toNat:Int)):=hS.root;have hpr:W.rangeAt g (k*32) (dCells pk):=hPATH k pk hkp W hS.fr;have hcr:(dCells (rk)).length=32:=by rw[dcells_len,hr32]
   have hcp:(dCells pk).length=32:=by rw[dcells_len,hp32]
   have HS:=Hd hS;have HL:=Hd (An l1 (An l2 l3));have HPR:=Hd hpr;have HRR:=Hd hrr;have HOKW:=Hd hok;clear hS l1 l2 l3 hok hpr hrr
   gi_wp2_with fail
   have hC:Fr [] W W.drew:=(Fq [] W).drew;have HSS:=Hd (fun (X:World) (hX:Fr [] W X)=>(show X.cell? ⟨B11,0,none⟩=some (.slice Al k cl)/\X.cell? ⟨w.heap.size+1,0,none⟩=some (.slice (some ⟨g,0,none⟩) N c) from ⟨(HL.out.1.fr hX (by simp)).c 0,(HS.out.path.fr hX (by simp)).c 0⟩));have hgl:=(HCS.out.fr0 HS.out.fr).1;have hrgP:∀ X,Fr [] W X->X.rangeAt g (k*32) (dCells pk):=fun X hX j v hv=>(hX.cell hgl (by simp)).trans (HPR.out j v hv);have hrgR:∀ X,Fr [] W X->X.rangeAt B12 0 (dCells (rk)):=fun X hX=>row_range (rowIs_fr HRR.out hX (by simp)) hr32;clear lc pc;refine wpIn_region_head (fun X:World=>Fr [] W X) 8 (by kernel_rfl) (by kernel_rfl) (fun _ _ h=>by have h1:=And.left h;cases h1) ?_ (by decide)
   show headJ 0 _ _ _ _ _ _ _ _ _ _ _
   iterate 4
    refine hdJ (v:=?_) rfl (Or.inl ⟨by rfl,?_⟩) ?_
    rotate_left
    ·intro W hW;obtain⟨lc,pc⟩:=HSS.out W hW;go_simp;try with_reducible rfl
    try simp only[Act.put,qA,qB,qC,qD,qE,qF]
   refine headI_take (i:=4) (v:=.agg (dCells pk).toArray) (by kernel_rfl) head_done rfl (by decide) (by kernel_rfl) (fun _ _ _ h=>h) (yieldsIf_load_mid (by rfl) 57 (.tmp 40) rfl g ((k*32)) rfl (dCells pk) (.array 32 5) (hrgP) (by kernel_rfl) rfl (by rw[hcp];kernel_rfl)) (by assumption) ?_
   try simp only[Act.put,qA,qB,qC,qD,qE,qF]
   refine headI_take (i:=5) (v:=.agg (dCells (rk)).toArray) (by kernel_rfl) head_done rfl (by decide) (by kernel_rfl) (fun _ _ _ h=>h) (yieldsIf_load_mid (by rfl) 57 (.tmp 12) rfl B12 (0) rfl (dCells (rk)) (.array 32 5) (hrgR) (by kernel_rfl) rfl (by rw[hcr];kernel_rfl)) (by assumption) ?_
   try simp only[Act.put,qA,qB,qC,qD,qE,qF]
   refine headI_take (i:=6) (v:=.agg (pairC pk (rk)).toArray) (by kernel_rfl) head_done rfl (by decide) (by kernel_rfl) (fun _ _ _ h=>h) (Or.inl ⟨by rfl,fun X hX=>?_⟩) (by assumption) ?_
   ·have hb:=run_build_pair X hp32 hr32
    simp[execOp,Act.eval,hb,Sem.run_bind,Result.andThen]
   try simp only[Act.put,qA,qB,qC,qD,qE,qF]
   refine hO (i:=7) rfl fun K hK=>?_;go_simp
   obtain⟨X1,hX1⟩:=nmd ((W.alloc (.cells ((List.toArray (.int .u8 0::.int .u8 0::.int .u8 0::.int .u8 0::.int .u8 0::.int .u8 0::.int .u8 0::.int .u8 0::.int .u8 0::.int .u8 0::.int .u8 0::.int .u8 0::.int .u8 0::.int .u8 0::.int .u8 0::.int .u8 0::.int .u8 0::.int .u8 0::.int .u8 0::.int .u8 0::.int .u8 0::.int .u8 0::.int .u8 0::.int .u8 0::.int .u8 0::.int .u8 0::.int .u8 0::.int .u8 0::.int .u8 0::.int .u8 0::.int .u8 0::.int .u8 0::.int .u8 0::.int .u8 0::.int .u8 0::.int .u8 0::.int .u8 0::.int .u8 0::.int .u8 0::.int .u8 0::.int .u8 0::.int .u8 0::.int .u8 0::.int .u8 0::.int .u8 0::.int .u8 0::.int .u8 0::.int .u8 0::.int .u8 0::.int .u8 0::.int .u8 0::.int .u8 0::.int .u8 0::.int .u8 0::.int .u8 0::.int .u8 0::.int .u8 0::.int .u8 0::.int .u8 0::.int .u8 0::.int .u8 0::.int .u8 0::.int .u8 0::.int .u8 0::[]):Array Value)) 308)).drew);have hf1:Fr [] W X1:=by rw[<-hX1];exact ((Fq [] W).alloc _).drew
   have ht1:X1.there W.heap.size 0 64:=by rw[<-hX1];exact there_new W rfl
   have hlt1:W.heap.size<X1.heap.size:=by rw[<-hX1];simp[World.drew]
   rw[hX1];refine hK _ _ hf1 ?_;clear hK K hX1 hC
   try simp only[Act.put,qA,qB,qC,qD,qE,qF]
   refine headI_done ⟨by kernel_rfl,?_⟩;simp only[qG,qH];have hplen:=pairC_len hp32 hr32;have hpsz:(pairC pk (rk)).toArray.size=64:=by simpa using hplen
   refine wpList_store_mid rfl 308 (.tmp 14) (.tmp 43) rfl W.heap.size 0 (pairC pk (rk)).toArray rfl rfl (by rw[hpsz];exact ht1) (by rw[hpsz];kernel_rfl) (all_oneCell_toArray (pairC_one _ _)) ?_;obtain⟨X2,hX2⟩:=nmd (X1.setCells W.heap.size 0 (pairC pk (rk)).toArray.toList);have hpa2:PairAt X2 W.heap.size pk (rk):=by rw[<-hX2];exact PairAt.put ht1 hlt1 hp32 hr32
   have hf2:Fr [] W X2:=by rw[<-hX2];exact hf1.setCells (.inr (nlr _)) _ _
   rw[hX2];clear hX2 ht1 hlt1 hf1 HSS
   go_wp2_with fail
   obtain⟨B14,hB14⟩:=nmd (W.heap.size);rw[hB14] at hpa2 ⊢;have HB14:=Hd hB14;clear hB14
   gi_wp2_with fail
   have HPB:=Hd hpa2;have HF2:=Hd hf2;have hC:Fr [] X2 X2.drew:=(Fq [] X2).drew;have HSS:=Hd (fun (X:World) (hX:Fr [] X2 X)=>(show X.cell? ⟨B11,0,none⟩=some (.slice Al k cl)/\X.cell? ⟨w.heap.size+1,0,none⟩=some (.slice (some ⟨g,0,none⟩) N c) from ⟨(HL.out.1.fr (hf2.then hX) (by simp)).c 0,(HS.out.path.fr (hf2.then hX) (by simp)).c 0⟩));have hrgP2:∀ X,Fr [] X2 X->X.rangeAt g (k*32) (dCells pk):=fun X hX=>hrgP X (HF2.out.then hX);have hrgR2:∀ X,Fr [] X2 X->X.rangeAt B12 0 (dCells (rk)):=fun X hX=>hrgR X (HF2.out.then hX);clear hpa2 hf2;refine wpIn_region_head (fun X:World=>Fr [] X2 X) 7 (by kernel_rfl) (by kernel_rfl) (fun _ _ h=>by have h1:=And.left h;cases h1) ?_ (by decide);refine headI_take (i:=0) (v:=.agg (dCells (rk)).toArray) (by kernel_rfl) head_done rfl (by decide) (by kernel_rfl) (fun _ _ _ h=>h) (yieldsIf_load_mid (by rfl) 57 (.tmp 12) rfl B12 (0) rfl (dCells (rk)) (.array 32 5) (hrgR2) (by kernel_rfl) rfl (by rw[hcr];kernel_rfl)) (by assumption) ?_
   try simp only[Act.put,qA,qB,qC,qD,qE,qF]
   show headJ 1 _ _ _ _ _ _ _ _ _ _ _
   iterate 4
    refine hdJ (v:=?_) rfl (Or.inl ⟨by rfl,?_⟩) ?_
    rotate_left
    ·intro W hW;obtain⟨lc,pc⟩:=HSS.out W hW;go_simp;try with_reducible rfl
    try simp only[Act.put,qA,qB,qC,qD,qE,qF]
   refine headI_take (i:=5) (v:=.agg (dCells pk).toArray) (by kernel_rfl) head_done rfl (by decide) (by kernel_rfl) (fun _ _ _ h=>h) (yieldsIf_load_mid (by rfl) 57 (.tmp 49) rfl g ((k*32)) rfl (dCells pk) (.array 32 5) (hrgP2) (by kernel_rfl) rfl (by rw[hcp];kernel_rfl)) (by assumption) ?_
   try simp only[Act.put,qA,qB,qC,qD,qE,qF]
   refine headI_take (i:=6) (v:=.agg (pairC (rk) pk).toArray) (by kernel_rfl) head_done rfl (by decide) (by kernel_rfl) (fun _ _ _ h=>h) (Or.inl ⟨by rfl,fun X hX=>?_⟩) (by assumption) ?_
   ·have hb:=run_build_pair X hr32 hp32
    simp[execOp,Act.eval,hb,Sem.run_bind,Result.andThen]
   try simp only[Act.put,qA,qB,qC,qD,qE,qF]
   refine headI_done ⟨by kernel_rfl,?_⟩;simp only[qG,qH];clear hplen hpsz;have hplen:=pairC_len hr32 hp32;have hpsz:(pairC (rk) pk).toArray.size=64:=by simpa using hplen
   refine wpList_store_mid rfl 308 (.tmp 14) (.tmp 51) rfl B14 0 (pairC (rk) pk).toArray rfl rfl (by rw[hpsz];exact HPB.out.there) (by rw[hpsz];kernel_rfl) (all_oneCell_toArray (pairC_one _ _)) ?_;obtain⟨X2b,hX2b⟩:=nmd (X2.drew.setCells B14 0 (pairC (rk) pk).toArray.toList);have hpa2:PairAt X2b B14 (rk) pk:=by rw[<-hX2b];exact PairAt.put HPB.out.there HPB.out.lt hr32 hp32
   have hf2:Fr [] W X2b:=by rw[<-hX2b];exact HF2.out.drew.setCells (.inr (by have:=HB14.out;omega)) _ _
   rw[hX2b];clear hX2b HPB HF2 hC HSS
   go_wp2_with fail
   have HPA:=Hd hpa2;have HF2:=Hd hf2;have lc:X2b.cell? ⟨B11,0,none⟩=some (.slice Al k cl):=(HL.out.1.fr hf2 (by simp)).c 0;have hO2:=HL.out.2.1.fr hf2 (by simp);have HO2:=Hd hO2;clear hpa2 hf2 hO2;obtain⟨ii,hii,iz0,iz1,iz2⟩:=info_pair;have hlen1:(pairC rk pk).length=1*64:=hplen;have hB11A:B11 ∉ blk Al:=fun hm=>by have h1:=HL.out.2.2 _ hm;have h2:=HZ.out;omega
   have hB14A:B14 ∉ blk Al:=fun hm=>by have h1:=HL.out.2.1.lt _ hm;have h2:=HB14.out;omega
   have hB1411:B14≠B11:=by have h2:=HZ.out;have h3:=HB14.out;omega
   have hB1211:B12 ∉ [B11]:=by have h2:=HZ.out;simp;omega
   have hB12A:B12 ∉ blk Al:=fun hm=>by have h1:=HL.out.2.2 _ hm;have h2:=HZ.out;omega
   gi_wp2_with (first
    | (refine wpListIn_one rfl rfl ?_;(with_reducible refine wp_load_mid 308 (.tmp 14) rfl B14 0 rfl (pairC rk pk) _ HPA.out.rng underlying308 rfl (by rw[hplen];kernel_rfl) ?_))
    | (refine wpListIn_one rfl rfl ?_;(with_reducible refine wp_load_mid 308 (.tmp 14) rfl B14 0 rfl (pairC rk pk) _ HPA4.out.rng underlying308 rfl (by rw[hplen];kernel_rfl) ?_))
    | (rw[fold_full (pairC rk pk) _ (by rw[hplen];rfl)];refine wpListIn_one rfl rfl ?_;(with_reducible refine wp_app_tmp (w:=X2b) (.tmp 52) (.tmp 54) 303 rfl 308 ii _ 64 64 underlying303 hii iz0 iz1 iz2 rfl (by decide) Al k cl xs rfl HO2.out 1 1 (pairC rk pk) 308 rfl hlen1 (pairC_one _ _) (by unfold maxLen;omega) (by omega) ?_);intro A3 c3 X3 ho3 hf3 hs3;have hb3:=(HL.out.1.fr HF2.out (by simp)).fr hf3 hB11A;have lc3:X3.cell? ⟨B11,0,none⟩=some (.slice Al k cl):=hb3.c 0;have lf3:=hb3.f 0;obtain⟨X4,hX4⟩:∃ X,X3.setCell ⟨B11,0,none⟩ (.slice A3 (k+1) c3)=X:=⟨_,rfl⟩;have f34:Fr [B11] X3 X4:=(by rw[<-hX4];exact (Fq [B11] X3).set (.inl (by simp)) _);have HB4:Hid (BoxN X4 B11 303 #[.slice A3 (k+1) c3]):=Hd (by rw[<-hX4];exact hb3.setAt 0 _);have HPA4:=Hd ((HPA.out.fr hf3 hB14A).fr f34 (by simpa using hB1411));have HF34:=Hd f34;have HF3:=Hd hf3;have HO3:=Hd ho3;have HS3:=Hd hs3;clear hb3 f34 hf3 ho3 hs3))
   have hfW3:Fr (blk Al) W X3:=(HF2.out.mono (by simp)).then HF3.out;have hfW4:Fr (B11::blk Al) W X4:=(hfW3.mono (fun k hk=>.inl (by simp[hk]))).trans HF34.out (by simp)
   have hok4:Ok X4:=HOKW.out.fr hfW4 (by
    intro k hk;have h0:=HOK.out.low;have h2:=HZ.out
    rcases List.mem_cons.1 hk with h | h
    ·omega
    ·have:=HL.out.2.2 _ h;omega)
   have HN4:=PairDigest_any rk pk X4 hok4 hr32 hp32;refine⟨trivial,?_⟩;(with_reducible refine (CallsIn.inRound _ (callsIn_wide.2 HN4)).mono ?_);clear HN4;rintro e X5 ⟨rfl,hf5⟩;unfold encD;have hfW5:Fr (B11::blk Al) W X5:=hfW4.trans hf5 (by simp);have hB12S:B12 ∉ B11::blk Al:=by simp only[List.mem_cons,not_or];exact⟨by simpa using hB1211,hB12A⟩
   have hR5:=rowIs_fr HRR.out hfW5 hB12S;have hst:=store_digest (d:=nodeN rk pk) hR5 (shaN_len _);have hrd:=row_digest (d:=nodeN rk pk) hR5 (shaN_len _);obtain⟨X6,hX6⟩:=nmd (X5.setCells B12 0 (dCells (nodeN rk pk)));have f56:Fr [B12] X5 X6:=by rw[<-hX6];exact (Fq [B12] X5).setCells (.inl (by simp)) _ _
   rw[hX6] at hst hrd;have HR6:=Hd hrd.2;have HF56:=Hd f56;have HFW5:=Hd hfW5;have HF5:=Hd hf5;have hcn:(dCells (nodeN rk pk)).length=32:=by rw[dcells_len];exact shaN_len _
   clear hX6 hrd f56 hfW5 hfW4 hfW3 hf5 hR5 hok4
   gi_wp2_with fail
   have hfS:Fr (B12::B11::blk Al) W X6:=(HFW5.out.mono (fun k hk=>.inl (List.mem_cons_of_mem _ hk))).trans HF56.out (by simp);have hZ:=HZ.out
   have hlowS:∀ q∈B12::B11::blk Al,q=B12 \/ q=B11 \/ w8.heap.size+2<=q:=fun q hq=>by
    rcases List.mem_cons.1 hq with h | hq
    ·exact .inl h
    ·rcases List.mem_cons.1 hq with h | hq
     ·exact .inr (.inl h)
     ·exact .inr (.inr (HL.out.2.2 q hq))
   have hnot:∀ B,B≠B12->B≠B11->B<w8.heap.size+2->B ∉ B12::B11::blk Al:=fun B h1 h2 h3 hm=>by
    rcases hlowS B hm with h | h | h
    ·exact h1 h
    ·exact h2 h
    ·omega
   have hA3:∀ q∈blk A3,w8.heap.size+2<=q:=fun q hq=>by
    rcases HS3.out q hq with h | h
    ·exact HL.out.2.2 q h
    ·have:=HF2.out.size;omega
   have hf46:Fr [B12] X4 X6:=(HF5.out.mono (by simp)).then HF56.out;obtain⟨fr8,hr8⟩:=HS.out.res
   try rw[hrs]
   refine⟨⟨HS.out.fr.trans hfS (fun q hq=>by rcases hlowS q hq with h | h | h <;> right <;> omega),HS.out.path.fr hfS (hnot _ (by omega) (by omega) (by omega)),⟨fr8,rowIs_fr hr8 hfS (hnot _ (by omega) (by omega) (by omega))⟩,HS.out.lres.fr hfS (hnot _ (by omega) (by omega) (by omega)),HS.out.eres.fr hfS (hnot _ (by omega) (by omega) (by omega)),⟨A3,c3,_,HB4.out.fr hf46 (by simp;omega),(HO3.out.fr HF34.out (fun q hq=>by have:=hA3 q hq;simp;omega)).fr hf46 (fun q hq=>by have:=hA3 q hq;simp;omega),hA3⟩,HR6.out⟩,_,hfS,hnot _ (by omega) (by omega) (by omega),hnot _ (by omega) (by omega) (by omega)⟩
 ·intro D W hD hS hK
  rw[HBS.out.2.1] at hS;have hr0:=rseq_len bs path hd32 N;obtain⟨rr,hrr⟩:=nmd (rseq d bs path N);have hr32:rr.length=32:=by rw[<-hrr];exact hr0
  rw[hrr] at hS;have HREQ:=Hd hrr;clear hrr;obtain⟨Al,cl,xs,l1,l2,l3⟩:=hS.l;obtain⟨fr8,hr8⟩:=hS.res;have lc:=l1.k0;have pc:=hS.path.k0;have hcr:(dCells rr).length=32:=by rw[dcells_len,hr32]
  have HS:=Hd hS;have HL1:=Hd l1;have HR8:=Hd hr8;have HK:=Hd hK;have HD:=Hd hD;clear hS l1 l2 l3 hr8 hK hD
  go_wp2_with fail
  have hrg:W.rangeAt B12 0 (dCells rr):=row_range HS.out.root hr32;have hC:(fun X:World=>X.cell? ⟨B11,0,none⟩=some (.slice Al N cl)/\X.rangeAt B12 0 (dCells rr)) W.drew:=⟨lc,hrg⟩;have HSS:=Hd (fun (X:World) (hX:X.cell? ⟨B11,0,none⟩=some (.slice Al N cl)/\X.rangeAt B12 0 (dCells rr))=>An hX.1 trivial);clear lc pc;refine wp_then_mono ?_;refine wp_region_head (fun X:World=>X.cell? ⟨B11,0,none⟩=some (.slice Al N cl)/\X.rangeAt B12 0 (dCells rr)) 4 (by kernel_rfl) ?_ (by decide);refine headI_take (i:=0) (v:=.agg (dCells rr).toArray) (by kernel_rfl) head_done rfl (by decide) (by kernel_rfl) (fun _ _ _ h=>h) (yieldsIf_load_mid (by rfl) 57 (.tmp 12) rfl B12 (0) rfl (dCells rr) (.array 32 5) (fun X hX=>hX.2) (by kernel_rfl) rfl (by rw[hcr];kernel_rfl)) (by assumption) ?_
  try simp only[Act.put,qA,qB,qC,qD,qE,qF]
  show headJ 1 _ _ _ _ _ _ _ _ _ _ _
  refine hdJ (v:=?_) rfl (Or.inl ⟨by rfl,?_⟩) ?_
  rotate_left
  ·intro W hW;obtain⟨lc,_⟩:=HSS.out W hW;go_simp;try with_reducible rfl
  try simp only[Act.put,qA,qB,qC,qD,qE,qF]
  refine hO (i:=2) rfl fun K hK=>?_;have hZ:=HZ.out;have hR8:=HR8.out.drew;have hst:=store_digest (d:=rr) hR8 hr32;have hrd:=row_digest (d:=rr) hR8 hr32;obtain⟨X1,hX1⟩:=nmd (W.drew.setCells (w.heap.size+2) 0 (dCells rr));have f1:Fr [w.heap.size+2] W X1:=by rw[<-hX1];exact (Fq [w.heap.size+2] W).drew.setCells (.inl (by simp)) _ _
  rw[hX1] at hst hrd;have hX1C:X1.cell? ⟨B11,0,none⟩=some (.slice Al N cl)/\X1.rangeAt B12 0 (dCells rr):=⟨(HL1.out.fr f1 (by simp;omega)).c 0,row_range (rowIs_fr HS.out.root f1 (by simp;omega)) hr32⟩;go_simp
  refine hK _ _ hX1C ?_;clear hK K hC
  try simp only[Act.put,qA,qB,qC,qD,qE,qF]
  refine hO (i:=3) rfl fun K hK=>?_;have hb9:=HS.out.lres.fr f1 (by simp);have e0:=hb9.k0;have e1:X1.frozen? ⟨w.heap.size+3,0,none⟩=false:=hb9.f 0;obtain⟨X2,hX2⟩:=nmd (X1.setCell ⟨w.heap.size+3,0,none⟩ (.slice Al N cl));have f2:Fr [w.heap.size+3] X1 X2:=by rw[<-hX2];exact (Fq [w.heap.size+3] X1).set (.inl (by simp)) _
  have hb9b:BoxN X2 (w.heap.size+3) 303 #[.slice Al N cl]:=by rw[<-hX2];exact hb9.setAt 0 _
  have hX2C:X2.cell? ⟨B11,0,none⟩=some (.slice Al N cl)/\X2.rangeAt B12 0 (dCells rr):=⟨((HL1.out.fr f1 (by simp;omega)).fr f2 (by simp;omega)).c 0,row_range (rowIs_fr (rowIs_fr HS.out.root f1 (by simp;omega)) f2 (by simp;omega)) hr32⟩;go_simp
  refine hK _ _ hX2C ?_;clear hK K
  try simp only[Act.put,qA,qB,qC,qD,qE,qF]
  refine headI_done ⟨by kernel_rfl,?_⟩;simp only[qG,qH];have hb10:=(HS.out.eres.fr f1 (by simp)).fr f2 (by simp);have e2:=hb10.k0;have e3:X2.frozen? ⟨w.heap.size+4,0,none⟩=false:=hb10.f 0;obtain⟨X3,hX3⟩:=nmd (X2.setCell ⟨w.heap.size+4,0,none⟩ (.int .i64 0));have f3:Fr [w.heap.size+4] X2 X3:=by rw[<-hX3];exact (Fq [w.heap.size+4] X2).set (.inl (by simp)) _
  have hb10b:BoxN X3 (w.heap.size+4) 40 #[.int .i64 0]:=by rw[<-hX3];exact hb10.setAt 0 _
  have hb9c:=hb9b.fr f3 (by simp);have hR3:=rowIs_fr (rowIs_fr hrd.2 f2 (by simp)) f3 (by simp);have hfS:Fr [w.heap.size+2,w.heap.size+3,w.heap.size+4] W X3:=((f1.mono (by simp)).trans f2 (by simp)).trans f3 (by simp);have hDl:D<W.heap.size:=(Array.getElem?_eq_some_iff.1 HK.out).1;have hD:=HD.out;have hK3:X3.heap[D]?=some (.deferred (some [])):=(hfS.block D hDl (by simp;omega)).trans HK.out;have hf4:Fr [D] X3 (X3.putObj D (.deferred none)):=fr_putObj _ (Fq _ _) (.inl (by simp));obtain⟨X4,hX4⟩:=nmd (X3.putObj D (.deferred none));rw[hX4] at hf4;have hfin:Fr [] w X4:=((HS.out.fr.trans hfS (by simp)).trans hf4 (by simp;omega));have HRES:=Hd (An (row_range (rowIs_fr hR3 hf4 (by simp;omega)) hr32) (An (show X4.cell? ⟨w.heap.size+3,0,none⟩=some (.slice Al N cl) from (hb9c.fr hf4 (by simp;omega)).c 0) (show X4.cell? ⟨w.heap.size+4,0,none⟩=some (.int .i64 0) from (hb10b.fr hf4 (by simp;omega)).c 0)));have HFIN:=Hd hfin;have HK3:=Hd hK3;have HX4:=Hd hX4;clear hR8 hrd f1 hb9 f2 hb9b hb10 f3 hb10b hb9c hR3 hfS hDl hD hK3 hf4 hX4 hfin hZ hrg hX1C hX2C hst hX1
  go_wp2_with fail
  refine⟨by simp,.inl ⟨_,_,rfl,run_takeDeferred HK3.out,?_⟩⟩;rw[HX4.out];have c1:=HRES.out.2.1;have c2:=HRES.out.2.2;refine⟨.tuple #[.agg (dCells rr).toArray,.slice Al N cl,.int .i64 0],?_,.slice Al N cl,by rw[HREQ.out];rfl,HFIN.out⟩;exact results_cells3 (p:=8) (q:=9) (u:=10) (t1:=57) (t2:=303) (t3:=40) (A1:=⟨w.heap.size+2,0,none⟩) (A2:=⟨w.heap.size+3,0,none⟩) (A3:=⟨w.heap.size+4,0,none⟩) rfl rfl rfl rfl (run_loadVar_mid X4 _ 0 _ (dCells rr) (.array 32 5) HRES.out.1 (by kernel_rfl) rfl (by rw[hcr];kernel_rfl)) (by simp[loadVar,go_sem,c1]) (by simp[loadVar,go_sem,c2])
end Go.Proofs.YtlpmiimgacfmkaaGreatDoor
