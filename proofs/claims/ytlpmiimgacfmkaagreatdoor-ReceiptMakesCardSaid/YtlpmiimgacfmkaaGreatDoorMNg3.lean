/- logtree.From and history.Verify, for the proof of any action. -/
import Derived.Test.YtlpmiimgacfmkaaGreatDoorMNg2
import Derived.Test.YtlpmiimgacfmkaaGreatDoorMDc1
import Derived.Test.YtlpmiimgacfmkaaGreatDoorMPf3
set_option linter.all false
namespace Go.Proofs.YtlpmiimgacfmkaaGreatDoor
open Go.Proofs.Tryz
open Go.RowKit
set_option maxRecDepth 100000
set_option maxHeartbeats 4000000
theorem From_g (d:Nm) (path:List Nm) (i nn N:Nat) (A:Option Addr) (c:Nat) (w:World) (hok:Ok w) (hi:i<nn) (hnn:nn<=1000) (hN0:0<N) (hNb:N<=1000) (hbN:(bl i nn).length=N) (hpN:path.length=N) (hd32:d.length=32) (hp:∀ p∈path,p.length=32) (ho:Own w 57 32 A N c (path.flatMap dCells)) :
 Calls prog 135 #[encD d,.int .i64 (i:Int),.int .i64 (nn:Int),.slice A N c] w (TagPost w (rseq d (bl i nn) path N)):=by
 have hcl:(dCells d).length=32:=by rw[dcells_len,hd32]
 obtain⟨w1,hw1⟩:=nmd (w.alloc (.cells (dCells d).toArray 57));have hL1:w1.rowIs w.heap.size 57 32 (fun j=>.int .u8 ((d.getD j 0).toNat:Int)):=by rw[<-hw1];exact row_cells w hcl
 have hf1:Fr [] w w1:=by rw[<-hw1];exact (Fq [] w).alloc _
 have hz1:w1.heap.size=w.heap.size+1:=by rw[<-hw1];simp
 obtain⟨w2,hw2⟩:=nmd (w1.alloc (.cells (z32) 57));obtain⟨fR,hR2⟩:∃ f,w2.rowIs (w.heap.size+1) 57 32 f:=by rw[<-hw2,<-hz1];exact⟨_,row_new w1 _ _⟩
 have hf2:Fr [] w1 w2:=by rw[<-hw2];exact (Fq [] w1).alloc _
 have hN:=Nodes_g d path i nn N A c w2 (hok.fr0 (hf1.then hf2)) hi hnn hN0 hNb hbN hpN hd32 hp (ho.fr (hf1.then hf2) (by simp));obtain⟨r,hr⟩:=nmd (rseq d (bl i nn) path N);have hr32:r.length=32:=by rw[<-hr];exact rseq_len _ _ hd32 _
 have hcr:(dCells r).length=32:=by rw[dcells_len,hr32]
 rw[hr] at hN ⊢;unfold encD at hN;have HN:=Hd hN;have HL:=Hd (row_range (rowIs_fr hL1 hf2 (by simp)) hd32);have HR2:=Hd hR2;have HF2:=Hd (hf1.then hf2);have HW:=Hd (An hw1 hw2);unfold encD;clear hL1 hf1 hz1 hw1 hw2 hR2 hf2 hN hr ho hok hi hnn hN0 hNb hbN hpN hp
 go_enter func135,ntmps135
 go_upto_region 1 with fail
 rw[HW.out.1,HW.out.2]
 go_wp2_with (first
  | (with_reducible refine wpList_load_mid rfl 57 (.tmp 4) rfl w.heap.size 0 rfl (dCells d) (.array 32 5) HL.out (by kernel_rfl) rfl (by rw[hcl];kernel_rfl) ?_)
  | (go_at_call 178;(with_reducible refine HN.out.mono ?_);rintro e w3 ⟨v,rfl,hf3⟩;unfold encD;obtain⟨w4,hst4,hf4,hr4⟩:=new_dig w3 r hr32;have HL10:=Hd (row_range hr4 hr32);have hR4:=rowIs_fr (rowIs_fr HR2.out hf3 (by simp)) hf4 (by simp);have hst:=store_digest (d:=r) hR4 hr32;have hrd:=row_digest (d:=r) hR4 hr32;obtain⟨w5,hw5⟩:∃ X,w4.setCells (w.heap.size+1) 0 (dCells r)=X:=⟨_,rfl⟩;have hf5:Fr [] w w5:=(by rw[<-hw5];exact ((HF2.out.then hf3).then hf4).setCells (.inr (by simp)) _ _);rw[hw5] at hst hrd;have HRD:=Hd hrd.1;have HF5:=Hd hf5;clear hw5 hrd hf5 hR4 hf3 hf4 hr4)
  | (with_reducible refine wpList_load_mid rfl 57 (.tmp 10) rfl w3.heap.size 0 rfl (dCells r) (.array 32 5) HL10.out (by kernel_rfl) rfl (by rw[hcr];kernel_rfl) ?_))
 exact bodyPost_ret (v:=.tuple #[encD r,.int .i64 0]) (results_cell_mid2 (d:=.array 32 5) (p:=8) (u:=9) (ty:=57) (b:=w.heap.size+1) (o:=0) rfl rfl rfl HRD.out (by kernel_rfl) rfl (by rw[hcr];rfl)) rfl ⟨rfl,HF5.out⟩
theorem VerifyH_g (a:AG) (path:List Nm) (i n N:Nat) (rt:Nm) (A:Option Addr) (c:Nat) (w:World) (hok:Ok w) (hwf:wfB a=true) (hft:a.fit) (hr10:a.r.length<=10) (hw10:a.w.length<=10) (hin:i<n) (hn12:n<=12) (hN0:0<N) (hNb:N<=1000) (hbN:(bl (i+1) (n+1)).length=N) (hpN:path.length=N) (hp:∀ p∈path,p.length=32) (hroot:rseq (leafN (1::encAG a)) (bl (i+1) (n+1)) path N=rt) (ho:Own w 57 32 A N c (path.flatMap dCells)) :
 Calls prog 66 #[encD rt,.agg #[.int .i64 (i:Int),.int .i64 (n:Int),encN (encAG a),.slice A N c]] w (DecGPost w a):=by
 have hr32:rt.length=32:=by rw[<-hroot];exact rseq_len _ _ (shaN_len _) _
 have hlen:=encAG_len hwf hft hr10 hw10;have hdec:=decG_enc hwf hft.rl hft.wl;have hcr:(dCells rt).length=32:=by rw[dcells_len,hr32]
 obtain⟨w1,hw1⟩:=nmd (w.alloc (.cells (dCells rt).toArray 57));have hL1:w1.rowIs w.heap.size 57 32 (fun j=>.int .u8 ((rt.getD j 0).toNat:Int)):=by rw[<-hw1];exact row_cells w hcr
 have hf1:Fr [] w w1:=by rw[<-hw1];exact (Fq [] w).alloc _
 have hz1:w1.heap.size=w.heap.size+1:=by rw[<-hw1];simp
 obtain⟨w2,hw2⟩:=nmd (w1.alloc (.cells #[.int .i64 (i:Int),.int .i64 (n:Int),encN (encAG a),.slice A N c] 53));have hb2:BoxN w2 (w.heap.size+1) 53 #[.int .i64 (i:Int),.int .i64 (n:Int),encN (encAG a),.slice A N c]:=by rw[<-hw2,<-hz1];exact BoxN.new w1 _ _
 have hf2:Fr [] w1 w2:=by rw[<-hw2];exact (Fq [] w1).alloc _
 have hz2:w2.heap.size=w.heap.size+2:=by rw[<-hw2];simp[hz1]
 obtain⟨w3,hw3⟩:=nmd (w2.alloc (.cells actZ 91));have hb3:BoxN w3 (w.heap.size+2) 91 actZ:=by rw[<-hw3,<-hz2];exact BoxN.new w2 _ _
 have hf3:Fr [] w2 w3:=by rw[<-hw3];exact (Fq [] w2).alloc _
 have hf03:=(hf1.then hf2).then hf3;have hb23:=hb2.fr hf3 (by simp);obtain⟨tx,htx⟩:=nmd ((⟨(encAG a).toArray⟩:ByteArray));have htl:tx.data.toList=encAG a:=by rw[<-htx]
 have hts:tx.size<=2000000:=by rw[<-htx];simpa [<-ByteArray.size_data] using hlen
 have hD:=DecodeA_g tx a w3 (hok.fr0 hf03) (by omega) (by rw[htl];exact hdec) hwf hft;have hLf:∀ W,Fr [] w3 W->Calls prog 93 #[encN (encAG a)] W (SumPost W (leafN (1::encAG a))):=fun W hW=>leafH_any (encAG a) W (hok.fr0 (hf03.then hW)) (by omega);have hFr:∀ W,Fr [] w3 W->Calls prog 135 #[encD (leafN (1::encAG a)),.int .i64 ((i+1:Nat):Int),.int .i64 ((n+1:Nat):Int),.slice A N c] W (TagPost W (rseq (leafN (1::encAG a)) (bl (i+1) (n+1)) path N)):=fun W hW=>From_g (leafN (1::encAG a)) path (i+1) (n+1) N A c W (hok.fr0 (hf03.then hW)) (by omega) (by omega) hN0 hNb hbN hpN (shaN_len _) hp (ho.fr (hf03.then hW) (by simp));rw[hroot] at hFr;obtain⟨i1,hi1⟩:=nmd (i+1);obtain⟨n1,hn1⟩:=nmd (n+1);rw[hi1,hn1] at hFr;obtain⟨ti,hti⟩:=nmd (a.k.rnd);obtain⟨ph,hph⟩:=nmd (a.k.phase);obtain⟨ix,hix⟩:=nmd (a.k.idx);obtain⟨nr,hnr⟩:=nmd (a.r.length);obtain⟨nw,hnw⟩:=nmd (a.w.length);have hvl:∀ x:AX,x.a=a->x.v=.agg #[.int .i64 ti,.int .i64 ph,.int .i64 ix,.string x.sl,.slice x.A nr x.c,.slice x.B nw x.d]:=fun x hx=>by unfold AX.v AG.val;rw[hx,hti,hph,hix,hnr,hnw]
 have HVL:=Hd hvl;have HKN:=Hd (An hti (An hph (An hix (An hnr hnw))));have hg1:decide ((n:Int)<1)=false:=by simp;omega
 have hg2:decide ((65536:Int)<(n:Int))=false:=by simp;omega
 have hg3:decide ((i:Int)<0)=false:=by simp
 have hg4:decide (n<=i)=false:=by simp;omega
 have hg5:decide ((n:Int)<=(i:Int))=false:=by simp;omega
 have hwr1:IntKind.i64.wrap ((i:Int)+1)=(i1:Int):=by simp[IntKind.wrap,IntKind.bits,IntKind.signed];omega
 have hwr4:IntKind.i64.wrap ((n:Int)+1)=(n1:Int):=by simp[IntKind.wrap,IntKind.bits,IntKind.signed];omega
 generalize leafN (1::encAG a)=dl at hLf hFr hroot;clear hroot;unfold encN at hb23 hw2 hLf ⊢;rw[htx] at hb23 hw2 hLf ⊢;unfold encD at hFr;unfold encD;obtain⟨x0,x1,x2⟩:=hb23.m3;unfold actZ at hw3;have HD:=Hd hD;have HLF0:=Hd hLf;have HFR0:=Hd hFr;have HL2:=Hd (rowIs_fr hL1 (hf2.then hf3) (by simp));have HB3:=Hd hb23;have HB4:=Hd hb3;have HF3:=Hd hf03;have HW:=Hd (An hw1 (An hw2 hw3));clear hL1 hf1 hz1 hw1 hb2 hf2 hz2 hw2 hb3 hf3 hf03 hb23 hD hLf hFr hw3 htx htl ho hok hwf hft hr10 hw10 hN0 hNb hbN hpN hp hi1 hn1 hti hph hix hnr hnw hvl hlen hdec
 go_enter func66,ntmps66
 go_upto_region 1 with fail
 rw[HW.out.1,HW.out.2.1,HW.out.2.2];simp only[Nat.add_assoc,Nat.reduceAdd]
 go_upto_region 6 with ((go_at_call 134;(with_reducible refine HD.out.mono ?_);rintro e w4 ⟨xx,hxa,rfl,hxo,hf4,hA4s,hB4s⟩;rw[HVL.out xx hxa];obtain⟨aa,sl,A2,c2,B2,d2⟩:=xx;simp only at hxa hA4s hB4s ⊢;obtain rfl:a=aa:=hxa.symm;have hA4:=hxo.r;have hB4:=hxo.w;simp only at hA4 hB4;rw[HKN.out.2.2.2.1] at hA4;rw[HKN.out.2.2.2.2] at hB4;have HKY:=Hd (An HKN.out.1 (An HKN.out.2.1 (An HKN.out.2.2.1 (An HKN.out.2.2.2.1 (An HKN.out.2.2.2.2 hxo.s)))));have HA4:=Hd (An hA4 (An hB4 (An hA4s hB4s)));have HF4:=Hd hf4;clear hf4 hA4 hB4 hA4s hB4s hxo HVL HKN x0 x1 x2))
 obtain⟨w5,hw5,hb6,hf5⟩:=bxn w4 #[.int .i64 ti,.int .i64 ph,.int .i64 ix,.string sl,.slice A2 nr c2,.slice B2 nw d2] 91;rw[hw5];clear hw5;have hz34:=HF4.out.size;obtain⟨B6,hB6⟩:=nmd (w4.heap.size);rw[hB6] at hb6 hz34 ⊢;have HB6:=Hd hb6;have HZ6:=Hd (An hB6 hz34);have HF35:=Hd (HF4.out.then hf5);have HF45:=Hd hf5;have HLF:=Hd (fun (W:World) (hW:Fr [] w5 W)=>HLF0.out W (HF35.out.then hW));have HFROM:=Hd (fun (W:World) (hW:Fr [] w5 W)=>HFR0.out W (HF35.out.then hW))
 have HSS:=Hd (fun (W:World) (hW:Fr [] w5 W)=>(show W.cell? ⟨w.heap.size+1,0,none⟩=some (.int .i64 (i:Int))/\W.cell? ⟨w.heap.size+1,1,none⟩=some (.int .i64 (n:Int))/\W.cell? ⟨w.heap.size+1,2,none⟩=some (.string tx)/\W.cell? ⟨w.heap.size+1,3,none⟩=some (.slice A N c) from by
  have h:=HB3.out.fr (HF35.out.then hW) (by simp);exact⟨h.c 0,h.c 1,h.c 2,h.c 3⟩))
 clear hb6 hf5 hB6 hz34;have hC:Fr [] w5 w5.drew:=(Fq [] w5).drew;clear hg1 hg2 hg3 hg4 hg5;refine wp_region_head (fun W:World=>Fr [] w5 W) 17 (by kernel_rfl) ?_ (by decide)
 show headJ 0 _ _ _ _ _ _ _ _ _ _ _
 iterate 2
  refine hdJ (v:=?_) rfl (Or.inl ⟨by rfl,?_⟩) ?_
  rotate_left
  ·intro W hW;obtain⟨p0,p1,p2,p3⟩:=HSS.out W hW;go_simp;try with_reducible rfl
  try simp only[Act.put,qA,qB,qC,qD,qE,qF]
 show headJ 3 _ _ _ _ _ _ _ _ _ _ _
 iterate 8
  refine hdJ (v:=?_) rfl (Or.inl ⟨by rfl,?_⟩) ?_
  rotate_left
  ·intro W hW;obtain⟨p0,p1,p2,p3⟩:=HSS.out W hW;go_simp;try with_reducible rfl
  try simp only[Act.put,qA,qB,qC,qD,qE,qF]
 refine headI_two (i:=2) (j:=15) (by kernel_rfl) (by decide) (by decide) rfl rfl (fun K hK=>?_) (fun K hK=>?_)
 ·rw[if_pos (by rfl)]
  go_simp
  go_at_call 93
  (with_reducible refine (HLF.out _ hC).mono ?_);rintro e X1 ⟨rfl,hfl⟩;have h1:=(hC).then hfl;refine hK _ _ h1 ?_;clear hK K
  try simp only[Act.put,qA,qB,qC,qD,qE,qF]
  unfold encD;refine headI_two (i:=11) (j:=15) (by kernel_rfl) (by decide) (by decide) rfl rfl (fun K hK=>?_) (fun K hK=>?_)
  ·rw[if_pos (by rfl)]
   go_simp
   go_at_call 135
   (with_reducible refine (HFROM.out _ h1).mono ?_);rintro e X2 ⟨rfl,hff⟩;have h2:=(h1).then hff;refine hK _ _ h2 ?_;clear hK K
   try simp only[Act.put,qA,qB,qC,qD,qE,qF]
   unfold encD
   show headJ 12 _ _ _ _ _ _ _ _ _ _ _
   iterate 3
    refine hdJ (v:=?_) rfl (Or.inl ⟨by rfl,?_⟩) ?_
    rotate_left
    ·intro W hW;obtain⟨p0,p1,p2,p3⟩:=HSS.out W hW;go_simp;try with_reducible rfl
    try simp only[Act.put,qA,qB,qC,qD,qE,qF]
   refine hO (i:=15) rfl fun K hK=>?_;go_simp
   obtain⟨X3,hYe⟩:=nmd ((X2).alloc (.cells (z32) 57));obtain⟨fz,hRRX3⟩:∃ f,(X3).rowIs (X2).heap.size 57 32 f:=by rw[<-hYe];exact⟨_,row_new (X2) _ _⟩
   have h3:Fr [] w5 X3:=by rw[<-hYe];exact (h2).alloc _
   rw[hYe];refine hK _ _ h3 ?_;clear hK K hYe;obtain⟨RR,hRR⟩:=nmd ((X2).heap.size);have hRl:w5.heap.size<=RR:=by rw[<-hRR];exact (h2).size
   rw[hRR] at hRRX3 ⊢;have HRL:=Hd hRl;clear hRR hRl
   try simp only[Act.put,qA,qB,qC,qD,qE,qF]
   have hR9:=hRRX3;have hst:=store_digest (d:=rt) hR9 hr32;have hrd:=row_digest (d:=rt) hR9 hr32;obtain⟨Y5,hY5⟩:=nmd ((X3).setCells RR 0 (dCells rt));have f5:Fr [RR] (X3) Y5:=by rw[<-hY5];exact (Fq [RR] (X3)).setCells (.inl (by simp)) _ _
   rw[hY5] at hst hrd;have h5:Fr [] w5 Y5:=(h3).trans f5 (by simp;exact HRL.out);refine hO (i:=16) rfl fun K hK=>?_;go_simp
   refine hK _ _ h5 ?_;clear hK K hY5 f5
   try simp only[Act.put,qA,qB,qC,qD,qE,qF]
   refine headI_done ⟨by kernel_rfl,?_⟩;simp only[qG,qH];have HR8:=Hd hrd.1;have HRT:=Hd (row_range (rowIs_fr HL2.out (HF35.out.then h5) (by simp)) hr32);have hneq:=run_eq_dig Y5 hr32;have hb6:=HB6.out.fr h5 (by simp);obtain⟨z0,z1,z2,z3,z4,z5⟩:=hb6.m6;have hb4:=HB4.out.fr (HF35.out.then h5) (by simp);obtain⟨u0,u1,u2,u3,u4,u5⟩:=hb4.m6;have g0:=hb4.f 0;have g1:=hb4.f 1;have g2:=hb4.f 2;have g3:=hb4.f 3;have g4:=hb4.f 4;have g5:=hb4.f 5;have HB4b:=Hd hb4;have H5:=Hd h5;clear hb6 hb4 hrd h5 hst hR9
   go_wp2_with (first
    | (refine wpList_wanted (by rfl) ?_;(with_reducible refine wp_load_mid 57 (.tmp 8) rfl RR 0 rfl (dCells rt) (.array 32 5) HR8.out (by kernel_rfl) rfl (by rw[hcr];kernel_rfl) ?_))
    | (refine wpList_wanted (by rfl) ?_;(with_reducible refine wp_load_mid 57 (.tmp 2) rfl w.heap.size 0 rfl (dCells rt) (.array 32 5) HRT.out (by kernel_rfl) rfl (by rw[hcr];kernel_rfl) ?_)))
   obtain⟨Y6,hY6⟩:=nmd ((((((Y5.setCell ⟨w.heap.size+2,0,none⟩ (.int .i64 ti)).setCell ⟨w.heap.size+2,1,none⟩ (.int .i64 ph)).setCell ⟨w.heap.size+2,2,none⟩ (.int .i64 ix)).setCell ⟨w.heap.size+2,3,none⟩ (.string sl)).setCell ⟨w.heap.size+2,4,none⟩ (.slice A2 nr c2)).setCell ⟨w.heap.size+2,5,none⟩ (.slice B2 nw d2));have h12:BoxN Y6 (w.heap.size+2) 91 #[.int .i64 ti,.int .i64 ph,.int .i64 ix,.string sl,.slice A2 nr c2,.slice B2 nw d2]:=by rw[<-hY6];exact ((((((HB4b.out.setAt 0 _).setAt 1 _).setAt 2 _).setAt 3 _).setAt 4 _).setAt 5 _)
   have f12:Fr [w.heap.size+2] Y5 Y6:=by rw[<-hY6];exact ((((((Fq [w.heap.size+2] Y5).set (.inl (by simp)) _).set (.inl (by simp)) _).set (.inl (by simp)) _).set (.inl (by simp)) _).set (.inl (by simp)) _).set (.inl (by simp)) _
   have hz6:=HZ6.out;have hz3:=HB4.out.lt;have hz03:=HF3.out.size;have h45:Fr [] w4 Y5:=HF45.out.then H5.out;have hcA:Own Y6 95 7 A2 nr c2 (a.r.flatMap CH.cs):=(HA4.out.1.fr h45 (by simp)).fr f12 (by intro k hk;have:=HA4.out.2.2.1 k hk;simp only[lms];omega);have hcB:Own Y6 95 7 B2 nw d2 (a.w.flatMap CH.cs):=(HA4.out.2.1.fr h45 (by simp)).fr f12 (by intro k hk;have:=HA4.out.2.2.2 k hk;simp only[lms];omega);have hfin:Fr [] w Y6:=((HF3.out.then HF35.out).then H5.out).trans f12 (T:=[w.heap.size+2]) (by simp);obtain⟨t0,t1,t2,t3,t4,t5⟩:=h12.m6;have HFIN:=Hd (An hcA (An hcB hfin));have HZZ:=Hd (An hz3 hz03);rw[hY6];clear hY6 h12 f12 hcA hcB hfin z0 z1 z2 z3 z4 z5 u0 u1 u2 u3 u4 u5 g0 g1 g2 g3 g4 g5 hz6 hz3 hz03;refine bodyPost_ret (v:=.tuple #[.agg #[.int .i64 ti,.int .i64 ph,.int .i64 ix,.string sl,.slice A2 nr c2,.slice B2 nw d2],.int .i64 0]) (by simp[results,results66,go_sem,t0,t1,t2,t3,t4,t5]) rfl ⟨⟨a,sl,A2,c2,B2,d2⟩,rfl,?_,⟨HKY.out.2.2.2.2.2,by simp only;rw[HKY.out.2.2.2.1];exact HFIN.out.1,by simp only;rw[HKY.out.2.2.2.2.1];exact HFIN.out.2.1⟩,HFIN.out.2.2,fun k hk=>?_,fun k hk=>?_⟩
   ·unfold AX.v AG.val
    simp only;rw[HKY.out.1,HKY.out.2.1,HKY.out.2.2.1,HKY.out.2.2.2.1,HKY.out.2.2.2.2.1]
   ·have:=HA4.out.2.2.1 k hk;have:=HZZ.out;omega
   ·have:=HA4.out.2.2.2 k hk;have:=HZZ.out;omega
  ·rw[if_pos (by rfl)]
   go_simp
   obtain⟨X2,hYe⟩:=nmd ((X1).alloc (.cells (z32) 57));obtain⟨fz,hRRX2⟩:∃ f,(X2).rowIs (X1).heap.size 57 32 f:=by rw[<-hYe];exact⟨_,row_new (X1) _ _⟩
   have h2:Fr [] w5 X2:=by rw[<-hYe];exact (h1).alloc _
   rw[hYe];refine hK _ _ h2 ?_;clear hK K hYe;obtain⟨RR,hRR⟩:=nmd ((X1).heap.size);have hRl:w5.heap.size<=RR:=by rw[<-hRR];exact (h1).size
   rw[hRR] at hRRX2 ⊢;have HRL:=Hd hRl;clear hRR hRl
   try simp only[Act.put,qA,qB,qC,qD,qE,qF]
   refine hO (i:=11) rfl fun K hK=>?_;go_simp
   go_at_call 135
   (with_reducible refine (HFROM.out _ h2).mono ?_);rintro e X3 ⟨rfl,hff⟩;have h3:=(h2).then hff;refine hK _ _ h3 ?_;clear hK K
   try simp only[Act.put,qA,qB,qC,qD,qE,qF]
   unfold encD
   show headJ 12 _ _ _ _ _ _ _ _ _ _ _
   iterate 3
    refine hdJ (v:=?_) rfl (Or.inl ⟨by rfl,?_⟩) ?_
    rotate_left
    ·intro W hW;obtain⟨p0,p1,p2,p3⟩:=HSS.out W hW;go_simp;try with_reducible rfl
    try simp only[Act.put,qA,qB,qC,qD,qE,qF]
   have hR9:=rowIs_fr hRRX2 hff (by simp);have hst:=store_digest (d:=rt) hR9 hr32;have hrd:=row_digest (d:=rt) hR9 hr32;obtain⟨Y5,hY5⟩:=nmd ((X3).setCells RR 0 (dCells rt));have f5:Fr [RR] (X3) Y5:=by rw[<-hY5];exact (Fq [RR] (X3)).setCells (.inl (by simp)) _ _
   rw[hY5] at hst hrd;have h5:Fr [] w5 Y5:=(h3).trans f5 (by simp;exact HRL.out);refine hO (i:=16) rfl fun K hK=>?_;go_simp
   refine hK _ _ h5 ?_;clear hK K hY5 f5
   try simp only[Act.put,qA,qB,qC,qD,qE,qF]
   refine headI_done ⟨by kernel_rfl,?_⟩;simp only[qG,qH];have HR8:=Hd hrd.1;have HRT:=Hd (row_range (rowIs_fr HL2.out (HF35.out.then h5) (by simp)) hr32);have hneq:=run_eq_dig Y5 hr32;have hb6:=HB6.out.fr h5 (by simp);obtain⟨z0,z1,z2,z3,z4,z5⟩:=hb6.m6;have hb4:=HB4.out.fr (HF35.out.then h5) (by simp);obtain⟨u0,u1,u2,u3,u4,u5⟩:=hb4.m6;have g0:=hb4.f 0;have g1:=hb4.f 1;have g2:=hb4.f 2;have g3:=hb4.f 3;have g4:=hb4.f 4;have g5:=hb4.f 5;have HB4b:=Hd hb4;have H5:=Hd h5;clear hb6 hb4 hrd h5 hst hR9
   go_wp2_with (first
    | (refine wpList_wanted (by rfl) ?_;(with_reducible refine wp_load_mid 57 (.tmp 8) rfl RR 0 rfl (dCells rt) (.array 32 5) HR8.out (by kernel_rfl) rfl (by rw[hcr];kernel_rfl) ?_))
    | (refine wpList_wanted (by rfl) ?_;(with_reducible refine wp_load_mid 57 (.tmp 2) rfl w.heap.size 0 rfl (dCells rt) (.array 32 5) HRT.out (by kernel_rfl) rfl (by rw[hcr];kernel_rfl) ?_)))
   obtain⟨Y6,hY6⟩:=nmd ((((((Y5.setCell ⟨w.heap.size+2,0,none⟩ (.int .i64 ti)).setCell ⟨w.heap.size+2,1,none⟩ (.int .i64 ph)).setCell ⟨w.heap.size+2,2,none⟩ (.int .i64 ix)).setCell ⟨w.heap.size+2,3,none⟩ (.string sl)).setCell ⟨w.heap.size+2,4,none⟩ (.slice A2 nr c2)).setCell ⟨w.heap.size+2,5,none⟩ (.slice B2 nw d2));have h12:BoxN Y6 (w.heap.size+2) 91 #[.int .i64 ti,.int .i64 ph,.int .i64 ix,.string sl,.slice A2 nr c2,.slice B2 nw d2]:=by rw[<-hY6];exact ((((((HB4b.out.setAt 0 _).setAt 1 _).setAt 2 _).setAt 3 _).setAt 4 _).setAt 5 _)
   have f12:Fr [w.heap.size+2] Y5 Y6:=by rw[<-hY6];exact ((((((Fq [w.heap.size+2] Y5).set (.inl (by simp)) _).set (.inl (by simp)) _).set (.inl (by simp)) _).set (.inl (by simp)) _).set (.inl (by simp)) _).set (.inl (by simp)) _
   have hz6:=HZ6.out;have hz3:=HB4.out.lt;have hz03:=HF3.out.size;have h45:Fr [] w4 Y5:=HF45.out.then H5.out;have hcA:Own Y6 95 7 A2 nr c2 (a.r.flatMap CH.cs):=(HA4.out.1.fr h45 (by simp)).fr f12 (by intro k hk;have:=HA4.out.2.2.1 k hk;simp only[lms];omega);have hcB:Own Y6 95 7 B2 nw d2 (a.w.flatMap CH.cs):=(HA4.out.2.1.fr h45 (by simp)).fr f12 (by intro k hk;have:=HA4.out.2.2.2 k hk;simp only[lms];omega);have hfin:Fr [] w Y6:=((HF3.out.then HF35.out).then H5.out).trans f12 (T:=[w.heap.size+2]) (by simp);obtain⟨t0,t1,t2,t3,t4,t5⟩:=h12.m6;have HFIN:=Hd (An hcA (An hcB hfin));have HZZ:=Hd (An hz3 hz03);rw[hY6];clear hY6 h12 f12 hcA hcB hfin z0 z1 z2 z3 z4 z5 u0 u1 u2 u3 u4 u5 g0 g1 g2 g3 g4 g5 hz6 hz3 hz03;refine bodyPost_ret (v:=.tuple #[.agg #[.int .i64 ti,.int .i64 ph,.int .i64 ix,.string sl,.slice A2 nr c2,.slice B2 nw d2],.int .i64 0]) (by simp[results,results66,go_sem,t0,t1,t2,t3,t4,t5]) rfl ⟨⟨a,sl,A2,c2,B2,d2⟩,rfl,?_,⟨HKY.out.2.2.2.2.2,by simp only;rw[HKY.out.2.2.2.1];exact HFIN.out.1,by simp only;rw[HKY.out.2.2.2.2.1];exact HFIN.out.2.1⟩,HFIN.out.2.2,fun k hk=>?_,fun k hk=>?_⟩
   ·unfold AX.v AG.val
    simp only;rw[HKY.out.1,HKY.out.2.1,HKY.out.2.2.1,HKY.out.2.2.2.1,HKY.out.2.2.2.2.1]
   ·have:=HA4.out.2.2.1 k hk;have:=HZZ.out;omega
   ·have:=HA4.out.2.2.2 k hk;have:=HZZ.out;omega
 ·rw[if_pos (by rfl)]
  go_simp
  obtain⟨X1,hYe⟩:=nmd (((w5).alloc (.cells (z32) 57)).drew);obtain⟨fz,hRRX1⟩:∃ f,(X1).rowIs (w5).heap.size 57 32 f:=by rw[<-hYe];exact⟨_,(row_new (w5) _ _).drew⟩
  have h1:Fr [] w5 X1:=by rw[<-hYe];exact ((Fq [] w5).alloc _).drew
  rw[hYe];refine hK _ _ h1 ?_;clear hK K hYe;obtain⟨RR,hRR⟩:=nmd ((w5).heap.size);have hRl:w5.heap.size<=RR:=by rw[<-hRR];exact nlr _
  rw[hRR] at hRRX1 ⊢;have HRL:=Hd hRl;clear hRR hRl
  try simp only[Act.put,qA,qB,qC,qD,qE,qF]
  refine hO (i:=2) rfl fun K hK=>?_;go_simp
  go_at_call 93
  (with_reducible refine (HLF.out _ h1).mono ?_);rintro e X2 ⟨rfl,hfl⟩;have h2:=(h1).then hfl;refine hK _ _ h2 ?_;clear hK K
  try simp only[Act.put,qA,qB,qC,qD,qE,qF]
  unfold encD;refine hO (i:=11) rfl fun K hK=>?_;go_simp
  go_at_call 135
  (with_reducible refine (HFROM.out _ h2).mono ?_);rintro e X3 ⟨rfl,hff⟩;have h3:=(h2).then hff;refine hK _ _ h3 ?_;clear hK K
  try simp only[Act.put,qA,qB,qC,qD,qE,qF]
  unfold encD
  show headJ 12 _ _ _ _ _ _ _ _ _ _ _
  iterate 3
   refine hdJ (v:=?_) rfl (Or.inl ⟨by rfl,?_⟩) ?_
   rotate_left
   ·intro W hW;obtain⟨p0,p1,p2,p3⟩:=HSS.out W hW;go_simp;try with_reducible rfl
   try simp only[Act.put,qA,qB,qC,qD,qE,qF]
  have hR9:=rowIs_fr (rowIs_fr hRRX1 hfl (by simp)) hff (by simp);have hst:=store_digest (d:=rt) hR9 hr32;have hrd:=row_digest (d:=rt) hR9 hr32;obtain⟨Y5,hY5⟩:=nmd ((X3).setCells RR 0 (dCells rt));have f5:Fr [RR] (X3) Y5:=by rw[<-hY5];exact (Fq [RR] (X3)).setCells (.inl (by simp)) _ _
  rw[hY5] at hst hrd;have h5:Fr [] w5 Y5:=(h3).trans f5 (by simp;exact HRL.out);refine hO (i:=16) rfl fun K hK=>?_;go_simp
  refine hK _ _ h5 ?_;clear hK K hY5 f5
  try simp only[Act.put,qA,qB,qC,qD,qE,qF]
  refine headI_done ⟨by kernel_rfl,?_⟩;simp only[qG,qH];have HR8:=Hd hrd.1;have HRT:=Hd (row_range (rowIs_fr HL2.out (HF35.out.then h5) (by simp)) hr32);have hneq:=run_eq_dig Y5 hr32;have hb6:=HB6.out.fr h5 (by simp);obtain⟨z0,z1,z2,z3,z4,z5⟩:=hb6.m6;have hb4:=HB4.out.fr (HF35.out.then h5) (by simp);obtain⟨u0,u1,u2,u3,u4,u5⟩:=hb4.m6;have g0:=hb4.f 0;have g1:=hb4.f 1;have g2:=hb4.f 2;have g3:=hb4.f 3;have g4:=hb4.f 4;have g5:=hb4.f 5;have HB4b:=Hd hb4;have H5:=Hd h5;clear hb6 hb4 hrd h5 hst hR9
  go_wp2_with (first
   | (refine wpList_wanted (by rfl) ?_;(with_reducible refine wp_load_mid 57 (.tmp 8) rfl RR 0 rfl (dCells rt) (.array 32 5) HR8.out (by kernel_rfl) rfl (by rw[hcr];kernel_rfl) ?_))
   | (refine wpList_wanted (by rfl) ?_;(with_reducible refine wp_load_mid 57 (.tmp 2) rfl w.heap.size 0 rfl (dCells rt) (.array 32 5) HRT.out (by kernel_rfl) rfl (by rw[hcr];kernel_rfl) ?_)))
  obtain⟨Y6,hY6⟩:=nmd ((((((Y5.setCell ⟨w.heap.size+2,0,none⟩ (.int .i64 ti)).setCell ⟨w.heap.size+2,1,none⟩ (.int .i64 ph)).setCell ⟨w.heap.size+2,2,none⟩ (.int .i64 ix)).setCell ⟨w.heap.size+2,3,none⟩ (.string sl)).setCell ⟨w.heap.size+2,4,none⟩ (.slice A2 nr c2)).setCell ⟨w.heap.size+2,5,none⟩ (.slice B2 nw d2));have h12:BoxN Y6 (w.heap.size+2) 91 #[.int .i64 ti,.int .i64 ph,.int .i64 ix,.string sl,.slice A2 nr c2,.slice B2 nw d2]:=by rw[<-hY6];exact ((((((HB4b.out.setAt 0 _).setAt 1 _).setAt 2 _).setAt 3 _).setAt 4 _).setAt 5 _)
  have f12:Fr [w.heap.size+2] Y5 Y6:=by rw[<-hY6];exact ((((((Fq [w.heap.size+2] Y5).set (.inl (by simp)) _).set (.inl (by simp)) _).set (.inl (by simp)) _).set (.inl (by simp)) _).set (.inl (by simp)) _).set (.inl (by simp)) _
  have hz6:=HZ6.out;have hz3:=HB4.out.lt;have hz03:=HF3.out.size;have h45:Fr [] w4 Y5:=HF45.out.then H5.out;have hcA:Own Y6 95 7 A2 nr c2 (a.r.flatMap CH.cs):=(HA4.out.1.fr h45 (by simp)).fr f12 (by intro k hk;have:=HA4.out.2.2.1 k hk;simp only[lms];omega);have hcB:Own Y6 95 7 B2 nw d2 (a.w.flatMap CH.cs):=(HA4.out.2.1.fr h45 (by simp)).fr f12 (by intro k hk;have:=HA4.out.2.2.2 k hk;simp only[lms];omega);have hfin:Fr [] w Y6:=((HF3.out.then HF35.out).then H5.out).trans f12 (T:=[w.heap.size+2]) (by simp);obtain⟨t0,t1,t2,t3,t4,t5⟩:=h12.m6;have HFIN:=Hd (An hcA (An hcB hfin));have HZZ:=Hd (An hz3 hz03);rw[hY6];clear hY6 h12 f12 hcA hcB hfin z0 z1 z2 z3 z4 z5 u0 u1 u2 u3 u4 u5 g0 g1 g2 g3 g4 g5 hz6 hz3 hz03;refine bodyPost_ret (v:=.tuple #[.agg #[.int .i64 ti,.int .i64 ph,.int .i64 ix,.string sl,.slice A2 nr c2,.slice B2 nw d2],.int .i64 0]) (by simp[results,results66,go_sem,t0,t1,t2,t3,t4,t5]) rfl ⟨⟨a,sl,A2,c2,B2,d2⟩,rfl,?_,⟨HKY.out.2.2.2.2.2,by simp only;rw[HKY.out.2.2.2.1];exact HFIN.out.1,by simp only;rw[HKY.out.2.2.2.2.1];exact HFIN.out.2.1⟩,HFIN.out.2.2,fun k hk=>?_,fun k hk=>?_⟩
  ·unfold AX.v AG.val
   simp only;rw[HKY.out.1,HKY.out.2.1,HKY.out.2.2.1,HKY.out.2.2.2.1,HKY.out.2.2.2.2.1]
  ·have:=HA4.out.2.2.1 k hk;have:=HZZ.out;omega
  ·have:=HA4.out.2.2.2 k hk;have:=HZZ.out;omega
end Go.Proofs.YtlpmiimgacfmkaaGreatDoor
