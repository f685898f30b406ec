/- history: Verify. -/
import Derived.Stop.BytesEq
import Derived.Test.YtlpmiimgacfmkaaGreatDoorRPf4
import Derived.Test.YtlpmiimgacfmkaaGreatDoorRHi3
set_option linter.all false
namespace Go.Proofs.YtlpmiimgacfmkaaGreatDoor
open Go.RowKit
set_option maxRecDepth 100000
set_option maxHeartbeats 4000000
theorem run_eq_dig (W:World) {d:Nm} (hd:d.length=32):(Op.equalIn 10000 57 (.agg (dCells d).toArray) (.agg (dCells d).toArray)).run Tryz.prog W=.ok true W:=by
 have h:=run_equalIn_bytes (P:=Tryz.prog) W 9998 57 5 32 Tryz.underlying57 Tryz.underlying5 (fun w=>by simp[go_sem]) d d hd hd
 have h2:(Op.equalIn 10000 57 (.agg (dCells d).toArray) (.agg (dCells d).toArray)).run Tryz.prog W=.ok (d == d) W:=h
 rw[h2]
 simp
section
variable {P:Program} {ops:Array Oper} {rest:List Oper} {o:Oper} {a:Act} {Q:Exit→Act→World→Prop} {w:World}
theorem wpList_wanted (hw:Region.wanted o (yielded ops a.tmps)=true) (h:o.wp P a w (wpList P ops Q rest) Q):wpList P ops Q (o::rest) a w:=by
 unfold wpList
 rw[if_pos hw]
 exact .inl h
end
theorem VerifyH_0 (a:AC) (p0 p1:Nm) (A:Option Addr) (c:Nat) (w:World) (hok:Ok w) (hg:a.good) (hdec:DecOk (encA a) a) (hlen:(encA a).length≤1000000) (hp0:p0.length=32) (hp1:p1.length=32) (ho:Own w 57 32 A 2 c ([p0,p1].flatMap dCells)) :
 Calls Tryz.prog 66 #[encD (nodeN (nodeN p0 (leafN (1::encA a))) p1),.agg #[.int .i64 0,.int .i64 3,encN (encA a),.slice A 2 c]] w (DecAPost w a):=by
 obtain⟨rt,hrt⟩:=nmd ((nodeN (nodeN p0 (leafN (1::encA a))) p1))
 have hr32:rt.length=32:=by rw[←hrt];exact shaN_len _
 have hcr:(dCells rt).length=32:=by rw[dcells_len,hr32]
 obtain⟨w1,hw1⟩:=nmd (w.alloc (.cells (dCells rt).toArray 57))
 have hL1:w1.rowIs w.heap.size 57 32 (fun j=>.int .u8 ((rt.getD j 0).toNat:Int)):=by rw[←hw1];exact row_cells w hcr
 have hf1:Fr [] w w1:=by rw[←hw1];exact (Fr.refl [] w).alloc _
 have hz1:w1.heap.size=w.heap.size+1:=by rw[←hw1];simp
 obtain⟨w2,hw2⟩:=nmd (w1.alloc (.cells #[.int .i64 0,.int .i64 3,encN (encA a),.slice A 2 c] 53))
 have hb2:BoxN w2 (w.heap.size+1) 53 #[.int .i64 0,.int .i64 3,encN (encA a),.slice A 2 c]:=by rw[←hw2,←hz1];exact BoxN.new w1 _ _
 have hf2:Fr [] w1 w2:=by rw[←hw2];exact (Fr.refl [] w1).alloc _
 have hz2:w2.heap.size=w.heap.size+2:=by rw[←hw2];simp[hz1]
 obtain⟨w3,hw3⟩:=nmd (w2.alloc (.cells actZ 91))
 have hb3:BoxN w3 (w.heap.size+2) 91 actZ:=by rw[←hw3,←hz2];exact BoxN.new w2 _ _
 have hf3:Fr [] w2 w3:=by rw[←hw3];exact (Fr.refl [] w2).alloc _
 have hf03:=(hf1.then hf2).then hf3
 have hb23:=hb2.fr hf3 (by simp)
 obtain⟨tx,htx⟩:=nmd ((⟨(encA a).toArray⟩:ByteArray))
 have htl:tx.data.toList=encA a:=by rw[←htx]
 have hts:tx.size≤1000000:=by rw[←htx];simpa [←ByteArray.size_data] using hlen
 have hD:=DecodeA_any tx a w3 (hok.fr0 hf03) (by omega) (by rw[htl];exact hdec) hg
 have hLf:∀ W,Fr [] w3 W→Calls Tryz.prog 93 #[encN (encA a)] W (SumPost W (leafN (1::encA a))):=fun W hW=>leafH_any (encA a) W (hok.fr0 (hf03.then hW)) (by omega)
 have hFr:∀ W,Fr [] w3 W→Calls Tryz.prog 135 #[encD (leafN (1::encA a)),.int .i64 1,.int .i64 4,.slice A 2 c] W (TagPost W (nodeN (nodeN p0 (leafN (1::encA a))) p1)):=fun W hW=>From_14 (leafN (1::encA a)) p0 p1 A c W (hok.fr0 (hf03.then hW)) (shaN_len _) hp0 hp1 (ho.fr (hf03.then hW) (by simp))
 rw[hrt] at hFr ⊢
 generalize leafN (1::encA a)=dl at hLf hFr
 unfold encN at hb23 hw2 hLf ⊢
 rw[htx] at hb23 hw2 hLf ⊢
 unfold encD at hFr
 unfold encD
 obtain⟨x0,x1,x2⟩:=hb23.m3
 unfold actZ at hw3
 have HD:=Hd hD
 have HLF0:=Hd hLf
 have HFR0:=Hd hFr
 have HL2:=Hd (rowIs_fr hL1 (hf2.then hf3) (by simp))
 have HB3:=Hd hb23
 have HB4:=Hd hb3
 have HF3:=Hd hf03
 have HW:=Hd (And.intro hw1 (And.intro hw2 hw3))
 clear hL1 hf1 hz1 hw1 hb2 hf2 hz2 hw2 hb3 hf3 hf03 hb23 hD hLf hFr hw3 hrt htx htl ho hok
 go_enter Tryz.func66,Tryz.ntmps66
 go_upto_region 1 with fail
 rw[HW.out.1,HW.out.2.1,HW.out.2.2]
 simp only[Nat.add_assoc,Nat.reduceAdd]
 go_upto_region 6 with ((go_at_call 134;(with_reducible refine HD.out.mono ?_);rintro e w4 ⟨A2,c2,B2,d2,rfl,hf4,hA4,hB4,hA4s,hB4s⟩;unfold AC.val actC CL.sl;have HA4:=Hd (And.intro hA4 (And.intro hB4 (And.intro hA4s hB4s)));have HF4:=Hd hf4;clear hf4 hA4 hB4 hA4s hB4s x0 x1 x2))
 obtain⟨w5,hw5,hb6,hf5⟩:=bxn w4 #[.int .i64 a.t,.int .i64 0,.int .i64 a.t,.string ⟨#[]⟩,.slice A2 a.r.len c2,.slice B2 a.w.len d2] 91
 rw[hw5]
 clear hw5
 have hz34:=HF4.out.size
 obtain⟨B6,hB6⟩:=nmd (w4.heap.size)
 rw[hB6] at hb6 hz34 ⊢
 have HB6:=Hd hb6
 have HZ6:=Hd (And.intro hB6 hz34)
 have HF35:=Hd (HF4.out.then hf5)
 have HF45:=Hd hf5
 have HLF:=Hd (fun (W:World) (hW:Fr [] w5 W)=>HLF0.out W (HF35.out.then hW))
 have HFROM:=Hd (fun (W:World) (hW:Fr [] w5 W)=>HFR0.out W (HF35.out.then hW))
 have HSS:=Hd (fun (W:World) (hW:Fr [] w5 W)=>(show W.cell? ⟨w.heap.size+1,0,none⟩=some (.int .i64 0)∧W.cell? ⟨w.heap.size+1,1,none⟩=some (.int .i64 3)∧W.cell? ⟨w.heap.size+1,2,none⟩=some (.string tx)∧W.cell? ⟨w.heap.size+1,3,none⟩=some (.slice A 2 c) from by
  have h:=HB3.out.fr (HF35.out.then hW) (by simp)
  exact⟨h.c 0,h.c 1,h.c 2,h.c 3⟩))
 clear hb6 hf5 hB6 hz34
 have hC:Fr [] w5 w5.drew:=(Fr.refl [] w5).drew
 have hwr1:IntKind.i64.wrap 1=1:=by decide
 have hwr4:IntKind.i64.wrap 4=4:=by decide
 refine wp_region_head (fun W:World=>Fr [] w5 W) 17 (by kernel_rfl) ?_ (by decide)
 show headJ 0 _ _ _ _ _ _ _ _ _ _ _
 iterate 2
  refine hdJ (v:=?_) rfl (Or.inl ⟨by rfl,?_⟩) ?_
  rotate_left
  ·intro W hW;obtain⟨p0,p1,p2,p3⟩:=HSS.out W hW;go_simp;try with_reducible rfl
  try simp only[Act.put,qA,qB,qC,qD,qE,qF]
 show headJ 3 _ _ _ _ _ _ _ _ _ _ _
 iterate 8
  refine hdJ (v:=?_) rfl (Or.inl ⟨by rfl,?_⟩) ?_
  rotate_left
  ·intro W hW;obtain⟨p0,p1,p2,p3⟩:=HSS.out W hW;go_simp;try with_reducible rfl
  try simp only[Act.put,qA,qB,qC,qD,qE,qF]
 refine headI_two (i:=2) (j:=15) (by kernel_rfl) (by decide) (by decide) rfl rfl (fun K hK=>?_) (fun K hK=>?_)
 ·rw[if_pos (by rfl)]
  go_simp
  go_at_call 93
  (with_reducible refine (HLF.out _ hC).mono ?_)
  rintro e X1 ⟨rfl,hfl⟩
  have h1:=(hC).then hfl
  refine hK _ _ h1 ?_
  clear hK K
  try simp only[Act.put,qA,qB,qC,qD,qE,qF]
  unfold encD
  refine headI_two (i:=11) (j:=15) (by kernel_rfl) (by decide) (by decide) rfl rfl (fun K hK=>?_) (fun K hK=>?_)
  ·rw[if_pos (by rfl)]
   go_simp
   go_at_call 135
   (with_reducible refine (HFROM.out _ h1).mono ?_)
   rintro e X2 ⟨rfl,hff⟩
   have h2:=(h1).then hff
   refine hK _ _ h2 ?_
   clear hK K
   try simp only[Act.put,qA,qB,qC,qD,qE,qF]
   unfold encD
   show headJ 12 _ _ _ _ _ _ _ _ _ _ _
   iterate 3
    refine hdJ (v:=?_) rfl (Or.inl ⟨by rfl,?_⟩) ?_
    rotate_left
    ·intro W hW;obtain⟨p0,p1,p2,p3⟩:=HSS.out W hW;go_simp;try with_reducible rfl
    try simp only[Act.put,qA,qB,qC,qD,qE,qF]
   refine headI_only (i:=15) (by kernel_rfl) (by decide) rfl (fun K hK=>?_)
   rw[if_pos (by rfl)]
   go_simp
   obtain⟨X3,hYe⟩:=nmd ((X2).alloc (.cells (z32) 57))
   obtain⟨fz,hRRX3⟩:∃ f,(X3).rowIs (X2).heap.size 57 32 f:=by rw[←hYe];exact⟨_,row_new (X2) _ _⟩
   have h3:Fr [] w5 X3:=by rw[←hYe];exact (h2).alloc _
   rw[hYe]
   refine hK _ _ h3 ?_
   clear hK K hYe
   obtain⟨RR,hRR⟩:=nmd ((X2).heap.size)
   have hRl:w5.heap.size≤RR:=by rw[←hRR];exact (h2).size
   rw[hRR] at hRRX3 ⊢
   have HRL:=Hd hRl
   clear hRR hRl
   try simp only[Act.put,qA,qB,qC,qD,qE,qF]
   have hR9:=hRRX3
   have hst:=store_digest (d:=rt) hR9 hr32
   have hrd:=row_digest (d:=rt) hR9 hr32
   obtain⟨Y5,hY5⟩:=nmd ((X3).setCells RR 0 (dCells rt))
   have f5:Fr [RR] (X3) Y5:=by rw[←hY5];exact (Fr.refl [RR] (X3)).setCells (.inl (by simp)) _ _
   rw[hY5] at hst hrd
   have h5:Fr [] w5 Y5:=(h3).trans f5 (by simp;exact HRL.out)
   refine headI_only (i:=16) (by kernel_rfl) (by decide) rfl (fun K hK=>?_)
   rw[if_pos (by rfl)]
   go_simp
   refine hK _ _ h5 ?_
   clear hK K hY5 f5
   try simp only[Act.put,qA,qB,qC,qD,qE,qF]
   refine headI_done ⟨by kernel_rfl,?_⟩
   simp only[List.drop_succ_cons,List.drop_zero]
   have HR8:=Hd hrd.1
   have HRT:=Hd (row_range (rowIs_fr HL2.out (HF35.out.then h5) (by simp)) hr32)
   have hneq:=run_eq_dig Y5 hr32
   have hb6:=HB6.out.fr h5 (by simp)
   obtain⟨z0,z1,z2,z3,z4,z5⟩:=hb6.m6
   have hb4:=HB4.out.fr (HF35.out.then h5) (by simp)
   obtain⟨u0,u1,u2,u3,u4,u5⟩:=hb4.m6
   have g0:=hb4.f 0
   have g1:=hb4.f 1
   have g2:=hb4.f 2
   have g3:=hb4.f 3
   have g4:=hb4.f 4
   have g5:=hb4.f 5
   have HB4b:=Hd hb4
   have H5:=Hd h5
   clear hb6 hb4 hrd h5 hst hR9
   go_wp2_with (first
    | (refine wpList_wanted (by rfl) ?_;(with_reducible refine wp_load_mid 57 (.tmp 8) rfl RR 0 rfl (dCells rt) (.array 32 5) HR8.out (by kernel_rfl) rfl (by rw[hcr];kernel_rfl) ?_))
    | (refine wpList_wanted (by rfl) ?_;(with_reducible refine wp_load_mid 57 (.tmp 2) rfl w.heap.size 0 rfl (dCells rt) (.array 32 5) HRT.out (by kernel_rfl) rfl (by rw[hcr];kernel_rfl) ?_)))
   obtain⟨Y6,hY6⟩:=nmd ((((((Y5.setCell ⟨w.heap.size+2,0,none⟩ (.int .i64 a.t)).setCell ⟨w.heap.size+2,1,none⟩ (.int .i64 0)).setCell ⟨w.heap.size+2,2,none⟩ (.int .i64 a.t)).setCell ⟨w.heap.size+2,3,none⟩ (.string ⟨#[]⟩)).setCell ⟨w.heap.size+2,4,none⟩ (.slice A2 a.r.len c2)).setCell ⟨w.heap.size+2,5,none⟩ (.slice B2 a.w.len d2))
   have h12:BoxN Y6 (w.heap.size+2) 91 #[.int .i64 a.t,.int .i64 0,.int .i64 a.t,.string ⟨#[]⟩,.slice A2 a.r.len c2,.slice B2 a.w.len d2]:=by rw[←hY6];exact ((((((HB4b.out.setAt 0 _).setAt 1 _).setAt 2 _).setAt 3 _).setAt 4 _).setAt 5 _)
   have f12:Fr [w.heap.size+2] Y5 Y6:=by rw[←hY6];exact ((((((Fr.refl [w.heap.size+2] Y5).set (.inl (by simp)) _).set (.inl (by simp)) _).set (.inl (by simp)) _).set (.inl (by simp)) _).set (.inl (by simp)) _).set (.inl (by simp)) _
   have hz6:=HZ6.out
   have hz3:=HB4.out.lt
   have hz03:=HF3.out.size
   have h45:Fr [] w4 Y5:=HF45.out.then H5.out
   have hcA:CLat Y6 A2 a.r:=(HA4.out.1.fr0 h45).fr f12 (by intro k hk;have:=HA4.out.2.2.1 k hk;simp only[List.mem_singleton];omega)
   have hcB:CLat Y6 B2 a.w:=(HA4.out.2.1.fr0 h45).fr f12 (by intro k hk;have:=HA4.out.2.2.2 k hk;simp only[List.mem_singleton];omega)
   have hfin:Fr [] w Y6:=((HF3.out.then HF35.out).then H5.out).trans f12 (T:=[w.heap.size+2]) (by simp)
   obtain⟨t0,t1,t2,t3,t4,t5⟩:=h12.m6
   have HFIN:=Hd (And.intro hcA (And.intro hcB hfin))
   have HZZ:=Hd (And.intro hz3 hz03)
   rw[hY6]
   clear hY6 h12 f12 hcA hcB hfin z0 z1 z2 z3 z4 z5 u0 u1 u2 u3 u4 u5 g0 g1 g2 g3 g4 g5 hz6 hz3 hz03
   refine bodyPost_ret (v:=.tuple #[.agg #[.int .i64 a.t,.int .i64 0,.int .i64 a.t,.string ⟨#[]⟩,.slice A2 a.r.len c2,.slice B2 a.w.len d2],.int .i64 0]) (by simp[results,Tryz.results66,go_sem,t0,t1,t2,t3,t4,t5]) rfl ⟨A2,c2,B2,d2,rfl,HFIN.out.2.2,HFIN.out.1,HFIN.out.2.1,fun k hk=>?_,fun k hk=>?_⟩
   ·have:=HA4.out.2.2.1 k hk;have:=HZZ.out;omega
   ·have:=HA4.out.2.2.2 k hk;have:=HZZ.out;omega
  ·rw[if_pos (by rfl)]
   go_simp
   obtain⟨X2,hYe⟩:=nmd ((X1).alloc (.cells (z32) 57))
   obtain⟨fz,hRRX2⟩:∃ f,(X2).rowIs (X1).heap.size 57 32 f:=by rw[←hYe];exact⟨_,row_new (X1) _ _⟩
   have h2:Fr [] w5 X2:=by rw[←hYe];exact (h1).alloc _
   rw[hYe]
   refine hK _ _ h2 ?_
   clear hK K hYe
   obtain⟨RR,hRR⟩:=nmd ((X1).heap.size)
   have hRl:w5.heap.size≤RR:=by rw[←hRR];exact (h1).size
   rw[hRR] at hRRX2 ⊢
   have HRL:=Hd hRl
   clear hRR hRl
   try simp only[Act.put,qA,qB,qC,qD,qE,qF]
   refine headI_only (i:=11) (by kernel_rfl) (by decide) rfl (fun K hK=>?_)
   rw[if_pos (by rfl)]
   go_simp
   go_at_call 135
   (with_reducible refine (HFROM.out _ h2).mono ?_)
   rintro e X3 ⟨rfl,hff⟩
   have h3:=(h2).then hff
   refine hK _ _ h3 ?_
   clear hK K
   try simp only[Act.put,qA,qB,qC,qD,qE,qF]
   unfold encD
   show headJ 12 _ _ _ _ _ _ _ _ _ _ _
   iterate 3
    refine hdJ (v:=?_) rfl (Or.inl ⟨by rfl,?_⟩) ?_
    rotate_left
    ·intro W hW;obtain⟨p0,p1,p2,p3⟩:=HSS.out W hW;go_simp;try with_reducible rfl
    try simp only[Act.put,qA,qB,qC,qD,qE,qF]
   have hR9:=rowIs_fr hRRX2 hff (by simp)
   have hst:=store_digest (d:=rt) hR9 hr32
   have hrd:=row_digest (d:=rt) hR9 hr32
   obtain⟨Y5,hY5⟩:=nmd ((X3).setCells RR 0 (dCells rt))
   have f5:Fr [RR] (X3) Y5:=by rw[←hY5];exact (Fr.refl [RR] (X3)).setCells (.inl (by simp)) _ _
   rw[hY5] at hst hrd
   have h5:Fr [] w5 Y5:=(h3).trans f5 (by simp;exact HRL.out)
   refine headI_only (i:=16) (by kernel_rfl) (by decide) rfl (fun K hK=>?_)
   rw[if_pos (by rfl)]
   go_simp
   refine hK _ _ h5 ?_
   clear hK K hY5 f5
   try simp only[Act.put,qA,qB,qC,qD,qE,qF]
   refine headI_done ⟨by kernel_rfl,?_⟩
   simp only[List.drop_succ_cons,List.drop_zero]
   have HR8:=Hd hrd.1
   have HRT:=Hd (row_range (rowIs_fr HL2.out (HF35.out.then h5) (by simp)) hr32)
   have hneq:=run_eq_dig Y5 hr32
   have hb6:=HB6.out.fr h5 (by simp)
   obtain⟨z0,z1,z2,z3,z4,z5⟩:=hb6.m6
   have hb4:=HB4.out.fr (HF35.out.then h5) (by simp)
   obtain⟨u0,u1,u2,u3,u4,u5⟩:=hb4.m6
   have g0:=hb4.f 0
   have g1:=hb4.f 1
   have g2:=hb4.f 2
   have g3:=hb4.f 3
   have g4:=hb4.f 4
   have g5:=hb4.f 5
   have HB4b:=Hd hb4
   have H5:=Hd h5
   clear hb6 hb4 hrd h5 hst hR9
   go_wp2_with (first
    | (refine wpList_wanted (by rfl) ?_;(with_reducible refine wp_load_mid 57 (.tmp 8) rfl RR 0 rfl (dCells rt) (.array 32 5) HR8.out (by kernel_rfl) rfl (by rw[hcr];kernel_rfl) ?_))
    | (refine wpList_wanted (by rfl) ?_;(with_reducible refine wp_load_mid 57 (.tmp 2) rfl w.heap.size 0 rfl (dCells rt) (.array 32 5) HRT.out (by kernel_rfl) rfl (by rw[hcr];kernel_rfl) ?_)))
   obtain⟨Y6,hY6⟩:=nmd ((((((Y5.setCell ⟨w.heap.size+2,0,none⟩ (.int .i64 a.t)).setCell ⟨w.heap.size+2,1,none⟩ (.int .i64 0)).setCell ⟨w.heap.size+2,2,none⟩ (.int .i64 a.t)).setCell ⟨w.heap.size+2,3,none⟩ (.string ⟨#[]⟩)).setCell ⟨w.heap.size+2,4,none⟩ (.slice A2 a.r.len c2)).setCell ⟨w.heap.size+2,5,none⟩ (.slice B2 a.w.len d2))
   have h12:BoxN Y6 (w.heap.size+2) 91 #[.int .i64 a.t,.int .i64 0,.int .i64 a.t,.string ⟨#[]⟩,.slice A2 a.r.len c2,.slice B2 a.w.len d2]:=by rw[←hY6];exact ((((((HB4b.out.setAt 0 _).setAt 1 _).setAt 2 _).setAt 3 _).setAt 4 _).setAt 5 _)
   have f12:Fr [w.heap.size+2] Y5 Y6:=by rw[←hY6];exact ((((((Fr.refl [w.heap.size+2] Y5).set (.inl (by simp)) _).set (.inl (by simp)) _).set (.inl (by simp)) _).set (.inl (by simp)) _).set (.inl (by simp)) _).set (.inl (by simp)) _
   have hz6:=HZ6.out
   have hz3:=HB4.out.lt
   have hz03:=HF3.out.size
   have h45:Fr [] w4 Y5:=HF45.out.then H5.out
   have hcA:CLat Y6 A2 a.r:=(HA4.out.1.fr0 h45).fr f12 (by intro k hk;have:=HA4.out.2.2.1 k hk;simp only[List.mem_singleton];omega)
   have hcB:CLat Y6 B2 a.w:=(HA4.out.2.1.fr0 h45).fr f12 (by intro k hk;have:=HA4.out.2.2.2 k hk;simp only[List.mem_singleton];omega)
   have hfin:Fr [] w Y6:=((HF3.out.then HF35.out).then H5.out).trans f12 (T:=[w.heap.size+2]) (by simp)
   obtain⟨t0,t1,t2,t3,t4,t5⟩:=h12.m6
   have HFIN:=Hd (And.intro hcA (And.intro hcB hfin))
   have HZZ:=Hd (And.intro hz3 hz03)
   rw[hY6]
   clear hY6 h12 f12 hcA hcB hfin z0 z1 z2 z3 z4 z5 u0 u1 u2 u3 u4 u5 g0 g1 g2 g3 g4 g5 hz6 hz3 hz03
   refine bodyPost_ret (v:=.tuple #[.agg #[.int .i64 a.t,.int .i64 0,.int .i64 a.t,.string ⟨#[]⟩,.slice A2 a.r.len c2,.slice B2 a.w.len d2],.int .i64 0]) (by simp[results,Tryz.results66,go_sem,t0,t1,t2,t3,t4,t5]) rfl ⟨A2,c2,B2,d2,rfl,HFIN.out.2.2,HFIN.out.1,HFIN.out.2.1,fun k hk=>?_,fun k hk=>?_⟩
   ·have:=HA4.out.2.2.1 k hk;have:=HZZ.out;omega
   ·have:=HA4.out.2.2.2 k hk;have:=HZZ.out;omega
 ·rw[if_pos (by rfl)]
  go_simp
  obtain⟨X1,hYe⟩:=nmd (((w5).alloc (.cells (z32) 57)).drew)
  obtain⟨fz,hRRX1⟩:∃ f,(X1).rowIs (w5).heap.size 57 32 f:=by rw[←hYe];exact⟨_,(row_new (w5) _ _).drew⟩
  have h1:Fr [] w5 X1:=by rw[←hYe];exact ((Fr.refl [] w5).alloc _).drew
  rw[hYe]
  refine hK _ _ h1 ?_
  clear hK K hYe
  obtain⟨RR,hRR⟩:=nmd ((w5).heap.size)
  have hRl:w5.heap.size≤RR:=by rw[←hRR];exact Nat.le_refl _
  rw[hRR] at hRRX1 ⊢
  have HRL:=Hd hRl
  clear hRR hRl
  try simp only[Act.put,qA,qB,qC,qD,qE,qF]
  refine headI_only (i:=2) (by kernel_rfl) (by decide) rfl (fun K hK=>?_)
  rw[if_pos (by rfl)]
  go_simp
  go_at_call 93
  (with_reducible refine (HLF.out _ h1).mono ?_)
  rintro e X2 ⟨rfl,hfl⟩
  have h2:=(h1).then hfl
  refine hK _ _ h2 ?_
  clear hK K
  try simp only[Act.put,qA,qB,qC,qD,qE,qF]
  unfold encD
  refine headI_only (i:=11) (by kernel_rfl) (by decide) rfl (fun K hK=>?_)
  rw[if_pos (by rfl)]
  go_simp
  go_at_call 135
  (with_reducible refine (HFROM.out _ h2).mono ?_)
  rintro e X3 ⟨rfl,hff⟩
  have h3:=(h2).then hff
  refine hK _ _ h3 ?_
  clear hK K
  try simp only[Act.put,qA,qB,qC,qD,qE,qF]
  unfold encD
  show headJ 12 _ _ _ _ _ _ _ _ _ _ _
  iterate 3
   refine hdJ (v:=?_) rfl (Or.inl ⟨by rfl,?_⟩) ?_
   rotate_left
   ·intro W hW;obtain⟨p0,p1,p2,p3⟩:=HSS.out W hW;go_simp;try with_reducible rfl
   try simp only[Act.put,qA,qB,qC,qD,qE,qF]
  have hR9:=rowIs_fr (rowIs_fr hRRX1 hfl (by simp)) hff (by simp)
  have hst:=store_digest (d:=rt) hR9 hr32
  have hrd:=row_digest (d:=rt) hR9 hr32
  obtain⟨Y5,hY5⟩:=nmd ((X3).setCells RR 0 (dCells rt))
  have f5:Fr [RR] (X3) Y5:=by rw[←hY5];exact (Fr.refl [RR] (X3)).setCells (.inl (by simp)) _ _
  rw[hY5] at hst hrd
  have h5:Fr [] w5 Y5:=(h3).trans f5 (by simp;exact HRL.out)
  refine headI_only (i:=16) (by kernel_rfl) (by decide) rfl (fun K hK=>?_)
  rw[if_pos (by rfl)]
  go_simp
  refine hK _ _ h5 ?_
  clear hK K hY5 f5
  try simp only[Act.put,qA,qB,qC,qD,qE,qF]
  refine headI_done ⟨by kernel_rfl,?_⟩
  simp only[List.drop_succ_cons,List.drop_zero]
  have HR8:=Hd hrd.1
  have HRT:=Hd (row_range (rowIs_fr HL2.out (HF35.out.then h5) (by simp)) hr32)
  have hneq:=run_eq_dig Y5 hr32
  have hb6:=HB6.out.fr h5 (by simp)
  obtain⟨z0,z1,z2,z3,z4,z5⟩:=hb6.m6
  have hb4:=HB4.out.fr (HF35.out.then h5) (by simp)
  obtain⟨u0,u1,u2,u3,u4,u5⟩:=hb4.m6
  have g0:=hb4.f 0
  have g1:=hb4.f 1
  have g2:=hb4.f 2
  have g3:=hb4.f 3
  have g4:=hb4.f 4
  have g5:=hb4.f 5
  have HB4b:=Hd hb4
  have H5:=Hd h5
  clear hb6 hb4 hrd h5 hst hR9
  go_wp2_with (first
   | (refine wpList_wanted (by rfl) ?_;(with_reducible refine wp_load_mid 57 (.tmp 8) rfl RR 0 rfl (dCells rt) (.array 32 5) HR8.out (by kernel_rfl) rfl (by rw[hcr];kernel_rfl) ?_))
   | (refine wpList_wanted (by rfl) ?_;(with_reducible refine wp_load_mid 57 (.tmp 2) rfl w.heap.size 0 rfl (dCells rt) (.array 32 5) HRT.out (by kernel_rfl) rfl (by rw[hcr];kernel_rfl) ?_)))
  obtain⟨Y6,hY6⟩:=nmd ((((((Y5.setCell ⟨w.heap.size+2,0,none⟩ (.int .i64 a.t)).setCell ⟨w.heap.size+2,1,none⟩ (.int .i64 0)).setCell ⟨w.heap.size+2,2,none⟩ (.int .i64 a.t)).setCell ⟨w.heap.size+2,3,none⟩ (.string ⟨#[]⟩)).setCell ⟨w.heap.size+2,4,none⟩ (.slice A2 a.r.len c2)).setCell ⟨w.heap.size+2,5,none⟩ (.slice B2 a.w.len d2))
  have h12:BoxN Y6 (w.heap.size+2) 91 #[.int .i64 a.t,.int .i64 0,.int .i64 a.t,.string ⟨#[]⟩,.slice A2 a.r.len c2,.slice B2 a.w.len d2]:=by rw[←hY6];exact ((((((HB4b.out.setAt 0 _).setAt 1 _).setAt 2 _).setAt 3 _).setAt 4 _).setAt 5 _)
  have f12:Fr [w.heap.size+2] Y5 Y6:=by rw[←hY6];exact ((((((Fr.refl [w.heap.size+2] Y5).set (.inl (by simp)) _).set (.inl (by simp)) _).set (.inl (by simp)) _).set (.inl (by simp)) _).set (.inl (by simp)) _).set (.inl (by simp)) _
  have hz6:=HZ6.out
  have hz3:=HB4.out.lt
  have hz03:=HF3.out.size
  have h45:Fr [] w4 Y5:=HF45.out.then H5.out
  have hcA:CLat Y6 A2 a.r:=(HA4.out.1.fr0 h45).fr f12 (by intro k hk;have:=HA4.out.2.2.1 k hk;simp only[List.mem_singleton];omega)
  have hcB:CLat Y6 B2 a.w:=(HA4.out.2.1.fr0 h45).fr f12 (by intro k hk;have:=HA4.out.2.2.2 k hk;simp only[List.mem_singleton];omega)
  have hfin:Fr [] w Y6:=((HF3.out.then HF35.out).then H5.out).trans f12 (T:=[w.heap.size+2]) (by simp)
  obtain⟨t0,t1,t2,t3,t4,t5⟩:=h12.m6
  have HFIN:=Hd (And.intro hcA (And.intro hcB hfin))
  have HZZ:=Hd (And.intro hz3 hz03)
  rw[hY6]
  clear hY6 h12 f12 hcA hcB hfin z0 z1 z2 z3 z4 z5 u0 u1 u2 u3 u4 u5 g0 g1 g2 g3 g4 g5 hz6 hz3 hz03
  refine bodyPost_ret (v:=.tuple #[.agg #[.int .i64 a.t,.int .i64 0,.int .i64 a.t,.string ⟨#[]⟩,.slice A2 a.r.len c2,.slice B2 a.w.len d2],.int .i64 0]) (by simp[results,Tryz.results66,go_sem,t0,t1,t2,t3,t4,t5]) rfl ⟨A2,c2,B2,d2,rfl,HFIN.out.2.2,HFIN.out.1,HFIN.out.2.1,fun k hk=>?_,fun k hk=>?_⟩
  ·have:=HA4.out.2.2.1 k hk;have:=HZZ.out;omega
  ·have:=HA4.out.2.2.2 k hk;have:=HZZ.out;omega
theorem VerifyH_1 (a:AC) (p0 p1:Nm) (A:Option Addr) (c:Nat) (w:World) (hok:Ok w) (hg:a.good) (hdec:DecOk (encA a) a) (hlen:(encA a).length≤1000000) (hp0:p0.length=32) (hp1:p1.length=32) (ho:Own w 57 32 A 2 c ([p0,p1].flatMap dCells)) :
 Calls Tryz.prog 66 #[encD (nodeN p1 (nodeN (leafN (1::encA a)) p0)),.agg #[.int .i64 1,.int .i64 3,encN (encA a),.slice A 2 c]] w (DecAPost w a):=by
 obtain⟨rt,hrt⟩:=nmd ((nodeN p1 (nodeN (leafN (1::encA a)) p0)))
 have hr32:rt.length=32:=by rw[←hrt];exact shaN_len _
 have hcr:(dCells rt).length=32:=by rw[dcells_len,hr32]
 obtain⟨w1,hw1⟩:=nmd (w.alloc (.cells (dCells rt).toArray 57))
 have hL1:w1.rowIs w.heap.size 57 32 (fun j=>.int .u8 ((rt.getD j 0).toNat:Int)):=by rw[←hw1];exact row_cells w hcr
 have hf1:Fr [] w w1:=by rw[←hw1];exact (Fr.refl [] w).alloc _
 have hz1:w1.heap.size=w.heap.size+1:=by rw[←hw1];simp
 obtain⟨w2,hw2⟩:=nmd (w1.alloc (.cells #[.int .i64 1,.int .i64 3,encN (encA a),.slice A 2 c] 53))
 have hb2:BoxN w2 (w.heap.size+1) 53 #[.int .i64 1,.int .i64 3,encN (encA a),.slice A 2 c]:=by rw[←hw2,←hz1];exact BoxN.new w1 _ _
 have hf2:Fr [] w1 w2:=by rw[←hw2];exact (Fr.refl [] w1).alloc _
 have hz2:w2.heap.size=w.heap.size+2:=by rw[←hw2];simp[hz1]
 obtain⟨w3,hw3⟩:=nmd (w2.alloc (.cells actZ 91))
 have hb3:BoxN w3 (w.heap.size+2) 91 actZ:=by rw[←hw3,←hz2];exact BoxN.new w2 _ _
 have hf3:Fr [] w2 w3:=by rw[←hw3];exact (Fr.refl [] w2).alloc _
 have hf03:=(hf1.then hf2).then hf3
 have hb23:=hb2.fr hf3 (by simp)
 obtain⟨tx,htx⟩:=nmd ((⟨(encA a).toArray⟩:ByteArray))
 have htl:tx.data.toList=encA a:=by rw[←htx]
 have hts:tx.size≤1000000:=by rw[←htx];simpa [←ByteArray.size_data] using hlen
 have hD:=DecodeA_any tx a w3 (hok.fr0 hf03) (by omega) (by rw[htl];exact hdec) hg
 have hLf:∀ W,Fr [] w3 W→Calls Tryz.prog 93 #[encN (encA a)] W (SumPost W (leafN (1::encA a))):=fun W hW=>leafH_any (encA a) W (hok.fr0 (hf03.then hW)) (by omega)
 have hFr:∀ W,Fr [] w3 W→Calls Tryz.prog 135 #[encD (leafN (1::encA a)),.int .i64 2,.int .i64 4,.slice A 2 c] W (TagPost W (nodeN p1 (nodeN (leafN (1::encA a)) p0))):=fun W hW=>From_24 (leafN (1::encA a)) p0 p1 A c W (hok.fr0 (hf03.then hW)) (shaN_len _) hp0 hp1 (ho.fr (hf03.then hW) (by simp))
 rw[hrt] at hFr ⊢
 generalize leafN (1::encA a)=dl at hLf hFr
 unfold encN at hb23 hw2 hLf ⊢
 rw[htx] at hb23 hw2 hLf ⊢
 unfold encD at hFr
 unfold encD
 obtain⟨x0,x1,x2⟩:=hb23.m3
 unfold actZ at hw3
 have HD:=Hd hD
 have HLF0:=Hd hLf
 have HFR0:=Hd hFr
 have HL2:=Hd (rowIs_fr hL1 (hf2.then hf3) (by simp))
 have HB3:=Hd hb23
 have HB4:=Hd hb3
 have HF3:=Hd hf03
 have HW:=Hd (And.intro hw1 (And.intro hw2 hw3))
 clear hL1 hf1 hz1 hw1 hb2 hf2 hz2 hw2 hb3 hf3 hf03 hb23 hD hLf hFr hw3 hrt htx htl ho hok
 go_enter Tryz.func66,Tryz.ntmps66
 go_upto_region 1 with fail
 rw[HW.out.1,HW.out.2.1,HW.out.2.2]
 simp only[Nat.add_assoc,Nat.reduceAdd]
 go_upto_region 6 with ((go_at_call 134;(with_reducible refine HD.out.mono ?_);rintro e w4 ⟨A2,c2,B2,d2,rfl,hf4,hA4,hB4,hA4s,hB4s⟩;unfold AC.val actC CL.sl;have HA4:=Hd (And.intro hA4 (And.intro hB4 (And.intro hA4s hB4s)));have HF4:=Hd hf4;clear hf4 hA4 hB4 hA4s hB4s x0 x1 x2))
 obtain⟨w5,hw5,hb6,hf5⟩:=bxn w4 #[.int .i64 a.t,.int .i64 0,.int .i64 a.t,.string ⟨#[]⟩,.slice A2 a.r.len c2,.slice B2 a.w.len d2] 91
 rw[hw5]
 clear hw5
 have hz34:=HF4.out.size
 obtain⟨B6,hB6⟩:=nmd (w4.heap.size)
 rw[hB6] at hb6 hz34 ⊢
 have HB6:=Hd hb6
 have HZ6:=Hd (And.intro hB6 hz34)
 have HF35:=Hd (HF4.out.then hf5)
 have HF45:=Hd hf5
 have HLF:=Hd (fun (W:World) (hW:Fr [] w5 W)=>HLF0.out W (HF35.out.then hW))
 have HFROM:=Hd (fun (W:World) (hW:Fr [] w5 W)=>HFR0.out W (HF35.out.then hW))
 have HSS:=Hd (fun (W:World) (hW:Fr [] w5 W)=>(show W.cell? ⟨w.heap.size+1,0,none⟩=some (.int .i64 1)∧W.cell? ⟨w.heap.size+1,1,none⟩=some (.int .i64 3)∧W.cell? ⟨w.heap.size+1,2,none⟩=some (.string tx)∧W.cell? ⟨w.heap.size+1,3,none⟩=some (.slice A 2 c) from by
  have h:=HB3.out.fr (HF35.out.then hW) (by simp)
  exact⟨h.c 0,h.c 1,h.c 2,h.c 3⟩))
 clear hb6 hf5 hB6 hz34
 have hC:Fr [] w5 w5.drew:=(Fr.refl [] w5).drew
 have hwr1:IntKind.i64.wrap 2=2:=by decide
 have hwr4:IntKind.i64.wrap 4=4:=by decide
 refine wp_region_head (fun W:World=>Fr [] w5 W) 17 (by kernel_rfl) ?_ (by decide)
 show headJ 0 _ _ _ _ _ _ _ _ _ _ _
 iterate 2
  refine hdJ (v:=?_) rfl (Or.inl ⟨by rfl,?_⟩) ?_
  rotate_left
  ·intro W hW;obtain⟨p0,p1,p2,p3⟩:=HSS.out W hW;go_simp;try with_reducible rfl
  try simp only[Act.put,qA,qB,qC,qD,qE,qF]
 show headJ 3 _ _ _ _ _ _ _ _ _ _ _
 iterate 8
  refine hdJ (v:=?_) rfl (Or.inl ⟨by rfl,?_⟩) ?_
  rotate_left
  ·intro W hW;obtain⟨p0,p1,p2,p3⟩:=HSS.out W hW;go_simp;try with_reducible rfl
  try simp only[Act.put,qA,qB,qC,qD,qE,qF]
 refine headI_two (i:=2) (j:=15) (by kernel_rfl) (by decide) (by decide) rfl rfl (fun K hK=>?_) (fun K hK=>?_)
 ·rw[if_pos (by rfl)]
  go_simp
  go_at_call 93
  (with_reducible refine (HLF.out _ hC).mono ?_)
  rintro e X1 ⟨rfl,hfl⟩
  have h1:=(hC).then hfl
  refine hK _ _ h1 ?_
  clear hK K
  try simp only[Act.put,qA,qB,qC,qD,qE,qF]
  unfold encD
  refine headI_two (i:=11) (j:=15) (by kernel_rfl) (by decide) (by decide) rfl rfl (fun K hK=>?_) (fun K hK=>?_)
  ·rw[if_pos (by rfl)]
   go_simp
   go_at_call 135
   (with_reducible refine (HFROM.out _ h1).mono ?_)
   rintro e X2 ⟨rfl,hff⟩
   have h2:=(h1).then hff
   refine hK _ _ h2 ?_
   clear hK K
   try simp only[Act.put,qA,qB,qC,qD,qE,qF]
   unfold encD
   show headJ 12 _ _ _ _ _ _ _ _ _ _ _
   iterate 3
    refine hdJ (v:=?_) rfl (Or.inl ⟨by rfl,?_⟩) ?_
    rotate_left
    ·intro W hW;obtain⟨p0,p1,p2,p3⟩:=HSS.out W hW;go_simp;try with_reducible rfl
    try simp only[Act.put,qA,qB,qC,qD,qE,qF]
   refine headI_only (i:=15) (by kernel_rfl) (by decide) rfl (fun K hK=>?_)
   rw[if_pos (by rfl)]
   go_simp
   obtain⟨X3,hYe⟩:=nmd ((X2).alloc (.cells (z32) 57))
   obtain⟨fz,hRRX3⟩:∃ f,(X3).rowIs (X2).heap.size 57 32 f:=by rw[←hYe];exact⟨_,row_new (X2) _ _⟩
   have h3:Fr [] w5 X3:=by rw[←hYe];exact (h2).alloc _
   rw[hYe]
   refine hK _ _ h3 ?_
   clear hK K hYe
   obtain⟨RR,hRR⟩:=nmd ((X2).heap.size)
   have hRl:w5.heap.size≤RR:=by rw[←hRR];exact (h2).size
   rw[hRR] at hRRX3 ⊢
   have HRL:=Hd hRl
   clear hRR hRl
   try simp only[Act.put,qA,qB,qC,qD,qE,qF]
   have hR9:=hRRX3
   have hst:=store_digest (d:=rt) hR9 hr32
   have hrd:=row_digest (d:=rt) hR9 hr32
   obtain⟨Y5,hY5⟩:=nmd ((X3).setCells RR 0 (dCells rt))
   have f5:Fr [RR] (X3) Y5:=by rw[←hY5];exact (Fr.refl [RR] (X3)).setCells (.inl (by simp)) _ _
   rw[hY5] at hst hrd
   have h5:Fr [] w5 Y5:=(h3).trans f5 (by simp;exact HRL.out)
   refine headI_only (i:=16) (by kernel_rfl) (by decide) rfl (fun K hK=>?_)
   rw[if_pos (by rfl)]
   go_simp
   refine hK _ _ h5 ?_
   clear hK K hY5 f5
   try simp only[Act.put,qA,qB,qC,qD,qE,qF]
   refine headI_done ⟨by kernel_rfl,?_⟩
   simp only[List.drop_succ_cons,List.drop_zero]
   have HR8:=Hd hrd.1
   have HRT:=Hd (row_range (rowIs_fr HL2.out (HF35.out.then h5) (by simp)) hr32)
   have hneq:=run_eq_dig Y5 hr32
   have hb6:=HB6.out.fr h5 (by simp)
   obtain⟨z0,z1,z2,z3,z4,z5⟩:=hb6.m6
   have hb4:=HB4.out.fr (HF35.out.then h5) (by simp)
   obtain⟨u0,u1,u2,u3,u4,u5⟩:=hb4.m6
   have g0:=hb4.f 0
   have g1:=hb4.f 1
   have g2:=hb4.f 2
   have g3:=hb4.f 3
   have g4:=hb4.f 4
   have g5:=hb4.f 5
   have HB4b:=Hd hb4
   have H5:=Hd h5
   clear hb6 hb4 hrd h5 hst hR9
   go_wp2_with (first
    | (refine wpList_wanted (by rfl) ?_;(with_reducible refine wp_load_mid 57 (.tmp 8) rfl RR 0 rfl (dCells rt) (.array 32 5) HR8.out (by kernel_rfl) rfl (by rw[hcr];kernel_rfl) ?_))
    | (refine wpList_wanted (by rfl) ?_;(with_reducible refine wp_load_mid 57 (.tmp 2) rfl w.heap.size 0 rfl (dCells rt) (.array 32 5) HRT.out (by kernel_rfl) rfl (by rw[hcr];kernel_rfl) ?_)))
   obtain⟨Y6,hY6⟩:=nmd ((((((Y5.setCell ⟨w.heap.size+2,0,none⟩ (.int .i64 a.t)).setCell ⟨w.heap.size+2,1,none⟩ (.int .i64 0)).setCell ⟨w.heap.size+2,2,none⟩ (.int .i64 a.t)).setCell ⟨w.heap.size+2,3,none⟩ (.string ⟨#[]⟩)).setCell ⟨w.heap.size+2,4,none⟩ (.slice A2 a.r.len c2)).setCell ⟨w.heap.size+2,5,none⟩ (.slice B2 a.w.len d2))
   have h12:BoxN Y6 (w.heap.size+2) 91 #[.int .i64 a.t,.int .i64 0,.int .i64 a.t,.string ⟨#[]⟩,.slice A2 a.r.len c2,.slice B2 a.w.len d2]:=by rw[←hY6];exact ((((((HB4b.out.setAt 0 _).setAt 1 _).setAt 2 _).setAt 3 _).setAt 4 _).setAt 5 _)
   have f12:Fr [w.heap.size+2] Y5 Y6:=by rw[←hY6];exact ((((((Fr.refl [w.heap.size+2] Y5).set (.inl (by simp)) _).set (.inl (by simp)) _).set (.inl (by simp)) _).set (.inl (by simp)) _).set (.inl (by simp)) _).set (.inl (by simp)) _
   have hz6:=HZ6.out
   have hz3:=HB4.out.lt
   have hz03:=HF3.out.size
   have h45:Fr [] w4 Y5:=HF45.out.then H5.out
   have hcA:CLat Y6 A2 a.r:=(HA4.out.1.fr0 h45).fr f12 (by intro k hk;have:=HA4.out.2.2.1 k hk;simp only[List.mem_singleton];omega)
   have hcB:CLat Y6 B2 a.w:=(HA4.out.2.1.fr0 h45).fr f12 (by intro k hk;have:=HA4.out.2.2.2 k hk;simp only[List.mem_singleton];omega)
   have hfin:Fr [] w Y6:=((HF3.out.then HF35.out).then H5.out).trans f12 (T:=[w.heap.size+2]) (by simp)
   obtain⟨t0,t1,t2,t3,t4,t5⟩:=h12.m6
   have HFIN:=Hd (And.intro hcA (And.intro hcB hfin))
   have HZZ:=Hd (And.intro hz3 hz03)
   rw[hY6]
   clear hY6 h12 f12 hcA hcB hfin z0 z1 z2 z3 z4 z5 u0 u1 u2 u3 u4 u5 g0 g1 g2 g3 g4 g5 hz6 hz3 hz03
   refine bodyPost_ret (v:=.tuple #[.agg #[.int .i64 a.t,.int .i64 0,.int .i64 a.t,.string ⟨#[]⟩,.slice A2 a.r.len c2,.slice B2 a.w.len d2],.int .i64 0]) (by simp[results,Tryz.results66,go_sem,t0,t1,t2,t3,t4,t5]) rfl ⟨A2,c2,B2,d2,rfl,HFIN.out.2.2,HFIN.out.1,HFIN.out.2.1,fun k hk=>?_,fun k hk=>?_⟩
   ·have:=HA4.out.2.2.1 k hk;have:=HZZ.out;omega
   ·have:=HA4.out.2.2.2 k hk;have:=HZZ.out;omega
  ·rw[if_pos (by rfl)]
   go_simp
   obtain⟨X2,hYe⟩:=nmd ((X1).alloc (.cells (z32) 57))
   obtain⟨fz,hRRX2⟩:∃ f,(X2).rowIs (X1).heap.size 57 32 f:=by rw[←hYe];exact⟨_,row_new (X1) _ _⟩
   have h2:Fr [] w5 X2:=by rw[←hYe];exact (h1).alloc _
   rw[hYe]
   refine hK _ _ h2 ?_
   clear hK K hYe
   obtain⟨RR,hRR⟩:=nmd ((X1).heap.size)
   have hRl:w5.heap.size≤RR:=by rw[←hRR];exact (h1).size
   rw[hRR] at hRRX2 ⊢
   have HRL:=Hd hRl
   clear hRR hRl
   try simp only[Act.put,qA,qB,qC,qD,qE,qF]
   refine headI_only (i:=11) (by kernel_rfl) (by decide) rfl (fun K hK=>?_)
   rw[if_pos (by rfl)]
   go_simp
   go_at_call 135
   (with_reducible refine (HFROM.out _ h2).mono ?_)
   rintro e X3 ⟨rfl,hff⟩
   have h3:=(h2).then hff
   refine hK _ _ h3 ?_
   clear hK K
   try simp only[Act.put,qA,qB,qC,qD,qE,qF]
   unfold encD
   show headJ 12 _ _ _ _ _ _ _ _ _ _ _
   iterate 3
    refine hdJ (v:=?_) rfl (Or.inl ⟨by rfl,?_⟩) ?_
    rotate_left
    ·intro W hW;obtain⟨p0,p1,p2,p3⟩:=HSS.out W hW;go_simp;try with_reducible rfl
    try simp only[Act.put,qA,qB,qC,qD,qE,qF]
   have hR9:=rowIs_fr hRRX2 hff (by simp)
   have hst:=store_digest (d:=rt) hR9 hr32
   have hrd:=row_digest (d:=rt) hR9 hr32
   obtain⟨Y5,hY5⟩:=nmd ((X3).setCells RR 0 (dCells rt))
   have f5:Fr [RR] (X3) Y5:=by rw[←hY5];exact (Fr.refl [RR] (X3)).setCells (.inl (by simp)) _ _
   rw[hY5] at hst hrd
   have h5:Fr [] w5 Y5:=(h3).trans f5 (by simp;exact HRL.out)
   refine headI_only (i:=16) (by kernel_rfl) (by decide) rfl (fun K hK=>?_)
   rw[if_pos (by rfl)]
   go_simp
   refine hK _ _ h5 ?_
   clear hK K hY5 f5
   try simp only[Act.put,qA,qB,qC,qD,qE,qF]
   refine headI_done ⟨by kernel_rfl,?_⟩
   simp only[List.drop_succ_cons,List.drop_zero]
   have HR8:=Hd hrd.1
   have HRT:=Hd (row_range (rowIs_fr HL2.out (HF35.out.then h5) (by simp)) hr32)
   have hneq:=run_eq_dig Y5 hr32
   have hb6:=HB6.out.fr h5 (by simp)
   obtain⟨z0,z1,z2,z3,z4,z5⟩:=hb6.m6
   have hb4:=HB4.out.fr (HF35.out.then h5) (by simp)
   obtain⟨u0,u1,u2,u3,u4,u5⟩:=hb4.m6
   have g0:=hb4.f 0
   have g1:=hb4.f 1
   have g2:=hb4.f 2
   have g3:=hb4.f 3
   have g4:=hb4.f 4
   have g5:=hb4.f 5
   have HB4b:=Hd hb4
   have H5:=Hd h5
   clear hb6 hb4 hrd h5 hst hR9
   go_wp2_with (first
    | (refine wpList_wanted (by rfl) ?_;(with_reducible refine wp_load_mid 57 (.tmp 8) rfl RR 0 rfl (dCells rt) (.array 32 5) HR8.out (by kernel_rfl) rfl (by rw[hcr];kernel_rfl) ?_))
    | (refine wpList_wanted (by rfl) ?_;(with_reducible refine wp_load_mid 57 (.tmp 2) rfl w.heap.size 0 rfl (dCells rt) (.array 32 5) HRT.out (by kernel_rfl) rfl (by rw[hcr];kernel_rfl) ?_)))
   obtain⟨Y6,hY6⟩:=nmd ((((((Y5.setCell ⟨w.heap.size+2,0,none⟩ (.int .i64 a.t)).setCell ⟨w.heap.size+2,1,none⟩ (.int .i64 0)).setCell ⟨w.heap.size+2,2,none⟩ (.int .i64 a.t)).setCell ⟨w.heap.size+2,3,none⟩ (.string ⟨#[]⟩)).setCell ⟨w.heap.size+2,4,none⟩ (.slice A2 a.r.len c2)).setCell ⟨w.heap.size+2,5,none⟩ (.slice B2 a.w.len d2))
   have h12:BoxN Y6 (w.heap.size+2) 91 #[.int .i64 a.t,.int .i64 0,.int .i64 a.t,.string ⟨#[]⟩,.slice A2 a.r.len c2,.slice B2 a.w.len d2]:=by rw[←hY6];exact ((((((HB4b.out.setAt 0 _).setAt 1 _).setAt 2 _).setAt 3 _).setAt 4 _).setAt 5 _)
   have f12:Fr [w.heap.size+2] Y5 Y6:=by rw[←hY6];exact ((((((Fr.refl [w.heap.size+2] Y5).set (.inl (by simp)) _).set (.inl (by simp)) _).set (.inl (by simp)) _).set (.inl (by simp)) _).set (.inl (by simp)) _).set (.inl (by simp)) _
   have hz6:=HZ6.out
   have hz3:=HB4.out.lt
   have hz03:=HF3.out.size
   have h45:Fr [] w4 Y5:=HF45.out.then H5.out
   have hcA:CLat Y6 A2 a.r:=(HA4.out.1.fr0 h45).fr f12 (by intro k hk;have:=HA4.out.2.2.1 k hk;simp only[List.mem_singleton];omega)
   have hcB:CLat Y6 B2 a.w:=(HA4.out.2.1.fr0 h45).fr f12 (by intro k hk;have:=HA4.out.2.2.2 k hk;simp only[List.mem_singleton];omega)
   have hfin:Fr [] w Y6:=((HF3.out.then HF35.out).then H5.out).trans f12 (T:=[w.heap.size+2]) (by simp)
   obtain⟨t0,t1,t2,t3,t4,t5⟩:=h12.m6
   have HFIN:=Hd (And.intro hcA (And.intro hcB hfin))
   have HZZ:=Hd (And.intro hz3 hz03)
   rw[hY6]
   clear hY6 h12 f12 hcA hcB hfin z0 z1 z2 z3 z4 z5 u0 u1 u2 u3 u4 u5 g0 g1 g2 g3 g4 g5 hz6 hz3 hz03
   refine bodyPost_ret (v:=.tuple #[.agg #[.int .i64 a.t,.int .i64 0,.int .i64 a.t,.string ⟨#[]⟩,.slice A2 a.r.len c2,.slice B2 a.w.len d2],.int .i64 0]) (by simp[results,Tryz.results66,go_sem,t0,t1,t2,t3,t4,t5]) rfl ⟨A2,c2,B2,d2,rfl,HFIN.out.2.2,HFIN.out.1,HFIN.out.2.1,fun k hk=>?_,fun k hk=>?_⟩
   ·have:=HA4.out.2.2.1 k hk;have:=HZZ.out;omega
   ·have:=HA4.out.2.2.2 k hk;have:=HZZ.out;omega
 ·rw[if_pos (by rfl)]
  go_simp
  obtain⟨X1,hYe⟩:=nmd (((w5).alloc (.cells (z32) 57)).drew)
  obtain⟨fz,hRRX1⟩:∃ f,(X1).rowIs (w5).heap.size 57 32 f:=by rw[←hYe];exact⟨_,(row_new (w5) _ _).drew⟩
  have h1:Fr [] w5 X1:=by rw[←hYe];exact ((Fr.refl [] w5).alloc _).drew
  rw[hYe]
  refine hK _ _ h1 ?_
  clear hK K hYe
  obtain⟨RR,hRR⟩:=nmd ((w5).heap.size)
  have hRl:w5.heap.size≤RR:=by rw[←hRR];exact Nat.le_refl _
  rw[hRR] at hRRX1 ⊢
  have HRL:=Hd hRl
  clear hRR hRl
  try simp only[Act.put,qA,qB,qC,qD,qE,qF]
  refine headI_only (i:=2) (by kernel_rfl) (by decide) rfl (fun K hK=>?_)
  rw[if_pos (by rfl)]
  go_simp
  go_at_call 93
  (with_reducible refine (HLF.out _ h1).mono ?_)
  rintro e X2 ⟨rfl,hfl⟩
  have h2:=(h1).then hfl
  refine hK _ _ h2 ?_
  clear hK K
  try simp only[Act.put,qA,qB,qC,qD,qE,qF]
  unfold encD
  refine headI_only (i:=11) (by kernel_rfl) (by decide) rfl (fun K hK=>?_)
  rw[if_pos (by rfl)]
  go_simp
  go_at_call 135
  (with_reducible refine (HFROM.out _ h2).mono ?_)
  rintro e X3 ⟨rfl,hff⟩
  have h3:=(h2).then hff
  refine hK _ _ h3 ?_
  clear hK K
  try simp only[Act.put,qA,qB,qC,qD,qE,qF]
  unfold encD
  show headJ 12 _ _ _ _ _ _ _ _ _ _ _
  iterate 3
   refine hdJ (v:=?_) rfl (Or.inl ⟨by rfl,?_⟩) ?_
   rotate_left
   ·intro W hW;obtain⟨p0,p1,p2,p3⟩:=HSS.out W hW;go_simp;try with_reducible rfl
   try simp only[Act.put,qA,qB,qC,qD,qE,qF]
  have hR9:=rowIs_fr (rowIs_fr hRRX1 hfl (by simp)) hff (by simp)
  have hst:=store_digest (d:=rt) hR9 hr32
  have hrd:=row_digest (d:=rt) hR9 hr32
  obtain⟨Y5,hY5⟩:=nmd ((X3).setCells RR 0 (dCells rt))
  have f5:Fr [RR] (X3) Y5:=by rw[←hY5];exact (Fr.refl [RR] (X3)).setCells (.inl (by simp)) _ _
  rw[hY5] at hst hrd
  have h5:Fr [] w5 Y5:=(h3).trans f5 (by simp;exact HRL.out)
  refine headI_only (i:=16) (by kernel_rfl) (by decide) rfl (fun K hK=>?_)
  rw[if_pos (by rfl)]
  go_simp
  refine hK _ _ h5 ?_
  clear hK K hY5 f5
  try simp only[Act.put,qA,qB,qC,qD,qE,qF]
  refine headI_done ⟨by kernel_rfl,?_⟩
  simp only[List.drop_succ_cons,List.drop_zero]
  have HR8:=Hd hrd.1
  have HRT:=Hd (row_range (rowIs_fr HL2.out (HF35.out.then h5) (by simp)) hr32)
  have hneq:=run_eq_dig Y5 hr32
  have hb6:=HB6.out.fr h5 (by simp)
  obtain⟨z0,z1,z2,z3,z4,z5⟩:=hb6.m6
  have hb4:=HB4.out.fr (HF35.out.then h5) (by simp)
  obtain⟨u0,u1,u2,u3,u4,u5⟩:=hb4.m6
  have g0:=hb4.f 0
  have g1:=hb4.f 1
  have g2:=hb4.f 2
  have g3:=hb4.f 3
  have g4:=hb4.f 4
  have g5:=hb4.f 5
  have HB4b:=Hd hb4
  have H5:=Hd h5
  clear hb6 hb4 hrd h5 hst hR9
  go_wp2_with (first
   | (refine wpList_wanted (by rfl) ?_;(with_reducible refine wp_load_mid 57 (.tmp 8) rfl RR 0 rfl (dCells rt) (.array 32 5) HR8.out (by kernel_rfl) rfl (by rw[hcr];kernel_rfl) ?_))
   | (refine wpList_wanted (by rfl) ?_;(with_reducible refine wp_load_mid 57 (.tmp 2) rfl w.heap.size 0 rfl (dCells rt) (.array 32 5) HRT.out (by kernel_rfl) rfl (by rw[hcr];kernel_rfl) ?_)))
  obtain⟨Y6,hY6⟩:=nmd ((((((Y5.setCell ⟨w.heap.size+2,0,none⟩ (.int .i64 a.t)).setCell ⟨w.heap.size+2,1,none⟩ (.int .i64 0)).setCell ⟨w.heap.size+2,2,none⟩ (.int .i64 a.t)).setCell ⟨w.heap.size+2,3,none⟩ (.string ⟨#[]⟩)).setCell ⟨w.heap.size+2,4,none⟩ (.slice A2 a.r.len c2)).setCell ⟨w.heap.size+2,5,none⟩ (.slice B2 a.w.len d2))
  have h12:BoxN Y6 (w.heap.size+2) 91 #[.int .i64 a.t,.int .i64 0,.int .i64 a.t,.string ⟨#[]⟩,.slice A2 a.r.len c2,.slice B2 a.w.len d2]:=by rw[←hY6];exact ((((((HB4b.out.setAt 0 _).setAt 1 _).setAt 2 _).setAt 3 _).setAt 4 _).setAt 5 _)
  have f12:Fr [w.heap.size+2] Y5 Y6:=by rw[←hY6];exact ((((((Fr.refl [w.heap.size+2] Y5).set (.inl (by simp)) _).set (.inl (by simp)) _).set (.inl (by simp)) _).set (.inl (by simp)) _).set (.inl (by simp)) _).set (.inl (by simp)) _
  have hz6:=HZ6.out
  have hz3:=HB4.out.lt
  have hz03:=HF3.out.size
  have h45:Fr [] w4 Y5:=HF45.out.then H5.out
  have hcA:CLat Y6 A2 a.r:=(HA4.out.1.fr0 h45).fr f12 (by intro k hk;have:=HA4.out.2.2.1 k hk;simp only[List.mem_singleton];omega)
  have hcB:CLat Y6 B2 a.w:=(HA4.out.2.1.fr0 h45).fr f12 (by intro k hk;have:=HA4.out.2.2.2 k hk;simp only[List.mem_singleton];omega)
  have hfin:Fr [] w Y6:=((HF3.out.then HF35.out).then H5.out).trans f12 (T:=[w.heap.size+2]) (by simp)
  obtain⟨t0,t1,t2,t3,t4,t5⟩:=h12.m6
  have HFIN:=Hd (And.intro hcA (And.intro hcB hfin))
  have HZZ:=Hd (And.intro hz3 hz03)
  rw[hY6]
  clear hY6 h12 f12 hcA hcB hfin z0 z1 z2 z3 z4 z5 u0 u1 u2 u3 u4 u5 g0 g1 g2 g3 g4 g5 hz6 hz3 hz03
  refine bodyPost_ret (v:=.tuple #[.agg #[.int .i64 a.t,.int .i64 0,.int .i64 a.t,.string ⟨#[]⟩,.slice A2 a.r.len c2,.slice B2 a.w.len d2],.int .i64 0]) (by simp[results,Tryz.results66,go_sem,t0,t1,t2,t3,t4,t5]) rfl ⟨A2,c2,B2,d2,rfl,HFIN.out.2.2,HFIN.out.1,HFIN.out.2.1,fun k hk=>?_,fun k hk=>?_⟩
  ·have:=HA4.out.2.2.1 k hk;have:=HZZ.out;omega
  ·have:=HA4.out.2.2.2 k hk;have:=HZZ.out;omega
end Go.Proofs.YtlpmiimgacfmkaaGreatDoor
