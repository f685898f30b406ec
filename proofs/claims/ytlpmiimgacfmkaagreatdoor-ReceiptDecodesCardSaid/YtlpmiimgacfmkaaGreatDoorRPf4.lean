/- logtree: From. -/
import Derived.Test.YtlpmiimgacfmkaaGreatDoorRPf3
set_option linter.all false
namespace Go.Proofs.YtlpmiimgacfmkaaGreatDoor
open Go.RowKit
set_option maxRecDepth 100000
set_option maxHeartbeats 4000000
theorem From_14 (d p0 p1:Nm) (A:Option Addr) (c:Nat) (w:World) (hok:Ok w) (hd32:d.length=32) (hp0:p0.length=32) (hp1:p1.length=32) (ho:Own w 57 32 A 2 c ([p0,p1].flatMap dCells)) :
 Calls Tryz.prog 135 #[encD d,.int .i64 1,.int .i64 4,.slice A 2 c] w (TagPost w (nodeN (nodeN p0 d) p1)):=by
 have hcl:(dCells d).length=32:=by rw[dcells_len,hd32]
 obtain⟨w1,hw1⟩:=nmd (w.alloc (.cells (dCells d).toArray 57))
 have hL1:w1.rowIs w.heap.size 57 32 (fun j=>.int .u8 ((d.getD j 0).toNat:Int)):=by rw[←hw1];exact row_cells w hcl
 have hf1:Fr [] w w1:=by rw[←hw1];exact (Fr.refl [] w).alloc _
 have hz1:w1.heap.size=w.heap.size+1:=by rw[←hw1];simp
 obtain⟨w2,hw2⟩:=nmd (w1.alloc (.cells (z32) 57))
 obtain⟨fR,hR2⟩:∃ f,w2.rowIs (w.heap.size+1) 57 32 f:=by rw[←hw2,←hz1];exact⟨_,row_new w1 _ _⟩
 have hf2:Fr [] w1 w2:=by rw[←hw2];exact (Fr.refl [] w1).alloc _
 have hN:=Nodes_14 d p0 p1 A c w2 (hok.fr0 (hf1.then hf2)) hd32 hp0 hp1 (ho.fr (hf1.then hf2) (by simp))
 obtain⟨r,hr⟩:=nmd ((nodeN (nodeN p0 d) p1))
 have hr32:r.length=32:=by rw[←hr];exact shaN_len _
 have hcr:(dCells r).length=32:=by rw[dcells_len,hr32]
 rw[hr] at hN ⊢
 unfold encD at hN
 have HN:=Hd hN
 have HL:=Hd (row_range (rowIs_fr hL1 hf2 (by simp)) hd32)
 have HR2:=Hd hR2
 have HF2:=Hd (hf1.then hf2)
 have HW:=Hd (And.intro hw1 hw2)
 unfold encD
 clear hL1 hf1 hz1 hw1 hw2 hR2 hf2 hN hr ho hok
 go_enter Tryz.func135,Tryz.ntmps135
 go_upto_region 1 with fail
 rw[HW.out.1,HW.out.2]
 go_wp2_with (first
  | (with_reducible refine wpList_load_mid rfl 57 (.tmp 4) rfl w.heap.size 0 rfl (dCells d) (.array 32 5) HL.out (by kernel_rfl) rfl (by rw[hcl];kernel_rfl) ?_)
  | (go_at_call 178;(with_reducible refine HN.out.mono ?_);rintro e w3 ⟨v,rfl,hf3⟩;unfold encD;obtain⟨w4,hst4,hf4,hr4⟩:=new_dig w3 r hr32;have HL10:=Hd (row_range hr4 hr32);have hR4:=rowIs_fr (rowIs_fr HR2.out hf3 (by simp)) hf4 (by simp);have hst:=store_digest (d:=r) hR4 hr32;have hrd:=row_digest (d:=r) hR4 hr32;obtain⟨w5,hw5⟩:∃ X,w4.setCells (w.heap.size+1) 0 (dCells r)=X:=⟨_,rfl⟩;have hf5:Fr [] w w5:=(by rw[←hw5];exact ((HF2.out.then hf3).then hf4).setCells (.inr (by simp)) _ _);rw[hw5] at hst hrd;have HRD:=Hd hrd.1;have HF5:=Hd hf5;clear hw5 hrd hf5 hR4 hf3 hf4 hr4)
  | (with_reducible refine wpList_load_mid rfl 57 (.tmp 10) rfl w3.heap.size 0 rfl (dCells r) (.array 32 5) HL10.out (by kernel_rfl) rfl (by rw[hcr];kernel_rfl) ?_))
 exact bodyPost_ret (v:=.tuple #[encD r,.int .i64 0]) (results_cell_mid2 (d:=.array 32 5) (p:=8) (u:=9) (ty:=57) (b:=w.heap.size+1) (o:=0) rfl rfl rfl HRD.out (by kernel_rfl) rfl (by rw[hcr];rfl)) rfl ⟨rfl,HF5.out⟩
theorem From_24 (d p0 p1:Nm) (A:Option Addr) (c:Nat) (w:World) (hok:Ok w) (hd32:d.length=32) (hp0:p0.length=32) (hp1:p1.length=32) (ho:Own w 57 32 A 2 c ([p0,p1].flatMap dCells)) :
 Calls Tryz.prog 135 #[encD d,.int .i64 2,.int .i64 4,.slice A 2 c] w (TagPost w (nodeN p1 (nodeN d p0))):=by
 have hcl:(dCells d).length=32:=by rw[dcells_len,hd32]
 obtain⟨w1,hw1⟩:=nmd (w.alloc (.cells (dCells d).toArray 57))
 have hL1:w1.rowIs w.heap.size 57 32 (fun j=>.int .u8 ((d.getD j 0).toNat:Int)):=by rw[←hw1];exact row_cells w hcl
 have hf1:Fr [] w w1:=by rw[←hw1];exact (Fr.refl [] w).alloc _
 have hz1:w1.heap.size=w.heap.size+1:=by rw[←hw1];simp
 obtain⟨w2,hw2⟩:=nmd (w1.alloc (.cells (z32) 57))
 obtain⟨fR,hR2⟩:∃ f,w2.rowIs (w.heap.size+1) 57 32 f:=by rw[←hw2,←hz1];exact⟨_,row_new w1 _ _⟩
 have hf2:Fr [] w1 w2:=by rw[←hw2];exact (Fr.refl [] w1).alloc _
 have hN:=Nodes_24 d p0 p1 A c w2 (hok.fr0 (hf1.then hf2)) hd32 hp0 hp1 (ho.fr (hf1.then hf2) (by simp))
 obtain⟨r,hr⟩:=nmd ((nodeN p1 (nodeN d p0)))
 have hr32:r.length=32:=by rw[←hr];exact shaN_len _
 have hcr:(dCells r).length=32:=by rw[dcells_len,hr32]
 rw[hr] at hN ⊢
 unfold encD at hN
 have HN:=Hd hN
 have HL:=Hd (row_range (rowIs_fr hL1 hf2 (by simp)) hd32)
 have HR2:=Hd hR2
 have HF2:=Hd (hf1.then hf2)
 have HW:=Hd (And.intro hw1 hw2)
 unfold encD
 clear hL1 hf1 hz1 hw1 hw2 hR2 hf2 hN hr ho hok
 go_enter Tryz.func135,Tryz.ntmps135
 go_upto_region 1 with fail
 rw[HW.out.1,HW.out.2]
 go_wp2_with (first
  | (with_reducible refine wpList_load_mid rfl 57 (.tmp 4) rfl w.heap.size 0 rfl (dCells d) (.array 32 5) HL.out (by kernel_rfl) rfl (by rw[hcl];kernel_rfl) ?_)
  | (go_at_call 178;(with_reducible refine HN.out.mono ?_);rintro e w3 ⟨v,rfl,hf3⟩;unfold encD;obtain⟨w4,hst4,hf4,hr4⟩:=new_dig w3 r hr32;have HL10:=Hd (row_range hr4 hr32);have hR4:=rowIs_fr (rowIs_fr HR2.out hf3 (by simp)) hf4 (by simp);have hst:=store_digest (d:=r) hR4 hr32;have hrd:=row_digest (d:=r) hR4 hr32;obtain⟨w5,hw5⟩:∃ X,w4.setCells (w.heap.size+1) 0 (dCells r)=X:=⟨_,rfl⟩;have hf5:Fr [] w w5:=(by rw[←hw5];exact ((HF2.out.then hf3).then hf4).setCells (.inr (by simp)) _ _);rw[hw5] at hst hrd;have HRD:=Hd hrd.1;have HF5:=Hd hf5;clear hw5 hrd hf5 hR4 hf3 hf4 hr4)
  | (with_reducible refine wpList_load_mid rfl 57 (.tmp 10) rfl w3.heap.size 0 rfl (dCells r) (.array 32 5) HL10.out (by kernel_rfl) rfl (by rw[hcr];kernel_rfl) ?_))
 exact bodyPost_ret (v:=.tuple #[encD r,.int .i64 0]) (results_cell_mid2 (d:=.array 32 5) (p:=8) (u:=9) (ty:=57) (b:=w.heap.size+1) (o:=0) rfl rfl rfl HRD.out (by kernel_rfl) rfl (by rw[hcr];rfl)) rfl ⟨rfl,HF5.out⟩
end Go.Proofs.YtlpmiimgacfmkaaGreatDoor
