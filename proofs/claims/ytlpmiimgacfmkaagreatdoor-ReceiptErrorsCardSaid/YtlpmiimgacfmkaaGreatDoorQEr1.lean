/- receipt: Verify of receipts that are not valid. -/
import Derived.Test.YtlpmiimgacfmkaaGreatDoorQHi3
import Derived.Test.YtlpmiimgacfmkaaGreatDoorQHi5
set_option linter.all false
namespace Go.Proofs.YtlpmiimgacfmkaaGreatDoor
open Go.RowKit
set_option maxRecDepth 100000
set_option maxHeartbeats 4000000
theorem VerifyZ (rt : Nm) (hr32 : rt.length = 32) (w : World) : Calls Tryz.prog 66 #[encD rt,.agg #[.int .i64 0,.int .i64 0,.string ⟨#[]⟩,.slice none 0 0]] w (RetPost w (.tuple #[.agg #[.int .i64 0,.int .i64 0,.int .i64 0,.string ⟨#[]⟩,.slice none 0 0,.slice none 0 0],.int .i64 2])) := by
 have hcr : (dCells rt).length = 32 := by rw [dcells_len,hr32]
 obtain ⟨w1,hw1⟩ := nmd ((w).alloc (.cells (dCells rt).toArray 57))
 have hz1 : (w1).heap.size = w.heap.size + 1 := by rw [← hw1,World.size_alloc];try omega
 have n1 : (w1).rowIs (w.heap.size) 57 32 (fun j => .int .u8 ((rt.getD j 0).toNat : Int)) := by have h0 := row_cells (t := 57) (w) hcr;rw [show w.heap.size = (w).heap.size from by first | rfl | omega,← hw1];exact h0
 have f1 : Fr [] (w) w1 := by rw [← hw1];exact (Fr.refl [] (w)).alloc _
 obtain ⟨w2,hw2⟩ := nmd ((w1).alloc (.cells #[.int .i64 0,.int .i64 0,.string ⟨#[]⟩,.slice none 0 0] 53))
 have hz2 : (w2).heap.size = w.heap.size + 1 + 1 := by rw [← hw2,World.size_alloc];try omega
 have n2 : BoxN w2 (w.heap.size + 1) 53 #[.int .i64 0,.int .i64 0,.string ⟨#[]⟩,.slice none 0 0] := by have h0 := BoxN.new (w1) 53 #[.int .i64 0,.int .i64 0,.string ⟨#[]⟩,.slice none 0 0];rw [hw2] at h0;rw [show w.heap.size + 1 = (w1).heap.size from by first | rfl | omega];exact h0
 have f2 : Fr [] (w1) w2 := by rw [← hw2];exact (Fr.refl [] (w1)).alloc _
 obtain ⟨w3,hw3⟩ := nmd ((w2).alloc (.cells #[.int .i64 0,.int .i64 0,.int .i64 0,.string ⟨#[]⟩,.slice none 0 0,.slice none 0 0] 91))
 have hz3 : (w3).heap.size = w.heap.size + 1 + 1 + 1 := by rw [← hw3,World.size_alloc];try omega
 have n3 : BoxN w3 (w.heap.size + 1 + 1) 91 #[.int .i64 0,.int .i64 0,.int .i64 0,.string ⟨#[]⟩,.slice none 0 0,.slice none 0 0] := by have h0 := BoxN.new (w2) 91 #[.int .i64 0,.int .i64 0,.int .i64 0,.string ⟨#[]⟩,.slice none 0 0,.slice none 0 0];rw [hw3] at h0;rw [show w.heap.size + 1 + 1 = (w2).heap.size from by first | rfl | omega];exact h0
 have f3 : Fr [] (w2) w3 := by rw [← hw3];exact (Fr.refl [] (w2)).alloc _
 have m2 := n2.fr f3 (by simp)
 obtain ⟨p0,p1⟩ := m2.m2
 obtain ⟨x0,x1,x2,x3,x4,x5⟩ := n3.m6
 have v0 := n3.f 0
 have v1 := n3.f 1
 have v2 := n3.f 2
 have v3 := n3.f 3
 have v4 := n3.f 4
 have v5 := n3.f 5
 have HW := Hd (And.intro hw1 (And.intro hw2 hw3))
 have HN := Hd (And.intro n3 ((f1.then f2).then f3))
 clear hw1 hw2 hw3 n1 n2 n3 m2 f1 f2 f3 hz1 hz2 hz3
 unfold encD
 go_enter Tryz.func66,Tryz.ntmps66
 go_upto_region 1 with fail
 rw [HW.out.1,HW.out.2.1,HW.out.2.2]
 go_wp2_with fail
 obtain ⟨w4,hW2⟩ := nmd (((((((((w3).setCell ⟨w.heap.size + 1 + 1,0,none⟩ (.int .i64 0)).setCell ⟨w.heap.size + 1 + 1,1,none⟩ (.int .i64 0)).setCell ⟨w.heap.size + 1 + 1,2,none⟩ (.int .i64 0)).setCell ⟨w.heap.size + 1 + 1,3,none⟩ (.string ⟨#[]⟩)).setCell ⟨w.heap.size + 1 + 1,4,none⟩ (.slice none 0 0)).setCell ⟨w.heap.size + 1 + 1,5,none⟩ (.slice none 0 0))))
 have n4 : BoxN w4 (w.heap.size + 1 + 1) 91 #[.int .i64 0,.int .i64 0,.int .i64 0,.string ⟨#[]⟩,.slice none 0 0,.slice none 0 0] := by rw [← hW2];exact ((((((HN.out.1.setAt 0 _).setAt 1 _).setAt 2 _).setAt 3 _).setAt 4 _).setAt 5 _)
 have f4 : Fr [w.heap.size + 1 + 1] (w3) w4 := by rw [← hW2];exact ((((((Fr.refl [w.heap.size + 1 + 1] (w3)).set (.inl (by simp)) _).set (.inl (by simp)) _).set (.inl (by simp)) _).set (.inl (by simp)) _).set (.inl (by simp)) _).set (.inl (by simp)) _
 rw [hW2]
 clear hW2
 obtain ⟨t0,t1,t2,t3,t4,t5⟩ := n4.m6
 refine bodyPost_ret (v := .tuple #[.agg #[.int .i64 0,.int .i64 0,.int .i64 0,.string ⟨#[]⟩,.slice none 0 0,.slice none 0 0],.int .i64 2]) (by simp [results,Tryz.results66,go_sem,t0,t1,t2,t3,t4,t5]) rfl ?_
 exact ⟨rfl,HN.out.2.trans f4 (by simp;omega)⟩
theorem Verified_none (rt : Nm) (hr32 : rt.length = 32) (k nn xx at_ : Int) (so st : ByteArray) (w : World) :
 Calls Tryz.prog 63 #[.agg #[.int .i64 k,.string so,.int .i64 nn,.int .i64 xx,.string st,.int .i64 at_,.int .i64 0,.slice none 0 0],encD rt] w (RetPost w (.tuple #[.slice none 0 0,.int .i64 1])) := by
 have hcr : (dCells rt).length = 32 := by rw [dcells_len,hr32]
 obtain ⟨w1,hw1⟩ := nmd ((w).alloc (.cells #[.int .i64 k,.string so,.int .i64 nn,.int .i64 xx,.string st,.int .i64 at_,.int .i64 0,.slice none 0 0] 39))
 have hz1 : (w1).heap.size = w.heap.size + 1 := by rw [← hw1,World.size_alloc];try omega
 have n1 : BoxN w1 (w.heap.size) 39 #[.int .i64 k,.string so,.int .i64 nn,.int .i64 xx,.string st,.int .i64 at_,.int .i64 0,.slice none 0 0] := by have h0 := BoxN.new (w) 39 #[.int .i64 k,.string so,.int .i64 nn,.int .i64 xx,.string st,.int .i64 at_,.int .i64 0,.slice none 0 0];rw [hw1] at h0;rw [show w.heap.size = (w).heap.size from by first | rfl | omega];exact h0
 have f1 : Fr [] (w) w1 := by rw [← hw1];exact (Fr.refl [] (w)).alloc _
 obtain ⟨w2,hw2⟩ := nmd ((w1).alloc (.cells (dCells rt).toArray 57))
 have hz2 : (w2).heap.size = w.heap.size + 1 + 1 := by rw [← hw2,World.size_alloc];try omega
 have n2 : (w2).rowIs (w.heap.size + 1) 57 32 (fun j => .int .u8 ((rt.getD j 0).toNat : Int)) := by have h0 := row_cells (t := 57) (w1) hcr;rw [show w.heap.size + 1 = (w1).heap.size from by first | rfl | omega,← hw2];exact h0
 have f2 : Fr [] (w1) w2 := by rw [← hw2];exact (Fr.refl [] (w1)).alloc _
 have m1 := n1.fr f2 (by simp)
 obtain ⟨x0,x1,x2,x3,x4,x5,x6,x7⟩ := m1.m8
 have HW := Hd (And.intro hw1 hw2)
 have HN := Hd (And.intro m1 (And.intro n2 (f1.then f2)))
 clear hw1 hw2 n1 n2 m1 f1 f2 hz1 hz2
 unfold encD
 go_enter Tryz.func63,Tryz.ntmps63
 go_upto_region 1 with fail
 rw [HW.out.1,HW.out.2]
 go_wp2_with fail
 go_ret2
 exact ⟨rfl,HN.out.2.2⟩
theorem Verified_many (rt : Nm) (hr32 : rt.length = 32) (k nn xx at_ : Int) (so st : ByteArray) (A : Option Addr) (c : Nat) (w : World) :
 Calls Tryz.prog 63 #[.agg #[.int .i64 k,.string so,.int .i64 nn,.int .i64 xx,.string st,.int .i64 at_,.int .i64 0,.slice A 4097 c],encD rt] w (RetPost w (.tuple #[.slice none 0 0,.int .i64 9])) := by
 have hcr : (dCells rt).length = 32 := by rw [dcells_len,hr32]
 obtain ⟨w1,hw1⟩ := nmd ((w).alloc (.cells #[.int .i64 k,.string so,.int .i64 nn,.int .i64 xx,.string st,.int .i64 at_,.int .i64 0,.slice A 4097 c] 39))
 have hz1 : (w1).heap.size = w.heap.size + 1 := by rw [← hw1,World.size_alloc];try omega
 have n1 : BoxN w1 (w.heap.size) 39 #[.int .i64 k,.string so,.int .i64 nn,.int .i64 xx,.string st,.int .i64 at_,.int .i64 0,.slice A 4097 c] := by have h0 := BoxN.new (w) 39 #[.int .i64 k,.string so,.int .i64 nn,.int .i64 xx,.string st,.int .i64 at_,.int .i64 0,.slice A 4097 c];rw [hw1] at h0;rw [show w.heap.size = (w).heap.size from by first | rfl | omega];exact h0
 have f1 : Fr [] (w) w1 := by rw [← hw1];exact (Fr.refl [] (w)).alloc _
 obtain ⟨w2,hw2⟩ := nmd ((w1).alloc (.cells (dCells rt).toArray 57))
 have hz2 : (w2).heap.size = w.heap.size + 1 + 1 := by rw [← hw2,World.size_alloc];try omega
 have n2 : (w2).rowIs (w.heap.size + 1) 57 32 (fun j => .int .u8 ((rt.getD j 0).toNat : Int)) := by have h0 := row_cells (t := 57) (w1) hcr;rw [show w.heap.size + 1 = (w1).heap.size from by first | rfl | omega,← hw2];exact h0
 have f2 : Fr [] (w1) w2 := by rw [← hw2];exact (Fr.refl [] (w1)).alloc _
 have m1 := n1.fr f2 (by simp)
 obtain ⟨x0,x1,x2,x3,x4,x5,x6,x7⟩ := m1.m8
 have HW := Hd (And.intro hw1 hw2)
 have HN := Hd (And.intro m1 (And.intro n2 (f1.then f2)))
 clear hw1 hw2 n1 n2 m1 f1 f2 hz1 hz2
 unfold encD
 go_enter Tryz.func63,Tryz.ntmps63
 go_upto_region 1 with fail
 rw [HW.out.1,HW.out.2]
 go_wp2_with fail
 go_ret2
 exact ⟨rfl,HN.out.2.2⟩
def errV (r : Int) : Int := if r = 0 then 2 else r
theorem errV_ne (r : Int) : errV r ≠ 0 := by unfold errV;split <;> omega
theorem Verified_one (rt : Nm) (hr32 : rt.length = 32) (k nn xx at_ r : Int) (so st : ByteArray) (g c : Nat) (w : World) (hg : Cs w g [.int .i64 0,.int .i64 0,.string ⟨#[]⟩,.slice none 0 0])
 (hC : ∀ W,Fr [] w W → Calls Tryz.prog 53 #[.agg #[.int .i64 k,.string so,.int .i64 nn,.int .i64 xx,.string st]] W (ChkPost W r)) :
 Calls Tryz.prog 63 #[.agg #[.int .i64 k,.string so,.int .i64 nn,.int .i64 xx,.string st,.int .i64 at_,.int .i64 0,.slice (some ⟨g,0,none⟩) 1 c],encD rt] w (RetPost w (.tuple #[.slice none 0 0,.int .i64 (errV r)])) := by
 have HG := Hd hg
 clear hg
 have hcr : (dCells rt).length = 32 := by rw [dcells_len,hr32]
 obtain ⟨w1,hw1⟩ := nmd ((w).alloc (.cells #[.int .i64 k,.string so,.int .i64 nn,.int .i64 xx,.string st,.int .i64 at_,.int .i64 0,.slice (some ⟨g,0,none⟩) 1 c] 39))
 have hz1 : (w1).heap.size = w.heap.size + 1 := by rw [← hw1,World.size_alloc];try omega
 have n1 : BoxN w1 (w.heap.size) 39 #[.int .i64 k,.string so,.int .i64 nn,.int .i64 xx,.string st,.int .i64 at_,.int .i64 0,.slice (some ⟨g,0,none⟩) 1 c] := by have h0 := BoxN.new (w) 39 #[.int .i64 k,.string so,.int .i64 nn,.int .i64 xx,.string st,.int .i64 at_,.int .i64 0,.slice (some ⟨g,0,none⟩) 1 c];rw [hw1] at h0;rw [show w.heap.size = (w).heap.size from by first | rfl | omega];exact h0
 have f1 : Fr [] (w) w1 := by rw [← hw1];exact (Fr.refl [] (w)).alloc _
 obtain ⟨w2,hw2⟩ := nmd ((w1).alloc (.cells (dCells rt).toArray 57))
 have hz2 : (w2).heap.size = w.heap.size + 1 + 1 := by rw [← hw2,World.size_alloc];try omega
 have n2 : (w2).rowIs (w.heap.size + 1) 57 32 (fun j => .int .u8 ((rt.getD j 0).toNat : Int)) := by have h0 := row_cells (t := 57) (w1) hcr;rw [show w.heap.size + 1 = (w1).heap.size from by first | rfl | omega,← hw2];exact h0
 have f2 : Fr [] (w1) w2 := by rw [← hw2];exact (Fr.refl [] (w1)).alloc _
 have m1 := n1.fr f2 (by simp)
 obtain ⟨x0,x1,x2,x3,x4,x5,x6,x7⟩ := m1.m8
 have HW := Hd (And.intro hw1 hw2)
 have HN := Hd (And.intro m1 (And.intro n2 (f1.then f2)))
 clear hw1 hw2 n1 n2 m1 f1 f2 hz1 hz2
 unfold encD
 go_enter Tryz.func63,Tryz.ntmps63
 go_upto_region 1 with fail
 rw [HW.out.1,HW.out.2]
 go_upto_region 5 with fail
 have HC := Hd (hC w2 HN.out.2.2)
 clear hC
 go_upto_region 6 with (go_at_call 53;(with_reducible refine HC.out.mono ?_);rintro e w3 ⟨rfl,hf3⟩;have HF3 := Hd (HN.out.2.2.then hf3);have m3 := HN.out.1.fr hf3 (by simp);have H3 := Hd (And.intro m3 hf3);clear hf3 m3)
 have y5 := H3.out.1.k5
 have y7 := H3.out.1.k7
 clear x0 x1 x2 x3 x4 x5 x6 x7
 rcases Int.decEq r 0 with h | h
 ·have hr : decide (r = 0) = false := decide_eq_false h
  go_wp2_with fail
  go_ret2
  exact ⟨by rw [show errV r = r from if_neg h];rfl,HF3.out⟩
 subst h
 rcases Decidable.em (at_ < 0) with h1 | h1
 ·have hr1 : decide (at_ < 0) = true := decide_eq_true h1
  go_wp2_with fail
  go_ret2
  exact ⟨rfl,HF3.out⟩
 have hr1 : decide (at_ < 0) = false := decide_eq_false h1
 rcases Decidable.em (65536 ≤ at_) with h2 | h2
 ·have hr2 : decide (65536 ≤ at_) = true := decide_eq_true h2
  go_wp2_with fail
  go_ret2
  exact ⟨rfl,HF3.out⟩
 have hr2 : decide (65536 ≤ at_) = false := decide_eq_false h2
 go_wp2_with fail
 refine wp_loop_rounds 2 ?_
 rw [rounds_succ]
 have hg3 := HG.out.fr0 HF3.out
 obtain ⟨z0,z1,z2,z3⟩ := hg3.m4
 clear hg3
 go_upto_region 14 with fail
 obtain ⟨v4,hv4⟩ := nmd ((w3).alloc (.cells #[.int .i64 0,.int .i64 0,.string ⟨#[]⟩,.slice none 0 0] 53))
 have hz4 : (v4).heap.size = w3.heap.size + 1 := by rw [← hv4,World.size_alloc];try omega
 have n4 : BoxN v4 (w3.heap.size) 53 #[.int .i64 0,.int .i64 0,.string ⟨#[]⟩,.slice none 0 0] := by have h0 := BoxN.new (w3) 53 #[.int .i64 0,.int .i64 0,.string ⟨#[]⟩,.slice none 0 0];rw [hv4] at h0;rw [show w3.heap.size = (w3).heap.size from by first | rfl | omega];exact h0
 have f4 : Fr [] (w3) v4 := by rw [← hv4];exact (Fr.refl [] (w3)).alloc _
 rw [hv4]
 have m4 := H3.out.1.fr f4 (by simp)
 have p1 := n4.k1
 have r6 := m4.k6
 have HN4 := Hd (And.intro n4 (And.intro m4 (And.intro (HF3.out.then f4) ((H3.out.2).then f4))))
 clear hv4 n4 f4 m4 z0 z1 z2 z3 y5 y7 hz4
 go_upto_region 16 with fail
 have HSS := Hd (fun (W : World) (hW : Fr [] v4 W) => (⟨(HN4.out.1.fr hW (by simp)).c 0,(HN4.out.2.1.fr hW (by simp)).c 7,(HG.out.fr0 (HN4.out.2.2.1.then hW)).2 0 _ rfl⟩ : W.cell? ⟨w3.heap.size,0,none⟩ = some (.int .i64 0) ∧ W.cell? ⟨w.heap.size,7,none⟩ = some (.slice (some ⟨g,0,none⟩) 1 c) ∧ W.cell? ⟨g,0,none⟩ = some (.int .i64 0)))
 have hwr : IntKind.i64.wrap 0 = 0 := by decide
 refine wp_region_qall (fun W => Fr [] v4 W) (by kernel_rfl) (by kernel_rfl) ((Fr.refl _ v4).drew) ?_
 repeat (
  first
  | go_big_quiet_skip
  | (go_big_quiet_want
     first
     | (go_big_quiet_op
        go_big_quiet_on)
     | (apply Exists.intro
        refine ⟨fun W hW => ?_,?_⟩
        ·(obtain ⟨a0',a7',g0'⟩ := HSS.out W hW
          go_simp
          first
          | done
          | (with_reducible exact rfl)
          | (with_reducible exact ⟨rfl,rfl⟩)
          | (fail))
        simp only [Act.put,qA,qB,qC]
        go_big_quiet_on))
  )
 refine wpQuiet_nil ?_
 intro v5 hv5
 clear HSS hwr p1 r6
 have n5 := HN4.out.1.fr hv5 (by simp)
 obtain ⟨p0,p1,p2,p3⟩ := n5.m4
 have HRT := Hd (row_range (rowIs_fr HN.out.2.1 (HN4.out.2.2.2.then hv5) (by simp)) hr32)
 have hVc := VerifyZ rt hr32 v5
 unfold encD at hVc
 have HVc := Hd hVc
 have HF5 := Hd (HN4.out.2.2.1.then hv5)
 clear n5 hVc hv5
 go_wp2_with (first
  | (refine wpList_wanted (by rfl) ?_;(with_reducible refine wp_load_mid 57 (.tmp 3) rfl (w.heap.size + 1) 0 rfl (dCells rt) (.array 32 5) HRT.out (by kernel_rfl) rfl (by rw [hcr];kernel_rfl) ?_))
  | (go_at_call 66;(with_reducible refine HVc.out.mono ?_);rintro e v6 ⟨rfl,hf6⟩;have H6 := Hd hf6;clear hf6))
 try simp only [Exit.inBlock,Exit.then]
 go_ret2
 exact ⟨rfl,(HF5.out.then H6.out).alloc _⟩
def conZ : Value := .agg #[.int .u8 0,.int .i64 0,.slice none 0 0,.slice none 0 0,.slice none 0 0,.slice none 0 0]
theorem VerifyR_bad (rt : Nm) (hr32 : rt.length = 32) (k nn xx at_ r : Int) (so st : ByteArray) (A : Option Addr) (n c : Nat) (w : World) (h0 : r ≠ 0)
 (hV : ∀ W,Fr [] w W → Calls Tryz.prog 63 #[.agg #[.int .i64 k,.string so,.int .i64 nn,.int .i64 xx,.string st,.int .i64 at_,.int .i64 0,.slice A n c],encD rt] W (RetPost W (.tuple #[.slice none 0 0,.int .i64 r]))) :
 Calls Tryz.prog 22 #[encD rt,.agg #[.int .i64 k,.string so,.int .i64 nn,.int .i64 xx,.string st,.int .i64 at_,.int .i64 0,.slice A n c]] w (RetPost w (.tuple #[conZ,.int .i64 r])) := by
 have hcr : (dCells rt).length = 32 := by rw [dcells_len,hr32]
 unfold conZ
 obtain ⟨w1,hw1⟩ := nmd ((w).alloc (.cells (dCells rt).toArray 57))
 have hz1 : (w1).heap.size = w.heap.size + 1 := by rw [← hw1,World.size_alloc];try omega
 have n1 : (w1).rowIs (w.heap.size) 57 32 (fun j => .int .u8 ((rt.getD j 0).toNat : Int)) := by have h0 := row_cells (t := 57) (w) hcr;rw [show w.heap.size = (w).heap.size from by first | rfl | omega,← hw1];exact h0
 have f1 : Fr [] (w) w1 := by rw [← hw1];exact (Fr.refl [] (w)).alloc _
 obtain ⟨w2,hw2⟩ := nmd ((w1).alloc (.cells #[.int .i64 k,.string so,.int .i64 nn,.int .i64 xx,.string st,.int .i64 at_,.int .i64 0,.slice A n c] 39))
 have hz2 : (w2).heap.size = w.heap.size + 1 + 1 := by rw [← hw2,World.size_alloc];try omega
 have n2 : BoxN w2 (w.heap.size + 1) 39 #[.int .i64 k,.string so,.int .i64 nn,.int .i64 xx,.string st,.int .i64 at_,.int .i64 0,.slice A n c] := by have h0 := BoxN.new (w1) 39 #[.int .i64 k,.string so,.int .i64 nn,.int .i64 xx,.string st,.int .i64 at_,.int .i64 0,.slice A n c];rw [hw2] at h0;rw [show w.heap.size + 1 = (w1).heap.size from by first | rfl | omega];exact h0
 have f2 : Fr [] (w1) w2 := by rw [← hw2];exact (Fr.refl [] (w1)).alloc _
 obtain ⟨w3,hw3⟩ := nmd ((w2).alloc (.cells #[.int .u8 0,.int .i64 0,.slice none 0 0,.slice none 0 0,.slice none 0 0,.slice none 0 0] 64))
 have hz3 : (w3).heap.size = w.heap.size + 1 + 1 + 1 := by rw [← hw3,World.size_alloc];try omega
 have n3 : BoxN w3 (w.heap.size + 1 + 1) 64 #[.int .u8 0,.int .i64 0,.slice none 0 0,.slice none 0 0,.slice none 0 0,.slice none 0 0] := by have h0 := BoxN.new (w2) 64 #[.int .u8 0,.int .i64 0,.slice none 0 0,.slice none 0 0,.slice none 0 0,.slice none 0 0];rw [hw3] at h0;rw [show w.heap.size + 1 + 1 = (w2).heap.size from by first | rfl | omega];exact h0
 have f3 : Fr [] (w2) w3 := by rw [← hw3];exact (Fr.refl [] (w2)).alloc _
 have m2 := n2.fr f3 (by simp)
 obtain ⟨x0,x1,x2,x3,x4,x5,x6,x7⟩ := m2.m8
 have HRT := Hd (row_range (rowIs_fr n1 (f2.then f3) (by simp)) hr32)
 have HW := Hd (And.intro hw1 (And.intro hw2 hw3))
 have hf := (f1.then f2).then f3
 have hVc := hV w3 hf
 unfold encD at hVc
 have HVc := Hd hVc
 have HN := Hd (And.intro n3 hf)
 have hr : decide (r = 0) = false := decide_eq_false h0
 clear hw1 hw2 hw3 n1 n2 n3 m2 f1 f2 f3 hz1 hz2 hz3 hf hV hVc
 unfold encD
 go_enter Tryz.func22,Tryz.ntmps22
 go_upto_region 1 with fail
 rw [HW.out.1,HW.out.2.1,HW.out.2.2]
 go_upto_region 2 with (first
  | (refine wpList_wanted (by rfl) ?_;(with_reducible refine wp_load_mid 57 (.tmp 2) rfl w.heap.size 0 rfl (dCells rt) (.array 32 5) HRT.out (by kernel_rfl) rfl (by rw [hcr];kernel_rfl) ?_))
  | (go_at_call 63;(with_reducible refine HVc.out.mono ?_);rintro e w4 ⟨rfl,hf4⟩;have H4 := Hd (And.intro (HN.out.1.fr hf4 (by simp)) (HN.out.2.then hf4));clear hf4))
 obtain ⟨y0,y1,y2,y3,y4,y5⟩ := H4.out.1.m6
 have v0 := H4.out.1.f 0
 have v1 := H4.out.1.f 1
 have v2 := H4.out.1.f 2
 have v3 := H4.out.1.f 3
 have v4 := H4.out.1.f 4
 have v5 := H4.out.1.f 5
 go_wp2_with fail
 obtain ⟨w5,hW2⟩ := nmd (((((((((w4).setCell ⟨w.heap.size + 1 + 1,0,none⟩ (.int .u8 0)).setCell ⟨w.heap.size + 1 + 1,1,none⟩ (.int .i64 0)).setCell ⟨w.heap.size + 1 + 1,2,none⟩ (.slice none 0 0)).setCell ⟨w.heap.size + 1 + 1,3,none⟩ (.slice none 0 0)).setCell ⟨w.heap.size + 1 + 1,4,none⟩ (.slice none 0 0)).setCell ⟨w.heap.size + 1 + 1,5,none⟩ (.slice none 0 0))))
 have n5 : BoxN w5 (w.heap.size + 1 + 1) 64 #[.int .u8 0,.int .i64 0,.slice none 0 0,.slice none 0 0,.slice none 0 0,.slice none 0 0] := by rw [← hW2];exact ((((((H4.out.1.setAt 0 _).setAt 1 _).setAt 2 _).setAt 3 _).setAt 4 _).setAt 5 _)
 have f5 : Fr [w.heap.size + 1 + 1] (w4) w5 := by rw [← hW2];exact ((((((Fr.refl [w.heap.size + 1 + 1] (w4)).set (.inl (by simp)) _).set (.inl (by simp)) _).set (.inl (by simp)) _).set (.inl (by simp)) _).set (.inl (by simp)) _).set (.inl (by simp)) _
 rw [hW2]
 clear hW2
 obtain ⟨t0,t1,t2,t3,t4,t5⟩ := n5.m6
 refine bodyPost_ret (v := .tuple #[.agg #[.int .u8 0,.int .i64 0,.slice none 0 0,.slice none 0 0,.slice none 0 0,.slice none 0 0],.int .i64 r]) (by simp [results,Tryz.results22,go_sem,t0,t1,t2,t3,t4,t5]) rfl ?_
 exact ⟨rfl,H4.out.2.trans f5 (by simp;omega)⟩
def rcZ : Value := .agg #[.int .i64 0,.string ⟨#[]⟩,.int .i64 0,.int .i64 0,.string ⟨#[]⟩,.int .i64 0,.int .i64 0,.slice none 0 0]
theorem Make_nil (k nn xx at_ n : Int) (so st : ByteArray) (w : World) : Calls Tryz.prog 13 #[.pointer none,.agg #[.int .i64 k,.string so,.int .i64 nn,.int .i64 xx,.string st,.int .i64 at_],.int .i64 n] w (RetPost w (.tuple #[rcZ,.int .i64 1])) := by
 unfold rcZ
 obtain ⟨w1,hw1⟩ := nmd ((w).alloc (.cells #[.int .i64 k,.string so,.int .i64 nn,.int .i64 xx,.string st,.int .i64 at_] 33))
 have hz1 : (w1).heap.size = w.heap.size + 1 := by rw [← hw1,World.size_alloc];try omega
 have n1 : BoxN w1 (w.heap.size) 33 #[.int .i64 k,.string so,.int .i64 nn,.int .i64 xx,.string st,.int .i64 at_] := by have h0 := BoxN.new (w) 33 #[.int .i64 k,.string so,.int .i64 nn,.int .i64 xx,.string st,.int .i64 at_];rw [hw1] at h0;rw [show w.heap.size = (w).heap.size from by first | rfl | omega];exact h0
 have f1 : Fr [] (w) w1 := by rw [← hw1];exact (Fr.refl [] (w)).alloc _
 obtain ⟨w2,hw2⟩ := nmd ((w1).alloc (.cells #[.int .i64 0,.string ⟨#[]⟩,.int .i64 0,.int .i64 0,.string ⟨#[]⟩,.int .i64 0,.int .i64 0,.slice none 0 0] 39))
 have hz2 : (w2).heap.size = w.heap.size + 1 + 1 := by rw [← hw2,World.size_alloc];try omega
 have n2 : BoxN w2 (w.heap.size + 1) 39 #[.int .i64 0,.string ⟨#[]⟩,.int .i64 0,.int .i64 0,.string ⟨#[]⟩,.int .i64 0,.int .i64 0,.slice none 0 0] := by have h0 := BoxN.new (w1) 39 #[.int .i64 0,.string ⟨#[]⟩,.int .i64 0,.int .i64 0,.string ⟨#[]⟩,.int .i64 0,.int .i64 0,.slice none 0 0];rw [hw2] at h0;rw [show w.heap.size + 1 = (w1).heap.size from by first | rfl | omega];exact h0
 have f2 : Fr [] (w1) w2 := by rw [← hw2];exact (Fr.refl [] (w1)).alloc _
 obtain ⟨x0,x1,x2,x3,x4,x5,x6,x7⟩ := n2.m8
 have v0 := n2.f 0
 have v1 := n2.f 1
 have v2 := n2.f 2
 have v3 := n2.f 3
 have v4 := n2.f 4
 have v5 := n2.f 5
 have v6 := n2.f 6
 have v7 := n2.f 7
 have HW := Hd (And.intro hw1 hw2)
 have HN := Hd (And.intro n2 (f1.then f2))
 clear hw1 hw2 n1 n2 f1 f2 hz1 hz2
 go_enter Tryz.func13,Tryz.ntmps13
 go_upto_region 1 with fail
 rw [HW.out.1,HW.out.2]
 go_wp2_with fail
 obtain ⟨w4,hW2⟩ := nmd (((((((((((w2).setCell ⟨w.heap.size + 1,0,none⟩ (.int .i64 0)).setCell ⟨w.heap.size + 1,1,none⟩ (.string ⟨#[]⟩)).setCell ⟨w.heap.size + 1,2,none⟩ (.int .i64 0)).setCell ⟨w.heap.size + 1,3,none⟩ (.int .i64 0)).setCell ⟨w.heap.size + 1,4,none⟩ (.string ⟨#[]⟩)).setCell ⟨w.heap.size + 1,5,none⟩ (.int .i64 0))).setCell ⟨w.heap.size + 1,6,none⟩ (.int .i64 0)).setCell ⟨w.heap.size + 1,7,none⟩ (.slice none 0 0)))
 have n4 : BoxN w4 (w.heap.size + 1) 39 #[.int .i64 0,.string ⟨#[]⟩,.int .i64 0,.int .i64 0,.string ⟨#[]⟩,.int .i64 0,.int .i64 0,.slice none 0 0] := by rw [← hW2];exact ((((((((HN.out.1.setAt 0 _).setAt 1 _).setAt 2 _).setAt 3 _).setAt 4 _).setAt 5 _).setAt 6 _).setAt 7 _)
 have f4 : Fr [w.heap.size + 1] (w2) w4 := by rw [← hW2];exact ((((((((Fr.refl [w.heap.size + 1] (w2)).set (.inl (by simp)) _).set (.inl (by simp)) _).set (.inl (by simp)) _).set (.inl (by simp)) _).set (.inl (by simp)) _).set (.inl (by simp)) _).set (.inl (by simp)) _).set (.inl (by simp)) _
 rw [hW2]
 clear hW2
 obtain ⟨t0,t1,t2,t3,t4,t5,t6,t7⟩ := n4.m8
 refine bodyPost_ret (v := .tuple #[.agg #[.int .i64 0,.string ⟨#[]⟩,.int .i64 0,.int .i64 0,.string ⟨#[]⟩,.int .i64 0,.int .i64 0,.slice none 0 0],.int .i64 1]) (by simp [results,Tryz.results13,go_sem,t0,t1,t2,t3,t4,t5,t6,t7]) rfl ?_
 exact ⟨rfl,HN.out.2.trans f4 (by simp <;> omega)⟩
theorem Grow_nil (n : Int) (w : World) : Calls Tryz.prog 25 #[.pointer none,.agg #[.int .i64 0,.string ⟨#[]⟩,.int .i64 0,.int .i64 0,.string ⟨#[]⟩,.int .i64 0,.int .i64 0,.slice none 0 0],.int .i64 n] w (RetPost w (.tuple #[rcZ,.int .i64 1])) := by
 unfold rcZ
 obtain ⟨w1,hw1⟩ := nmd ((w).alloc (.cells #[.int .i64 0,.string ⟨#[]⟩,.int .i64 0,.int .i64 0,.string ⟨#[]⟩,.int .i64 0,.int .i64 0,.slice none 0 0] 39))
 have hz1 : (w1).heap.size = w.heap.size + 1 := by rw [← hw1,World.size_alloc];try omega
 have n1 : BoxN w1 (w.heap.size) 39 #[.int .i64 0,.string ⟨#[]⟩,.int .i64 0,.int .i64 0,.string ⟨#[]⟩,.int .i64 0,.int .i64 0,.slice none 0 0] := by have h0 := BoxN.new (w) 39 #[.int .i64 0,.string ⟨#[]⟩,.int .i64 0,.int .i64 0,.string ⟨#[]⟩,.int .i64 0,.int .i64 0,.slice none 0 0];rw [hw1] at h0;rw [show w.heap.size = (w).heap.size from by first | rfl | omega];exact h0
 have f1 : Fr [] (w) w1 := by rw [← hw1];exact (Fr.refl [] (w)).alloc _
 obtain ⟨w2,hw2⟩ := nmd ((w1).alloc (.cells #[.int .i64 0,.string ⟨#[]⟩,.int .i64 0,.int .i64 0,.string ⟨#[]⟩,.int .i64 0,.int .i64 0,.slice none 0 0] 39))
 have hz2 : (w2).heap.size = w.heap.size + 1 + 1 := by rw [← hw2,World.size_alloc];try omega
 have n2 : BoxN w2 (w.heap.size + 1) 39 #[.int .i64 0,.string ⟨#[]⟩,.int .i64 0,.int .i64 0,.string ⟨#[]⟩,.int .i64 0,.int .i64 0,.slice none 0 0] := by have h0 := BoxN.new (w1) 39 #[.int .i64 0,.string ⟨#[]⟩,.int .i64 0,.int .i64 0,.string ⟨#[]⟩,.int .i64 0,.int .i64 0,.slice none 0 0];rw [hw2] at h0;rw [show w.heap.size + 1 = (w1).heap.size from by first | rfl | omega];exact h0
 have f2 : Fr [] (w1) w2 := by rw [← hw2];exact (Fr.refl [] (w1)).alloc _
 obtain ⟨x0,x1,x2,x3,x4,x5,x6,x7⟩ := n2.m8
 have v0 := n2.f 0
 have v1 := n2.f 1
 have v2 := n2.f 2
 have v3 := n2.f 3
 have v4 := n2.f 4
 have v5 := n2.f 5
 have v6 := n2.f 6
 have v7 := n2.f 7
 have HW := Hd (And.intro hw1 hw2)
 have HN := Hd (And.intro n2 (f1.then f2))
 clear hw1 hw2 n1 n2 f1 f2 hz1 hz2
 go_enter Tryz.func25,Tryz.ntmps25
 go_upto_region 1 with fail
 rw [HW.out.1,HW.out.2]
 go_wp2_with fail
 obtain ⟨w4,hW2⟩ := nmd (((((((((((w2).setCell ⟨w.heap.size + 1,0,none⟩ (.int .i64 0)).setCell ⟨w.heap.size + 1,1,none⟩ (.string ⟨#[]⟩)).setCell ⟨w.heap.size + 1,2,none⟩ (.int .i64 0)).setCell ⟨w.heap.size + 1,3,none⟩ (.int .i64 0)).setCell ⟨w.heap.size + 1,4,none⟩ (.string ⟨#[]⟩)).setCell ⟨w.heap.size + 1,5,none⟩ (.int .i64 0))).setCell ⟨w.heap.size + 1,6,none⟩ (.int .i64 0)).setCell ⟨w.heap.size + 1,7,none⟩ (.slice none 0 0)))
 have n4 : BoxN w4 (w.heap.size + 1) 39 #[.int .i64 0,.string ⟨#[]⟩,.int .i64 0,.int .i64 0,.string ⟨#[]⟩,.int .i64 0,.int .i64 0,.slice none 0 0] := by rw [← hW2];exact ((((((((HN.out.1.setAt 0 _).setAt 1 _).setAt 2 _).setAt 3 _).setAt 4 _).setAt 5 _).setAt 6 _).setAt 7 _)
 have f4 : Fr [w.heap.size + 1] (w2) w4 := by rw [← hW2];exact ((((((((Fr.refl [w.heap.size + 1] (w2)).set (.inl (by simp)) _).set (.inl (by simp)) _).set (.inl (by simp)) _).set (.inl (by simp)) _).set (.inl (by simp)) _).set (.inl (by simp)) _).set (.inl (by simp)) _).set (.inl (by simp)) _
 rw [hW2]
 clear hW2
 obtain ⟨t0,t1,t2,t3,t4,t5,t6,t7⟩ := n4.m8
 refine bodyPost_ret (v := .tuple #[.agg #[.int .i64 0,.string ⟨#[]⟩,.int .i64 0,.int .i64 0,.string ⟨#[]⟩,.int .i64 0,.int .i64 0,.slice none 0 0],.int .i64 1]) (by simp [results,Tryz.results25,go_sem,t0,t1,t2,t3,t4,t5,t6,t7]) rfl ?_
 exact ⟨rfl,HN.out.2.trans f4 (by simp <;> omega)⟩
theorem Lverify_one (rt : Nm) (hr32 : rt.length = 32) (k nn xx at_ r : Int) (so st : ByteArray) (g c : Nat) (w : World) (hg : Cs w g [.int .i64 0,.int .i64 0,.string ⟨#[]⟩,.slice none 0 0])
 (hC : ∀ W,Fr [] w W → Calls Tryz.prog 53 #[.agg #[.int .i64 k,.string so,.int .i64 nn,.int .i64 xx,.string st]] W (ChkPost W r)) :
 Calls Tryz.prog 23 #[encD rt,.agg #[.int .i64 k,.string so,.int .i64 nn,.int .i64 xx,.string st,.int .i64 at_,.int .i64 0,.slice (some ⟨g,0,none⟩) 1 c]] w (RetPost w (.tuple #[conZ,.int .i64 (errV r)])) := by
 have hcr : (dCells rt).length = 32 := by rw [dcells_len,hr32]
 unfold conZ
 obtain ⟨w1,hw1⟩ := nmd ((w).alloc (.cells (dCells rt).toArray 57))
 have hz1 : (w1).heap.size = w.heap.size + 1 := by rw [← hw1,World.size_alloc];try omega
 have n1 : (w1).rowIs (w.heap.size) 57 32 (fun j => .int .u8 ((rt.getD j 0).toNat : Int)) := by have h0 := row_cells (t := 57) (w) hcr;rw [show w.heap.size = (w).heap.size from by first | rfl | omega,← hw1];exact h0
 have f1 : Fr [] (w) w1 := by rw [← hw1];exact (Fr.refl [] (w)).alloc _
 obtain ⟨w2,hw2⟩ := nmd ((w1).alloc (.cells #[.int .i64 k,.string so,.int .i64 nn,.int .i64 xx,.string st,.int .i64 at_,.int .i64 0,.slice (some ⟨g,0,none⟩) 1 c] 39))
 have hz2 : (w2).heap.size = w.heap.size + 1 + 1 := by rw [← hw2,World.size_alloc];try omega
 have n2 : BoxN w2 (w.heap.size + 1) 39 #[.int .i64 k,.string so,.int .i64 nn,.int .i64 xx,.string st,.int .i64 at_,.int .i64 0,.slice (some ⟨g,0,none⟩) 1 c] := by have h0 := BoxN.new (w1) 39 #[.int .i64 k,.string so,.int .i64 nn,.int .i64 xx,.string st,.int .i64 at_,.int .i64 0,.slice (some ⟨g,0,none⟩) 1 c];rw [hw2] at h0;rw [show w.heap.size + 1 = (w1).heap.size from by first | rfl | omega];exact h0
 have f2 : Fr [] (w1) w2 := by rw [← hw2];exact (Fr.refl [] (w1)).alloc _
 obtain ⟨w3,hw3⟩ := nmd ((w2).alloc (.cells #[.int .u8 0,.int .i64 0,.slice none 0 0,.slice none 0 0,.slice none 0 0,.slice none 0 0] 64))
 have hz3 : (w3).heap.size = w.heap.size + 1 + 1 + 1 := by rw [← hw3,World.size_alloc];try omega
 have n3 : BoxN w3 (w.heap.size + 1 + 1) 64 #[.int .u8 0,.int .i64 0,.slice none 0 0,.slice none 0 0,.slice none 0 0,.slice none 0 0] := by have h0 := BoxN.new (w2) 64 #[.int .u8 0,.int .i64 0,.slice none 0 0,.slice none 0 0,.slice none 0 0,.slice none 0 0];rw [hw3] at h0;rw [show w.heap.size + 1 + 1 = (w2).heap.size from by first | rfl | omega];exact h0
 have f3 : Fr [] (w2) w3 := by rw [← hw3];exact (Fr.refl [] (w2)).alloc _
 obtain ⟨w4,hw4⟩ := nmd ((w3).alloc (.cells #[.int .u8 0,.int .i64 0,.slice none 0 0,.slice none 0 0,.slice none 0 0,.slice none 0 0] 64))
 have hz4 : (w4).heap.size = w.heap.size + 1 + 1 + 1 + 1 := by rw [← hw4,World.size_alloc];try omega
 have n4 : BoxN w4 (w.heap.size + 1 + 1 + 1) 64 #[.int .u8 0,.int .i64 0,.slice none 0 0,.slice none 0 0,.slice none 0 0,.slice none 0 0] := by have h0 := BoxN.new (w3) 64 #[.int .u8 0,.int .i64 0,.slice none 0 0,.slice none 0 0,.slice none 0 0,.slice none 0 0];rw [hw4] at h0;rw [show w.heap.size + 1 + 1 + 1 = (w3).heap.size from by first | rfl | omega];exact h0
 have f4 : Fr [] (w3) w4 := by rw [← hw4];exact (Fr.refl [] (w3)).alloc _
 have m2 := (n2.fr f3 (by simp)).fr f4 (by simp)
 obtain ⟨x0,x1,x2,x3,x4,x5,x6,x7⟩ := m2.m8
 have hf := ((f1.then f2).then f3).then f4
 have HW := Hd (And.intro hw1 (And.intro hw2 (And.intro hw3 hw4)))
 have HN := Hd (And.intro m2 (And.intro (rowIs_fr n1 ((f2.then f3).then f4) (by simp)) (And.intro (n3.fr f4 (by simp)) (And.intro n4 hf))))
 have HG := Hd (hg.fr0 hf)
 have HC := Hd (hC w4 hf)
 clear hw1 hw2 hw3 hw4 n1 n2 n3 n4 m2 f1 f2 f3 f4 hz1 hz2 hz3 hz4 hg hC hf
 unfold encD
 go_enter Tryz.func23,Tryz.ntmps23
 go_upto_region 2 with fail
 rw [HW.out.1,HW.out.2.1,HW.out.2.2.1,HW.out.2.2.2]
 go_upto_region 7 with (go_at_call 53;(with_reducible refine HC.out.mono ?_);rintro e v3 ⟨rfl,hf3⟩;have H3 := Hd (And.intro (HN.out.1.fr hf3 (by simp)) (And.intro (rowIs_fr HN.out.2.1 hf3 (by simp)) (And.intro (HN.out.2.2.1.fr hf3 (by simp)) (And.intro (HN.out.2.2.2.1.fr hf3 (by simp)) (And.intro (HN.out.2.2.2.2.then hf3) (HG.out.fr0 hf3))))));clear hf3)
 have y5' := H3.out.1.k5
 have y7' := H3.out.1.k7
 clear x0 x1 x2 x3 x4 x5 x6 x7
 rcases Int.decEq r 0 with h | h
 ·have hr : decide (r = 0) = false := decide_eq_false h
  have hq4 := H3.out.2.2.1
  have hq6 := H3.out.2.2.2.1
  have HQ := Hd (And.intro hq4 H3.out.2.2.2.2.1)
  obtain ⟨y0,y1,y2,y3,y4,y5⟩ := hq6.m6
  obtain ⟨z0,z1,z2,z3,z4,z5⟩ := hq4.m6
  have bq0 := hq4.f 0
  have bq1 := hq4.f 1
  have bq2 := hq4.f 2
  have bq3 := hq4.f 3
  have bq4 := hq4.f 4
  have bq5 := hq4.f 5
  clear hq4 hq6
  go_wp2_with fail
  obtain ⟨wE,hW2⟩ := nmd (((((((((v3).setCell ⟨w.heap.size + 1 + 1,0,none⟩ (.int .u8 0)).setCell ⟨w.heap.size + 1 + 1,1,none⟩ (.int .i64 0)).setCell ⟨w.heap.size + 1 + 1,2,none⟩ (.slice none 0 0)).setCell ⟨w.heap.size + 1 + 1,3,none⟩ (.slice none 0 0)).setCell ⟨w.heap.size + 1 + 1,4,none⟩ (.slice none 0 0)).setCell ⟨w.heap.size + 1 + 1,5,none⟩ (.slice none 0 0))))
  have nE : BoxN wE (w.heap.size + 1 + 1) 64 #[.int .u8 0,.int .i64 0,.slice none 0 0,.slice none 0 0,.slice none 0 0,.slice none 0 0] := by rw [← hW2];exact ((((((HQ.out.1.setAt 0 _).setAt 1 _).setAt 2 _).setAt 3 _).setAt 4 _).setAt 5 _)
  have fE : Fr [w.heap.size + 1 + 1] (v3) wE := by rw [← hW2];exact ((((((Fr.refl [w.heap.size + 1 + 1] (v3)).set (.inl (by simp)) _).set (.inl (by simp)) _).set (.inl (by simp)) _).set (.inl (by simp)) _).set (.inl (by simp)) _).set (.inl (by simp)) _
  rw [hW2]
  clear hW2
  obtain ⟨t0,t1,t2,t3,t4,t5⟩ := nE.m6
  try simp only [Exit.inBlock,Exit.then]
  refine bodyPost_ret (v := .tuple #[.agg #[.int .u8 0,.int .i64 0,.slice none 0 0,.slice none 0 0,.slice none 0 0,.slice none 0 0],.int .i64 (r)]) (by simp [results,Tryz.results23,go_sem,t0,t1,t2,t3,t4,t5]) rfl ?_
  exact ⟨by rw [show errV r = r from if_neg h],HQ.out.2.trans fE (by simp <;> omega)⟩
 subst h
 rcases Decidable.em (at_ < 0) with h1 | h1
 ·have hr1 : decide (at_ < 0) = true := decide_eq_true h1
  have hq4 := H3.out.2.2.1
  have hq6 := H3.out.2.2.2.1
  have HQ := Hd (And.intro hq4 H3.out.2.2.2.2.1)
  obtain ⟨y0,y1,y2,y3,y4,y5⟩ := hq6.m6
  obtain ⟨z0,z1,z2,z3,z4,z5⟩ := hq4.m6
  have bq0 := hq4.f 0
  have bq1 := hq4.f 1
  have bq2 := hq4.f 2
  have bq3 := hq4.f 3
  have bq4 := hq4.f 4
  have bq5 := hq4.f 5
  clear hq4 hq6
  go_wp2_with fail
  obtain ⟨wE,hW2⟩ := nmd (((((((((v3).setCell ⟨w.heap.size + 1 + 1,0,none⟩ (.int .u8 0)).setCell ⟨w.heap.size + 1 + 1,1,none⟩ (.int .i64 0)).setCell ⟨w.heap.size + 1 + 1,2,none⟩ (.slice none 0 0)).setCell ⟨w.heap.size + 1 + 1,3,none⟩ (.slice none 0 0)).setCell ⟨w.heap.size + 1 + 1,4,none⟩ (.slice none 0 0)).setCell ⟨w.heap.size + 1 + 1,5,none⟩ (.slice none 0 0))))
  have nE : BoxN wE (w.heap.size + 1 + 1) 64 #[.int .u8 0,.int .i64 0,.slice none 0 0,.slice none 0 0,.slice none 0 0,.slice none 0 0] := by rw [← hW2];exact ((((((HQ.out.1.setAt 0 _).setAt 1 _).setAt 2 _).setAt 3 _).setAt 4 _).setAt 5 _)
  have fE : Fr [w.heap.size + 1 + 1] (v3) wE := by rw [← hW2];exact ((((((Fr.refl [w.heap.size + 1 + 1] (v3)).set (.inl (by simp)) _).set (.inl (by simp)) _).set (.inl (by simp)) _).set (.inl (by simp)) _).set (.inl (by simp)) _).set (.inl (by simp)) _
  rw [hW2]
  clear hW2
  obtain ⟨t0,t1,t2,t3,t4,t5⟩ := nE.m6
  try simp only [Exit.inBlock,Exit.then]
  refine bodyPost_ret (v := .tuple #[.agg #[.int .u8 0,.int .i64 0,.slice none 0 0,.slice none 0 0,.slice none 0 0,.slice none 0 0],.int .i64 (2)]) (by simp [results,Tryz.results23,go_sem,t0,t1,t2,t3,t4,t5]) rfl ?_
  exact ⟨rfl,HQ.out.2.trans fE (by simp <;> omega)⟩
 have hr1 : decide (at_ < 0) = false := decide_eq_false h1
 rcases Decidable.em (65536 ≤ at_) with h2 | h2
 ·have hr2 : decide (65536 ≤ at_) = true := decide_eq_true h2
  have hq4 := H3.out.2.2.1
  have hq6 := H3.out.2.2.2.1
  have HQ := Hd (And.intro hq4 H3.out.2.2.2.2.1)
  obtain ⟨y0,y1,y2,y3,y4,y5⟩ := hq6.m6
  obtain ⟨z0,z1,z2,z3,z4,z5⟩ := hq4.m6
  have bq0 := hq4.f 0
  have bq1 := hq4.f 1
  have bq2 := hq4.f 2
  have bq3 := hq4.f 3
  have bq4 := hq4.f 4
  have bq5 := hq4.f 5
  clear hq4 hq6
  go_wp2_with fail
  obtain ⟨wE,hW2⟩ := nmd (((((((((v3).setCell ⟨w.heap.size + 1 + 1,0,none⟩ (.int .u8 0)).setCell ⟨w.heap.size + 1 + 1,1,none⟩ (.int .i64 0)).setCell ⟨w.heap.size + 1 + 1,2,none⟩ (.slice none 0 0)).setCell ⟨w.heap.size + 1 + 1,3,none⟩ (.slice none 0 0)).setCell ⟨w.heap.size + 1 + 1,4,none⟩ (.slice none 0 0)).setCell ⟨w.heap.size + 1 + 1,5,none⟩ (.slice none 0 0))))
  have nE : BoxN wE (w.heap.size + 1 + 1) 64 #[.int .u8 0,.int .i64 0,.slice none 0 0,.slice none 0 0,.slice none 0 0,.slice none 0 0] := by rw [← hW2];exact ((((((HQ.out.1.setAt 0 _).setAt 1 _).setAt 2 _).setAt 3 _).setAt 4 _).setAt 5 _)
  have fE : Fr [w.heap.size + 1 + 1] (v3) wE := by rw [← hW2];exact ((((((Fr.refl [w.heap.size + 1 + 1] (v3)).set (.inl (by simp)) _).set (.inl (by simp)) _).set (.inl (by simp)) _).set (.inl (by simp)) _).set (.inl (by simp)) _).set (.inl (by simp)) _
  rw [hW2]
  clear hW2
  obtain ⟨t0,t1,t2,t3,t4,t5⟩ := nE.m6
  try simp only [Exit.inBlock,Exit.then]
  refine bodyPost_ret (v := .tuple #[.agg #[.int .u8 0,.int .i64 0,.slice none 0 0,.slice none 0 0,.slice none 0 0,.slice none 0 0],.int .i64 (2)]) (by simp [results,Tryz.results23,go_sem,t0,t1,t2,t3,t4,t5]) rfl ?_
  exact ⟨rfl,HQ.out.2.trans fE (by simp <;> omega)⟩
 have hr2 : decide (65536 ≤ at_) = false := decide_eq_false h2
 go_upto_region 12 with fail
 obtain ⟨v4,hv4⟩ := nmd (v3.alloc (.cells #[.int .u8 0,.int .i64 0,.slice none 0 0,.slice none 0 0,.slice none 0 0,.slice none 0 0] 64))
 have f4 : Fr [] v3 v4 := by rw [← hv4];exact (Fr.refl [] v3).alloc _
 rw [hv4]
 have H4 := Hd (And.intro (H3.out.1.fr f4 (by simp)) (And.intro (rowIs_fr H3.out.2.1 f4 (by simp)) (And.intro (H3.out.2.2.1.fr f4 (by simp)) (And.intro (H3.out.2.2.2.1.fr f4 (by simp)) (And.intro (H3.out.2.2.2.2.1.then f4) (H3.out.2.2.2.2.2.fr0 f4))))))
 have x6 := H4.out.1.k6
 have x7 := H4.out.1.k7
 have hg4 := H4.out.2.2.2.2.2
 obtain ⟨z0,z1,z2,z3⟩ := hg4.m4
 clear hv4 f4 hg4 y5' y7'
 go_wp2_with fail
 refine wp_loop_rounds 2 ?_
 rw [rounds_succ]
 go_upto_region 17 with fail
 obtain ⟨v5,hv5⟩ := nmd ((v4).alloc (.cells #[.int .i64 0,.int .i64 0,.string ⟨#[]⟩,.slice none 0 0] 53))
 have hz5 : (v5).heap.size = v4.heap.size + 1 := by rw [← hv5,World.size_alloc];try omega
 have n5 : BoxN v5 (v4.heap.size) 53 #[.int .i64 0,.int .i64 0,.string ⟨#[]⟩,.slice none 0 0] := by have h0 := BoxN.new (v4) 53 #[.int .i64 0,.int .i64 0,.string ⟨#[]⟩,.slice none 0 0];rw [hv5] at h0;rw [show v4.heap.size = (v4).heap.size from by first | rfl | omega];exact h0
 have f5 : Fr [] (v4) v5 := by rw [← hv5];exact (Fr.refl [] (v4)).alloc _
 rw [hv5]
 have H5 := Hd (And.intro (H4.out.1.fr f5 (by simp)) (And.intro (rowIs_fr H4.out.2.1 f5 (by simp)) (And.intro (H4.out.2.2.1.fr f5 (by simp)) (And.intro (H4.out.2.2.2.1.fr f5 (by simp)) (And.intro (H4.out.2.2.2.2.1.then f5) (And.intro (H4.out.2.2.2.2.2.fr0 f5) n5))))))
 have p1 := n5.k1
 have r6 := H5.out.1.k6
 clear hv5 n5 f5 hz5 x6 x7 z0 z1 z2 z3
 go_upto_region 19 with fail
 have HSS := Hd (fun (W : World) (hW : Fr [] v5 W) => (⟨(H5.out.2.2.2.2.2.2.fr hW (by simp)).c 0,(H5.out.1.fr hW (by simp)).c 7,(H5.out.2.2.2.2.2.1.fr0 hW).2 0 _ rfl⟩ : W.cell? ⟨v4.heap.size,0,none⟩ = some (.int .i64 0) ∧ W.cell? ⟨w.heap.size + 1,7,none⟩ = some (.slice (some ⟨g,0,none⟩) 1 c) ∧ W.cell? ⟨g,0,none⟩ = some (.int .i64 0)))
 have hwr : IntKind.i64.wrap 0 = 0 := by decide
 refine wp_region_qall (fun W => Fr [] v5 W) (by kernel_rfl) (by kernel_rfl) ((Fr.refl _ v5).drew) ?_
 repeat (
  first
  | go_big_quiet_skip
  | (go_big_quiet_want
     first
     | (go_big_quiet_op
        go_big_quiet_on)
     | (apply Exists.intro
        refine ⟨fun W hW => ?_,?_⟩
        ·(obtain ⟨a0',a7',g0'⟩ := HSS.out W hW
          go_simp
          first
          | done
          | (with_reducible exact rfl)
          | (with_reducible exact ⟨rfl,rfl⟩)
          | (fail))
        simp only [Act.put,qA,qB,qC]
        go_big_quiet_on))
  )
 refine wpQuiet_nil ?_
 intro v6 hv6
 clear HSS hwr p1 r6
 have H6 := Hd (And.intro (H5.out.2.2.1.fr hv6 (by simp)) (And.intro (H5.out.2.2.2.1.fr hv6 (by simp)) (H5.out.2.2.2.2.1.then hv6)))
 have n6 := H5.out.2.2.2.2.2.2.fr hv6 (by simp)
 obtain ⟨p0,p1,p2,p3⟩ := n6.m4
 have HRT := Hd (row_range (rowIs_fr H5.out.2.1 hv6 (by simp)) hr32)
 have hVc := VerifyZ rt hr32 v6
 unfold encD at hVc
 have HVc := Hd hVc
 clear n6 hVc hv6
 go_upto_region 22 with (first
  | (refine wpList_wanted (by rfl) ?_;(with_reducible refine wp_load_mid 57 (.tmp 2) rfl w.heap.size 0 rfl (dCells rt) (.array 32 5) HRT.out (by kernel_rfl) rfl (by rw [hcr];kernel_rfl) ?_))
  | (go_at_call 66;(with_reducible refine HVc.out.mono ?_);rintro e v7 ⟨rfl,hf7⟩;have H7 := Hd (And.intro (H6.out.1.fr hf7 (by simp)) (And.intro (H6.out.2.1.fr hf7 (by simp)) (H6.out.2.2.then hf7)));clear hf7))
 obtain ⟨v8,hv8⟩ := nmd (v7.alloc (.cells #[.int .i64 0,.int .i64 0,.int .i64 0,.string ⟨#[]⟩,.slice none 0 0,.slice none 0 0] 91))
 have f8 : Fr [] v7 v8 := by rw [← hv8];exact (Fr.refl [] v7).alloc _
 rw [hv8]
 have H8 := Hd (And.intro (H7.out.1.fr f8 (by simp)) (And.intro (H7.out.2.1.fr f8 (by simp)) (H7.out.2.2.then f8)))
 clear hv8 f8 p0 p1 p2 p3
 have hq4 := H8.out.1
 have hq6 := H8.out.2.1
 have HQ := Hd (And.intro hq4 H8.out.2.2)
 obtain ⟨y0,y1,y2,y3,y4,y5⟩ := hq6.m6
 obtain ⟨z0,z1,z2,z3,z4,z5⟩ := hq4.m6
 have bq0 := hq4.f 0
 have bq1 := hq4.f 1
 have bq2 := hq4.f 2
 have bq3 := hq4.f 3
 have bq4 := hq4.f 4
 have bq5 := hq4.f 5
 clear hq4 hq6
 go_wp2_with fail
 obtain ⟨wE,hW2⟩ := nmd (((((((((v8).setCell ⟨w.heap.size + 1 + 1,0,none⟩ (.int .u8 0)).setCell ⟨w.heap.size + 1 + 1,1,none⟩ (.int .i64 0)).setCell ⟨w.heap.size + 1 + 1,2,none⟩ (.slice none 0 0)).setCell ⟨w.heap.size + 1 + 1,3,none⟩ (.slice none 0 0)).setCell ⟨w.heap.size + 1 + 1,4,none⟩ (.slice none 0 0)).setCell ⟨w.heap.size + 1 + 1,5,none⟩ (.slice none 0 0))))
 have nE : BoxN wE (w.heap.size + 1 + 1) 64 #[.int .u8 0,.int .i64 0,.slice none 0 0,.slice none 0 0,.slice none 0 0,.slice none 0 0] := by rw [← hW2];exact ((((((HQ.out.1.setAt 0 _).setAt 1 _).setAt 2 _).setAt 3 _).setAt 4 _).setAt 5 _)
 have fE : Fr [w.heap.size + 1 + 1] (v8) wE := by rw [← hW2];exact ((((((Fr.refl [w.heap.size + 1 + 1] (v8)).set (.inl (by simp)) _).set (.inl (by simp)) _).set (.inl (by simp)) _).set (.inl (by simp)) _).set (.inl (by simp)) _).set (.inl (by simp)) _
 rw [hW2]
 clear hW2
 obtain ⟨t0,t1,t2,t3,t4,t5⟩ := nE.m6
 try simp only [Exit.inBlock,Exit.then]
 refine bodyPost_ret (v := .tuple #[.agg #[.int .u8 0,.int .i64 0,.slice none 0 0,.slice none 0 0,.slice none 0 0,.slice none 0 0],.int .i64 (2)]) (by simp [results,Tryz.results23,go_sem,t0,t1,t2,t3,t4,t5]) rfl ?_
 exact ⟨rfl,HQ.out.2.trans fE (by simp <;> omega)⟩
end Go.Proofs.YtlpmiimgacfmkaaGreatDoor
