/- The law ReceiptErrors. -/
import Derived.Test.YtlpmiimgacfmkaaGreatDoorQEr1
import Derived.Test.YtlpmiimgacfmkaaGreatDoorQKn2
import Derived.Test.YtlpmiimgacfmkaaGreatDoorQLin2
set_option linter.all false
namespace Go.Proofs.YtlpmiimgacfmkaaGreatDoor
open Go.RowKit
set_option maxRecDepth 100000
set_option maxHeartbeats 4000000
theorem Errors_any (rt:Nm) (hr32:rt.length=32) (k nn xx at_ n:Int) (so st:ByteArray) (w:World) (hok:Ok w) :
 Calls Tryz.prog 6 #[.agg #[.int .i64 k,.string so,.int .i64 nn,.int .i64 xx,.string st,.int .i64 at_],.int .i64 n,encD rt] w (RetPost w (.bool true)):=by
 have hcr:(dCells rt).length=32:=by rw[dcells_len,hr32]
 obtain⟨w1,hw1⟩:=nmd ((w).alloc (.cells #[.int .i64 k,.string so,.int .i64 nn,.int .i64 xx,.string st,.int .i64 at_] 33))
 have hz1:(w1).heap.size=w.heap.size+1:=by rw[←hw1,World.size_alloc];try omega
 have n1:BoxN w1 (w.heap.size) 33 #[.int .i64 k,.string so,.int .i64 nn,.int .i64 xx,.string st,.int .i64 at_]:=by have h0:=BoxN.new (w) 33 #[.int .i64 k,.string so,.int .i64 nn,.int .i64 xx,.string st,.int .i64 at_];rw[hw1] at h0;rw[show w.heap.size=(w).heap.size from by first | rfl | omega];exact h0
 have f1:Fr [] (w) w1:=by rw[←hw1];exact (Fr.refl [] (w)).alloc _
 obtain⟨w2,hw2⟩:=nmd ((w1).alloc (.cells (dCells rt).toArray 57))
 have hz2:(w2).heap.size=w.heap.size+1+1:=by rw[←hw2,World.size_alloc];try omega
 have n2:(w2).rowIs (w.heap.size+1) 57 32 (fun j=>.int .u8 ((rt.getD j 0).toNat:Int)):=by have h0:=row_cells (t:=57) (w1) hcr;rw[show w.heap.size+1=(w1).heap.size from by first | rfl | omega,←hw2];exact h0
 have f2:Fr [] (w1) w2:=by rw[←hw2];exact (Fr.refl [] (w1)).alloc _
 have HW:=Hd (And.intro hw1 hw2)
 have HN:=Hd (And.intro (n1.fr f2 (by simp)) (And.intro n2 (f1.then f2)))
 have HOK:=Hd hok
 clear hw1 hw2 n1 n2 f1 f2 hz1 hz2 hok
 unfold encD
 go_enter Tryz.func6,Tryz.ntmps6
 go_upto_region 1 with fail
 rw[HW.out.1,HW.out.2]
 have HSS:=Hd (fun (W:World) (hW:Fr [] w2 W)=>(⟨(HN.out.1.fr hW (by simp)).c 1,(HN.out.1.fr hW (by simp)).c 4⟩:W.cell? ⟨w.heap.size,1,none⟩=some (.string so)∧W.cell? ⟨w.heap.size,4,none⟩=some (.string st)))
 have b1:(0:Int)≤min (so.size:Int) 80:=by omega
 have b2:min (so.size:Int) 80≤(so.size:Int):=by omega
 have b3:(0:Int)≤min (st.size:Int) 80:=by omega
 have b4:min (st.size:Int) 80≤(st.size:Int):=by omega
 refine wp_region_store (fun W=>Fr [] w2 W) 20 23 (by kernel_rfl) ((Fr.refl _ w2).drew) ?_ (by decide)
 refine headSI_take (i:=0) (v:=?_) (by kernel_rfl) head_done rfl (by decide) (by decide) (by kernel_rfl) (fun _ _ _ h=>h) (Or.inl ⟨by rfl,?_⟩) ?_
 rotate_left
 ·intro W hW
  obtain⟨c1,c4⟩:=HSS.out W hW
  go_simp
  try with_reducible rfl
 try simp only[Act.put,qA,qB,qC,qD,qE,qF]
 refine headSI_take (i:=1) (v:=?_) (by kernel_rfl) head_done rfl (by decide) (by decide) (by kernel_rfl) (fun _ _ _ h=>h) (Or.inl ⟨by rfl,?_⟩) ?_
 rotate_left
 ·intro W hW
  obtain⟨c1,c4⟩:=HSS.out W hW
  go_simp
  try with_reducible rfl
 try simp only[Act.put,qA,qB,qC,qD,qE,qF]
 refine headSI_take (i:=2) (v:=?_) (by kernel_rfl) head_done rfl (by decide) (by decide) (by kernel_rfl) (fun _ _ _ h=>h) (Or.inl ⟨by rfl,?_⟩) ?_
 rotate_left
 ·intro W hW
  obtain⟨c1,c4⟩:=HSS.out W hW
  go_simp
  try with_reducible rfl
 try simp only[Act.put,qA,qB,qC,qD,qE,qF]
 refine headSI_take (i:=3) (v:=?_) (by kernel_rfl) head_done rfl (by decide) (by decide) (by kernel_rfl) (fun _ _ _ h=>h) (Or.inl ⟨by rfl,?_⟩) ?_
 rotate_left
 ·intro W hW
  obtain⟨c1,c4⟩:=HSS.out W hW
  go_simp
  try with_reducible rfl
 try simp only[Act.put,qA,qB,qC,qD,qE,qF]
 refine headSI_take (i:=4) (v:=?_) (by kernel_rfl) head_done rfl (by decide) (by decide) (by kernel_rfl) (fun _ _ _ h=>h) (Or.inl ⟨by rfl,?_⟩) ?_
 rotate_left
 ·intro W hW
  obtain⟨c1,c4⟩:=HSS.out W hW
  go_simp
  try with_reducible rfl
 try simp only[Act.put,qA,qB,qC,qD,qE,qF]
 refine headSI_take (i:=5) (v:=?_) (by kernel_rfl) head_done rfl (by decide) (by decide) (by kernel_rfl) (fun _ _ _ h=>h) (Or.inl ⟨by rfl,?_⟩) ?_
 rotate_left
 ·intro W hW
  obtain⟨c1,c4⟩:=HSS.out W hW
  go_simp
  try with_reducible rfl
 try simp only[Act.put,qA,qB,qC,qD,qE,qF]
 refine headSI_take (i:=6) (v:=?_) (by kernel_rfl) head_done rfl (by decide) (by decide) (by kernel_rfl) (fun _ _ _ h=>h) (Or.inl ⟨by rfl,?_⟩) ?_
 rotate_left
 ·intro W hW
  obtain⟨c1,c4⟩:=HSS.out W hW
  go_simp
  try with_reducible rfl
 try simp only[Act.put,qA,qB,qC,qD,qE,qF]
 refine headSI_take (i:=7) (v:=?_) (by kernel_rfl) head_done rfl (by decide) (by decide) (by kernel_rfl) (fun _ _ _ h=>h) (Or.inl ⟨by rfl,?_⟩) ?_
 rotate_left
 ·intro W hW
  obtain⟨c1,c4⟩:=HSS.out W hW
  go_simp
  try with_reducible rfl
 try simp only[Act.put,qA,qB,qC,qD,qE,qF]
 refine headSI_take (i:=8) (v:=?_) (by kernel_rfl) head_done rfl (by decide) (by decide) (by kernel_rfl) (fun _ _ _ h=>h) (Or.inl ⟨by rfl,?_⟩) ?_
 rotate_left
 ·intro W hW
  obtain⟨c1,c4⟩:=HSS.out W hW
  go_simp
  try with_reducible rfl
 try simp only[Act.put,qA,qB,qC,qD,qE,qF]
 refine headSI_take (i:=9) (v:=?_) (by kernel_rfl) head_done rfl (by decide) (by decide) (by kernel_rfl) (fun _ _ _ h=>h) (Or.inl ⟨by rfl,?_⟩) ?_
 rotate_left
 ·intro W hW
  obtain⟨c1,c4⟩:=HSS.out W hW
  go_simp
  try with_reducible rfl
 try simp only[Act.put,qA,qB,qC,qD,qE,qF]
 refine headSI_take (i:=10) (v:=?_) (by kernel_rfl) head_done rfl (by decide) (by decide) (by kernel_rfl) (fun _ _ _ h=>h) (Or.inl ⟨by rfl,?_⟩) ?_
 rotate_left
 ·intro W hW
  obtain⟨c1,c4⟩:=HSS.out W hW
  go_simp
  try with_reducible rfl
 try simp only[Act.put,qA,qB,qC,qD,qE,qF]
 refine headSI_take (i:=11) (v:=?_) (by kernel_rfl) head_done rfl (by decide) (by decide) (by kernel_rfl) (fun _ _ _ h=>h) (Or.inl ⟨by rfl,?_⟩) ?_
 rotate_left
 ·intro W hW
  obtain⟨c1,c4⟩:=HSS.out W hW
  go_simp
  try with_reducible rfl
 try simp only[Act.put,qA,qB,qC,qD,qE,qF]
 refine headSI_take (i:=12) (v:=?_) (by kernel_rfl) head_done rfl (by decide) (by decide) (by kernel_rfl) (fun _ _ _ h=>h) (Or.inl ⟨by rfl,?_⟩) ?_
 rotate_left
 ·intro W hW
  obtain⟨c1,c4⟩:=HSS.out W hW
  go_simp
  try with_reducible rfl
 try simp only[Act.put,qA,qB,qC,qD,qE,qF]
 refine headSI_take (i:=13) (v:=?_) (by kernel_rfl) head_done rfl (by decide) (by decide) (by kernel_rfl) (fun _ _ _ h=>h) (Or.inl ⟨by rfl,?_⟩) ?_
 rotate_left
 ·intro W hW
  obtain⟨c1,c4⟩:=HSS.out W hW
  go_simp
  try with_reducible rfl
 try simp only[Act.put,qA,qB,qC,qD,qE,qF]
 refine headSI_take (i:=14) (v:=?_) (by kernel_rfl) head_done rfl (by decide) (by decide) (by kernel_rfl) (fun _ _ _ h=>h) (Or.inl ⟨by rfl,?_⟩) ?_
 rotate_left
 ·intro W hW
  obtain⟨c1,c4⟩:=HSS.out W hW
  go_simp
  try with_reducible rfl
 try simp only[Act.put,qA,qB,qC,qD,qE,qF]
 refine headSI_pure (i:=15) (v:=?_) (by kernel_rfl) head_done rfl (by decide) (by decide) (by kernel_rfl) (fun _ _ _ h=>h) (Or.inl ⟨by rfl,?_⟩) ?_
 rotate_left
 ·intro W hW
  go_simp
  try with_reducible rfl
 try simp only[Act.put,qA,qB,qC,qD,qE,qF]
 refine headSI_pure (i:=16) (v:=?_) (by kernel_rfl) head_done rfl (by decide) (by decide) (by kernel_rfl) (fun _ _ _ h=>h) (Or.inl ⟨by rfl,?_⟩) ?_
 rotate_left
 ·intro W hW
  go_simp
  try with_reducible rfl
 try simp only[Act.put,qA,qB,qC,qD,qE,qF]
 refine headSI_pure (i:=17) (v:=?_) (by kernel_rfl) head_done rfl (by decide) (by decide) (by kernel_rfl) (fun _ _ _ h=>h) (Or.inl ⟨by rfl,?_⟩) ?_
 rotate_left
 ·intro W hW
  go_simp
  try with_reducible rfl
 try simp only[Act.put,qA,qB,qC,qD,qE,qF]
 refine headSI_pure (i:=18) (v:=?_) (by kernel_rfl) head_done rfl (by decide) (by decide) (by kernel_rfl) (fun _ _ _ h=>h) (Or.inl ⟨by rfl,?_⟩) ?_
 rotate_left
 ·intro W hW
  go_simp
  try with_reducible rfl
 try simp only[Act.put,qA,qB,qC,qD,qE,qF]
 refine headSI_pure (i:=19) (v:=?_) (by kernel_rfl) head_done rfl (by decide) (by decide) (by kernel_rfl) (fun _ _ _ h=>h) (Or.inl ⟨by rfl,?_⟩) ?_
 rotate_left
 ·intro W hW
  go_simp
  try with_reducible rfl
 try simp only[Act.put,qA,qB,qC,qD,qE,qF]
 have x1:=HN.out.1.k1
 have x1f:=HN.out.1.f 1
 refine headSI_store (by kernel_rfl) (by decide) rfl (fun K hK=>?_)
 rw[if_pos (by rfl)]
 go_simp
 obtain⟨s1,hs1⟩:=nmd (so.extract 0 (min (so.size:Int) 80).toNat)
 obtain⟨t1,ht1⟩:=nmd (st.extract 0 (min (st.size:Int) 80).toNat)
 have hl1:s1.size≤80:=by rw[←hs1,ByteArray.size_extract];omega
 have hl2:t1.size≤80:=by rw[←ht1,ByteArray.size_extract];omega
 rw[hs1,ht1]
 obtain⟨w3,hw3⟩:=nmd ((w2.setCell ⟨w.heap.size,1,none⟩ (.string s1)).drew)
 have n3:BoxN w3 w.heap.size 33 #[.int .i64 k,.string s1,.int .i64 nn,.int .i64 xx,.string st,.int .i64 at_]:=by rw[←hw3];exact (HN.out.1.setAt 1 _).drew
 have f3:Fr [w.heap.size] w2 w3:=by rw[←hw3];exact ((Fr.refl [w.heap.size] w2).set (.inl (by simp)) _).drew
 rw[hw3]
 refine hK _ _ ?_
 clear hK K hw3
 try simp only[Act.put,qA,qB,qC,qD,qE,qF]
 refine headSI_pure (i:=21) (v:=?_) (by kernel_rfl) head_done rfl (by decide) (by decide) (by kernel_rfl) (fun _ _ _ h=>h) (Or.inl ⟨by rfl,?_⟩) ?_
 rotate_left
 ·intro W hW
  go_simp
  try with_reducible rfl
 try simp only[Act.put,qA,qB,qC,qD,qE,qF]
 refine headSI_pure (i:=22) (v:=?_) (by kernel_rfl) head_done rfl (by decide) (by decide) (by kernel_rfl) (fun _ _ _ h=>h) (Or.inl ⟨by rfl,?_⟩) ?_
 rotate_left
 ·intro W hW
  go_simp
  try with_reducible rfl
 try simp only[Act.put,qA,qB,qC,qD,qE,qF]
 refine headSI_done ⟨by kernel_rfl,?_⟩
 simp only[List.drop_succ_cons,List.drop_zero]
 have y4:=n3.k4
 have y4f:=n3.f 4
 have HN3:=Hd (And.intro n3 f3)
 have HLL:=Hd (And.intro hl1 hl2)
 clear n3 f3 x1 x1f hs1 ht1 hl1 hl2 b1 b2 b3 b4 HSS
 go_upto_region 2 with fail
 obtain⟨w4,hw4⟩:=nmd (w3.setCell ⟨w.heap.size,4,none⟩ (.string t1))
 have n4:BoxN w4 w.heap.size 33 #[.int .i64 k,.string s1,.int .i64 nn,.int .i64 xx,.string t1,.int .i64 at_]:=by rw[←hw4];exact HN3.out.1.setAt 4 _
 have f4:Fr [w.heap.size] w3 w4:=by rw[←hw4];exact (Fr.refl [w.heap.size] w3).set (.inl (by simp)) _
 rw[hw4]
 have f24:=HN3.out.2.then f4
 have HB4:=Hd (And.intro n4 (And.intro (rowIs_fr HN.out.2.1 f24 (by simp)) (show Fr [] w w4 from HN.out.2.2.trans f24 (by simp))))
 clear n4 f4 f24 hw4 HN3 HN y4 y4f
 have HCk:Hid (∀ W,Fr [] w4 W→Calls Tryz.prog 53 #[.agg #[.int .i64 k,.string s1,.int .i64 nn,.int .i64 xx,.string t1]] W (ChkPost W (checkO ⟨k,s1.data.toList,nn,xx,t1.data.toList⟩))):=Hd fun W hW=>by
  have h:=Check_any ⟨k,s1.data.toList,nn,xx,t1.data.toList⟩ W (HOK.out.fr0 (HB4.out.2.2.then hW)) (by show s1.data.toList.length≤_;rw[Array.length_toList];exact Nat.le_trans HLL.out.1 (by omega)) (by show t1.data.toList.length≤_;rw[Array.length_toList];exact Nat.le_trans HLL.out.2 (by omega))
  unfold encO at h
  simp only[encN_eq] at h
  exact h
 obtain⟨r,hr⟩:=nmd (checkO ⟨k,s1.data.toList,nn,xx,t1.data.toList⟩)
 rw[hr] at HCk
 clear hr
 have hmk:=Make_nil k nn xx at_ n s1 t1 w4
 have hgr:=fun W=>Grow_nil n W
 unfold rcZ at hmk hgr
 have HGR:=Hd hgr
 have HMK:=Hd hmk
 clear hmk hgr
 have hb:=HB4.out.1.fr (Fr.refl [] w4) (by simp)
 obtain⟨p0,p1,p2,p3,p4,p5⟩:=hb.m6
 have HRT:=Hd (row_range (rowIs_fr HB4.out.2.1 (Fr.refl [] w4) (by simp)) hr32)
 clear hb
 have HCn1:=Hd (HMK.out)
 go_upto_region 3 with (first
  | (refine wpList_wanted (by rfl) ?_;(with_reducible refine wp_load_mid 57 (.tmp 5) rfl (w.heap.size+1) 0 rfl (dCells rt) (.array 32 5) HRT.out (by kernel_rfl) rfl (by rw[hcr];kernel_rfl) ?_))
  | (go_at_call 13;(with_reducible refine HCn1.out.mono ?_);rintro e u1 ⟨rfl,hf⟩;have HU1:=Hd hf;clear hf))
 obtain⟨w5,hX⟩:=nmd (u1.alloc (.cells #[.int .i64 0,.string ⟨#[]⟩,.int .i64 0,.int .i64 0,.string ⟨#[]⟩,.int .i64 0,.int .i64 0,.slice none 0 0] 39))
 have hf:Fr [] u1 w5:=by rw[←hX];exact (Fr.refl [] u1).alloc _
 rw[hX]
 have HF5:Hid (Fr [] w4 w5):=Hd (HU1.out.then hf)
 clear hX hf
 clear p0 p1 p2 p3 p4 p5 HRT
 have HCn2:=Hd (HGR.out w5)
 go_upto_region 4 with (first
  | (refine wpList_wanted (by rfl) ?_;(with_reducible refine wp_load_mid 57 (.tmp 5) rfl (w.heap.size+1) 0 rfl (dCells rt) (.array 32 5) HRT.out (by kernel_rfl) rfl (by rw[hcr];kernel_rfl) ?_))
  | (go_at_call 25;(with_reducible refine HCn2.out.mono ?_);rintro e u2 ⟨rfl,hf⟩;have HU2:=Hd hf;clear hf))
 obtain⟨w6,hX⟩:=nmd (u2.alloc (.cells #[.int .i64 0,.string ⟨#[]⟩,.int .i64 0,.int .i64 0,.string ⟨#[]⟩,.int .i64 0,.int .i64 0,.slice none 0 0] 39))
 have hf:Fr [] u2 w6:=by rw[←hX];exact (Fr.refl [] u2).alloc _
 rw[hX]
 have HF6:Hid (Fr [] w4 w6):=Hd ((HF5.out.then HU2.out).then hf)
 clear hX hf
 have hb:=HB4.out.1.fr HF6.out (by simp)
 obtain⟨p0,p1,p2,p3,p4,p5⟩:=hb.m6
 have HRT:=Hd (row_range (rowIs_fr HB4.out.2.1 HF6.out (by simp)) hr32)
 clear hb
 have hv1:=VerifyR_bad rt hr32 k nn xx at_ 1 s1 t1 none 0 0 w6 (by decide) (fun W _=>Verified_none rt hr32 k nn xx at_ s1 t1 W)
 unfold encD conZ at hv1
 have HCn3:=Hd (hv1)
 go_upto_region 5 with (first
  | (refine wpList_wanted (by rfl) ?_;(with_reducible refine wp_load_mid 57 (.tmp 5) rfl (w.heap.size+1) 0 rfl (dCells rt) (.array 32 5) HRT.out (by kernel_rfl) rfl (by rw[hcr];kernel_rfl) ?_))
  | (go_at_call 22;(with_reducible refine HCn3.out.mono ?_);rintro e u3 ⟨rfl,hf⟩;have HU3:=Hd hf;clear hf))
 obtain⟨w7,hX⟩:=nmd (u3.alloc (.cells #[.int .u8 0,.int .i64 0,.slice none 0 0,.slice none 0 0,.slice none 0 0,.slice none 0 0] 64))
 have hf:Fr [] u3 w7:=by rw[←hX];exact (Fr.refl [] u3).alloc _
 rw[hX]
 have HF7:Hid (Fr [] w4 w7):=Hd ((HF6.out.then HU3.out).then hf)
 clear hX hf hv1
 clear p0 p1 p2 p3 p4 p5 HRT
 have hb:=HB4.out.1.fr HF7.out (by simp)
 obtain⟨p0,p1,p2,p3,p4,p5⟩:=hb.m6
 have HRT:=Hd (row_range (rowIs_fr HB4.out.2.1 HF7.out (by simp)) hr32)
 clear hb
 go_upto_region 6 with fail
 clear p0 p1 p2 p3 p4 p5 HRT
 obtain⟨w8,h8⟩:=nmd ((w7).alloc (.cells #[.int .i64 0,.int .i64 0,.string ⟨#[]⟩,.slice none 0 0] 53))
 have z8:(w8).heap.size=w7.heap.size+1:=by rw[←h8,World.size_alloc];try omega
 have n8:BoxN w8 (w7.heap.size) 53 #[.int .i64 0,.int .i64 0,.string ⟨#[]⟩,.slice none 0 0]:=by have h0:=BoxN.new (w7) 53 #[.int .i64 0,.int .i64 0,.string ⟨#[]⟩,.slice none 0 0];rw[h8] at h0;rw[show w7.heap.size=(w7).heap.size from by first | rfl | omega];exact h0
 have f8:Fr [] (w7) w8:=by rw[←h8];exact (Fr.refl [] (w7)).alloc _
 rw[h8]
 obtain⟨w9,h9⟩:=nmd ((w8).alloc (.cells #[.int .i64 k,.string s1,.int .i64 nn,.int .i64 xx,.string t1,.int .i64 at_,.int .i64 0,.slice (some ⟨w7.heap.size,0,none⟩) 1 1] 39))
 have z9:(w9).heap.size=w8.heap.size+1:=by rw[←h9,World.size_alloc];try omega
 have n9:BoxN w9 (w8.heap.size) 39 #[.int .i64 k,.string s1,.int .i64 nn,.int .i64 xx,.string t1,.int .i64 at_,.int .i64 0,.slice (some ⟨w7.heap.size,0,none⟩) 1 1]:=by have h0:=BoxN.new (w8) 39 #[.int .i64 k,.string s1,.int .i64 nn,.int .i64 xx,.string t1,.int .i64 at_,.int .i64 0,.slice (some ⟨w7.heap.size,0,none⟩) 1 1];rw[h9] at h0;rw[show w8.heap.size=(w8).heap.size from by first | rfl | omega];exact h0
 have f9:Fr [] (w8) w9:=by rw[←h9];exact (Fr.refl [] (w8)).alloc _
 rw[h9]
 try rw[←z8]
 obtain⟨g,hg⟩:=nmd (w7.heap.size)
 obtain⟨RX,hRX⟩:=nmd (w8.heap.size)
 have hgl:=n8.lt
 have hB9:w4.heap.size≤RX:=by have h1:=HF7.out.size;have h2:=f8.size;omega
 rw[hg] at n8 n9 hgl z8 ⊢
 rw[hRX] at n9 hgl z8 z9 ⊢
 have H9:=Hd (And.intro n9 (And.intro (Cs.of_box (n8.fr f9 (by simp))) (And.intro ((HF7.out.then f8).then f9) (And.intro (show g≠RX by omega) hB9))))
 clear n8 n9 f8 f9 z8 z9 h8 h9 hg hRX hgl hB9
 have hb:=HB4.out.1.fr H9.out.2.2.1 (by simp)
 obtain⟨p0,p1,p2,p3,p4,p5⟩:=hb.m6
 have HRT:=Hd (row_range (rowIs_fr HB4.out.2.1 H9.out.2.2.1 (by simp)) hr32)
 clear hb
 obtain⟨q0,q1,q2,q3,q4,q5,q6,q7⟩:=H9.out.1.m8
 have hv2:=VerifyR_bad rt hr32 k nn xx at_ (errV r) s1 t1 (some ⟨g,0,none⟩) 1 1 w9 (errV_ne r) (fun W hW=>Verified_one rt hr32 k nn xx at_ r s1 t1 g 1 W (H9.out.2.1.fr0 hW) (fun W2 hW2=>HCk.out W2 ((H9.out.2.2.1.then hW).then hW2)))
 unfold encD conZ at hv2
 have HCn4:=Hd (hv2)
 go_upto_region 7 with (first
  | (refine wpList_wanted (by rfl) ?_;(with_reducible refine wp_load_mid 57 (.tmp 5) rfl (w.heap.size+1) 0 rfl (dCells rt) (.array 32 5) HRT.out (by kernel_rfl) rfl (by rw[hcr];kernel_rfl) ?_))
  | (go_at_call 22;(with_reducible refine HCn4.out.mono ?_);rintro e u4 ⟨rfl,hf⟩;have HU4:=Hd hf;clear hf))
 obtain⟨wA,hX⟩:=nmd (u4.alloc (.cells #[.int .u8 0,.int .i64 0,.slice none 0 0,.slice none 0 0,.slice none 0 0,.slice none 0 0] 64))
 have hf:Fr [] u4 wA:=by rw[←hX];exact (Fr.refl [] u4).alloc _
 rw[hX]
 have HFA:Hid (Fr [] w9 wA):=Hd (HU4.out.then hf)
 clear hX hf hv2 q0 q1 q2 q3 q4 q5 q6 q7
 clear p0 p1 p2 p3 p4 p5 HRT
 have hb:=HB4.out.1.fr (H9.out.2.2.1.then HFA.out) (by simp)
 obtain⟨p0,p1,p2,p3,p4,p5⟩:=hb.m6
 have HRT:=Hd (row_range (rowIs_fr HB4.out.2.1 (H9.out.2.2.1.then HFA.out) (by simp)) hr32)
 clear hb
 have q0:(wA).cell? ⟨RX,0,none⟩=some (.int .i64 k):=(H9.out.1.fr HFA.out (by simp)).c 0
 have q1:(wA).cell? ⟨RX,1,none⟩=some (.string s1):=(H9.out.1.fr HFA.out (by simp)).c 1
 have q2:(wA).cell? ⟨RX,2,none⟩=some (.int .i64 nn):=(H9.out.1.fr HFA.out (by simp)).c 2
 have q3:(wA).cell? ⟨RX,3,none⟩=some (.int .i64 xx):=(H9.out.1.fr HFA.out (by simp)).c 3
 have q4:(wA).cell? ⟨RX,4,none⟩=some (.string t1):=(H9.out.1.fr HFA.out (by simp)).c 4
 have q5:(wA).cell? ⟨RX,5,none⟩=some (.int .i64 at_):=(H9.out.1.fr HFA.out (by simp)).c 5
 have q6:(wA).cell? ⟨RX,6,none⟩=some (.int .i64 0):=(H9.out.1.fr HFA.out (by simp)).c 6
 have q7:(wA).cell? ⟨RX,7,none⟩=some (.slice (some ⟨g,0,none⟩) 1 1):=(H9.out.1.fr HFA.out (by simp)).c 7
 have hv3:=Lverify_one rt hr32 k nn xx at_ r s1 t1 g 1 wA (H9.out.2.1.fr0 HFA.out) (fun W2 hW2=>HCk.out W2 ((H9.out.2.2.1.then HFA.out).then hW2))
 unfold encD conZ at hv3
 have HCn5:=Hd (hv3)
 go_upto_region 8 with (first
  | (refine wpList_wanted (by rfl) ?_;(with_reducible refine wp_load_mid 57 (.tmp 5) rfl (w.heap.size+1) 0 rfl (dCells rt) (.array 32 5) HRT.out (by kernel_rfl) rfl (by rw[hcr];kernel_rfl) ?_))
  | (go_at_call 23;(with_reducible refine HCn5.out.mono ?_);rintro e u5 ⟨rfl,hf⟩;have HU5:=Hd hf;clear hf))
 obtain⟨wB,hX⟩:=nmd (u5.alloc (.cells #[.int .u8 0,.int .i64 0,.slice none 0 0,.slice none 0 0,.slice none 0 0,.slice none 0 0] 64))
 have hf:Fr [] u5 wB:=by rw[←hX];exact (Fr.refl [] u5).alloc _
 rw[hX]
 have HFB:Hid (Fr [] w9 wB):=Hd ((HFA.out.then HU5.out).then hf)
 clear hX hf hv3 q0 q1 q2 q3 q4 q5 q6 q7
 clear p0 p1 p2 p3 p4 p5 HRT
 have hRB:=H9.out.1.fr HFB.out (by simp)
 obtain⟨wC,A,hmk,hfC⟩:∃ wC A,(Instr.makeSlice 37 (.int .i64 4097) (.int .i64 4097)).run Tryz.prog wB=.ok (.slice A 4097 4097) wC∧Fr [] wB wC:=by
  obtain⟨i,hi,hz,hs,hb⟩:=info_proof
  have h:=run_makeSlice (P:=Tryz.prog) (w:=wB) 37 53 i _ Tryz.underlying37 hi hz .i64 .i64 4097 4097 (by omega) (by omega) (by rw[hs];decide) (by rw[hb];decide) (by omega)
  exact⟨_,_,h,(Fr.refl [] wB).alloc _⟩
 have hRC:=hRB.fr hfC (by simp)
 have q7:=hRC.k7
 have q7f:=hRC.f 7
 have HRC:=Hd (And.intro hRC (HFB.out.then hfC))
 clear hRB hRC hfC
 go_upto_region 9 with fail
 obtain⟨wD,hwD⟩:=nmd (wC.setCell ⟨RX,7,none⟩ (.slice A 4097 4097))
 have nD:BoxN wD RX 39 #[.int .i64 k,.string s1,.int .i64 nn,.int .i64 xx,.string t1,.int .i64 at_,.int .i64 0,.slice A 4097 4097]:=by rw[←hwD];exact HRC.out.1.setAt 7 _
 have fD:Fr [] w4 wD:=by rw[←hwD];exact (H9.out.2.2.1.then HRC.out.2).set (.inr H9.out.2.2.2.2) _
 rw[hwD]
 clear hwD q7 q7f hmk
 have HFD:=Hd fD
 have hb:=HB4.out.1.fr fD (by simp)
 obtain⟨p0,p1,p2,p3,p4,p5⟩:=hb.m6
 have HRT:=Hd (row_range (rowIs_fr HB4.out.2.1 fD (by simp)) hr32)
 clear hb
 obtain⟨q0,q1,q2,q3,q4,q5,q6,q7⟩:=nD.m8
 have hv4:=VerifyR_bad rt hr32 k nn xx at_ 9 s1 t1 A 4097 4097 wD (by decide) (fun W _=>Verified_many rt hr32 k nn xx at_ s1 t1 A 4097 W)
 unfold encD conZ at hv4
 have HCn6:=Hd (hv4)
 go_upto_region 10 with (first
  | (refine wpList_wanted (by rfl) ?_;(with_reducible refine wp_load_mid 57 (.tmp 5) rfl (w.heap.size+1) 0 rfl (dCells rt) (.array 32 5) HRT.out (by kernel_rfl) rfl (by rw[hcr];kernel_rfl) ?_))
  | (go_at_call 22;(with_reducible refine HCn6.out.mono ?_);rintro e u6 ⟨rfl,hf⟩;have HU6:=Hd hf;clear hf))
 obtain⟨wE,hX⟩:=nmd (u6.alloc (.cells #[.int .u8 0,.int .i64 0,.slice none 0 0,.slice none 0 0,.slice none 0 0,.slice none 0 0] 64))
 have hf:Fr [] u6 wE:=by rw[←hX];exact (Fr.refl [] u6).alloc _
 rw[hX]
 have HFE:Hid (Fr [] w wE):=Hd (HB4.out.2.2.then ((HFD.out.then HU6.out).then hf))
 clear hX hf hv4 q0 q1 q2 q3 q4 q5 q6 q7 nD fD
 clear p0 p1 p2 p3 p4 p5 HRT
 have HKN:=Hd (Known_any wE (HOK.out.fr0 HFE.out))
 go_wp2_with (go_at_call 11;(with_reducible refine HKN.out.mono ?_);rintro e wF ⟨rfl,hf⟩;have HFF:=Hd (HFE.out.then hf);clear hf)
 go_ret
 exact⟨rfl,HFF.out⟩
end Go.Proofs.YtlpmiimgacfmkaaGreatDoor
