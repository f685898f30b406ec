/- receipt: Verify of the receipt of two proofs. -/
import Derived.Test.YtlpmiimgacfmkaaGreatDoorMWi
import Derived.Test.YtlpmiimgacfmkaaGreatDoorMPf3
import Derived.Test.YtlpmiimgacfmkaaGreatDoorMOpm
set_option linter.all false
namespace Go.Proofs.YtlpmiimgacfmkaaGreatDoor
open Go.Proofs.Tryz
open Go.RowKit
set_option maxRecDepth 100000
set_option maxHeartbeats 4000000
structure VIs (w0 W:World) (CB ni nk ic kc:Nat) (IA KA:Option Addr) (xs ks:List Value):Prop where
 box:BoxN W CB 64 #[.int .u8 122,.int .i64 1,.slice IA ni ic,.slice KA nk kc,.slice none 0 0,.slice none 0 0]
 io:Own W 3 1 IA ni ic xs
 ko:Own W 89 4 KA nk kc ks
 d:CB ∉ blk IA/\CB ∉ blk KA/\w0.heap.size<=CB
 e:∀ k∈blk IA,k ∉ blk KA
 hi:∀ k∈blk IA,w0.heap.size<=k
 hk:∀ k∈blk KA,w0.heap.size<=k
 fr:Fr [] w0 W
section
variable {w0 X Y Z:World} {CB ni nk ic kc ni' nk' ic' kc':Nat} {IA KA IA' KA':Option Addr} {xs ks xs' ks':List Value}
theorem VIs.fr0 (h:VIs w0 X CB ni nk ic kc IA KA xs ks) (hf:Fr [] X Y):VIs w0 Y CB ni nk ic kc IA KA xs ks :=
 ⟨h.box.fr hf (by simp),h.io.fr hf (by simp),h.ko.fr hf (by simp),h.d,h.e,h.hi,h.hk,h.fr.then hf⟩
theorem VIs.putI (h:VIs w0 X CB ni nk ic kc IA KA xs ks) (f1:Fr (blk IA) X Y) (ho:Own Y 3 1 IA' ni' ic' xs') (hA:∀ k∈blk IA',k∈blk IA \/ X.heap.size<=k) (f2:Fr [CB] Y Z)
 (hb:BoxN Z CB 64 #[.int .u8 122,.int .i64 1,.slice IA' ni' ic',.slice KA nk kc,.slice none 0 0,.slice none 0 0]):VIs w0 Z CB ni' nk ic' kc IA' KA xs' ks:=by
 have hc:=h.box.lt
 have hCI:CB ∉ blk IA':=fun hm=>by
  rcases hA CB hm with h1 | h1
  ·exact h.d.1 h1
  ·omega
 refine⟨hb,ho.fr f2 (by intro k hk;simp only[lms];rintro rfl;exact hCI hk),(h.ko.fr f1 (fun k hk hm=>h.e k hm hk)).fr f2 (by intro k hk;simp only[lms];rintro rfl;exact h.d.2.1 hk),⟨hCI,h.d.2.1,h.d.2.2⟩,fun k hk hm=>?_,fun k hk=>?_,h.hk,?_⟩
 ·rcases hA k hk with h1 | h1
  ·exact h.e k h1 hm
  ·have:=h.ko.lt k hm;omega
 ·rcases hA k hk with h1 | h1
  ·exact h.hi k h1
  ·exact Nat.le_trans h.fr.size h1
 ·exact (h.fr.trans f1 (fun k hk=>.inr (h.hi k hk))).trans f2 (fun k hk=>.inr (by simp at hk;subst hk;exact h.d.2.2))
theorem VIs.putK (h:VIs w0 X CB ni nk ic kc IA KA xs ks) (f1:Fr (blk KA) X Y) (ho:Own Y 89 4 KA' nk' kc' ks') (hA:∀ k∈blk KA',k∈blk KA \/ X.heap.size<=k) (f2:Fr [CB] Y Z)
 (hb:BoxN Z CB 64 #[.int .u8 122,.int .i64 1,.slice IA ni ic,.slice KA' nk' kc',.slice none 0 0,.slice none 0 0]):VIs w0 Z CB ni nk' ic kc' IA KA' xs ks':=by
 have hc:=h.box.lt
 have hCK:CB ∉ blk KA':=fun hm=>by
  rcases hA CB hm with h1 | h1
  ·exact h.d.2.1 h1
  ·omega
 refine⟨hb,(h.io.fr f1 (fun k hk hm=>h.e k hk hm)).fr f2 (by intro k hk;simp only[lms];rintro rfl;exact h.d.1 hk),ho.fr f2 (by intro k hk;simp only[lms];rintro rfl;exact hCK hk),⟨h.d.1,hCK,h.d.2.2⟩,fun k hk hm=>?_,h.hi,fun k hk=>?_,?_⟩
 ·rcases hA k hm with h1 | h1
  ·exact h.e k hk h1
  ·have:=h.io.lt k hk;omega
 ·rcases hA k hk with h1 | h1
  ·exact h.hk k h1
  ·exact Nat.le_trans h.fr.size h1
 ·exact (h.fr.trans f1 (fun k hk=>.inr (h.hk k hk))).trans f2 (fun k hk=>.inr (by simp at hk;subst hk;exact h.d.2.2))
end
theorem VerifyR_any (rt:Nm) (hr32:rt.length=32) (g pc c0 c1:Nat) (A0 A1:Option Addr) (s0 s1:ByteArray) (w:World) (hok:Ok w) (hg:Cs w g [.int .i64 0,.int .i64 3,.string s0,.slice A0 2 c0,.int .i64 1,.int .i64 3,.string s1,.slice A1 2 c1])
 (hV0:∀ W,Fr [] w W->Calls prog 66 #[encD rt,.agg #[.int .i64 0,.int .i64 3,.string s0,.slice A0 2 c0]] W (Ver0 W))
 (hV1:∀ W,Fr [] w W->Calls prog 66 #[encD rt,.agg #[.int .i64 1,.int .i64 3,.string s1,.slice A1 2 c1]] W (Ver1 W)) :
 Calls prog 22 #[encD rt,rcpt (.slice (some ⟨g,0,none⟩) 2 pc)] w fun e w'=>∃ I ic K kc lb lc,e=.returned (.tuple #[.agg #[.int .u8 122,.int .i64 1,.slice I 2 ic,.slice K 2 kc,.slice (some ⟨lb,0,none⟩) 1 lc,.slice none 0 0],.int .i64 0])/\Cs w' lb lnkC/\Fr [] w w':=by
 have hcr:(dCells rt).length=32:=by rw[dcells_len,hr32]
 obtain⟨w1,hw1⟩:=nmd ((w).alloc (.cells (dCells rt).toArray 57));have hz1:(w1).heap.size=w.heap.size+1:=by rw[<-hw1,wsA];try omega
 have n1:(w1).rowIs (w.heap.size) 57 32 (fun j=>.int .u8 ((rt.getD j 0).toNat:Int)):=by have h0:=row_cells (t:=57) (w) hcr;rw[show w.heap.size=(w).heap.size from by first | rfl | omega,<-hw1];exact h0
 have f1:Fr [] (w) w1:=by rw[<-hw1];exact (Fq [] (w)).alloc _
 obtain⟨w2,hw2,hz2,n2,f2⟩:=bxz w1 #[.int .i64 16,.string ⟨#[]⟩,.int .i64 2,.int .i64 0,.string ⟨#[]⟩,.int .i64 1,.int .i64 3,.slice (some ⟨g,0,none⟩) 2 pc] 39 (w.heap.size+1);obtain⟨w3,hw3,hz3,n3,f3⟩:=bxz w2 #[.int .u8 0,.int .i64 0,.slice none 0 0,.slice none 0 0,.slice none 0 0,.slice none 0 0] 64 (w.heap.size+1+1);have m2:=n2.fr f3 (by simp);obtain⟨x0,x1,x2,x3,x4,x5,x6,x7⟩:=m2.m8;have HRT:=Hd (row_range (rowIs_fr n1 (f2.then f3) (by simp)) hr32);have HW:=Hd (An hw1 (An hw2 hw3));have hf:=(f1.then f2).then f3;have hVc:=Verified_any rt hr32 g pc c0 c1 A0 A1 s0 s1 w3 (hok.fr0 hf) (hg.fr0 hf) (fun W hW=>hV0 W (hf.then hW)) (fun W hW=>hV1 W (hf.then hW));unfold encD rcpt at hVc;have HVc:=Hd hVc;have HN:=Hd (An m2 (An n3 hf));have HG:=Hd (hg.fr0 hf);clear hw1 hw2 hw3 n1 n2 n3 m2 f1 f2 f3 hz1 hz2 hz3 hf hV0 hV1 hVc hok hg;unfold encD rcpt
 go_enter func22,ntmps22
 go_upto_region 1 with fail
 rw[HW.out.1,HW.out.2.1,HW.out.2.2]
 go_upto_region 2 with (first
  | (refine wpList_wanted (by rfl) ?_;(with_reducible refine wp_load_mid 57 (.tmp 2) rfl w.heap.size 0 rfl (dCells rt) (.array 32 5) HRT.out (by kernel_rfl) rfl (by rw[hcr];kernel_rfl) ?_))
  | (go_at_call 63;(with_reducible refine HVc.out.mono ?_);rintro e w4 ⟨L,lc,RA,rc,cb0,rd,ca1,rc1,cb1,rd1,rfl,hL,hb0,ha1,hb1,hf4⟩;have H4:=Hd (An (HN.out.1.fr hf4 (by simp)) (An (HN.out.2.1.fr hf4 (by simp)) (An (HN.out.2.2.then hf4) (An (HG.out.fr0 hf4) (An hL (An hb0 (An ha1 hb1)))))));clear hf4 hL hb0 ha1 hb1))
 clear x0 x1 x2 x3 x4 x5 x6 x7
 go_upto_region 5 with fail
 have HL4:Hid (∀ W,Fr [] w4 W->Calls prog 64 #[.agg #[.int .i64 2,.int .i64 0,.int .i64 2,.string ⟨#[]⟩,.slice (some ⟨ca1,0,none⟩) 1 rc1,.slice (some ⟨cb1,0,none⟩) 1 rd1],.agg #[.int .i64 16,.string ⟨#[]⟩,.int .i64 2,.int .i64 0,.string ⟨#[]⟩]] W (RetPost W (.tuple #[.agg #[.int .i64 16,.string ⟨#[]⟩,.int .i64 2,.int .i64 0,.string ⟨#[]⟩,.string ⟨#[121,122]⟩,.bool false],.bool true]))):=Hd (fun W hW=>LastW_any ca1 rc1 cb1 rd1 W (H4.out.2.2.2.2.2.2.2.fr0 hW));have HSS:=Hd (fun (W:World) (hW:Fr [] w4 W)=>(⟨(H4.out.2.2.2.2.1.fr0 hW).2 6 _ rfl,(H4.out.2.2.2.2.1.fr0 hW).2 7 _ rfl,(H4.out.2.2.2.2.1.fr0 hW).2 8 _ rfl,(H4.out.2.2.2.2.1.fr0 hW).2 9 _ rfl,(H4.out.2.2.2.2.1.fr0 hW).2 10 _ rfl,(H4.out.2.2.2.2.1.fr0 hW).2 11 _ rfl,(H4.out.1.fr hW (by simp)).c 0,(H4.out.1.fr hW (by simp)).c 1,(H4.out.1.fr hW (by simp)).c 2,(H4.out.1.fr hW (by simp)).c 3,(H4.out.1.fr hW (by simp)).c 4⟩:W.cell? ⟨L,6,none⟩=some (.int .i64 2)/\W.cell? ⟨L,7,none⟩=some (.int .i64 0)/\W.cell? ⟨L,8,none⟩=some (.int .i64 2)/\W.cell? ⟨L,9,none⟩=some (.string ⟨#[]⟩)/\W.cell? ⟨L,10,none⟩=some (.slice (some ⟨ca1,0,none⟩) 1 rc1)/\W.cell? ⟨L,11,none⟩=some (.slice (some ⟨cb1,0,none⟩) 1 rd1)/\W.cell? ⟨w.heap.size+1,0,none⟩=some (.int .i64 16)/\W.cell? ⟨w.heap.size+1,1,none⟩=some (.string ⟨#[]⟩)/\W.cell? ⟨w.heap.size+1,2,none⟩=some (.int .i64 2)/\W.cell? ⟨w.heap.size+1,3,none⟩=some (.int .i64 0)/\W.cell? ⟨w.heap.size+1,4,none⟩=some (.string ⟨#[]⟩)));have hC:Fr [] w4 w4.drew:=(Fq _ w4).drew;refine wp_then_via (a:=?va) (fun a' W'=>∃ D,a'={ tmps:=(((((((((((((Act.tmps ?va).setIfInBounds 30 (.slice (some ⟨L,0,none⟩) 2 lc)).setIfInBounds 31 (.int .i64 1)).setIfInBounds 32 (.pointer (some ⟨L,6,none⟩))).setIfInBounds 33 (.agg #[.int .i64 2,.int .i64 0,.int .i64 2,.string ⟨#[]⟩,.slice (some ⟨ca1,0,none⟩) 1 rc1,.slice (some ⟨cb1,0,none⟩) 1 rd1])).setIfInBounds 34 (.pointer (some ⟨w.heap.size+1,0,none⟩))).setIfInBounds 35 (.pointer (some ⟨w.heap.size+1,0,none⟩))).setIfInBounds 36 (.agg #[.int .i64 16,.string ⟨#[]⟩,.int .i64 2,.int .i64 0,.string ⟨#[]⟩])).setIfInBounds 37 (.tuple #[.agg #[.int .i64 16,.string ⟨#[]⟩,.int .i64 2,.int .i64 0,.string ⟨#[]⟩,.string ⟨#[121,122]⟩,.bool false],.bool true])).setIfInBounds 29 (.tuple #[.agg #[.int .i64 16,.string ⟨#[]⟩,.int .i64 2,.int .i64 0,.string ⟨#[]⟩,.string ⟨#[121,122]⟩,.bool false],.bool true])).setIfInBounds 38 (.agg #[.int .i64 16,.string ⟨#[]⟩,.int .i64 2,.int .i64 0,.string ⟨#[]⟩,.string ⟨#[121,122]⟩,.bool false])).setIfInBounds 39 (.bool true)).setIfInBounds 9 (.pointer (some ⟨D,0,none⟩))).setIfInBounds 10 (.bool true),defers:=[] }/\BoxN W' D 95 #[.int .i64 16,.string ⟨#[]⟩,.int .i64 2,.int .i64 0,.string ⟨#[]⟩,.string ⟨#[121,122]⟩,.bool false]/\Fr [] w4 W'/\w4.heap.size<=D) ?_ ?_
 ·refine wp_region_head (fun W=>Fr [] w4 W) 13 (by kernel_rfl) ?_ (by decide)
  show headJ 0 _ _ _ _ _ _ _ _ _ _ _
  iterate 7
   refine hdJ (v:=?_) rfl (Or.inl ⟨by rfl,?_⟩) ?_
   rotate_left
   ·intro W hW;obtain⟨a6,a7,a8,a9,a10,a11,b0,b1,b2,b3,b4⟩:=HSS.out W hW;go_simp;try with_reducible rfl
   try simp only[Act.put,qA,qB,qC,qD,qE,qF]
  refine headI_two (i:=7) (j:=11) (by kernel_rfl) (by decide) (by decide) rfl rfl (fun K hK=>?_) (fun K hK=>?_)
  ·rw[if_pos (by rfl)]
   go_simp
   go_at_call 64
   (with_reducible refine (HL4.out _ hC).mono ?_);rintro e E1 ⟨rfl,hf⟩;have hC1:=hC.then hf;refine hK _ _ hC1 ?_;clear hK K hC hf
   try simp only[Act.put,qA,qB,qC,qD,qE,qF]
   have hC:=hC1
   show headJ 8 _ _ _ _ _ _ _ _ _ _ _
   iterate 3
    refine hdJ (v:=?_) rfl (Or.inl ⟨by rfl,?_⟩) ?_
    rotate_left
    ·intro W hW;obtain⟨a6,a7,a8,a9,a10,a11,b0,b1,b2,b3,b4⟩:=HSS.out W hW;go_simp;try with_reducible rfl
    try simp only[Act.put,qA,qB,qC,qD,qE,qF]
   refine hO (i:=11) rfl fun K hK=>?_;go_simp
   obtain⟨E2,hE2⟩:=nmd (E1.alloc (.cells #[.int .i64 0,.string ⟨#[]⟩,.int .i64 0,.int .i64 0,.string ⟨#[]⟩,.string ⟨#[]⟩,.bool false] 95));have n2:BoxN E2 E1.heap.size 95 #[.int .i64 0,.string ⟨#[]⟩,.int .i64 0,.int .i64 0,.string ⟨#[]⟩,.string ⟨#[]⟩,.bool false]:=by rw[<-hE2];exact BoxN.new E1 _ _
   have hC2:Fr [] w4 E2:=by rw[<-hE2];exact hC1.alloc _
   have hD:w4.heap.size<=E1.heap.size:=hC1.size;rw[hE2];refine hK _ _ hC2 ?_;clear hK K hE2 hC hC1
   try simp only[Act.put,qA,qB,qC,qD,qE,qF]
   have hC:=hC2;obtain⟨u0,u1,u2,u3,u4,u5,u6⟩:=n2.m7;have v0:=n2.f 0;have v1:=n2.f 1;have v2:=n2.f 2;have v3:=n2.f 3;have v4:=n2.f 4;have v5:=n2.f 5;have v6:=n2.f 6;refine hO (i:=12) rfl fun K hK=>?_;go_simp
   obtain⟨E3,hW2⟩:=nmd ((((((((((E2).setCell ⟨E1.heap.size,0,none⟩ (.int .i64 16)).setCell ⟨E1.heap.size,1,none⟩ (.string ⟨#[]⟩)).setCell ⟨E1.heap.size,2,none⟩ (.int .i64 2)).setCell ⟨E1.heap.size,3,none⟩ (.int .i64 0)).setCell ⟨E1.heap.size,4,none⟩ (.string ⟨#[]⟩)).setCell ⟨E1.heap.size,5,none⟩ (.string ⟨#[121,122]⟩))).setCell ⟨E1.heap.size,6,none⟩ (.bool false)));have n3:BoxN E3 (E1.heap.size) 95 #[.int .i64 16,.string ⟨#[]⟩,.int .i64 2,.int .i64 0,.string ⟨#[]⟩,.string ⟨#[121,122]⟩,.bool false]:=by rw[<-hW2];exact (((((((n2.setAt 0 _).setAt 1 _).setAt 2 _).setAt 3 _).setAt 4 _).setAt 5 _).setAt 6 _)
   have f3:Fr [E1.heap.size] (E2) E3:=by rw[<-hW2];exact (((((((Fq [E1.heap.size] (E2)).set (.inl (by simp)) _).set (.inl (by simp)) _).set (.inl (by simp)) _).set (.inl (by simp)) _).set (.inl (by simp)) _).set (.inl (by simp)) _).set (.inl (by simp)) _
   rw[hW2];clear hW2;have hC3:Fr [] w4 E3:=hC2.trans f3 (by simp <;> omega);refine hK _ _ hC3 ?_;clear hK K u0 u1 u2 u3 u4 u5 u6 v0 v1 v2 v3 v4 v5 v6
   try simp only[Act.put,qA,qB,qC,qD,qE,qF]
   refine headI_done ⟨by kernel_rfl,?_⟩;simp only[qG,qH]
   go_wp2_with fail
   exact⟨_,rfl,n3,hC3,hD⟩
  ·rw[if_pos (by rfl)]
   go_simp
   obtain⟨E1,hE1,n1,hC1⟩:=bxd w4 #[.int .i64 0,.string ⟨#[]⟩,.int .i64 0,.int .i64 0,.string ⟨#[]⟩,.string ⟨#[]⟩,.bool false] 95;rw[hE1];refine hK _ _ hC1 ?_;clear hK K hE1 hC
   try simp only[Act.put,qA,qB,qC,qD,qE,qF]
   refine hO (i:=7) rfl fun K hK=>?_;go_simp
   go_at_call 64
   (with_reducible refine (HL4.out _ hC1).mono ?_);rintro e E2 ⟨rfl,hf⟩;have hC2:=hC1.then hf;have n2:=n1.fr hf (by simp);have hD:w4.heap.size<=w4.heap.size:=nlr _;refine hK _ _ hC2 ?_;clear hK K hC1 hf n1
   try simp only[Act.put,qA,qB,qC,qD,qE,qF]
   have hC:=hC2
   show headJ 8 _ _ _ _ _ _ _ _ _ _ _
   iterate 3
    refine hdJ (v:=?_) rfl (Or.inl ⟨by rfl,?_⟩) ?_
    rotate_left
    ·intro W hW;obtain⟨a6,a7,a8,a9,a10,a11,b0,b1,b2,b3,b4⟩:=HSS.out W hW;go_simp;try with_reducible rfl
    try simp only[Act.put,qA,qB,qC,qD,qE,qF]
   have hC:=hC2;obtain⟨u0,u1,u2,u3,u4,u5,u6⟩:=n2.m7;have v0:=n2.f 0;have v1:=n2.f 1;have v2:=n2.f 2;have v3:=n2.f 3;have v4:=n2.f 4;have v5:=n2.f 5;have v6:=n2.f 6;refine hO (i:=12) rfl fun K hK=>?_;go_simp
   obtain⟨E3,hW2⟩:=nmd ((((((((((E2).setCell ⟨w4.heap.size,0,none⟩ (.int .i64 16)).setCell ⟨w4.heap.size,1,none⟩ (.string ⟨#[]⟩)).setCell ⟨w4.heap.size,2,none⟩ (.int .i64 2)).setCell ⟨w4.heap.size,3,none⟩ (.int .i64 0)).setCell ⟨w4.heap.size,4,none⟩ (.string ⟨#[]⟩)).setCell ⟨w4.heap.size,5,none⟩ (.string ⟨#[121,122]⟩))).setCell ⟨w4.heap.size,6,none⟩ (.bool false)));have n3:BoxN E3 (w4.heap.size) 95 #[.int .i64 16,.string ⟨#[]⟩,.int .i64 2,.int .i64 0,.string ⟨#[]⟩,.string ⟨#[121,122]⟩,.bool false]:=by rw[<-hW2];exact (((((((n2.setAt 0 _).setAt 1 _).setAt 2 _).setAt 3 _).setAt 4 _).setAt 5 _).setAt 6 _)
   have f3:Fr [w4.heap.size] (E2) E3:=by rw[<-hW2];exact (((((((Fq [w4.heap.size] (E2)).set (.inl (by simp)) _).set (.inl (by simp)) _).set (.inl (by simp)) _).set (.inl (by simp)) _).set (.inl (by simp)) _).set (.inl (by simp)) _).set (.inl (by simp)) _
   rw[hW2];clear hW2;have hC3:Fr [] w4 E3:=hC2.trans f3 (by simp <;> omega);refine hK _ _ hC3 ?_;clear hK K u0 u1 u2 u3 u4 u5 u6 v0 v1 v2 v3 v4 v5 v6
   try simp only[Act.put,qA,qB,qC,qD,qE,qF]
   refine headI_done ⟨by kernel_rfl,?_⟩;simp only[qG,qH]
   go_wp2_with fail
   exact⟨_,rfl,n3,hC3,hD⟩
 rintro a' w5 ⟨D,rfl,hDb,hf5,hDs⟩;simp only[qA,qB,qC];have H5:=Hd (An (H4.out.1.fr hf5 (by simp)) (An (H4.out.2.1.fr hf5 (by simp)) (An (H4.out.2.2.1.then hf5) (An (H4.out.2.2.2.1.fr0 hf5) (An (H4.out.2.2.2.2.1.fr0 hf5) (An (H4.out.2.2.2.2.2.1.fr0 hf5) (An (H4.out.2.2.2.2.2.2.1.fr0 hf5) (H4.out.2.2.2.2.2.2.2.fr0 hf5))))))));have HD5:=Hd hDb;obtain⟨d0,d1,d2,d3,d4,d5,d6⟩:=hDb.m7;have x5:=H5.out.1.k5;clear hDb hf5 hDs H4 HL4 HSS hC HVc HRT HN HG HW
 go_upto_region 8 with fail
 clear d0 d1 d2 d3 d4 d5 d6 x5;have HSS:=Hd (fun (W:World) (hW:Fr [] w5 W)=>(⟨(HD5.out.fr hW (by simp)).c 5,(H5.out.1.fr hW (by simp)).c 5,(H5.out.1.fr hW (by simp)).c 7,(H5.out.2.2.2.1.fr0 hW).2 4 _ rfl⟩:W.cell? ⟨D,5,none⟩=some (.string ⟨#[121,122]⟩)/\W.cell? ⟨w.heap.size+1,5,none⟩=some (.int .i64 1)/\W.cell? ⟨w.heap.size+1,7,none⟩=some (.slice (some ⟨g,0,none⟩) 2 pc)/\W.cell? ⟨g,4,none⟩=some (.int .i64 1)));have hC:Fr [] w5 w5.drew:=(Fq _ w5).drew;refine wp_region_head (fun W=>Fr [] w5 W) 14 (by kernel_rfl) ?_ (by decide)
 show headJ 0 _ _ _ _ _ _ _ _ _ _ _
 iterate 13
  refine hdJ (v:=?_) rfl (Or.inl ⟨by rfl,?_⟩) ?_
  rotate_left
  ·intro W hW;obtain⟨d5',x5',x7',g4'⟩:=HSS.out W hW;go_simp;try with_reducible rfl
  try simp only[Act.put,qA,qB,qC,qD,qE,qF]
 refine hO (i:=13) rfl fun K hK=>?_;go_simp
 obtain⟨w6,hw6,n6,f6⟩:=bxd w5 #[.int .u8 0,.int .i64 0,.slice none 0 0,.slice none 0 0,.slice none 0 0,.slice none 0 0] 64;rw[hw6];refine hK _ _ f6 ?_;clear hK K hC hw6 HSS
 try simp only[Act.put,qA,qB,qC,qD,qE,qF]
 refine headI_done ⟨by kernel_rfl,?_⟩;simp only[qG,qH];obtain⟨CB,hCB⟩:=nmd (w5.heap.size);have HCB:=Hd hCB;rw[hCB] at n6 ⊢;obtain⟨y0,y1,y2,y3,y4,y5⟩:=n6.m6;have v0:=n6.f 0;have v1:=n6.f 1;have v2:=n6.f 2;have v3:=n6.f 3;have v4:=n6.f 4;have v5:=n6.f 5;have HN6:=Hd (An n6 f6);clear n6 f6 hCB;rw[show (((((⟨#[121,122]⟩:ByteArray)[1]'(by decide)).toNat:Nat)):Int)=122 from by decide]
 go_upto_region 9 with fail
 obtain⟨w7,hW2⟩:=nmd (((((((((w6).setCell ⟨CB,0,none⟩ (.int .u8 122)).setCell ⟨CB,1,none⟩ (.int .i64 1)).setCell ⟨CB,2,none⟩ (.slice none 0 0)).setCell ⟨CB,3,none⟩ (.slice none 0 0)).setCell ⟨CB,4,none⟩ (.slice none 0 0)).setCell ⟨CB,5,none⟩ (.slice none 0 0))));have n7:BoxN w7 (CB) 64 #[.int .u8 122,.int .i64 1,.slice none 0 0,.slice none 0 0,.slice none 0 0,.slice none 0 0]:=by rw[<-hW2];exact ((((((HN6.out.1.setAt 0 _).setAt 1 _).setAt 2 _).setAt 3 _).setAt 4 _).setAt 5 _)
 have f7:Fr [CB] (w6) w7:=by rw[<-hW2];exact ((((((Fq [CB] (w6)).set (.inl (by simp)) _).set (.inl (by simp)) _).set (.inl (by simp)) _).set (.inl (by simp)) _).set (.inl (by simp)) _).set (.inl (by simp)) _
 rw[hW2];clear hW2;clear y0 y1 y2 y3 y4 y5 v0 v1 v2 v3 v4 v5;have HV:Hid (VIs w5 w7 CB 0 0 0 0 none none [] []):=Hd ⟨n7,Own.nil _ _ _,Own.nil _ _ _,⟨by simp[blk],by simp[blk],by rw[HCB.out];exact nlr _⟩,by simp[blk],by simp[blk],by simp[blk],HN6.out.2.trans f7 (by simp;rw[HCB.out];exact nlr _)⟩;clear n7 f7 HN6;have x7:w7.cell? ⟨w.heap.size+1,7,none⟩=some (.slice (some ⟨g,0,none⟩) 2 pc):=(H5.out.1.fr HV.out.fr (by simp)).c 7
 go_wp2_with fail
 clear x7;refine wp_loop_rounds 3 ?_;rw[rounds_succ];have hg:=H5.out.2.2.2.1.fr0 HV.out.fr;obtain⟨z0,z1,z2,z3⟩:=hg.m4;clear hg
 go_upto_region 12 with fail
 obtain⟨P0,hP,zP,nP,fP⟩:=bxz w7 #[.int .i64 0,.int .i64 3,.string s0,.slice A0 2 c0] 53 (w7).heap.size;rw[hP];have p0:=nP.k0;have HV0:=Hd (HV.out.fr0 fP);have b2:=HV0.out.box.k2;have HIO:=Hd HV0.out.io;obtain⟨jj,hjj,jz0,jz1,jz2⟩:=info_int;clear z0 z1 z2 z3 nP hP fP zP
 go_upto_region 13 with (at_builtin;(with_reducible refine wpList_app_tmp (w:=P0) rfl (.tmp 78) (.tmp 81) 36 rfl 3 jj _ 1 8 underlying36 hjj jz0 jz1 jz2 rfl (by decide) none 0 0 [] rfl HIO.out 1 1 [.int .i64 0] 3 rfl rfl (by simp[Value.oneCell']) (by unfold maxLen;omega) (by omega) ?_);intro I1 ic1 P1 ho hf hs;rw[show (0+1:Nat)=1 from rfl] at ho ⊢;have hb1:=HV0.out.box.fr hf HV0.out.d.1;have q0:P1.cell? ⟨CB,2,none⟩=_:=hb1.c 2;have q1:=hb1.f 2;have H1:=Hd (An ho (An hf (An hs hb1)));clear ho hf hs hb1)
 obtain⟨P2,hP2⟩:=nmd (P1.setCell ⟨CB,2,none⟩ (.slice I1 1 ic1));have n2:BoxN P2 CB 64 #[.int .u8 122,.int .i64 1,.slice I1 1 ic1,.slice none 0 0,.slice none 0 0,.slice none 0 0]:=by rw[<-hP2];exact H1.out.2.2.2.setAt 2 _
 have f2:Fr [CB] P1 P2:=by rw[<-hP2];exact (Fq [CB] P1).set (.inl (by simp)) _
 try rw[hP2]
 have HV2:=Hd (HV0.out.putI H1.out.2.1 H1.out.1 H1.out.2.2.1 f2 n2);clear p0 b2 q0 q1 hP2 n2 f2 H1 HIO HV0 jz0 jz1 jz2 hjj;have hLs:=H5.out.2.2.2.2.1.fr0 HV2.out.fr;have hb2:=HV2.out.box;have HSS:=Hd (fun (W:World) (hW:W.cell? ⟨CB,3,none⟩=some (.slice none 0 0)/\W.cell? ⟨L,0,none⟩=some (.int .i64 1)/\W.cell? ⟨L,1,none⟩=some (.int .i64 0)/\W.cell? ⟨L,2,none⟩=some (.int .i64 1)/\W.cell? ⟨L,3,none⟩=some (.string ⟨#[]⟩))=>hW);have hC:(fun W:World=>W.cell? ⟨CB,3,none⟩=some (.slice none 0 0)/\W.cell? ⟨L,0,none⟩=some (.int .i64 1)/\W.cell? ⟨L,1,none⟩=some (.int .i64 0)/\W.cell? ⟨L,2,none⟩=some (.int .i64 1)/\W.cell? ⟨L,3,none⟩=some (.string ⟨#[]⟩)) P2.drew:=⟨hb2.c 3,hLs.2 0 _ rfl,hLs.2 1 _ rfl,hLs.2 2 _ rfl,hLs.2 3 _ rfl⟩;refine wp_region_head (fun W:World=>W.cell? ⟨CB,3,none⟩=some (.slice none 0 0)/\W.cell? ⟨L,0,none⟩=some (.int .i64 1)/\W.cell? ⟨L,1,none⟩=some (.int .i64 0)/\W.cell? ⟨L,2,none⟩=some (.int .i64 1)/\W.cell? ⟨L,3,none⟩=some (.string ⟨#[]⟩)) 9 (by kernel_rfl) ?_ (by decide)
 show headJ 0 _ _ _ _ _ _ _ _ _ _ _
 iterate 7
  refine hdJ (v:=?_) rfl (Or.inl ⟨by rfl,?_⟩) ?_
  rotate_left
  ·intro W hW;obtain⟨x0,l0,l1,l2,l3⟩:=HSS.out W hW;go_simp;try with_reducible rfl
  try simp only[Act.put,qA,qB,qC,qD,qE,qF]
 refine hO (i:=7) rfl fun K hK=>?_;go_simp
 obtain⟨Q1,hQ1,nQ,fQ⟩:=bxd P2 #[.int .i64 1,.int .i64 0,.int .i64 1,.string ⟨#[]⟩] 89;rw[hQ1];have hLq:=hLs.fr0 fQ;have hbq:=hb2.fr fQ (by simp);refine hK _ _ ⟨hbq.c 3,hLq.2 0 _ rfl,hLq.2 1 _ rfl,hLq.2 2 _ rfl,hLq.2 3 _ rfl⟩ ?_;clear hK K hQ1 hC
 try simp only[Act.put,qA,qB,qC,qD,qE,qF]
 refine hO (i:=8) rfl fun K hK=>?_;obtain⟨ii,hii,iz0,iz1,iz2⟩:=info_key;have hVq:=HV2.out.fr0 fQ;refine wp_app (.tmp 85) (.tmp 91) 60 rfl 89 ii _ 4 40 underlying60 hii iz0 iz1 iz2 rfl (by decide) none 0 0 [] rfl hVq.ko ⟨P2.heap.size,0,none⟩ 1 1 [.int .i64 1,.int .i64 0,.int .i64 1,.string ⟨#[]⟩] rfl rfl (fun j u hu=>by rw[add_mid',nQ.c j];simpa using hu) (by simp[Value.oneCell']) (by unfold maxLen;omega) (by omega) ?_;intro K1 kc1 Q2 ho2 hf2 hK2;rw[show (0+1:Nat)=1 from rfl] at ho2 ⊢;have hLK:L ∉ blk none:=fun hm=>by have h1:=hVq.hk L hm;have h2:=H5.out.2.2.2.2.1.1;omega
 have hb3:=hbq.fr hf2 hVq.d.2.1;have hL3:=hLq.fr hf2 hLK;refine hK _ _ ⟨hb3.c 3,hL3.2 0 _ rfl,hL3.2 1 _ rfl,hL3.2 2 _ rfl,hL3.2 3 _ rfl⟩ ?_;clear hK K
 try simp only[Act.put,qA,qB,qC,qD,qE,qF]
 refine headI_done ⟨by kernel_rfl,?_⟩;simp only[qG,qH];have q0:=hb3.k3;have q1:=hb3.f 3;have HQ2:=Hd (An hVq (An ho2 (An hf2 (An hK2 hb3))));clear hVq ho2 hf2 hK2 hb3 hLK hL3 hbq hLq hb2 hLs nQ fQ HSS iz0 iz1 iz2 hii
 go_upto_region 14 with fail
 obtain⟨w8,hY⟩:=nmd (Q2.setCell ⟨CB,3,none⟩ (.slice K1 1 kc1));have nY:BoxN w8 CB 64 #[.int .u8 122,.int .i64 1,.slice I1 1 ic1,.slice K1 1 kc1,.slice none 0 0,.slice none 0 0]:=by rw[<-hY];exact HQ2.out.2.2.2.2.setAt 3 _
 have fY:Fr [CB] Q2 w8:=by rw[<-hY];exact (Fq [CB] Q2).set (.inl (by simp)) _
 try rw[hY]
 have HV8:=Hd (HQ2.out.1.putK HQ2.out.2.2.1 HQ2.out.2.1 HQ2.out.2.2.2.1 fY nY);clear q0 q1 hY nY fY HQ2 HV2
 go_wp2_with fail
 rw[rounds_succ];have hg:=H5.out.2.2.2.1.fr0 HV8.out.fr;have z0:=hg.k4;have z1:=hg.k5;have z2:=hg.k6;have z3:=hg.k7;clear hg
 go_upto_region 12 with fail
 obtain⟨P0,hP,zP,nP,fP⟩:=bxz w8 #[.int .i64 1,.int .i64 3,.string s1,.slice A1 2 c1] 53 (w8).heap.size;rw[hP];have p0:=nP.k0;have HV0:=Hd (HV8.out.fr0 fP);have b2:=HV0.out.box.k2;have HIO:=Hd HV0.out.io;obtain⟨jj,hjj,jz0,jz1,jz2⟩:=info_int;clear z0 z1 z2 z3 nP hP fP zP
 go_upto_region 13 with (at_builtin;(with_reducible refine wpList_app_tmp (w:=P0) rfl (.tmp 78) (.tmp 81) 36 rfl 3 jj _ 1 8 underlying36 hjj jz0 jz1 jz2 rfl (by decide) I1 1 ic1 _ rfl HIO.out 1 1 [.int .i64 1] 3 rfl rfl (by simp[Value.oneCell']) (by unfold maxLen;omega) (by omega) ?_);intro I2 ic2 P1 ho hf hs;rw[show (1+1:Nat)=2 from rfl] at ho ⊢;have hb1:=HV0.out.box.fr hf HV0.out.d.1;have q0:P1.cell? ⟨CB,2,none⟩=_:=hb1.c 2;have q1:=hb1.f 2;have H1:=Hd (An ho (An hf (An hs hb1)));clear ho hf hs hb1)
 obtain⟨P2,hP2⟩:=nmd (P1.setCell ⟨CB,2,none⟩ (.slice I2 2 ic2));have n2:BoxN P2 CB 64 #[.int .u8 122,.int .i64 1,.slice I2 2 ic2,.slice K1 1 kc1,.slice none 0 0,.slice none 0 0]:=by rw[<-hP2];exact H1.out.2.2.2.setAt 2 _
 have f2:Fr [CB] P1 P2:=by rw[<-hP2];exact (Fq [CB] P1).set (.inl (by simp)) _
 try rw[hP2]
 have HV2:=Hd (HV0.out.putI H1.out.2.1 H1.out.1 H1.out.2.2.1 f2 n2);clear p0 b2 q0 q1 hP2 n2 f2 H1 HIO HV0 jz0 jz1 jz2 hjj;have hLs:=H5.out.2.2.2.2.1.fr0 HV2.out.fr;have hb2:=HV2.out.box;have HSS:=Hd (fun (W:World) (hW:W.cell? ⟨CB,3,none⟩=some (.slice K1 1 kc1)/\W.cell? ⟨L,6,none⟩=some (.int .i64 2)/\W.cell? ⟨L,7,none⟩=some (.int .i64 0)/\W.cell? ⟨L,8,none⟩=some (.int .i64 2)/\W.cell? ⟨L,9,none⟩=some (.string ⟨#[]⟩))=>hW);have hC:(fun W:World=>W.cell? ⟨CB,3,none⟩=some (.slice K1 1 kc1)/\W.cell? ⟨L,6,none⟩=some (.int .i64 2)/\W.cell? ⟨L,7,none⟩=some (.int .i64 0)/\W.cell? ⟨L,8,none⟩=some (.int .i64 2)/\W.cell? ⟨L,9,none⟩=some (.string ⟨#[]⟩)) P2.drew:=⟨hb2.c 3,hLs.2 6 _ rfl,hLs.2 7 _ rfl,hLs.2 8 _ rfl,hLs.2 9 _ rfl⟩;refine wp_region_head (fun W:World=>W.cell? ⟨CB,3,none⟩=some (.slice K1 1 kc1)/\W.cell? ⟨L,6,none⟩=some (.int .i64 2)/\W.cell? ⟨L,7,none⟩=some (.int .i64 0)/\W.cell? ⟨L,8,none⟩=some (.int .i64 2)/\W.cell? ⟨L,9,none⟩=some (.string ⟨#[]⟩)) 9 (by kernel_rfl) ?_ (by decide)
 show headJ 0 _ _ _ _ _ _ _ _ _ _ _
 iterate 7
  refine hdJ (v:=?_) rfl (Or.inl ⟨by rfl,?_⟩) ?_
  rotate_left
  ·intro W hW;obtain⟨x0,l0,l1,l2,l3⟩:=HSS.out W hW;go_simp;try with_reducible rfl
  try simp only[Act.put,qA,qB,qC,qD,qE,qF]
 refine hO (i:=7) rfl fun K hK=>?_;go_simp
 obtain⟨Q1,hQ1,nQ,fQ⟩:=bxd P2 #[.int .i64 2,.int .i64 0,.int .i64 2,.string ⟨#[]⟩] 89;rw[hQ1];have hLq:=hLs.fr0 fQ;have hbq:=hb2.fr fQ (by simp);refine hK _ _ ⟨hbq.c 3,hLq.2 6 _ rfl,hLq.2 7 _ rfl,hLq.2 8 _ rfl,hLq.2 9 _ rfl⟩ ?_;clear hK K hQ1 hC
 try simp only[Act.put,qA,qB,qC,qD,qE,qF]
 refine hO (i:=8) rfl fun K hK=>?_;obtain⟨ii,hii,iz0,iz1,iz2⟩:=info_key;have hVq:=HV2.out.fr0 fQ;refine wp_app (.tmp 85) (.tmp 91) 60 rfl 89 ii _ 4 40 underlying60 hii iz0 iz1 iz2 rfl (by decide) K1 1 kc1 _ rfl hVq.ko ⟨P2.heap.size,0,none⟩ 1 1 [.int .i64 2,.int .i64 0,.int .i64 2,.string ⟨#[]⟩] rfl rfl (fun j u hu=>by rw[add_mid',nQ.c j];simpa using hu) (by simp[Value.oneCell']) (by unfold maxLen;omega) (by omega) ?_;intro K2 kc2 Q2 ho2 hf2 hK2;rw[show (1+1:Nat)=2 from rfl] at ho2 ⊢;have hLK:L ∉ blk K1:=fun hm=>by have h1:=hVq.hk L hm;have h2:=H5.out.2.2.2.2.1.1;omega
 have hb3:=hbq.fr hf2 hVq.d.2.1;have hL3:=hLq.fr hf2 hLK;refine hK _ _ ⟨hb3.c 3,hL3.2 6 _ rfl,hL3.2 7 _ rfl,hL3.2 8 _ rfl,hL3.2 9 _ rfl⟩ ?_;clear hK K
 try simp only[Act.put,qA,qB,qC,qD,qE,qF]
 refine headI_done ⟨by kernel_rfl,?_⟩;simp only[qG,qH];have q0:=hb3.k3;have q1:=hb3.f 3;have HQ2:=Hd (An hVq (An ho2 (An hf2 (An hK2 hb3))));clear hVq ho2 hf2 hK2 hb3 hLK hL3 hbq hLq hb2 hLs nQ fQ HSS iz0 iz1 iz2 hii
 go_upto_region 14 with fail
 obtain⟨w9,hY⟩:=nmd (Q2.setCell ⟨CB,3,none⟩ (.slice K2 2 kc2));have nY:BoxN w9 CB 64 #[.int .u8 122,.int .i64 1,.slice I2 2 ic2,.slice K2 2 kc2,.slice none 0 0,.slice none 0 0]:=by rw[<-hY];exact HQ2.out.2.2.2.2.setAt 3 _
 have fY:Fr [CB] Q2 w9:=by rw[<-hY];exact (Fq [CB] Q2).set (.inl (by simp)) _
 try rw[hY]
 have HV9:=Hd (HQ2.out.1.putK HQ2.out.2.2.1 HQ2.out.2.1 HQ2.out.2.2.2.1 fY nY);clear q0 q1 hY nY fY HQ2 HV2
 go_wp2_with fail
 rw[rounds_succ]
 go_upto_region 15 with fail
 have hv:=HV9.out;obtain⟨ix,rfl,hix⟩:=Cs.of_own hv.io (by omega);have hLl:=H5.out.2.2.2.2.1.1
 have hdd:CB≠ix/\CB≠L/\CB≠cb0/\CB≠ca1/\CB≠cb1:=by
  have h1:=hv.d;have h2:=H5.out.2.2.2.2.2.1.1;have h3:=H5.out.2.2.2.2.2.2.1.1;have h4:=H5.out.2.2.2.2.2.2.2.1;exact⟨by have:=h1.1;simpa [blk] using this,by omega,by omega,by omega,by omega⟩
 have hlc:=Link_any CB ix ic2 kc2 L lc rc cb0 rd ca1 rc1 cb1 rd1 K2 RA w9 hv.box hix (H5.out.2.2.2.2.1.fr0 hv.fr) (H5.out.2.2.2.2.2.1.fr0 hv.fr) (H5.out.2.2.2.2.2.2.1.fr0 hv.fr) (H5.out.2.2.2.2.2.2.2.fr0 hv.fr) hdd;have HLC:=Hd hlc;have HCW:Hid (w5.heap.size<=CB):=Hd hv.d.2.2;have H9:=Hd (An (H5.out.2.1.fr hv.fr (by simp)) (H5.out.2.2.1.then hv.fr));have HC4:Hid (w.heap.size+1+1<w5.heap.size):=Hd H5.out.2.1.lt;clear hv hix hLl hdd hlc
 go_upto_region 16 with (go_at_call 65;(with_reducible refine HLC.out.mono ?_);rintro e wA ⟨m,lb,lcap,rfl,hbA,hlb,hm,hfA,hle⟩;have HA:=Hd (An hbA (An hlb (An hm (An hfA hle))));clear hbA hlb hm hfA hle)
 obtain⟨kj,hkj⟩:=keyOf_int0;have hlk:=MapIs.look_some key_int underlying143 HA.out.2.2.1 hkj (v:=.bool true) (by simp) false;simp only[Bool.false_eq_true,if_false] at hlk;clear hkj
 go_wp2_with fail
 refine wp_loop_rounds 2 ?_;rw[rounds_succ]
 go_wp2_with fail
 rw[rounds_succ];have hc4:BoxN wA (w.heap.size+1+1) 64 #[.int .u8 0,.int .i64 0,.slice none 0 0,.slice none 0 0,.slice none 0 0,.slice none 0 0]:=H9.out.1.fr HA.out.2.2.2.1 (by have:=HCW.out;have:=HC4.out;simp;omega);have HC4b:=Hd hc4;have hbc:=HA.out.1;unfold conC at hbc;obtain⟨b0,b1,b2,b3,b4,b5⟩:=hbc.m6;obtain⟨y0,y1,y2,y3,y4,y5⟩:=hc4.m6;have v0:=hc4.f 0;have v1:=hc4.f 1;have v2:=hc4.f 2;have v3:=hc4.f 3;have v4:=hc4.f 4;have v5:=hc4.f 5;clear hbc hc4 hlk
 go_wp2_with fail
 obtain⟨wB,hW2⟩:=nmd (((((((((wA).setCell ⟨w.heap.size+1+1,0,none⟩ (.int .u8 122)).setCell ⟨w.heap.size+1+1,1,none⟩ (.int .i64 1)).setCell ⟨w.heap.size+1+1,2,none⟩ (.slice (some ⟨ix,0,none⟩) 2 ic2)).setCell ⟨w.heap.size+1+1,3,none⟩ (.slice K2 2 kc2)).setCell ⟨w.heap.size+1+1,4,none⟩ (.slice (some ⟨lb,0,none⟩) 1 lcap)).setCell ⟨w.heap.size+1+1,5,none⟩ (.slice none 0 0))));have nB:BoxN wB (w.heap.size+1+1) 64 #[.int .u8 122,.int .i64 1,.slice (some ⟨ix,0,none⟩) 2 ic2,.slice K2 2 kc2,.slice (some ⟨lb,0,none⟩) 1 lcap,.slice none 0 0]:=by rw[<-hW2];exact ((((((HC4b.out.setAt 0 _).setAt 1 _).setAt 2 _).setAt 3 _).setAt 4 _).setAt 5 _)
 have fB:Fr [w.heap.size+1+1] (wA) wB:=by rw[<-hW2];exact ((((((Fq [w.heap.size+1+1] (wA)).set (.inl (by simp)) _).set (.inl (by simp)) _).set (.inl (by simp)) _).set (.inl (by simp)) _).set (.inl (by simp)) _).set (.inl (by simp)) _
 rw[hW2];clear hW2;obtain⟨t0,t1,t2,t3,t4,t5⟩:=nB.m6;refine bodyPost_ret (v:=.tuple #[.agg #[.int .u8 122,.int .i64 1,.slice (some ⟨ix,0,none⟩) 2 ic2,.slice K2 2 kc2,.slice (some ⟨lb,0,none⟩) 1 lcap,.slice none 0 0],.int .i64 0]) (by simp[results,results22,go_sem,t0,t1,t2,t3,t4,t5]) rfl ?_;have hsz:w.heap.size<=CB:=by have:=HCW.out;have:=HC4.out;omega
 have hlb2:w.heap.size+1+1<lb:=by have h1:=H9.out.1.lt;have h2:=HA.out.2.2.2.2;omega
 exact⟨some ⟨ix,0,none⟩,ic2,K2,kc2,lb,lcap,rfl,HA.out.2.1.fr fB (by simp;omega),(H9.out.2.trans HA.out.2.2.2.1 (fun k hk=>.inr (by simp at hk;omega))).trans fB (fun k hk=>.inr (by simp at hk;omega))⟩
end Go.Proofs.YtlpmiimgacfmkaaGreatDoor
