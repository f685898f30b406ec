/- depend: Build at the three actions. -/
import Derived.Test.YtlpmiimgacfmkaaGreatDoorRDe2
set_option linter.all false
namespace Go.Proofs.YtlpmiimgacfmkaaGreatDoor
open Go.RowKit
set_option maxRecDepth 100000
set_option maxHeartbeats 4000000
theorem wp_then_via {P:Program} {c:Code} {K:Act→World→Prop} {Q:Exit→Act→World→Prop} {a:Act} {w:World} (R:Act→World→Prop) (h:c.wp P (Exit.then R (fun _ _ _=>False)) a w) (hk:∀ a' w',R a' w'→K a' w'):c.wp P (Exit.then K Q) a w :=
 wp_mono h fun e a w h=>by cases e <;> first | exact hk _ _ h | exact h.elim
def DDone (w:World) (g:Nat):Prop:=∃ A B m K kc lb lc lb3 lc3,BoxN w g 205 #[.slice K 3 kc,.slice (some ⟨A,0,none⟩) 3 3,.slice (some ⟨B,0,none⟩) 3 3,.map (some m)]∧BoxN w A 61 #[.slice none 0 0,.slice (some ⟨lb,0,none⟩) 1 lc,.slice (some ⟨lb3,0,none⟩) 1 lc3]∧Cs w lb [.int .i64 0,.int .i64 1,.int .i64 16,.string ⟨#[]⟩,.int .i64 1,.int .i64 0,.string ⟨#[]⟩]
theorem DDone.fr0 {w w':World} {g:Nat} (h:DDone w g) (hf:Fr [] w w'):DDone w' g:=by
 obtain⟨A,B,m,K,kc,lb,lc,lb3,lc3,h1,h2,h3⟩:=h
 exact⟨A,B,m,K,kc,lb,lc,lb3,lc3,h1.fr hf (by simp),h2.fr hf (by simp),h3.fr0 hf⟩
theorem DBuild_3 (L cL:Nat) (y0 y1 y2:AV) (w:World) (hL:Cs w L ([y0,y1,y2].flatMap AV.cs)) (h0:y0.ok w) (h1:y1.ok w) (h2:y2.ok w) (e0:y0.a=a0) (e1:y1.a=a1) (e2:y2.a=a2) :
 Calls Tryz.prog 45 #[.slice (some ⟨L,0,none⟩) 3 cL] w fun e w'=>∃ g,e=.returned (.tuple #[.pointer (some ⟨g,0,none⟩),.int .i64 0])∧DDone w' g∧Fr [] w w':=by
 have HI:=Hd (Increasing_3 L cL y0 y1 y2 w hL e0 e1 e2)
 obtain⟨cb0,xd0,rfl⟩:=lt_a0 y0 e0 w h0
 obtain⟨ca1,xc1,cb1,xd1,rfl⟩:=lt_a1 y1 e1 w h1
 obtain⟨ca2,xc2,rfl⟩:=lt_a2 y2 e2 w h2
 have HP0:=Hd (And.intro hL (And.intro h0 (And.intro h1 h2)))
 clear hL h0 h1 h2 e0 e1 e2
 go_enter Tryz.func45,Tryz.ntmps45
 go_upto_region 5 with ((go_at_call 101;(with_reducible refine HI.out.mono ?_);rintro e w1 ⟨rfl,hf1⟩;have HF1:=Hd hf1;clear hf1))
 have hC:Fr [] w w1.drew:=HF1.out.drew
 have HSS:=Hd (fun (W:World) (_:Fr [] w W)=>True.intro)
 refine wp_then_via (a:=?aa) (fun a' w'=>∃ A B m gb,a'={ tmps:=(((((((((((Act.tmps ?aa).setIfInBounds 21 (.slice (some ⟨L,0,none⟩) 3 cL)).setIfInBounds 22 (.int .i64 3)).setIfInBounds 24 (.slice (some ⟨L,0,none⟩) 3 cL)).setIfInBounds 25 (.int .i64 3)).setIfInBounds 23 (.slice (some ⟨A,0,none⟩) 3 3)).setIfInBounds 26 (.slice (some ⟨B,0,none⟩) 3 3)).setIfInBounds 27 (.map (some m))).setIfInBounds 28 (.agg #[.slice none 0 0,.slice (some ⟨A,0,none⟩) 3 3,.slice (some ⟨B,0,none⟩) 3 3,.map (some m)])).setIfInBounds 29 (.pointer (some ⟨gb,0,none⟩))).setIfInBounds 4 (.pointer (some ⟨gb,0,none⟩))),defers:=[] } ∧
  BoxN w' gb 205 #[.slice none 0 0,.slice (some ⟨A,0,none⟩) 3 3,.slice (some ⟨B,0,none⟩) 3 3,.map (some m)]∧BoxN w' A 61 #[.slice none 0 0,.slice none 0 0,.slice none 0 0]∧BoxN w' B 61 #[.slice none 0 0,.slice none 0 0,.slice none 0 0]∧MapIs Tryz.prog 31 w' m []∧Fr [] w w'∧A≠B∧A≠m∧B≠m∧A<gb∧B<gb∧m<gb∧w.heap.size≤A∧w.heap.size≤B∧w.heap.size≤m) ?_ ?_
 ·skip
  refine wp_region_head (fun W=>Fr [] w W) 9 (by kernel_rfl) ?_ (by decide)
  show headJ 0 _ _ _ _ _ _ _ _ _ _ _
  iterate 2
   refine hdJ (v:=?_) rfl (Or.inl ⟨by rfl,?_⟩) ?_
   rotate_left
   ·intro W hW;obtain _:=HSS.out W hW;go_simp;try with_reducible rfl
   try simp only[Act.put,qA,qB,qC,qD,qE,qF]
  show headJ 3 _ _ _ _ _ _ _ _ _ _ _
  iterate 2
   refine hdJ (v:=?_) rfl (Or.inl ⟨by rfl,?_⟩) ?_
   rotate_left
   ·intro W hW;obtain _:=HSS.out W hW;go_simp;try with_reducible rfl
   try simp only[Act.put,qA,qB,qC,qD,qE,qF]
  have hwz:w.heap.size≤w1.drew.heap.size:=hC.size
  obtain⟨V0,hV0⟩:=nmd (w1.drew)
  rw[hV0] at hC hwz ⊢
  clear hV0
  refine headI_three (i:=2) (j:=5) (m:=6) (by kernel_rfl) (by decide) (by decide) (by decide) rfl rfl rfl (fun K hK=>?_) (fun K hK=>?_) (fun K hK=>?_)
  ·rw[if_pos (by rfl)]
   have hmk:=run_makeL V0
   go_simp
   obtain⟨V1,hW1,nA,fA⟩:=bxn V0 #[.slice none 0 0,.slice none 0 0,.slice none 0 0] 61
   have zA:(V1).heap.size=(V0).heap.size+1:=by rw[←hW1];simp
   rw[hW1]
   clear hW1 hmk
   refine hK _ _ (hC.then fA) ?_
   have hC:=hC.then fA
   clear hK K
   try simp only[Act.put,qA,qB,qC,qD,qE,qF]
   refine headI_two (i:=5) (j:=6) (by kernel_rfl) (by decide) (by decide) rfl rfl (fun K hK=>?_) (fun K hK=>?_)
   ·rw[if_pos (by rfl)]
    have hmk:=run_makeL V1
    go_simp
    obtain⟨V2,hW1,nB,fB⟩:=bxn V1 #[.slice none 0 0,.slice none 0 0,.slice none 0 0] 61
    have zB:(V2).heap.size=(V1).heap.size+1:=by rw[←hW1];simp
    rw[hW1]
    clear hW1 hmk
    refine hK _ _ (hC.then fB) ?_
    have hC:=hC.then fB
    clear hK K
    try simp only[Act.put,qA,qB,qC,qD,qE,qF]
    refine headI_only (i:=6) (by kernel_rfl) (by decide) rfl (fun K hK=>?_)
    rw[if_pos (by rfl)]
    have hmk:=run_makeMap (V2) 194
    go_simp
    obtain⟨V3,hW1⟩:=nmd ((V2).alloc (.map #[] 0))
    have nM:MapIs Tryz.prog 31 V3 (V2).heap.size []:=by rw[←hW1];exact MapIs.new (V2)
    have fM:Fr [] (V2) V3:=by rw[←hW1];exact (Fr.refl [] (V2)).alloc _
    have zM:(V3).heap.size=(V2).heap.size+1:=by rw[←hW1];simp
    rw[hW1]
    clear hW1 hmk
    refine hK _ _ (hC.then fM) ?_
    have hC:=hC.then fM
    clear hK K
    try simp only[Act.put,qA,qB,qC,qD,qE,qF]
    have nA3:BoxN V3 (V0).heap.size 61 #[.slice none 0 0,.slice none 0 0,.slice none 0 0]:=by first | exact nA | exact nA.fr fB (by simp) | exact nA.fr fM (by simp) | exact (nA.fr fB (by simp)).fr fM (by simp) | exact (nA.fr fM (by simp)).fr fB (by simp)
    have nB3:BoxN V3 (V1).heap.size 61 #[.slice none 0 0,.slice none 0 0,.slice none 0 0]:=by first | exact nB | exact nB.fr fA (by simp) | exact nB.fr fM (by simp) | exact (nB.fr fA (by simp)).fr fM (by simp) | exact (nB.fr fM (by simp)).fr fA (by simp)
    have nM3:MapIs Tryz.prog 31 V3 (V2).heap.size []:=by first | exact nM | exact nM.fr fA (by simp) | exact nM.fr fB (by simp) | exact (nM.fr fA (by simp)).fr fB (by simp) | exact (nM.fr fB (by simp)).fr fA (by simp)
    clear nA nB nM
    show headJ 7 _ _ _ _ _ _ _ _ _ _ _
    refine hdJ (v:=?_) rfl (Or.inl ⟨by rfl,?_⟩) ?_
    rotate_left
    ·intro W hW;obtain _:=HSS.out W hW;go_simp;try with_reducible rfl
    try simp only[Act.put,qA,qB,qC,qD,qE,qF]
    refine headI_only (i:=8) (by kernel_rfl) (by decide) rfl (fun K hK=>?_)
    rw[if_pos (by rfl)]
    go_simp
    obtain⟨V4,hV4⟩:=nmd (V3.alloc (.cells #[.slice none 0 0,.slice (some ⟨V0.heap.size,0,none⟩) 3 3,.slice (some ⟨V0.heap.size+1,0,none⟩) 3 3,.map (some (V0.heap.size+1+1))] 205))
    have hz3:V3.heap.size=V0.heap.size+1+1+1:=by omega
    have nG:BoxN V4 (V0.heap.size+1+1+1) 205 #[.slice none 0 0,.slice (some ⟨V0.heap.size,0,none⟩) 3 3,.slice (some ⟨V0.heap.size+1,0,none⟩) 3 3,.map (some (V0.heap.size+1+1))]:=by rw[←hV4,←hz3];exact BoxN.new V3 _ _
    have f4:Fr [] V3 V4:=by rw[←hV4];exact (Fr.refl [] V3).alloc _
    rw[hV4]
    have hC4:=hC.then f4
    refine hK _ _ hC4 ?_
    clear hK K hV4 hC
    try simp only[Act.put,qA,qB,qC,qD,qE,qF]
    refine headI_done ⟨by kernel_rfl,?_⟩
    simp only[List.drop_succ_cons,List.drop_zero]
    try simp only[zA,zB,zM] at nA3 nB3 nM3
    go_wp2_with fail
    exact⟨V0.heap.size,V0.heap.size+1,V0.heap.size+1+1,_,rfl,nG,nA3.fr f4 (by simp),nB3.fr f4 (by simp),nM3.fr f4 (by simp),hC4,by omega,by omega,by omega,by omega,by omega,by omega,by omega,by omega,by omega⟩
   ·rw[if_pos (by rfl)]
    have hmk:=run_makeMap (V1) 194
    go_simp
    obtain⟨V2,hW1⟩:=nmd ((V1).alloc (.map #[] 0))
    have nM:MapIs Tryz.prog 31 V2 (V1).heap.size []:=by rw[←hW1];exact MapIs.new (V1)
    have fM:Fr [] (V1) V2:=by rw[←hW1];exact (Fr.refl [] (V1)).alloc _
    have zM:(V2).heap.size=(V1).heap.size+1:=by rw[←hW1];simp
    rw[hW1]
    clear hW1 hmk
    refine hK _ _ (hC.then fM) ?_
    have hC:=hC.then fM
    clear hK K
    try simp only[Act.put,qA,qB,qC,qD,qE,qF]
    refine headI_only (i:=5) (by kernel_rfl) (by decide) rfl (fun K hK=>?_)
    rw[if_pos (by rfl)]
    have hmk:=run_makeL V2
    go_simp
    obtain⟨V3,hW1,nB,fB⟩:=bxn V2 #[.slice none 0 0,.slice none 0 0,.slice none 0 0] 61
    have zB:(V3).heap.size=(V2).heap.size+1:=by rw[←hW1];simp
    rw[hW1]
    clear hW1 hmk
    refine hK _ _ (hC.then fB) ?_
    have hC:=hC.then fB
    clear hK K
    try simp only[Act.put,qA,qB,qC,qD,qE,qF]
    have nA3:BoxN V3 (V0).heap.size 61 #[.slice none 0 0,.slice none 0 0,.slice none 0 0]:=by first | exact nA | exact nA.fr fB (by simp) | exact nA.fr fM (by simp) | exact (nA.fr fB (by simp)).fr fM (by simp) | exact (nA.fr fM (by simp)).fr fB (by simp)
    have nB3:BoxN V3 (V2).heap.size 61 #[.slice none 0 0,.slice none 0 0,.slice none 0 0]:=by first | exact nB | exact nB.fr fA (by simp) | exact nB.fr fM (by simp) | exact (nB.fr fA (by simp)).fr fM (by simp) | exact (nB.fr fM (by simp)).fr fA (by simp)
    have nM3:MapIs Tryz.prog 31 V3 (V1).heap.size []:=by first | exact nM | exact nM.fr fA (by simp) | exact nM.fr fB (by simp) | exact (nM.fr fA (by simp)).fr fB (by simp) | exact (nM.fr fB (by simp)).fr fA (by simp)
    clear nA nB nM
    show headJ 7 _ _ _ _ _ _ _ _ _ _ _
    refine hdJ (v:=?_) rfl (Or.inl ⟨by rfl,?_⟩) ?_
    rotate_left
    ·intro W hW;obtain _:=HSS.out W hW;go_simp;try with_reducible rfl
    try simp only[Act.put,qA,qB,qC,qD,qE,qF]
    refine headI_only (i:=8) (by kernel_rfl) (by decide) rfl (fun K hK=>?_)
    rw[if_pos (by rfl)]
    go_simp
    obtain⟨V4,hV4⟩:=nmd (V3.alloc (.cells #[.slice none 0 0,.slice (some ⟨V0.heap.size,0,none⟩) 3 3,.slice (some ⟨V0.heap.size+1+1,0,none⟩) 3 3,.map (some (V0.heap.size+1))] 205))
    have hz3:V3.heap.size=V0.heap.size+1+1+1:=by omega
    have nG:BoxN V4 (V0.heap.size+1+1+1) 205 #[.slice none 0 0,.slice (some ⟨V0.heap.size,0,none⟩) 3 3,.slice (some ⟨V0.heap.size+1+1,0,none⟩) 3 3,.map (some (V0.heap.size+1))]:=by rw[←hV4,←hz3];exact BoxN.new V3 _ _
    have f4:Fr [] V3 V4:=by rw[←hV4];exact (Fr.refl [] V3).alloc _
    rw[hV4]
    have hC4:=hC.then f4
    refine hK _ _ hC4 ?_
    clear hK K hV4 hC
    try simp only[Act.put,qA,qB,qC,qD,qE,qF]
    refine headI_done ⟨by kernel_rfl,?_⟩
    simp only[List.drop_succ_cons,List.drop_zero]
    try simp only[zA,zB,zM] at nA3 nB3 nM3
    go_wp2_with fail
    exact⟨V0.heap.size,V0.heap.size+1+1,V0.heap.size+1,_,rfl,nG,nA3.fr f4 (by simp),nB3.fr f4 (by simp),nM3.fr f4 (by simp),hC4,by omega,by omega,by omega,by omega,by omega,by omega,by omega,by omega,by omega⟩
  ·rw[if_pos (by rfl)]
   have hmk:=run_makeL V0
   go_simp
   obtain⟨V1,hW1,nB,fB⟩:=bxn V0 #[.slice none 0 0,.slice none 0 0,.slice none 0 0] 61
   have zB:(V1).heap.size=(V0).heap.size+1:=by rw[←hW1];simp
   rw[hW1]
   clear hW1 hmk
   refine hK _ _ (hC.then fB) ?_
   have hC:=hC.then fB
   clear hK K
   try simp only[Act.put,qA,qB,qC,qD,qE,qF]
   refine headI_two (i:=2) (j:=6) (by kernel_rfl) (by decide) (by decide) rfl rfl (fun K hK=>?_) (fun K hK=>?_)
   ·rw[if_pos (by rfl)]
    have hmk:=run_makeL V1
    go_simp
    obtain⟨V2,hW1,nA,fA⟩:=bxn V1 #[.slice none 0 0,.slice none 0 0,.slice none 0 0] 61
    have zA:(V2).heap.size=(V1).heap.size+1:=by rw[←hW1];simp
    rw[hW1]
    clear hW1 hmk
    refine hK _ _ (hC.then fA) ?_
    have hC:=hC.then fA
    clear hK K
    try simp only[Act.put,qA,qB,qC,qD,qE,qF]
    refine headI_only (i:=6) (by kernel_rfl) (by decide) rfl (fun K hK=>?_)
    rw[if_pos (by rfl)]
    have hmk:=run_makeMap (V2) 194
    go_simp
    obtain⟨V3,hW1⟩:=nmd ((V2).alloc (.map #[] 0))
    have nM:MapIs Tryz.prog 31 V3 (V2).heap.size []:=by rw[←hW1];exact MapIs.new (V2)
    have fM:Fr [] (V2) V3:=by rw[←hW1];exact (Fr.refl [] (V2)).alloc _
    have zM:(V3).heap.size=(V2).heap.size+1:=by rw[←hW1];simp
    rw[hW1]
    clear hW1 hmk
    refine hK _ _ (hC.then fM) ?_
    have hC:=hC.then fM
    clear hK K
    try simp only[Act.put,qA,qB,qC,qD,qE,qF]
    have nA3:BoxN V3 (V1).heap.size 61 #[.slice none 0 0,.slice none 0 0,.slice none 0 0]:=by first | exact nA | exact nA.fr fB (by simp) | exact nA.fr fM (by simp) | exact (nA.fr fB (by simp)).fr fM (by simp) | exact (nA.fr fM (by simp)).fr fB (by simp)
    have nB3:BoxN V3 (V0).heap.size 61 #[.slice none 0 0,.slice none 0 0,.slice none 0 0]:=by first | exact nB | exact nB.fr fA (by simp) | exact nB.fr fM (by simp) | exact (nB.fr fA (by simp)).fr fM (by simp) | exact (nB.fr fM (by simp)).fr fA (by simp)
    have nM3:MapIs Tryz.prog 31 V3 (V2).heap.size []:=by first | exact nM | exact nM.fr fA (by simp) | exact nM.fr fB (by simp) | exact (nM.fr fA (by simp)).fr fB (by simp) | exact (nM.fr fB (by simp)).fr fA (by simp)
    clear nA nB nM
    show headJ 7 _ _ _ _ _ _ _ _ _ _ _
    refine hdJ (v:=?_) rfl (Or.inl ⟨by rfl,?_⟩) ?_
    rotate_left
    ·intro W hW;obtain _:=HSS.out W hW;go_simp;try with_reducible rfl
    try simp only[Act.put,qA,qB,qC,qD,qE,qF]
    refine headI_only (i:=8) (by kernel_rfl) (by decide) rfl (fun K hK=>?_)
    rw[if_pos (by rfl)]
    go_simp
    obtain⟨V4,hV4⟩:=nmd (V3.alloc (.cells #[.slice none 0 0,.slice (some ⟨V0.heap.size+1,0,none⟩) 3 3,.slice (some ⟨V0.heap.size,0,none⟩) 3 3,.map (some (V0.heap.size+1+1))] 205))
    have hz3:V3.heap.size=V0.heap.size+1+1+1:=by omega
    have nG:BoxN V4 (V0.heap.size+1+1+1) 205 #[.slice none 0 0,.slice (some ⟨V0.heap.size+1,0,none⟩) 3 3,.slice (some ⟨V0.heap.size,0,none⟩) 3 3,.map (some (V0.heap.size+1+1))]:=by rw[←hV4,←hz3];exact BoxN.new V3 _ _
    have f4:Fr [] V3 V4:=by rw[←hV4];exact (Fr.refl [] V3).alloc _
    rw[hV4]
    have hC4:=hC.then f4
    refine hK _ _ hC4 ?_
    clear hK K hV4 hC
    try simp only[Act.put,qA,qB,qC,qD,qE,qF]
    refine headI_done ⟨by kernel_rfl,?_⟩
    simp only[List.drop_succ_cons,List.drop_zero]
    try simp only[zA,zB,zM] at nA3 nB3 nM3
    go_wp2_with fail
    exact⟨V0.heap.size+1,V0.heap.size,V0.heap.size+1+1,_,rfl,nG,nA3.fr f4 (by simp),nB3.fr f4 (by simp),nM3.fr f4 (by simp),hC4,by omega,by omega,by omega,by omega,by omega,by omega,by omega,by omega,by omega⟩
   ·rw[if_pos (by rfl)]
    have hmk:=run_makeMap (V1) 194
    go_simp
    obtain⟨V2,hW1⟩:=nmd ((V1).alloc (.map #[] 0))
    have nM:MapIs Tryz.prog 31 V2 (V1).heap.size []:=by rw[←hW1];exact MapIs.new (V1)
    have fM:Fr [] (V1) V2:=by rw[←hW1];exact (Fr.refl [] (V1)).alloc _
    have zM:(V2).heap.size=(V1).heap.size+1:=by rw[←hW1];simp
    rw[hW1]
    clear hW1 hmk
    refine hK _ _ (hC.then fM) ?_
    have hC:=hC.then fM
    clear hK K
    try simp only[Act.put,qA,qB,qC,qD,qE,qF]
    refine headI_only (i:=2) (by kernel_rfl) (by decide) rfl (fun K hK=>?_)
    rw[if_pos (by rfl)]
    have hmk:=run_makeL V2
    go_simp
    obtain⟨V3,hW1,nA,fA⟩:=bxn V2 #[.slice none 0 0,.slice none 0 0,.slice none 0 0] 61
    have zA:(V3).heap.size=(V2).heap.size+1:=by rw[←hW1];simp
    rw[hW1]
    clear hW1 hmk
    refine hK _ _ (hC.then fA) ?_
    have hC:=hC.then fA
    clear hK K
    try simp only[Act.put,qA,qB,qC,qD,qE,qF]
    have nA3:BoxN V3 (V2).heap.size 61 #[.slice none 0 0,.slice none 0 0,.slice none 0 0]:=by first | exact nA | exact nA.fr fB (by simp) | exact nA.fr fM (by simp) | exact (nA.fr fB (by simp)).fr fM (by simp) | exact (nA.fr fM (by simp)).fr fB (by simp)
    have nB3:BoxN V3 (V0).heap.size 61 #[.slice none 0 0,.slice none 0 0,.slice none 0 0]:=by first | exact nB | exact nB.fr fA (by simp) | exact nB.fr fM (by simp) | exact (nB.fr fA (by simp)).fr fM (by simp) | exact (nB.fr fM (by simp)).fr fA (by simp)
    have nM3:MapIs Tryz.prog 31 V3 (V1).heap.size []:=by first | exact nM | exact nM.fr fA (by simp) | exact nM.fr fB (by simp) | exact (nM.fr fA (by simp)).fr fB (by simp) | exact (nM.fr fB (by simp)).fr fA (by simp)
    clear nA nB nM
    show headJ 7 _ _ _ _ _ _ _ _ _ _ _
    refine hdJ (v:=?_) rfl (Or.inl ⟨by rfl,?_⟩) ?_
    rotate_left
    ·intro W hW;obtain _:=HSS.out W hW;go_simp;try with_reducible rfl
    try simp only[Act.put,qA,qB,qC,qD,qE,qF]
    refine headI_only (i:=8) (by kernel_rfl) (by decide) rfl (fun K hK=>?_)
    rw[if_pos (by rfl)]
    go_simp
    obtain⟨V4,hV4⟩:=nmd (V3.alloc (.cells #[.slice none 0 0,.slice (some ⟨V0.heap.size+1+1,0,none⟩) 3 3,.slice (some ⟨V0.heap.size,0,none⟩) 3 3,.map (some (V0.heap.size+1))] 205))
    have hz3:V3.heap.size=V0.heap.size+1+1+1:=by omega
    have nG:BoxN V4 (V0.heap.size+1+1+1) 205 #[.slice none 0 0,.slice (some ⟨V0.heap.size+1+1,0,none⟩) 3 3,.slice (some ⟨V0.heap.size,0,none⟩) 3 3,.map (some (V0.heap.size+1))]:=by rw[←hV4,←hz3];exact BoxN.new V3 _ _
    have f4:Fr [] V3 V4:=by rw[←hV4];exact (Fr.refl [] V3).alloc _
    rw[hV4]
    have hC4:=hC.then f4
    refine hK _ _ hC4 ?_
    clear hK K hV4 hC
    try simp only[Act.put,qA,qB,qC,qD,qE,qF]
    refine headI_done ⟨by kernel_rfl,?_⟩
    simp only[List.drop_succ_cons,List.drop_zero]
    try simp only[zA,zB,zM] at nA3 nB3 nM3
    go_wp2_with fail
    exact⟨V0.heap.size+1+1,V0.heap.size,V0.heap.size+1,_,rfl,nG,nA3.fr f4 (by simp),nB3.fr f4 (by simp),nM3.fr f4 (by simp),hC4,by omega,by omega,by omega,by omega,by omega,by omega,by omega,by omega,by omega⟩
  ·rw[if_pos (by rfl)]
   have hmk:=run_makeMap (V0) 194
   go_simp
   obtain⟨V1,hW1⟩:=nmd ((V0).alloc (.map #[] 0))
   have nM:MapIs Tryz.prog 31 V1 (V0).heap.size []:=by rw[←hW1];exact MapIs.new (V0)
   have fM:Fr [] (V0) V1:=by rw[←hW1];exact (Fr.refl [] (V0)).alloc _
   have zM:(V1).heap.size=(V0).heap.size+1:=by rw[←hW1];simp
   rw[hW1]
   clear hW1 hmk
   refine hK _ _ (hC.then fM) ?_
   have hC:=hC.then fM
   clear hK K
   try simp only[Act.put,qA,qB,qC,qD,qE,qF]
   refine headI_two (i:=2) (j:=5) (by kernel_rfl) (by decide) (by decide) rfl rfl (fun K hK=>?_) (fun K hK=>?_)
   ·rw[if_pos (by rfl)]
    have hmk:=run_makeL V1
    go_simp
    obtain⟨V2,hW1,nA,fA⟩:=bxn V1 #[.slice none 0 0,.slice none 0 0,.slice none 0 0] 61
    have zA:(V2).heap.size=(V1).heap.size+1:=by rw[←hW1];simp
    rw[hW1]
    clear hW1 hmk
    refine hK _ _ (hC.then fA) ?_
    have hC:=hC.then fA
    clear hK K
    try simp only[Act.put,qA,qB,qC,qD,qE,qF]
    refine headI_only (i:=5) (by kernel_rfl) (by decide) rfl (fun K hK=>?_)
    rw[if_pos (by rfl)]
    have hmk:=run_makeL V2
    go_simp
    obtain⟨V3,hW1,nB,fB⟩:=bxn V2 #[.slice none 0 0,.slice none 0 0,.slice none 0 0] 61
    have zB:(V3).heap.size=(V2).heap.size+1:=by rw[←hW1];simp
    rw[hW1]
    clear hW1 hmk
    refine hK _ _ (hC.then fB) ?_
    have hC:=hC.then fB
    clear hK K
    try simp only[Act.put,qA,qB,qC,qD,qE,qF]
    have nA3:BoxN V3 (V1).heap.size 61 #[.slice none 0 0,.slice none 0 0,.slice none 0 0]:=by first | exact nA | exact nA.fr fB (by simp) | exact nA.fr fM (by simp) | exact (nA.fr fB (by simp)).fr fM (by simp) | exact (nA.fr fM (by simp)).fr fB (by simp)
    have nB3:BoxN V3 (V2).heap.size 61 #[.slice none 0 0,.slice none 0 0,.slice none 0 0]:=by first | exact nB | exact nB.fr fA (by simp) | exact nB.fr fM (by simp) | exact (nB.fr fA (by simp)).fr fM (by simp) | exact (nB.fr fM (by simp)).fr fA (by simp)
    have nM3:MapIs Tryz.prog 31 V3 (V0).heap.size []:=by first | exact nM | exact nM.fr fA (by simp) | exact nM.fr fB (by simp) | exact (nM.fr fA (by simp)).fr fB (by simp) | exact (nM.fr fB (by simp)).fr fA (by simp)
    clear nA nB nM
    show headJ 7 _ _ _ _ _ _ _ _ _ _ _
    refine hdJ (v:=?_) rfl (Or.inl ⟨by rfl,?_⟩) ?_
    rotate_left
    ·intro W hW;obtain _:=HSS.out W hW;go_simp;try with_reducible rfl
    try simp only[Act.put,qA,qB,qC,qD,qE,qF]
    refine headI_only (i:=8) (by kernel_rfl) (by decide) rfl (fun K hK=>?_)
    rw[if_pos (by rfl)]
    go_simp
    obtain⟨V4,hV4⟩:=nmd (V3.alloc (.cells #[.slice none 0 0,.slice (some ⟨V0.heap.size+1,0,none⟩) 3 3,.slice (some ⟨V0.heap.size+1+1,0,none⟩) 3 3,.map (some (V0.heap.size))] 205))
    have hz3:V3.heap.size=V0.heap.size+1+1+1:=by omega
    have nG:BoxN V4 (V0.heap.size+1+1+1) 205 #[.slice none 0 0,.slice (some ⟨V0.heap.size+1,0,none⟩) 3 3,.slice (some ⟨V0.heap.size+1+1,0,none⟩) 3 3,.map (some (V0.heap.size))]:=by rw[←hV4,←hz3];exact BoxN.new V3 _ _
    have f4:Fr [] V3 V4:=by rw[←hV4];exact (Fr.refl [] V3).alloc _
    rw[hV4]
    have hC4:=hC.then f4
    refine hK _ _ hC4 ?_
    clear hK K hV4 hC
    try simp only[Act.put,qA,qB,qC,qD,qE,qF]
    refine headI_done ⟨by kernel_rfl,?_⟩
    simp only[List.drop_succ_cons,List.drop_zero]
    try simp only[zA,zB,zM] at nA3 nB3 nM3
    go_wp2_with fail
    exact⟨V0.heap.size+1,V0.heap.size+1+1,V0.heap.size,_,rfl,nG,nA3.fr f4 (by simp),nB3.fr f4 (by simp),nM3.fr f4 (by simp),hC4,by omega,by omega,by omega,by omega,by omega,by omega,by omega,by omega,by omega⟩
   ·rw[if_pos (by rfl)]
    have hmk:=run_makeL V1
    go_simp
    obtain⟨V2,hW1,nB,fB⟩:=bxn V1 #[.slice none 0 0,.slice none 0 0,.slice none 0 0] 61
    have zB:(V2).heap.size=(V1).heap.size+1:=by rw[←hW1];simp
    rw[hW1]
    clear hW1 hmk
    refine hK _ _ (hC.then fB) ?_
    have hC:=hC.then fB
    clear hK K
    try simp only[Act.put,qA,qB,qC,qD,qE,qF]
    refine headI_only (i:=2) (by kernel_rfl) (by decide) rfl (fun K hK=>?_)
    rw[if_pos (by rfl)]
    have hmk:=run_makeL V2
    go_simp
    obtain⟨V3,hW1,nA,fA⟩:=bxn V2 #[.slice none 0 0,.slice none 0 0,.slice none 0 0] 61
    have zA:(V3).heap.size=(V2).heap.size+1:=by rw[←hW1];simp
    rw[hW1]
    clear hW1 hmk
    refine hK _ _ (hC.then fA) ?_
    have hC:=hC.then fA
    clear hK K
    try simp only[Act.put,qA,qB,qC,qD,qE,qF]
    have nA3:BoxN V3 (V2).heap.size 61 #[.slice none 0 0,.slice none 0 0,.slice none 0 0]:=by first | exact nA | exact nA.fr fB (by simp) | exact nA.fr fM (by simp) | exact (nA.fr fB (by simp)).fr fM (by simp) | exact (nA.fr fM (by simp)).fr fB (by simp)
    have nB3:BoxN V3 (V1).heap.size 61 #[.slice none 0 0,.slice none 0 0,.slice none 0 0]:=by first | exact nB | exact nB.fr fA (by simp) | exact nB.fr fM (by simp) | exact (nB.fr fA (by simp)).fr fM (by simp) | exact (nB.fr fM (by simp)).fr fA (by simp)
    have nM3:MapIs Tryz.prog 31 V3 (V0).heap.size []:=by first | exact nM | exact nM.fr fA (by simp) | exact nM.fr fB (by simp) | exact (nM.fr fA (by simp)).fr fB (by simp) | exact (nM.fr fB (by simp)).fr fA (by simp)
    clear nA nB nM
    show headJ 7 _ _ _ _ _ _ _ _ _ _ _
    refine hdJ (v:=?_) rfl (Or.inl ⟨by rfl,?_⟩) ?_
    rotate_left
    ·intro W hW;obtain _:=HSS.out W hW;go_simp;try with_reducible rfl
    try simp only[Act.put,qA,qB,qC,qD,qE,qF]
    refine headI_only (i:=8) (by kernel_rfl) (by decide) rfl (fun K hK=>?_)
    rw[if_pos (by rfl)]
    go_simp
    obtain⟨V4,hV4⟩:=nmd (V3.alloc (.cells #[.slice none 0 0,.slice (some ⟨V0.heap.size+1+1,0,none⟩) 3 3,.slice (some ⟨V0.heap.size+1,0,none⟩) 3 3,.map (some (V0.heap.size))] 205))
    have hz3:V3.heap.size=V0.heap.size+1+1+1:=by omega
    have nG:BoxN V4 (V0.heap.size+1+1+1) 205 #[.slice none 0 0,.slice (some ⟨V0.heap.size+1+1,0,none⟩) 3 3,.slice (some ⟨V0.heap.size+1,0,none⟩) 3 3,.map (some (V0.heap.size))]:=by rw[←hV4,←hz3];exact BoxN.new V3 _ _
    have f4:Fr [] V3 V4:=by rw[←hV4];exact (Fr.refl [] V3).alloc _
    rw[hV4]
    have hC4:=hC.then f4
    refine hK _ _ hC4 ?_
    clear hK K hV4 hC
    try simp only[Act.put,qA,qB,qC,qD,qE,qF]
    refine headI_done ⟨by kernel_rfl,?_⟩
    simp only[List.drop_succ_cons,List.drop_zero]
    try simp only[zA,zB,zM] at nA3 nB3 nM3
    go_wp2_with fail
    exact⟨V0.heap.size+1+1,V0.heap.size+1,V0.heap.size,_,rfl,nG,nA3.fr f4 (by simp),nB3.fr f4 (by simp),nM3.fr f4 (by simp),hC4,by omega,by omega,by omega,by omega,by omega,by omega,by omega,by omega,by omega⟩
 rintro a' w2 ⟨A,B,m,g,rfl,hbg,hbA,hbB,hm0,hf2,d1,d2,d3,d4,d5,d6,d7,d8,d9⟩
 simp only[qA,qB,qC]
 obtain⟨PW,hPW⟩:∃ PW:World→Prop,PW=fun W=>Fr [] w W∧Cs W L ([(AV.mk ⟨1,.nil,.one 1 ⟨#[120]⟩ false⟩ none 0 (some ⟨cb0,0,none⟩) xd0),(AV.mk ⟨2,.one 1 ⟨#[120]⟩ false,.one 2 ⟨#[121,122]⟩ false⟩ (some ⟨ca1,0,none⟩) xc1 (some ⟨cb1,0,none⟩) xd1),(AV.mk ⟨3,.one 3 ⟨#[]⟩ true,.nil⟩ (some ⟨ca2,0,none⟩) xc2 none 0)].flatMap AV.cs)∧Cs W cb0 (chC 1 ⟨#[120]⟩ false)∧Cs W ca1 (chC 1 ⟨#[120]⟩ false)∧Cs W cb1 (chC 2 ⟨#[121,122]⟩ false)∧Cs W ca2 (chC 3 ⟨#[]⟩ true):=⟨_,rfl⟩
 have hP0:∀ W,Fr [] w W→PW W:=fun W hW=>by
  rw[hPW]
  exact⟨hW,HP0.out.1.fr0 hW,CLat.cs (HP0.out.2.1.w.fr0 hW),CLat.cs (HP0.out.2.2.1.r.fr0 hW),CLat.cs (HP0.out.2.2.1.w.fr0 hW),CLat.cs (HP0.out.2.2.2.r.fr0 hW)⟩
 have HV2:Hid (GIs w2 g m A B 0 0 none [] #[.slice none 0 0,.slice none 0 0,.slice none 0 0] #[.slice none 0 0,.slice none 0 0,.slice none 0 0] [] fun W=>Fr [] w W∧Cs W L ([(AV.mk ⟨1,.nil,.one 1 ⟨#[120]⟩ false⟩ none 0 (some ⟨cb0,0,none⟩) xd0),(AV.mk ⟨2,.one 1 ⟨#[120]⟩ false,.one 2 ⟨#[121,122]⟩ false⟩ (some ⟨ca1,0,none⟩) xc1 (some ⟨cb1,0,none⟩) xd1),(AV.mk ⟨3,.one 3 ⟨#[]⟩ true,.nil⟩ (some ⟨ca2,0,none⟩) xc2 none 0)].flatMap AV.cs)∧Cs W cb0 (chC 1 ⟨#[120]⟩ false)∧Cs W ca1 (chC 1 ⟨#[120]⟩ false)∧Cs W cb1 (chC 2 ⟨#[121,122]⟩ false)∧Cs W ca2 (chC 3 ⟨#[]⟩ true)):=by
  have h:GIs w2 g m A B 0 0 none [] #[.slice none 0 0,.slice none 0 0,.slice none 0 0] #[.slice none 0 0,.slice none 0 0,.slice none 0 0] [] PW:=⟨hbg,Own.nil _ _ _,hbA,hbB,hm0,by omega,by simp[blk],fun W hW=>hP0 W (hf2.trans hW (fun k hk=>.inr (by simp[GM,blk] at hk;omega)))⟩
  rw[hPW] at h
  exact Hd h
 have hd2:=HV2.out.lt
 clear hPW hP0 PW hbg hbA hbB hm0 hf2 d1 d2 d3 d4 d5 d6 d7 d8 d9 HP0 hd2 HF1 HI HSS hC
 go_upto_region 7 with fail
 refine wp_loop_rounds 4 ?_
 rw[rounds_succ]
 have hcs:=(HV2.out.kept.now).2.1
 have z0:(w2).cell? ⟨L,0,none⟩=some (.int .i64 1):=hcs.2 0 _ rfl
 have z1:(w2).cell? ⟨L,1,none⟩=some (.int .i64 0):=hcs.2 1 _ rfl
 have z2:(w2).cell? ⟨L,2,none⟩=some (.int .i64 1):=hcs.2 2 _ rfl
 have z3:(w2).cell? ⟨L,3,none⟩=some (.string ⟨#[]⟩):=hcs.2 3 _ rfl
 have z4:(w2).cell? ⟨L,4,none⟩=some (.slice none 0 0):=hcs.2 4 _ rfl
 have z5:(w2).cell? ⟨L,5,none⟩=some (.slice (some ⟨cb0,0,none⟩) 1 xd0):=hcs.2 5 _ rfl
 clear hcs
 go_upto_region 9 with fail
 obtain⟨Y0,hY,nY,fY⟩:=bxn w2 #[.int .i64 1,.int .i64 0,.int .i64 1,.string ⟨#[]⟩,.slice none 0 0,.slice (some ⟨cb0,0,none⟩) 1 xd0] 91
 rw[hY]
 have HVY:=Hd (HV2.out.fr0 fY)
 have hRlt:∀ k∈GM g m A B none,k<(w2).heap.size:=HV2.out.lt
 obtain⟨R,hR⟩:=nmd ((w2).heap.size)
 rw[hR] at nY hRlt ⊢
 have HRX:=Hd nY
 have HRL:=Hd hRlt
 clear hY nY fY z0 z1 z2 z3 z4 z5 hRlt hR
 have HSS:=Hd (fun (W:World) (hW:W.cell? ⟨g,0,none⟩=some (.slice none 0 0)∧W.cell? ⟨R,0,none⟩=some (.int .i64 1)∧W.cell? ⟨R,1,none⟩=some (.int .i64 0)∧W.cell? ⟨R,2,none⟩=some (.int .i64 1)∧W.cell? ⟨R,3,none⟩=some (.string ⟨#[]⟩))=>hW)
 have hbx:=HVY.out.box
 have hrx:=HRX.out
 have hC:(fun W:World=>W.cell? ⟨g,0,none⟩=some (.slice none 0 0)∧W.cell? ⟨R,0,none⟩=some (.int .i64 1)∧W.cell? ⟨R,1,none⟩=some (.int .i64 0)∧W.cell? ⟨R,2,none⟩=some (.int .i64 1)∧W.cell? ⟨R,3,none⟩=some (.string ⟨#[]⟩)) Y0.drew:=⟨hbx.c 0,hrx.c 0,hrx.c 1,hrx.c 2,hrx.c 3⟩
 refine wp_region_head (fun W:World=>W.cell? ⟨g,0,none⟩=some (.slice none 0 0)∧W.cell? ⟨R,0,none⟩=some (.int .i64 1)∧W.cell? ⟨R,1,none⟩=some (.int .i64 0)∧W.cell? ⟨R,2,none⟩=some (.int .i64 1)∧W.cell? ⟨R,3,none⟩=some (.string ⟨#[]⟩)) 11 (by kernel_rfl) ?_ (by decide)
 show headJ 0 _ _ _ _ _ _ _ _ _ _ _
 iterate 7
  refine hdJ (v:=?_) rfl (Or.inl ⟨by rfl,?_⟩) ?_
  rotate_left
  ·intro W hW;obtain⟨x0,k0,k1,k2,k3⟩:=HSS.out W hW;go_simp;try with_reducible rfl
  try simp only[Act.put,qA,qB,qC,qD,qE,qF]
 refine headI_only (i:=7) (by kernel_rfl) (by decide) rfl (fun K hK=>?_)
 rw[if_pos (by rfl)]
 go_simp
 obtain⟨Z1,hZ1,n1,f1⟩:=bxd Y0 #[.int .i64 1,.int .i64 0,.int .i64 1,.string ⟨#[]⟩] 89
 rw[hZ1]
 have hb1:=hbx.fr f1 (by simp)
 have hr1:=hrx.fr f1 (by simp)
 refine hK _ _ ⟨hb1.c 0,hr1.c 0,hr1.c 1,hr1.c 2,hr1.c 3⟩ ?_
 clear hK K hZ1 hC
 try simp only[Act.put,qA,qB,qC,qD,qE,qF]
 refine headI_only (i:=8) (by kernel_rfl) (by decide) rfl (fun K hK=>?_)
 rw[if_pos (by rfl)]
 obtain⟨ii,hii,iz0,iz1,iz2⟩:=info_key
 have hO1:=HVY.out.own.fr f1 (by simp)
 refine wp_app (.tmp 41) (.tmp 44) 60 rfl 89 ii _ 4 40 Tryz.underlying60 hii iz0 iz1 iz2 rfl (by decide) none 0 0 [] rfl hO1 ⟨Y0.heap.size,0,none⟩ 1 1 [.int .i64 1,.int .i64 0,.int .i64 1,.string ⟨#[]⟩] rfl rfl (fun j u hu=>by rw[add_mid',n1.c j];simpa using hu) (by simp[Value.oneCell']) (by unfold maxLen;omega) (by omega) ?_
 intro K0 c0 Z2 ho2 hf2 hK2
 rw[show (0+1:Nat)=1 from rfl] at ho2 ⊢
 have hgK:g ∉ blk none:=HVY.out.d2.1
 have hRK:R ∉ blk none:=fun hm=>by have h1:=HRL.out R (by simp[GM,hm]);omega
 have hb2:=hb1.fr hf2 hgK
 have hr2:=hr1.fr hf2 hRK
 have hC:(fun W:World=>W.cell? ⟨g,0,none⟩=some (.slice none 0 0)∧W.cell? ⟨R,0,none⟩=some (.int .i64 1)∧W.cell? ⟨R,1,none⟩=some (.int .i64 0)∧W.cell? ⟨R,2,none⟩=some (.int .i64 1)∧W.cell? ⟨R,3,none⟩=some (.string ⟨#[]⟩)) Z2:=⟨hb2.c 0,hr2.c 0,hr2.c 1,hr2.c 2,hr2.c 3⟩
 refine hK _ _ hC ?_
 clear hK K
 try simp only[Act.put,qA,qB,qC,qD,qE,qF]
 show headJ 9 _ _ _ _ _ _ _ _ _ _ _
 iterate 2
  refine hdJ (v:=?_) rfl (Or.inl ⟨by rfl,?_⟩) ?_
  rotate_left
  ·intro W hW;obtain⟨x0,k0,k1,k2,k3⟩:=HSS.out W hW;go_simp;try with_reducible rfl
  try simp only[Act.put,qA,qB,qC,qD,qE,qF]
 refine headI_done ⟨by kernel_rfl,?_⟩
 simp only[List.drop_succ_cons,List.drop_zero]
 have q0:=hb2.k0
 have q1:=hb2.f 0
 have HZ2:=Hd (And.intro ho2 (And.intro hf2 (And.intro hK2 (And.intro hb2 (And.intro hr2 f1)))))
 have HD:=Hd (And.intro hgK hRK)
 clear ho2 hf2 hK2 hb2 hr2 f1 hgK hRK hbx hrx hb1 hr1 n1 hO1 hC HSS
 go_upto_region 10 with fail
 obtain⟨Z0,hZ⟩:=nmd (Z2.setCell ⟨g,0,none⟩ (.slice K0 1 c0))
 have hbZ:BoxN Z0 g 205 #[.slice K0 1 c0,.slice (some ⟨A,0,none⟩) 3 3,.slice (some ⟨B,0,none⟩) 3 3,.map (some m)]:=by rw[←hZ];exact HZ2.out.2.2.2.1.setAt 0 _
 have fZ:Fr [g] Z2 Z0:=by rw[←hZ];exact (Fr.refl [g] Z2).set (.inl (by simp)) _
 try rw[hZ]
 have hgR:R≠g:=fun h=>by have h1:=HRL.out g (by simp[GM]);omega
 have hrZ:BoxN Z0 R 91 _:=HZ2.out.2.2.2.2.1.fr fZ (by simpa using hgR)
 have hP:=(HVY.out.fr0 HZ2.out.2.2.2.2.2).putK HZ2.out.2.1 HZ2.out.1 HZ2.out.2.2.1 fZ hbZ
 have hRL:∀ k∈GM g m A B K0,k≠R:=fun k hk e=>by
  rcases hP.2.2 k hk with h1 | h1
  ·have h2:=HRL.out k h1;omega
  ·have h2:=HZ2.out.2.2.2.2.2.size
   have h3:=HRX.out.lt
   omega
 have HRN:=Hd hRL
 have HRZ:=Hd hrZ
 have HVZ:=Hd (hP.1.addP (Q:=fun W=>BoxN W R 91 #[.int .i64 1,.int .i64 0,.int .i64 1,.string ⟨#[]⟩,.slice none 0 0,.slice (some ⟨cb0,0,none⟩) 1 xd0]) (fun W hW=>hrZ.fr hW (fun hm=>hRL R hm rfl)))
 clear hbZ fZ hgR hrZ hP hRL hZ q0 q1 HZ2 HD
 have r4:=HRZ.out.k4
 have r5:=HRZ.out.k5
 go_wp2_with fail
 refine wp_loop_rounds 1 ?_
 rw[rounds_succ]
 go_wp2_with ((go_at_call 102;(with_reducible refine (Sorted_nil _ Z0).mono ?_);rintro e w' ⟨rfl,rfl⟩))
 refine wp_loop_rounds 1 ?_
 rw[rounds_succ]
 go_wp2_with fail
 refine wp_loop_rounds 2 ?_
 rw[rounds_succ]
 clear r4 r5
 have HQQ:=Hd (HVZ.out.kept.now)
 have hcc:Cs Z0 cb0 (chC 1 ⟨#[120]⟩ false):=HQQ.out.1.2.2.1
 have z0:(Z0).cell? ⟨cb0,0,none⟩=some (.int .i64 16):=hcc.2 0 _ rfl
 have z1:(Z0).cell? ⟨cb0,1,none⟩=some (.string ⟨#[]⟩):=hcc.2 1 _ rfl
 have z2:(Z0).cell? ⟨cb0,2,none⟩=some (.int .i64 1):=hcc.2 2 _ rfl
 have z3:(Z0).cell? ⟨cb0,3,none⟩=some (.int .i64 0):=hcc.2 3 _ rfl
 have z4:(Z0).cell? ⟨cb0,4,none⟩=some (.string ⟨#[]⟩):=hcc.2 4 _ rfl
 have z5:(Z0).cell? ⟨cb0,5,none⟩=some (.string ⟨#[120]⟩):=hcc.2 5 _ rfl
 have z6:(Z0).cell? ⟨cb0,6,none⟩=some (.bool false):=hcc.2 6 _ rfl
 clear hcc
 go_upto_region 27 with fail
 obtain⟨U0,hU0,n0,f0⟩:=bxn Z0 #[.int .i64 16,.string ⟨#[]⟩,.int .i64 1,.int .i64 0,.string ⟨#[]⟩,.string ⟨#[120]⟩,.bool false] 95
 rw[hU0]
 have HU0:=Hd (HVZ.out.fr0 f0)
 have hT:∀ k∈GM g m A B K0,k<(Z0).heap.size:=HVZ.out.lt
 obtain⟨T,hTe⟩:=nmd ((Z0).heap.size)
 rw[hTe] at n0 hT ⊢
 have HN0:=Hd n0
 have HT:=Hd hT
 have HF0:=Hd f0
 clear hU0 n0 f0 hT hTe z0 z1 z2 z3 z4 z5 z6
 have HSS:=Hd (fun (W:World) (hW:Fr [m] U0 W)=>(⟨(HU0.out.box.fr hW (by simpa using HU0.out.d1.1)).c 3,(HN0.out.fr hW (by have:=HT.out m (by simp[GM]);simp;omega)).c 0,(HN0.out.fr hW (by have:=HT.out m (by simp[GM]);simp;omega)).c 1,(HN0.out.fr hW (by have:=HT.out m (by simp[GM]);simp;omega)).c 2,(HN0.out.fr hW (by have:=HT.out m (by simp[GM]);simp;omega)).c 3,(HN0.out.fr hW (by have:=HT.out m (by simp[GM]);simp;omega)).c 4⟩:W.cell? ⟨g,3,none⟩=some (.map (some m))∧W.cell? ⟨T,0,none⟩=some (.int .i64 16)∧W.cell? ⟨T,1,none⟩=some (.string ⟨#[]⟩)∧W.cell? ⟨T,2,none⟩=some (.int .i64 1)∧W.cell? ⟨T,3,none⟩=some (.int .i64 0)∧W.cell? ⟨T,4,none⟩=some (.string ⟨#[]⟩)))
 have hC:Fr [m] U0 U0.drew:=(Fr.refl _ U0).drew
 refine wp_region_head (fun W:World=>Fr [m] U0 W) 12 (by kernel_rfl) ?_ (by decide)
 show headJ 0 _ _ _ _ _ _ _ _ _ _ _
 iterate 7
  refine hdJ (v:=?_) rfl (Or.inl ⟨by rfl,?_⟩) ?_
  rotate_left
  ·intro W hW;obtain⟨m3,k0,k1,k2,k3,k4⟩:=HSS.out W hW;go_simp;try with_reducible rfl
  try simp only[Act.put,qA,qB,qC,qD,qE,qF]
 refine headI_only (i:=7) (by kernel_rfl) (by decide) rfl (fun K hK=>?_)
 rw[if_pos (by rfl)]
 go_simp
 obtain⟨U1,hU1,n1,f1⟩:=bxd U0 #[.int .i64 0] 3
 rw[hU1]
 refine hK _ _ (f1.mono (by simp)) ?_
 clear hK K hC hU1
 try simp only[Act.put,qA,qB,qC,qD,qE,qF]
 refine headI_only (i:=8) (by kernel_rfl) (by decide) rfl (fun K hK=>?_)
 rw[if_pos (by rfl)]
 have hm1:=HU0.out.wm.fr f1 (by simp)
 obtain⟨kl,hkl⟩:=keyOf_port1
 obtain⟨st,U2,hme,f2,hm2,hst2⟩:=MapIs.entry_new key_name Tryz.underlying194 zero_ints hm1 hkl (by simp)
 unfold portV at hme
 go_simp
 have f02:Fr [m] U0 U2:=(f1.mono (by simp)).then f2
 refine hK _ _ f02 ?_
 clear hK K hme
 have hC:=f02
 try simp only[Act.put,qA,qB,qC,qD,qE,qF]
 show headJ 9 _ _ _ _ _ _ _ _ _ _ _
 refine hdJ (v:=?_) rfl (Or.inl ⟨by rfl,?_⟩) ?_
 rotate_left
 ·intro W hW;obtain⟨m3,k0,k1,k2,k3,k4⟩:=HSS.out W hW;go_simp;try with_reducible rfl
 try simp only[Act.put,qA,qB,qC,qD,qE,qF]
 show headJ 11 _ _ _ _ _ _ _ _ _ _ _
 refine hdJ (v:=?_) rfl (Or.inl ⟨by rfl,?_⟩) ?_
 rotate_left
 ·intro W hW;obtain⟨m3,k0,k1,k2,k3,k4⟩:=HSS.out W hW;go_simp;try with_reducible rfl
 try simp only[Act.put,qA,qB,qC,qD,qE,qF]
 refine headI_only (i:=10) (by kernel_rfl) (by decide) rfl (fun K hK=>?_)
 rw[if_pos (by rfl)]
 obtain⟨jj,hjj,jz0,jz1,jz2⟩:=info_int
 have n2:=n1.fr f2 (by have:=HU0.out.wm.lt;simp;omega)
 refine wp_app (.tmp 126) (.tmp 128) 36 rfl 3 jj _ 1 8 Tryz.underlying36 hjj jz0 jz1 jz2 rfl (by decide) none 0 0 [] rfl (Own.nil _ _ _) ⟨U0.heap.size,0,none⟩ 1 1 [.int .i64 0] rfl rfl (fun j u hu=>by rw[add_mid',n2.c j];simpa using hu) (by simp[Value.oneCell']) (by unfold maxLen;omega) (by omega) ?_
 intro AR cr U3 ho3 hf3 hA3
 rw[show (0+1:Nat)=1 from rfl] at ho3 ⊢
 obtain⟨gg,rfl,hcg⟩:=Cs.of_own ho3 (by omega)
 have f03:Fr [m] U0 U3:=f02.trans hf3 (by simp[blk])
 refine hK _ _ f03 ?_
 clear hK K hC
 try simp only[Act.put,qA,qB,qC,qD,qE,qF]
 refine headI_done ⟨by kernel_rfl,?_⟩
 simp only[List.drop_succ_cons,List.drop_zero]
 have hgg:U2.heap.size≤gg:=by
  rcases hA3 gg (by simp[blk]) with h | h
  ·simp[blk] at h
  ·exact h
 obtain⟨U4,hes,f4,hm4⟩:=hst2 U3 (.slice (some ⟨gg,0,none⟩) 1 cr) (hf3.block _ hm2.lt (by simp[blk]))
 have f04:Fr [m] U0 U4:=f03.then f4
 have hcg4:Cs U4 gg [.int .i64 0]:=hcg.fr f4 (by have:=hm2.lt;simp;omega)
 have hVM:=HU0.out.lt
 have hV4:=HU0.out.putW f04 hm4
 have hsz12:U0.heap.size≤U2.heap.size:=f02.size
 have HVE:=Hd (hV4.addP (Q:=fun W=>Cs W gg [.int .i64 0]) (fun W hW=>hcg4.fr hW (fun hm=>by have:=hVM gg hm;omega)))
 obtain⟨X1,hYe⟩:=nmd (U4)
 rw[hYe] at HVE hes
 clear hYe hVM hV4 hsz12 f04 f03 f02 hcg hcg4 hm1 hm2 hm4 f1 f2 f4 hf3 hA3 ho3 n1 n2 hst2 HSS hgg HU0 HN0 HT HF0
 go_wp2_with fail
 clear hes
 rw[rounds_succ]
 go_wp2_with fail
 rw[rounds_succ]
 have hcs:=(HVE.out.kept.now).1.1.2.1
 have z0:(X1).cell? ⟨L,6,none⟩=some (.int .i64 2):=hcs.2 6 _ rfl
 have z1:(X1).cell? ⟨L,7,none⟩=some (.int .i64 0):=hcs.2 7 _ rfl
 have z2:(X1).cell? ⟨L,8,none⟩=some (.int .i64 2):=hcs.2 8 _ rfl
 have z3:(X1).cell? ⟨L,9,none⟩=some (.string ⟨#[]⟩):=hcs.2 9 _ rfl
 have z4:(X1).cell? ⟨L,10,none⟩=some (.slice (some ⟨ca1,0,none⟩) 1 xc1):=hcs.2 10 _ rfl
 have z5:(X1).cell? ⟨L,11,none⟩=some (.slice (some ⟨cb1,0,none⟩) 1 xd1):=hcs.2 11 _ rfl
 clear hcs
 go_upto_region 9 with fail
 obtain⟨Y1,hY,nY,fY⟩:=bxn X1 #[.int .i64 2,.int .i64 0,.int .i64 2,.string ⟨#[]⟩,.slice (some ⟨ca1,0,none⟩) 1 xc1,.slice (some ⟨cb1,0,none⟩) 1 xd1] 91
 rw[hY]
 have HVY:=Hd (HVE.out.fr0 fY)
 have hRlt:∀ k∈GM g m A B K0,k<(X1).heap.size:=HVE.out.lt
 obtain⟨R,hR⟩:=nmd ((X1).heap.size)
 rw[hR] at nY hRlt ⊢
 have HRX:=Hd nY
 have HRL:=Hd hRlt
 clear hY nY fY z0 z1 z2 z3 z4 z5 hRlt hR
 have HSS:=Hd (fun (W:World) (hW:W.cell? ⟨g,0,none⟩=some (.slice K0 1 c0)∧W.cell? ⟨R,0,none⟩=some (.int .i64 2)∧W.cell? ⟨R,1,none⟩=some (.int .i64 0)∧W.cell? ⟨R,2,none⟩=some (.int .i64 2)∧W.cell? ⟨R,3,none⟩=some (.string ⟨#[]⟩))=>hW)
 have hbx:=HVY.out.box
 have hrx:=HRX.out
 have hC:(fun W:World=>W.cell? ⟨g,0,none⟩=some (.slice K0 1 c0)∧W.cell? ⟨R,0,none⟩=some (.int .i64 2)∧W.cell? ⟨R,1,none⟩=some (.int .i64 0)∧W.cell? ⟨R,2,none⟩=some (.int .i64 2)∧W.cell? ⟨R,3,none⟩=some (.string ⟨#[]⟩)) Y1.drew:=⟨hbx.c 0,hrx.c 0,hrx.c 1,hrx.c 2,hrx.c 3⟩
 refine wp_region_head (fun W:World=>W.cell? ⟨g,0,none⟩=some (.slice K0 1 c0)∧W.cell? ⟨R,0,none⟩=some (.int .i64 2)∧W.cell? ⟨R,1,none⟩=some (.int .i64 0)∧W.cell? ⟨R,2,none⟩=some (.int .i64 2)∧W.cell? ⟨R,3,none⟩=some (.string ⟨#[]⟩)) 11 (by kernel_rfl) ?_ (by decide)
 show headJ 0 _ _ _ _ _ _ _ _ _ _ _
 iterate 7
  refine hdJ (v:=?_) rfl (Or.inl ⟨by rfl,?_⟩) ?_
  rotate_left
  ·intro W hW;obtain⟨x0,k0,k1,k2,k3⟩:=HSS.out W hW;go_simp;try with_reducible rfl
  try simp only[Act.put,qA,qB,qC,qD,qE,qF]
 refine headI_only (i:=7) (by kernel_rfl) (by decide) rfl (fun K hK=>?_)
 rw[if_pos (by rfl)]
 go_simp
 obtain⟨Z1,hZ1,n1,f1⟩:=bxd Y1 #[.int .i64 2,.int .i64 0,.int .i64 2,.string ⟨#[]⟩] 89
 rw[hZ1]
 have hb1:=hbx.fr f1 (by simp)
 have hr1:=hrx.fr f1 (by simp)
 refine hK _ _ ⟨hb1.c 0,hr1.c 0,hr1.c 1,hr1.c 2,hr1.c 3⟩ ?_
 clear hK K hZ1 hC
 try simp only[Act.put,qA,qB,qC,qD,qE,qF]
 refine headI_only (i:=8) (by kernel_rfl) (by decide) rfl (fun K hK=>?_)
 rw[if_pos (by rfl)]
 obtain⟨ii,hii,iz0,iz1,iz2⟩:=info_key
 have hO1:=HVY.out.own.fr f1 (by simp)
 refine wp_app (.tmp 41) (.tmp 44) 60 rfl 89 ii _ 4 40 Tryz.underlying60 hii iz0 iz1 iz2 rfl (by decide) K0 1 c0 _ rfl hO1 ⟨Y1.heap.size,0,none⟩ 1 1 [.int .i64 2,.int .i64 0,.int .i64 2,.string ⟨#[]⟩] rfl rfl (fun j u hu=>by rw[add_mid',n1.c j];simpa using hu) (by simp[Value.oneCell']) (by unfold maxLen;omega) (by omega) ?_
 intro K1 c1 Z2 ho2 hf2 hK2
 rw[show (1+1:Nat)=2 from rfl] at ho2 ⊢
 have hgK:g ∉ blk K0:=HVY.out.d2.1
 have hRK:R ∉ blk K0:=fun hm=>by have h1:=HRL.out R (by simp[GM,hm]);omega
 have hb2:=hb1.fr hf2 hgK
 have hr2:=hr1.fr hf2 hRK
 have hC:(fun W:World=>W.cell? ⟨g,0,none⟩=some (.slice K0 1 c0)∧W.cell? ⟨R,0,none⟩=some (.int .i64 2)∧W.cell? ⟨R,1,none⟩=some (.int .i64 0)∧W.cell? ⟨R,2,none⟩=some (.int .i64 2)∧W.cell? ⟨R,3,none⟩=some (.string ⟨#[]⟩)) Z2:=⟨hb2.c 0,hr2.c 0,hr2.c 1,hr2.c 2,hr2.c 3⟩
 refine hK _ _ hC ?_
 clear hK K
 try simp only[Act.put,qA,qB,qC,qD,qE,qF]
 show headJ 9 _ _ _ _ _ _ _ _ _ _ _
 iterate 2
  refine hdJ (v:=?_) rfl (Or.inl ⟨by rfl,?_⟩) ?_
  rotate_left
  ·intro W hW;obtain⟨x0,k0,k1,k2,k3⟩:=HSS.out W hW;go_simp;try with_reducible rfl
  try simp only[Act.put,qA,qB,qC,qD,qE,qF]
 refine headI_done ⟨by kernel_rfl,?_⟩
 simp only[List.drop_succ_cons,List.drop_zero]
 have q0:=hb2.k0
 have q1:=hb2.f 0
 have HZ2:=Hd (And.intro ho2 (And.intro hf2 (And.intro hK2 (And.intro hb2 (And.intro hr2 f1)))))
 have HD:=Hd (And.intro hgK hRK)
 clear ho2 hf2 hK2 hb2 hr2 f1 hgK hRK hbx hrx hb1 hr1 n1 hO1 hC HSS
 go_upto_region 10 with fail
 obtain⟨Z1,hZ⟩:=nmd (Z2.setCell ⟨g,0,none⟩ (.slice K1 2 c1))
 have hbZ:BoxN Z1 g 205 #[.slice K1 2 c1,.slice (some ⟨A,0,none⟩) 3 3,.slice (some ⟨B,0,none⟩) 3 3,.map (some m)]:=by rw[←hZ];exact HZ2.out.2.2.2.1.setAt 0 _
 have fZ:Fr [g] Z2 Z1:=by rw[←hZ];exact (Fr.refl [g] Z2).set (.inl (by simp)) _
 try rw[hZ]
 have hgR:R≠g:=fun h=>by have h1:=HRL.out g (by simp[GM]);omega
 have hrZ:BoxN Z1 R 91 _:=HZ2.out.2.2.2.2.1.fr fZ (by simpa using hgR)
 have hP:=(HVY.out.fr0 HZ2.out.2.2.2.2.2).putK HZ2.out.2.1 HZ2.out.1 HZ2.out.2.2.1 fZ hbZ
 have hRL:∀ k∈GM g m A B K1,k≠R:=fun k hk e=>by
  rcases hP.2.2 k hk with h1 | h1
  ·have h2:=HRL.out k h1;omega
  ·have h2:=HZ2.out.2.2.2.2.2.size
   have h3:=HRX.out.lt
   omega
 have HRN:=Hd hRL
 have HRZ:=Hd hrZ
 have HVZ:=Hd (hP.1.addP (Q:=fun W=>BoxN W R 91 #[.int .i64 2,.int .i64 0,.int .i64 2,.string ⟨#[]⟩,.slice (some ⟨ca1,0,none⟩) 1 xc1,.slice (some ⟨cb1,0,none⟩) 1 xd1]) (fun W hW=>hrZ.fr hW (fun hm=>hRL R hm rfl)))
 clear hbZ fZ hgR hrZ hP hRL hZ q0 q1 HZ2 HD
 have r4:=HRZ.out.k4
 go_wp2_with fail
 refine wp_loop_rounds 2 ?_
 clear r4 HQQ
 have HQQ:=Hd (HVZ.out.kept.now)
 rw[rounds_succ]
 have hcc:Cs Z1 ca1 (chC 1 ⟨#[120]⟩ false):=HQQ.out.1.1.1.2.2.2.1
 have z0:(Z1).cell? ⟨ca1,0,none⟩=some (.int .i64 16):=hcc.2 0 _ rfl
 have z1:(Z1).cell? ⟨ca1,1,none⟩=some (.string ⟨#[]⟩):=hcc.2 1 _ rfl
 have z2:(Z1).cell? ⟨ca1,2,none⟩=some (.int .i64 1):=hcc.2 2 _ rfl
 have z3:(Z1).cell? ⟨ca1,3,none⟩=some (.int .i64 0):=hcc.2 3 _ rfl
 have z4:(Z1).cell? ⟨ca1,4,none⟩=some (.string ⟨#[]⟩):=hcc.2 4 _ rfl
 have z5:(Z1).cell? ⟨ca1,5,none⟩=some (.string ⟨#[120]⟩):=hcc.2 5 _ rfl
 have z6:(Z1).cell? ⟨ca1,6,none⟩=some (.bool false):=hcc.2 6 _ rfl
 clear hcc
 go_upto_region 14 with fail
 obtain⟨D0,hD0,n0,f0⟩:=bxn Z1 #[.int .i64 16,.string ⟨#[]⟩,.int .i64 1,.int .i64 0,.string ⟨#[]⟩,.string ⟨#[120]⟩,.bool false] 95
 rw[hD0]
 obtain⟨d0,d1,d2,d3,d4⟩:=n0.m5
 have HFD:=Hd f0
 clear hD0 f0 n0 z0 z1 z2 z3 z4 z5 z6
 obtain⟨ii,hii,iz0,iz1,iz2⟩:=info_name
 go_upto_region 15 with (at_builtin;(with_reducible refine wpList_app_tmp (w:=D0) rfl (.tmp 55) (.tmp 58) 101 rfl 31 ii _ 5 56 Tryz.underlying101 hii iz0 iz1 iz2 rfl (by decide) none 0 0 [] rfl (Own.nil _ _ _) 1 1 [.int .i64 16,.string ⟨#[]⟩,.int .i64 1,.int .i64 0,.string ⟨#[]⟩] 31 rfl rfl (by simp[Value.oneCell']) (by unfold maxLen;omega) (by omega) ?_);intro A2 c2 D2 ho hf hs;rw[show (0+1:Nat)=1 from rfl] at ho ⊢;obtain⟨nb,rfl,hnb⟩:=Cs.of_own ho (by omega);have HNB:Hid (Cs D2 nb (nameC 1)):=Hd hnb;have HD2:Hid (Fr [] D0 D2):=Hd (hf.mono (by simp[blk]));clear ho hf hs hnb)
 go_wp2_with fail
 rw[rounds_succ]
 go_wp2_with ((go_at_call 102;(with_reducible refine (Sorted_one nb c2 1 _ D2 HNB.out).mono ?_);rintro e D3 ⟨sb,sc,rfl,hsb,hf3⟩;have HSB:=Hd hsb;have HD3:Hid (Fr [] Z1 D3):=Hd ((HFD.out.then HD2.out).then hf3);clear hsb hf3))
 refine wp_loop_rounds 2 ?_
 rw[rounds_succ]
 clear d0 d1 d2 d3 d4 HNB HD2 HFD iz0 iz1 iz2 hii
 have z0:D3.cell? ⟨sb,0,none⟩=some (.int .i64 16):=HSB.out.2 0 _ rfl
 have z1:D3.cell? ⟨sb,1,none⟩=some (.string ⟨#[]⟩):=HSB.out.2 1 _ rfl
 have z2:D3.cell? ⟨sb,2,none⟩=some (.int .i64 1):=HSB.out.2 2 _ rfl
 have z3:D3.cell? ⟨sb,3,none⟩=some (.int .i64 0):=HSB.out.2 3 _ rfl
 have z4:D3.cell? ⟨sb,4,none⟩=some (.string ⟨#[]⟩):=HSB.out.2 4 _ rfl
 go_upto_region 19 with fail
 obtain⟨D4,hD4,n4,f4⟩:=bxn D3 #[.int .i64 16,.string ⟨#[]⟩,.int .i64 1,.int .i64 0,.string ⟨#[]⟩] 31
 rw[hD4]
 have HF4:=Hd (HD3.out.then f4)
 obtain⟨N,hN⟩:=nmd (D3.heap.size)
 rw[hN] at n4 ⊢
 have HN4:=Hd n4
 have HG4:=Hd (HVZ.out.fr0 HF4.out)
 clear z0 z1 z2 z3 z4 f4 n4 hD4 HD3 HSB
 have hWr:∀ W,Fr [] D4 W→Calls Tryz.prog 104 #[.pointer (some ⟨g,0,none⟩),.agg #[.int .i64 16,.string ⟨#[]⟩,.int .i64 1,.int .i64 0,.string ⟨#[]⟩],.int .i64 1] W (RetPost W (.int .i64 (0))):=fun W hW=>Writer_zero g m _ _ 1 _ _ _ _ W (HG4.out.fr0 hW).box (HG4.out.fr0 hW).wm keyOf_port1 (by simp;rfl) ((HG4.out.fr0 hW).kept.now).1.2
 have HWR:=Hd hWr
 have HSS:=Hd (fun (W:World) (hW:Fr [] D4 W)=>(⟨(HN4.out.fr hW (by simp)).c 0,(HN4.out.fr hW (by simp)).c 1,(HN4.out.fr hW (by simp)).c 2,(HN4.out.fr hW (by simp)).c 3,(HN4.out.fr hW (by simp)).c 4⟩:W.cell? ⟨N,0,none⟩=some (.int .i64 16)∧W.cell? ⟨N,1,none⟩=some (.string ⟨#[]⟩)∧W.cell? ⟨N,2,none⟩=some (.int .i64 1)∧W.cell? ⟨N,3,none⟩=some (.int .i64 0)∧W.cell? ⟨N,4,none⟩=some (.string ⟨#[]⟩)))
 have hC:Fr [] D4 D4.drew:=(Fr.refl _ D4).drew
 clear hWr
 refine wp_then_via (a:=?b1) (fun a' W'=>∃ D,a'={ tmps:=((((((((Act.tmps ?b1).setIfInBounds 68 (.pointer (some ⟨g,0,none⟩))).setIfInBounds 69 (.agg #[.int .i64 16,.string ⟨#[]⟩,.int .i64 1,.int .i64 0,.string ⟨#[]⟩])).setIfInBounds 70 (.int .i64 1)).setIfInBounds 71 (.int .i64 (0))).setIfInBounds 72 (.int .i64 1)).setIfInBounds 73 (.agg #[.int .i64 16,.string ⟨#[]⟩,.int .i64 1,.int .i64 0,.string ⟨#[]⟩])).setIfInBounds 74 (.agg #[.int .i64 (0),.int .i64 1,.int .i64 16,.string ⟨#[]⟩,.int .i64 1,.int .i64 0,.string ⟨#[]⟩])).setIfInBounds 12 (.pointer (some ⟨D,0,none⟩)),defers:=[] }∧BoxN W' D 98 #[.int .i64 (0),.int .i64 1,.int .i64 16,.string ⟨#[]⟩,.int .i64 1,.int .i64 0,.string ⟨#[]⟩]∧Fr [] D4 W'∧D4.heap.size≤D) ?_ ?_
 ·refine wp_region_head (fun W=>Fr [] D4 W) 8 (by kernel_rfl) ?_ (by decide)
  show headJ 0 _ _ _ _ _ _ _ _ _ _ _
  iterate 3
   refine hdJ (v:=?_) rfl (Or.inl ⟨by rfl,?_⟩) ?_
   rotate_left
   ·intro W hW;obtain⟨y0,y1,y2,y3,y4⟩:=HSS.out W hW;go_simp;try with_reducible rfl
   try simp only[Act.put,qA,qB,qC,qD,qE,qF]
  show headJ 4 _ _ _ _ _ _ _ _ _ _ _
  iterate 2
   refine hdJ (v:=?_) rfl (Or.inl ⟨by rfl,?_⟩) ?_
   rotate_left
   ·intro W hW;obtain⟨y0,y1,y2,y3,y4⟩:=HSS.out W hW;go_simp;try with_reducible rfl
   try simp only[Act.put,qA,qB,qC,qD,qE,qF]
  refine headI_two (i:=3) (j:=7) (by kernel_rfl) (by decide) (by decide) rfl rfl (fun K hK=>?_) (fun K hK=>?_)
  ·rw[if_pos (by rfl)]
   go_simp
   go_at_call 104
   (with_reducible refine (HWR.out _ hC).mono ?_)
   rintro e E1 ⟨rfl,hf⟩
   have hC1:=hC.then hf
   refine hK _ _ hC1 ?_
   clear hK K hC hf
   try simp only[Act.put,qA,qB,qC,qD,qE,qF]
   have hC:=hC1
   show headJ 6 _ _ _ _ _ _ _ _ _ _ _
   refine hdJ (v:=?_) rfl (Or.inl ⟨by rfl,?_⟩) ?_
   rotate_left
   ·intro W hW;obtain⟨y0,y1,y2,y3,y4⟩:=HSS.out W hW;go_simp;try with_reducible rfl
   try simp only[Act.put,qA,qB,qC,qD,qE,qF]
   refine headI_only (i:=7) (by kernel_rfl) (by decide) rfl (fun K hK=>?_)
   rw[if_pos (by rfl)]
   go_simp
   obtain⟨E2,hE2,n2,f2⟩:=bxn E1 #[.int .i64 0,.int .i64 0,.int .i64 0,.string ⟨#[]⟩,.int .i64 0,.int .i64 0,.string ⟨#[]⟩] 98
   have hC2:=hC1.then f2
   have hD:D4.heap.size≤E1.heap.size:=hC1.size
   rw[hE2]
   refine hK _ _ hC2 ?_
   clear hK K hE2 hC hC1 f2
   try simp only[Act.put,qA,qB,qC,qD,qE,qF]
   refine headI_done ⟨by kernel_rfl,?_⟩
   simp only[List.drop_succ_cons,List.drop_zero]
   obtain⟨u0,u1,u2,u3,u4,u5,u6⟩:=n2.m7
   have v0:=n2.f 0
   have v1:=n2.f 1
   have v2:=n2.f 2
   have v3:=n2.f 3
   have v4:=n2.f 4
   have v5:=n2.f 5
   have v6:=n2.f 6
   go_wp2_with fail
   exact⟨_,rfl,((((((n2.setAt 0 _).setAt 1 _).setAt 2 _).setAt 3 _).setAt 4 _).setAt 5 _).setAt 6 _,((((((hC2.set (.inr hD) _).set (.inr hD) _).set (.inr hD) _).set (.inr hD) _).set (.inr hD) _).set (.inr hD) _).set (.inr hD) _,hD⟩
  ·rw[if_pos (by rfl)]
   go_simp
   obtain⟨E1,hE1,n1,hC1⟩:=bxd D4 #[.int .i64 0,.int .i64 0,.int .i64 0,.string ⟨#[]⟩,.int .i64 0,.int .i64 0,.string ⟨#[]⟩] 98
   rw[hE1]
   refine hK _ _ hC1 ?_
   clear hK K hE1 hC
   try simp only[Act.put,qA,qB,qC,qD,qE,qF]
   refine headI_only (i:=3) (by kernel_rfl) (by decide) rfl (fun K hK=>?_)
   rw[if_pos (by rfl)]
   go_simp
   go_at_call 104
   (with_reducible refine (HWR.out _ hC1).mono ?_)
   rintro e E2 ⟨rfl,hf⟩
   have hC2:=hC1.then hf
   have n2:=n1.fr hf (by simp)
   have hD:D4.heap.size≤D4.heap.size:=Nat.le_refl _
   refine hK _ _ hC2 ?_
   clear hK K hC1 hf n1
   try simp only[Act.put,qA,qB,qC,qD,qE,qF]
   have hC:=hC2
   show headJ 6 _ _ _ _ _ _ _ _ _ _ _
   refine hdJ (v:=?_) rfl (Or.inl ⟨by rfl,?_⟩) ?_
   rotate_left
   ·intro W hW;obtain⟨y0,y1,y2,y3,y4⟩:=HSS.out W hW;go_simp;try with_reducible rfl
   try simp only[Act.put,qA,qB,qC,qD,qE,qF]
   refine headI_done ⟨by kernel_rfl,?_⟩
   simp only[List.drop_succ_cons,List.drop_zero]
   obtain⟨u0,u1,u2,u3,u4,u5,u6⟩:=n2.m7
   have v0:=n2.f 0
   have v1:=n2.f 1
   have v2:=n2.f 2
   have v3:=n2.f 3
   have v4:=n2.f 4
   have v5:=n2.f 5
   have v6:=n2.f 6
   go_wp2_with fail
   exact⟨_,rfl,((((((n2.setAt 0 _).setAt 1 _).setAt 2 _).setAt 3 _).setAt 4 _).setAt 5 _).setAt 6 _,((((((hC2.set (.inr hD) _).set (.inr hD) _).set (.inr hD) _).set (.inr hD) _).set (.inr hD) _).set (.inr hD) _).set (.inr hD) _,hD⟩
 rintro a' E ⟨D,rfl,hDb,hfE,hDs⟩
 simp only[qA,qB,qC]
 have HGE:=Hd (HG4.out.fr0 hfE)
 have HDE:=Hd hDb
 have HSD:=Hd (And.intro hDs HF4.out.size)
 clear hC HSS HWR HG4 HN4 hDb hfE hDs
 obtain⟨KC,hKC⟩:=nmd (K1)
 rw[hKC] at HGE ⊢
 go_upto_region 20 with fail
 have HSS:=Hd (fun (W:World) (hW:Fr [] E W)=>(⟨(HGE.out.box.fr hW (by simp)).c 1,(HGE.out.lb.fr hW (by simp)).c 1,(HGE.out.lb.fr hW (by simp)).c 1,(HDE.out.fr hW (by simp)).c 0,(HDE.out.fr hW (by simp)).c 1,(HDE.out.fr hW (by simp)).c 2,(HDE.out.fr hW (by simp)).c 3,(HDE.out.fr hW (by simp)).c 4,(HDE.out.fr hW (by simp)).c 5,(HDE.out.fr hW (by simp)).c 6⟩:W.cell? ⟨g,1,none⟩=some (.slice (some ⟨A,0,none⟩) 3 3)∧W.cell? ⟨A,1,none⟩=some (.slice none 0 0)∧W.cell? ⟨A,1,none⟩=some (.slice none 0 0)∧W.cell? ⟨D,0,none⟩=some (.int .i64 (0))∧W.cell? ⟨D,1,none⟩=some (.int .i64 1)∧W.cell? ⟨D,2,none⟩=some (.int .i64 16)∧W.cell? ⟨D,3,none⟩=some (.string ⟨#[]⟩)∧W.cell? ⟨D,4,none⟩=some (.int .i64 1)∧W.cell? ⟨D,5,none⟩=some (.int .i64 0)∧W.cell? ⟨D,6,none⟩=some (.string ⟨#[]⟩)))
 have hC:Fr [] E E.drew:=(Fr.refl _ E).drew
 refine wp_region_head (fun W=>Fr [] E W) 16 (by kernel_rfl) ?_ (by decide)
 show headJ 0 _ _ _ _ _ _ _ _ _ _ _
 iterate 13
  refine hdJ (v:=?_) rfl (Or.inl ⟨by rfl,?_⟩) ?_
  rotate_left
  ·intro W hW;obtain⟨gf,al,_,l0,l1,l2,l3,l4,l5,l6⟩:=HSS.out W hW;go_simp;try with_reducible rfl
  try simp only[Act.put,qA,qB,qC,qD,qE,qF]
 refine headI_only (i:=13) (by kernel_rfl) (by decide) rfl (fun K hK=>?_)
 rw[if_pos (by rfl)]
 go_simp
 obtain⟨G1,hG1,n1,hC1⟩:=bxd E #[.int .i64 (0),.int .i64 1,.int .i64 16,.string ⟨#[]⟩,.int .i64 1,.int .i64 0,.string ⟨#[]⟩] 98
 rw[hG1]
 refine hK _ _ hC1 ?_
 clear hK K hG1 hC
 try simp only[Act.put,qA,qB,qC,qD,qE,qF]
 refine headI_only (i:=14) (by kernel_rfl) (by decide) rfl (fun K hK=>?_)
 rw[if_pos (by rfl)]
 obtain⟨ii,hii,iz0,iz1,iz2⟩:=info_link
 refine wp_app (.tmp 86) (.tmp 88) 61 rfl 98 ii _ 7 72 Tryz.underlying61 hii iz0 iz1 iz2 rfl (by decide) none 0 0 [] rfl (Own.nil _ _ _) ⟨E.heap.size,0,none⟩ 1 1 [.int .i64 (0),.int .i64 1,.int .i64 16,.string ⟨#[]⟩,.int .i64 1,.int .i64 0,.string ⟨#[]⟩] rfl rfl (fun j u hu=>by rw[add_mid',n1.c j];simpa using hu) (by simp[Value.oneCell']) (by unfold maxLen;omega) (by omega) ?_
 intro LA lc1 G2 ho2 hf2 hA2
 rw[show (0+1:Nat)=1 from rfl] at ho2 ⊢
 obtain⟨lb1,rfl,hlb⟩:=Cs.of_own ho2 (by omega)
 have hlN:G1.heap.size≤lb1:=by
  rcases hA2 lb1 (by simp[blk]) with h | h
  ·simp[blk] at h
  ·exact h
 have hC:Fr [] E G2:=hC1.then (hf2.mono (by simp[blk]))
 refine hK _ _ hC ?_
 clear hK K
 try simp only[Act.put,qA,qB,qC,qD,qE,qF]
 show headJ 15 _ _ _ _ _ _ _ _ _ _ _
 refine hdJ (v:=?_) rfl (Or.inl ⟨by rfl,?_⟩) ?_
 rotate_left
 ·intro W hW;obtain⟨gf,al,_,l0,l1,l2,l3,l4,l5,l6⟩:=HSS.out W hW;go_simp;try with_reducible rfl
 try simp only[Act.put,qA,qB,qC,qD,qE,qF]
 refine headI_done ⟨by kernel_rfl,?_⟩
 simp only[List.drop_succ_cons,List.drop_zero]
 have hlx:=HGE.out.lb.fr hC (by simp)
 have q0:=hlx.k1
 have q1:=hlx.f 1
 have hGl:=HGE.out.lt
 have hEs:=hC1.size
 have HLB:=Hd (And.intro hlb (And.intro hlN hEs))
 have HC2:=Hd hC
 have HLX:=Hd hlx
 clear hlb hlN hEs hC hlx HSS iz0 iz1 iz2 hii ho2 hf2 hA2 n1 hC1 hGl
 go_upto_region 21 with fail
 obtain⟨E2,hEN⟩:=nmd (G2.setCell ⟨A,1,none⟩ (.slice (some ⟨lb1,0,none⟩) 1 lc1))
 have fEN:Fr [A] G2 E2:=by rw[←hEN];exact (Fr.refl [A] G2).set (.inl (by simp)) _
 have hbN:BoxN E2 A 61 #[.slice none 0 0,.slice (some ⟨lb1,0,none⟩) 1 lc1,.slice none 0 0]:=by rw[←hEN];exact HLX.out.setAt 1 _
 try rw[hEN]
 have hltE:=HGE.out.lt
 have hlbA:∀ k∈GM g m A B KC,k≠lb1:=fun k hk e=>by
  have h1:=hltE k hk
  have h2:=HLB.out.2.1
  have h3:=HLB.out.2.2
  omega
 have hbA:lb1≠A:=fun e=>hlbA A (by simp[GM]) e.symm
 have HGF:=Hd (((HGE.out.fr0 HC2.out).putL fEN hbN).addP (Q:=fun W=>Cs W lb1 [.int .i64 (0),.int .i64 1,.int .i64 16,.string ⟨#[]⟩,.int .i64 1,.int .i64 0,.string ⟨#[]⟩]) (fun W hW=>(HLB.out.1.fr fEN (by simpa using hbA)).fr hW (fun hm=>hlbA lb1 hm rfl)))
 have hDN:BoxN E2 D 98 #[.int .i64 (0),.int .i64 1,.int .i64 16,.string ⟨#[]⟩,.int .i64 1,.int .i64 0,.string ⟨#[]⟩]:=(HDE.out.fr HC2.out (by simp)).fr fEN (by have h1:=HVZ.out.lt A (by simp[GM]);have h2:=HSD.out;simp;omega)
 clear HDE
 have HDE:=Hd hDN
 clear q0 q1 hEN fEN hbN hltE hlbA hbA hDN HLB HC2 HLX
 have l0:=HDE.out.k0
 go_upto_region 22 with fail
 clear l0
 have HSS:=Hd (fun (W:World) (hW:Fr [] E2 W)=>(⟨(HGF.out.box.fr hW (by simp)).c 2,(HGF.out.ub.fr hW (by simp)).c 0,(HGF.out.ub.fr hW (by simp)).c 0,(HDE.out.fr hW (by simp)).c 0,(HDE.out.fr hW (by simp)).c 1,(HDE.out.fr hW (by simp)).c 2,(HDE.out.fr hW (by simp)).c 3,(HDE.out.fr hW (by simp)).c 4,(HDE.out.fr hW (by simp)).c 5,(HDE.out.fr hW (by simp)).c 6⟩:W.cell? ⟨g,2,none⟩=some (.slice (some ⟨B,0,none⟩) 3 3)∧W.cell? ⟨B,0,none⟩=some (.slice none 0 0)∧W.cell? ⟨B,0,none⟩=some (.slice none 0 0)∧W.cell? ⟨D,0,none⟩=some (.int .i64 (0))∧W.cell? ⟨D,1,none⟩=some (.int .i64 1)∧W.cell? ⟨D,2,none⟩=some (.int .i64 16)∧W.cell? ⟨D,3,none⟩=some (.string ⟨#[]⟩)∧W.cell? ⟨D,4,none⟩=some (.int .i64 1)∧W.cell? ⟨D,5,none⟩=some (.int .i64 0)∧W.cell? ⟨D,6,none⟩=some (.string ⟨#[]⟩)))
 have hC:Fr [] E2 E2.drew:=(Fr.refl _ E2).drew
 refine wp_region_head (fun W=>Fr [] E2 W) 18 (by kernel_rfl) ?_ (by decide)
 show headJ 0 _ _ _ _ _ _ _ _ _ _ _
 iterate 15
  refine hdJ (v:=?_) rfl (Or.inl ⟨by rfl,?_⟩) ?_
  rotate_left
  ·intro W hW;obtain⟨gf,al,_,l0,l1,l2,l3,l4,l5,l6⟩:=HSS.out W hW;go_simp;try with_reducible rfl
  try simp only[Act.put,qA,qB,qC,qD,qE,qF]
 refine headI_only (i:=15) (by kernel_rfl) (by decide) rfl (fun K hK=>?_)
 rw[if_pos (by rfl)]
 go_simp
 obtain⟨G1,hG1,n1,hC1⟩:=bxd E2 #[.int .i64 (0),.int .i64 1,.int .i64 16,.string ⟨#[]⟩,.int .i64 1,.int .i64 0,.string ⟨#[]⟩] 98
 rw[hG1]
 refine hK _ _ hC1 ?_
 clear hK K hG1 hC
 try simp only[Act.put,qA,qB,qC,qD,qE,qF]
 refine headI_only (i:=16) (by kernel_rfl) (by decide) rfl (fun K hK=>?_)
 rw[if_pos (by rfl)]
 obtain⟨ii,hii,iz0,iz1,iz2⟩:=info_link
 refine wp_app (.tmp 107) (.tmp 109) 61 rfl 98 ii _ 7 72 Tryz.underlying61 hii iz0 iz1 iz2 rfl (by decide) none 0 0 [] rfl (Own.nil _ _ _) ⟨E2.heap.size,0,none⟩ 1 1 [.int .i64 (0),.int .i64 1,.int .i64 16,.string ⟨#[]⟩,.int .i64 1,.int .i64 0,.string ⟨#[]⟩] rfl rfl (fun j u hu=>by rw[add_mid',n1.c j];simpa using hu) (by simp[Value.oneCell']) (by unfold maxLen;omega) (by omega) ?_
 intro LA lc2 G2 ho2 hf2 hA2
 rw[show (0+1:Nat)=1 from rfl] at ho2 ⊢
 obtain⟨lb2,rfl,hlb⟩:=Cs.of_own ho2 (by omega)
 have hlN:G1.heap.size≤lb2:=by
  rcases hA2 lb2 (by simp[blk]) with h | h
  ·simp[blk] at h
  ·exact h
 have hC:Fr [] E2 G2:=hC1.then (hf2.mono (by simp[blk]))
 refine hK _ _ hC ?_
 clear hK K
 try simp only[Act.put,qA,qB,qC,qD,qE,qF]
 show headJ 17 _ _ _ _ _ _ _ _ _ _ _
 refine hdJ (v:=?_) rfl (Or.inl ⟨by rfl,?_⟩) ?_
 rotate_left
 ·intro W hW;obtain⟨gf,al,_,l0,l1,l2,l3,l4,l5,l6⟩:=HSS.out W hW;go_simp;try with_reducible rfl
 try simp only[Act.put,qA,qB,qC,qD,qE,qF]
 refine headI_done ⟨by kernel_rfl,?_⟩
 simp only[List.drop_succ_cons,List.drop_zero]
 have hlx:=HGF.out.ub.fr hC (by simp)
 have q0:=hlx.k0
 have q1:=hlx.f 0
 have hGl:=HGF.out.lt
 have hEs:=hC1.size
 have HLB:=Hd (And.intro hlb (And.intro hlN hEs))
 have HC2:=Hd hC
 have HLX:=Hd hlx
 clear hlb hlN hEs hC hlx HSS iz0 iz1 iz2 hii ho2 hf2 hA2 n1 hC1 hGl
 go_upto_region 23 with fail
 obtain⟨E3,hEN⟩:=nmd (G2.setCell ⟨B,0,none⟩ (.slice (some ⟨lb2,0,none⟩) 1 lc2))
 have fEN:Fr [B] G2 E3:=by rw[←hEN];exact (Fr.refl [B] G2).set (.inl (by simp)) _
 have hbN:BoxN E3 B 61 #[.slice (some ⟨lb2,0,none⟩) 1 lc2,.slice none 0 0,.slice none 0 0]:=by rw[←hEN];exact HLX.out.setAt 0 _
 try rw[hEN]
 have hltE:=HGF.out.lt
 have hlbA:∀ k∈GM g m A B KC,k≠lb2:=fun k hk e=>by
  have h1:=hltE k hk
  have h2:=HLB.out.2.1
  have h3:=HLB.out.2.2
  omega
 have hbA:lb2≠B:=fun e=>hlbA B (by simp[GM]) e.symm
 have HGH:=Hd (((HGF.out.fr0 HC2.out).putU fEN hbN).addP (Q:=fun W=>Cs W lb2 [.int .i64 (0),.int .i64 1,.int .i64 16,.string ⟨#[]⟩,.int .i64 1,.int .i64 0,.string ⟨#[]⟩]) (fun W hW=>(HLB.out.1.fr fEN (by simpa using hbA)).fr hW (fun hm=>hlbA lb2 hm rfl)))
 have hDN:BoxN E3 D 98 #[.int .i64 (0),.int .i64 1,.int .i64 16,.string ⟨#[]⟩,.int .i64 1,.int .i64 0,.string ⟨#[]⟩]:=(HDE.out.fr HC2.out (by simp)).fr fEN (by have h1:=HVZ.out.lt B (by simp[GM]);have h2:=HSD.out;simp;omega)
 clear HDE
 have HDE:=Hd hDN
 clear q0 q1 hEN fEN hbN hltE hlbA hbA hDN HLB HC2 HLX
 go_wp2_with fail
 rw[rounds_succ]
 have r5:E3.cell? ⟨R,5,none⟩=some (.slice (some ⟨cb1,0,none⟩) 1 xd1):=(HGH.out.kept.now).1.1.2.c 5
 go_wp2_with fail
 refine wp_loop_rounds 2 ?_
 rw[rounds_succ]
 clear r5 HQQ
 have HQQ:=Hd (HGH.out.kept.now)
 have hcc:Cs E3 cb1 (chC 2 ⟨#[121,122]⟩ false):=HQQ.out.1.1.1.1.1.2.2.2.2.1
 have z0:(E3).cell? ⟨cb1,0,none⟩=some (.int .i64 16):=hcc.2 0 _ rfl
 have z1:(E3).cell? ⟨cb1,1,none⟩=some (.string ⟨#[]⟩):=hcc.2 1 _ rfl
 have z2:(E3).cell? ⟨cb1,2,none⟩=some (.int .i64 2):=hcc.2 2 _ rfl
 have z3:(E3).cell? ⟨cb1,3,none⟩=some (.int .i64 0):=hcc.2 3 _ rfl
 have z4:(E3).cell? ⟨cb1,4,none⟩=some (.string ⟨#[]⟩):=hcc.2 4 _ rfl
 have z5:(E3).cell? ⟨cb1,5,none⟩=some (.string ⟨#[121,122]⟩):=hcc.2 5 _ rfl
 have z6:(E3).cell? ⟨cb1,6,none⟩=some (.bool false):=hcc.2 6 _ rfl
 clear hcc
 go_upto_region 27 with fail
 obtain⟨U0,hU0,n0,f0⟩:=bxn E3 #[.int .i64 16,.string ⟨#[]⟩,.int .i64 2,.int .i64 0,.string ⟨#[]⟩,.string ⟨#[121,122]⟩,.bool false] 95
 rw[hU0]
 have HU0:=Hd (HGH.out.fr0 f0)
 have hT:∀ k∈GM g m A B KC,k<(E3).heap.size:=HGH.out.lt
 obtain⟨T,hTe⟩:=nmd ((E3).heap.size)
 rw[hTe] at n0 hT ⊢
 have HN0:=Hd n0
 have HT:=Hd hT
 have HF0:=Hd f0
 clear hU0 n0 f0 hT hTe z0 z1 z2 z3 z4 z5 z6
 have HSS:=Hd (fun (W:World) (hW:Fr [m] U0 W)=>(⟨(HU0.out.box.fr hW (by simpa using HU0.out.d1.1)).c 3,(HN0.out.fr hW (by have:=HT.out m (by simp[GM]);simp;omega)).c 0,(HN0.out.fr hW (by have:=HT.out m (by simp[GM]);simp;omega)).c 1,(HN0.out.fr hW (by have:=HT.out m (by simp[GM]);simp;omega)).c 2,(HN0.out.fr hW (by have:=HT.out m (by simp[GM]);simp;omega)).c 3,(HN0.out.fr hW (by have:=HT.out m (by simp[GM]);simp;omega)).c 4⟩:W.cell? ⟨g,3,none⟩=some (.map (some m))∧W.cell? ⟨T,0,none⟩=some (.int .i64 16)∧W.cell? ⟨T,1,none⟩=some (.string ⟨#[]⟩)∧W.cell? ⟨T,2,none⟩=some (.int .i64 2)∧W.cell? ⟨T,3,none⟩=some (.int .i64 0)∧W.cell? ⟨T,4,none⟩=some (.string ⟨#[]⟩)))
 have hC:Fr [m] U0 U0.drew:=(Fr.refl _ U0).drew
 refine wp_region_head (fun W:World=>Fr [m] U0 W) 12 (by kernel_rfl) ?_ (by decide)
 show headJ 0 _ _ _ _ _ _ _ _ _ _ _
 iterate 7
  refine hdJ (v:=?_) rfl (Or.inl ⟨by rfl,?_⟩) ?_
  rotate_left
  ·intro W hW;obtain⟨m3,k0,k1,k2,k3,k4⟩:=HSS.out W hW;go_simp;try with_reducible rfl
  try simp only[Act.put,qA,qB,qC,qD,qE,qF]
 refine headI_only (i:=7) (by kernel_rfl) (by decide) rfl (fun K hK=>?_)
 rw[if_pos (by rfl)]
 go_simp
 obtain⟨U1,hU1,n1,f1⟩:=bxd U0 #[.int .i64 1] 3
 rw[hU1]
 refine hK _ _ (f1.mono (by simp)) ?_
 clear hK K hC hU1
 try simp only[Act.put,qA,qB,qC,qD,qE,qF]
 refine headI_only (i:=8) (by kernel_rfl) (by decide) rfl (fun K hK=>?_)
 rw[if_pos (by rfl)]
 have hm1:=HU0.out.wm.fr f1 (by simp)
 obtain⟨kl,hkl⟩:=keyOf_port2
 obtain⟨st,U2,hme,f2,hm2,hst2⟩:=MapIs.entry_new key_name Tryz.underlying194 zero_ints hm1 hkl (by simp[portV])
 unfold portV at hme
 go_simp
 have f02:Fr [m] U0 U2:=(f1.mono (by simp)).then f2
 refine hK _ _ f02 ?_
 clear hK K hme
 have hC:=f02
 try simp only[Act.put,qA,qB,qC,qD,qE,qF]
 show headJ 9 _ _ _ _ _ _ _ _ _ _ _
 refine hdJ (v:=?_) rfl (Or.inl ⟨by rfl,?_⟩) ?_
 rotate_left
 ·intro W hW;obtain⟨m3,k0,k1,k2,k3,k4⟩:=HSS.out W hW;go_simp;try with_reducible rfl
 try simp only[Act.put,qA,qB,qC,qD,qE,qF]
 show headJ 11 _ _ _ _ _ _ _ _ _ _ _
 refine hdJ (v:=?_) rfl (Or.inl ⟨by rfl,?_⟩) ?_
 rotate_left
 ·intro W hW;obtain⟨m3,k0,k1,k2,k3,k4⟩:=HSS.out W hW;go_simp;try with_reducible rfl
 try simp only[Act.put,qA,qB,qC,qD,qE,qF]
 refine headI_only (i:=10) (by kernel_rfl) (by decide) rfl (fun K hK=>?_)
 rw[if_pos (by rfl)]
 obtain⟨jj,hjj,jz0,jz1,jz2⟩:=info_int
 have n2:=n1.fr f2 (by have:=HU0.out.wm.lt;simp;omega)
 refine wp_app (.tmp 126) (.tmp 128) 36 rfl 3 jj _ 1 8 Tryz.underlying36 hjj jz0 jz1 jz2 rfl (by decide) none 0 0 [] rfl (Own.nil _ _ _) ⟨U0.heap.size,0,none⟩ 1 1 [.int .i64 1] rfl rfl (fun j u hu=>by rw[add_mid',n2.c j];simpa using hu) (by simp[Value.oneCell']) (by unfold maxLen;omega) (by omega) ?_
 intro AR cr U3 ho3 hf3 hA3
 rw[show (0+1:Nat)=1 from rfl] at ho3 ⊢
 obtain⟨gg,rfl,hcg⟩:=Cs.of_own ho3 (by omega)
 have f03:Fr [m] U0 U3:=f02.trans hf3 (by simp[blk])
 refine hK _ _ f03 ?_
 clear hK K hC
 try simp only[Act.put,qA,qB,qC,qD,qE,qF]
 refine headI_done ⟨by kernel_rfl,?_⟩
 simp only[List.drop_succ_cons,List.drop_zero]
 have hgg:U2.heap.size≤gg:=by
  rcases hA3 gg (by simp[blk]) with h | h
  ·simp[blk] at h
  ·exact h
 obtain⟨U4,hes,f4,hm4⟩:=hst2 U3 (.slice (some ⟨gg,0,none⟩) 1 cr) (hf3.block _ hm2.lt (by simp[blk]))
 have f04:Fr [m] U0 U4:=f03.then f4
 have hcg4:Cs U4 gg [.int .i64 1]:=hcg.fr f4 (by have:=hm2.lt;simp;omega)
 have hVM:=HU0.out.lt
 have hV4:=HU0.out.putW f04 hm4
 have hsz12:U0.heap.size≤U2.heap.size:=f02.size
 have HVE:=Hd (hV4.addP (Q:=fun W=>Cs W gg [.int .i64 1]) (fun W hW=>hcg4.fr hW (fun hm=>by have:=hVM gg hm;omega)))
 obtain⟨X2,hYe⟩:=nmd (U4)
 rw[hYe] at HVE hes
 clear hYe hVM hV4 hsz12 f04 f03 f02 hcg hcg4 hm1 hm2 hm4 f1 f2 f4 hf3 hA3 ho3 n1 n2 hst2 HSS hgg HU0 HN0 HT HF0
 go_wp2_with fail
 clear hes
 rw[rounds_succ]
 go_wp2_with fail
 rw[rounds_succ]
 have hcs:=(HVE.out.kept.now).1.1.1.1.1.1.2.1
 have z0:(X2).cell? ⟨L,12,none⟩=some (.int .i64 3):=hcs.2 12 _ rfl
 have z1:(X2).cell? ⟨L,13,none⟩=some (.int .i64 0):=hcs.2 13 _ rfl
 have z2:(X2).cell? ⟨L,14,none⟩=some (.int .i64 3):=hcs.2 14 _ rfl
 have z3:(X2).cell? ⟨L,15,none⟩=some (.string ⟨#[]⟩):=hcs.2 15 _ rfl
 have z4:(X2).cell? ⟨L,16,none⟩=some (.slice (some ⟨ca2,0,none⟩) 1 xc2):=hcs.2 16 _ rfl
 have z5:(X2).cell? ⟨L,17,none⟩=some (.slice none 0 0):=hcs.2 17 _ rfl
 clear hcs
 go_upto_region 9 with fail
 obtain⟨Y2,hY,nY,fY⟩:=bxn X2 #[.int .i64 3,.int .i64 0,.int .i64 3,.string ⟨#[]⟩,.slice (some ⟨ca2,0,none⟩) 1 xc2,.slice none 0 0] 91
 rw[hY]
 have HVY:=Hd (HVE.out.fr0 fY)
 have hRlt:∀ k∈GM g m A B KC,k<(X2).heap.size:=HVE.out.lt
 obtain⟨R,hR⟩:=nmd ((X2).heap.size)
 rw[hR] at nY hRlt ⊢
 have HRX:=Hd nY
 have HRL:=Hd hRlt
 clear hY nY fY z0 z1 z2 z3 z4 z5 hRlt hR
 have HSS:=Hd (fun (W:World) (hW:W.cell? ⟨g,0,none⟩=some (.slice KC 2 c1)∧W.cell? ⟨R,0,none⟩=some (.int .i64 3)∧W.cell? ⟨R,1,none⟩=some (.int .i64 0)∧W.cell? ⟨R,2,none⟩=some (.int .i64 3)∧W.cell? ⟨R,3,none⟩=some (.string ⟨#[]⟩))=>hW)
 have hbx:=HVY.out.box
 have hrx:=HRX.out
 have hC:(fun W:World=>W.cell? ⟨g,0,none⟩=some (.slice KC 2 c1)∧W.cell? ⟨R,0,none⟩=some (.int .i64 3)∧W.cell? ⟨R,1,none⟩=some (.int .i64 0)∧W.cell? ⟨R,2,none⟩=some (.int .i64 3)∧W.cell? ⟨R,3,none⟩=some (.string ⟨#[]⟩)) Y2.drew:=⟨hbx.c 0,hrx.c 0,hrx.c 1,hrx.c 2,hrx.c 3⟩
 refine wp_region_head (fun W:World=>W.cell? ⟨g,0,none⟩=some (.slice KC 2 c1)∧W.cell? ⟨R,0,none⟩=some (.int .i64 3)∧W.cell? ⟨R,1,none⟩=some (.int .i64 0)∧W.cell? ⟨R,2,none⟩=some (.int .i64 3)∧W.cell? ⟨R,3,none⟩=some (.string ⟨#[]⟩)) 11 (by kernel_rfl) ?_ (by decide)
 show headJ 0 _ _ _ _ _ _ _ _ _ _ _
 iterate 7
  refine hdJ (v:=?_) rfl (Or.inl ⟨by rfl,?_⟩) ?_
  rotate_left
  ·intro W hW;obtain⟨x0,k0,k1,k2,k3⟩:=HSS.out W hW;go_simp;try with_reducible rfl
  try simp only[Act.put,qA,qB,qC,qD,qE,qF]
 refine headI_only (i:=7) (by kernel_rfl) (by decide) rfl (fun K hK=>?_)
 rw[if_pos (by rfl)]
 go_simp
 obtain⟨Z1,hZ1,n1,f1⟩:=bxd Y2 #[.int .i64 3,.int .i64 0,.int .i64 3,.string ⟨#[]⟩] 89
 rw[hZ1]
 have hb1:=hbx.fr f1 (by simp)
 have hr1:=hrx.fr f1 (by simp)
 refine hK _ _ ⟨hb1.c 0,hr1.c 0,hr1.c 1,hr1.c 2,hr1.c 3⟩ ?_
 clear hK K hZ1 hC
 try simp only[Act.put,qA,qB,qC,qD,qE,qF]
 refine headI_only (i:=8) (by kernel_rfl) (by decide) rfl (fun K hK=>?_)
 rw[if_pos (by rfl)]
 obtain⟨ii,hii,iz0,iz1,iz2⟩:=info_key
 have hO1:=HVY.out.own.fr f1 (by simp)
 refine wp_app (.tmp 41) (.tmp 44) 60 rfl 89 ii _ 4 40 Tryz.underlying60 hii iz0 iz1 iz2 rfl (by decide) KC 2 c1 _ rfl hO1 ⟨Y2.heap.size,0,none⟩ 1 1 [.int .i64 3,.int .i64 0,.int .i64 3,.string ⟨#[]⟩] rfl rfl (fun j u hu=>by rw[add_mid',n1.c j];simpa using hu) (by simp[Value.oneCell']) (by unfold maxLen;omega) (by omega) ?_
 intro K2 ck2 Z2 ho2 hf2 hK2
 rw[show (2+1:Nat)=3 from rfl] at ho2 ⊢
 have hgK:g ∉ blk KC:=HVY.out.d2.1
 have hRK:R ∉ blk KC:=fun hm=>by have h1:=HRL.out R (by simp[GM,hm]);omega
 have hb2:=hb1.fr hf2 hgK
 have hr2:=hr1.fr hf2 hRK
 have hC:(fun W:World=>W.cell? ⟨g,0,none⟩=some (.slice KC 2 c1)∧W.cell? ⟨R,0,none⟩=some (.int .i64 3)∧W.cell? ⟨R,1,none⟩=some (.int .i64 0)∧W.cell? ⟨R,2,none⟩=some (.int .i64 3)∧W.cell? ⟨R,3,none⟩=some (.string ⟨#[]⟩)) Z2:=⟨hb2.c 0,hr2.c 0,hr2.c 1,hr2.c 2,hr2.c 3⟩
 refine hK _ _ hC ?_
 clear hK K
 try simp only[Act.put,qA,qB,qC,qD,qE,qF]
 show headJ 9 _ _ _ _ _ _ _ _ _ _ _
 iterate 2
  refine hdJ (v:=?_) rfl (Or.inl ⟨by rfl,?_⟩) ?_
  rotate_left
  ·intro W hW;obtain⟨x0,k0,k1,k2,k3⟩:=HSS.out W hW;go_simp;try with_reducible rfl
  try simp only[Act.put,qA,qB,qC,qD,qE,qF]
 refine headI_done ⟨by kernel_rfl,?_⟩
 simp only[List.drop_succ_cons,List.drop_zero]
 have q0:=hb2.k0
 have q1:=hb2.f 0
 have HZ2:=Hd (And.intro ho2 (And.intro hf2 (And.intro hK2 (And.intro hb2 (And.intro hr2 f1)))))
 have HD:=Hd (And.intro hgK hRK)
 clear ho2 hf2 hK2 hb2 hr2 f1 hgK hRK hbx hrx hb1 hr1 n1 hO1 hC HSS
 go_upto_region 10 with fail
 obtain⟨Z5,hZ⟩:=nmd (Z2.setCell ⟨g,0,none⟩ (.slice K2 3 ck2))
 have hbZ:BoxN Z5 g 205 #[.slice K2 3 ck2,.slice (some ⟨A,0,none⟩) 3 3,.slice (some ⟨B,0,none⟩) 3 3,.map (some m)]:=by rw[←hZ];exact HZ2.out.2.2.2.1.setAt 0 _
 have fZ:Fr [g] Z2 Z5:=by rw[←hZ];exact (Fr.refl [g] Z2).set (.inl (by simp)) _
 try rw[hZ]
 have hgR:R≠g:=fun h=>by have h1:=HRL.out g (by simp[GM]);omega
 have hrZ:BoxN Z5 R 91 _:=HZ2.out.2.2.2.2.1.fr fZ (by simpa using hgR)
 have hP:=(HVY.out.fr0 HZ2.out.2.2.2.2.2).putK HZ2.out.2.1 HZ2.out.1 HZ2.out.2.2.1 fZ hbZ
 have hRL:∀ k∈GM g m A B K2,k≠R:=fun k hk e=>by
  rcases hP.2.2 k hk with h1 | h1
  ·have h2:=HRL.out k h1;omega
  ·have h2:=HZ2.out.2.2.2.2.2.size
   have h3:=HRX.out.lt
   omega
 have HRN:=Hd hRL
 have HRZ:=Hd hrZ
 have HVZ:=Hd (hP.1.addP (Q:=fun W=>BoxN W R 91 #[.int .i64 3,.int .i64 0,.int .i64 3,.string ⟨#[]⟩,.slice (some ⟨ca2,0,none⟩) 1 xc2,.slice none 0 0]) (fun W hW=>hrZ.fr hW (fun hm=>hRL R hm rfl)))
 clear hbZ fZ hgR hrZ hP hRL hZ q0 q1 HZ2 HD
 have r4:=HRZ.out.k4
 go_wp2_with fail
 refine wp_loop_rounds 2 ?_
 clear r4 HQQ
 have HQQ:=Hd (HVZ.out.kept.now)
 rw[rounds_succ]
 have hcc:Cs Z5 ca2 (chC 3 ⟨#[]⟩ true):=HQQ.out.1.1.1.1.1.1.1.2.2.2.2.2
 have z0:(Z5).cell? ⟨ca2,0,none⟩=some (.int .i64 16):=hcc.2 0 _ rfl
 have z1:(Z5).cell? ⟨ca2,1,none⟩=some (.string ⟨#[]⟩):=hcc.2 1 _ rfl
 have z2:(Z5).cell? ⟨ca2,2,none⟩=some (.int .i64 3):=hcc.2 2 _ rfl
 have z3:(Z5).cell? ⟨ca2,3,none⟩=some (.int .i64 0):=hcc.2 3 _ rfl
 have z4:(Z5).cell? ⟨ca2,4,none⟩=some (.string ⟨#[]⟩):=hcc.2 4 _ rfl
 have z5:(Z5).cell? ⟨ca2,5,none⟩=some (.string ⟨#[]⟩):=hcc.2 5 _ rfl
 have z6:(Z5).cell? ⟨ca2,6,none⟩=some (.bool true):=hcc.2 6 _ rfl
 clear hcc
 go_upto_region 14 with fail
 obtain⟨D0,hD0,n0,f0⟩:=bxn Z5 #[.int .i64 16,.string ⟨#[]⟩,.int .i64 3,.int .i64 0,.string ⟨#[]⟩,.string ⟨#[]⟩,.bool true] 95
 rw[hD0]
 obtain⟨d0,d1,d2,d3,d4⟩:=n0.m5
 have HFD:=Hd f0
 clear hD0 f0 n0 z0 z1 z2 z3 z4 z5 z6
 obtain⟨ii,hii,iz0,iz1,iz2⟩:=info_name
 go_upto_region 15 with (at_builtin;(with_reducible refine wpList_app_tmp (w:=D0) rfl (.tmp 55) (.tmp 58) 101 rfl 31 ii _ 5 56 Tryz.underlying101 hii iz0 iz1 iz2 rfl (by decide) none 0 0 [] rfl (Own.nil _ _ _) 1 1 [.int .i64 16,.string ⟨#[]⟩,.int .i64 3,.int .i64 0,.string ⟨#[]⟩] 31 rfl rfl (by simp[Value.oneCell']) (by unfold maxLen;omega) (by omega) ?_);intro A2 c2 D2 ho hf hs;rw[show (0+1:Nat)=1 from rfl] at ho ⊢;obtain⟨nb,rfl,hnb⟩:=Cs.of_own ho (by omega);have HNB:Hid (Cs D2 nb (nameC 3)):=Hd hnb;have HD2:Hid (Fr [] D0 D2):=Hd (hf.mono (by simp[blk]));clear ho hf hs hnb)
 go_wp2_with fail
 rw[rounds_succ]
 go_wp2_with ((go_at_call 102;(with_reducible refine (Sorted_one nb c2 3 _ D2 HNB.out).mono ?_);rintro e D3 ⟨sb,sc,rfl,hsb,hf3⟩;have HSB:=Hd hsb;have HD3:Hid (Fr [] Z5 D3):=Hd ((HFD.out.then HD2.out).then hf3);clear hsb hf3))
 refine wp_loop_rounds 2 ?_
 rw[rounds_succ]
 clear d0 d1 d2 d3 d4 HNB HD2 HFD iz0 iz1 iz2 hii
 have z0:D3.cell? ⟨sb,0,none⟩=some (.int .i64 16):=HSB.out.2 0 _ rfl
 have z1:D3.cell? ⟨sb,1,none⟩=some (.string ⟨#[]⟩):=HSB.out.2 1 _ rfl
 have z2:D3.cell? ⟨sb,2,none⟩=some (.int .i64 3):=HSB.out.2 2 _ rfl
 have z3:D3.cell? ⟨sb,3,none⟩=some (.int .i64 0):=HSB.out.2 3 _ rfl
 have z4:D3.cell? ⟨sb,4,none⟩=some (.string ⟨#[]⟩):=HSB.out.2 4 _ rfl
 go_upto_region 19 with fail
 obtain⟨D4,hD4,n4,f4⟩:=bxn D3 #[.int .i64 16,.string ⟨#[]⟩,.int .i64 3,.int .i64 0,.string ⟨#[]⟩] 31
 rw[hD4]
 have HF4:=Hd (HD3.out.then f4)
 obtain⟨N,hN⟩:=nmd (D3.heap.size)
 rw[hN] at n4 ⊢
 have HN4:=Hd n4
 have HG4:=Hd (HVZ.out.fr0 HF4.out)
 clear z0 z1 z2 z3 z4 f4 n4 hD4 HD3 HSB
 have hWr:∀ W,Fr [] D4 W→Calls Tryz.prog 104 #[.pointer (some ⟨g,0,none⟩),.agg #[.int .i64 16,.string ⟨#[]⟩,.int .i64 3,.int .i64 0,.string ⟨#[]⟩],.int .i64 2] W (RetPost W (.int .i64 (-1))):=fun W hW=>Writer_none g m 3 2 _ _ _ _ W (HG4.out.fr0 hW).box (HG4.out.fr0 hW).wm keyOf_port3 (by simp[portV])
 have HWR:=Hd hWr
 have HSS:=Hd (fun (W:World) (hW:Fr [] D4 W)=>(⟨(HN4.out.fr hW (by simp)).c 0,(HN4.out.fr hW (by simp)).c 1,(HN4.out.fr hW (by simp)).c 2,(HN4.out.fr hW (by simp)).c 3,(HN4.out.fr hW (by simp)).c 4⟩:W.cell? ⟨N,0,none⟩=some (.int .i64 16)∧W.cell? ⟨N,1,none⟩=some (.string ⟨#[]⟩)∧W.cell? ⟨N,2,none⟩=some (.int .i64 3)∧W.cell? ⟨N,3,none⟩=some (.int .i64 0)∧W.cell? ⟨N,4,none⟩=some (.string ⟨#[]⟩)))
 have hC:Fr [] D4 D4.drew:=(Fr.refl _ D4).drew
 clear hWr
 refine wp_then_via (a:=?b2) (fun a' W'=>∃ D,a'={ tmps:=((((((((Act.tmps ?b2).setIfInBounds 68 (.pointer (some ⟨g,0,none⟩))).setIfInBounds 69 (.agg #[.int .i64 16,.string ⟨#[]⟩,.int .i64 3,.int .i64 0,.string ⟨#[]⟩])).setIfInBounds 70 (.int .i64 2)).setIfInBounds 71 (.int .i64 (-1))).setIfInBounds 72 (.int .i64 2)).setIfInBounds 73 (.agg #[.int .i64 16,.string ⟨#[]⟩,.int .i64 3,.int .i64 0,.string ⟨#[]⟩])).setIfInBounds 74 (.agg #[.int .i64 (-1),.int .i64 2,.int .i64 16,.string ⟨#[]⟩,.int .i64 3,.int .i64 0,.string ⟨#[]⟩])).setIfInBounds 12 (.pointer (some ⟨D,0,none⟩)),defers:=[] }∧BoxN W' D 98 #[.int .i64 (-1),.int .i64 2,.int .i64 16,.string ⟨#[]⟩,.int .i64 3,.int .i64 0,.string ⟨#[]⟩]∧Fr [] D4 W'∧D4.heap.size≤D) ?_ ?_
 ·refine wp_region_head (fun W=>Fr [] D4 W) 8 (by kernel_rfl) ?_ (by decide)
  show headJ 0 _ _ _ _ _ _ _ _ _ _ _
  iterate 3
   refine hdJ (v:=?_) rfl (Or.inl ⟨by rfl,?_⟩) ?_
   rotate_left
   ·intro W hW;obtain⟨y0,y1,y2,y3,y4⟩:=HSS.out W hW;go_simp;try with_reducible rfl
   try simp only[Act.put,qA,qB,qC,qD,qE,qF]
  show headJ 4 _ _ _ _ _ _ _ _ _ _ _
  iterate 2
   refine hdJ (v:=?_) rfl (Or.inl ⟨by rfl,?_⟩) ?_
   rotate_left
   ·intro W hW;obtain⟨y0,y1,y2,y3,y4⟩:=HSS.out W hW;go_simp;try with_reducible rfl
   try simp only[Act.put,qA,qB,qC,qD,qE,qF]
  refine headI_two (i:=3) (j:=7) (by kernel_rfl) (by decide) (by decide) rfl rfl (fun K hK=>?_) (fun K hK=>?_)
  ·rw[if_pos (by rfl)]
   go_simp
   go_at_call 104
   (with_reducible refine (HWR.out _ hC).mono ?_)
   rintro e E1 ⟨rfl,hf⟩
   have hC1:=hC.then hf
   refine hK _ _ hC1 ?_
   clear hK K hC hf
   try simp only[Act.put,qA,qB,qC,qD,qE,qF]
   have hC:=hC1
   show headJ 6 _ _ _ _ _ _ _ _ _ _ _
   refine hdJ (v:=?_) rfl (Or.inl ⟨by rfl,?_⟩) ?_
   rotate_left
   ·intro W hW;obtain⟨y0,y1,y2,y3,y4⟩:=HSS.out W hW;go_simp;try with_reducible rfl
   try simp only[Act.put,qA,qB,qC,qD,qE,qF]
   refine headI_only (i:=7) (by kernel_rfl) (by decide) rfl (fun K hK=>?_)
   rw[if_pos (by rfl)]
   go_simp
   obtain⟨E2,hE2,n2,f2⟩:=bxn E1 #[.int .i64 0,.int .i64 0,.int .i64 0,.string ⟨#[]⟩,.int .i64 0,.int .i64 0,.string ⟨#[]⟩] 98
   have hC2:=hC1.then f2
   have hD:D4.heap.size≤E1.heap.size:=hC1.size
   rw[hE2]
   refine hK _ _ hC2 ?_
   clear hK K hE2 hC hC1 f2
   try simp only[Act.put,qA,qB,qC,qD,qE,qF]
   refine headI_done ⟨by kernel_rfl,?_⟩
   simp only[List.drop_succ_cons,List.drop_zero]
   obtain⟨u0,u1,u2,u3,u4,u5,u6⟩:=n2.m7
   have v0:=n2.f 0
   have v1:=n2.f 1
   have v2:=n2.f 2
   have v3:=n2.f 3
   have v4:=n2.f 4
   have v5:=n2.f 5
   have v6:=n2.f 6
   go_wp2_with fail
   exact⟨_,rfl,((((((n2.setAt 0 _).setAt 1 _).setAt 2 _).setAt 3 _).setAt 4 _).setAt 5 _).setAt 6 _,((((((hC2.set (.inr hD) _).set (.inr hD) _).set (.inr hD) _).set (.inr hD) _).set (.inr hD) _).set (.inr hD) _).set (.inr hD) _,hD⟩
  ·rw[if_pos (by rfl)]
   go_simp
   obtain⟨E1,hE1,n1,hC1⟩:=bxd D4 #[.int .i64 0,.int .i64 0,.int .i64 0,.string ⟨#[]⟩,.int .i64 0,.int .i64 0,.string ⟨#[]⟩] 98
   rw[hE1]
   refine hK _ _ hC1 ?_
   clear hK K hE1 hC
   try simp only[Act.put,qA,qB,qC,qD,qE,qF]
   refine headI_only (i:=3) (by kernel_rfl) (by decide) rfl (fun K hK=>?_)
   rw[if_pos (by rfl)]
   go_simp
   go_at_call 104
   (with_reducible refine (HWR.out _ hC1).mono ?_)
   rintro e E2 ⟨rfl,hf⟩
   have hC2:=hC1.then hf
   have n2:=n1.fr hf (by simp)
   have hD:D4.heap.size≤D4.heap.size:=Nat.le_refl _
   refine hK _ _ hC2 ?_
   clear hK K hC1 hf n1
   try simp only[Act.put,qA,qB,qC,qD,qE,qF]
   have hC:=hC2
   show headJ 6 _ _ _ _ _ _ _ _ _ _ _
   refine hdJ (v:=?_) rfl (Or.inl ⟨by rfl,?_⟩) ?_
   rotate_left
   ·intro W hW;obtain⟨y0,y1,y2,y3,y4⟩:=HSS.out W hW;go_simp;try with_reducible rfl
   try simp only[Act.put,qA,qB,qC,qD,qE,qF]
   refine headI_done ⟨by kernel_rfl,?_⟩
   simp only[List.drop_succ_cons,List.drop_zero]
   obtain⟨u0,u1,u2,u3,u4,u5,u6⟩:=n2.m7
   have v0:=n2.f 0
   have v1:=n2.f 1
   have v2:=n2.f 2
   have v3:=n2.f 3
   have v4:=n2.f 4
   have v5:=n2.f 5
   have v6:=n2.f 6
   go_wp2_with fail
   exact⟨_,rfl,((((((n2.setAt 0 _).setAt 1 _).setAt 2 _).setAt 3 _).setAt 4 _).setAt 5 _).setAt 6 _,((((((hC2.set (.inr hD) _).set (.inr hD) _).set (.inr hD) _).set (.inr hD) _).set (.inr hD) _).set (.inr hD) _).set (.inr hD) _,hD⟩
 rintro a' E ⟨D,rfl,hDb,hfE,hDs⟩
 simp only[qA,qB,qC]
 have HGE:=Hd (HG4.out.fr0 hfE)
 have HDE:=Hd hDb
 have HSD:=Hd (And.intro hDs HF4.out.size)
 clear hC HSS HWR HG4 HN4 hDb hfE hDs
 clear hKC
 obtain⟨KC,hKC⟩:=nmd (K2)
 rw[hKC] at HGE ⊢
 go_upto_region 20 with fail
 have HSS:=Hd (fun (W:World) (hW:Fr [] E W)=>(⟨(HGE.out.box.fr hW (by simp)).c 1,(HGE.out.lb.fr hW (by simp)).c 2,(HGE.out.lb.fr hW (by simp)).c 2,(HDE.out.fr hW (by simp)).c 0,(HDE.out.fr hW (by simp)).c 1,(HDE.out.fr hW (by simp)).c 2,(HDE.out.fr hW (by simp)).c 3,(HDE.out.fr hW (by simp)).c 4,(HDE.out.fr hW (by simp)).c 5,(HDE.out.fr hW (by simp)).c 6⟩:W.cell? ⟨g,1,none⟩=some (.slice (some ⟨A,0,none⟩) 3 3)∧W.cell? ⟨A,2,none⟩=some (.slice none 0 0)∧W.cell? ⟨A,2,none⟩=some (.slice none 0 0)∧W.cell? ⟨D,0,none⟩=some (.int .i64 (-1))∧W.cell? ⟨D,1,none⟩=some (.int .i64 2)∧W.cell? ⟨D,2,none⟩=some (.int .i64 16)∧W.cell? ⟨D,3,none⟩=some (.string ⟨#[]⟩)∧W.cell? ⟨D,4,none⟩=some (.int .i64 3)∧W.cell? ⟨D,5,none⟩=some (.int .i64 0)∧W.cell? ⟨D,6,none⟩=some (.string ⟨#[]⟩)))
 have hC:Fr [] E E.drew:=(Fr.refl _ E).drew
 refine wp_region_head (fun W=>Fr [] E W) 16 (by kernel_rfl) ?_ (by decide)
 show headJ 0 _ _ _ _ _ _ _ _ _ _ _
 iterate 13
  refine hdJ (v:=?_) rfl (Or.inl ⟨by rfl,?_⟩) ?_
  rotate_left
  ·intro W hW;obtain⟨gf,al,_,l0,l1,l2,l3,l4,l5,l6⟩:=HSS.out W hW;go_simp;try with_reducible rfl
  try simp only[Act.put,qA,qB,qC,qD,qE,qF]
 refine headI_only (i:=13) (by kernel_rfl) (by decide) rfl (fun K hK=>?_)
 rw[if_pos (by rfl)]
 go_simp
 obtain⟨G1,hG1,n1,hC1⟩:=bxd E #[.int .i64 (-1),.int .i64 2,.int .i64 16,.string ⟨#[]⟩,.int .i64 3,.int .i64 0,.string ⟨#[]⟩] 98
 rw[hG1]
 refine hK _ _ hC1 ?_
 clear hK K hG1 hC
 try simp only[Act.put,qA,qB,qC,qD,qE,qF]
 refine headI_only (i:=14) (by kernel_rfl) (by decide) rfl (fun K hK=>?_)
 rw[if_pos (by rfl)]
 obtain⟨ii,hii,iz0,iz1,iz2⟩:=info_link
 refine wp_app (.tmp 86) (.tmp 88) 61 rfl 98 ii _ 7 72 Tryz.underlying61 hii iz0 iz1 iz2 rfl (by decide) none 0 0 [] rfl (Own.nil _ _ _) ⟨E.heap.size,0,none⟩ 1 1 [.int .i64 (-1),.int .i64 2,.int .i64 16,.string ⟨#[]⟩,.int .i64 3,.int .i64 0,.string ⟨#[]⟩] rfl rfl (fun j u hu=>by rw[add_mid',n1.c j];simpa using hu) (by simp[Value.oneCell']) (by unfold maxLen;omega) (by omega) ?_
 intro LA lc3 G2 ho2 hf2 hA2
 rw[show (0+1:Nat)=1 from rfl] at ho2 ⊢
 obtain⟨lb3,rfl,hlb⟩:=Cs.of_own ho2 (by omega)
 have hlN:G1.heap.size≤lb3:=by
  rcases hA2 lb3 (by simp[blk]) with h | h
  ·simp[blk] at h
  ·exact h
 have hC:Fr [] E G2:=hC1.then (hf2.mono (by simp[blk]))
 refine hK _ _ hC ?_
 clear hK K
 try simp only[Act.put,qA,qB,qC,qD,qE,qF]
 show headJ 15 _ _ _ _ _ _ _ _ _ _ _
 refine hdJ (v:=?_) rfl (Or.inl ⟨by rfl,?_⟩) ?_
 rotate_left
 ·intro W hW;obtain⟨gf,al,_,l0,l1,l2,l3,l4,l5,l6⟩:=HSS.out W hW;go_simp;try with_reducible rfl
 try simp only[Act.put,qA,qB,qC,qD,qE,qF]
 refine headI_done ⟨by kernel_rfl,?_⟩
 simp only[List.drop_succ_cons,List.drop_zero]
 have hlx:=HGE.out.lb.fr hC (by simp)
 have q0:=hlx.k2
 have q1:=hlx.f 2
 have hGl:=HGE.out.lt
 have hEs:=hC1.size
 have HLB:=Hd (And.intro hlb (And.intro hlN hEs))
 have HC2:=Hd hC
 have HLX:=Hd hlx
 clear hlb hlN hEs hC hlx HSS iz0 iz1 iz2 hii ho2 hf2 hA2 n1 hC1 hGl
 go_upto_region 21 with fail
 obtain⟨E5,hEN⟩:=nmd (G2.setCell ⟨A,2,none⟩ (.slice (some ⟨lb3,0,none⟩) 1 lc3))
 have fEN:Fr [A] G2 E5:=by rw[←hEN];exact (Fr.refl [A] G2).set (.inl (by simp)) _
 have hbN:BoxN E5 A 61 #[.slice none 0 0,.slice (some ⟨lb1,0,none⟩) 1 lc1,.slice (some ⟨lb3,0,none⟩) 1 lc3]:=by rw[←hEN];exact HLX.out.setAt 2 _
 try rw[hEN]
 have hltE:=HGE.out.lt
 have hlbA:∀ k∈GM g m A B KC,k≠lb3:=fun k hk e=>by
  have h1:=hltE k hk
  have h2:=HLB.out.2.1
  have h3:=HLB.out.2.2
  omega
 have hbA:lb3≠A:=fun e=>hlbA A (by simp[GM]) e.symm
 have HGF:=Hd (((HGE.out.fr0 HC2.out).putL fEN hbN).addP (Q:=fun W=>Cs W lb3 [.int .i64 (-1),.int .i64 2,.int .i64 16,.string ⟨#[]⟩,.int .i64 3,.int .i64 0,.string ⟨#[]⟩]) (fun W hW=>(HLB.out.1.fr fEN (by simpa using hbA)).fr hW (fun hm=>hlbA lb3 hm rfl)))
 have hDN:BoxN E5 D 98 #[.int .i64 (-1),.int .i64 2,.int .i64 16,.string ⟨#[]⟩,.int .i64 3,.int .i64 0,.string ⟨#[]⟩]:=(HDE.out.fr HC2.out (by simp)).fr fEN (by have h1:=HVZ.out.lt A (by simp[GM]);have h2:=HSD.out;simp;omega)
 clear HDE
 have HDE:=Hd hDN
 clear q0 q1 hEN fEN hbN hltE hlbA hbA hDN HLB HC2 HLX
 have l0:=HDE.out.k0
 have r5:E5.cell? ⟨R,5,none⟩=some (.slice none 0 0):=(HGF.out.kept.now).1.2.c 5
 go_wp2_with fail
 rw[rounds_succ]
 go_wp2_with fail
 refine wp_loop_rounds 1 ?_
 rw[rounds_succ]
 go_wp2_with fail
 rw[rounds_succ]
 go_wp2_with fail
 go_ret2
 have hG:=HGF.out
 have hP:=hG.kept.now
 exact⟨g,rfl,⟨A,B,m,KC,_,lb1,lc1,lb3,lc3,hG.box,hG.lb,hP.1.1.1.1.2⟩,hP.1.1.1.1.1.1.1.1.1⟩
end Go.Proofs.YtlpmiimgacfmkaaGreatDoor
