/- logtree: include, Include, Root. -/
import Derived.Test.YtlpmiimgacfmkaaGreatDoorRTr4
import Derived.Test.YtlpmiimgacfmkaaGreatDoorRWr2
import Derived.Test.YtlpmiimgacfmkaaGreatDoorRCp1
import Derived.Test.YtlpmiimgacfmkaaGreatDoorRSa3
import Derived.Test.YtlpmiimgacfmkaaGreatDoorRSt7
import Derived.Test.YtlpmiimgacfmkaaGreatDoorRMaps
set_option linter.all false
namespace Go.Proofs.YtlpmiimgacfmkaaGreatDoor
open Go.RowKit
set_option maxRecDepth 100000
set_option maxHeartbeats 4000000
def ListPost (w:World) (ds:List Nm) (e:Ending) (w':World):Prop:=∃ A c,e=.returned (.slice A ds.length c)∧Own w' 57 32 A ds.length c (ds.flatMap dCells)∧Fr [] w w'∧∀ k∈blk A,w.heap.size≤k
theorem inc_nil (b:Nat) (i f:Int) (w:World):Calls Tryz.prog 125 #[.pointer (some ⟨b,0,none⟩),.int .i64 i,.int .i64 f,.int .i64 1] w (ListPost w []):=by
 go_enter Tryz.func125,Tryz.ntmps125
 go_wp2_with fail
 go_ret
 exact⟨none,0,rfl,Own.nil _ _ _,Fr.refl [] w,by simp[blk]⟩
theorem inc_104 (b:Nat) (ds:List Nm) (kvs:List (Value × Value)) (F:List Nat) (d:Nm) (xs:List Nm) (w:World) (h:TreeAt w b ds kvs F) (hd32:d.length=32) (hxs:xs.length≤1000)
 (hI:Calls Tryz.prog 125 #[.pointer (some ⟨b,0,none⟩),.int .i64 1,.int .i64 0,.int .i64 2] w (ListPost w xs))
 (hR:∀ W,Fr [] w W→Calls Tryz.prog 127 #[.pointer (some ⟨b,0,none⟩),.int .i64 2,.int .i64 2] W (SumPost W d)) :
 Calls Tryz.prog 125 #[.pointer (some ⟨b,0,none⟩),.int .i64 1,.int .i64 0,.int .i64 4] w (ListPost w (xs++[d])):=by
 have hL:=leftSize_any 4 (by omega) (by omega) w
 rw[show (leftS 4:Nat)=2 from by decide] at hL
 have hL2:Calls Tryz.prog 171 #[.int .i64 4] w fun e w'=>e=.returned (.int .i64 2)∧w'=w:=hL
 obtain⟨ii,hii,iz0,iz1,iz2⟩:=info_dig
 have HL:=Hd hL2
 have HI:=Hd hI
 have HR:=Hd hR
 have hcl:(dCells d).length=32:=by rw[dcells_len,hd32]
 clear hL hL2 hI hR h
 go_enter Tryz.func125,Tryz.ntmps125
 go_wp2_with (first
  | (go_at_call 171;(with_reducible refine HL.out.mono ?_);rintro e w1 ⟨rfl,rfl⟩)
  | (go_at_call 125;(with_reducible refine HI.out.mono ?_);rintro e w1 ⟨A1,c1,rfl,ho1,hf1,hs1⟩;have HO1:=Hd ho1;have HF1:=Hd hf1;have HS1:=Hd hs1;clear ho1 hf1 hs1)
  | (go_at_call 127;(with_reducible refine (HR.out _ HF1.out).mono ?_);rintro e w2 ⟨rfl,hf2⟩;unfold encD;have HO2:=Hd (HO1.out.fr hf2 (by simp));have HF2:=Hd (HF1.out.then hf2);have HZ2:=hf2.size;clear hf2)
  | (rw[fold_zero (by rfl) hd32];at_builtin;(with_reducible refine wpList_app_tmp (w:=w2) rfl (.tmp 21) (.tmp 30) 51 rfl 57 ii _ 32 32 Tryz.underlying51 hii iz0 iz1 iz2 rfl (by decide) A1 xs.length c1 (xs.flatMap dCells) rfl HO2.out 1 1 (dCells d) 57 rfl (by rw[hcl]) (dcells_one d) (by unfold maxLen;omega) (by omega) ?_);intro A3 c3 w3 ho3 hf3 hs3;have HO3:=Hd ho3;have HF3:=Hd hf3;have HS3:=Hd hs3;clear ho3 hf3 hs3))
 go_ret
 have hlen:(xs++[d]).length=xs.length+1:=by simp
 have h1:=HF1.out.size
 refine⟨A3,c3,by rw[hlen];rfl,by rw[hlen,flat_snoc];exact HO3.out,HF2.out.trans HF3.out (fun x hx=>.inr (HS1.out x hx)),fun k hk=>?_⟩
 rcases HS3.out k hk with h | h
 ·exact HS1.out k h
 ·omega
theorem inc_102 (b:Nat) (ds:List Nm) (kvs:List (Value × Value)) (F:List Nat) (d:Nm) (xs:List Nm) (w:World) (h:TreeAt w b ds kvs F) (hd32:d.length=32) (hxs:xs.length≤1000)
 (hI:Calls Tryz.prog 125 #[.pointer (some ⟨b,0,none⟩),.int .i64 0,.int .i64 1,.int .i64 1] w (ListPost w xs))
 (hR:∀ W,Fr [] w W→Calls Tryz.prog 127 #[.pointer (some ⟨b,0,none⟩),.int .i64 0,.int .i64 1] W (SumPost W d)) :
 Calls Tryz.prog 125 #[.pointer (some ⟨b,0,none⟩),.int .i64 1,.int .i64 0,.int .i64 2] w (ListPost w (xs++[d])):=by
 have hL:=leftSize_any 2 (by omega) (by omega) w
 rw[show (leftS 2:Nat)=1 from by decide] at hL
 have hL2:Calls Tryz.prog 171 #[.int .i64 2] w fun e w'=>e=.returned (.int .i64 1)∧w'=w:=hL
 obtain⟨ii,hii,iz0,iz1,iz2⟩:=info_dig
 have HL:=Hd hL2
 have HI:=Hd hI
 have HR:=Hd hR
 have hcl:(dCells d).length=32:=by rw[dcells_len,hd32]
 clear hL hL2 hI hR h
 go_enter Tryz.func125,Tryz.ntmps125
 go_wp2_with (first
  | (go_at_call 171;(with_reducible refine HL.out.mono ?_);rintro e w1 ⟨rfl,rfl⟩)
  | (go_at_call 125;(with_reducible refine HI.out.mono ?_);rintro e w1 ⟨A1,c1,rfl,ho1,hf1,hs1⟩;have HO1:=Hd ho1;have HF1:=Hd hf1;have HS1:=Hd hs1;clear ho1 hf1 hs1)
  | (go_at_call 127;(with_reducible refine (HR.out _ HF1.out).mono ?_);rintro e w2 ⟨rfl,hf2⟩;unfold encD;have HO2:=Hd (HO1.out.fr hf2 (by simp));have HF2:=Hd (HF1.out.then hf2);have HZ2:=hf2.size;clear hf2)
  | (rw[fold_zero (by rfl) hd32];at_builtin;(with_reducible refine wpList_app_tmp (w:=w2) rfl (.tmp 42) (.tmp 47) 51 rfl 57 ii _ 32 32 Tryz.underlying51 hii iz0 iz1 iz2 rfl (by decide) A1 xs.length c1 (xs.flatMap dCells) rfl HO2.out 1 1 (dCells d) 57 rfl (by rw[hcl]) (dcells_one d) (by unfold maxLen;omega) (by omega) ?_);intro A3 c3 w3 ho3 hf3 hs3;have HO3:=Hd ho3;have HF3:=Hd hf3;have HS3:=Hd hs3;clear ho3 hf3 hs3))
 go_ret
 have hlen:(xs++[d]).length=xs.length+1:=by simp
 have h1:=HF1.out.size
 refine⟨A3,c3,by rw[hlen];rfl,by rw[hlen,flat_snoc];exact HO3.out,HF2.out.trans HF3.out (fun x hx=>.inr (HS1.out x hx)),fun k hk=>?_⟩
 rcases HS3.out k hk with h | h
 ·exact HS1.out k h
 ·omega
theorem inc_204 (b:Nat) (ds:List Nm) (kvs:List (Value × Value)) (F:List Nat) (d:Nm) (xs:List Nm) (w:World) (h:TreeAt w b ds kvs F) (hd32:d.length=32) (hxs:xs.length≤1000)
 (hI:Calls Tryz.prog 125 #[.pointer (some ⟨b,0,none⟩),.int .i64 0,.int .i64 2,.int .i64 2] w (ListPost w xs))
 (hR:∀ W,Fr [] w W→Calls Tryz.prog 127 #[.pointer (some ⟨b,0,none⟩),.int .i64 0,.int .i64 2] W (SumPost W d)) :
 Calls Tryz.prog 125 #[.pointer (some ⟨b,0,none⟩),.int .i64 2,.int .i64 0,.int .i64 4] w (ListPost w (xs++[d])):=by
 have hL:=leftSize_any 4 (by omega) (by omega) w
 rw[show (leftS 4:Nat)=2 from by decide] at hL
 have hL2:Calls Tryz.prog 171 #[.int .i64 4] w fun e w'=>e=.returned (.int .i64 2)∧w'=w:=hL
 obtain⟨ii,hii,iz0,iz1,iz2⟩:=info_dig
 have HL:=Hd hL2
 have HI:=Hd hI
 have HR:=Hd hR
 have hcl:(dCells d).length=32:=by rw[dcells_len,hd32]
 clear hL hL2 hI hR h
 go_enter Tryz.func125,Tryz.ntmps125
 go_wp2_with (first
  | (go_at_call 171;(with_reducible refine HL.out.mono ?_);rintro e w1 ⟨rfl,rfl⟩)
  | (go_at_call 125;(with_reducible refine HI.out.mono ?_);rintro e w1 ⟨A1,c1,rfl,ho1,hf1,hs1⟩;have HO1:=Hd ho1;have HF1:=Hd hf1;have HS1:=Hd hs1;clear ho1 hf1 hs1)
  | (go_at_call 127;(with_reducible refine (HR.out _ HF1.out).mono ?_);rintro e w2 ⟨rfl,hf2⟩;unfold encD;have HO2:=Hd (HO1.out.fr hf2 (by simp));have HF2:=Hd (HF1.out.then hf2);have HZ2:=hf2.size;clear hf2)
  | (rw[fold_zero (by rfl) hd32];at_builtin;(with_reducible refine wpList_app_tmp (w:=w2) rfl (.tmp 42) (.tmp 47) 51 rfl 57 ii _ 32 32 Tryz.underlying51 hii iz0 iz1 iz2 rfl (by decide) A1 xs.length c1 (xs.flatMap dCells) rfl HO2.out 1 1 (dCells d) 57 rfl (by rw[hcl]) (dcells_one d) (by unfold maxLen;omega) (by omega) ?_);intro A3 c3 w3 ho3 hf3 hs3;have HO3:=Hd ho3;have HF3:=Hd hf3;have HS3:=Hd hs3;clear ho3 hf3 hs3))
 go_ret
 have hlen:(xs++[d]).length=xs.length+1:=by simp
 have h1:=HF1.out.size
 refine⟨A3,c3,by rw[hlen];rfl,by rw[hlen,flat_snoc];exact HO3.out,HF2.out.trans HF3.out (fun x hx=>.inr (HS1.out x hx)),fun k hk=>?_⟩
 rcases HS3.out k hk with h | h
 ·exact HS1.out k h
 ·omega
theorem inc_022 (b:Nat) (ds:List Nm) (kvs:List (Value × Value)) (F:List Nat) (d:Nm) (xs:List Nm) (w:World) (h:TreeAt w b ds kvs F) (hd32:d.length=32) (hxs:xs.length≤1000)
 (hI:Calls Tryz.prog 125 #[.pointer (some ⟨b,0,none⟩),.int .i64 0,.int .i64 2,.int .i64 1] w (ListPost w xs))
 (hR:∀ W,Fr [] w W→Calls Tryz.prog 127 #[.pointer (some ⟨b,0,none⟩),.int .i64 3,.int .i64 1] W (SumPost W d)) :
 Calls Tryz.prog 125 #[.pointer (some ⟨b,0,none⟩),.int .i64 0,.int .i64 2,.int .i64 2] w (ListPost w (xs++[d])):=by
 have hL:=leftSize_any 2 (by omega) (by omega) w
 rw[show (leftS 2:Nat)=1 from by decide] at hL
 have hL2:Calls Tryz.prog 171 #[.int .i64 2] w fun e w'=>e=.returned (.int .i64 1)∧w'=w:=hL
 obtain⟨ii,hii,iz0,iz1,iz2⟩:=info_dig
 have HL:=Hd hL2
 have HI:=Hd hI
 have HR:=Hd hR
 have hcl:(dCells d).length=32:=by rw[dcells_len,hd32]
 clear hL hL2 hI hR h
 go_enter Tryz.func125,Tryz.ntmps125
 go_wp2_with (first
  | (go_at_call 171;(with_reducible refine HL.out.mono ?_);rintro e w1 ⟨rfl,rfl⟩)
  | (go_at_call 125;(with_reducible refine HI.out.mono ?_);rintro e w1 ⟨A1,c1,rfl,ho1,hf1,hs1⟩;have HO1:=Hd ho1;have HF1:=Hd hf1;have HS1:=Hd hs1;clear ho1 hf1 hs1)
  | (go_at_call 127;(with_reducible refine (HR.out _ HF1.out).mono ?_);rintro e w2 ⟨rfl,hf2⟩;unfold encD;have HO2:=Hd (HO1.out.fr hf2 (by simp));have HF2:=Hd (HF1.out.then hf2);have HZ2:=hf2.size;clear hf2)
  | (rw[fold_zero (by rfl) hd32];at_builtin;(with_reducible refine wpList_app_tmp (w:=w2) rfl (.tmp 21) (.tmp 30) 51 rfl 57 ii _ 32 32 Tryz.underlying51 hii iz0 iz1 iz2 rfl (by decide) A1 xs.length c1 (xs.flatMap dCells) rfl HO2.out 1 1 (dCells d) 57 rfl (by rw[hcl]) (dcells_one d) (by unfold maxLen;omega) (by omega) ?_);intro A3 c3 w3 ho3 hf3 hs3;have HO3:=Hd ho3;have HF3:=Hd hf3;have HS3:=Hd hs3;clear ho3 hf3 hs3))
 go_ret
 have hlen:(xs++[d]).length=xs.length+1:=by simp
 have h1:=HF1.out.size
 refine⟨A3,c3,by rw[hlen];rfl,by rw[hlen,flat_snoc];exact HO3.out,HF2.out.trans HF3.out (fun x hx=>.inr (HS1.out x hx)),fun k hk=>?_⟩
 rcases HS3.out k hk with h | h
 ·exact HS1.out k h
 ·omega
def ListPost2 (w:World) (ds:List Nm) (e:Ending) (w':World):Prop:=∃ A c,e=.returned (.tuple #[.slice A ds.length c,.int .i64 0])∧Own w' 57 32 A ds.length c (ds.flatMap dCells)∧Fr [] w w'∧∀ k∈blk A,w.heap.size≤k
theorem Include_14 (b:Nat) (ds:List Nm) (kvs:List (Value × Value)) (F:List Nat) (xs:List Nm) (w:World) (h:TreeAt w b ds kvs F) (hl:ds.length=4)
 (hI:Calls Tryz.prog 125 #[.pointer (some ⟨b,0,none⟩),.int .i64 1,.int .i64 0,.int .i64 4] w (ListPost w xs)) :
 Calls Tryz.prog 61 #[.pointer (some ⟨b,0,none⟩),.int .i64 1,.int .i64 4] w (ListPost2 w xs):=by
 obtain⟨A,c,m,hT,_⟩:=h
 have hW1:=ltwithin_any 4 1 4 w
 have hW2:=ltwithin_any 1 0 (4 - 1) w
 rw[show decide ((1:Int)≤4∧(4:Int)≤4)=true from by decide] at hW1
 rw[show decide ((0:Int)≤1∧(1:Int)≤4 - 1)=true from by decide] at hW2
 have hW3:Calls Tryz.prog 124 #[.int .i64 1,.int .i64 0,.int .i64 3] w fun e w'=>e=.returned (.bool true)∧w=w':=hW2
 have HW1:=Hd hW1
 have HW2:=Hd hW3
 have HI:=Hd hI
 have hbx:=hT.box
 rw[hl] at hbx
 have x0:=hbx.k0
 clear hW1 hW2 hW3 hI hbx hT
 go_enter Tryz.func61,Tryz.ntmps61
 go_wp2_with (first
  | (go_at_call 124;(with_reducible refine HW1.out.mono ?_);rintro e w1 ⟨rfl,rfl⟩)
  | (go_at_call 124;(with_reducible refine HW2.out.mono ?_);rintro e w1 ⟨rfl,rfl⟩)
  | (go_at_call 125;(with_reducible refine HI.out.mono ?_);rintro e w1 ⟨A1,c1,rfl,ho1,hf1,hs1⟩))
 go_ret2
 exact⟨A1,c1,rfl,ho1,hf1,hs1⟩
theorem Include_24 (b:Nat) (ds:List Nm) (kvs:List (Value × Value)) (F:List Nat) (xs:List Nm) (w:World) (h:TreeAt w b ds kvs F) (hl:ds.length=4)
 (hI:Calls Tryz.prog 125 #[.pointer (some ⟨b,0,none⟩),.int .i64 2,.int .i64 0,.int .i64 4] w (ListPost w xs)) :
 Calls Tryz.prog 61 #[.pointer (some ⟨b,0,none⟩),.int .i64 2,.int .i64 4] w (ListPost2 w xs):=by
 obtain⟨A,c,m,hT,_⟩:=h
 have hW1:=ltwithin_any 4 1 4 w
 have hW2:=ltwithin_any 2 0 (4 - 1) w
 rw[show decide ((1:Int)≤4∧(4:Int)≤4)=true from by decide] at hW1
 rw[show decide ((0:Int)≤2∧(2:Int)≤4 - 1)=true from by decide] at hW2
 have hW3:Calls Tryz.prog 124 #[.int .i64 2,.int .i64 0,.int .i64 3] w fun e w'=>e=.returned (.bool true)∧w=w':=hW2
 have HW1:=Hd hW1
 have HW2:=Hd hW3
 have HI:=Hd hI
 have hbx:=hT.box
 rw[hl] at hbx
 have x0:=hbx.k0
 clear hW1 hW2 hW3 hI hbx hT
 go_enter Tryz.func61,Tryz.ntmps61
 go_wp2_with (first
  | (go_at_call 124;(with_reducible refine HW1.out.mono ?_);rintro e w1 ⟨rfl,rfl⟩)
  | (go_at_call 124;(with_reducible refine HW2.out.mono ?_);rintro e w1 ⟨rfl,rfl⟩)
  | (go_at_call 125;(with_reducible refine HI.out.mono ?_);rintro e w1 ⟨A1,c1,rfl,ho1,hf1,hs1⟩))
 go_ret2
 exact⟨A1,c1,rfl,ho1,hf1,hs1⟩
theorem Root_4 (b:Nat) (ds:List Nm) (kvs:List (Value × Value)) (F:List Nat) (d:Nm) (w:World) (h:TreeAt w b ds kvs F) (hl:ds.length=4) (hp:PartIs ds kvs 2 0 d):Calls Tryz.prog 62 #[.pointer (some ⟨b,0,none⟩),.int .i64 4] w (TagPost w d):=by
 obtain⟨w1,hw1⟩:=nmd (w.alloc (.cells (z32) 57))
 have hf1:Fr [] w w1:=by rw[←hw1];exact (Fr.refl [] w).alloc _
 obtain⟨fR,hR⟩:∃ f,w1.rowIs w.heap.size 57 32 f:=by rw[←hw1];exact⟨_,row_new w _ _⟩
 have hC:=root_0_4 b ds kvs F d w1 (h.fr0 hf1) hp
 have hd32:=hp.1
 have hcl:(dCells d).length=32:=by rw[dcells_len,hd32]
 have hW:=ltwithin_any 4 0 4 w1
 rw[show decide ((0:Int)≤4∧(4:Int)≤4)=true from by decide] at hW
 obtain⟨A,c,m,hT,_⟩:=h
 have hbx:=hT.box.fr hf1 (by simp)
 rw[hl] at hbx
 have x0:=hbx.k0
 have HC:=Hd hC
 have HW:=Hd hW
 have HR2:=Hd hR
 have HF2:=Hd hf1
 have HW1:=Hd hw1
 clear hC hW hR hf1 hw1 hbx hT hp
 go_enter Tryz.func62,Tryz.ntmps62
 go_upto_region 1 with fail
 rw[HW1.out]
 go_wp2_with (first
  | (go_at_call 124;(with_reducible refine HW.out.mono ?_);rintro e w1 ⟨rfl,rfl⟩)
  | (go_at_call 127;(with_reducible refine HC.out.mono ?_);rintro e w3 ⟨rfl,hf3⟩;unfold encD;have hR3:=rowIs_fr HR2.out hf3 (by simp);have hst:=store_digest (d:=d) hR3 hd32;have hrd:=row_digest (d:=d) hR3 hd32;obtain⟨w4,hw4⟩:∃ X,w3.setCells w.heap.size 0 (dCells d)=X:=⟨_,rfl⟩;have hf4:Fr [] w w4:=(by rw[←hw4];exact ((HF2.out.then hf3).setCells (.inr (Nat.le_refl _)) _ _));rw[hw4] at hst hrd;have HRD:=Hd hrd.1;have HF4:=Hd hf4;clear hw4 hrd hf4 hR3 hf3))
 exact bodyPost_ret (v:=.tuple #[encD d,.int .i64 0]) (results_cell_mid2 (d:=.array 32 5) (p:=4) (u:=5) (ty:=57) (b:=w.heap.size) (o:=0) rfl rfl rfl HRD.out (by kernel_rfl) rfl (by rw[dcells_len,hd32];rfl)) rfl ⟨rfl,HF4.out⟩
def Kept (M:List Nat) (w:World) (P:World→Prop):Prop:=∀ W,Fr M w W→P W
section
variable {M M':List Nat} {w w':World} {P R:World→Prop}
theorem Kept.now (h:Kept M w P):P w:=h w (Fr.refl M w)
theorem Kept.step (h:Kept M w P) (hf:Fr M w w') (hM:∀ k∈M',k∈M ∨ w.heap.size≤k):Kept M' w' P:=fun W hW=>h W (hf.trans hW hM)
theorem Kept.fr0 (h:Kept M w P) (hf:Fr [] w w'):Kept M w' P:=fun W hW=>h W ((hf.mono (by simp)).then hW)
theorem Kept.and (h:Kept M w P) (k:Kept M w R):Kept M w fun W=>P W∧R W:=fun W hW=>⟨h W hW,k W hW⟩
theorem Kept.imp (h:Kept M w P) (f:∀ W,P W→R W):Kept M w R:=fun W hW=>f W (h W hW)
theorem Kept.sub (h:Kept M w P) (hM:∀ k∈M',k∈M ∨ w.heap.size≤k):Kept M' w P:=h.step (Fr.refl M w) hM
end
structure AV where
 a:AC
 A:Option Addr
 c:Nat
 B:Option Addr
 d:Nat
def AV.cs (x:AV):List Value:=[.int .i64 x.a.t,.int .i64 0,.int .i64 x.a.t,.string ⟨#[]⟩,x.a.r.sl x.A x.c,x.a.w.sl x.B x.d]
def AV.v (x:AV):Value:=.agg x.cs.toArray
structure AV.ok (w:World) (x:AV):Prop where
 r:CLat w x.A x.a.r
 w:CLat w x.B x.a.w
 nr:NilOk x.a.r x.A x.c
 nw:NilOk x.a.w x.B x.d
def AV.bl (x:AV):List Nat:=blk x.A++blk x.B
section
variable {w w':World} {x:AV} {S:List Nat}
theorem AV.ok.at_ (h:x.ok w):ActAt w x.a x.v x.bl:=⟨x.A,x.c,x.B,x.d,rfl,h.r,h.w,h.nr,h.nw,rfl⟩
theorem AV.ok.fr (h:x.ok w) (hf:Fr S w w') (hS:∀ k∈x.bl,k ∉ S):x.ok w':=⟨h.r.fr hf (fun k hk=>hS k (by simp[AV.bl,hk])),h.w.fr hf (fun k hk=>hS k (by simp[AV.bl,hk])),h.nr,h.nw⟩
theorem AV.ok.fr0 (h:x.ok w) (hf:Fr [] w w'):x.ok w':=h.fr hf (by simp)
end
theorem CLat.lt {w:World} {A:Option Addr} {c:Nat} {l:CL} (h:CLat w A l) (hn:NilOk l A c):∀ k∈blk A,k<w.heap.size:=by
 cases l with
 | nil=>obtain⟨rfl,_⟩:=hn rfl;simp[blk]
 | one i v a=>obtain⟨b,rfl,hc⟩:=h;simpa [blk] using hc.1
theorem AV.ok.lt {w:World} {x:AV} (h:x.ok w):∀ k∈x.bl,k<w.heap.size:=fun k hk=>by
 rcases List.mem_append.1 hk with hk | hk
 ·exact h.r.lt h.nr k hk
 ·exact h.w.lt h.nw k hk
theorem ActAt.av {w:World} {a:AC} {v:Value} {L:List Nat} (h:ActAt w a v L):∃ x:AV,x.a=a∧v=x.v∧x.ok w∧L=x.bl:=by
 obtain⟨A,c,B,d,rfl,h1,h2,h3,h4,rfl⟩:=h
 exact⟨⟨a,A,c,B,d⟩,rfl,rfl,⟨h1,h2,h3,h4⟩,rfl⟩
theorem copiedH_av (x:AV) (w:World) (h:x.ok w):Calls Tryz.prog 94 #[x.v] w fun e w'=>∃ y:AV,e=.returned y.v∧y.a=x.a∧y.ok w'∧Fr [] w w'∧∀ k∈y.bl,w.heap.size≤k :=
 (copiedH_any x.a x.v x.bl w h.at_).mono fun e w' ⟨v,L,h1,h2,h3,h4⟩=>by
  obtain⟨y,e1,rfl,h5,rfl⟩:=h2.av
  exact⟨y,h1,e1,h5,h3,h4⟩
theorem copiedV_av (x:AV) (w:World) (h:x.ok w):Calls Tryz.prog 159 #[x.v] w fun e w'=>∃ y:AV,e=.returned y.v∧y.a=x.a∧y.ok w'∧Fr [] w w'∧∀ k∈y.bl,w.heap.size≤k :=
 (copiedV_any x.a x.v x.bl w h.at_).mono fun e w' ⟨v,L,h1,h2,h3,h4⟩=>by
  obtain⟨y,e1,rfl,h5,rfl⟩:=h2.av
  exact⟨y,h1,e1,h5,h3,h4⟩
def TR.bl:TR→List Nat
 | .nil=>[]
 | .node b l _ _ _ _ _ r=>b::(l.bl++r.bl)
theorem TRat.fr {w w':World} {S:List Nat} (hf:Fr S w w'):∀ {t:TR},TRat w t→(∀ k∈t.bl,k ∉ S)→TRat w' t
 | .nil,_,_=>trivial
 | .node b _ _ _ _ _ _ _,h,hS=>⟨h.1.fr hf (hS b (by simp[TR.bl])),TRat.fr hf h.2.1 (fun k hk=>hS k (by simp[TR.bl,hk])),TRat.fr hf h.2.2 (fun k hk=>hS k (by simp[TR.bl,hk]))⟩
theorem TRat.lt {w:World}:∀ {t:TR},TRat w t→∀ k∈t.bl,k<w.heap.size
 | .nil,_,k,hk=>by simp[TR.bl] at hk
 | .node b l _ _ _ _ _ r,h,k,hk=>by
  simp only[TR.bl,List.mem_cons,List.mem_append] at hk
  rcases hk with rfl | hk | hk
  ·exact h.1.lt
  ·exact TRat.lt h.2.1 k hk
  ·exact TRat.lt h.2.2 k hk
def stB (b:Nat) (t:TR):List Nat:=b::t.bl
theorem StAt.fr {w w':World} {b:Nat} {t:TR} {S:List Nat} (h:StAt w b t) (hf:Fr S w w') (hS:∀ k∈stB b t,k ∉ S):StAt w' b t:=⟨h.1.fr hf (hS b (by simp[stB])),TRat.fr hf h.2 (fun k hk=>hS k (by simp[stB,hk]))⟩
theorem StAt.lt {w:World} {b:Nat} {t:TR} (h:StAt w b t):∀ k∈stB b t,k<w.heap.size:=fun k hk=>by
 rcases List.mem_cons.1 hk with rfl | hk
 ·exact h.1.lt
 ·exact TRat.lt h.2 k hk
def ApPost (old:List Nat) (Q:TR→Prop) (w:World) (e:Ending) (w':World):Prop:=∃ b r,e=.returned (.tuple #[.pointer (some ⟨b,0,none⟩),.int .i64 0])∧StAt w' b r∧Fr [] w w'∧Q r∧∀ k∈stB b r,k∈old ∨ w.heap.size≤k
theorem ApPost.from {old:List Nat} {Q:TR→Prop} {w w1 w':World} {e:Ending} (h:ApPost old Q w1 e w') (hf:Fr [] w w1):ApPost old Q w e w':=by
 obtain⟨b,r,h1,h2,h3,h4,h5⟩:=h
 exact⟨b,r,h1,h2,hf.then h3,h4,fun k hk=>(h5 k hk).imp id (Nat.le_trans hf.size)⟩
theorem ApplyS_first (p cb c:Nat) (i:Int) (v:ByteArray) (old:List Nat) (w:World) (hok:Ok w) (h:StAt w p .nil) (hc:Cs w cb (chC i v false)) (hg:Good i v false) :
 Calls Tryz.prog 153 #[.pointer (some ⟨p,0,none⟩),.slice (some ⟨cb,0,none⟩) 1 c] w (ApPost old (fun r=>∃ n,r=sing n i v) w) :=
 (ApplyS_one (fun r=>∃ n,w.heap.size≤n∧r=sing n i v) p cb c i v w hc fun W hW=>(With_nil p i v W (hok.fr0 hW) (h.fr0 hW) hg).mono fun e w' ⟨b,r,h1,h2,h3,h4,n,h5,h6⟩=>⟨b,r,h1,h2,h3,h4,n,Nat.le_trans hW.size h5,h6⟩).mono
  fun e w' ⟨b,r,h1,h2,h3,h4,n,h5,h6⟩=>⟨b,r,h1,h3,h4,⟨n,h6⟩,fun k hk=>.inr (by subst h6;simp only[stB,sing,TR.bl,List.mem_cons,List.nil_append,List.not_mem_nil,or_false] at hk;rcases hk with rfl | rfl <;> assumption)⟩
theorem ApplyS_second (p n cb c:Nat) (i j:Int) (v v2:ByteArray) (old:List Nat) (w:World) (hok:Ok w) (h:StAt w p (sing n i v)) (hv:v.size≤65536) (hc:Cs w cb (chC j v2 false)) (hg:Good j v2 false) (hcm:cmpO (portN j) (portN i)=1) :
 Calls Tryz.prog 153 #[.pointer (some ⟨p,0,none⟩),.slice (some ⟨cb,0,none⟩) 1 c] w (ApPost old (fun r=>∃ b3 b2,r=two b3 i v b2 j v2) w) :=
 (ApplyS_one (fun r=>∃ b3 b2,w.heap.size≤b3∧w.heap.size≤b2∧r=two b3 i v b2 j v2) p cb c j v2 w hc fun W hW=>(With_one p n i j v v2 W (hok.fr0 hW) (h.fr0 hW) hv hg hcm).mono fun e w' ⟨b,r,h1,h2,h3,h4,b3,b2,h5,h6,h7⟩=>⟨b,r,h1,h2,h3,h4,b3,b2,Nat.le_trans hW.size h5,Nat.le_trans hW.size h6,h7⟩).mono
  fun e w' ⟨b,r,h1,h2,h3,h4,b3,b2,h5,h6,h7⟩=>⟨b,r,h1,h3,h4,⟨b3,b2,h7⟩,fun k hk=>.inr (by subst h7;simp only[stB,two,sing,TR.bl,List.mem_cons,List.nil_append,List.append_nil,List.not_mem_nil,or_false] at hk;rcases hk with rfl | rfl | rfl <;> assumption)⟩
theorem ApplyS_none (p c:Nat) (A:Option Addr) (t:TR) (w:World) (h:StAt w p t) :
 Calls Tryz.prog 153 #[.pointer (some ⟨p,0,none⟩),.slice A 0 c] w (ApPost (stB p t) (fun r=>r=t) w) :=
 (ApplyS_nil p A c w).mono fun e w' ⟨h1,h2⟩=>by
  subst h2
  exact⟨p,t,h1,h,Fr.refl [] _,rfl,fun k hk=>.inl hk⟩
theorem ApplyA_any (old:List Nat) (Q:TR→Prop) (x:AV) (p:Nat) (w:World) (hS:∀ W,Fr [] w W→Calls Tryz.prog 153 #[.pointer (some ⟨p,0,none⟩),x.a.w.sl x.B x.d] W (ApPost old Q W)) :
 Calls Tryz.prog 92 #[x.v,.pointer (some ⟨p,0,none⟩)] w (ApPost old Q w):=by
 obtain⟨w1,hw1,hb1,hf1⟩:=bxn w (x.cs.toArray) 91
 have hC:=hS w1 hf1
 have x5:=hb1.k5
 have HW1:=Hd hw1
 have HF1:=Hd hf1
 unfold AV.v
 unfold AV.cs at HW1 ⊢
 unfold CL.sl at HW1 hC x5 ⊢
 have HC:=Hd hC
 clear hw1 hb1 hf1 hC hS
 go_enter Tryz.func92,Tryz.ntmps92
 go_upto_region 1 with fail
 rw[HW1.out]
 go_wp2_with ((go_at_call 153;(with_reducible refine HC.out.mono ?_);rintro e w2 ⟨p2,r,rfl,hst,hf2,hq,hbl⟩;have HF2:=Hd (HF1.out.then hf2);clear hf2))
 go_ret2
 exact⟨p2,r,rfl,hst,HF2.out,hq,fun k hk=>(hbl k hk).imp id (Nat.le_trans HF1.out.size)⟩
theorem run_add_str (w:World) (a b:ByteArray) (h:a.size+b.size≤9223372036854775807):(binOp .add 9 (.string a) (.string b)).run Tryz.prog w=.ok (.string (a++b)) w:=by
 simp[binOp,go_sem,h]
theorem cons_str (c:UInt8) (l:Nm):Value.string (⟨#[c]⟩++⟨l.toArray⟩)=encN (c::l):=by
 unfold encN
 congr 1
theorem leafH_any (s:Nm) (w:World) (hok:Ok w) (hs:s.length≤1099511620000):Calls Tryz.prog 93 #[encN s] w (SumPost w (leafN (1::s))):=by
 obtain⟨w1,hw1⟩:=nmd (w.alloc (.cells (z32) 57))
 have hf1:Fr [] w w1:=by rw[←hw1];exact (Fr.refl [] w).alloc _
 obtain⟨fR,hR⟩:∃ f,w1.rowIs w.heap.size 57 32 f:=by rw[←hw1];exact⟨_,row_new w _ _⟩
 have hC:=Leaf_any (1::s) w1 (hok.fr0 hf1) (by simp;omega)
 obtain⟨d,hd⟩:=nmd (leafN (1::s))
 have hd32:d.length=32:=by rw[←hd];exact shaN_len _
 rw[hd] at hC ⊢
 have hcl:(dCells d).length=32:=by rw[dcells_len,hd32]
 have hadd:(binOp .add 9 (.string ⟨#[1]⟩) (encN s)).run Tryz.prog w1=.ok (encN (1::s)) w1:=by
  rw[←cons_str 1 s]
  exact run_add_str w1 _ _ (by simp[←ByteArray.size_data];omega)
 obtain⟨s1,hs1⟩:=nmd (encN s)
 obtain⟨s2,hs2⟩:=nmd (encN (1::s))
 rw[hs1] at hadd ⊢
 rw[hs2] at hadd hC
 have HC:=Hd hC
 have HR2:=Hd hR
 have HF2:=Hd hf1
 have HW1:=Hd hw1
 clear hC hR hf1 hw1 hs1 hs2
 go_enter Tryz.func93,Tryz.ntmps93
 go_upto_region 1 with fail
 rw[HW1.out]
 go_wp2_with ((go_at_call 90;(with_reducible refine HC.out.mono ?_);rintro e w3 ⟨rfl,hf3⟩;unfold encD;have hR3:=rowIs_fr HR2.out hf3 (by simp);have hst:=store_digest (d:=d) hR3 hd32;have hrd:=row_digest (d:=d) hR3 hd32;obtain⟨w4,hw4⟩:∃ X,w3.setCells w.heap.size 0 (dCells d)=X:=⟨_,rfl⟩;have hf4:Fr [] w w4:=(by rw[←hw4];exact ((HF2.out.then hf3).setCells (.inr (Nat.le_refl _)) _ _));rw[hw4] at hst hrd;have HRD:=Hd hrd.1;have HF4:=Hd hf4;clear hw4 hrd hf4 hR3 hf3))
 exact bodyPost_ret (v:=encD d) (results_cell_mid (d:=.array 32 5) (p:=2) (ty:=57) (b:=w.heap.size) (o:=0) rfl rfl HRD.out (by kernel_rfl) rfl (by rw[dcells_len,hd32];rfl)) rfl ⟨rfl,HF4.out⟩
def VM (b mw mr:Nat) (A K:Option Addr):List Nat:=b::mw::mr::(blk A++blk K)
structure VerIs (w:World) (b pb pl mw mr:Nat) (A:Option Addr) (n c:Nat) (K:Option Addr) (kk kc:Nat) (cs ks:List Value) (kw kr:List (Value × Value)) (PW:World→Prop):Prop where
 box:BoxN w b 196 #[.pointer (some ⟨pb,0,none⟩),.slice A n c,.slice K kk kc,.pointer (some ⟨pl,0,none⟩),.map (some mw),.map (some mr)]
 own:Own w 91 6 A n c cs
 kown:Own w 86 1 K kk kc ks
 wm:MapIs Tryz.prog 31 w mw kw
 rm:MapIs Tryz.prog 31 w mr kr
 d1:b ∉ blk A∧b ∉ blk K∧b≠mw∧b≠mr
 d2:mw≠mr∧mw ∉ blk A∧mw ∉ blk K∧mr ∉ blk A∧mr ∉ blk K
 d3:∀ k∈blk A,k ∉ blk K
 kept:Kept (VM b mw mr A K) w PW
section
variable {X Y Z:World} {b pb pl pl' mw mr n c n' c' kk kc kk' kc':Nat} {A A' K K':Option Addr} {cs cs' ks ks':List Value} {kw kr kw' kr':List (Value × Value)} {PW Q:World→Prop}
theorem VerIs.lt (h:VerIs X b pb pl mw mr A n c K kk kc cs ks kw kr PW):∀ k∈VM b mw mr A K,k<X.heap.size:=fun k hk=>by
 simp only[VM,List.mem_cons,List.mem_append] at hk
 rcases hk with rfl | rfl | rfl | hk | hk
 ·exact h.box.lt
 ·exact h.wm.lt
 ·exact h.rm.lt
 ·exact h.own.lt k hk
 ·exact h.kown.lt k hk
theorem VerIs.fr0 (h:VerIs X b pb pl mw mr A n c K kk kc cs ks kw kr PW) (hf:Fr [] X Y):VerIs Y b pb pl mw mr A n c K kk kc cs ks kw kr PW :=
 ⟨h.box.fr hf (by simp),h.own.fr hf (by simp),h.kown.fr hf (by simp),h.wm.fr hf (by simp),h.rm.fr hf (by simp),h.d1,h.d2,h.d3,h.kept.fr0 hf⟩
theorem VerIs.addP (h:VerIs X b pb pl mw mr A n c K kk kc cs ks kw kr PW) (hQ:Kept (VM b mw mr A K) X Q):VerIs X b pb pl mw mr A n c K kk kc cs ks kw kr (fun W=>PW W∧Q W) :=
 ⟨h.box,h.own,h.kown,h.wm,h.rm,h.d1,h.d2,h.d3,h.kept.and hQ⟩
theorem VerIs.putLast (h:VerIs X b pb pl mw mr A n c K kk kc cs ks kw kr PW) (hf:Fr [b] X Y) (hb:BoxN Y b 196 #[.pointer (some ⟨pb,0,none⟩),.slice A n c,.slice K kk kc,.pointer (some ⟨pl',0,none⟩),.map (some mw),.map (some mr)]) :
 VerIs Y b pb pl' mw mr A n c K kk kc cs ks kw kr PW :=
 ⟨hb,h.own.fr hf (by intro k hk;simp only[List.mem_singleton];rintro rfl;exact h.d1.1 hk),h.kown.fr hf (by intro k hk;simp only[List.mem_singleton];rintro rfl;exact h.d1.2.1 hk),h.wm.fr hf (by simpa using Ne.symm h.d1.2.2.1),h.rm.fr hf (by simpa using Ne.symm h.d1.2.2.2),h.d1,h.d2,h.d3,h.kept.step (hf.mono (by simp[VM])) (fun k hk=>.inl hk)⟩
theorem VerIs.putA (h:VerIs X b pb pl mw mr A n c K kk kc cs ks kw kr PW) (f1:Fr (blk A) X Y) (ho:Own Y 91 6 A' n' c' cs') (hA:∀ k∈blk A',k∈blk A ∨ X.heap.size≤k) (f2:Fr [b] Y Z)
 (hb:BoxN Z b 196 #[.pointer (some ⟨pb,0,none⟩),.slice A' n' c',.slice K kk kc,.pointer (some ⟨pl,0,none⟩),.map (some mw),.map (some mr)]) :
 VerIs Z b pb pl mw mr A' n' c' K kk kc cs' ks kw kr PW∧Fr (VM b mw mr A K) X Z∧∀ k∈VM b mw mr A' K,k∈VM b mw mr A K ∨ X.heap.size≤k:=by
 have hlt:=h.lt
 have hfr:Fr (VM b mw mr A K) X Z:=(f1.mono (by intro k hk;exact .inl (by simp[VM,hk]))).trans f2 (by simp[VM])
 have hM:∀ k∈VM b mw mr A' K,k∈VM b mw mr A K ∨ X.heap.size≤k:=fun k hk=>by
  simp only[VM,List.mem_cons,List.mem_append] at hk ⊢
  rcases hk with rfl | rfl | rfl | hk | hk
  ·simp
  ·simp
  ·simp
  ·rcases hA k hk with h1 | h1
   ·exact .inl (by simp[h1])
   ·exact .inr h1
  ·exact .inl (by simp[hk])
 have old:∀ k,k∈VM b mw mr A K→k ∉ blk A→k ∉ blk A':=fun k h1 h2 hm=>by
  rcases hA k hm with h3 | h3
  ·exact h2 h3
  ·have:=hlt k h1;omega
 have hbA:=old b (by simp[VM]) h.d1.1
 have hwA:=old mw (by simp[VM]) h.d2.2.1
 have hrA:=old mr (by simp[VM]) h.d2.2.2.2.1
 refine⟨⟨hb,ho.fr f2 (by intro k hk;simp only[List.mem_singleton];rintro rfl;exact hbA hk),(h.kown.fr f1 (fun k hk hm=>h.d3 k hm hk)).fr f2 (by intro k hk;simp only[List.mem_singleton];rintro rfl;exact h.d1.2.1 hk),(h.wm.fr f1 h.d2.2.1).fr f2 (by simpa using Ne.symm h.d1.2.2.1),(h.rm.fr f1 h.d2.2.2.2.1).fr f2 (by simpa using Ne.symm h.d1.2.2.2),⟨hbA,h.d1.2⟩,⟨h.d2.1,hwA,h.d2.2.2.1,hrA,h.d2.2.2.2.2⟩,fun k hk hm=>?_,h.kept.step hfr hM⟩,hfr,hM⟩
 exact old k (by simp[VM,hm]) (fun h1=>h.d3 k h1 hm) hk
theorem VerIs.putK (h:VerIs X b pb pl mw mr A n c K kk kc cs ks kw kr PW) (f1:Fr (blk K) X Y) (ho:Own Y 86 1 K' kk' kc' ks') (hK:∀ k∈blk K',k∈blk K ∨ X.heap.size≤k) (f2:Fr [b] Y Z)
 (hb:BoxN Z b 196 #[.pointer (some ⟨pb,0,none⟩),.slice A n c,.slice K' kk' kc',.pointer (some ⟨pl,0,none⟩),.map (some mw),.map (some mr)]) :
 VerIs Z b pb pl mw mr A n c K' kk' kc' cs ks' kw kr PW∧Fr (VM b mw mr A K) X Z∧∀ k∈VM b mw mr A K',k∈VM b mw mr A K ∨ X.heap.size≤k:=by
 have hlt:=h.lt
 have hfr:Fr (VM b mw mr A K) X Z:=(f1.mono (by intro k hk;exact .inl (by simp[VM,hk]))).trans f2 (by simp[VM])
 have hM:∀ k∈VM b mw mr A K',k∈VM b mw mr A K ∨ X.heap.size≤k:=fun k hk=>by
  simp only[VM,List.mem_cons,List.mem_append] at hk ⊢
  rcases hk with rfl | rfl | rfl | hk | hk
  ·simp
  ·simp
  ·simp
  ·exact .inl (by simp[hk])
  ·rcases hK k hk with h1 | h1
   ·exact .inl (by simp[h1])
   ·exact .inr h1
 have old:∀ k,k∈VM b mw mr A K→k ∉ blk K→k ∉ blk K':=fun k h1 h2 hm=>by
  rcases hK k hm with h3 | h3
  ·exact h2 h3
  ·have:=hlt k h1;omega
 have hbK:=old b (by simp[VM]) h.d1.2.1
 have hwK:=old mw (by simp[VM]) h.d2.2.2.1
 have hrK:=old mr (by simp[VM]) h.d2.2.2.2.2
 refine⟨⟨hb,(h.own.fr f1 (fun k hk hm=>h.d3 k hk hm)).fr f2 (by intro k hk;simp only[List.mem_singleton];rintro rfl;exact h.d1.1 hk),ho.fr f2 (by intro k hk;simp only[List.mem_singleton];rintro rfl;exact hbK hk),(h.wm.fr f1 h.d2.2.2.1).fr f2 (by simpa using Ne.symm h.d1.2.2.1),(h.rm.fr f1 h.d2.2.2.2.2).fr f2 (by simpa using Ne.symm h.d1.2.2.2),⟨h.d1.1,hbK,h.d1.2.2⟩,⟨h.d2.1,h.d2.2.1,hwK,h.d2.2.2.2.1,hrK⟩,fun k hk=>?_,h.kept.step hfr hM⟩,hfr,hM⟩
 exact old k (by simp[VM,hk]) (h.d3 k hk)
theorem VerIs.putW (h:VerIs X b pb pl mw mr A n c K kk kc cs ks kw kr PW) (hf:Fr [mw] X Y) (hm:MapIs Tryz.prog 31 Y mw kw'):VerIs Y b pb pl mw mr A n c K kk kc cs ks kw' kr PW :=
 ⟨h.box.fr hf (by simpa using h.d1.2.2.1),h.own.fr hf (by intro k hk;simp only[List.mem_singleton];rintro rfl;exact h.d2.2.1 hk),h.kown.fr hf (by intro k hk;simp only[List.mem_singleton];rintro rfl;exact h.d2.2.2.1 hk),hm,h.rm.fr hf (by simpa using Ne.symm h.d2.1),h.d1,h.d2,h.d3,h.kept.step (hf.mono (by simp[VM])) (fun k hk=>.inl hk)⟩
theorem VerIs.putR (h:VerIs X b pb pl mw mr A n c K kk kc cs ks kw kr PW) (hf:Fr [mr] X Y) (hm:MapIs Tryz.prog 31 Y mr kr'):VerIs Y b pb pl mw mr A n c K kk kc cs ks kw kr' PW :=
 ⟨h.box.fr hf (by simpa using h.d1.2.2.2),h.own.fr hf (by intro k hk;simp only[List.mem_singleton];rintro rfl;exact h.d2.2.2.2.1 hk),h.kown.fr hf (by intro k hk;simp only[List.mem_singleton];rintro rfl;exact h.d2.2.2.2.2 hk),h.wm.fr hf (by simpa using h.d2.1),hm,h.d1,h.d2,h.d3,h.kept.step (hf.mono (by simp[VM])) (fun k hk=>.inl hk)⟩
end
theorem noneV_any (b p:Nat) (w:World) (h:w.cell? ⟨b,0,none⟩=some (.pointer (some ⟨p,0,none⟩))):Calls Tryz.prog 157 #[.pointer (some ⟨b,0,none⟩)] w fun e w'=>e=.returned (.bool false)∧w=w':=by
 go_enter Tryz.func157,Tryz.ntmps157
 go_wp2_with fail
 go_ret
 exact⟨rfl,rfl⟩
theorem CLat.cs {w:World} {b:Nat} {i:Int} {v:ByteArray} {a:Bool} (h:CLat w (some ⟨b,0,none⟩) (.one i v a)):Cs w b (chC i v a):=by
 obtain⟨b',h1,h2⟩:=h
 injection h1 with h1
 injection h1 with h1
 rw[h1]
 exact h2
theorem info_ver:∃ i,(Tryz.prog).info? 201=some i∧i.zero=some (.agg #[.int .i64 0,.string ⟨#[]⟩,.bool false])∧i.size=3∧i.bytes=32:=info_parts (by kernel_rfl)
theorem info_stp:∃ i,(Tryz.prog).info? 86=some i∧i.zero=some (.pointer none)∧i.size=1∧i.bytes=8:=info_parts (by kernel_rfl)
theorem info_int:∃ i,(Tryz.prog).info? 3=some i∧i.zero=some (.int .i64 0)∧i.size=1∧i.bytes=8:=info_parts (by kernel_rfl)
theorem zero_vers (u:World):(zeroValue 280).run Tryz.prog u=.ok (.slice none 0 0) u:=by simp[go_sem]
theorem zero_ints (u:World):(zeroValue 36).run Tryz.prog u=.ok (.slice none 0 0) u:=by simp[go_sem]
end Go.Proofs.YtlpmiimgacfmkaaGreatDoor
