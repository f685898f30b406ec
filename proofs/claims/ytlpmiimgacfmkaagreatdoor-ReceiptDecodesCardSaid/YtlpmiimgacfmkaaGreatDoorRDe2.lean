/- depend: increasing, sorted, check. -/
import Derived.Test.YtlpmiimgacfmkaaGreatDoorRPf1
import Derived.Test.YtlpmiimgacfmkaaGreatDoorRTa1
set_option linter.all false
namespace Go.Proofs.YtlpmiimgacfmkaaGreatDoor
open Go.RowKit
set_option maxRecDepth 100000
set_option maxHeartbeats 4000000
def nameC (i:Int):List Value:=[.int .i64 16,.string ⟨#[]⟩,.int .i64 i,.int .i64 0,.string ⟨#[]⟩]
theorem nameC_one (i:Int):∀ u∈nameC i,u.oneCell'=true:=by simp[nameC,Value.oneCell']
theorem info_name:∃ i,(Tryz.prog).info? 31=some i∧i.zero=some (.agg #[.int .i64 0,.string ⟨#[]⟩,.int .i64 0,.int .i64 0,.string ⟨#[]⟩])∧i.size=5∧i.bytes=56:=info_parts (by kernel_rfl)
theorem cmp01:cmpK a0.k a1.k=-1:=by decide
theorem cmp12:cmpK a1.k a2.k=-1:=by decide
theorem Increasing_3 (L cL:Nat) (y0 y1 y2:AV) (w:World) (hL:Cs w L ([y0,y1,y2].flatMap AV.cs)) (e0:y0.a=a0) (e1:y1.a=a1) (e2:y2.a=a2) :
 Calls Tryz.prog 101 #[.slice (some ⟨L,0,none⟩) 3 cL] w (RetPost w (.bool true)):=by
 obtain⟨_,A0,c0,B0,d0⟩:=y0
 obtain⟨_,A1,c1,B1,d1⟩:=y1
 obtain⟨_,A2,c2,B2,d2⟩:=y2
 dsimp only at e0 e1 e2
 subst e0 e1 e2
 have HL:=Hd hL
 clear hL
 have hC0:=Fr.refl [] w
 go_enter Tryz.func101,Tryz.ntmps101
 go_upto_region 2 with fail
 refine wp_loop_rounds 3 ?_
 rw[rounds_succ]
 go_upto_region 4 with fail
 have hCK:∀ W,Calls Tryz.prog 91 #[.agg #[.int .i64 1,.int .i64 0,.int .i64 1,.string ⟨#[]⟩],.agg #[.int .i64 2,.int .i64 0,.int .i64 2,.string ⟨#[]⟩]] W (CmpOPost W (-1)):=fun W=>by
  have h:=CompareK_any (a0).k (a1).k W (show validB []=true by decide) (show validB []=true by decide) (by simp[AC.k,a0]) (by simp[AC.k,a1])
  rw[cmp01] at h
  exact h
 have HCK:=Hd hCK
 have HSS:=Hd (fun (W:World) (hW:Fr [] w W)=>show W.cell? ⟨L,0,none⟩=some (.int .i64 1)∧W.cell? ⟨L,1,none⟩=some (.int .i64 0)∧W.cell? ⟨L,2,none⟩=some (.int .i64 1)∧W.cell? ⟨L,3,none⟩=some (.string ⟨#[]⟩)∧W.cell? ⟨L,6,none⟩=some (.int .i64 2)∧W.cell? ⟨L,7,none⟩=some (.int .i64 0)∧W.cell? ⟨L,8,none⟩=some (.int .i64 2)∧W.cell? ⟨L,9,none⟩=some (.string ⟨#[]⟩) from by
  have h:=HL.out.fr0 hW
  exact⟨h.2 0 _ rfl,h.2 1 _ rfl,h.2 2 _ rfl,h.2 3 _ rfl,h.2 6 _ rfl,h.2 7 _ rfl,h.2 8 _ rfl,h.2 9 _ rfl⟩)
 clear hCK
 have hwr:IntKind.i64.wrap 0=0:=by decide
 refine wp_region_qall (fun W=>Fr [] w W) (by kernel_rfl) (by kernel_rfl) (hC0.drew) ?_
 repeat (
  first
  | go_big_quiet_skip
  | (go_big_quiet_want
     first
     | (go_big_quiet_op
        go_big_quiet_on)
     | (apply Exists.intro
        refine⟨fun W hW=>?_,?_⟩
        ·(obtain⟨z0,z1,z2,z3,u0,u1,u2,u3⟩:=HSS.out W hW
          go_simp
          first
          | done
          | (with_reducible exact rfl)
          | (with_reducible exact⟨rfl,rfl⟩)
          | ((go_at_call 91;(with_reducible refine (HCK.out W).mono ?_);rintro e w' ⟨rfl,h⟩;exact⟨rfl,hW.then h⟩)))
        simp only[Act.put,qA,qB,qC]
        go_big_quiet_on))
  )
 refine wpQuiet_nil ?_
 intro W1 hW1
 clear HCK HSS hwr
 go_wp2_with fail
 rw[rounds_succ]
 go_upto_region 4 with fail
 have hCK:∀ W,Calls Tryz.prog 91 #[.agg #[.int .i64 2,.int .i64 0,.int .i64 2,.string ⟨#[]⟩],.agg #[.int .i64 3,.int .i64 0,.int .i64 3,.string ⟨#[]⟩]] W (CmpOPost W (-1)):=fun W=>by
  have h:=CompareK_any (a1).k (a2).k W (show validB []=true by decide) (show validB []=true by decide) (by simp[AC.k,a1]) (by simp[AC.k,a2])
  rw[cmp12] at h
  exact h
 have HCK:=Hd hCK
 have HSS:=Hd (fun (W:World) (hW:Fr [] w W)=>show W.cell? ⟨L,6,none⟩=some (.int .i64 2)∧W.cell? ⟨L,7,none⟩=some (.int .i64 0)∧W.cell? ⟨L,8,none⟩=some (.int .i64 2)∧W.cell? ⟨L,9,none⟩=some (.string ⟨#[]⟩)∧W.cell? ⟨L,12,none⟩=some (.int .i64 3)∧W.cell? ⟨L,13,none⟩=some (.int .i64 0)∧W.cell? ⟨L,14,none⟩=some (.int .i64 3)∧W.cell? ⟨L,15,none⟩=some (.string ⟨#[]⟩) from by
  have h:=HL.out.fr0 hW
  exact⟨h.2 6 _ rfl,h.2 7 _ rfl,h.2 8 _ rfl,h.2 9 _ rfl,h.2 12 _ rfl,h.2 13 _ rfl,h.2 14 _ rfl,h.2 15 _ rfl⟩)
 clear hCK
 have hwr:IntKind.i64.wrap 1=1:=by decide
 refine wp_region_qall (fun W=>Fr [] w W) (by kernel_rfl) (by kernel_rfl) (hW1.drew) ?_
 repeat (
  first
  | go_big_quiet_skip
  | (go_big_quiet_want
     first
     | (go_big_quiet_op
        go_big_quiet_on)
     | (apply Exists.intro
        refine⟨fun W hW=>?_,?_⟩
        ·(obtain⟨z0,z1,z2,z3,u0,u1,u2,u3⟩:=HSS.out W hW
          go_simp
          first
          | done
          | (with_reducible exact rfl)
          | (with_reducible exact⟨rfl,rfl⟩)
          | ((go_at_call 91;(with_reducible refine (HCK.out W).mono ?_);rintro e w' ⟨rfl,h⟩;exact⟨rfl,hW.then h⟩)))
        simp only[Act.put,qA,qB,qC]
        go_big_quiet_on))
  )
 refine wpQuiet_nil ?_
 intro W2 hW2
 clear HCK HSS hwr
 go_wp2_with fail
 rw[rounds_succ]
 go_wp2_with fail
 go_ret
 exact⟨rfl,hW2⟩
theorem CompactN_any (A:Option Addr) (n c:Nat) (hn:n≤1) (w:World):Calls Tryz.prog 138 #[.slice A n c] w fun e w'=>e=.returned (.slice A n c)∧w=w':=by
 obtain rfl | rfl:n=0 ∨ n=1:=by omega
 all_goals
  go_enter Tryz.func138,Tryz.ntmps138
  go_wp2_with fail
  go_ret
  exact⟨rfl,rfl⟩
theorem CloneN_nil (w:World):Calls Tryz.prog 136 #[.slice none 0 0] w fun e w'=>e=.returned (.slice none 0 0)∧w=w':=by
 have hq:=Lib.run_eql_slice_nil (P:=Tryz.prog) w 101 31 none 0 0 0 0 Tryz.underlying101
 simp only[Option.isNone_none] at hq
 go_enter Tryz.func136,Tryz.ntmps136
 go_wp2_with fail
 go_ret
 exact⟨rfl,rfl⟩
theorem CloneN_one (b c:Nat) (i:Int) (w:World) (hb:Cs w b (nameC i)):Calls Tryz.prog 136 #[.slice (some ⟨b,0,none⟩) 1 c] w fun e w'=>∃ g c',e=.returned (.slice (some ⟨g,0,none⟩) 1 c')∧Cs w' g (nameC i)∧Fr [] w w':=by
 obtain⟨ii,hii,iz0,iz1,iz2⟩:=info_name
 have HB:=Hd hb.2
 have hq:=Lib.run_eql_slice_nil (P:=Tryz.prog) w 101 31 (some ⟨b,0,none⟩) 1 c 0 0 Tryz.underlying101
 simp only[Option.isNone_some] at hq
 clear hb
 go_enter Tryz.func136,Tryz.ntmps136
 go_wp2_with (at_builtin;(with_reducible refine wpList_app (w:=w.alloc (.cells #[] 31)) rfl (.tmp 5) (.tmp 6) 101 rfl 31 ii _ 5 56 Tryz.underlying101 hii iz0 iz1 iz2 rfl (by decide) (some ⟨w.heap.size,0,none⟩) 0 0 [] rfl (Own.empty w _ _) ⟨b,0,none⟩ 1 c (nameC i) rfl rfl (fun j u hu=>by rw[add_mid'];exact Lib.cell?_alloc_some _ (HB.out j u hu)) (nameC_one i) (by unfold maxLen;omega) (by omega) ?_);intro A2 c2 w2 ho hf hs;have HO:=Hd ho;have HF:=Hd hf;clear ho hf hs)
 go_ret
 have ho:=HO.out
 rw[List.nil_append,Nat.zero_add] at ho
 obtain⟨g,rfl,hg⟩:=Cs.of_own ho (by omega)
 exact⟨g,c2,rfl,hg,((Fr.refl [] w).alloc _).trans HF.out (fun x hx=>.inr (by simp[blk] at hx;omega))⟩
theorem Sorted_nil (f:Value) (w:World):Calls Tryz.prog 102 #[.slice none 0 0,f] w fun e w'=>e=.returned (.slice none 0 0)∧w=w':=by
 have HC:=Hd (CloneN_nil w)
 have HS:=Hd (SortN none 0 0 f (by omega) w)
 have HP:=Hd (CompactN_any none 0 0 (by omega) w)
 go_enter Tryz.func102,Tryz.ntmps102
 go_wp2_with (first
  | (go_at_call 136;(with_reducible refine HC.out.mono ?_);rintro e w1 ⟨rfl,rfl⟩)
  | (go_at_call 137;(with_reducible refine HS.out.mono ?_);rintro e w1 ⟨rfl,rfl⟩)
  | (go_at_call 138;(with_reducible refine HP.out.mono ?_);rintro e w1 ⟨rfl,rfl⟩))
 go_ret
 exact⟨rfl,rfl⟩
theorem Sorted_one (b c:Nat) (i:Int) (f:Value) (w:World) (hb:Cs w b (nameC i)):Calls Tryz.prog 102 #[.slice (some ⟨b,0,none⟩) 1 c,f] w fun e w'=>∃ g c',e=.returned (.slice (some ⟨g,0,none⟩) 1 c')∧Cs w' g (nameC i)∧Fr [] w w':=by
 have HC:=Hd (CloneN_one b c i w hb)
 clear hb
 go_enter Tryz.func102,Tryz.ntmps102
 go_wp2_with (first
  | (go_at_call 136;(with_reducible refine HC.out.mono ?_);rintro e w1 ⟨g,c',rfl,hg,hf⟩;have HG:=Hd hg;have HF:=Hd hf;clear hg hf)
  | (go_at_call 137;(with_reducible refine (SortN (some ⟨g,0,none⟩) 1 c' f (by omega) w1).mono ?_);rintro e w2 ⟨rfl,rfl⟩)
  | (go_at_call 138;(with_reducible refine (CompactN_any (some ⟨g,0,none⟩) 1 c' (by omega) w1).mono ?_);rintro e w2 ⟨rfl,rfl⟩))
 go_ret
 exact⟨g,c',rfl,HG.out,HF.out⟩
set_option maxHeartbeats 2000000
theorem SearchFn_one (pl px b c:Nat) (w:World) (hpl:pl<w.heap.size) (hpx:px<w.heap.size) (hb:b<w.heap.size) (h1:w.cell? ⟨pl,0,none⟩=some (.slice (some ⟨b,0,none⟩) 1 c)) (h2:w.cell? ⟨px,0,none⟩=some (.int .i64 1)) (h3:w.cell? ⟨b,0,none⟩=some (.int .i64 0)) :
 Calls Tryz.prog 195 #[.int .i64 0,.pointer (some ⟨pl,0,none⟩),.pointer (some ⟨px,0,none⟩)] w (RetPost w (.bool false)):=by
 have HSS:=Hd (fun (W:World) (hW:Fr [] w W)=>(⟨(hW.fcell hpl (by simp) 0).trans h1,(hW.fcell hpx (by simp) 0).trans h2,(hW.fcell hb (by simp) 0).trans h3⟩:W.cell? ⟨pl,0,none⟩=some (.slice (some ⟨b,0,none⟩) 1 c)∧W.cell? ⟨px,0,none⟩=some (.int .i64 1)∧W.cell? ⟨b,0,none⟩=some (.int .i64 0)))
 clear h1 h2 h3
 go_enter Tryz.func195,Tryz.ntmps195
 go_upto_region 1 with fail
 refine wp_region_qall (fun W=>Fr [] w W) (by kernel_rfl) (by kernel_rfl) ((Fr.refl _ w).drew) ?_
 repeat (
  first
  | go_big_quiet_skip
  | (go_big_quiet_want
     first
     | (go_big_quiet_op
        go_big_quiet_on)
     | (apply Exists.intro
        refine⟨fun W hW=>?_,?_⟩
        ·(obtain⟨z0,z1,z2⟩:=HSS.out W hW
          go_simp
          first
          | done
          | (with_reducible exact rfl)
          | (with_reducible exact⟨rfl,rfl⟩)
          | (fail))
        simp only[Act.put,qA,qB,qC]
        go_big_quiet_on))
  )
 refine wpQuiet_nil ?_
 intro W hW
 go_wp2_with fail
 go_ret
 exact⟨rfl,hW⟩
theorem SearchI_nil (x:Int) (w:World):Calls Tryz.prog 164 #[.slice none 0 0,.int .i64 x] w (RetPost w (.int .i64 0)):=by
 obtain⟨w2,hw2⟩:=nmd ((w.alloc (.cells #[.slice none 0 0] 36)).alloc (.cells #[.int .i64 x] 3))
 have hf:Fr [] w w2:=by rw[←hw2];exact ((Fr.refl [] w).alloc _).alloc _
 have h0:w2.cell? ⟨w.heap.size,0,none⟩=some (.slice none 0 0):=by rw[←hw2];exact ((BoxN.new w 36 #[.slice none 0 0]).alloc _).c 0
 have hmf:∀ (fn:Fn) (first cap:Array Value) (w:World),(Instr.makeFunc fn first cap).run Tryz.prog w=.ok (.func fn first cap) w:=fun _ _ _ _=>rfl
 have HS:∀ f:Value,Calls Tryz.prog 194 #[.int .i64 0,f] w2 fun e w'=>e=.returned (.int .i64 0)∧w2=w':=fun f=>by
  go_enter Tryz.func194,Tryz.ntmps194
  go_wp2_with fail
  refine wp_loop_rounds 1 ?_
  rw[rounds_succ]
  go_wp2_with fail
  go_ret
  exact⟨rfl,rfl⟩
 have HS:=Hd HS
 have HW:=Hd hw2
 have HF:=Hd hf
 clear hw2 hf
 go_enter Tryz.func164,Tryz.ntmps164
 go_upto_region 1 with fail
 rw[HW.out]
 go_wp2_with ((go_at_call 194;(with_reducible refine (HS.out _).mono ?_);rintro e w3 ⟨rfl,rfl⟩))
 go_ret
 exact⟨rfl,HF.out⟩
theorem SearchI_one (b c:Nat) (w:World) (hb:Cs w b [.int .i64 0]):Calls Tryz.prog 164 #[.slice (some ⟨b,0,none⟩) 1 c,.int .i64 1] w (RetPost w (.int .i64 1)):=by
 obtain⟨w1,hw1,hb1,hf1⟩:=bxn w #[.slice (some ⟨b,0,none⟩) 1 c] 36
 obtain⟨w2,hw2,hb2,hf2⟩:=bxn w1 #[.int .i64 1] 3
 have hc2:=(hb.fr0 (hf1.then hf2))
 have hb12:=hb1.fr hf2 (by simp)
 have h0:=hb12.k0
 have hmf:∀ (fn:Fn) (first cap:Array Value) (w:World),(Instr.makeFunc fn first cap).run Tryz.prog w=.ok (.func fn first cap) w:=fun _ _ _ _=>rfl
 have HS:Calls Tryz.prog 194 #[.int .i64 1,.func (.func 195) #[] #[.pointer (some ⟨w.heap.size,0,none⟩),.pointer (some ⟨w1.heap.size,0,none⟩)]] w2 fun e w'=>e=.returned (.int .i64 1)∧Fr [] w2 w':=by
  have HFn:=Hd (SearchFn_one w.heap.size w1.heap.size b c w2 hb12.lt hb2.lt hc2.1 h0 (hb2.c 0) (hc2.2 0 _ rfl))
  go_enter Tryz.func194,Tryz.ntmps194
  go_wp2_with fail
  refine wp_loop_rounds 2 ?_
  rw[rounds_succ]
  go_wp2_with ((go_at_call 195;(with_reducible refine HFn.out.mono ?_);rintro e w3 ⟨rfl,hf3⟩;have HF3:=Hd hf3;clear hf3))
  rw[rounds_succ]
  go_wp2_with fail
  go_ret
  exact⟨rfl,HF3.out⟩
 have hz1:w1.heap.size=w.heap.size+1:=by rw[←hw1];simp
 rw[hz1] at HS
 have HS:=Hd HS
 have HW1:=Hd hw1
 have HW2:=Hd hw2
 have HF:=Hd (hf1.then hf2)
 clear hw1 hw2 hf1 hf2 hb1 hb2 hc2 hb12
 go_enter Tryz.func164,Tryz.ntmps164
 go_upto_region 1 with fail
 rw[HW1.out,HW2.out]
 go_wp2_with ((go_at_call 194;(with_reducible refine HS.out.mono ?_);rintro e w3 ⟨rfl,hf3⟩;have HF3:=Hd hf3;clear hf3))
 go_ret
 exact⟨rfl,HF.out.then HF3.out⟩
theorem Writer_none (g m:Nat) (i x:Int) (v1 v2 v3:Value) (kvs:List (Value × Value)) (w:World) (hg:BoxN w g 205 #[v1,v2,v3,.map (some m)]) (hm:MapIs Tryz.prog 31 w m kvs) (hk:∃ l,keyOf Tryz.prog 31 (portV i)=some l) (hn:∀ p∈kvs,p.1≠portV i) :
 Calls Tryz.prog 104 #[.pointer (some ⟨g,0,none⟩),portV i,.int .i64 x] w (RetPost w (.int .i64 (-1))):=by
 obtain⟨kl,hkl⟩:=hk
 obtain⟨w1,hw1,hb1,hf1⟩:=bxn w #[.int .i64 16,.string ⟨#[]⟩,.int .i64 i,.int .i64 0,.string ⟨#[]⟩] 31
 have HSS:=Hd (fun (W:World) (hW:Fr [] w1 W)=>(⟨(hg.fr (hf1.then hW) (by simp)).c 3,MapIs.look_none key_name Tryz.underlying194 (hm.fr (hf1.then hW) (by simp)) hkl hn (z:=.slice none 0 0) (zero_ints W) false,(hb1.fr hW (by simp)).c 0,(hb1.fr hW (by simp)).c 1,(hb1.fr hW (by simp)).c 2,(hb1.fr hW (by simp)).c 3,(hb1.fr hW (by simp)).c 4⟩:W.cell? ⟨g,3,none⟩=some (.map (some m))∧(Instr.lookup 194 (.map (some m)) (.agg #[.int .i64 16,.string ⟨#[]⟩,.int .i64 i,.int .i64 0,.string ⟨#[]⟩]) false).run Tryz.prog W=.ok (.slice none 0 0) W∧W.cell? ⟨w.heap.size,0,none⟩=some (.int .i64 16)∧W.cell? ⟨w.heap.size,1,none⟩=some (.string ⟨#[]⟩)∧W.cell? ⟨w.heap.size,2,none⟩=some (.int .i64 i)∧W.cell? ⟨w.heap.size,3,none⟩=some (.int .i64 0)∧W.cell? ⟨w.heap.size,4,none⟩=some (.string ⟨#[]⟩)))
 have HW1:=Hd hw1
 have HF1:=Hd hf1
 unfold portV
 clear hw1 hb1 hf1 hg hm hn hkl
 go_enter Tryz.func104,Tryz.ntmps104
 go_upto_region 1 with fail
 rw[HW1.out]
 go_upto_region 3 with fail
 refine wp_region_qall (fun W=>Fr [] w1 W) (by kernel_rfl) (by kernel_rfl) ((Fr.refl _ w1).drew) ?_
 repeat (
  first
  | go_big_quiet_skip
  | (go_big_quiet_want
     first
     | (go_big_quiet_op
        go_big_quiet_on)
     | (apply Exists.intro
        refine⟨fun W hW=>?_,?_⟩
        ·(obtain⟨z0,lk,y0,y1,y2,y3,y4⟩:=HSS.out W hW
          go_simp
          first
          | done
          | (with_reducible exact rfl)
          | (with_reducible exact⟨rfl,rfl⟩)
          | (fail))
        simp only[Act.put,qA,qB,qC]
        go_big_quiet_on))
  )
 refine wpQuiet_nil ?_
 intro W hW
 have HS:=Hd (SearchI_nil x W)
 go_wp2_with ((go_at_call 164;(with_reducible refine HS.out.mono ?_);rintro e w3 ⟨rfl,hf3⟩;have HF3:=Hd hf3;clear hf3))
 go_ret
 exact⟨rfl,(HF1.out.then hW).then HF3.out⟩
theorem Writer_zero (g m b c:Nat) (i:Int) (v1 v2 v3:Value) (kvs:List (Value × Value)) (w:World) (hg:BoxN w g 205 #[v1,v2,v3,.map (some m)]) (hm:MapIs Tryz.prog 31 w m kvs) (hk:∃ l,keyOf Tryz.prog 31 (portV i)=some l) (hn:(portV i,.slice (some ⟨b,0,none⟩) 1 c)∈kvs) (hb:Cs w b [.int .i64 0]) :
 Calls Tryz.prog 104 #[.pointer (some ⟨g,0,none⟩),portV i,.int .i64 1] w (RetPost w (.int .i64 0)):=by
 obtain⟨kl,hkl⟩:=hk
 obtain⟨w1,hw1,hb1,hf1⟩:=bxn w #[.int .i64 16,.string ⟨#[]⟩,.int .i64 i,.int .i64 0,.string ⟨#[]⟩] 31
 have HSS:=Hd (fun (W:World) (hW:Fr [] w1 W)=>(⟨(hg.fr (hf1.then hW) (by simp)).c 3,MapIs.look_some key_name Tryz.underlying194 (hm.fr (hf1.then hW) (by simp)) hkl hn false,(hb1.fr hW (by simp)).c 0,(hb1.fr hW (by simp)).c 1,(hb1.fr hW (by simp)).c 2,(hb1.fr hW (by simp)).c 3,(hb1.fr hW (by simp)).c 4⟩:W.cell? ⟨g,3,none⟩=some (.map (some m))∧(Instr.lookup 194 (.map (some m)) (.agg #[.int .i64 16,.string ⟨#[]⟩,.int .i64 i,.int .i64 0,.string ⟨#[]⟩]) false).run Tryz.prog W=.ok (.slice (some ⟨b,0,none⟩) 1 c) W∧W.cell? ⟨w.heap.size,0,none⟩=some (.int .i64 16)∧W.cell? ⟨w.heap.size,1,none⟩=some (.string ⟨#[]⟩)∧W.cell? ⟨w.heap.size,2,none⟩=some (.int .i64 i)∧W.cell? ⟨w.heap.size,3,none⟩=some (.int .i64 0)∧W.cell? ⟨w.heap.size,4,none⟩=some (.string ⟨#[]⟩)))
 have HW1:=Hd hw1
 have HF1:=Hd hf1
 have HB:=Hd hb
 have hwr:IntKind.i64.wrap 0=0:=by decide
 unfold portV
 clear hw1 hb1 hf1 hg hm hn hkl hb
 go_enter Tryz.func104,Tryz.ntmps104
 go_upto_region 1 with fail
 rw[HW1.out]
 go_upto_region 3 with fail
 refine wp_region_qall (fun W=>Fr [] w1 W) (by kernel_rfl) (by kernel_rfl) ((Fr.refl _ w1).drew) ?_
 repeat (
  first
  | go_big_quiet_skip
  | (go_big_quiet_want
     first
     | (go_big_quiet_op
        go_big_quiet_on)
     | (apply Exists.intro
        refine⟨fun W hW=>?_,?_⟩
        ·(obtain⟨z0,lk,y0,y1,y2,y3,y4⟩:=HSS.out W hW
          go_simp
          first
          | done
          | (with_reducible exact rfl)
          | (with_reducible exact⟨rfl,rfl⟩)
          | (fail))
        simp only[Act.put,qA,qB,qC]
        go_big_quiet_on))
  )
 refine wpQuiet_nil ?_
 intro W hW
 have hbW:=HB.out.fr0 (HF1.out.then hW)
 have HS:=Hd (SearchI_one b c W hbW)
 go_wp2_with ((go_at_call 164;(with_reducible refine HS.out.mono ?_);rintro e w3 ⟨rfl,hf3⟩;have hc3:w3.cell? ⟨b,0,none⟩=some (.int .i64 0):=(hbW.fr0 hf3).2 0 _ rfl;have HF3:=Hd hf3;clear hf3))
 go_ret
 exact⟨rfl,(HF1.out.then hW).then HF3.out⟩
theorem CheckG_one (g b c kc:Nat) (K:Option Addr) (v2 v3 v4:Value) (w:World) (hg:BoxN w g 205 #[.slice K 3 kc,v2,v3,v4]) (hb:Cs w b [.int .i64 1]) :
 Calls Tryz.prog 105 #[.pointer (some ⟨g,0,none⟩),.slice (some ⟨b,0,none⟩) 1 c] w (RetPost w (.int .i64 0)):=by
 have z0:=hg.k0
 have h0:=hb.k0
 clear hg hb
 go_enter Tryz.func105,Tryz.ntmps105
 go_upto_region 4 with fail
 refine wp_loop_rounds 2 ?_
 rw[rounds_succ]
 go_wp2_with fail
 rw[rounds_succ]
 go_wp2_with fail
 go_ret
 exact⟨rfl,Fr.refl _ _⟩
def GM (g mw Lk Us:Nat) (K:Option Addr):List Nat:=g::mw::Lk::Us::blk K
structure GIs (w:World) (g mw Lk Us n c:Nat) (K:Option Addr) (ks:List Value) (l u:Array Value) (kv:List (Value × Value)) (PW:World→Prop):Prop where
 box:BoxN w g 205 #[.slice K n c,.slice (some ⟨Lk,0,none⟩) 3 3,.slice (some ⟨Us,0,none⟩) 3 3,.map (some mw)]
 own:Own w 89 4 K n c ks
 lb:BoxN w Lk 61 l
 ub:BoxN w Us 61 u
 wm:MapIs Tryz.prog 31 w mw kv
 d1:g≠mw∧g≠Lk∧g≠Us∧mw≠Lk∧mw≠Us∧Lk≠Us
 d2:g ∉ blk K∧mw ∉ blk K∧Lk ∉ blk K∧Us ∉ blk K
 kept:Kept (GM g mw Lk Us K) w PW
section
variable {X Y Z:World} {g mw Lk Us n n' c c':Nat} {K K':Option Addr} {ks ks':List Value} {l u l' u':Array Value} {kv kv':List (Value × Value)} {PW Q:World→Prop}
theorem GIs.lt (h:GIs X g mw Lk Us n c K ks l u kv PW):∀ k∈GM g mw Lk Us K,k<X.heap.size:=fun k hk=>by
 simp only[GM,List.mem_cons] at hk
 rcases hk with rfl | rfl | rfl | rfl | hk
 ·exact h.box.lt
 ·exact h.wm.lt
 ·exact h.lb.lt
 ·exact h.ub.lt
 ·exact h.own.lt k hk
theorem GIs.fr0 (h:GIs X g mw Lk Us n c K ks l u kv PW) (hf:Fr [] X Y):GIs Y g mw Lk Us n c K ks l u kv PW :=
 ⟨h.box.fr hf (by simp),h.own.fr hf (by simp),h.lb.fr hf (by simp),h.ub.fr hf (by simp),h.wm.fr hf (by simp),h.d1,h.d2,h.kept.fr0 hf⟩
theorem GIs.addP (h:GIs X g mw Lk Us n c K ks l u kv PW) (hQ:Kept (GM g mw Lk Us K) X Q):GIs X g mw Lk Us n c K ks l u kv (fun W=>PW W∧Q W) :=
 ⟨h.box,h.own,h.lb,h.ub,h.wm,h.d1,h.d2,h.kept.and hQ⟩
theorem GIs.putL (h:GIs X g mw Lk Us n c K ks l u kv PW) (hf:Fr [Lk] X Y) (hb:BoxN Y Lk 61 l'):GIs Y g mw Lk Us n c K ks l' u kv PW :=
 ⟨h.box.fr hf (by simpa using h.d1.2.1),h.own.fr hf (by intro k hk;simp only[List.mem_singleton];rintro rfl;exact h.d2.2.2.1 hk),hb,h.ub.fr hf (by simpa using Ne.symm h.d1.2.2.2.2.2),h.wm.fr hf (by simpa using h.d1.2.2.2.1),h.d1,h.d2,h.kept.step (hf.mono (by simp[GM])) (fun k hk=>.inl hk)⟩
theorem GIs.putU (h:GIs X g mw Lk Us n c K ks l u kv PW) (hf:Fr [Us] X Y) (hb:BoxN Y Us 61 u'):GIs Y g mw Lk Us n c K ks l u' kv PW :=
 ⟨h.box.fr hf (by simpa using h.d1.2.2.1),h.own.fr hf (by intro k hk;simp only[List.mem_singleton];rintro rfl;exact h.d2.2.2.2 hk),h.lb.fr hf (by simpa using h.d1.2.2.2.2.2),hb,h.wm.fr hf (by simpa using h.d1.2.2.2.2.1),h.d1,h.d2,h.kept.step (hf.mono (by simp[GM])) (fun k hk=>.inl hk)⟩
theorem GIs.putW (h:GIs X g mw Lk Us n c K ks l u kv PW) (hf:Fr [mw] X Y) (hm:MapIs Tryz.prog 31 Y mw kv'):GIs Y g mw Lk Us n c K ks l u kv' PW :=
 ⟨h.box.fr hf (by simpa using h.d1.1),h.own.fr hf (by intro k hk;simp only[List.mem_singleton];rintro rfl;exact h.d2.2.1 hk),h.lb.fr hf (by simpa using Ne.symm h.d1.2.2.2.1),h.ub.fr hf (by simpa using Ne.symm h.d1.2.2.2.2.1),hm,h.d1,h.d2,h.kept.step (hf.mono (by simp[GM])) (fun k hk=>.inl hk)⟩
theorem GIs.putK (h:GIs X g mw Lk Us n c K ks l u kv PW) (f1:Fr (blk K) X Y) (ho:Own Y 89 4 K' n' c' ks') (hK:∀ k∈blk K',k∈blk K ∨ X.heap.size≤k) (f2:Fr [g] Y Z)
 (hb:BoxN Z g 205 #[.slice K' n' c',.slice (some ⟨Lk,0,none⟩) 3 3,.slice (some ⟨Us,0,none⟩) 3 3,.map (some mw)]) :
 GIs Z g mw Lk Us n' c' K' ks' l u kv PW∧Fr (GM g mw Lk Us K) X Z∧∀ k∈GM g mw Lk Us K',k∈GM g mw Lk Us K ∨ X.heap.size≤k:=by
 have hlt:=h.lt
 have hfr:Fr (GM g mw Lk Us K) X Z:=(f1.mono (by intro k hk;exact .inl (by simp[GM,hk]))).trans f2 (by simp[GM])
 have hM:∀ k∈GM g mw Lk Us K',k∈GM g mw Lk Us K ∨ X.heap.size≤k:=fun k hk=>by
  simp only[GM,List.mem_cons] at hk ⊢
  rcases hk with rfl | rfl | rfl | rfl | hk
  ·simp
  ·simp
  ·simp
  ·simp
  ·rcases hK k hk with h1 | h1
   ·exact .inl (by simp[h1])
   ·exact .inr h1
 have old:∀ k,k∈GM g mw Lk Us K→k ∉ blk K→k ∉ blk K':=fun k h1 h2 hm=>by
  rcases hK k hm with h3 | h3
  ·exact h2 h3
  ·have:=hlt k h1;omega
 have hgK:=old g (by simp[GM]) h.d2.1
 have hwK:=old mw (by simp[GM]) h.d2.2.1
 have hlK:=old Lk (by simp[GM]) h.d2.2.2.1
 have huK:=old Us (by simp[GM]) h.d2.2.2.2
 exact⟨⟨hb,ho.fr f2 (by intro k hk;simp only[List.mem_singleton];rintro rfl;exact hgK hk),(h.lb.fr f1 h.d2.2.2.1).fr f2 (by simpa using Ne.symm h.d1.2.1),(h.ub.fr f1 h.d2.2.2.2).fr f2 (by simpa using Ne.symm h.d1.2.2.1),(h.wm.fr f1 h.d2.2.1).fr f2 (by simpa using Ne.symm h.d1.1),h.d1,⟨hgK,hwK,hlK,huK⟩,h.kept.step hfr hM⟩,hfr,hM⟩
end
theorem info_linkS:∃ i,(Tryz.prog).info? 61=some i∧i.zero=some (.slice none 0 0)∧i.size=1∧i.bytes=24:=info_parts (by kernel_rfl)
theorem info_link:∃ i,(Tryz.prog).info? 98=some i∧i.zero=some (.agg #[.int .i64 0,.int .i64 0,.int .i64 0,.string ⟨#[]⟩,.int .i64 0,.int .i64 0,.string ⟨#[]⟩])∧i.size=7∧i.bytes=72:=info_parts (by kernel_rfl)
theorem info_key:∃ i,(Tryz.prog).info? 89=some i∧i.zero=some (.agg #[.int .i64 0,.int .i64 0,.int .i64 0,.string ⟨#[]⟩])∧i.size=4∧i.bytes=40:=info_parts (by kernel_rfl)
theorem made_links:madeCells (Value.slice none 0 0).cells 3=#[.slice none 0 0,.slice none 0 0,.slice none 0 0]:=by kernel_rfl
theorem run_makeL (w:World):(Instr.makeSlice 203 (.int .i64 3) (.int .i64 3)).run Tryz.prog w=.ok (.slice (some ⟨w.heap.size,0,none⟩) 3 3) (w.alloc (.cells #[.slice none 0 0,.slice none 0 0,.slice none 0 0] 61)):=by
 obtain⟨i,hi,hz,hs,hb⟩:=info_linkS
 have h:=run_makeSlice (P:=Tryz.prog) (w:=w) 203 61 i (.slice none 0 0) Tryz.underlying203 hi hz .i64 .i64 3 3 (by omega) (by omega) (by rw[hs];decide) (by rw[hb];decide) (by omega)
 rw[h,hs]
 show Result.ok _ (w.alloc (.cells (madeCells (Value.slice none 0 0).cells 3) 61))=_
 rw[made_links]
 rfl
theorem headI_three {P:Program} {md:Region.Mode} {ops:Array Oper} {Q:Exit→Act→World→Prop} {C:World→Prop} {n:Nat} {L:Array Bool→Act→World→Prop} {i j m:Nat} {oi oj om:Oper} {f:Nat} {S:Array Bool} {a:Act} {w:World} (hr:Region.ready md ops S=[i,j,m]) (hin:i<n) (hjn:j<n) (hmn:m<n) (hi:ops[i]?=some oi) (hj:ops[j]?=some oj) (hm:ops[m]?=some om)
 (h1:∀ K:Act→World→Prop,(∀ a' w',C w'→headI P md ops Q C n L f (S.setIfInBounds i true) a' w'→K a' w')→if Region.wanted oi (yielded ops a.tmps)=true then oi.wp P a w K Q else K (a.put oi.dst undef) w)
 (h2:∀ K:Act→World→Prop,(∀ a' w',C w'→headI P md ops Q C n L f (S.setIfInBounds j true) a' w'→K a' w')→if Region.wanted oj (yielded ops a.tmps)=true then oj.wp P a w K Q else K (a.put oj.dst undef) w)
 (h3:∀ K:Act→World→Prop,(∀ a' w',C w'→headI P md ops Q C n L f (S.setIfInBounds m true) a' w'→K a' w')→if Region.wanted om (yielded ops a.tmps)=true then om.wp P a w K Q else K (a.put om.dst undef) w):headI P md ops Q C n L (f+1) S a w:=by
 intro inv
 refine⟨by rw[hr];simp,fun x hx=>?_⟩
 have hi0:i∈Region.ready md ops S:=by rw[hr];simp
 have hj0:j∈Region.ready md ops S:=by rw[hr];simp
 have hm0:m∈Region.ready md ops S:=by rw[hr];simp
 rw[hr] at hx
 simp only[List.mem_cons,List.not_mem_nil,or_false] at hx
 rcases hx with rfl | rfl | rfl
 ·exact⟨hin,wpOp_step hi fun K hK=>h1 K fun a' w' hC hW=>hK a' w' ⟨hC,hW (inv.set hi0 hin)⟩⟩
 ·exact⟨hjn,wpOp_step hj fun K hK=>h2 K fun a' w' hC hW=>hK a' w' ⟨hC,hW (inv.set hj0 hjn)⟩⟩
 ·exact⟨hmn,wpOp_step hm fun K hK=>h3 K fun a' w' hC hW=>hK a' w' ⟨hC,hW (inv.set hm0 hmn)⟩⟩
end Go.Proofs.YtlpmiimgacfmkaaGreatDoor
