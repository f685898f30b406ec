/- logtree: the steps up from a leaf. -/
import Derived.LoopN
import Derived.Test.YtlpmiimgacfmkaaGreatDoorRLin2
import Derived.Test.YtlpmiimgacfmkaaGreatDoorRTr5
import Derived.Test.YtlpmiimgacfmkaaGreatDoorRShelf1
set_option linter.all false
namespace Go.Proofs.YtlpmiimgacfmkaaGreatDoor
open Go.RowKit Go.Shelf
set_option maxRecDepth 100000
set_option maxHeartbeats 1000000
attribute [local go_sem] Oper.semAt_some
theorem yieldAt_wide {m m':Nat} {P:Program} {l:Nat} {args:Array Value} {W:World} {R:Ending→World→Prop} (h:YieldAt Fence.wide m P l args W R):YieldAt Fence.wide m' P l args W R:=by
 obtain⟨fn,tmps,assign,body,h1,h2⟩:=h
 exact⟨fn,tmps,assign,body,h1,h2.1,fun c cs _=>h2.2 c cs (room_wide _)⟩
def Tru (R:World→Prop) (e:Ending) (w':World):Prop:=e=.returned (.bool true)∧R w'
theorem climb_one (n:Nat) (i:Int) (f:Value) (W:World) (R:World→Prop) (h:R W):CallsIn Fence.wide n Tryz.prog 259 #[.int .i64 i,.int .i64 1,f] W (Tru R):=by
 refine callsIn_wide.2 ?_
 go_enter Tryz.func259,Tryz.ntmps259
 go_wp2_with fail
 go_ret
 exact⟨rfl,h⟩
theorem climb_12 (n l:Nat) (W:World) (R R':World→Prop) (hrec:∀ n,CallsIn Fence.wide n Tryz.prog 259 #[.int .i64 0,.int .i64 1,.func (.yield l) #[] #[]] W (Tru R))
 (hy:∀ W,R W→YieldAt Fence.wide 0 Tryz.prog l #[.bool false] W (Tru R')):CallsIn Fence.wide n Tryz.prog 259 #[.int .i64 1,.int .i64 2,.func (.yield l) #[] #[]] W (Tru R'):=by
 have hL:=leftSize_any 2 (by omega) (by omega) W
 rw[show (leftS 2:Nat)=1 from by decide] at hL
 have hL2:Calls Tryz.prog 171 #[.int .i64 2] W fun e w'=>e=.returned (.int .i64 1)∧w'=W:=hL
 have HL:=Hd hL2
 have HR:=Hd hrec
 have HY:=Hd hy
 clear hL hL2 hrec hy
 refine callsIn_of_wp Tryz.func259 rfl trivial ?_ rfl
 simp only[Tryz.ntmps259,List.size_toArray,List.length_cons,List.length_nil,Nat.reduceAdd,Nat.reduceSub,Array.replicate_succ,Array.replicate_zero,List.push_toArray,List.append_toArray,List.nil_append,List.cons_append]
 gi_wp2_with (first
  | (refine⟨trivial,fun h=>absurd h (by simp[Fence.wide]),?_⟩;(with_reducible refine (callsIn_wide.2 HL.out).mono ?_);rintro e w1 ⟨rfl,rfl⟩)
  | (refine⟨trivial,fun h=>absurd h (by simp[Fence.wide]),?_⟩;(with_reducible refine (HR.out _).mono ?_);rintro e w1 ⟨rfl,h1⟩;obtain⟨fn,tmps,assign,body,hyy,hRR⟩:=yieldAt_wide (m':=n - 1) (HY.out _ h1);have HRR:=Hd hRR;clear h1 hRR))
 refine⟨fun h=>absurd h (by simp[Fence.wide]),HRR.out.mono ?_⟩
 rintro e W2 ⟨rfl,h2⟩
 have H2:=Hd h2
 clear h2
 gi_wp2_with fail
 go_ret
 exact⟨rfl,H2.out⟩
theorem climb_14 (n l:Nat) (W:World) (R R':World→Prop) (hrec:∀ n,CallsIn Fence.wide n Tryz.prog 259 #[.int .i64 1,.int .i64 2,.func (.yield l) #[] #[]] W (Tru R))
 (hy:∀ W,R W→YieldAt Fence.wide 0 Tryz.prog l #[.bool true] W (Tru R')):CallsIn Fence.wide n Tryz.prog 259 #[.int .i64 1,.int .i64 4,.func (.yield l) #[] #[]] W (Tru R'):=by
 have hL:=leftSize_any 4 (by omega) (by omega) W
 rw[show (leftS 4:Nat)=2 from by decide] at hL
 have hL2:Calls Tryz.prog 171 #[.int .i64 4] W fun e w'=>e=.returned (.int .i64 2)∧w'=W:=hL
 have HL:=Hd hL2
 have HR:=Hd hrec
 have HY:=Hd hy
 clear hL hL2 hrec hy
 refine callsIn_of_wp Tryz.func259 rfl trivial ?_ rfl
 simp only[Tryz.ntmps259,List.size_toArray,List.length_cons,List.length_nil,Nat.reduceAdd,Nat.reduceSub,Array.replicate_succ,Array.replicate_zero,List.push_toArray,List.append_toArray,List.nil_append,List.cons_append]
 gi_wp2_with (first
  | (refine⟨trivial,fun h=>absurd h (by simp[Fence.wide]),?_⟩;(with_reducible refine (callsIn_wide.2 HL.out).mono ?_);rintro e w1 ⟨rfl,rfl⟩)
  | (refine⟨trivial,fun h=>absurd h (by simp[Fence.wide]),?_⟩;(with_reducible refine (HR.out _).mono ?_);rintro e w1 ⟨rfl,h1⟩;obtain⟨fn,tmps,assign,body,hyy,hRR⟩:=yieldAt_wide (m':=n - 1) (HY.out _ h1);have HRR:=Hd hRR;clear h1 hRR))
 refine⟨fun h=>absurd h (by simp[Fence.wide]),HRR.out.mono ?_⟩
 rintro e W2 ⟨rfl,h2⟩
 have H2:=Hd h2
 clear h2
 gi_wp2_with fail
 go_ret
 exact⟨rfl,H2.out⟩
theorem climb_02 (n l:Nat) (W:World) (R R':World→Prop) (hrec:∀ n,CallsIn Fence.wide n Tryz.prog 259 #[.int .i64 0,.int .i64 1,.func (.yield l) #[] #[]] W (Tru R))
 (hy:∀ W,R W→YieldAt Fence.wide 0 Tryz.prog l #[.bool true] W (Tru R')):CallsIn Fence.wide n Tryz.prog 259 #[.int .i64 0,.int .i64 2,.func (.yield l) #[] #[]] W (Tru R'):=by
 have hL:=leftSize_any 2 (by omega) (by omega) W
 rw[show (leftS 2:Nat)=1 from by decide] at hL
 have hL2:Calls Tryz.prog 171 #[.int .i64 2] W fun e w'=>e=.returned (.int .i64 1)∧w'=W:=hL
 have HL:=Hd hL2
 have HR:=Hd hrec
 have HY:=Hd hy
 clear hL hL2 hrec hy
 refine callsIn_of_wp Tryz.func259 rfl trivial ?_ rfl
 simp only[Tryz.ntmps259,List.size_toArray,List.length_cons,List.length_nil,Nat.reduceAdd,Nat.reduceSub,Array.replicate_succ,Array.replicate_zero,List.push_toArray,List.append_toArray,List.nil_append,List.cons_append]
 gi_wp2_with (first
  | (refine⟨trivial,fun h=>absurd h (by simp[Fence.wide]),?_⟩;(with_reducible refine (callsIn_wide.2 HL.out).mono ?_);rintro e w1 ⟨rfl,rfl⟩)
  | (refine⟨trivial,fun h=>absurd h (by simp[Fence.wide]),?_⟩;(with_reducible refine (HR.out _).mono ?_);rintro e w1 ⟨rfl,h1⟩;obtain⟨fn,tmps,assign,body,hyy,hRR⟩:=yieldAt_wide (m':=n - 1) (HY.out _ h1);have HRR:=Hd hRR;clear h1 hRR))
 refine⟨fun h=>absurd h (by simp[Fence.wide]),HRR.out.mono ?_⟩
 rintro e W2 ⟨rfl,h2⟩
 have H2:=Hd h2
 clear h2
 gi_wp2_with fail
 go_ret
 exact⟨rfl,H2.out⟩
theorem climb_24 (n l:Nat) (W:World) (R R':World→Prop) (hrec:∀ n,CallsIn Fence.wide n Tryz.prog 259 #[.int .i64 0,.int .i64 2,.func (.yield l) #[] #[]] W (Tru R))
 (hy:∀ W,R W→YieldAt Fence.wide 0 Tryz.prog l #[.bool false] W (Tru R')):CallsIn Fence.wide n Tryz.prog 259 #[.int .i64 2,.int .i64 4,.func (.yield l) #[] #[]] W (Tru R'):=by
 have hL:=leftSize_any 4 (by omega) (by omega) W
 rw[show (leftS 4:Nat)=2 from by decide] at hL
 have hL2:Calls Tryz.prog 171 #[.int .i64 4] W fun e w'=>e=.returned (.int .i64 2)∧w'=W:=hL
 have HL:=Hd hL2
 have HR:=Hd hrec
 have HY:=Hd hy
 clear hL hL2 hrec hy
 refine callsIn_of_wp Tryz.func259 rfl trivial ?_ rfl
 simp only[Tryz.ntmps259,List.size_toArray,List.length_cons,List.length_nil,Nat.reduceAdd,Nat.reduceSub,Array.replicate_succ,Array.replicate_zero,List.push_toArray,List.append_toArray,List.nil_append,List.cons_append]
 gi_wp2_with (first
  | (refine⟨trivial,fun h=>absurd h (by simp[Fence.wide]),?_⟩;(with_reducible refine (callsIn_wide.2 HL.out).mono ?_);rintro e w1 ⟨rfl,rfl⟩)
  | (refine⟨trivial,fun h=>absurd h (by simp[Fence.wide]),?_⟩;(with_reducible refine (HR.out _).mono ?_);rintro e w1 ⟨rfl,h1⟩;obtain⟨fn,tmps,assign,body,hyy,hRR⟩:=yieldAt_wide (m':=n - 1) (HY.out _ h1);have HRR:=Hd hRR;clear h1 hRR))
 refine⟨fun h=>absurd h (by simp[Fence.wide]),HRR.out.mono ?_⟩
 rintro e W2 ⟨rfl,h2⟩
 have H2:=Hd h2
 clear h2
 gi_wp2_with fail
 go_ret
 exact⟨rfl,H2.out⟩
theorem steps_any (i n:Int) (w:World):Calls Tryz.prog 218 #[.int .i64 i,.int .i64 n] w fun e w'=>e=.returned (.func (.func 258) #[] #[.pointer (some ⟨w.heap.size,0,none⟩),.pointer (some ⟨w.heap.size+1,0,none⟩)])∧w'=(w.alloc (.cells #[.int .i64 i] 3)).alloc (.cells #[.int .i64 n] 3):=by
 go_enter Tryz.func218,Tryz.ntmps218
 go_wp2_with fail
 go_ret
 exact⟨rfl,rfl⟩
theorem seq_14 (n B0 B1:Nat) (w:World) (h0:BoxN w B0 3 #[.int .i64 1]) (h1:BoxN w B1 3 #[.int .i64 4]) (l:Nat) (J:Nat→World→Prop) (W:World) (hW:Fr [] w W)
 (hy:∀ k x W1,[false,true][k]?=some x→J k W1→YieldAt Fence.wide (n - 1) Tryz.prog l #[.bool x] W1 fun e W'=>e=.returned (.bool true)∧J (k+1) W') (hJ:J 0 W) :
 CallsIn Fence.wide n Tryz.prog 258 (#[.func (.yield l) #[] #[]]++#[.pointer (some ⟨B0,0,none⟩),.pointer (some ⟨B1,0,none⟩)]) W fun e W'=>(∃ v,e=.returned v)∧J [false,true].length W':=by
 have x0:W.cell? ⟨B0,0,none⟩=some (.int .i64 1):=(h0.fr hW (by simp)).c 0
 have x1:W.cell? ⟨B1,0,none⟩=some (.int .i64 4):=(h1.fr hW (by simp)).c 0
 have HC:Hid (∀ m,CallsIn Fence.wide m Tryz.prog 259 #[.int .i64 1,.int .i64 4,.func (.yield l) #[] #[]] W (Tru (J 2))):=Hd (fun m =>
  climb_14 m l W (J 1) (J 2) (fun m2=>climb_12 m2 l W (J 0) (J 1) (fun m3=>climb_one m3 0 _ W (J 0) hJ) (fun W1 h=>yieldAt_wide (hy 0 _ W1 rfl h))) (fun W1 h=>yieldAt_wide (hy 1 _ W1 rfl h)))
 clear h0 h1 hy hJ hW
 show CallsIn Fence.wide n Tryz.prog 258 #[.func (.yield l) #[] #[],.pointer (some ⟨B0,0,none⟩),.pointer (some ⟨B1,0,none⟩)] W _
 refine callsIn_of_wp Tryz.func258 rfl trivial ?_ rfl
 simp only[Tryz.ntmps258,List.size_toArray,List.length_cons,List.length_nil,Nat.reduceAdd,Nat.reduceSub,Array.replicate_succ,Array.replicate_zero,List.push_toArray,List.append_toArray,List.nil_append,List.cons_append]
 gi_wp2_with (refine⟨trivial,fun h=>absurd h (by simp[Fence.wide]),?_⟩;(with_reducible refine (HC.out _).mono ?_);rintro e w1 ⟨rfl,h1⟩)
 go_end0
 exact⟨⟨_,rfl⟩,h1⟩
theorem seq_24 (n B0 B1:Nat) (w:World) (h0:BoxN w B0 3 #[.int .i64 2]) (h1:BoxN w B1 3 #[.int .i64 4]) (l:Nat) (J:Nat→World→Prop) (W:World) (hW:Fr [] w W)
 (hy:∀ k x W1,[true,false][k]?=some x→J k W1→YieldAt Fence.wide (n - 1) Tryz.prog l #[.bool x] W1 fun e W'=>e=.returned (.bool true)∧J (k+1) W') (hJ:J 0 W) :
 CallsIn Fence.wide n Tryz.prog 258 (#[.func (.yield l) #[] #[]]++#[.pointer (some ⟨B0,0,none⟩),.pointer (some ⟨B1,0,none⟩)]) W fun e W'=>(∃ v,e=.returned v)∧J [true,false].length W':=by
 have x0:W.cell? ⟨B0,0,none⟩=some (.int .i64 2):=(h0.fr hW (by simp)).c 0
 have x1:W.cell? ⟨B1,0,none⟩=some (.int .i64 4):=(h1.fr hW (by simp)).c 0
 have HC:Hid (∀ m,CallsIn Fence.wide m Tryz.prog 259 #[.int .i64 2,.int .i64 4,.func (.yield l) #[] #[]] W (Tru (J 2))):=Hd (fun m =>
  climb_24 m l W (J 1) (J 2) (fun m2=>climb_02 m2 l W (J 0) (J 1) (fun m3=>climb_one m3 0 _ W (J 0) hJ) (fun W1 h=>yieldAt_wide (hy 0 _ W1 rfl h))) (fun W1 h=>yieldAt_wide (hy 1 _ W1 rfl h)))
 clear h0 h1 hy hJ hW
 show CallsIn Fence.wide n Tryz.prog 258 #[.func (.yield l) #[] #[],.pointer (some ⟨B0,0,none⟩),.pointer (some ⟨B1,0,none⟩)] W _
 refine callsIn_of_wp Tryz.func258 rfl trivial ?_ rfl
 simp only[Tryz.ntmps258,List.size_toArray,List.length_cons,List.length_nil,Nat.reduceAdd,Nat.reduceSub,Array.replicate_succ,Array.replicate_zero,List.push_toArray,List.append_toArray,List.nil_append,List.cons_append]
 gi_wp2_with (refine⟨trivial,fun h=>absurd h (by simp[Fence.wide]),?_⟩;(with_reducible refine (HC.out _).mono ?_);rintro e w1 ⟨rfl,h1⟩)
 go_end0
 exact⟨⟨_,rfl⟩,h1⟩
end Go.Proofs.YtlpmiimgacfmkaaGreatDoor
namespace Go.Proofs.YtlpmiimgacfmkaaGreatDoor
open Go.RowKit
set_option maxRecDepth 100000
set_option maxHeartbeats 4000000
def pairC (l r:Nm):List Value:=dCells l++dCells r
theorem pairC_len {l r:Nm} (hl:l.length=32) (hr:r.length=32):(pairC l r).length=64:=by
 unfold pairC;rw[List.length_append,dcells_len,dcells_len,hl,hr]
theorem pairC_one (l r:Nm):∀ u∈pairC l r,u.oneCell'=true:=by
 intro u hu
 rcases List.mem_append.1 hu with h | h
 ·exact dcells_one l u h
 ·exact dcells_one r u h
theorem foldk_set (off:Nat) (l:List Value):∀ (k:Nat) (z:Array Value),off+k+l.length≤z.size→∀ i,((l.zipIdx k).foldl (fun cs x=>cs.setIfInBounds (off+x.2) x.1) z)[i]?=if off+k≤i∧i<off+k+l.length then l[i - (off+k)]? else z[i]?:=by
 induction l with
 | nil =>
  intro k z _ i
  simp only[List.zipIdx_nil,List.foldl_nil,List.length_nil]
  rw[if_neg (by omega)]
 | cons x l ih =>
  intro k z hz i
  simp only[List.length_cons] at hz
  rw[List.zipIdx_cons,List.foldl_cons,ih (k+1) _ (by simp;omega)]
  simp only[List.length_cons]
  by_cases h1:off+(k+1)≤i∧i<off+(k+1)+l.length
  ·rw[if_pos h1,if_pos (by omega),show i - (off+k)=(i - (off+(k+1)))+1 by omega,List.getElem?_cons_succ]
  ·rw[if_neg h1]
   by_cases h2:i=off+k
   ·subst h2
    rw[if_pos (by omega),Nat.sub_self,List.getElem?_cons_zero,Array.getElem?_setIfInBounds_self_of_lt (by omega)]
   ·rw[if_neg (by omega),Array.getElem?_setIfInBounds_ne (by omega)]
theorem foldz_size (l:List Value):∀ (k:Nat) (z:Array Value),((l.zipIdx k).foldl (fun cs x=>cs.setIfInBounds x.2 x.1) z).size=z.size:=by
 induction l with
 | nil=>intro k z;rfl
 | cons x l ih=>intro k z;rw[List.zipIdx_cons,List.foldl_cons,ih];simp
theorem fold_pair {l r:Nm} (hl:l.length=32) (hr:r.length=32) (z:Array Value) (hz:z.size=64) :
 ((dCells r).zipIdx).foldl (fun cs x=>cs.setIfInBounds (32+x.2) x.1) (((dCells l).zipIdx).foldl (fun cs x=>cs.setIfInBounds x.2 x.1) z)=(pairC l r).toArray:=by
 have cl:(dCells l).length=32:=by rw[dcells_len,hl]
 have cr:(dCells r).length=32:=by rw[dcells_len,hr]
 have s1:=foldz_size (dCells l) 0 z
 apply Array.ext_getElem?
 intro i
 rw[foldk_set 32 (dCells r) 0 _ (by omega) i,fold_set (dCells l) 0 z (by omega) i,cl,cr]
 simp only[pairC,List.getElem?_toArray,List.getElem?_append,cl,Nat.add_zero,Nat.zero_add,Nat.sub_zero,Nat.zero_le,true_and]
 by_cases h1:i<32
 ·rw[if_neg (by omega),if_pos h1,if_pos h1]
 ·rw[if_neg h1]
  by_cases h2:i<64
  ·rw[if_pos (by omega),if_neg h1]
  ·rw[if_neg (by omega),if_neg h1,Array.getElem?_eq_none (by omega),List.getElem?_eq_none (by omega)]
theorem run_build_pair (W:World) {l r:Nm} (hl:l.length=32) (hr:r.length=32):(Instr.build 308 #[(0,.agg (dCells l).toArray),(1,.agg (dCells r).toArray)]).run Tryz.prog W=.ok (.agg (pairC l r).toArray) W:=by
 have cl:(dCells l).length=32:=by rw[dcells_len,hl]
 have cr:(dCells r).length=32:=by rw[dcells_len,hr]
 simp[Instr.build,go_sem,cl,cr,foldz_size]
 exact fold_pair hl hr _ rfl
theorem pair_left {W:World} {B:Nat} {l r:Nm} (h:BoxN W B 308 (pairC l r).toArray):W.rangeAt B 0 (dCells l):=fun j v hv=>by
 rw[Nat.zero_add,h.c j]
 have hj:=(List.getElem?_eq_some_iff.1 hv).1
 simp only[pairC,List.getElem?_toArray]
 rw[List.getElem?_append_left hj]
 exact hv
theorem pair_right {W:World} {B:Nat} {l r:Nm} (hl:l.length=32) (h:BoxN W B 308 (pairC l r).toArray):W.rangeAt B 32 (dCells r):=fun j v hv=>by
 have cl:(dCells l).length=32:=by rw[dcells_len,hl]
 rw[h.c (32+j)]
 simp only[pairC,List.getElem?_toArray]
 rw[List.getElem?_append_right (by omega),cl,Nat.add_sub_cancel_left]
 exact hv
theorem PairDigest_any (l r:Nm) (w:World) (hok:Ok w) (hl:l.length=32) (hr:r.length=32):Calls Tryz.prog 219 #[.agg (pairC l r).toArray] w (SumPost w (nodeN l r)):=by
 obtain⟨w1,hw1,hb1,hf1⟩:=bxn w (pairC l r).toArray 308
 obtain⟨w2,hw2⟩:=nmd (w1.alloc (.cells (z32) 57))
 have hf2:Fr [] w1 w2:=by rw[←hw2];exact (Fr.refl [] w1).alloc _
 obtain⟨fR,hR⟩:∃ f,w2.rowIs w1.heap.size 57 32 f:=by rw[←hw2];exact⟨_,row_new w1 _ _⟩
 have hs1:w1.heap.size=w.heap.size+1:=by rw[←hw1];exact World.size_alloc _ _
 have hb2:=hb1.fr hf2 (by simp)
 have hN:=Node_any l r w2 (hok.fr0 (hf1.then hf2)) hl hr
 obtain⟨d,hd⟩:=nmd (nodeN l r)
 have hd32:d.length=32:=by rw[←hd];exact shaN_len _
 rw[hd] at hN ⊢
 have hcl:(dCells d).length=32:=by rw[dcells_len,hd32]
 have c1:(dCells l).length=32:=by rw[dcells_len,hl]
 have c2:(dCells r).length=32:=by rw[dcells_len,hr]
 have HP1:=Hd (pair_left hb2)
 have HP2:=Hd (pair_right hl hb2)
 have HN:=Hd hN
 have HR2:=Hd hR
 have HF2:=Hd (hf1.then hf2)
 have HW1:=Hd hw1
 have HW2:=Hd hw2
 obtain⟨R,hRR⟩:=nmd (w1.heap.size)
 rw[hRR] at HR2
 have HRR:=Hd hRR
 have HZ:=Hd hs1
 clear hN hR hf1 hf2 hw1 hw2 hb1 hb2 hd hs1 hRR
 unfold encD at HN
 go_enter Tryz.func219,Tryz.ntmps219
 go_upto_region 1 with fail
 rw[HW1.out,HW2.out,←HZ.out,HRR.out]
 go_wp2_with (first
  | (with_reducible refine wpList_load_mid rfl 57 (.tmp 3) rfl w.heap.size 0 rfl (dCells l) (.array 32 5) HP1.out (by kernel_rfl) rfl (by rw[c1];kernel_rfl) ?_)
  | (with_reducible refine wpList_load_mid rfl 57 (.tmp 5) rfl w.heap.size 32 rfl (dCells r) (.array 32 5) HP2.out (by kernel_rfl) rfl (by rw[c2];kernel_rfl) ?_)
  | (go_at_call 150;(with_reducible refine HN.out.mono ?_);rintro e w3 ⟨rfl,hf3⟩;unfold encD;have hR3:=rowIs_fr HR2.out hf3 (by simp);have hst:=store_digest (d:=d) hR3 hd32;have hrd:=row_digest (d:=d) hR3 hd32;obtain⟨w4,hw4⟩:∃ X,w3.setCells R 0 (dCells d)=X:=⟨_,rfl⟩;have hf4:Fr [] w w4:=(by rw[←hw4];exact ((HF2.out.then hf3).setCells (.inr (by have:=HRR.out;have:=HZ.out;omega)) _ _));rw[hw4] at hst hrd;have HRD:=Hd hrd.1;have HF4:=Hd hf4;clear hw4 hrd hf4 hR3 hf3))
 exact bodyPost_ret (v:=encD d) (results_cell_mid (d:=.array 32 5) (p:=2) (ty:=57) (b:=R) (o:=0) rfl rfl HRD.out (by kernel_rfl) rfl (by rw[hcl];rfl)) rfl ⟨rfl,HF4.out⟩
open Go.RowKit Go.Shelf
set_option maxHeartbeats 2000000
theorem InsN (A:Option Addr) (n c:Nat) (f:Value) (hn:n≤1) (w:World):Calls Tryz.prog 220 #[.slice A n c,.int .i64 0,.int .i64 n,f] w fun e w'=>e=.returned (.tuple #[])∧w=w':=by
 obtain rfl | rfl:n=0 ∨ n=1:=by omega
 all_goals
  simp only[Int.ofNat_zero,Int.ofNat_one,Int.natCast_zero,Int.natCast_one]
  go_enter Tryz.func220,Tryz.ntmps220
  go_wp2_with fail
  refine wp_loop_rounds 1 ?_
  rw[rounds_succ]
  go_wp2_with fail
  go_end0
  exact⟨rfl,rfl⟩
theorem PdqN (A:Option Addr) (n c:Nat) (m:Int) (f:Value) (hn:n≤1) (w:World):Calls Tryz.prog 179 #[.slice A n c,.int .i64 0,.int .i64 n,.int .i64 m,f] w fun e w'=>e=.returned (.tuple #[])∧w=w':=by
 obtain rfl | rfl:n=0 ∨ n=1:=by omega
 all_goals
  simp only[Int.ofNat_zero,Int.ofNat_one,Int.natCast_zero,Int.natCast_one]
 ·have HI:=Hd (InsN A 0 c f (by omega) w)
  simp only[Int.ofNat_zero,Int.natCast_zero] at HI
  go_enter Tryz.func179,Tryz.ntmps179
  go_wp2_with fail
  refine wp_loop_rounds 1 ?_
  rw[rounds_succ]
  go_wp2_with ((go_at_call 220;(with_reducible refine HI.out.mono ?_);rintro e w1 ⟨rfl,rfl⟩))
  try simp only[Exit.inBlock,Exit.then]
  refine bodyPost_ret (results_none rfl _ _ _) rfl ?_
  exact⟨rfl,rfl⟩
 ·have HI:=Hd (InsN A 1 c f (by omega) w)
  simp only[Int.ofNat_one,Int.natCast_one] at HI
  go_enter Tryz.func179,Tryz.ntmps179
  go_wp2_with fail
  refine wp_loop_rounds 1 ?_
  rw[rounds_succ]
  go_wp2_with ((go_at_call 220;(with_reducible refine HI.out.mono ?_);rintro e w1 ⟨rfl,rfl⟩))
  try simp only[Exit.inBlock,Exit.then]
  refine bodyPost_ret (results_none rfl _ _ _) rfl ?_
  exact⟨rfl,rfl⟩
theorem SortN (A:Option Addr) (n c:Nat) (f:Value) (hn:n≤1) (w:World):Calls Tryz.prog 137 #[.slice A n c,f] w fun e w'=>e=.returned (.tuple #[])∧w=w':=by
 obtain rfl | rfl:n=0 ∨ n=1:=by omega
 ·have HB:=Hd (Tryz.bits_Len 0 w (by omega) (by omega))
  have HP:=Hd (fun m=>PdqN A 0 c m f (by omega) w)
  simp only[Int.ofNat_zero,Int.natCast_zero] at HP
  go_enter Tryz.func137,Tryz.ntmps137
  go_wp2_with (first
   | (go_at_call 172;(with_reducible refine HB.out.mono ?_);rintro e w1 ⟨rfl,rfl⟩)
   | (go_at_call 179;(with_reducible refine (HP.out _).mono ?_);rintro e w1 ⟨rfl,rfl⟩))
  go_end0
  exact⟨rfl,rfl⟩
 ·have HB:=Hd (Tryz.bits_Len 1 w (by omega) (by omega))
  have HP:=Hd (fun m=>PdqN A 1 c m f (by omega) w)
  simp only[Int.ofNat_one,Int.natCast_one] at HP
  go_enter Tryz.func137,Tryz.ntmps137
  go_wp2_with (first
   | (go_at_call 172;(with_reducible refine HB.out.mono ?_);rintro e w1 ⟨rfl,rfl⟩)
   | (go_at_call 179;(with_reducible refine (HP.out _).mono ?_);rintro e w1 ⟨rfl,rfl⟩))
  go_end0
  exact⟨rfl,rfl⟩
theorem InsC (A:Option Addr) (n c:Nat) (f:Value) (hn:n≤1) (w:World):Calls Tryz.prog 200 #[.slice A n c,.int .i64 0,.int .i64 n,f] w fun e w'=>e=.returned (.tuple #[])∧w=w':=by
 obtain rfl | rfl:n=0 ∨ n=1:=by omega
 all_goals
  simp only[Int.ofNat_zero,Int.ofNat_one,Int.natCast_zero,Int.natCast_one]
  go_enter Tryz.func200,Tryz.ntmps200
  go_wp2_with fail
  refine wp_loop_rounds 1 ?_
  rw[rounds_succ]
  go_wp2_with fail
  go_end0
  exact⟨rfl,rfl⟩
theorem PdqC (A:Option Addr) (n c:Nat) (m:Int) (f:Value) (hn:n≤1) (w:World):Calls Tryz.prog 173 #[.slice A n c,.int .i64 0,.int .i64 n,.int .i64 m,f] w fun e w'=>e=.returned (.tuple #[])∧w=w':=by
 obtain rfl | rfl:n=0 ∨ n=1:=by omega
 all_goals
  simp only[Int.ofNat_zero,Int.ofNat_one,Int.natCast_zero,Int.natCast_one]
 ·have HI:=Hd (InsC A 0 c f (by omega) w)
  simp only[Int.ofNat_zero,Int.natCast_zero] at HI
  go_enter Tryz.func173,Tryz.ntmps173
  go_wp2_with fail
  refine wp_loop_rounds 1 ?_
  rw[rounds_succ]
  go_wp2_with ((go_at_call 200;(with_reducible refine HI.out.mono ?_);rintro e w1 ⟨rfl,rfl⟩))
  try simp only[Exit.inBlock,Exit.then]
  refine bodyPost_ret (results_none rfl _ _ _) rfl ?_
  exact⟨rfl,rfl⟩
 ·have HI:=Hd (InsC A 1 c f (by omega) w)
  simp only[Int.ofNat_one,Int.natCast_one] at HI
  go_enter Tryz.func173,Tryz.ntmps173
  go_wp2_with fail
  refine wp_loop_rounds 1 ?_
  rw[rounds_succ]
  go_wp2_with ((go_at_call 200;(with_reducible refine HI.out.mono ?_);rintro e w1 ⟨rfl,rfl⟩))
  try simp only[Exit.inBlock,Exit.then]
  refine bodyPost_ret (results_none rfl _ _ _) rfl ?_
  exact⟨rfl,rfl⟩
theorem SortC (A:Option Addr) (n c:Nat) (f:Value) (hn:n≤1) (w:World):Calls Tryz.prog 128 #[.slice A n c,f] w fun e w'=>e=.returned (.tuple #[])∧w=w':=by
 obtain rfl | rfl:n=0 ∨ n=1:=by omega
 ·have HB:=Hd (Tryz.bits_Len 0 w (by omega) (by omega))
  have HP:=Hd (fun m=>PdqC A 0 c m f (by omega) w)
  simp only[Int.ofNat_zero,Int.natCast_zero] at HP
  go_enter Tryz.func128,Tryz.ntmps128
  go_wp2_with (first
   | (go_at_call 172;(with_reducible refine HB.out.mono ?_);rintro e w1 ⟨rfl,rfl⟩)
   | (go_at_call 173;(with_reducible refine (HP.out _).mono ?_);rintro e w1 ⟨rfl,rfl⟩))
  go_end0
  exact⟨rfl,rfl⟩
 ·have HB:=Hd (Tryz.bits_Len 1 w (by omega) (by omega))
  have HP:=Hd (fun m=>PdqC A 1 c m f (by omega) w)
  simp only[Int.ofNat_one,Int.natCast_one] at HP
  go_enter Tryz.func128,Tryz.ntmps128
  go_wp2_with (first
   | (go_at_call 172;(with_reducible refine HB.out.mono ?_);rintro e w1 ⟨rfl,rfl⟩)
   | (go_at_call 173;(with_reducible refine (HP.out _).mono ?_);rintro e w1 ⟨rfl,rfl⟩))
  go_end0
  exact⟨rfl,rfl⟩
theorem InsL (A:Option Addr) (n c:Nat) (f:Value) (hn:n≤1) (w:World):Calls Tryz.prog 208 #[.slice A n c,.int .i64 0,.int .i64 n,f] w fun e w'=>e=.returned (.tuple #[])∧w=w':=by
 obtain rfl | rfl:n=0 ∨ n=1:=by omega
 all_goals
  simp only[Int.ofNat_zero,Int.ofNat_one,Int.natCast_zero,Int.natCast_one]
  go_enter Tryz.func208,Tryz.ntmps208
  go_wp2_with fail
  refine wp_loop_rounds 1 ?_
  rw[rounds_succ]
  go_wp2_with fail
  go_end0
  exact⟨rfl,rfl⟩
theorem PdqL (A:Option Addr) (n c:Nat) (m:Int) (f:Value) (hn:n≤1) (w:World):Calls Tryz.prog 174 #[.slice A n c,.int .i64 0,.int .i64 n,.int .i64 m,f] w fun e w'=>e=.returned (.tuple #[])∧w=w':=by
 obtain rfl | rfl:n=0 ∨ n=1:=by omega
 all_goals
  simp only[Int.ofNat_zero,Int.ofNat_one,Int.natCast_zero,Int.natCast_one]
 ·have HI:=Hd (InsL A 0 c f (by omega) w)
  simp only[Int.ofNat_zero,Int.natCast_zero] at HI
  go_enter Tryz.func174,Tryz.ntmps174
  go_wp2_with fail
  refine wp_loop_rounds 1 ?_
  rw[rounds_succ]
  go_wp2_with ((go_at_call 208;(with_reducible refine HI.out.mono ?_);rintro e w1 ⟨rfl,rfl⟩))
  try simp only[Exit.inBlock,Exit.then]
  refine bodyPost_ret (results_none rfl _ _ _) rfl ?_
  exact⟨rfl,rfl⟩
 ·have HI:=Hd (InsL A 1 c f (by omega) w)
  simp only[Int.ofNat_one,Int.natCast_one] at HI
  go_enter Tryz.func174,Tryz.ntmps174
  go_wp2_with fail
  refine wp_loop_rounds 1 ?_
  rw[rounds_succ]
  go_wp2_with ((go_at_call 208;(with_reducible refine HI.out.mono ?_);rintro e w1 ⟨rfl,rfl⟩))
  try simp only[Exit.inBlock,Exit.then]
  refine bodyPost_ret (results_none rfl _ _ _) rfl ?_
  exact⟨rfl,rfl⟩
theorem SortL (A:Option Addr) (n c:Nat) (f:Value) (hn:n≤1) (w:World):Calls Tryz.prog 130 #[.slice A n c,f] w fun e w'=>e=.returned (.tuple #[])∧w=w':=by
 obtain rfl | rfl:n=0 ∨ n=1:=by omega
 ·have HB:=Hd (Tryz.bits_Len 0 w (by omega) (by omega))
  have HP:=Hd (fun m=>PdqL A 0 c m f (by omega) w)
  simp only[Int.ofNat_zero,Int.natCast_zero] at HP
  go_enter Tryz.func130,Tryz.ntmps130
  go_wp2_with (first
   | (go_at_call 172;(with_reducible refine HB.out.mono ?_);rintro e w1 ⟨rfl,rfl⟩)
   | (go_at_call 174;(with_reducible refine (HP.out _).mono ?_);rintro e w1 ⟨rfl,rfl⟩))
  go_end0
  exact⟨rfl,rfl⟩
 ·have HB:=Hd (Tryz.bits_Len 1 w (by omega) (by omega))
  have HP:=Hd (fun m=>PdqL A 1 c m f (by omega) w)
  simp only[Int.ofNat_one,Int.natCast_one] at HP
  go_enter Tryz.func130,Tryz.ntmps130
  go_wp2_with (first
   | (go_at_call 172;(with_reducible refine HB.out.mono ?_);rintro e w1 ⟨rfl,rfl⟩)
   | (go_at_call 174;(with_reducible refine (HP.out _).mono ?_);rintro e w1 ⟨rfl,rfl⟩))
  go_end0
  exact⟨rfl,rfl⟩
end Go.Proofs.YtlpmiimgacfmkaaGreatDoor
