/- logtree: the steps up from any leaf. -/
import Derived.Test.YtlpmiimgacfmkaaGreatDoorMTr5
import Derived.Test.YtlpmiimgacfmkaaGreatDoorMMb
set_option linter.all false
namespace Go.Proofs.YtlpmiimgacfmkaaGreatDoor
open Go.Proofs.Tryz
open Go.RowKit Go.Shelf
set_option maxRecDepth 100000
set_option maxHeartbeats 1000000
attribute [local go_sem] Oper.semAt_some
def bl (x n:Nat):List Bool :=
 if h:n<=1 \/ 1048576<n then [] else if x<leftS n then bl x (leftS n)++[true] else bl (x - leftS n) (n - leftS n)++[false]
termination_by n
decreasing_by
 all_goals have:=leftS_spec (n:=n) (by omega) (by omega);omega
theorem bl_one (x:Nat):bl x 1=[]:=by rw[bl,dif_pos (by omega)]
theorem bl_two (x n:Nat) (h1:2<=n) (h2:n<=1048576):bl x n=if x<leftS n then bl x (leftS n)++[true] else bl (x - leftS n) (n - leftS n)++[false]:=by rw[bl,dif_neg (by omega)]
theorem climb_Lt (m l x n k:Nat) (W:World) (R R':World->Prop) (hn:2<=n) (hn2:n<=1048576) (hk:leftS n=k) (hx:x<k) (hrec:∀ m,CallsIn Fence.wide m prog 259 #[.int .i64 (x:Int),.int .i64 (k:Int),.func (.yield l) #[] #[]] W (Tru R))
 (hy:∀ W,R W->YieldAt Fence.wide 0 prog l #[.bool true] W (Tru R')):CallsIn Fence.wide m prog 259 #[.int .i64 (x:Int),.int .i64 (n:Int),.func (.yield l) #[] #[]] W (Tru R'):=by
 have hL:=leftSize_any n (by omega) (by omega) W;rw[hk] at hL;have HL:=Hd hL;have HR:=Hd hrec;have HY:=Hd hy;have hn1:((n:Int) == 1)=false:=by simp;omega
 have hxk:(x:Int)<(k:Int):=by omega
 have hxd:decide (x<k)=true:=by simpa using hx
 clear hL hrec hy hk;refine callsIn_of_wp func259 rfl trivial ?_ rfl;simp only[ntmps259,List.size_toArray,List.length_cons,List.length_nil,Nat.reduceAdd,Nat.reduceSub,Array.replicate_succ,Array.replicate_zero,List.push_toArray,List.append_toArray,List.nil_append,List.cons_append]
 gi_wp2_with (first
  | (refine⟨trivial,fun h=>absurd h (by simp[Fence.wide]),?_⟩;(with_reducible refine (callsIn_wide.2 HL.out).mono ?_);rintro e w1 ⟨rfl,rfl⟩)
  | (refine⟨trivial,fun h=>absurd h (by simp[Fence.wide]),?_⟩;(with_reducible refine (HR.out _).mono ?_);rintro e w1 ⟨rfl,h1⟩;obtain⟨fn,tmps,assign,body,hyy,hRR⟩:=yieldAt_wide (m':=m - 1) (HY.out _ h1);have HRR:=Hd hRR;clear h1 hRR))
 refine⟨fun h=>absurd h (by simp[Fence.wide]),HRR.out.mono ?_⟩;rintro e W2 ⟨rfl,h2⟩;have H2:=Hd h2;clear h2
 gi_wp2_with fail
 go_ret
 exact⟨rfl,H2.out⟩
theorem climb_Rt (m l x n k y r:Nat) (W:World) (R R':World->Prop) (hn:2<=n) (hn2:n<=1048576) (hk:leftS n=k) (hx:x<n) (hxk:k<=x) (hyx:x - k=y) (hrn:n - k=r) (hrec:∀ m,CallsIn Fence.wide m prog 259 #[.int .i64 (y:Int),.int .i64 (r:Int),.func (.yield l) #[] #[]] W (Tru R))
 (hy:∀ W,R W->YieldAt Fence.wide 0 prog l #[.bool false] W (Tru R')):CallsIn Fence.wide m prog 259 #[.int .i64 (x:Int),.int .i64 (n:Int),.func (.yield l) #[] #[]] W (Tru R'):=by
 have hL:=leftSize_any n (by omega) (by omega) W;rw[hk] at hL;have HL:=Hd hL;have HR:=Hd hrec;have HY:=Hd hy;have hn1:((n:Int) == 1)=false:=by simp;omega
 have hxk2:¬ (x:Int)<(k:Int):=by omega
 have hxd:decide (x<k)=false:=by simp;omega
 have hw1:IntKind.i64.wrap ((x:Int) - (k:Int))=(y:Int):=by simp[IntKind.wrap,IntKind.bits,IntKind.signed];omega
 have hw2:IntKind.i64.wrap ((n:Int) - (k:Int))=(r:Int):=by simp[IntKind.wrap,IntKind.bits,IntKind.signed];omega
 clear hL hrec hy hk;refine callsIn_of_wp func259 rfl trivial ?_ rfl;simp only[ntmps259,List.size_toArray,List.length_cons,List.length_nil,Nat.reduceAdd,Nat.reduceSub,Array.replicate_succ,Array.replicate_zero,List.push_toArray,List.append_toArray,List.nil_append,List.cons_append]
 gi_wp2_with (first
  | (refine⟨trivial,fun h=>absurd h (by simp[Fence.wide]),?_⟩;(with_reducible refine (callsIn_wide.2 HL.out).mono ?_);rintro e w1 ⟨rfl,rfl⟩)
  | (refine⟨trivial,fun h=>absurd h (by simp[Fence.wide]),?_⟩;(with_reducible refine (HR.out _).mono ?_);rintro e w1 ⟨rfl,h1⟩;obtain⟨fn,tmps,assign,body,hyy,hRR⟩:=yieldAt_wide (m':=m - 1) (HY.out _ h1);have HRR:=Hd hRR;clear h1 hRR))
 refine⟨fun h=>absurd h (by simp[Fence.wide]),HRR.out.mono ?_⟩;rintro e W2 ⟨rfl,h2⟩;have H2:=Hd h2;clear h2
 gi_wp2_with fail
 go_ret
 exact⟨rfl,H2.out⟩
theorem climb_g (l:Nat):∀ (n x:Nat) (m:Nat) (W:World) (R:Nat->World->Prop),1<=n->n<=1048576->x<n->R 0 W ->
 (∀ (j:Nat) (b:Bool) (W1:World),(bl x n)[j]?=some b->R j W1->YieldAt Fence.wide 0 prog l #[.bool b] W1 (Tru (R (j+1)))) ->
 CallsIn Fence.wide m prog 259 #[.int .i64 (x:Int),.int .i64 (n:Int),.func (.yield l) #[] #[]] W (Tru (R (bl x n).length)):=by
 intro n
 induction n using Nat.strongRecOn with
 | ind n ih =>
  intro x m W R h1 h2 hx h0 hy
  rcases Nat.eq_or_lt_of_le h1 with rfl | h3
  ·rw[bl_one]
   exact climb_one m _ _ W (R 0) h0
  ·have hs:=leftS_spec (n:=n) h3 h2
   rw[bl_two x n h3 h2] at hy ⊢
   by_cases hlt:x<leftS n
   ·rw[if_pos hlt] at hy ⊢
    rw[lla];refine climb_Lt m l x n (leftS n) W (R (bl x (leftS n)).length) _ h3 h2 rfl hlt (fun m2=>ih (leftS n) (by omega) x m2 W R hs.1 (by omega) hlt h0 (fun j b W1 hb hR=>hy j b W1 ?_ hR)) (fun W1 hR=>hy _ true W1 ?_ hR)
    ·rw[List.getElem?_append_left (lgs.1 hb).1];exact hb
    ·rw[List.getElem?_append_right (nlr _),Nat.sub_self];rfl
   ·rw[if_neg hlt] at hy ⊢
    rw[lla];refine climb_Rt m l x n (leftS n) (x - leftS n) (n - leftS n) W (R (bl (x - leftS n) (n - leftS n)).length) _ h3 h2 rfl hx (by omega) rfl rfl (fun m2=>ih (n - leftS n) (by omega) (x - leftS n) m2 W R (by omega) (by omega) (by omega) h0 (fun j b W1 hb hR=>hy j b W1 ?_ hR)) (fun W1 hR=>hy _ false W1 ?_ hR)
    ·rw[List.getElem?_append_left (lgs.1 hb).1];exact hb
    ·rw[List.getElem?_append_right (nlr _),Nat.sub_self];rfl
theorem seq_g (n B0 B1 i nn:Nat) (w:World) (hi:i<nn) (hnn:nn<=1048576) (h0:BoxN w B0 3 #[.int .i64 (i:Int)]) (h1:BoxN w B1 3 #[.int .i64 (nn:Int)]) (l:Nat) (J:Nat->World->Prop) (W:World) (hW:Fr [] w W)
 (hy:∀ k x W1,(bl i nn)[k]?=some x->J k W1->YieldAt Fence.wide (n - 1) prog l #[.bool x] W1 fun e W'=>e=.returned (.bool true)/\J (k+1) W') (hJ:J 0 W) :
 CallsIn Fence.wide n prog 258 (#[.func (.yield l) #[] #[]]++#[.pointer (some ⟨B0,0,none⟩),.pointer (some ⟨B1,0,none⟩)]) W fun e W'=>(∃ v,e=.returned v)/\J (bl i nn).length W':=by
 have x0:W.cell? ⟨B0,0,none⟩=some (.int .i64 (i:Int)):=(h0.fr hW (by simp)).c 0;have x1:W.cell? ⟨B1,0,none⟩=some (.int .i64 (nn:Int)):=(h1.fr hW (by simp)).c 0
 have HC:Hid (∀ m,CallsIn Fence.wide m prog 259 #[.int .i64 (i:Int),.int .i64 (nn:Int),.func (.yield l) #[] #[]] W (Tru (J (bl i nn).length))):=Hd (fun m =>
  climb_g l nn i m W J (by omega) hnn hi hJ (fun j b W1 hb hR=>yieldAt_wide (hy j b W1 hb hR)))
 clear h0 h1 hy hJ hW
 show CallsIn Fence.wide n prog 258 #[.func (.yield l) #[] #[],.pointer (some ⟨B0,0,none⟩),.pointer (some ⟨B1,0,none⟩)] W _
 refine callsIn_of_wp func258 rfl trivial ?_ rfl;simp only[ntmps258,List.size_toArray,List.length_cons,List.length_nil,Nat.reduceAdd,Nat.reduceSub,Array.replicate_succ,Array.replicate_zero,List.push_toArray,List.append_toArray,List.nil_append,List.cons_append]
 gi_wp2_with (refine⟨trivial,fun h=>absurd h (by simp[Fence.wide]),?_⟩;(with_reducible refine (HC.out _).mono ?_);rintro e w1 ⟨rfl,h1⟩)
 go_end0
 exact⟨⟨_,rfl⟩,h1⟩
end Go.Proofs.YtlpmiimgacfmkaaGreatDoor
