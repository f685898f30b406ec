/- taint: backwards over the versions of the second port. -/
import Derived.Test.YtlpmiimgacfmkaaGreatDoorRVe3
import Derived.Test.YtlpmiimgacfmkaaGreatDoorRLin2
import Derived.Test.YtlpmiimgacfmkaaGreatDoorRPf1
set_option linter.all false
namespace Go.Proofs.YtlpmiimgacfmkaaGreatDoor
open Go.RowKit Go.Shelf
set_option maxRecDepth 100000
set_option maxHeartbeats 1000000
attribute [local go_sem] Oper.semAt_some
def ver1:Value:=.agg #[.int .i64 1,.string ⟨#[121,122]⟩,.bool false]
def ver0:Value:=.agg #[.int .i64 (-1),.string ⟨#[]⟩,.bool true]
theorem Backward_any (g c:Nat) (w:World):Calls Tryz.prog 161 #[.slice (some ⟨g,0,none⟩) 2 c] w fun e w'=>e=.returned (.func (.func 191) #[] #[.pointer (some ⟨w.heap.size,0,none⟩)])∧w'=w.alloc (.cells #[.slice (some ⟨g,0,none⟩) 2 c] 280):=by
 go_enter Tryz.func161,Tryz.ntmps161
 go_wp2_with fail
 go_ret
 exact⟨rfl,rfl⟩
theorem bw_seq (n l B g c:Nat) (W:World) (T:List Nat) (hB:BoxN W B 280 #[.slice (some ⟨g,0,none⟩) 2 c]) (hg:Cs W g verC) (hBT:B ∉ T) (hgT:g ∉ T) (J:Nat→World→Prop)
 (hy:∀ k (x:Int × Value) W1,[((1:Int),ver1),(0,ver0)][k]?=some x→J k W1→YieldAt Fence.wide (n - 1) Tryz.prog l #[.int .i64 x.1,x.2] W1 fun e W'=>(k+1<2→e=.returned (.bool true))∧(k+1=2→e=.returned (.bool false))∧J (k+1) W'∧Fr T W1 W') (hJ:J 0 W) :
 CallsIn Fence.wide n Tryz.prog 191 #[.func (.yield l) #[] #[],.pointer (some ⟨B,0,none⟩)] W fun e W'=>(∃ v,e=.returned v)∧J 2 W':=by
 have x0:=hB.k0
 have z3:=hg.k3
 have z4:=hg.k4
 have z5:=hg.k5
 obtain⟨fn,tmps,assign,body,hyy,hRR⟩:=yieldAt_wide (m':=n - 1) (hy 0 _ W rfl hJ)
 have hyy2:(Instr.yield l #[.int .i64 1,.agg #[.int .i64 1,.string ⟨#[121,122]⟩,.bool false]]).run Tryz.prog W=.ok (.round l fn tmps assign body) W:=hyy
 have HRR:=Hd hRR
 have HY:=Hd hy
 have HB:=Hd hB
 have HG:=Hd hg
 have HT:=Hd (And.intro hBT hgT)
 clear hRR hyy hy hB hg hBT hgT hJ
 refine callsIn_of_wp Tryz.func191 rfl trivial ?_ rfl
 simp only[Tryz.ntmps191,List.size_toArray,List.length_cons,List.length_nil,Nat.reduceAdd,Nat.reduceSub,Array.replicate_succ,Array.replicate_zero,List.push_toArray,List.append_toArray,List.nil_append,List.cons_append]
 gi_wp2_with fail
 refine wpIn_loop_rounds 2 ?_
 rw[roundsIn_succ]
 gi_wp2_with fail
 refine⟨fun h=>absurd h (by simp[Fence.wide]),HRR.out.mono ?_⟩
 clear hyy2 HRR x0 z3 z4 z5
 rintro e W2 ⟨h1,_,h3,h4⟩
 obtain rfl:=h1 (by decide)
 clear h1
 have hB2:=HB.out.fr h4 HT.out.1
 have hG2:=HG.out.fr h4 HT.out.2
 have x0:=hB2.k0
 obtain⟨z0,z1,z2⟩:=hG2.m3
 obtain⟨fn2,tmps2,assign2,body2,hyy,hRR⟩:=yieldAt_wide (m':=n - 1) (HY.out 1 _ W2 rfl h3)
 have hyy2:(Instr.yield l #[.int .i64 0,.agg #[.int .i64 (-1),.string ⟨#[]⟩,.bool true]]).run Tryz.prog W2=.ok (.round l fn2 tmps2 assign2 body2) W2:=hyy
 have HRR:=Hd hRR
 clear hRR hyy hB2 hG2 h3 h4
 gi_wp2_with fail
 rw[roundsIn_succ]
 gi_wp2_with fail
 refine⟨fun h=>absurd h (by simp[Fence.wide]),HRR.out.mono ?_⟩
 clear hyy2 HRR x0 z0 z1 z2
 rintro e W3 ⟨_,h2,h3,_⟩
 obtain rfl:=h2 (by decide)
 have H3:=Hd h3
 clear h2 h3
 gi_wp2_with fail
 refine bodyPost_ret (results_none rfl _ _ _) rfl ?_
 exact⟨⟨_,rfl⟩,H3.out⟩
theorem backwards_any (b:Nat) (i ix:Int) (w:World):Calls Tryz.prog 100 #[.pointer (some ⟨b,0,none⟩),portV i,.int .i64 ix] w fun e w'=>e=.returned (.func (.func 160) #[] #[.pointer (some ⟨w.heap.size,0,none⟩),.pointer (some ⟨w.heap.size+1,0,none⟩),.pointer (some ⟨w.heap.size+2,0,none⟩)]) ∧
 BoxN w' w.heap.size 106 #[.pointer (some ⟨b,0,none⟩)]∧BoxN w' (w.heap.size+1) 31 #[.int .i64 16,.string ⟨#[]⟩,.int .i64 i,.int .i64 0,.string ⟨#[]⟩]∧BoxN w' (w.heap.size+2) 3 #[.int .i64 ix]∧Fr [] w w'∧w'.heap.size=w.heap.size+3:=by
 unfold portV
 go_enter Tryz.func100,Tryz.ntmps100
 go_wp2_with fail
 go_ret
 have h1:=BoxN.new w 106 #[.pointer (some ⟨b,0,none⟩)]
 have h2:=BoxN.new (w.alloc (.cells #[.pointer (some ⟨b,0,none⟩)] 106)) 31 #[.int .i64 16,.string ⟨#[]⟩,.int .i64 i,.int .i64 0,.string ⟨#[]⟩]
 have h3:=BoxN.new ((w.alloc (.cells #[.pointer (some ⟨b,0,none⟩)] 106)).alloc (.cells #[.int .i64 16,.string ⟨#[]⟩,.int .i64 i,.int .i64 0,.string ⟨#[]⟩] 31)) 3 #[.int .i64 ix]
 rw[World.size_alloc] at h2
 rw[World.size_alloc,World.size_alloc] at h3
 refine⟨by simp,(h1.alloc _).alloc _,h2.alloc _,h3,(((Fr.refl [] w).alloc _).alloc _).alloc _,by simp⟩
end Go.Proofs.YtlpmiimgacfmkaaGreatDoor
namespace Go.Proofs.YtlpmiimgacfmkaaGreatDoor
open Go.RowKit Go.Shelf
set_option maxRecDepth 100000
set_option maxHeartbeats 4000000
attribute [local go_sem] Oper.semAt_some
theorem RoundIn.inRound {n m r:Nat} {P:Program} {l f:Nat} {tmps:Array Value} {assign body:Code} {w:World} {R:Ending→World→Prop} (h:RoundIn Fence.wide n P l f tmps assign body w R):RoundIn (Fence.wide.inRound r) m P l f tmps assign body w R :=
 ⟨trivial,fun c cs _=>h.2 c cs (room_wide _)⟩
theorem bws_seq (n l B1 B2 B3 b:Nat) (W:World) (T:List Nat) (hT:∀ q∈T,q<W.heap.size) (h1:BoxN W B1 106 #[.pointer (some ⟨b,0,none⟩)]) (h2:BoxN W B2 31 #[.int .i64 16,.string ⟨#[]⟩,.int .i64 2,.int .i64 0,.string ⟨#[]⟩]) (h3:BoxN W B3 3 #[.int .i64 3]) (hB3:B3 ∉ T) (hv:VerDone W b)
 (J : Nat → World → Prop) (hJ : ∀ k W' W'' S, J k W' → Fr S W' W'' → (∀ q ∈ S, W.heap.size ≤ q) → J k W'')
 (hy:∀ k (x:Value) W1,[ver1,ver0][k]?=some x→J k W1→YieldAt Fence.wide (n - 1) Tryz.prog l #[x] W1 fun e W'=>(k+1<2→e=.returned (.bool true))∧(k+1=2→e=.returned (.bool false))∧J (k+1) W'∧Fr T W1 W') (hJ0:J 0 W) :
 CallsIn Fence.wide n Tryz.prog 160 #[.func (.yield l) #[] #[],.pointer (some ⟨B1,0,none⟩),.pointer (some ⟨B2,0,none⟩),.pointer (some ⟨B3,0,none⟩)] W fun e W'=>(∃ v,e=.returned v)∧J 2 W':=by
 obtain⟨w1,hw1,hb4,hf1⟩:=bxn W #[.func (.yield l) #[] #[]] 281
 have k1:=h1.fr hf1 (by simp)
 have k2:=h2.fr hf1 (by simp)
 have x1:=k1.k0
 obtain⟨y0,y1,y2,y3,y4⟩:=k2.m5
 have hOf:=OfV_any b w1 (hv.fr0 hf1)
 unfold portV at hOf
 have HOF:=Hd hOf
 have HB4:=Hd hb4
 have HF1:=Hd hf1
 have HW1:=Hd hw1
 have HB3:=Hd (And.intro h3 hB3)
 have HJ:=Hd hJ
 have HY:=Hd hy
 have HJ0:=Hd hJ0
 have HT:=Hd hT
 clear k1 k2 hOf hb4 hf1 hw1 h1 h2 h3 hB3 hv hJ hy hJ0 hT
 refine callsIn_of_wp_marks Tryz.func160 rfl trivial ?_ rfl
 simp only[Tryz.ntmps160,List.size_toArray,List.length_cons,List.length_nil,Nat.reduceAdd,Nat.reduceSub,Array.replicate_succ,Array.replicate_zero,List.push_toArray,List.append_toArray,List.nil_append,List.cons_append]
 refine wpIn_wide.2 ?_
 go_upto_region 1 with fail
 rw[HW1.out]
 go_wp2_with (first
  | (go_at_call 162;(with_reducible refine HOF.out.mono ?_);rintro e w2 ⟨g,c,rfl,hg,hf2,hgs⟩;have HG:=Hd hg;have HF2:=Hd hf2;have HGS:=Hd hgs;clear hg hf2 hgs)
  | (go_at_call 161;(with_reducible refine (Backward_any g c w2).mono ?_);rintro e w3 ⟨rfl,rfl⟩))
 obtain⟨w3,hw3,hb5,hf3⟩:=bxn w2 #[.slice (some ⟨g,0,none⟩) 2 c] 280
 have hz3:w3.heap.size=w2.heap.size+1:=by rw[←hw3];simp
 rw[hw3]
 clear hw3
 have hf13:=(HF1.out.then HF2.out).then hf3
 have hWs:W.heap.size<w3.heap.size:=by have:=HB4.out.lt;have:=(HF2.out.then hf3).size;omega
 have hG3:=HG.out.fr0 hf3
 have hgl:=HG.out.1
 have h0:J 0 w3∧BoxN w3 W.heap.size 281 #[.func (.yield l) #[] #[]]∧BoxN w3 B3 3 #[.int .i64 3]:=⟨HJ.out 0 W w3 [] HJ0.out hf13 (by simp),HB4.out.fr (HF2.out.then hf3) (by simp),HB3.out.1.fr hf13 (by simp)⟩
 have hB3l:=HB3.out.1.lt
 have hB4T:W.heap.size ∉ T:=fun hm=>by have:=HT.out _ hm;omega
 have hB5T:w2.heap.size ∉ T:=fun hm=>by have:=HT.out _ hm;omega
 have hgT:g ∉ T:=fun hm=>by have:=HT.out _ hm;have:=HGS.out;have:=HF1.out.size;omega
 have hB5T2:w2.heap.size ∉ w3.heap.size::(w3.heap.size+1)::T:=by simp only[List.mem_cons,not_or];exact⟨by omega,by omega,hB5T⟩
 have hgT2:g ∉ w3.heap.size::(w3.heap.size+1)::T:=by simp only[List.mem_cons,not_or];exact⟨by omega,by omega,hgT⟩
 have HB4T:=Hd (And.intro hB4T HB3.out.2)
 have HZ:=Hd (And.intro hWs (And.intro hz3 (And.intro hB3l hgl)))
 have HB5:=Hd hb5
 have HG3:=Hd hG3
 clear hWs hz3 hB3l hgl hb5 hG3 hf3 hf13 x1 y0 y1 y2 y3 y4 hgT hB5T
 refine wp_rangeFunc_ret (a:=?aa) 5 T (fun q hq=>by have:=HT.out q hq;have:=HZ.out;omega) [((1:Int),ver1),(0,ver0)] (fun x:Int × Value=>#[.int .i64 x.1,x.2]) (lb:=#[.pointer (some ⟨w2.heap.size,0,none⟩)]) ?_ (enters_of Tryz.func191 (by kernel_rfl) rfl) ?_
  (fun k W'=>J k W'∧BoxN W' W.heap.size 281 #[.func (.yield l) #[] #[]]∧BoxN W' B3 3 #[.int .i64 3])
  (fun k U U' S h hf hq=>⟨HJ.out k U U' S h.1 hf (fun q hm=>by have:=hq q hm;have:=HZ.out;omega),h.2.1.fr hf (fun hm=>by have:=hq _ hm;have:=HZ.out;omega),h.2.2.fr hf (fun hm=>by have:=hq _ hm;have:=HZ.out;omega)⟩) h0
  (fun l2 J2 U hU hUs hJ2 hy2 hJ20=>bw_seq 5 l2 w2.heap.size g c U (w3.heap.size::(w3.heap.size+1)::T) (HB5.out.fr hU (by simp)) (HG3.out.fr0 hU) hB5T2 hgT2 J2 hy2 hJ20)
  (fun k a' W'=>∃ B6,(∃ x:Int × Value,[((1:Int),ver1),(0,ver0)][k]?=some x∧a'={ tmps:=(((Act.tmps ?aa).setIfInBounds 11 (.int .i64 x.1)).setIfInBounds 12 x.2).setIfInBounds 6 (.pointer (some ⟨B6,0,none⟩)),defers:=[] }∧BoxN W' B6 201 x.2.cells)∧w3.heap.size+2≤B6∧(J k W'∧BoxN W' W.heap.size 281 #[.func (.yield l) #[] #[]]∧BoxN W' B3 3 #[.int .i64 3]))
  ?_ ?_ ?_ ?_ (by simp) ?_
 ·rfl
 ·intro x;rfl
 ·rintro k a' U U' ⟨B6,⟨x,hx,ha,hb⟩,hB6,hj,hb4,hb3⟩ hf
  exact⟨B6,⟨x,hx,ha,hb.fr hf (by simp;omega)⟩,hB6,HJ.out k U U' _ hj hf (by simp;have:=HZ.out;omega),hb4.fr hf (by simp;have:=HZ.out;omega),hb3.fr hf (by simp;have:=HZ.out;omega)⟩
 ·intro l2 k x U K hx hI hUs hK
  rcases k with _ | _ | k
  ·simp only[List.getElem?_cons_zero,Option.some.injEq] at hx
   subst hx
   unfold ver1
   gi_wp2_with fail
   refine hK _ _ ((Fr.refl [] U).alloc _) ⟨U.heap.size,⟨_,rfl,rfl,BoxN.new U _ _⟩,hUs,HJ.out 0 U _ [] hI.1 ((Fr.refl [] U).alloc _) (by simp),hI.2.1.alloc _,hI.2.2.alloc _⟩
  ·simp only[List.getElem?_cons_zero,List.getElem?_cons_succ,Option.some.injEq] at hx
   subst hx
   unfold ver0
   gi_wp2_with fail
   refine hK _ _ ((Fr.refl [] U).alloc _) ⟨U.heap.size,⟨_,rfl,rfl,BoxN.new U _ _⟩,hUs,HJ.out 1 U _ [] hI.1 ((Fr.refl [] U).alloc _) (by simp),hI.2.1.alloc _,hI.2.2.alloc _⟩
  ·simp at hx
 ·intro l2 k x a' U hx hk hA hUs
  obtain⟨B6,⟨x',hx',rfl,hb6⟩,hB6,hj,hb4,hb3⟩:=hA
  obtain rfl:k=0:=by simp at hk;omega
  simp only[List.getElem?_cons_zero,Option.some.injEq] at hx hx'
  subst hx'
  subst hx
  simp only[qA,qB,qC]
  obtain⟨t0,t1,t2⟩:=hb6.m3
  have t3:=hb3.k0
  have t4:=hb4.k0
  obtain⟨fn,tmps,assign,body,hyy,hRR⟩:=HY.out 0 ver1 U rfl hj
  have hyy2:(Instr.yield l #[.agg #[.int .i64 (1),.string ⟨#[121,122]⟩,.bool false]]).run Tryz.prog U=.ok (.round l fn tmps assign body) U:=hyy
  have HRR:=Hd hRR
  have HBB:=Hd (And.intro hb4 hb3)
  clear hyy hRR hb4 hb3 hb6 hj hB6 hk hUs
  unfold ver1
  gi_wp2_with fail
  refine (RoundIn.inRound HRR.out).mono ?_
  rintro e U2 ⟨h1,_,h3,h4⟩
  obtain rfl:=h1 (by decide)
  have hbb:=HBB.out
  have HE:=Hd (And.intro h3 (And.intro (And.intro (hbb.1.fr h4 HB4T.out.1) (hbb.2.fr h4 HB4T.out.2)) h4))
  clear h1 h3 h4 hbb HRR HBB hyy2 t0 t1 t2 t3 t4
  gi_wp2_with fail
  exact⟨⟨HE.out.1,HE.out.2.1.1,HE.out.2.1.2⟩,HE.out.2.2⟩
 ·intro l2 k x a' U hx hk hA hUs
  obtain⟨B6,⟨x',hx',rfl,hb6⟩,hB6,hj,hb4,hb3⟩:=hA
  obtain rfl:k=1:=by simp at hk;omega
  simp only[List.getElem?_cons_zero,List.getElem?_cons_succ,Option.some.injEq] at hx hx'
  subst hx'
  subst hx
  simp only[qA,qB,qC]
  obtain⟨t0,t1,t2⟩:=hb6.m3
  have t3:=hb3.k0
  have t4:=hb4.k0
  obtain⟨fn,tmps,assign,body,hyy,hRR⟩:=HY.out 1 ver0 U rfl hj
  have hyy2:(Instr.yield l #[.agg #[.int .i64 (-1),.string ⟨#[]⟩,.bool true]]).run Tryz.prog U=.ok (.round l fn tmps assign body) U:=hyy
  have HRR:=Hd hRR
  have HBB:=Hd (And.intro hb4 hb3)
  clear hyy hRR hb4 hb3 hb6 hj hB6 hk hUs
  unfold ver0
  gi_wp2_with fail
  refine (RoundIn.inRound HRR.out).mono ?_
  rintro e U2 ⟨_,h2,h3,h4⟩
  obtain rfl:=h2 (by decide)
  have hbb:=HBB.out
  have HE:=Hd (And.intro h3 (And.intro (And.intro (hbb.1.fr h4 HB4T.out.1) (hbb.2.fr h4 HB4T.out.2)) h4))
  clear h2 h3 h4 hbb HRR HBB hyy2 t0 t1 t2 t3 t4
  gi_wp2_with fail
  exact⟨⟨HE.out.1,HE.out.2.1.1,HE.out.2.1.2⟩,HE.out.2.2⟩
 ·intro D U hD hI hK
  have HJ2:=Hd hI.1
  have HK:=Hd hK
  have HDD:=Hd hD
  clear hI hK hD
  go_wp2_with fail
  refine⟨by simp,.inl ⟨_,_,rfl,run_takeDeferred HK.out,?_⟩⟩
  refine⟨_,results_none rfl _ _ _,⟨_,rfl⟩,?_⟩
  exact HJ.out 2 U _ [D] HJ2.out (fr_putObj _ (Fr.refl _ _) (.inl (by simp))) (by simp;have:=HZ.out;have:=HDD.out;omega)
end Go.Proofs.YtlpmiimgacfmkaaGreatDoor
namespace Go.Proofs.YtlpmiimgacfmkaaGreatDoor
open Go.RowKit Go.Shelf
set_option maxRecDepth 100000
set_option maxHeartbeats 4000000
attribute [local go_sem] Oper.semAt_some
def placeC:Array Value:=#[.int .i64 16,.string ⟨#[]⟩,.int .i64 2,.int .i64 0,.string ⟨#[]⟩,.int .i64 1]
structure OSt (w W:World) (B4 B8 B9 B10:Nat) (k:Nat):Prop where
 fr:Fr [] w W
 pl:BoxN W B4 33 placeC
 or:BoxN W B8 3 #[.int .i64 (if k=0 then 0 else 1)]
 fd:BoxN W B9 4 #[.bool (decide (k≠0))]
 va:BoxN W B10 5 #[.int .u8 (if k=0 then 0 else 122)]
theorem OSt.frS {w W W':World} {B4 B8 B9 B10 k:Nat} {S:List Nat} (h:OSt w W B4 B8 B9 B10 k) (hf:Fr S W W') (hS:∀ q∈S,w.heap.size≤q) (h4:B4 ∉ S) (h8:B8 ∉ S) (h9:B9 ∉ S) (h10:B10 ∉ S):OSt w W' B4 B8 B9 B10 k :=
 ⟨h.fr.trans hf (fun q hq=>.inr (hS q hq)),h.pl.fr hf h4,h.or.fr hf h8,h.fd.fr hf h9,h.va.fr hf h10⟩
theorem Origin_any (b:Nat) (w:World) (hv:VerDone w b):Calls Tryz.prog 44 #[.pointer (some ⟨b,0,none⟩),.agg placeC,.int .i64 3] w fun e w'=>e=.returned (.tuple #[.int .i64 1,.int .i64 0])∧Fr [] w w':=by
 obtain⟨w1,hw1,hb4,hf1⟩:=bxn w (placeC) 33
 obtain⟨y0,y1,y2,y3,y4,y5⟩:=hb4.m6
 have HLN:=Hd (LenV_any b w1 (hv.fr0 hf1))
 have HV:=Hd hv
 have HB4:=Hd hb4
 have HF1:=Hd hf1
 have HW1:=Hd hw1
 unfold placeC at HW1 ⊢
 clear hw1 hb4 hf1 hv
 refine (callsIn_wide (n:=5)).1 ?_
 refine callsIn_of_wp_marks Tryz.func44 rfl trivial ?_ rfl
 simp only[Tryz.ntmps44,List.size_toArray,List.length_cons,List.length_nil,Nat.reduceAdd,Nat.reduceSub,Array.replicate_succ,Array.replicate_zero,List.push_toArray,List.append_toArray,List.nil_append,List.cons_append]
 refine wpIn_wide.2 ?_
 go_upto_region 1 with fail
 rw[HW1.out]
 go_upto_region 7 with ((go_at_call 99;(with_reducible refine HLN.out.mono ?_);rintro e w2 ⟨rfl,rfl⟩))
 obtain⟨w4,hw4⟩:=nmd (((w1.alloc (.cells #[.int .i64 0] 3)).alloc (.cells #[.bool false] 4)).alloc (.cells #[.int .u8 0] 5))
 have hb8:BoxN w4 w1.heap.size 3 #[.int .i64 0]:=by rw[←hw4];exact ((BoxN.new w1 _ _).alloc _).alloc _
 have hb9:BoxN w4 (w1.heap.size+1) 4 #[.bool false]:=by
  rw[←hw4]
  have h:=(BoxN.new (w1.alloc (.cells #[.int .i64 0] 3)) 4 #[.bool false]).alloc (.cells #[.int .u8 0] 5)
  rwa [World.size_alloc] at h
 have hb10:BoxN w4 (w1.heap.size+1+1) 5 #[.int .u8 0]:=by
  rw[←hw4]
  have h:=BoxN.new ((w1.alloc (.cells #[.int .i64 0] 3)).alloc (.cells #[.bool false] 4)) 5 #[.int .u8 0]
  rwa [World.size_alloc,World.size_alloc] at h
 have hf4:Fr [] w1 w4:=by rw[←hw4];exact (((Fr.refl [] w1).alloc _).alloc _).alloc _
 have hz4:w4.heap.size=w1.heap.size+3:=by rw[←hw4];simp
 rw[hw4]
 clear hw4 y0 y1 y2 y3 y4 y5
 have hb4:=HB4.out.fr hf4 (by simp)
 obtain⟨y0,y1,y2,y3,y4⟩:=hb4.m5
 have hzz:=HB4.out.lt
 obtain⟨B8,hB8⟩:=nmd (w1.heap.size)
 rw[hB8] at hb8 hb9 hb10 hz4 hzz ⊢
 have HBS:=Hd (And.intro hb4 (And.intro hb8 (And.intro hb9 hb10)))
 have HZ4:=Hd (And.intro hz4 hzz)
 have HF4:=Hd (HF1.out.then hf4)
 have hbk:=backwards_any b 2 3 w4
 unfold portV at hbk
 have HBK:=Hd hbk
 clear hbk hb4 hb8 hb9 hb10 hz4 hzz hf4 hB8
 go_wp2_with ((go_at_call 100;(with_reducible refine HBK.out.mono ?_);rintro e w5 ⟨rfl,hk1,hk2,hk3,hf5,hz5⟩;have HKS:=Hd (And.intro hk1 (And.intro hk2 hk3));have HF5:=Hd hf5;have HZ5:=Hd hz5;clear hk1 hk2 hk3 hf5 hz5))
 clear y0 y1 y2 y3 y4 HBK HLN
 have hS0:OSt w w5 w.heap.size B8 (B8+1) (B8+1+1) 0:=⟨HF4.out.then HF5.out,HBS.out.1.fr HF5.out (by simp),HBS.out.2.1.fr HF5.out (by simp),HBS.out.2.2.1.fr HF5.out (by simp),HBS.out.2.2.2.fr HF5.out (by simp)⟩
 have hZ:w.heap.size<B8∧B8+2<w5.heap.size∧w4.heap.size+3=w5.heap.size∧B8+3=w4.heap.size:=by have h1:=HZ4.out;have h2:=HZ5.out;omega
 have HZ:=Hd hZ
 clear hZ
 refine wp_rangeFunc_exit 0 (a:=?aa) 5 [B8,B8+1,B8+1+1] (by have:=HZ.out;simp;omega) [ver1,ver0] (fun x:Value=>#[x]) (lb:=#[.pointer (some ⟨w4.heap.size,0,none⟩),.pointer (some ⟨w4.heap.size+1,0,none⟩),.pointer (some ⟨w4.heap.size+2,0,none⟩)]) ?_ (enters_of Tryz.func160 (by kernel_rfl) rfl) ?_
  (fun k W=>OSt w W w.heap.size B8 (B8+1) (B8+1+1) k)
  (fun k U U' S h hf hq=>h.frS hf (fun q hm=>by have:=hq q hm;have:=HZ.out;omega) (fun hm=>by have:=hq _ hm;have:=HZ.out;omega) (fun hm=>by have:=hq _ hm;have:=HZ.out;omega) (fun hm=>by have:=hq _ hm;have:=HZ.out;omega) (fun hm=>by have:=hq _ hm;have:=HZ.out;omega)) hS0
  (fun l J U hU hUs hJ hy hJ0=>bws_seq 5 l w4.heap.size (w4.heap.size+1) (w4.heap.size+2) b U (w5.heap.size::(w5.heap.size+1)::[B8,B8+1,B8+1+1]) (by have:=HZ.out;simp;omega) (HKS.out.1.fr hU (by simp)) (HKS.out.2.1.fr hU (by simp)) (HKS.out.2.2.fr hU (by simp)) (by have:=HZ.out;simp;omega) (HV.out.fr0 ((HF4.out.then HF5.out).then hU)) J hJ hy hJ0)
  (fun k a' W'=>∃ B6,(∃ x:Value,[ver1,ver0][k]?=some x∧a'={ tmps:=((Act.tmps ?aa).setIfInBounds 32 x).setIfInBounds 11 (.pointer (some ⟨B6,0,none⟩)),defers:=[] }∧BoxN W' B6 201 x.cells)∧w5.heap.size+2≤B6∧OSt w W' w.heap.size B8 (B8+1) (B8+1+1) k)
  ?_ ?_ ?_ ?_ (by simp) ?_
 ·rfl
 ·intro x;rfl
 ·rintro k a' U U' ⟨B6,⟨x,hx,ha,hb⟩,hB6,hs⟩ hf
  have hz:=HZ.out
  exact⟨B6,⟨x,hx,ha,hb.fr hf (by simp;omega)⟩,hB6,hs.frS hf (by simp;omega) (by simp;omega) (by simp;omega) (by simp;omega) (by simp;omega)⟩
 ·intro l k x U K hx hI hUs hK
  rcases k with _ | _ | k
  ·simp only[List.getElem?_cons_zero,Option.some.injEq] at hx
   subst hx
   unfold ver1
   gi_wp2_with fail
   exact hK _ _ ((Fr.refl [] U).alloc _) ⟨U.heap.size,⟨_,rfl,rfl,BoxN.new U _ _⟩,hUs,hI.frS ((Fr.refl [] U).alloc _) (by simp) (by simp) (by simp) (by simp) (by simp)⟩
  ·simp only[List.getElem?_cons_zero,List.getElem?_cons_succ,Option.some.injEq] at hx
   subst hx
   unfold ver0
   gi_wp2_with fail
   exact hK _ _ ((Fr.refl [] U).alloc _) ⟨U.heap.size,⟨_,rfl,rfl,BoxN.new U _ _⟩,hUs,hI.frS ((Fr.refl [] U).alloc _) (by simp) (by simp) (by simp) (by simp) (by simp)⟩
  ·simp at hx
 ·intro l k x a' U hx hk hA hUs
  obtain⟨B6,⟨x',hx',rfl,hb6⟩,hB6,hs⟩:=hA
  obtain rfl:k=0:=by simp at hk;omega
  clear hk
  simp only[List.getElem?_cons_zero,Option.some.injEq] at hx hx'
  subst hx'
  subst hx
  simp only[qA,qB,qC]
  have HSS:=Hd (fun (X:World) (hX:Fr [] U X)=>(show X.cell? ⟨B6,0,none⟩=some (.int .i64 (1))∧X.cell? ⟨B6,1,none⟩=some (.string ⟨#[121,122]⟩)∧X.cell? ⟨B6,2,none⟩=some (.bool false)∧X.cell? ⟨w.heap.size,5,none⟩=some (.int .i64 1)∧X.cell? ⟨B8,0,none⟩=some (.int .i64 0)∧X.cell? ⟨B8+1,0,none⟩=some (.bool false)∧X.cell? ⟨B8+1+1,0,none⟩=some (.int .u8 0) from by
   have h6:=hb6.fr hX (by simp)
   exact⟨h6.c 0,h6.c 1,h6.c 2,(hs.pl.fr hX (by simp)).c 5,(hs.or.fr hX (by simp)).c 0,(hs.fd.fr hX (by simp)).c 0,(hs.va.fr hX (by simp)).c 0⟩))
  have HB6:=Hd hb6
  have HS:=Hd hs
  have HB6s:=Hd (And.intro hB6 hUs)
  clear hb6 hs hB6 hUs
  unfold ver1
  gi_wp2_with fail
  have hC:Fr [] U U.drew:=(Fr.refl [] U).drew
  refine wpIn_region_head (fun X:World=>Fr [] U X) 21 (by kernel_rfl) (by kernel_rfl) (fun _ _ h=>by have h1:=And.left h;cases h1) ?_ (by decide)
  show headJ 0 _ _ _ _ _ _ _ _ _ _ _
  iterate 13
   refine hdJ (v:=?_) rfl (Or.inl ⟨by rfl,?_⟩) ?_
   rotate_left
   ·intro W hW;obtain⟨t0,t1,t2,p5,o8,f9,v10⟩:=HSS.out W hW;go_simp;try with_reducible rfl
   try simp only[Act.put,qA,qB,qC,qD,qE,qF]
  refine headI_take (i:=13) (v:=undef) (by kernel_rfl) head_done rfl (by decide) (by kernel_rfl) (fun _ _ _ h=>h) (Or.inr ⟨by rfl,rfl⟩) (by assumption) ?_
  try simp only[Act.put,qA,qB,qC,qD,qE,qF]
  refine headI_take (i:=14) (v:=undef) (by kernel_rfl) head_done rfl (by decide) (by kernel_rfl) (fun _ _ _ h=>h) (Or.inr ⟨by rfl,rfl⟩) (by assumption) ?_
  try simp only[Act.put,qA,qB,qC,qD,qE,qF]
  refine headI_take (i:=15) (v:=undef) (by kernel_rfl) head_done rfl (by decide) (by kernel_rfl) (fun _ _ _ h=>h) (Or.inr ⟨by rfl,rfl⟩) (by assumption) ?_
  try simp only[Act.put,qA,qB,qC,qD,qE,qF]
  refine headI_take (i:=16) (v:=undef) (by kernel_rfl) head_done rfl (by decide) (by kernel_rfl) (fun _ _ _ h=>h) (Or.inr ⟨by rfl,rfl⟩) (by assumption) ?_
  try simp only[Act.put,qA,qB,qC,qD,qE,qF]
  refine headI_take (i:=17) (v:=undef) (by kernel_rfl) head_done rfl (by decide) (by kernel_rfl) (fun _ _ _ h=>h) (Or.inr ⟨by rfl,rfl⟩) (by assumption) ?_
  try simp only[Act.put,qA,qB,qC,qD,qE,qF]
  refine headI_take (i:=18) (v:=undef) (by kernel_rfl) head_done rfl (by decide) (by kernel_rfl) (fun _ _ _ h=>h) (Or.inr ⟨by rfl,rfl⟩) (by assumption) ?_
  try simp only[Act.put,qA,qB,qC,qD,qE,qF]
  refine headI_take (i:=19) (v:=undef) (by kernel_rfl) head_done rfl (by decide) (by kernel_rfl) (fun _ _ _ h=>h) (Or.inr ⟨by rfl,rfl⟩) (by assumption) ?_
  try simp only[Act.put,qA,qB,qC,qD,qE,qF]
  show headJ 20 _ _ _ _ _ _ _ _ _ _ _
  refine hdJ (v:=?_) rfl (Or.inl ⟨by rfl,?_⟩) ?_
  rotate_left
  ·intro W hW;obtain⟨t0,t1,t2,p5,o8,f9,v10⟩:=HSS.out W hW;go_simp;try with_reducible rfl
  try simp only[Act.put,qA,qB,qC,qD,qE,qF]
  refine headI_done ⟨by kernel_rfl,?_⟩
  simp only[List.drop_succ_cons,List.drop_zero]
  go_wp2_with fail
  gi_wp2_with fail
  clear hC HSS
  have HSS:=Hd (fun (X:World) (hX:Fr [B8,B8+1,B8+1+1] U X)=>(show X.cell? ⟨B6,0,none⟩=some (.int .i64 1)∧X.cell? ⟨B6,1,none⟩=some (.string ⟨#[121,122]⟩)∧X.cell? ⟨B6,2,none⟩=some (.bool false)∧X.cell? ⟨w.heap.size,5,none⟩=some (.int .i64 1) from by
   have hz:=HZ.out
   have h6:=HB6.out.fr hX (by have:=HB6s.out;simp;omega)
   exact⟨h6.c 0,h6.c 1,h6.c 2,(HS.out.pl.fr hX (by simp;omega)).c 5⟩))
  refine wpIn_region_head (fun X:World=>Fr [B8,B8+1,B8+1+1] U X) 9 (by kernel_rfl) (by kernel_rfl) (fun _ _ h=>by have h1:=And.left h;cases h1) ?_ (by decide)
  obtain⟨U2,hU2⟩:=nmd (U.drew.drew)
  have f2:Fr [] U U2:=by rw[←hU2];exact (Fr.refl [] U).drew.drew
  rw[hU2]
  have hC:Fr [B8,B8+1,B8+1+1] U U2:=f2.mono (by simp)
  clear hU2
  show headJ 0 _ _ _ _ _ _ _ _ _ _ _
  iterate 7
   refine hdJ (v:=?_) rfl (Or.inl ⟨by rfl,?_⟩) ?_
   rotate_left
   ·intro W hW;obtain⟨t0,t1,t2,p5⟩:=HSS.out W hW;go_simp;try with_reducible rfl
   try simp only[Act.put,qA,qB,qC,qD,qE,qF]
  refine headI_only (i:=7) (by kernel_rfl) (by decide) rfl (fun K hK=>?_)
  rw[if_pos (by rfl)]
  have h8:=HS.out.or.fr f2 (by simp)
  have e0:=h8.k0
  have e1:=h8.f 0
  go_simp
  obtain⟨U3,hU3⟩:=nmd (U2.setCell ⟨B8,0,none⟩ (.int .i64 1))
  have h8b:BoxN U3 B8 3 #[.int .i64 1]:=by rw[←hU3];exact h8.setAt 0 _
  have f3:Fr [B8] U2 U3:=by rw[←hU3];exact (Fr.refl [B8] U2).set (.inl (by simp)) _
  rw[hU3]
  have hC3:Fr [B8,B8+1,B8+1+1] U U3:=hC.trans f3 (by simp)
  refine hK _ _ hC3 ?_
  clear hK K e0 e1 hU3
  try simp only[Act.put,qA,qB,qC,qD,qE,qF]
  refine headI_only (i:=8) (by kernel_rfl) (by decide) rfl (fun K hK=>?_)
  rw[if_pos (by rfl)]
  have h10:=(HS.out.va.fr f2 (by simp)).fr f3 (by simp;omega)
  have e0:=h10.k0
  have e1:=h10.f 0
  go_simp
  have hl:(.int .u8 ↑((⟨#[121,122]⟩:ByteArray)[1]).toNat:Value)=.int .u8 122:=rfl
  rw[hl]
  obtain⟨U4,hU4⟩:=nmd (U3.setCell ⟨B8+1+1,0,none⟩ (.int .u8 122))
  have h10b:BoxN U4 (B8+1+1) 5 #[.int .u8 122]:=by rw[←hU4];exact h10.setAt 0 _
  have f4:Fr [B8+1+1] U3 U4:=by rw[←hU4];exact (Fr.refl [B8+1+1] U3).set (.inl (by simp)) _
  rw[hU4]
  have hC4:Fr [B8,B8+1,B8+1+1] U U4:=hC3.trans f4 (by simp)
  refine hK _ _ hC4 ?_
  clear hK K e0 e1 hU4
  try simp only[Act.put,qA,qB,qC,qD,qE,qF]
  refine headI_done ⟨by kernel_rfl,?_⟩
  simp only[List.drop_succ_cons,List.drop_zero]
  have h9:=((HS.out.fd.fr f2 (by simp)).fr f3 (by simp)).fr f4 (by simp)
  have e0:=h9.k0
  have e1:=h9.f 0
  obtain⟨U5,hU5⟩:=nmd (U4.setCell ⟨B8+1,0,none⟩ (.bool true))
  have h9b:BoxN U5 (B8+1) 4 #[.bool true]:=by rw[←hU5];exact h9.setAt 0 _
  have f5:Fr [B8+1] U4 U5:=by rw[←hU5];exact (Fr.refl [B8+1] U4).set (.inl (by simp)) _
  have hC5:Fr [B8,B8+1,B8+1+1] U U5:=hC4.trans f5 (by simp)
  have hz:=HZ.out
  have hE:OSt w U5 w.heap.size B8 (B8+1) (B8+1+1) 1:=⟨HS.out.fr.trans hC5 (by simp;omega),HS.out.pl.fr hC5 (by simp;omega),(h8b.fr f4 (by simp;omega)).fr f5 (by simp),h9b,h10b.fr f5 (by simp)⟩
  have HE:=Hd (And.intro hE hC5)
  clear h8 h8b h9 h9b h10 h10b f2 f3 f4 f5 hC hC3 hC4 hC5 hE hz HSS
  go_wp2_with fail
  gi_wp2_with fail
  exact⟨HE.out.1,HE.out.2⟩
 ·intro l k x a' U hx hk hA hUs
  obtain⟨B6,⟨x',hx',rfl,hb6⟩,hB6,hs⟩:=hA
  obtain rfl:k=1:=by simp at hk;omega
  clear hk
  simp only[List.getElem?_cons_zero,List.getElem?_cons_succ,Option.some.injEq] at hx hx'
  subst hx'
  subst hx
  simp only[qA,qB,qC]
  have HSS:=Hd (fun (X:World) (hX:Fr [] U X)=>(show X.cell? ⟨B6,0,none⟩=some (.int .i64 (-1))∧X.cell? ⟨B6,1,none⟩=some (.string ⟨#[]⟩)∧X.cell? ⟨B6,2,none⟩=some (.bool true)∧X.cell? ⟨w.heap.size,5,none⟩=some (.int .i64 1)∧X.cell? ⟨B8,0,none⟩=some (.int .i64 1)∧X.cell? ⟨B8+1,0,none⟩=some (.bool true)∧X.cell? ⟨B8+1+1,0,none⟩=some (.int .u8 122) from by
   have h6:=hb6.fr hX (by simp)
   exact⟨h6.c 0,h6.c 1,h6.c 2,(hs.pl.fr hX (by simp)).c 5,(hs.or.fr hX (by simp)).c 0,(hs.fd.fr hX (by simp)).c 0,(hs.va.fr hX (by simp)).c 0⟩))
  have HB6:=Hd hb6
  have HS:=Hd hs
  have HB6s:=Hd (And.intro hB6 hUs)
  clear hb6 hs hB6 hUs
  unfold ver0
  gi_wp2_with fail
  have hC:Fr [] U U.drew:=(Fr.refl [] U).drew
  refine wpIn_region_head (fun X:World=>Fr [] U X) 21 (by kernel_rfl) (by kernel_rfl) (fun _ _ h=>by have h1:=And.left h;cases h1) ?_ (by decide)
  show headJ 0 _ _ _ _ _ _ _ _ _ _ _
  iterate 3
   refine hdJ (v:=?_) rfl (Or.inl ⟨by rfl,?_⟩) ?_
   rotate_left
   ·intro W hW;obtain⟨t0,t1,t2,p5,o8,f9,v10⟩:=HSS.out W hW;go_simp;try with_reducible rfl
   try simp only[Act.put,qA,qB,qC,qD,qE,qF]
  refine headI_take (i:=3) (v:=undef) (by kernel_rfl) head_done rfl (by decide) (by kernel_rfl) (fun _ _ _ h=>h) (Or.inr ⟨by rfl,rfl⟩) (by assumption) ?_
  try simp only[Act.put,qA,qB,qC,qD,qE,qF]
  refine headI_take (i:=4) (v:=undef) (by kernel_rfl) head_done rfl (by decide) (by kernel_rfl) (fun _ _ _ h=>h) (Or.inr ⟨by rfl,rfl⟩) (by assumption) ?_
  try simp only[Act.put,qA,qB,qC,qD,qE,qF]
  refine headI_take (i:=5) (v:=undef) (by kernel_rfl) head_done rfl (by decide) (by kernel_rfl) (fun _ _ _ h=>h) (Or.inr ⟨by rfl,rfl⟩) (by assumption) ?_
  try simp only[Act.put,qA,qB,qC,qD,qE,qF]
  refine headI_take (i:=6) (v:=undef) (by kernel_rfl) head_done rfl (by decide) (by kernel_rfl) (fun _ _ _ h=>h) (Or.inr ⟨by rfl,rfl⟩) (by assumption) ?_
  try simp only[Act.put,qA,qB,qC,qD,qE,qF]
  refine headI_take (i:=7) (v:=undef) (by kernel_rfl) head_done rfl (by decide) (by kernel_rfl) (fun _ _ _ h=>h) (Or.inr ⟨by rfl,rfl⟩) (by assumption) ?_
  try simp only[Act.put,qA,qB,qC,qD,qE,qF]
  refine headI_take (i:=8) (v:=undef) (by kernel_rfl) head_done rfl (by decide) (by kernel_rfl) (fun _ _ _ h=>h) (Or.inr ⟨by rfl,rfl⟩) (by assumption) ?_
  try simp only[Act.put,qA,qB,qC,qD,qE,qF]
  show headJ 9 _ _ _ _ _ _ _ _ _ _ _
  iterate 2
   refine hdJ (v:=?_) rfl (Or.inl ⟨by rfl,?_⟩) ?_
   rotate_left
   ·intro W hW;obtain⟨t0,t1,t2,p5,o8,f9,v10⟩:=HSS.out W hW;go_simp;try with_reducible rfl
   try simp only[Act.put,qA,qB,qC,qD,qE,qF]
  refine headI_take (i:=11) (v:=undef) (by kernel_rfl) head_done rfl (by decide) (by kernel_rfl) (fun _ _ _ h=>h) (Or.inr ⟨by rfl,rfl⟩) (by assumption) ?_
  try simp only[Act.put,qA,qB,qC,qD,qE,qF]
  refine headI_take (i:=12) (v:=undef) (by kernel_rfl) head_done rfl (by decide) (by kernel_rfl) (fun _ _ _ h=>h) (Or.inr ⟨by rfl,rfl⟩) (by assumption) ?_
  try simp only[Act.put,qA,qB,qC,qD,qE,qF]
  refine headI_take (i:=13) (v:=undef) (by kernel_rfl) head_done rfl (by decide) (by kernel_rfl) (fun _ _ _ h=>h) (Or.inr ⟨by rfl,rfl⟩) (by assumption) ?_
  try simp only[Act.put,qA,qB,qC,qD,qE,qF]
  refine headI_take (i:=14) (v:=undef) (by kernel_rfl) head_done rfl (by decide) (by kernel_rfl) (fun _ _ _ h=>h) (Or.inr ⟨by rfl,rfl⟩) (by assumption) ?_
  try simp only[Act.put,qA,qB,qC,qD,qE,qF]
  refine headI_take (i:=15) (v:=undef) (by kernel_rfl) head_done rfl (by decide) (by kernel_rfl) (fun _ _ _ h=>h) (Or.inr ⟨by rfl,rfl⟩) (by assumption) ?_
  try simp only[Act.put,qA,qB,qC,qD,qE,qF]
  refine headI_take (i:=16) (v:=undef) (by kernel_rfl) head_done rfl (by decide) (by kernel_rfl) (fun _ _ _ h=>h) (Or.inr ⟨by rfl,rfl⟩) (by assumption) ?_
  try simp only[Act.put,qA,qB,qC,qD,qE,qF]
  refine headI_take (i:=17) (v:=undef) (by kernel_rfl) head_done rfl (by decide) (by kernel_rfl) (fun _ _ _ h=>h) (Or.inr ⟨by rfl,rfl⟩) (by assumption) ?_
  try simp only[Act.put,qA,qB,qC,qD,qE,qF]
  refine headI_take (i:=18) (v:=undef) (by kernel_rfl) head_done rfl (by decide) (by kernel_rfl) (fun _ _ _ h=>h) (Or.inr ⟨by rfl,rfl⟩) (by assumption) ?_
  try simp only[Act.put,qA,qB,qC,qD,qE,qF]
  refine headI_take (i:=19) (v:=undef) (by kernel_rfl) head_done rfl (by decide) (by kernel_rfl) (fun _ _ _ h=>h) (Or.inr ⟨by rfl,rfl⟩) (by assumption) ?_
  try simp only[Act.put,qA,qB,qC,qD,qE,qF]
  refine headI_take (i:=20) (v:=undef) (by kernel_rfl) head_done rfl (by decide) (by kernel_rfl) (fun _ _ _ h=>h) (Or.inr ⟨by rfl,rfl⟩) (by assumption) ?_
  try simp only[Act.put,qA,qB,qC,qD,qE,qF]
  refine headI_done ⟨by kernel_rfl,?_⟩
  simp only[List.drop_succ_cons,List.drop_zero]
  go_wp2_with fail
  have hE:OSt w U.drew w.heap.size B8 (B8+1) (B8+1+1) 2:=⟨HS.out.fr.drew,HS.out.pl.drew,HS.out.or.drew,HS.out.fd.drew,HS.out.va.drew⟩
  have HE:=Hd hE
  clear hE hC HSS
  gi_wp2_with fail
  exact⟨HE.out,(Fr.refl _ U).drew⟩
 ·intro D U hD hI hK
  have hI2:OSt w U w.heap.size B8 (B8+1) (B8+1+1) 2:=hI
  have e8:=hI2.or.k0
  have e9:=hI2.fd.k0
  have HI:=Hd hI2.fr
  have HK:=Hd hK
  have HDD:=Hd hD
  clear hI hI2 hK hD
  go_wp2_with fail
  refine⟨by simp,.inl ⟨_,_,rfl,run_takeDeferred HK.out,?_⟩⟩
  refine⟨.tuple #[.int .i64 1,.int .i64 0],by simp[results,Tryz.results44,go_sem],rfl,?_⟩
  exact HI.out.trans (fr_putObj (S:=[D]) _ (Fr.refl _ U) (.inl (by simp))) (by simp;have:=HZ.out;have:=HDD.out;omega)
end Go.Proofs.YtlpmiimgacfmkaaGreatDoor
