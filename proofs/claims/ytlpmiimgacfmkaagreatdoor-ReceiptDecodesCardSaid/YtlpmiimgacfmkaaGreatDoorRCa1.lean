/- slices.Sort of the two numbers 1, 0 (the shelf's contract). -/
import Derived.Sort.OwnSortedInts
import Derived.Laws.EntriesVeiled
import Derived.Test.YtlpmiimgacfmkaaGreatDoorRDe5
import Derived.Test.YtlpmiimgacfmkaaGreatDoorRShelf2
set_option linter.all false
namespace Go.Proofs.YtlpmiimgacfmkaaGreatDoor
open Go.RowKit
theorem merge10:([1,0]:List Int).mergeSort (fun x y=>decide (x≤y))=[0,1]:=by simp[List.mergeSort,List.MergeSort.Internal.splitInTwo,List.splitAt,List.splitAt.go,List.merge]
theorem SortI_10 (b c:Nat) (w:World) (h:Own w 3 1 (some ⟨b,0,none⟩) 2 c [.int .i64 1,.int .i64 0]) :
 Calls Tryz.prog 166 #[.slice (some ⟨b,0,none⟩) 2 c] w fun e w'=>e=.returned (.tuple #[])∧Cs w' b [.int .i64 0,.int .i64 1]∧Fr [b] w w':=by
 have hlt:=h.lt b (by simp[blk])
 have hH:Go.Sort.Holds (Value.int .i64) w b 0 ([1,0]:List Int).toArray:=by
  rcases h.2 with ⟨h1,_⟩ | ⟨g,cap,cur,h1,_,hb,_,_,_,ht⟩
  ·simp at h1
  ·injection h1 with h2 _ _
   injection h2 with h3
   injection h3 with h4
   subst h4
   exact holds_of_blockI hb (by simpa using ht)
 refine (Tryz.slices_Sort_int b 0 c [1,0] w hH hlt (by decide)).mono ?_
 rintro e w' ⟨rfl,n,os,rfl⟩
 rw[merge10]
 have hf:Fr [b] w (Go.Sort.grow (Go.Sort.putRow (Value.int .i64) (Go.Sort.ahead w n) b 0 ([0,1]:List Int).toArray) os):=(Fr.refl [b] w).grown (grownBy_sortedI _) (by simp)
 have hH2:=Go.Sort.holds_grow (Value.int .i64) _ os b 0 _ (by simpa using hlt) (Go.Sort.holds_putRow (Value.int .i64) (Go.Sort.ahead w n) b 0 _ ([0,1]:List Int).toArray hH rfl)
 refine⟨rfl,⟨Nat.lt_of_lt_of_le hlt hf.size,fun j v hv=>?_⟩,hf⟩
 rcases j with _ | _ | j
 ·have:=(hH2 0 (by decide)).1
  simp at hv
  subst hv
  simpa using this
 ·have:=(hH2 1 (by decide)).1
  simp at hv
  subst hv
  simpa using this
 ·simp at hv
set_option maxRecDepth 100000
set_option maxHeartbeats 2000000
def visF (pm pr pf pv:Nat):Value:=.func (.func 165) #[] #[.pointer (some ⟨pm,0,none⟩),.pointer (some ⟨pr,0,none⟩),.pointer (some ⟨pf,0,none⟩),.pointer (some ⟨pv,0,none⟩)]
def nxtF (pg:Nat):Value:=.func (.func 107) #[] #[.pointer (some ⟨pg,0,none⟩)]
structure VSt (w0 w:World) (pm pr pf pv m pg:Nat) (A:Option Addr) (n c:Nat) (xs:List Value) (kvs:List (Value × Value)):Prop where
 bm:BoxN w pm 143 #[.map (some m)]
 br:BoxN w pr 36 #[.slice A n c]
 bf:BoxN w pf 211 #[nxtF pg]
 bv:BoxN w pv 130 #[visF pm pr pf pv]
 mm:MapIs Tryz.prog 3 w m kvs
 own:Own w 3 1 A n c xs
 d1:pm≠pr∧pm≠m∧pr≠m∧pf≠pr∧pf≠m∧pv≠pr∧pv≠m
 d2:pm ∉ blk A∧pr ∉ blk A∧pf ∉ blk A∧pv ∉ blk A∧m ∉ blk A
 d3:w0.heap.size≤pr∧w0.heap.size≤m∧∀ k∈blk A,w0.heap.size≤k
 f0:Fr [] w0 w
section
variable {w0 X Y Z:World} {pm pr pf pv m pg n c:Nat} {A:Option Addr} {xs:List Value} {kvs kvs':List (Value × Value)}
theorem VSt.fr0 (h:VSt w0 X pm pr pf pv m pg A n c xs kvs) (hf:Fr [] X Y):VSt w0 Y pm pr pf pv m pg A n c xs kvs :=
 ⟨h.bm.fr hf (by simp),h.br.fr hf (by simp),h.bf.fr hf (by simp),h.bv.fr hf (by simp),h.mm.fr hf (by simp),h.own.fr hf (by simp),h.d1,h.d2,h.d3,h.f0.then hf⟩
theorem VSt.putM (h:VSt w0 X pm pr pf pv m pg A n c xs kvs) (hf:Fr [m] X Y) (hm:MapIs Tryz.prog 3 Y m kvs'):VSt w0 Y pm pr pf pv m pg A n c xs kvs' :=
 ⟨h.bm.fr hf (by simpa using h.d1.2.1),h.br.fr hf (by simpa using h.d1.2.2.1),h.bf.fr hf (by simpa using h.d1.2.2.2.2.1),h.bv.fr hf (by simpa using h.d1.2.2.2.2.2.2),hm,h.own.fr hf (by intro k hk;simp only[List.mem_singleton];rintro rfl;exact h.d2.2.2.2.2 hk),h.d1,h.d2,h.d3,h.f0.trans hf (by intro k hk;simp only[List.mem_singleton] at hk;subst hk;exact .inr h.d3.2.1)⟩
theorem VSt.putR {A':Option Addr} {n' c':Nat} {xs':List Value} (h:VSt w0 X pm pr pf pv m pg A n c xs kvs) (f1:Fr (blk A) X Y) (ho:Own Y 3 1 A' n' c' xs') (hA:∀ k∈blk A',k∈blk A ∨ X.heap.size≤k) (f2:Fr [pr] Y Z) (hb:BoxN Z pr 36 #[.slice A' n' c']) :
 VSt w0 Z pm pr pf pv m pg A' n' c' xs' kvs:=by
 have old:∀ k,k<X.heap.size→k ∉ blk A→k ∉ blk A':=fun k h1 h2 hm=>by
  rcases hA k hm with h3 | h3
  ·exact h2 h3
  ·omega
 have e1:=old pm h.bm.lt h.d2.1
 have e2:=old pr h.br.lt h.d2.2.1
 have e3:=old pf h.bf.lt h.d2.2.2.1
 have e4:=old pv h.bv.lt h.d2.2.2.2.1
 have e5:=old m h.mm.lt h.d2.2.2.2.2
 exact⟨(h.bm.fr f1 h.d2.1).fr f2 (by simpa using h.d1.1),hb,(h.bf.fr f1 h.d2.2.2.1).fr f2 (by simpa using h.d1.2.2.2.1),(h.bv.fr f1 h.d2.2.2.2.1).fr f2 (by simpa using h.d1.2.2.2.2.2.1),(h.mm.fr f1 h.d2.2.2.2.2).fr f2 (by simpa using Ne.symm h.d1.2.2.1),ho.fr f2 (by intro k hk;simp only[List.mem_singleton];rintro rfl;exact e2 hk),h.d1,⟨e1,e2,e3,e4,e5⟩,
  ⟨h.d3.1,h.d3.2.1,fun k hk=>(hA k hk).elim (fun h1=>h.d3.2.2 k h1) (fun h1=>Nat.le_trans h.f0.size h1)⟩,(h.f0.trans f1 (fun k hk=>.inr (h.d3.2.2 k hk))).trans f2 (by intro k hk;simp only[List.mem_singleton] at hk;subst hk;exact .inr h.d3.1)⟩
end
theorem Next_0 (v:Value) (pg g:Nat) (w:World) (hg:w.cell? ⟨pg,0,none⟩=some (.pointer (some ⟨g,0,none⟩))) (hd:DDone w g) :
 Calls Tryz.prog 107 #[.int .i64 0,v,.pointer (some ⟨pg,0,none⟩)] w fun e w'=>e=.returned (.tuple #[])∧w=w':=by
 obtain⟨A,B,m,K,kc,lb,lc,lb3,lc3,h1,h2,h3⟩:=hd
 have x1:=h1.k1
 have x2:=h2.k0
 clear h1 h2 h3
 go_enter Tryz.func107,Tryz.ntmps107
 go_wp2_with fail
 refine wp_loop_rounds 1 ?_
 rw[rounds_succ]
 go_wp2_with fail
 go_end0
 exact⟨rfl,rfl⟩
theorem Visit_any (k:Int) (w0 w:World) (pm pr pf pv m pg n c:Nat) (A:Option Addr) (xs:List Value) (kvs:List (Value × Value)) (R:World→Prop) (h:VSt w0 w pm pr pf pv m pg A n c xs kvs) (hk:∃ l,keyOf Tryz.prog 3 (.int .i64 k)=some l) (hn:∀ p∈kvs,p.1≠.int .i64 k) (hl:n+1≤1000)
 (hN:∀ W A' c',VSt w0 W pm pr pf pv m pg A' (n+1) c' (xs++[.int .i64 k]) (kvs++[(.int .i64 k,.bool true)])→Calls Tryz.prog 107 #[.int .i64 k,visF pm pr pf pv,.pointer (some ⟨pg,0,none⟩)] W fun e w'=>e=.returned (.tuple #[])∧R w') :
 Calls Tryz.prog 165 #[.int .i64 k,.pointer (some ⟨pm,0,none⟩),.pointer (some ⟨pr,0,none⟩),.pointer (some ⟨pf,0,none⟩),.pointer (some ⟨pv,0,none⟩)] w fun e w'=>e=.returned (.tuple #[])∧R w':=by
 obtain⟨kl,hkl⟩:=hk
 have hlk:=MapIs.look_none key_int Tryz.underlying143 h.mm hkl hn (z:=.bool false) (by simp[go_sem]) false
 obtain⟨w1,hmu,f1,hm1⟩:=MapIs.put_new (v:=.bool true) key_int Tryz.underlying143 h.mm hkl hn
 have h1:=h.putM f1 hm1
 have x1:=h.bm.k0
 have x2:=h1.br.k0
 have H1:=Hd h1
 have HN:=Hd hN
 clear h h1 hN f1 hm1 hn hkl
 obtain⟨jj,hjj,jz0,jz1,jz2⟩:=info_int
 go_enter Tryz.func165,Tryz.ntmps165
 go_upto_region 3 with (at_builtin;(with_reducible refine wpList_app_tmp (w:=w1) rfl (.tmp 12) (.tmp 14) 36 rfl 3 jj _ 1 8 Tryz.underlying36 hjj jz0 jz1 jz2 rfl (by decide) A n c xs rfl H1.out.own 1 1 [.int .i64 k] 3 rfl rfl (by simp[Value.oneCell']) (by unfold maxLen;omega) (by omega) ?_);intro A' c' w2 ho hf hs;have hb2:=H1.out.br.fr hf H1.out.d2.2.1;have e0:w2.cell? ⟨pr,0,none⟩=some (.slice A n c):=hb2.c 0;have e1:=hb2.f 0;have HO:=Hd (And.intro ho (And.intro hf (And.intro hs hb2)));clear ho hf hs hb2)
 obtain⟨w3,hw3⟩:=nmd (w2.setCell ⟨pr,0,none⟩ (.slice A' (n+1) c'))
 have hb3:BoxN w3 pr 36 #[.slice A' (n+1) c']:=by rw[←hw3];exact HO.out.2.2.2.setAt 0 _
 have f3:Fr [pr] w2 w3:=by rw[←hw3];exact (Fr.refl [pr] w2).set (.inl (by simp)) _
 rw[hw3]
 have hV:=H1.out.putR HO.out.2.1 HO.out.1 HO.out.2.2.1 f3 hb3
 have y1:=hV.bf.k0
 have y2:=hV.bv.k0
 have HC:=Hd (HN.out w3 A' c' hV)
 unfold visF at y2 HC
 unfold nxtF at y1
 clear hV f3 hb3 hw3 e0 e1 hlk hmu x1 x2
 go_wp2_with ((go_at_call 107;(with_reducible refine HC.out.mono ?_);rintro e w4 ⟨rfl,hR⟩;have HR:=Hd hR;clear hR))
 go_end0
 exact⟨rfl,HR.out⟩
theorem Visit_0 (w0 w:World) (pm pr pf pv m pg g n c:Nat) (A:Option Addr) (xs:List Value) (kvs:List (Value × Value)) (h:VSt w0 w pm pr pf pv m pg A n c xs kvs) (hn:∀ p∈kvs,p.1≠.int .i64 0) (hl:n+1≤1000) (hg:BoxN w0 pg 111 #[.pointer (some ⟨g,0,none⟩)]) (hd:DDone w0 g) :
 Calls Tryz.prog 165 #[.int .i64 0,.pointer (some ⟨pm,0,none⟩),.pointer (some ⟨pr,0,none⟩),.pointer (some ⟨pf,0,none⟩),.pointer (some ⟨pv,0,none⟩)] w fun e w'=>e=.returned (.tuple #[])∧∃ A' c',VSt w0 w' pm pr pf pv m pg A' (n+1) c' (xs++[.int .i64 0]) (kvs++[(.int .i64 0,.bool true)]) :=
 Visit_any 0 w0 w pm pr pf pv m pg n c A xs kvs _ h keyOf_int0 hn hl (fun W A' c' hV=>(Next_0 _ pg g W ((hg.fr hV.f0 (by simp)).c 0) (hd.fr0 hV.f0)).mono (by
  rintro e w' ⟨rfl,rfl⟩
  exact⟨rfl,A',c',hV⟩))
theorem Next_1 (w0 w:World) (pm pr pf pv m pg g n c:Nat) (A:Option Addr) (xs:List Value) (kvs:List (Value × Value)) (h:VSt w0 w pm pr pf pv m pg A n c xs kvs) (hn:∀ p∈kvs,p.1≠.int .i64 0) (hl:n+1≤1000) (hg:BoxN w0 pg 111 #[.pointer (some ⟨g,0,none⟩)]) (hd:DDone w0 g) :
 Calls Tryz.prog 107 #[.int .i64 1,visF pm pr pf pv,.pointer (some ⟨pg,0,none⟩)] w fun e w'=>e=.returned (.tuple #[])∧∃ A' c',VSt w0 w' pm pr pf pv m pg A' (n+1) c' (xs++[.int .i64 0]) (kvs++[(.int .i64 0,.bool true)]):=by
 obtain⟨A1,B1,m1,K1,kc1,lb,lc,lb3,lc3,h1,h2,h3⟩:=hd.fr0 h.f0
 have x0:w.cell? ⟨pg,0,none⟩=some (.pointer (some ⟨g,0,none⟩)):=(hg.fr h.f0 (by simp)).c 0
 have x1:=h1.k1
 have x2:=h2.k1
 obtain⟨z0,z1,z2,z3,z4,z5,z6⟩:=h3.m7
 obtain⟨w1,hw1,n1,f1⟩:=bxn w #[.int .i64 0,.int .i64 1,.int .i64 16,.string ⟨#[]⟩,.int .i64 1,.int .i64 0,.string ⟨#[]⟩] 98
 have y0:=n1.k0
 have HV:=Hd (Visit_0 w0 w1 pm pr pf pv m pg g n c A xs kvs (h.fr0 f1) hn hl hg hd)
 have HW:=Hd hw1
 unfold visF
 clear h h1 h2 h3 hn hg hd f1 n1 hw1
 go_enter Tryz.func107,Tryz.ntmps107
 go_upto_region 1 with fail
 refine wp_loop_rounds 2 ?_
 rw[rounds_succ]
 go_upto_region 3 with fail
 rw[HW.out]
 go_wp2_with ((go_at_call 165;(with_reducible refine HV.out.mono ?_);rintro e w2 ⟨rfl,hR⟩;have HR:=Hd hR;clear hR))
 rw[rounds_succ]
 go_wp2_with fail
 go_end0
 exact⟨rfl,HR.out⟩
theorem Visit_1 (w0 w:World) (pm pr pf pv m pg g n c:Nat) (A:Option Addr) (h:VSt w0 w pm pr pf pv m pg A n c [] []) (hl:n+2≤1000) (hg:BoxN w0 pg 111 #[.pointer (some ⟨g,0,none⟩)]) (hd:DDone w0 g) :
 Calls Tryz.prog 165 #[.int .i64 1,.pointer (some ⟨pm,0,none⟩),.pointer (some ⟨pr,0,none⟩),.pointer (some ⟨pf,0,none⟩),.pointer (some ⟨pv,0,none⟩)] w fun e w'=>e=.returned (.tuple #[])∧∃ A' c',VSt w0 w' pm pr pf pv m pg A' (n+2) c' [.int .i64 1,.int .i64 0] [(.int .i64 1,.bool true),(.int .i64 0,.bool true)] :=
 Visit_any 1 w0 w pm pr pf pv m pg n c A [] [] _ h keyOf_int1 (by simp) (by omega) (fun W A' c' hV=>Next_1 w0 W pm pr pf pv m pg g (n+1) c' A' _ _ hV (by simp) (by omega) hg hd)
theorem Reach_1 (b cl pg g:Nat) (w:World) (hb:Cs w b [.int .i64 1]) (hg:BoxN w pg 111 #[.pointer (some ⟨g,0,none⟩)]) (hd:DDone w g) :
 Calls Tryz.prog 106 #[.slice (some ⟨b,0,none⟩) 1 cl,nxtF pg] w fun e w'=>∃ r c,e=.returned (.slice (some ⟨r,0,none⟩) 2 c)∧Cs w' r [.int .i64 0,.int .i64 1]∧Fr [] w w'∧w.heap.size≤r:=by
 have HB:=Hd hb
 have HG:=Hd (And.intro hg hd)
 clear hb hg hd
 unfold nxtF
 obtain⟨w1,hw1,n1,f1⟩:=bxn w #[.func (.func 107) #[] #[.pointer (some ⟨pg,0,none⟩)]] 211
 have hz1:w1.heap.size=w.heap.size+1:=by rw[←hw1];simp
 obtain⟨w2,hw2⟩:=nmd (w1.alloc (.map #[] 0))
 have hz2:w2.heap.size=w.heap.size+1+1:=by rw[←hw2,World.size_alloc,hz1]
 have n2:MapIs Tryz.prog 3 w2 (w.heap.size+1) []:=by rw[←hw2,←hz1];exact MapIs.new w1
 have f2:Fr [] w1 w2:=by rw[←hw2];exact (Fr.refl [] w1).alloc _
 obtain⟨w3,hw3⟩:=nmd (w2.alloc (.cells #[.map (some (w.heap.size+1))] 143))
 have hz3:w3.heap.size=w.heap.size+1+1+1:=by rw[←hw3,World.size_alloc,hz2]
 have n3:BoxN w3 (w.heap.size+1+1) 143 #[.map (some (w.heap.size+1))]:=by rw[←hw3,←hz2];exact BoxN.new w2 _ _
 have f3:Fr [] w2 w3:=by rw[←hw3];exact (Fr.refl [] w2).alloc _
 obtain⟨w4,hw4⟩:=nmd (w3.alloc (.cells #[.slice none 0 0] 36))
 have hz4:w4.heap.size=w.heap.size+1+1+1+1:=by rw[←hw4,World.size_alloc,hz3]
 have n4:BoxN w4 (w.heap.size+1+1+1) 36 #[.slice none 0 0]:=by rw[←hw4,←hz3];exact BoxN.new w3 _ _
 have f4:Fr [] w3 w4:=by rw[←hw4];exact (Fr.refl [] w3).alloc _
 obtain⟨w5,hw5⟩:=nmd (w4.alloc (.cells #[.nilFunc] 130))
 have hz5:w5.heap.size=w.heap.size+1+1+1+1+1:=by rw[←hw5,World.size_alloc,hz4]
 have n5:BoxN w5 (w.heap.size+1+1+1+1) 130 #[.nilFunc]:=by rw[←hw5,←hz4];exact BoxN.new w4 _ _
 have f5:Fr [] w4 w5:=by rw[←hw5];exact (Fr.refl [] w4).alloc _
 have e0:=n5.k0
 have e1:=n5.f 0
 have HW:=Hd (And.intro hw1 (And.intro hw2 (And.intro hw3 (And.intro hw4 hw5))))
 have HNN:=Hd (And.intro ((((n1.fr f2 (by simp)).fr f3 (by simp)).fr f4 (by simp)).fr f5 (by simp)) (And.intro (((n2.fr f3 (by simp)).fr f4 (by simp)).fr f5 (by simp)) (And.intro ((n3.fr f4 (by simp)).fr f5 (by simp)) (And.intro (n4.fr f5 (by simp)) n5))))
 have HF:=Hd ((((f1.then f2).then f3).then f4).then f5)
 have HZ:=Hd hz5
 clear hw1 hw2 hw3 hw4 hw5 n1 n2 n3 n4 n5 f1 f2 f3 f4 f5 hz1 hz2 hz3 hz4 hz5
 have hmk:=run_makeMap (w.alloc (.cells #[.func (.func 107) #[] #[.pointer (some ⟨pg,0,none⟩)]] 211)) 143
 rw[World.size_alloc] at hmk
 go_enter Tryz.func106,Tryz.ntmps106
 go_upto_region 4 with fail
 rw[HW.out.1,HW.out.2.1,HW.out.2.2.1,HW.out.2.2.2.1,HW.out.2.2.2.2]
 go_upto_region 5 with fail
 obtain⟨w6,hw6⟩:=nmd (w5.setCell ⟨w.heap.size+1+1+1+1,0,none⟩ (visF (w.heap.size+1+1) (w.heap.size+1+1+1) w.heap.size (w.heap.size+1+1+1+1)))
 have n6:BoxN w6 (w.heap.size+1+1+1+1) 130 #[visF (w.heap.size+1+1) (w.heap.size+1+1+1) w.heap.size (w.heap.size+1+1+1+1)]:=by rw[←hw6];exact HNN.out.2.2.2.2.setAt 0 _
 have f6:Fr [w.heap.size+1+1+1+1] w5 w6:=by rw[←hw6];exact (Fr.refl _ w5).set (.inl (by simp)) _
 unfold visF at hw6
 rw[hw6]
 have hV:VSt w w6 (w.heap.size+1+1) (w.heap.size+1+1+1) w.heap.size (w.heap.size+1+1+1+1) (w.heap.size+1) pg none 0 0 [] []:=⟨HNN.out.2.2.1.fr f6 (by simp),HNN.out.2.2.2.1.fr f6 (by simp),HNN.out.1.fr f6 (by simp;omega),n6,HNN.out.2.1.fr f6 (by simp),Own.nil _ _ _,by omega,by simp[blk],by simp[blk];omega,HF.out.trans f6 (by simp;omega)⟩
 have hx:w6.cell? ⟨b,0,none⟩=some (.int .i64 1):=(HB.out.fr0 hV.f0).2 0 _ rfl
 have hy:=n6.k0
 unfold visF at hy
 have HV:=Hd (Visit_1 w w6 _ _ _ _ _ pg g 0 0 none hV (by omega) HG.out.1 HG.out.2)
 clear hV n6 f6 hw6 e0 e1 hmk
 go_wp2_with fail
 refine wp_loop_rounds 2 ?_
 rw[rounds_succ]
 go_wp2_with ((go_at_call 165;(with_reducible refine HV.out.mono ?_);rintro e w7 ⟨rfl,A7,c7,h7⟩;have ho7:=h7.own;rw[show (0+2:Nat)=2 from rfl] at ho7;obtain⟨r,rfl,hr⟩:=Cs.of_own ho7 (by omega);have q0:w7.cell? ⟨w.heap.size+1+1+1,0,none⟩=some (.slice (some ⟨r,0,none⟩) 2 c7):=h7.br.c 0;have HO7:=Hd ho7;have H7:=Hd h7;clear ho7 h7 hr))
 rw[rounds_succ]
 have HS:=Hd (SortI_10 r c7 w7 HO7.out)
 go_wp2_with ((go_at_call 166;(with_reducible refine HS.out.mono ?_);rintro e w8 ⟨rfl,h8,hf8⟩;have q1:w8.cell? ⟨w.heap.size+1+1+1,0,none⟩=some (.slice (some ⟨r,0,none⟩) 2 c7):=(H7.out.br.fr hf8 (by have:=H7.out.d2.2.1;simpa [blk] using this)).c 0;have H8:=Hd (And.intro h8 hf8);clear h8 hf8))
 go_ret
 have hrs:w.heap.size≤r:=H7.out.d3.2.2 r (by simp[blk])
 exact⟨r,c7,rfl,H8.out.1,H7.out.f0.trans H8.out.2 (by simp;exact hrs),hrs⟩
theorem Causes_1 (b cl g:Nat) (w:World) (hb:Cs w b [.int .i64 1]) (hd:DDone w g) :
 Calls Tryz.prog 46 #[.pointer (some ⟨g,0,none⟩),.slice (some ⟨b,0,none⟩) 1 cl] w fun e w'=>∃ r c,e=.returned (.tuple #[.slice (some ⟨r,0,none⟩) 2 c,.int .i64 0])∧Cs w' r [.int .i64 0,.int .i64 1]∧Fr [] w w':=by
 obtain⟨w1,hw1,n1,f1⟩:=bxn w #[.pointer (some ⟨g,0,none⟩)] 111
 have x0:=n1.k0
 have hd1:=hd.fr0 f1
 obtain⟨A,B,m,K,kc,lb,lc,lb3,lc3,h1,h2,h3⟩:=hd.fr0 f1
 have HC:=Hd (CheckG_one g b cl kc K _ _ _ w1 h1 (hb.fr0 f1))
 have HB:=Hd (hb.fr0 f1)
 have HN:=Hd (And.intro n1 (And.intro hd1 f1))
 have HW:=Hd hw1
 clear hw1 n1 f1 hd1 h1 h2 h3 hb hd
 go_enter Tryz.func46,Tryz.ntmps46
 go_upto_region 1 with fail
 rw[HW.out]
 go_wp2_with (first
  | (go_at_call 105;(with_reducible refine HC.out.mono ?_);rintro e w2 ⟨rfl,hf2⟩;have HR:Hid (Calls Tryz.prog 106 #[.slice (some ⟨b,0,none⟩) 1 cl,.func (.func 107) #[] #[.pointer (some ⟨w.heap.size,0,none⟩)]] w2 _):=Hd (Reach_1 b cl w.heap.size g w2 (HB.out.fr0 hf2) (HN.out.1.fr hf2 (by simp)) (HN.out.2.1.fr0 hf2));have HF2:=Hd hf2;clear hf2)
  | (go_at_call 106;(with_reducible refine HR.out.mono ?_);rintro e w3 ⟨r,c,rfl,hr,hf3,hrs⟩;have H3:=Hd (And.intro hr hf3);clear hr hf3))
 go_ret2
 exact⟨r,c,rfl,H3.out.1,(HN.out.2.2.then HF2.out).then H3.out.2⟩
end Go.Proofs.YtlpmiimgacfmkaaGreatDoor
