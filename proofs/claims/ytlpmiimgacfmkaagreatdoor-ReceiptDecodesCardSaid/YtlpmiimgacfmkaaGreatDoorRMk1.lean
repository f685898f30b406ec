/- receipt: Make for the second byte of the second port. -/
import Derived.Test.YtlpmiimgacfmkaaGreatDoorRCa1
import Derived.Test.YtlpmiimgacfmkaaGreatDoorRHi6
import Derived.Test.YtlpmiimgacfmkaaGreatDoorRHi5
set_option linter.all false
namespace Go.Proofs.YtlpmiimgacfmkaaGreatDoor
open Go.RowKit
set_option maxRecDepth 100000
set_option maxHeartbeats 4000000
theorem HistAt.fr0' {b:Nat} {l:List AV} {t:TR} {ds:List Nm} {kvs:List (Value × Value)} {M:List Nat} {w w':World} (h:HistAt w b l t ds kvs M) (hf:Fr [] w w'):HistAt w' b l t ds kvs M:=by
 obtain⟨pb,pl,bt,A,c,F,h,rfl⟩:=h
 exact⟨pb,pl,bt,A,c,F,⟨h.box.fr hf (by simp),h.own.fr hf (by simp),h.tree.fr hf (by simp),h.nb,h.nF,h.dj,h.st.fr0 hf,h.dst,h.kept.fr0 hf⟩,rfl⟩
def rcpt (v:Value):Value:=.agg #[.int .i64 16,.string ⟨#[]⟩,.int .i64 2,.int .i64 0,.string ⟨#[]⟩,.int .i64 1,.int .i64 3,v]
theorem info_proof:∃ i,(Tryz.prog).info? 53=some i∧i.zero=some (.agg #[.int .i64 0,.int .i64 0,.string ⟨#[]⟩,.slice none 0 0])∧i.size=4∧i.bytes=56:=info_parts (by kernel_rfl)
theorem Make_any (b:Nat) (q0 q1 q2:AV) (t:TR) (ds:List Nm) (kvs:List (Value × Value)) (M:List Nat) (xs0 xs1:List Nm) (w:World) (h:HistAt w b [q0,q1,q2] t ds kvs M) (hok:Ok w) (e0:q0.a=a0) (e1:q1.a=a1) (e2:q2.a=a2) (hl0:xs0.length=2) (hl1:xs1.length=2)
 (hI0:∀ W bt F,TreeAt W bt ds kvs F→Calls Tryz.prog 61 #[.pointer (some ⟨bt,0,none⟩),.int .i64 1,.int .i64 4] W (ListPost2 W xs0))
 (hI1:∀ W bt F,TreeAt W bt ds kvs F→Calls Tryz.prog 61 #[.pointer (some ⟨bt,0,none⟩),.int .i64 2,.int .i64 4] W (ListPost2 W xs1)) :
 Calls Tryz.prog 13 #[.pointer (some ⟨b,0,none⟩),.agg placeC,.int .i64 3] w fun e w'=>∃ g pc A0 c0 A1 c1,e=.returned (.tuple #[rcpt (.slice (some ⟨g,0,none⟩) 2 pc),.int .i64 0])∧Cs w' g [.int .i64 0,.int .i64 3,encN (encA a0),.slice A0 2 c0,.int .i64 1,.int .i64 3,encN (encA a1),.slice A1 2 c1]∧Own w' 57 32 A0 2 c0 (xs0.flatMap dCells)∧Own w' 57 32 A1 2 c1 (xs1.flatMap dCells)∧Fr [] w w':=by
 obtain⟨w1,hw1,n1,f1⟩:=bxn w (placeC) 33
 have hz1:w1.heap.size=w.heap.size+1:=by rw[←hw1];simp
 obtain⟨w2,hw2⟩:=nmd (w1.alloc (.cells #[.int .i64 0,.string ⟨#[]⟩,.int .i64 0,.int .i64 0,.string ⟨#[]⟩,.int .i64 0,.int .i64 0,.slice none 0 0] 39))
 have n2:BoxN w2 (w.heap.size+1) 39 #[.int .i64 0,.string ⟨#[]⟩,.int .i64 0,.int .i64 0,.string ⟨#[]⟩,.int .i64 0,.int .i64 0,.slice none 0 0]:=by rw[←hw2,←hz1];exact BoxN.new w1 _ _
 have f2:Fr [] w1 w2:=by rw[←hw2];exact (Fr.refl [] w1).alloc _
 have HF2:=Hd (f1.then f2)
 have HN:=Hd (And.intro (n1.fr f2 (by simp)) n2)
 have HW:=Hd (And.intro hw1 hw2)
 have HH:=Hd (h.fr0' HF2.out)
 have HOK:=Hd (hok.fr0 HF2.out)
 have HE:=Hd (And.intro e0 (And.intro e1 e2))
 have HI:=Hd (And.intro hI0 hI1)
 have hz2:w.heap.size+1<w2.heap.size:=n2.lt
 have HZ:=Hd hz2
 unfold placeC at HW ⊢
 clear hw1 hw2 n1 n2 f1 f2 hz1 hz2 h hok e0 e1 e2 hI0 hI1
 go_enter Tryz.func13,Tryz.ntmps13
 go_upto_region 1 with fail
 rw[HW.out.1,HW.out.2]
 have HL:=Hd (LenH_any b _ t ds kvs M w2 HH.out rfl)
 have HA:=Hd (ActionsH_3 b q0 q1 q2 t ds kvs M w2 HH.out)
 go_upto_region 6 with (first
  | (go_at_call 19;(with_reducible refine HL.out.mono ?_);rintro e w' ⟨rfl,rfl⟩)
  | (go_at_call 41;(with_reducible refine HA.out.mono ?_);rintro e w3 ⟨L,y0,y1,y2,rfl,e0,e1,e2,hL,hy,hf3⟩;have HY:=Hd (And.intro e0 (And.intro e1 (And.intro e2 (And.intro hL hy))));have HF3:=Hd hf3;clear e0 e1 e2 hL hy hf3))
 have HB:=Hd (BaseH_any b _ t ds kvs M w3 (HH.out.fr0' HF3.out))
 go_upto_region 9 with (first
  | (go_at_call 43;(with_reducible refine HB.out.mono ?_);rintro e w' ⟨p,rfl,hst,rfl⟩;have HV:=Hd (VBuild_3 p L 3 y0 y1 y2 w3 (HOK.out.fr0 HF3.out) hst HY.out.2.2.2.1 (HY.out.2.2.2.2 y0 (by simp)) (HY.out.2.2.2.2 y1 (by simp)) (HY.out.2.2.2.2 y2 (by simp)) (HY.out.1.trans HE.out.1) (HY.out.2.1.trans HE.out.2.1) (HY.out.2.2.1.trans HE.out.2.2));clear hst)
  | (go_at_call 42;(with_reducible refine HV.out.mono ?_);rintro e w4 ⟨vb,rfl,hvd,hf4⟩;have HVD:=Hd (And.intro hvd hf4);clear hvd hf4))
 have hf4:Fr [] w2 w4:=HF3.out.then HVD.out.2
 have hp4:=HN.out.1.fr hf4 (by simp)
 obtain⟨x0,x1,x2,x3,x4,x5⟩:=hp4.m6
 have hO:=Origin_any vb w4 HVD.out.1
 unfold placeC at hO
 have HO:=Hd hO
 have HF4:=Hd hf4
 clear hO hf4 hp4
 go_upto_region 14 with (go_at_call 44;(with_reducible refine HO.out.mono ?_);rintro e w5 ⟨rfl,hf5⟩;have HF5:=Hd (HF4.out.then hf5);have HVF:=Hd (HVD.out.2.then hf5);clear hf5)
 clear x0 x1 x2 x3 x4 x5 HO HV HB HA HL
 have HD:=Hd (DBuild_3 L 3 y0 y1 y2 w5 (HY.out.2.2.2.1.fr0 HVF.out) ((HY.out.2.2.2.2 y0 (by simp)).fr0 HVF.out) ((HY.out.2.2.2.2 y1 (by simp)).fr0 HVF.out) ((HY.out.2.2.2.2 y2 (by simp)).fr0 HVF.out) (HY.out.1.trans HE.out.1) (HY.out.2.1.trans HE.out.2.1) (HY.out.2.2.1.trans HE.out.2.2))
 go_upto_region 17 with (go_at_call 45;(with_reducible refine HD.out.mono ?_);rintro e w6 ⟨g,rfl,hd,hf6⟩;have HF6:=Hd (HF5.out.then hf6);have HDD:=Hd hd;clear hd hf6)
 have HC:=Hd (Causes_1 w6.heap.size 1 g (w6.alloc (.cells #[.int .i64 1] 3)) (Cs.of_box (BoxN.new w6 3 #[.int .i64 1])) (HDD.out.fr0 ((Fr.refl [] w6).alloc _)))
 go_upto_region 22 with (go_at_call 46;(with_reducible refine HC.out.mono ?_);rintro e w7 ⟨r,rc,rfl,hr,hf7⟩;have HF7:Hid (Fr [] w2 w7):=Hd ((HF6.out.alloc _).then hf7);have HR:=Hd hr;clear hr hf7)
 clear HD HC HDD
 have hp4:=HN.out.1.fr HF7.out (by simp)
 obtain⟨x0,x1,x2,x3,x4,x5⟩:=hp4.m6
 go_upto_region 23 with fail
 obtain⟨w8,hw8,n8,f8⟩:=bxn w7 #[.int .i64 16,.string ⟨#[]⟩,.int .i64 2,.int .i64 0,.string ⟨#[]⟩,.int .i64 1,.int .i64 3,.slice none 0 0] 39
 rw[hw8]
 have hF8:Fr [] w2 w8:=HF7.out.then f8
 have hz7:=HF7.out.size
 obtain⟨D,hD⟩:=nmd (w7.heap.size)
 rw[hD] at n8 hz7 ⊢
 have HDz:=Hd (And.intro hD hz7)
 have hRD:r≠D:=by have:=HR.out.1;rw[hD] at this;omega
 obtain⟨s0,hs0⟩:∃ s,encN (encA a0)=Value.string s:=⟨_,rfl⟩
 obtain⟨s1,hs1⟩:∃ s,encN (encA a1)=Value.string s:=⟨_,rfl⟩
 clear hw8 x0 x1 x2 x3 x4 x5 hp4 hD hz7
 go_wp2_with fail
 refine wp_loop_rounds 3 ?_
 have HFR:=f8
 have HFX:=hF8
 rw[rounds_succ]
 have hP:Calls Tryz.prog 20 #[.pointer (some ⟨b,0,none⟩),.int .i64 0,.int .i64 3] w8 fun e w'=>∃ A c,e=.returned (.tuple #[.agg #[.int .i64 0,.int .i64 3,.string s0,.slice A 2 c],.int .i64 0])∧Own w' 57 32 A 2 c (xs0.flatMap dCells)∧Fr [] w8 w'∧∀ k∈blk A,(w8).heap.size≤k:=(ProveH_0 b q0 q1 q2 t ds kvs M xs0 w8 (HH.out.fr0' HFX) (HOK.out.fr0 HFX) (by rw[HE.out.1];exact a0_good) HI.out.1).mono (by
  rintro e w' ⟨A,c,rfl,ho,hf,hk⟩
  rw[HE.out.1,hs0,hl0]
  rw[hl0] at ho
  exact⟨A,c,rfl,ho,hf,hk⟩)
 have HP:=Hd hP
 have zr:(w8).cell? ⟨r,0,none⟩=some (.int .i64 0):=(HR.out.fr0 HFR).2 0 _ rfl
 clear hP
 go_upto_region 29 with (go_at_call 20;(with_reducible refine HP.out.mono ?_);rintro e v9 ⟨A0,c0,rfl,ho9,hf9,hk9⟩;have HO9:=Hd ho9;have HF9:=Hd hf9;have HK9:=Hd hk9;clear ho9 hf9 hk9)
 clear zr HP
 obtain⟨v10,hv10,n10,f10⟩:=bxn v9 #[.int .i64 0,.int .i64 3,.string s0,.slice A0 2 c0] 53
 rw[hv10]
 have fX10:=HF9.out.then f10
 have hd10:=n8.fr fX10 (by simp)
 obtain⟨y0,y1,y2,y3⟩:=n10.m4
 have y7:=hd10.k7
 have HO10:=Hd ((Own.nil w8 53 4).fr fX10 (by simp))
 have HD10:=Hd hd10
 have HFX10:=Hd fX10
 have HQ:=Hd (HO9.out.fr f10 (by simp))
 clear hv10 n10 f10 fX10 hd10 HO9
 obtain⟨ii,hii,iz0,iz1,iz2⟩:=info_proof
 go_upto_region 30 with (at_builtin;(with_reducible refine wpList_app_tmp (w:=v10) rfl (.tmp 105) (.tmp 107) 37 rfl 53 ii _ 4 56 Tryz.underlying37 hii iz0 iz1 iz2 rfl (by decide) none 0 0 [] rfl HO10.out 1 1 [.int .i64 0,.int .i64 3,.string s0,.slice A0 2 c0] 53 rfl rfl (by simp[Value.oneCell']) (by unfold maxLen;omega) (by omega) ?_);intro PA1 pc1 v11 ho hf hs;rw[show (0+1:Nat)=1 from rfl] at ho ⊢;have hb11:=HD10.out.fr hf (by (simp[blk]));have e0:v11.cell? ⟨D,7,none⟩=some (.slice none 0 0):=hb11.c 7;have e1:=hb11.f 7;have H11:=Hd (And.intro ho (And.intro hf (And.intro hs hb11)));clear ho hf hs hb11)
 obtain⟨w9,hY⟩:=nmd (v11.setCell ⟨D,7,none⟩ (.slice PA1 1 pc1))
 have hbY:BoxN w9 D 39 #[.int .i64 16,.string ⟨#[]⟩,.int .i64 2,.int .i64 0,.string ⟨#[]⟩,.int .i64 1,.int .i64 3,.slice PA1 1 pc1]:=by rw[←hY];exact H11.out.2.2.2.setAt 7 _
 have fY:Fr [D] v11 w9:=by rw[←hY];exact (Fr.refl [D] v11).set (.inl (by simp)) _
 rw[hY]
 clear y0 y1 y2 y3 y7 e0 e1 hY iz0 iz1 iz2 hii
 have z8:D<w8.heap.size:=n8.lt
 have z10:D<v10.heap.size:=HD10.out.lt
 have hF9:Fr [] w2 w9:=((hF8.then HFX10.out).trans H11.out.2.1 (by simp[blk])).trans fY (by simp;have:=HDz.out.2;omega)
 have hR9:Fr [] w7 w9:=((f8.then HFX10.out).trans H11.out.2.1 (by simp[blk])).trans fY (by simp;have:=HDz.out.1;omega)
 have hDP:D ∉ blk PA1:=fun hm=>by
  rcases H11.out.2.2.1 D hm with h | h
  ·simp[blk] at h
  ·omega
 have hO9:=H11.out.1.fr fY (by intro k hk;simp only[List.mem_singleton];rintro rfl;exact hDP hk)
 have hDA:D ∉ blk A0:=fun hm=>by have:=HK9.out D hm;omega
 have hQ9:=(HQ.out.fr H11.out.2.1 (by simp[blk])).fr fY (by intro k hk;simp only[List.mem_singleton];rintro rfl;exact hDA hk)
 have hAP:∀ k∈blk A0,k ∉ blk PA1:=fun k hk hm=>by
  have h1:=HQ.out.lt k hk
  rcases H11.out.2.2.1 k hm with h | h
  ·simp[blk] at h
  ·omega
 have n9:=hbY
 have hA0z:∀ k∈blk A0,w2.heap.size≤k:=fun k hk=>Nat.le_trans hF8.size (HK9.out k hk)
 have hPw:∀ k∈blk PA1,w2.heap.size≤k:=fun k hk=>by
  have hz:=(hF8.then HFX10.out).size
  rcases H11.out.2.2.1 k hk with h | h
  ·simp[blk] at h
  ·omega
 have HT:=Hd (And.intro hF9 (And.intro hR9 (And.intro hDP (And.intro hO9 (And.intro hDA (And.intro hQ9 (And.intro hAP (And.intro n9 (And.intro hPw hA0z)))))))))
 clear hA0z hPw z8 z10 hF9 hR9 hDP hO9 hDA hQ9 hAP n9 hbY fY HQ H11 HFX10 HD10 HO10 HK9 HFR HFX n8 f8 hF8 HF9
 go_wp2_with fail
 have HFR:=HT.out.2.1
 have HFX:=HT.out.1
 rw[rounds_succ]
 have hP:Calls Tryz.prog 20 #[.pointer (some ⟨b,0,none⟩),.int .i64 1,.int .i64 3] w9 fun e w'=>∃ A c,e=.returned (.tuple #[.agg #[.int .i64 1,.int .i64 3,.string s1,.slice A 2 c],.int .i64 0])∧Own w' 57 32 A 2 c (xs1.flatMap dCells)∧Fr [] w9 w'∧∀ k∈blk A,(w9).heap.size≤k:=(ProveH_1 b q0 q1 q2 t ds kvs M xs1 w9 (HH.out.fr0' HFX) (HOK.out.fr0 HFX) (by rw[HE.out.2.1];exact a1_good) HI.out.2).mono (by
  rintro e w' ⟨A,c,rfl,ho,hf,hk⟩
  rw[HE.out.2.1,hs1,hl1]
  rw[hl1] at ho
  exact⟨A,c,rfl,ho,hf,hk⟩)
 have HP:=Hd hP
 have zr:(w9).cell? ⟨r,1,none⟩=some (.int .i64 1):=(HR.out.fr0 HFR).2 1 _ rfl
 clear hP
 go_upto_region 29 with (go_at_call 20;(with_reducible refine HP.out.mono ?_);rintro e v9 ⟨A1,c1,rfl,ho9,hf9,hk9⟩;have HO9:=Hd ho9;have HF9:=Hd hf9;have HK9:=Hd hk9;clear ho9 hf9 hk9)
 clear zr HP
 obtain⟨v10,hv10,n10,f10⟩:=bxn v9 #[.int .i64 1,.int .i64 3,.string s1,.slice A1 2 c1] 53
 rw[hv10]
 have fX10:=HF9.out.then f10
 have hd10:=HT.out.2.2.2.2.2.2.2.1.fr fX10 (by simp)
 obtain⟨y0,y1,y2,y3⟩:=n10.m4
 have y7:=hd10.k7
 have HO10:=Hd (HT.out.2.2.2.1.fr fX10 (by simp))
 have HD10:=Hd hd10
 have HFX10:=Hd fX10
 have HQ:=Hd (HO9.out.fr f10 (by simp))
 clear hv10 n10 f10 fX10 hd10 HO9
 obtain⟨ii,hii,iz0,iz1,iz2⟩:=info_proof
 go_upto_region 30 with (at_builtin;(with_reducible refine wpList_app_tmp (w:=v10) rfl (.tmp 105) (.tmp 107) 37 rfl 53 ii _ 4 56 Tryz.underlying37 hii iz0 iz1 iz2 rfl (by decide) PA1 1 pc1 _ rfl HO10.out 1 1 [.int .i64 1,.int .i64 3,.string s1,.slice A1 2 c1] 53 rfl rfl (by simp[Value.oneCell']) (by unfold maxLen;omega) (by omega) ?_);intro PA2 pc2 v11 ho hf hs;rw[show (1+1:Nat)=2 from rfl] at ho ⊢;have hb11:=HD10.out.fr hf (by (exact HT.out.2.2.1));have e0:v11.cell? ⟨D,7,none⟩=some (.slice PA1 1 pc1):=hb11.c 7;have e1:=hb11.f 7;have H11:=Hd (And.intro ho (And.intro hf (And.intro hs hb11)));clear ho hf hs hb11)
 obtain⟨w10,hY⟩:=nmd (v11.setCell ⟨D,7,none⟩ (.slice PA2 2 pc2))
 have hbY:BoxN w10 D 39 #[.int .i64 16,.string ⟨#[]⟩,.int .i64 2,.int .i64 0,.string ⟨#[]⟩,.int .i64 1,.int .i64 3,.slice PA2 2 pc2]:=by rw[←hY];exact H11.out.2.2.2.setAt 7 _
 have fY:Fr [D] v11 w10:=by rw[←hY];exact (Fr.refl [D] v11).set (.inl (by simp)) _
 rw[hY]
 clear y0 y1 y2 y3 y7 e0 e1 hY iz0 iz1 iz2 hii
 have z9:D<w9.heap.size:=HT.out.2.2.2.2.2.2.2.1.lt
 have z10:D<v10.heap.size:=HD10.out.lt
 have hPn:∀ k∈blk PA1,w2.heap.size≤k:=HT.out.2.2.2.2.2.2.2.2.1
 have hF10:Fr [] w2 w10:=((HT.out.1.then HFX10.out).trans H11.out.2.1 (fun k hk=>.inr (hPn k hk))).trans fY (by simp;have:=HDz.out.2;omega)
 have hDA:D ∉ blk A1:=fun hm=>by have:=HK9.out D hm;omega
 have hQ10:=(HQ.out.fr H11.out.2.1 (fun k hk hm=>by have h1:=HK9.out k hk;have h2:=HT.out.2.2.2.1.lt k hm;omega)).fr fY (by intro k hk;simp only[List.mem_singleton];rintro rfl;exact hDA hk)
 have hA10:=((HT.out.2.2.2.2.2.1.fr HFX10.out (by simp)).fr H11.out.2.1 HT.out.2.2.2.2.2.2.1).fr fY (by intro k hk;simp only[List.mem_singleton];rintro rfl;exact HT.out.2.2.2.2.1 hk)
 have hO10:=H11.out.1
 obtain⟨pg,rfl,hpg⟩:=Cs.of_own hO10 (by omega)
 have hgD:pg≠D:=fun e=>by
  rcases H11.out.2.2.1 pg (by simp[blk]) with h | h
  ·rw[e] at h;exact HT.out.2.2.1 h
  ·omega
 have hpg10:=hpg.fr fY (by simpa using hgD)
 have hR10:=HN.out.2.fr hF10 (by simp)
 have hpz:w2.heap.size≤pg:=by
  rcases H11.out.2.2.1 pg (by simp[blk]) with h | h
  ·exact hPn pg h
  ·have h1:=(HT.out.1.then HFX10.out).size;omega
 have hA1z:∀ k∈blk A1,w2.heap.size≤k:=fun k hk=>Nat.le_trans HT.out.1.size (HK9.out k hk)
 have HPZ:=Hd (And.intro hpz (And.intro hA1z HT.out.2.2.2.2.2.2.2.2.2))
 clear hpz hA1z
 obtain⟨g0,g1,g2,g3,g4,g5,g6,g7⟩:=hbY.m8
 obtain⟨u0,u1,u2,u3,u4,u5,u6,u7⟩:=hR10.m8
 have v0:=hR10.f 0
 have v1:=hR10.f 1
 have v2:=hR10.f 2
 have v3:=hR10.f 3
 have v4:=hR10.f 4
 have v5:=hR10.f 5
 have v6:=hR10.f 6
 have v7:=hR10.f 7
 have HU:=Hd (And.intro hF10 (And.intro hQ10 (And.intro hA10 (And.intro hpg10 hR10))))
 clear z9 z10 hPn hF10 hDA hQ10 hA10 hO10 hpg hgD hpg10 HFR HFX fY HQ H11 HFX10 HD10 HO10 HK9 HF9 hbY hR10
 go_wp2_with fail
 rw[rounds_succ]
 go_wp2_with fail
 obtain⟨w11,hw11⟩:=nmd ((((((((w10.setCell ⟨w.heap.size+1,0,none⟩ (.int .i64 16)).setCell ⟨w.heap.size+1,1,none⟩ (.string ⟨#[]⟩)).setCell ⟨w.heap.size+1,2,none⟩ (.int .i64 2)).setCell ⟨w.heap.size+1,3,none⟩ (.int .i64 0)).setCell ⟨w.heap.size+1,4,none⟩ (.string ⟨#[]⟩)).setCell ⟨w.heap.size+1,5,none⟩ (.int .i64 1)).setCell ⟨w.heap.size+1,6,none⟩ (.int .i64 3)).setCell ⟨w.heap.size+1,7,none⟩ (.slice (some ⟨pg,0,none⟩) 2 pc2))
 have hb11:BoxN w11 (w.heap.size+1) 39 #[.int .i64 16,.string ⟨#[]⟩,.int .i64 2,.int .i64 0,.string ⟨#[]⟩,.int .i64 1,.int .i64 3,.slice (some ⟨pg,0,none⟩) 2 pc2]:=by rw[←hw11];exact (((((((HU.out.2.2.2.2.setAt 0 _).setAt 1 _).setAt 2 _).setAt 3 _).setAt 4 _).setAt 5 _).setAt 6 _).setAt 7 _
 have f11:Fr [w.heap.size+1] w10 w11:=by rw[←hw11];exact (((((((((Fr.refl [w.heap.size+1] w10).set (.inl (by simp)) _).set (.inl (by simp)) _).set (.inl (by simp)) _).set (.inl (by simp)) _).set (.inl (by simp)) _).set (.inl (by simp)) _).set (.inl (by simp)) _).set (.inl (by simp)) _)
 rw[hw11]
 obtain⟨t0,t1,t2,t3,t4,t5,t6,t7⟩:=hb11.m8
 clear hw11 u0 u1 u2 u3 u4 u5 u6 u7 v0 v1 v2 v3 v4 v5 v6 v7 g0 g1 g2 g3 g4 g5 g6 g7
 refine bodyPost_ret (v:=.tuple #[rcpt (.slice (some ⟨pg,0,none⟩) 2 pc2),.int .i64 0]) (by simp[results,Tryz.results13,rcpt,go_sem,t0,t1,t2,t3,t4,t5,t6,t7]) rfl ?_
 rw[hs0,hs1]
 exact⟨pg,pc2,A0,c0,A1,c1,rfl,HU.out.2.2.2.1.fr f11 (by have h1:=HPZ.out.1;have h2:=HZ.out;simp;omega),HU.out.2.2.1.fr f11 (by intro k hk;have h1:=HPZ.out.2.2 k hk;have h2:=HZ.out;simp;omega),HU.out.2.1.fr f11 (by intro k hk;have h1:=HPZ.out.2.1 k hk;have h2:=HZ.out;simp;omega),(HF2.out.then HU.out.1).trans f11 (by simp)⟩
theorem LastW_any (ca xc cb xd:Nat) (w:World) (hc:Cs w cb (chC 2 ⟨#[121,122]⟩ false)) :
 Calls Tryz.prog 64 #[.agg #[.int .i64 2,.int .i64 0,.int .i64 2,.string ⟨#[]⟩,.slice (some ⟨ca,0,none⟩) 1 xc,.slice (some ⟨cb,0,none⟩) 1 xd],portV 2] w (RetPost w (.tuple #[.agg #[.int .i64 16,.string ⟨#[]⟩,.int .i64 2,.int .i64 0,.string ⟨#[]⟩,.string ⟨#[121,122]⟩,.bool false],.bool true])):=by
 obtain⟨w1,hw1,n1,f1⟩:=bxn w #[.int .i64 2,.int .i64 0,.int .i64 2,.string ⟨#[]⟩,.slice (some ⟨ca,0,none⟩) 1 xc,.slice (some ⟨cb,0,none⟩) 1 xd] 91
 have hz1:w1.heap.size=w.heap.size+1:=by rw[←hw1];simp
 obtain⟨w2,hw2⟩:=nmd (w1.alloc (.cells #[.int .i64 16,.string ⟨#[]⟩,.int .i64 2,.int .i64 0,.string ⟨#[]⟩] 31))
 have hz2:w2.heap.size=w.heap.size+1+1:=by rw[←hw2,World.size_alloc,hz1]
 have n2:BoxN w2 (w.heap.size+1) 31 #[.int .i64 16,.string ⟨#[]⟩,.int .i64 2,.int .i64 0,.string ⟨#[]⟩]:=by rw[←hw2,←hz1];exact BoxN.new w1 _ _
 have f2:Fr [] w1 w2:=by rw[←hw2];exact (Fr.refl [] w1).alloc _
 obtain⟨w3,hw3⟩:=nmd (w2.alloc (.cells #[.int .i64 0,.string ⟨#[]⟩,.int .i64 0,.int .i64 0,.string ⟨#[]⟩,.string ⟨#[]⟩,.bool false] 95))
 have n3:BoxN w3 (w.heap.size+1+1) 95 #[.int .i64 0,.string ⟨#[]⟩,.int .i64 0,.int .i64 0,.string ⟨#[]⟩,.string ⟨#[]⟩,.bool false]:=by rw[←hw3,←hz2];exact BoxN.new w2 _ _
 have f3:Fr [] w2 w3:=by rw[←hw3];exact (Fr.refl [] w2).alloc _
 have hf3:=(f1.then f2).then f3
 have m1:=(n1.fr f2 (by simp)).fr f3 (by simp)
 have x5:=m1.k5
 have hc3:=hc.fr0 hf3
 unfold chC at hc3
 obtain⟨z0,z1,z2,z3,z4,z5,z6⟩:=hc3.m7
 have HW:=Hd (And.intro hw1 (And.intro hw2 hw3))
 have HN:=Hd (And.intro (n2.fr f3 (by simp)) (And.intro n3 hf3))
 clear hw1 hw2 hw3 n1 n2 n3 f1 f2 f3 hf3 m1 hc3 hz1 hz2 hc
 unfold portV
 go_enter Tryz.func64,Tryz.ntmps64
 go_upto_region 1 with fail
 rw[HW.out.1,HW.out.2.1,HW.out.2.2]
 go_wp2_with fail
 refine wp_loop_rounds 2 ?_
 rw[rounds_succ]
 go_upto_region 4 with fail
 obtain⟨w4,hw4,n4,f4⟩:=bxn w3 #[.int .i64 16,.string ⟨#[]⟩,.int .i64 2,.int .i64 0,.string ⟨#[]⟩,.string ⟨#[121,122]⟩,.bool false] 95
 rw[hw4]
 have m2:=HN.out.1.fr f4 (by simp)
 obtain⟨y0,y1,y2,y3,y4⟩:=m2.m5
 obtain⟨k0,k1,k2,k3,k4,k5,k6⟩:=n4.m7
 have hr:=HN.out.2.1.fr f4 (by simp)
 obtain⟨u0,u1,u2,u3,u4,u5,u6⟩:=hr.m7
 have v0:=hr.f 0
 have v1:=hr.f 1
 have v2:=hr.f 2
 have v3:=hr.f 3
 have v4:=hr.f 4
 have v5:=hr.f 5
 have v6:=hr.f 6
 have HR:=Hd (And.intro hr (HN.out.2.2.then f4))
 clear hr
 go_wp2_with fail
 obtain⟨w5,hw5⟩:=nmd ((((((((w4.setCell ⟨w.heap.size+1+1,0,none⟩ (.int .i64 16)).setCell ⟨w.heap.size+1+1,1,none⟩ (.string ⟨#[]⟩)).setCell ⟨w.heap.size+1+1,2,none⟩ (.int .i64 2)).setCell ⟨w.heap.size+1+1,3,none⟩ (.int .i64 0)).setCell ⟨w.heap.size+1+1,4,none⟩ (.string ⟨#[]⟩)).setCell ⟨w.heap.size+1+1,5,none⟩ (.string ⟨#[121,122]⟩)).setCell ⟨w.heap.size+1+1,6,none⟩ (.bool false)))
 have hb5:BoxN w5 (w.heap.size+1+1) 95 #[.int .i64 16,.string ⟨#[]⟩,.int .i64 2,.int .i64 0,.string ⟨#[]⟩,.string ⟨#[121,122]⟩,.bool false]:=by rw[←hw5];exact (((((((HR.out.1.setAt 0 _).setAt 1 _).setAt 2 _).setAt 3 _).setAt 4 _).setAt 5 _).setAt 6 _)
 have f5:Fr [w.heap.size+1+1] w4 w5:=by rw[←hw5];exact ((((((((Fr.refl [w.heap.size+1+1] w4).set (.inl (by simp)) _).set (.inl (by simp)) _).set (.inl (by simp)) _).set (.inl (by simp)) _).set (.inl (by simp)) _).set (.inl (by simp)) _).set (.inl (by simp)) _)
 rw[hw5]
 obtain⟨t0,t1,t2,t3,t4,t5,t6⟩:=hb5.m7
 refine bodyPost_ret (v:=.tuple #[.agg #[.int .i64 16,.string ⟨#[]⟩,.int .i64 2,.int .i64 0,.string ⟨#[]⟩,.string ⟨#[121,122]⟩,.bool false],.bool true]) (by simp[results,Tryz.results64,go_sem,t0,t1,t2,t3,t4,t5,t6]) rfl ?_
 exact⟨rfl,HR.out.2.trans f5 (by simp;omega)⟩
def Ver0 (w:World) (e:Ending) (w':World):Prop:=∃ RA rc cb rd,e=.returned (.tuple #[.agg #[.int .i64 1,.int .i64 0,.int .i64 1,.string ⟨#[]⟩,.slice RA 0 rc,.slice (some ⟨cb,0,none⟩) 1 rd],.int .i64 0])∧Fr [] w w'∧Cs w' cb (chC 1 ⟨#[120]⟩ false)
def Ver1 (w:World) (e:Ending) (w':World):Prop:=∃ ca rc cb rd,e=.returned (.tuple #[.agg #[.int .i64 2,.int .i64 0,.int .i64 2,.string ⟨#[]⟩,.slice (some ⟨ca,0,none⟩) 1 rc,.slice (some ⟨cb,0,none⟩) 1 rd],.int .i64 0])∧Fr [] w w'∧(Cs w' ca (chC 1 ⟨#[120]⟩ false)∧Cs w' cb (chC 2 ⟨#[121,122]⟩ false))∧w.heap.size≤ca∧w.heap.size≤cb
theorem Ver0.of {w:World} {e:Ending} {w':World} (h:DecAPost w a0 e w'):Ver0 w e w':=by
 obtain⟨A,c,B,d,rfl,hf,_,hB,_,_⟩:=h
 obtain⟨cb,rfl,hb⟩:=hB
 exact⟨A,c,cb,d,rfl,hf,hb⟩
theorem Ver1.of {w:World} {e:Ending} {w':World} (h:DecAPost w a1 e w'):Ver1 w e w':=by
 obtain⟨A,c,B,d,rfl,hf,hA,hB,kA,kB⟩:=h
 obtain⟨ca,rfl,ha⟩:=hA
 obtain⟨cb,rfl,hb⟩:=hB
 exact⟨ca,c,cb,d,rfl,hf,⟨ha,hb⟩,kA ca (by simp[blk]),kB cb (by simp[blk])⟩
theorem Verified_any (rt:Nm) (hr32:rt.length=32) (g pc c0 c1:Nat) (A0 A1:Option Addr) (s0 s1:ByteArray) (w:World) (hok:Ok w) (hg:Cs w g [.int .i64 0,.int .i64 3,.string s0,.slice A0 2 c0,.int .i64 1,.int .i64 3,.string s1,.slice A1 2 c1])
 (hV0:∀ W,Fr [] w W→Calls Tryz.prog 66 #[encD rt,.agg #[.int .i64 0,.int .i64 3,.string s0,.slice A0 2 c0]] W (Ver0 W))
 (hV1:∀ W,Fr [] w W→Calls Tryz.prog 66 #[encD rt,.agg #[.int .i64 1,.int .i64 3,.string s1,.slice A1 2 c1]] W (Ver1 W)) :
 Calls Tryz.prog 63 #[rcpt (.slice (some ⟨g,0,none⟩) 2 pc),encD rt] w fun e w'=>∃ L lc RA rc cb0 rd ca1 rc1 cb1 rd1,e=.returned (.tuple #[.slice (some ⟨L,0,none⟩) 2 lc,.int .i64 0])∧Cs w' L [.int .i64 1,.int .i64 0,.int .i64 1,.string ⟨#[]⟩,.slice RA 0 rc,.slice (some ⟨cb0,0,none⟩) 1 rd,.int .i64 2,.int .i64 0,.int .i64 2,.string ⟨#[]⟩,.slice (some ⟨ca1,0,none⟩) 1 rc1,.slice (some ⟨cb1,0,none⟩) 1 rd1]∧Cs w' cb0 (chC 1 ⟨#[120]⟩ false)∧Cs w' ca1 (chC 1 ⟨#[120]⟩ false)∧Cs w' cb1 (chC 2 ⟨#[121,122]⟩ false)∧Fr [] w w':=by
 have hcr:(dCells rt).length=32:=by rw[dcells_len,hr32]
 obtain⟨w1,hw1,n1,f1⟩:=bxn w #[.int .i64 16,.string ⟨#[]⟩,.int .i64 2,.int .i64 0,.string ⟨#[]⟩,.int .i64 1,.int .i64 3,.slice (some ⟨g,0,none⟩) 2 pc] 39
 have hz1:w1.heap.size=w.heap.size+1:=by rw[←hw1];simp
 obtain⟨w2,hw2⟩:=nmd (w1.alloc (.cells (dCells rt).toArray 57))
 have hL2:w2.rowIs (w.heap.size+1) 57 32 (fun j=>.int .u8 ((rt.getD j 0).toNat:Int)):=by rw[←hw2,←hz1];exact row_cells w1 hcr
 have f2:Fr [] w1 w2:=by rw[←hw2];exact (Fr.refl [] w1).alloc _
 have n2:=n1.fr f2 (by simp)
 obtain⟨x0,x1,x2,x3,x4,x5,x6,x7⟩:=n2.m8
 have HW:=Hd (And.intro hw1 hw2)
 have HN:=Hd (And.intro n2 (And.intro hL2 (f1.then f2)))
 have HOK:=Hd hok
 have HG:=Hd (And.intro hg (And.intro hV0 hV1))
 clear hw1 hw2 n1 n2 f1 f2 hL2 hz1 hok hg hV0 hV1
 unfold rcpt encD
 go_enter Tryz.func63,Tryz.ntmps63
 go_upto_region 1 with fail
 rw[HW.out.1,HW.out.2]
 go_upto_region 5 with fail
 have HC:Hid (Calls Tryz.prog 53 #[.agg #[.int .i64 16,.string ⟨#[]⟩,.int .i64 2,.int .i64 0,.string ⟨#[]⟩]] w2 (ChkPost w2 0)):=Hd (by
  have h:=Check_any (portN 2) w2 (HOK.out.fr0 HN.out.2.2) (by simp[portN]) (by simp[portN])
  rw[good2.ck] at h
  exact h)
 go_upto_region 8 with (go_at_call 53;(with_reducible refine HC.out.mono ?_);rintro e w3 ⟨rfl,hf3⟩;have HF3:=Hd (HN.out.2.2.then hf3);have m3:=HN.out.1.fr hf3 (by simp);have y5:w3.cell? ⟨w.heap.size,5,none⟩=some (.int .i64 1):=m3.c 5;have y7:w3.cell? ⟨w.heap.size,7,none⟩=some (.slice (some ⟨g,0,none⟩) 2 pc):=m3.c 7;have H3:=Hd (And.intro m3 hf3);clear hf3 m3)
 go_wp2_with fail
 refine wp_loop_rounds 3 ?_
 rw[rounds_succ]
 have hg3:=HG.out.1.fr0 HF3.out
 obtain⟨z0,z1,z2,z3⟩:=hg3.m4
 clear hg3
 go_upto_region 14 with fail
 have HX2:=Hd H3.out.2
 obtain⟨v4,hv4,n4,f4⟩:=bxn w3 #[.int .i64 0,.int .i64 3,.string s0,.slice A0 2 c0] 53
 rw[hv4]
 have hF4:=(HF3.out).then f4
 have hXv4:=f4
 have hm4:=HN.out.1.fr (show Fr [] w2 v4 from HX2.out.then f4) (by simp)
 have p1:=n4.k1
 have r6:=hm4.k6
 have HF4:=Hd hF4
 have HN4:=Hd n4
 have HM4:=Hd hm4
 have HX4:=Hd (HX2.out.then f4)
 clear hv4 n4 f4 hF4 hm4
 go_upto_region 16 with fail
 have HSS:=Hd (fun (W:World) (hW:Fr [] v4 W)=>(⟨(HN4.out.fr hW (by simp)).c 0,(HM4.out.fr hW (by simp)).c 7,(HG.out.1.fr0 (HF4.out.then hW)).2 0 _ rfl⟩:W.cell? ⟨(w3).heap.size,0,none⟩=some (.int .i64 0)∧W.cell? ⟨w.heap.size,7,none⟩=some (.slice (some ⟨g,0,none⟩) 2 pc)∧W.cell? ⟨g,0,none⟩=some (.int .i64 0)))
 have hwr:IntKind.i64.wrap 0=0:=by decide
 refine wp_region_qall (fun W=>Fr [] v4 W) (by kernel_rfl) (by kernel_rfl) ((Fr.refl _ v4).drew) ?_
 repeat (
  first
  | go_big_quiet_skip
  | (go_big_quiet_want
     first
     | (go_big_quiet_op
        go_big_quiet_on)
     | (apply Exists.intro
        refine⟨fun W hW=>?_,?_⟩
        ·(obtain⟨a0',a7',g0'⟩:=HSS.out W hW
          go_simp
          first
          | done
          | (with_reducible exact rfl)
          | (with_reducible exact⟨rfl,rfl⟩)
          | (fail))
        simp only[Act.put,qA,qB,qC]
        go_big_quiet_on))
  )
 refine wpQuiet_nil ?_
 intro v5 hv5
 clear HSS hwr p1 r6
 have n5:=HN4.out.fr hv5 (by simp)
 obtain⟨p0,p1,p2,p3⟩:=n5.m4
 have hF5:=HF4.out.then hv5
 have HRT:=Hd (row_range (rowIs_fr HN.out.2.1 (HX4.out.then hv5) (by simp)) hr32)
 have hVc:=HG.out.2.1 v5 hF5
 unfold encD at hVc
 have HVc:=Hd hVc
 have HF5:=Hd hF5
 have HX5:=Hd (HX4.out.then hv5)
 have HX5w:Hid (Fr [] w3 v5):=Hd (hXv4.then hv5)
 clear n5 hVc hF5 hv5
 go_upto_region 19 with (first
  | (refine wpList_wanted (by rfl) ?_;(with_reducible refine wp_load_mid 57 (.tmp 3) rfl (w.heap.size+1) 0 rfl (dCells rt) (.array 32 5) HRT.out (by kernel_rfl) rfl (by rw[hcr];kernel_rfl) ?_))
  | (go_at_call 66;(with_reducible refine HVc.out.mono ?_);rintro e v6 ⟨ra0,rc0,rb0,rd0,rfl,hf6,hra⟩;have H6:=Hd (And.intro hf6 hra);clear hf6 hra))
 obtain⟨v7,hv7,n7,f7⟩:=bxn v6 #[.int .i64 1,.int .i64 0,.int .i64 1,.string ⟨#[]⟩,.slice ra0 0 rc0,.slice (some ⟨rb0,0,none⟩) 1 rd0] 91
 rw[hv7]
 obtain⟨q0,q1,q2,q3,q4,q5⟩:=n7.m6
 try simp only[List.getElem?_toArray,List.getElem?_cons_zero,List.getElem?_cons_succ] at q0 q1 q2 q3 q4 q5
 have HF7:=Hd f7
 have HO7:=Hd (Own.nil v7 91 6)
 clear hv7 n7 f7
 obtain⟨ii,hii,iz0,iz1,iz2⟩:∃ i,(Tryz.prog).info? 91=some i∧i.zero=some (.agg actZ)∧i.size=6∧i.bytes=88:=info_parts (by kernel_rfl)
 go_upto_region 22 with (at_builtin;(with_reducible refine wpList_app_tmp (w:=v7) rfl (.tmp 73) (.tmp 75) 22 rfl 91 ii _ 6 88 Tryz.underlying22 hii iz0 iz1 iz2 rfl (by decide) none 0 0 [] rfl HO7.out 1 1 [.int .i64 1,.int .i64 0,.int .i64 1,.string ⟨#[]⟩,.slice ra0 0 rc0,.slice (some ⟨rb0,0,none⟩) 1 rd0] 91 rfl rfl (by simp[Value.oneCell']) (by unfold maxLen;omega) (by omega) ?_);intro LA1 lc1 x8 ho hf hs;rw[show (0+1:Nat)=1 from rfl] at ho ⊢;have H8:=Hd (And.intro ho (And.intro hf hs));clear ho hf hs)
 clear q0 q1 q2 q3 q4 q5
 have hX8:Fr [] w2 x8:=((HX5.out.then H6.out.1).then HF7.out).trans H8.out.2.1 (by simp[blk])
 have hF8:Fr [] w x8:=((HF5.out.then H6.out.1).then HF7.out).trans H8.out.2.1 (by simp[blk])
 have hB8:=(H6.out.2.fr0 HF7.out).fr H8.out.2.1 (by simp[blk])
 have HX2:=Hd hX8
 have hLz:∀ k∈blk LA1,v7.heap.size≤k:=fun k hk=>by
  rcases H8.out.2.2 k hk with h | h
  ·simp[blk] at h
  ·exact h
 have hLr:rb0 ∉ blk LA1:=fun hm=>by have h1:=hLz rb0 hm;have h2:=(H6.out.2.fr0 HF7.out).1;omega
 have hLw:∀ k∈blk LA1,w.heap.size≤k:=fun k hk=>Nat.le_trans (((HF5.out.then H6.out.1).then HF7.out).size) (hLz k hk)
 have hLx:∀ k∈blk LA1,k<x8.heap.size:=H8.out.1.lt
 have HLZ:=Hd (And.intro hLr (And.intro hLw hLx))
 have HFW:=Hd hF8
 have HO8:=Hd H8.out.1
 have HB8:=Hd hB8
 have hg8:=HG.out.1.fr0 hF8
 have z0:=hg8.k4
 have z1:=hg8.k5
 have z2:=hg8.k6
 have z3:=hg8.k7
 clear hLx hLz hLr hLw hX8 hF8 hB8 hg8 HX5 HF5 H6 HF7 H8 HVc HRT HX4 HM4 HN4 HF4 HO7 p0 p1 p2 p3 iz0 iz1 iz2 hii
 go_wp2_with fail
 rw[rounds_succ]
 go_upto_region 14 with fail
 obtain⟨v4,hv4,n4,f4⟩:=bxn x8 #[.int .i64 1,.int .i64 3,.string s1,.slice A1 2 c1] 53
 rw[hv4]
 have hF4:=(HFW.out).then f4
 have hXv4:=f4
 have hm4:=HN.out.1.fr (show Fr [] w2 v4 from HX2.out.then f4) (by simp)
 have p1:=n4.k1
 have r6:=hm4.k6
 have HF4:=Hd hF4
 have HN4:=Hd n4
 have HM4:=Hd hm4
 have HX4:=Hd (HX2.out.then f4)
 clear hv4 n4 f4 hF4 hm4
 go_upto_region 16 with fail
 have HSS:=Hd (fun (W:World) (hW:Fr [] v4 W)=>(⟨(HN4.out.fr hW (by simp)).c 0,(HM4.out.fr hW (by simp)).c 7,(HG.out.1.fr0 (HF4.out.then hW)).2 0 _ rfl⟩:W.cell? ⟨(x8).heap.size,0,none⟩=some (.int .i64 1)∧W.cell? ⟨w.heap.size,7,none⟩=some (.slice (some ⟨g,0,none⟩) 2 pc)∧W.cell? ⟨g,0,none⟩=some (.int .i64 0)))
 have hwr:IntKind.i64.wrap 0=0:=by decide
 refine wp_region_qall (fun W=>Fr [] v4 W) (by kernel_rfl) (by kernel_rfl) ((Fr.refl _ v4).drew) ?_
 repeat (
  first
  | go_big_quiet_skip
  | (go_big_quiet_want
     first
     | (go_big_quiet_op
        go_big_quiet_on)
     | (apply Exists.intro
        refine⟨fun W hW=>?_,?_⟩
        ·(obtain⟨a0',a7',g0'⟩:=HSS.out W hW
          go_simp
          first
          | done
          | (with_reducible exact rfl)
          | (with_reducible exact⟨rfl,rfl⟩)
          | (fail))
        simp only[Act.put,qA,qB,qC]
        go_big_quiet_on))
  )
 refine wpQuiet_nil ?_
 intro v5 hv5
 clear HSS hwr p1 r6
 have n5:=HN4.out.fr hv5 (by simp)
 obtain⟨p0,p1,p2,p3⟩:=n5.m4
 have hF5:=HF4.out.then hv5
 have HRT:=Hd (row_range (rowIs_fr HN.out.2.1 (HX4.out.then hv5) (by simp)) hr32)
 have hVc:=HG.out.2.2 v5 hF5
 unfold encD at hVc
 have HVc:=Hd hVc
 have HF5:=Hd hF5
 have HX5:=Hd (HX4.out.then hv5)
 have HX5w:Hid (Fr [] x8 v5):=Hd (hXv4.then hv5)
 clear n5 hVc hF5 hv5
 go_upto_region 19 with (first
  | (refine wpList_wanted (by rfl) ?_;(with_reducible refine wp_load_mid 57 (.tmp 3) rfl (w.heap.size+1) 0 rfl (dCells rt) (.array 32 5) HRT.out (by kernel_rfl) rfl (by rw[hcr];kernel_rfl) ?_))
  | (go_at_call 66;(with_reducible refine HVc.out.mono ?_);rintro e v6 ⟨ra1,rc1,rb1,rd1,rfl,hf6,hra⟩;have H6:=Hd (And.intro hf6 hra);clear hf6 hra))
 obtain⟨v7,hv7,n7,f7⟩:=bxn v6 #[.int .i64 2,.int .i64 0,.int .i64 2,.string ⟨#[]⟩,.slice (some ⟨ra1,0,none⟩) 1 rc1,.slice (some ⟨rb1,0,none⟩) 1 rd1] 91
 rw[hv7]
 obtain⟨q0,q1,q2,q3,q4,q5⟩:=n7.m6
 try simp only[List.getElem?_toArray,List.getElem?_cons_zero,List.getElem?_cons_succ] at q0 q1 q2 q3 q4 q5
 have HF7:=Hd f7
 have HO7:=Hd (HO8.out.fr ((HX5w.out.then H6.out.1).then f7) (by simp))
 clear hv7 n7 f7
 obtain⟨ii,hii,iz0,iz1,iz2⟩:∃ i,(Tryz.prog).info? 91=some i∧i.zero=some (.agg actZ)∧i.size=6∧i.bytes=88:=info_parts (by kernel_rfl)
 go_upto_region 22 with (at_builtin;(with_reducible refine wpList_app_tmp (w:=v7) rfl (.tmp 73) (.tmp 75) 22 rfl 91 ii _ 6 88 Tryz.underlying22 hii iz0 iz1 iz2 rfl (by decide) LA1 1 lc1 _ rfl HO7.out 1 1 [.int .i64 2,.int .i64 0,.int .i64 2,.string ⟨#[]⟩,.slice (some ⟨ra1,0,none⟩) 1 rc1,.slice (some ⟨rb1,0,none⟩) 1 rd1] 91 rfl rfl (by simp[Value.oneCell']) (by unfold maxLen;omega) (by omega) ?_);intro LA2 lc2 x9 ho hf hs;rw[show (1+1:Nat)=2 from rfl] at ho ⊢;have H8:=Hd (And.intro ho (And.intro hf hs));clear ho hf hs)
 clear q0 q1 q2 q3 q4 q5
 go_wp2_with fail
 rw[rounds_succ]
 go_wp2_with fail
 go_ret2
 obtain⟨pl,rfl,hpl⟩:=Cs.of_own H8.out.1 (by omega)
 have f67:Fr [] v6 v7:=HF7.out
 have hF9:Fr [] w x9:=((HF5.out.then H6.out.1).then f67).trans H8.out.2.1 (fun k hk=>.inr (HLZ.out.2.1 k hk))
 have h80:=(HB8.out.fr0 ((HX5w.out.then H6.out.1).then f67)).fr H8.out.2.1 HLZ.out.1
 have hnot:∀ k,v5.heap.size≤k→k ∉ blk LA1:=fun k hk hm=>by have h1:=HLZ.out.2.2 k hm;have h2:=HX5w.out.size;omega
 have ha:=(H6.out.2.1.1.fr0 f67).fr H8.out.2.1 (hnot _ H6.out.2.2.1)
 have hb:=(H6.out.2.1.2.fr0 f67).fr H8.out.2.1 (hnot _ H6.out.2.2.2)
 exact⟨pl,lc2,ra0,rc0,rb0,rd0,ra1,rc1,rb1,rd1,rfl,hpl,h80,ha,hb,hF9⟩
end Go.Proofs.YtlpmiimgacfmkaaGreatDoor
