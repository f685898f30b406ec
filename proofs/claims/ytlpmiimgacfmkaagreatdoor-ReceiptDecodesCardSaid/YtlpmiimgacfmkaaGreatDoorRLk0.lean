/- receipt.link: what stays while its maps grow. -/
import Derived.Laws.IdiomRangeMap
import Derived.Test.YtlpmiimgacfmkaaGreatDoorRDe5
set_option linter.all false
namespace Go.Proofs.YtlpmiimgacfmkaaGreatDoor
open Go.RowKit
def conC (ix ic:Nat) (KA:Option Addr) (kc:Nat) (l:Value):Array Value:=#[.int .u8 122,.int .i64 1,.slice (some ⟨ix,0,none⟩) 2 ic,.slice KA 2 kc,l,.slice none 0 0]
def actsC (RA:Option Addr) (rc cb0 rd ca1 rc1 cb1 rd1:Nat):List Value:=[.int .i64 1,.int .i64 0,.int .i64 1,.string ⟨#[]⟩,.slice RA 0 rc,.slice (some ⟨cb0,0,none⟩) 1 rd,.int .i64 2,.int .i64 0,.int .i64 2,.string ⟨#[]⟩,.slice (some ⟨ca1,0,none⟩) 1 rc1,.slice (some ⟨cb1,0,none⟩) 1 rd1]
structure LIs (w W:World) (c mu ms ma:Nat) (C:Array Value) (ku ks:List (Value × Value)):Prop where
 box:BoxN W c 64 C
 um:MapIs Tryz.prog 3 W mu ku
 sm:MapIs Tryz.prog 31 W ms ks
 am:MapIs Tryz.prog 31 W ma []
 d:c<w.heap.size∧w.heap.size≤mu∧mu<ms∧ms<ma
 fr:Fr [c] w W
section
variable {w X Y:World} {c mu ms ma:Nat} {C C':Array Value} {ku ks ku' ks':List (Value × Value)}
theorem LIs.fr0 (h:LIs w X c mu ms ma C ku ks) (hf:Fr [] X Y):LIs w Y c mu ms ma C ku ks :=
 ⟨h.box.fr hf (by simp),h.um.fr hf (by simp),h.sm.fr hf (by simp),h.am.fr hf (by simp),h.d,h.fr.trans hf (by simp)⟩
theorem LIs.putU (h:LIs w X c mu ms ma C ku ks) (hf:Fr [mu] X Y) (hm:MapIs Tryz.prog 3 Y mu ku'):LIs w Y c mu ms ma C ku' ks :=
 have hd:=h.d
 ⟨h.box.fr hf (by simp;omega),hm,h.sm.fr hf (by simp;omega),h.am.fr hf (by simp;omega),h.d,h.fr.trans hf (fun x hx=>.inr (by simp at hx;omega))⟩
theorem LIs.putS (h:LIs w X c mu ms ma C ku ks) (hf:Fr [ms] X Y) (hm:MapIs Tryz.prog 31 Y ms ks'):LIs w Y c mu ms ma C ku ks' :=
 have hd:=h.d
 ⟨h.box.fr hf (by simp;omega),h.um.fr hf (by simp;omega),hm,h.am.fr hf (by simp;omega),h.d,h.fr.trans hf (fun x hx=>.inr (by simp at hx;omega))⟩
theorem LIs.putC (h:LIs w X c mu ms ma C ku ks) (hf:Fr [c] X Y) (hb:BoxN Y c 64 C'):LIs w Y c mu ms ma C' ku ks :=
 have hd:=h.d
 ⟨hb,h.um.fr hf (by simp;omega),h.sm.fr hf (by simp;omega),h.am.fr hf (by simp;omega),h.d,h.fr.trans hf (fun x hx=>.inl hx)⟩
theorem LIs.putB {b:Nat} (h:LIs w X c mu ms ma C ku ks) (hf:Fr [b] X Y) (hb:ma<b):LIs w Y c mu ms ma C ku ks :=
 have hd:=h.d
 ⟨h.box.fr hf (by simp;omega),h.um.fr hf (by simp;omega),h.sm.fr hf (by simp;omega),h.am.fr hf (by simp;omega),h.d,h.fr.trans hf (fun x hx=>.inr (by simp at hx;omega))⟩
theorem LIs.young (h:LIs w X c mu ms ma C ku ks):c<X.heap.size∧mu<X.heap.size∧ms<X.heap.size∧ma<X.heap.size:=⟨h.box.lt,h.um.lt,h.sm.lt,h.am.lt⟩
end
theorem zero_chg (u:World):(zeroValue 95).run Tryz.prog u=.ok (.agg #[.int .i64 0,.string ⟨#[]⟩,.int .i64 0,.int .i64 0,.string ⟨#[]⟩,.string ⟨#[]⟩,.bool false]) u:=by simp[go_sem]
theorem run_range_empty {P:Program} {w:World} {t k e:TypeId} {bm:Nat} (ht:P.underlying t=some (.map k e)) (h:MapIs P k w bm []) :
 ∃ w',(Instr.range t (.map (some bm))).run P w=.ok (.pointer (some ⟨w.heap.size,0,none⟩)) w'∧Fr [] w w'∧∀ ty:TypeId,(Instr.next (.pointer (some ⟨w.heap.size,0,none⟩)) false ty).run P w'=.ok (.tuple #[.bool false]) w':=by
 obtain⟨es,clock,h1,h2,h3,h4⟩:=h
 have he:es=#[]:=by
  have:es.toList=[]:=by simpa using h4
  exact Array.toList_eq_nil_iff.1 this
 subst he
 refine⟨_,run_range_map w t k e bm #[] clock ht h1,(Fr.refl [] w).alloc _,fun ty=>?_⟩
 rcases run_next_map (P:=P) w ty bm clock clock #[] #[] clock h1 (by simp) (Nat.le_refl _) with h | ⟨e0,h0,_⟩
 ·exact h.2
 ·simp[leftOf] at h0
set_option maxRecDepth 100000
set_option maxHeartbeats 4000000
theorem Link_any (c ix ic kc L lc rc cb0 rd ca1 rc1 cb1 rd1:Nat) (KA RA:Option Addr) (w:World) (hc:BoxN w c 64 (conC ix ic KA kc (.slice none 0 0))) (hix:Cs w ix [.int .i64 0,.int .i64 1]) (hL:Cs w L (actsC RA rc cb0 rd ca1 rc1 cb1 rd1)) (h0:Cs w cb0 (chC 1 ⟨#[120]⟩ false)) (h1:Cs w ca1 (chC 1 ⟨#[120]⟩ false)) (h2:Cs w cb1 (chC 2 ⟨#[121,122]⟩ false)) (hd:c≠ix∧c≠L∧c≠cb0∧c≠ca1∧c≠cb1) :
 Calls Tryz.prog 65 #[.pointer (some ⟨c,0,none⟩),.slice (some ⟨L,0,none⟩) 2 lc] w fun e w'=>∃ m lb lcap,e=.returned (.tuple #[.map (some m),.int .i64 0])∧BoxN w' c 64 (conC ix ic KA kc (.slice (some ⟨lb,0,none⟩) 1 lcap))∧Cs w' lb [.int .i64 0,.int .i64 1,.int .i64 16,.string ⟨#[]⟩,.int .i64 1,.int .i64 0,.string ⟨#[]⟩]∧MapIs Tryz.prog 3 w' m [(.int .i64 0,.bool true)]∧Fr [c] w w'∧w.heap.size≤lb:=by
 have HST:=Hd (fun (W:World) (hW:Fr [c] w W)=>(⟨hix.fr hW (by simpa using Ne.symm hd.1),hL.fr hW (by simpa using Ne.symm hd.2.1),h0.fr hW (by simpa using Ne.symm hd.2.2.1),h1.fr hW (by simpa using Ne.symm hd.2.2.2.1),h2.fr hW (by simpa using Ne.symm hd.2.2.2.2)⟩:Cs W ix [.int .i64 0,.int .i64 1]∧Cs W L (actsC RA rc cb0 rd ca1 rc1 cb1 rd1)∧Cs W cb0 (chC 1 ⟨#[120]⟩ false)∧Cs W ca1 (chC 1 ⟨#[120]⟩ false)∧Cs W cb1 (chC 2 ⟨#[121,122]⟩ false)))
 have hmk:=run_makeMap w 143
 obtain⟨w1,hw1⟩:=nmd (w.alloc (.map #[] 0))
 have hm1:MapIs Tryz.prog 3 w1 w.heap.size []:=by rw[←hw1];exact MapIs.new w
 have hf1:Fr [] w w1:=by rw[←hw1];exact (Fr.refl [] w).alloc _
 have hz1:w1.heap.size=w.heap.size+1:=by rw[←hw1];simp
 rw[hw1] at hmk
 have hmk2:=run_makeMap w1 241
 obtain⟨w2,hw2⟩:=nmd (w1.alloc (.map #[] 0))
 have hm2:MapIs Tryz.prog 31 w2 w1.heap.size []:=by rw[←hw2];exact MapIs.new w1
 have hf2:Fr [] w1 w2:=by rw[←hw2];exact (Fr.refl [] w1).alloc _
 have hz2:w2.heap.size=w1.heap.size+1:=by rw[←hw2];simp
 rw[hw2] at hmk2
 have hmk3:=run_makeMap w2 149
 obtain⟨w3,hw3⟩:=nmd (w2.alloc (.map #[] 0))
 have hm3:MapIs Tryz.prog 31 w3 w2.heap.size []:=by rw[←hw3];exact MapIs.new w2
 have hf3:Fr [] w2 w3:=by rw[←hw3];exact (Fr.refl [] w2).alloc _
 have hz3:w3.heap.size=w2.heap.size+1:=by rw[←hw3];simp
 rw[hw3] at hmk3
 have hf03:=(hf1.then hf2).then hf3
 have HL0:Hid (LIs w w3 c w.heap.size w1.heap.size w2.heap.size (conC ix ic KA kc (.slice none 0 0)) [] []):=Hd ⟨hc.fr hf03 (by simp),(hm1.fr hf2 (by simp)).fr hf3 (by simp),hm2.fr hf3 (by simp),hm3,⟨hc.lt,Nat.le_refl _,by omega,by omega⟩,hf03.mono (by simp)⟩
 clear hw1 hw2 hw3 hm1 hm2 hm3 hf1 hf2 hf3 hz1 hz2 hz3 hc hix hL h0 h1 h2 hf03 hd
 go_enter Tryz.func65,Tryz.ntmps65
 go_upto_region 4 with fail
 clear hmk hmk2 hmk3
 obtain⟨mu,hmu⟩:=nmd (w.heap.size)
 obtain⟨ms,hms⟩:=nmd (w1.heap.size)
 obtain⟨ma,hma⟩:=nmd (w2.heap.size)
 rw[hmu,hms,hma] at HL0 ⊢
 clear hmu hms hma
 go_wp2_with fail
 refine wp_loop_rounds 3 ?_
 rw[rounds_succ]
 have hcs:=(HST.out _ HL0.out.fr).2.1
 unfold actsC at hcs
 obtain⟨z0,z1,z2,z3,z4,z5⟩:=hcs.m6
 clear hcs
 go_upto_region 7 with fail
 obtain⟨Y0,hY,nY,fY⟩:=bxn w3 #[.int .i64 1,.int .i64 0,.int .i64 1,.string ⟨#[]⟩,.slice RA 0 rc,.slice (some ⟨cb0,0,none⟩) 1 rd] 91
 rw[hY]
 have HY0:=Hd (HL0.out.fr0 fY)
 have hRl:=HL0.out.young
 obtain⟨R0,hR⟩:=nmd ((w3).heap.size)
 rw[hR] at nY hRl ⊢
 have HR0:=Hd (And.intro nY hRl)
 clear hY nY fY z0 z1 z2 z3 z4 z5 hRl hR
 have r4:=HR0.out.1.k4
 have r5:=HR0.out.1.k5
 go_wp2_with fail
 refine wp_loop_rounds 1 ?_
 rw[rounds_succ]
 go_wp2_with fail
 refine wp_loop_rounds 2 ?_
 clear r4 r5
 rw[rounds_succ]
 have hcc:Cs Y0 cb0 (chC 1 ⟨#[120]⟩ false):=(HST.out _ HY0.out.fr).2.2.1
 obtain⟨z0,z1,z2,z3,z4,z5,z6⟩:=hcc.m7
 clear hcc
 go_upto_region 25 with fail
 obtain⟨U0,hU0,n0,f0⟩:=bxn Y0 #[.int .i64 16,.string ⟨#[]⟩,.int .i64 1,.int .i64 0,.string ⟨#[]⟩,.string ⟨#[120]⟩,.bool false] 95
 rw[hU0]
 have HU0:=Hd (HY0.out.fr0 f0)
 obtain⟨T,hTe⟩:=nmd ((Y0).heap.size)
 rw[hTe] at n0 ⊢
 obtain⟨d0,d1,d2,d3,d4,d5,d6⟩:=n0.m7
 obtain⟨kl,hkl⟩:=keyOf_port1
 obtain⟨X1,hput,fX,mX⟩:=MapIs.put_new (v:=.agg #[.int .i64 0,.int .i64 16,.string ⟨#[]⟩,.int .i64 1,.int .i64 0,.string ⟨#[]⟩,.string ⟨#[120]⟩,.bool false]) key_name Tryz.underlying241 HU0.out.sm hkl (by simp)
 try rw[List.nil_append] at mX
 have HX1:=Hd (HU0.out.putS fX mX)
 have HFX1:Hid (Fr [ms] Y0 X1):=Hd ((f0.mono (by simp)).then fX)
 unfold portV at hput
 clear hU0 n0 f0 hTe z0 z1 z2 z3 z4 z5 z6 hkl fX mX HU0
 go_wp2_with fail
 clear hput d0 d1 d2 d3 d4 d5 d6
 rw[rounds_succ]
 go_wp2_with fail
 rw[rounds_succ]
 have hcs:=(HST.out _ HX1.out.fr).2.1
 unfold actsC at hcs
 have z0:=hcs.k6
 have z1:=hcs.k7
 have z2:=hcs.k8
 have z3:=hcs.k9
 have z4:=hcs.k10
 have z5:=hcs.k11
 clear hcs
 go_upto_region 7 with fail
 obtain⟨Y1,hY,nY,fY⟩:=bxn X1 #[.int .i64 2,.int .i64 0,.int .i64 2,.string ⟨#[]⟩,.slice (some ⟨ca1,0,none⟩) 1 rc1,.slice (some ⟨cb1,0,none⟩) 1 rd1] 91
 rw[hY]
 have HY1:=Hd (HX1.out.fr0 fY)
 have hRl:=HX1.out.young
 obtain⟨R,hR⟩:=nmd ((X1).heap.size)
 rw[hR] at nY hRl ⊢
 have HR:=Hd (And.intro nY hRl)
 clear hY nY fY z0 z1 z2 z3 z4 z5 hRl hR
 have r4:=HR.out.1.k4
 go_wp2_with fail
 refine wp_loop_rounds 2 ?_
 clear r4
 have HRMU:Hid (R≠mu∧R≠ms∧R≠c):=Hd (by have h:=HR.out.2;omega)
 rw[rounds_succ]
 have hcc:Cs Y1 ca1 (chC 1 ⟨#[120]⟩ false):=(HST.out _ HY1.out.fr).2.2.2.1
 obtain⟨z0,z1,z2,z3,z4,z5,z6⟩:=hcc.m7
 clear hcc
 go_upto_region 10 with fail
 obtain⟨D0,hD0,n0,f0⟩:=bxn Y1 #[.int .i64 16,.string ⟨#[]⟩,.int .i64 1,.int .i64 0,.string ⟨#[]⟩,.string ⟨#[120]⟩,.bool false] 95
 rw[hD0]
 have hy:=HY1.out.young
 have HD0:=Hd (HY1.out.fr0 f0)
 have HRD:=Hd (And.intro (HR.out.1.fr f0 (by simp)) HR.out.1.lt)
 obtain⟨D,hD⟩:=nmd (Y1.heap.size)
 rw[hD] at n0 hy HRD ⊢
 have HDD:=Hd (And.intro n0 hy)
 clear hD0 n0 f0 hy hD z0 z1 z2 z3 z4 z5 z6 HR
 have HSS:=Hd (fun (W:World) (hW:Fr [] D0 W)=>(⟨(HD0.out.box.fr hW (by simp)).c 2,((HST.out _ (HD0.out.fr0 hW).fr).1).2 1 _ rfl,(HDD.out.1.fr hW (by simp)).c 0,(HDD.out.1.fr hW (by simp)).c 1,(HDD.out.1.fr hW (by simp)).c 2,(HDD.out.1.fr hW (by simp)).c 3,(HDD.out.1.fr hW (by simp)).c 4⟩:W.cell? ⟨c,2,none⟩=some (.slice (some ⟨ix,0,none⟩) 2 ic)∧W.cell? ⟨ix,1,none⟩=some (.int .i64 1)∧W.cell? ⟨D,0,none⟩=some (.int .i64 16)∧W.cell? ⟨D,1,none⟩=some (.string ⟨#[]⟩)∧W.cell? ⟨D,2,none⟩=some (.int .i64 1)∧W.cell? ⟨D,3,none⟩=some (.int .i64 0)∧W.cell? ⟨D,4,none⟩=some (.string ⟨#[]⟩)))
 have hC:Fr [] D0 D0.drew:=(Fr.refl _ D0).drew
 refine wp_region_head (fun W=>Fr [] D0 W) 11 (by kernel_rfl) ?_ (by decide)
 show headJ 0 _ _ _ _ _ _ _ _ _ _ _
 iterate 10
  refine hdJ (v:=?_) rfl (Or.inl ⟨by rfl,?_⟩) ?_
  rotate_left
  ·intro W hW;obtain⟨c2,i1,d0,d1,d2,d3,d4⟩:=HSS.out W hW;go_simp;try with_reducible rfl
  try simp only[Act.put,qA,qB,qC,qD,qE,qF]
 refine headI_only (i:=10) (by kernel_rfl) (by decide) rfl (fun K hK=>?_)
 rw[if_pos (by rfl)]
 go_simp
 obtain⟨D1,hD1,n1,f1⟩:=bxd D0 #[.int .i64 0,.int .i64 0,.int .i64 0,.string ⟨#[]⟩,.int .i64 0,.int .i64 0,.string ⟨#[]⟩] 98
 rw[hD1]
 refine hK _ _ f1 ?_
 clear hK K hC hD1 HSS
 try simp only[Act.put,qA,qB,qC,qD,qE,qF]
 refine headI_done ⟨by kernel_rfl,?_⟩
 simp only[List.drop_succ_cons,List.drop_zero]
 have HL1:=Hd (HD0.out.fr0 f1)
 have HD1:=Hd (And.intro (HDD.out.1.fr f1 (by simp)) HDD.out.1.lt)
 have HR1:=Hd (HRD.out.1.fr f1 (by simp))
 obtain⟨XB,hXB⟩:=nmd (D0.heap.size)
 rw[hXB] at n1 HD1 ⊢
 have HX1:=Hd n1
 obtain⟨u0,u1,u2,u3,u4,u5,u6⟩:=n1.m7
 have v0:=n1.f 0
 have v1:=n1.f 1
 have v2:=n1.f 2
 have v3:=n1.f 3
 have v4:=n1.f 4
 have v5:=n1.f 5
 have v6:=n1.f 6
 clear n1 f1 hXB
 go_upto_region 11 with fail
 obtain⟨D2,hW2⟩:=nmd ((((((((((D1).setCell ⟨XB,0,none⟩ (.int .i64 (-1))).setCell ⟨XB,1,none⟩ (.int .i64 1)).setCell ⟨XB,2,none⟩ (.int .i64 16)).setCell ⟨XB,3,none⟩ (.string ⟨#[]⟩)).setCell ⟨XB,4,none⟩ (.int .i64 1)).setCell ⟨XB,5,none⟩ (.int .i64 0))).setCell ⟨XB,6,none⟩ (.string ⟨#[]⟩)))
 have n2:BoxN D2 (XB) 98 #[.int .i64 (-1),.int .i64 1,.int .i64 16,.string ⟨#[]⟩,.int .i64 1,.int .i64 0,.string ⟨#[]⟩]:=by rw[←hW2];exact (((((((HX1.out.setAt 0 _).setAt 1 _).setAt 2 _).setAt 3 _).setAt 4 _).setAt 5 _).setAt 6 _)
 have f2:Fr [XB] (D1) D2:=by rw[←hW2];exact (((((((Fr.refl [XB] (D1)).set (.inl (by simp)) _).set (.inl (by simp)) _).set (.inl (by simp)) _).set (.inl (by simp)) _).set (.inl (by simp)) _).set (.inl (by simp)) _).set (.inl (by simp)) _
 rw[hW2]
 clear hW2
 clear u0 u1 u2 u3 u4 u5 u6 v0 v1 v2 v3 v4 v5 v6
 have HO:Hid (ma<D∧D<XB∧R<D):=Hd ⟨HDD.out.2.2.2.2,HD1.out.2,HRD.out.2⟩
 have HL2:=Hd (HL1.out.putB f2 (by have:=HO.out;omega))
 have hd2:BoxN D2 D 95 _:=HD1.out.1.fr f2 (by have:=HO.out;simp;omega)
 have HD2:=Hd hd2
 have hr2:BoxN D2 R 91 _:=HR1.out.fr f2 (by have:=HO.out;simp;omega)
 have HR2:=Hd hr2
 have HX2:=Hd n2
 obtain⟨d0,d1,d2,d3,d4,d5,d6⟩:=hd2.m7
 obtain⟨kl,hkl⟩:=keyOf_port1
 have hlk:=MapIs.look_none key_name Tryz.underlying149 HL2.out.am hkl (by simp) (zero_chg D2) true
 unfold portV at hlk
 simp only[if_true] at hlk
 clear n2 f2 hd2 hr2 HD1 HL1 HR1 HX1 HD0 HDD HRD
 go_upto_region 12 with fail
 obtain⟨D3,hD3⟩:=nmd ((D2).alloc (.cells #[.int .i64 0,.string ⟨#[]⟩,.int .i64 0,.int .i64 0,.string ⟨#[]⟩,.string ⟨#[]⟩,.bool false] 95))
 have hz3:(D3).heap.size=D2.heap.size+1:=by rw[←hD3,World.size_alloc];try omega
 have n3:BoxN D3 (D2.heap.size) 95 #[.int .i64 0,.string ⟨#[]⟩,.int .i64 0,.int .i64 0,.string ⟨#[]⟩,.string ⟨#[]⟩,.bool false]:=by have h0:=BoxN.new (D2) 95 #[.int .i64 0,.string ⟨#[]⟩,.int .i64 0,.int .i64 0,.string ⟨#[]⟩,.string ⟨#[]⟩,.bool false];rw[hD3] at h0;rw[show D2.heap.size=(D2).heap.size from by first | rfl | omega];exact h0
 have f3:Fr [] (D2) D3:=by rw[←hD3];exact (Fr.refl [] (D2)).alloc _
 rw[hD3]
 have HL3:=Hd (HL2.out.fr0 f3)
 have hd3:=HD2.out.fr f3 (by simp)
 have HD3:=Hd hd3
 have HR3:=Hd (HR2.out.fr f3 (by simp))
 have HX3:=Hd (HX2.out.fr f3 (by simp))
 have hXl:XB<D2.heap.size:=HX2.out.lt
 obtain⟨RB,hRB⟩:=nmd (D2.heap.size)
 rw[hRB] at n3 hXl ⊢
 have HRB:=Hd (And.intro n3 hXl)
 clear d0 d1 d2 d3 d4 d5 d6 hlk
 obtain⟨d0,d1,d2,d3,d4,d5,d6⟩:=hd3.m7
 have hlk:=MapIs.look_some key_name Tryz.underlying241 HL3.out.sm hkl (v:=.agg #[.int .i64 0,.int .i64 16,.string ⟨#[]⟩,.int .i64 1,.int .i64 0,.string ⟨#[]⟩,.string ⟨#[120]⟩,.bool false]) (by simp) true
 unfold portV at hlk
 simp only[if_true] at hlk
 clear n3 f3 hd3 hXl hRB hD3 HD2 HL2 HR2 HX2 hz3
 go_upto_region 13 with fail
 obtain⟨D4,hD4⟩:=nmd ((D3).alloc (.cells #[.int .i64 0,.int .i64 16,.string ⟨#[]⟩,.int .i64 1,.int .i64 0,.string ⟨#[]⟩,.string ⟨#[120]⟩,.bool false] 243))
 have hz4:(D4).heap.size=D3.heap.size+1:=by rw[←hD4,World.size_alloc];try omega
 have n4:BoxN D4 (D3.heap.size) 243 #[.int .i64 0,.int .i64 16,.string ⟨#[]⟩,.int .i64 1,.int .i64 0,.string ⟨#[]⟩,.string ⟨#[120]⟩,.bool false]:=by have h0:=BoxN.new (D3) 243 #[.int .i64 0,.int .i64 16,.string ⟨#[]⟩,.int .i64 1,.int .i64 0,.string ⟨#[]⟩,.string ⟨#[120]⟩,.bool false];rw[hD4] at h0;rw[show D3.heap.size=(D3).heap.size from by first | rfl | omega];exact h0
 have f4:Fr [] (D3) D4:=by rw[←hD4];exact (Fr.refl [] (D3)).alloc _
 rw[hD4]
 have HL4:=Hd (HL3.out.fr0 f4)
 have HD4:=Hd (HD3.out.fr f4 (by simp))
 have HR4:=Hd (HR3.out.fr f4 (by simp))
 have HX4:=Hd (HX3.out.fr f4 (by simp))
 have HB4:=Hd (HRB.out.1.fr f4 (by simp))
 have hRl:RB<D3.heap.size:=HRB.out.1.lt
 obtain⟨SB,hSB⟩:=nmd (D3.heap.size)
 rw[hSB] at n4 hRl ⊢
 have HSB:=Hd n4
 have HP:Hid (ma<D∧D<XB∧R<D∧XB<RB∧RB<SB):=Hd ⟨HO.out.1,HO.out.2.1,HO.out.2.2,HRB.out.2,hRl⟩
 have s0:=n4.k0
 obtain⟨kj,hkj⟩:=keyOf_int0
 obtain⟨D5,hput,f5,m5⟩:=MapIs.put_new (v:=.bool true) key_int Tryz.underlying143 HL4.out.um hkj (by simp)
 rw[List.nil_append] at m5
 clear d0 d1 d2 d3 d4 d5 d6 hlk hkl hkj n4 f4 hRl hSB hD4 HD3 HL3 HR3 HX3 hz4 HRB HO
 go_upto_region 15 with fail
 have HL5:=Hd (HL4.out.putU f5 m5)
 have HE5:Hid (BoxN D5 D 95 #[.int .i64 16,.string ⟨#[]⟩,.int .i64 1,.int .i64 0,.string ⟨#[]⟩,.string ⟨#[120]⟩,.bool false]∧BoxN D5 R 91 #[.int .i64 2,.int .i64 0,.int .i64 2,.string ⟨#[]⟩,.slice (some ⟨ca1,0,none⟩) 1 rc1,.slice (some ⟨cb1,0,none⟩) 1 rd1]∧BoxN D5 XB 98 #[.int .i64 (-1),.int .i64 1,.int .i64 16,.string ⟨#[]⟩,.int .i64 1,.int .i64 0,.string ⟨#[]⟩]∧BoxN D5 RB 95 #[.int .i64 0,.string ⟨#[]⟩,.int .i64 0,.int .i64 0,.string ⟨#[]⟩,.string ⟨#[]⟩,.bool false]∧BoxN D5 SB 243 #[.int .i64 0,.int .i64 16,.string ⟨#[]⟩,.int .i64 1,.int .i64 0,.string ⟨#[]⟩,.string ⟨#[120]⟩,.bool false]):=by
  have hp:=HP.out
  have hd:=HL4.out.d
  have hR:R≠mu:=HRMU.out.1
  exact Hd ⟨HD4.out.fr f5 (by simp;omega),HR4.out.fr f5 (by simpa using hR),HX4.out.fr f5 (by simp;omega),HB4.out.fr f5 (by simp;omega),HSB.out.fr f5 (by simp;omega)⟩
 clear f5 m5 hput s0 HL4 HD4 HR4 HX4 HB4 HSB
 have c2:=HL5.out.box.k2
 have i0:D5.cell? ⟨ix,0,none⟩=some (.int .i64 0):=((HST.out _ HL5.out.fr).1).2 0 _ rfl
 have s0:=HE5.out.2.2.2.2.k0
 have x0:=HE5.out.2.2.1.k0
 have xf:=HE5.out.2.2.1.f 0
 have hwr:IntKind.i64.wrap 0=0:=by decide
 go_still_tail 8,(by kernel_rfl)
 go_upto_region 16 with fail
 obtain⟨D6,hD6⟩:=nmd ((D5.setCell ⟨XB,0,none⟩ (.int .i64 0)).drew)
 have n6:BoxN D6 XB 98 #[.int .i64 0,.int .i64 1,.int .i64 16,.string ⟨#[]⟩,.int .i64 1,.int .i64 0,.string ⟨#[]⟩]:=by rw[←hD6];exact (HE5.out.2.2.1.setAt 0 _).drew
 have f6:Fr [XB] D5 D6:=by rw[←hD6];exact ((Fr.refl [XB] D5).set (.inl (by simp)) _).drew
 rw[hD6]
 have HL6:=Hd (HL5.out.putB f6 (by have:=HP.out;omega))
 have HE6:Hid (BoxN D6 D 95 #[.int .i64 16,.string ⟨#[]⟩,.int .i64 1,.int .i64 0,.string ⟨#[]⟩,.string ⟨#[120]⟩,.bool false]∧BoxN D6 R 91 #[.int .i64 2,.int .i64 0,.int .i64 2,.string ⟨#[]⟩,.slice (some ⟨ca1,0,none⟩) 1 rc1,.slice (some ⟨cb1,0,none⟩) 1 rd1]∧BoxN D6 XB 98 #[.int .i64 0,.int .i64 1,.int .i64 16,.string ⟨#[]⟩,.int .i64 1,.int .i64 0,.string ⟨#[]⟩]∧BoxN D6 RB 95 #[.int .i64 0,.string ⟨#[]⟩,.int .i64 0,.int .i64 0,.string ⟨#[]⟩,.string ⟨#[]⟩,.bool false]∧BoxN D6 SB 243 #[.int .i64 0,.int .i64 16,.string ⟨#[]⟩,.int .i64 1,.int .i64 0,.string ⟨#[]⟩,.string ⟨#[120]⟩,.bool false]):=by
  have hp:=HP.out
  exact Hd ⟨HE5.out.1.fr f6 (by simp;omega),HE5.out.2.1.fr f6 (by simp;omega),n6,HE5.out.2.2.2.1.fr f6 (by simp;omega),HE5.out.2.2.2.2.fr f6 (by simp;omega)⟩
 clear n6 f6 hD6 c2 i0 s0 x0 xf hwr HE5 HL5
 have s0:=HE6.out.2.2.2.2.k1
 have s1:=HE6.out.2.2.2.2.k2
 have s2:=HE6.out.2.2.2.2.k3
 have s3:=HE6.out.2.2.2.2.k4
 have s4:=HE6.out.2.2.2.2.k5
 have s5:=HE6.out.2.2.2.2.k6
 have s6:=HE6.out.2.2.2.2.k7
 obtain⟨q0,q1,q2,q3,q4,q5,q6⟩:=HE6.out.2.2.2.1.m7
 have v0:=HE6.out.2.2.2.1.f 0
 have v1:=HE6.out.2.2.2.1.f 1
 have v2:=HE6.out.2.2.2.1.f 2
 have v3:=HE6.out.2.2.2.1.f 3
 have v4:=HE6.out.2.2.2.1.f 4
 have v5:=HE6.out.2.2.2.1.f 5
 have v6:=HE6.out.2.2.2.1.f 6
 go_upto_region 18 with fail
 obtain⟨D7,hW2⟩:=nmd ((((((((((D6).setCell ⟨RB,0,none⟩ (.int .i64 16)).setCell ⟨RB,1,none⟩ (.string ⟨#[]⟩)).setCell ⟨RB,2,none⟩ (.int .i64 1)).setCell ⟨RB,3,none⟩ (.int .i64 0)).setCell ⟨RB,4,none⟩ (.string ⟨#[]⟩)).setCell ⟨RB,5,none⟩ (.string ⟨#[120]⟩))).setCell ⟨RB,6,none⟩ (.bool false)))
 have n7:BoxN D7 (RB) 95 #[.int .i64 16,.string ⟨#[]⟩,.int .i64 1,.int .i64 0,.string ⟨#[]⟩,.string ⟨#[120]⟩,.bool false]:=by rw[←hW2];exact (((((((HE6.out.2.2.2.1.setAt 0 _).setAt 1 _).setAt 2 _).setAt 3 _).setAt 4 _).setAt 5 _).setAt 6 _)
 have f7:Fr [RB] (D6) D7:=by rw[←hW2];exact (((((((Fr.refl [RB] (D6)).set (.inl (by simp)) _).set (.inl (by simp)) _).set (.inl (by simp)) _).set (.inl (by simp)) _).set (.inl (by simp)) _).set (.inl (by simp)) _).set (.inl (by simp)) _
 rw[hW2]
 clear hW2
 have HL7:=Hd (HL6.out.putB f7 (by have:=HP.out;omega))
 have HE7:Hid (BoxN D7 D 95 #[.int .i64 16,.string ⟨#[]⟩,.int .i64 1,.int .i64 0,.string ⟨#[]⟩,.string ⟨#[120]⟩,.bool false]∧BoxN D7 R 91 #[.int .i64 2,.int .i64 0,.int .i64 2,.string ⟨#[]⟩,.slice (some ⟨ca1,0,none⟩) 1 rc1,.slice (some ⟨cb1,0,none⟩) 1 rd1]∧BoxN D7 XB 98 #[.int .i64 0,.int .i64 1,.int .i64 16,.string ⟨#[]⟩,.int .i64 1,.int .i64 0,.string ⟨#[]⟩]):=by
  have hp:=HP.out
  exact Hd ⟨HE6.out.1.fr f7 (by simp;omega),HE6.out.2.1.fr f7 (by simp;omega),HE6.out.2.2.1.fr f7 (by simp;omega)⟩
 clear q0 q1 q2 q3 q4 q5 q6 v0 v1 v2 v3 v4 v5 v6 s0 s1 s2 s3 s4 s5 s6 f7 HL6 HE6
 obtain⟨q0,q1,q2,q3,q4,q5,q6⟩:=n7.m7
 obtain⟨d0,d1,d2,d3,d4,d5,d6⟩:=HE7.out.1.m7
 go_upto_region 20 with fail
 clear q0 q1 q2 q3 q4 q5 q6 d0 d1 d2 d3 d4 d5 d6 n7
 have HSS:=Hd (fun (W:World) (hW:Fr [] D7 W)=>(⟨(HL7.out.box.fr hW (by simp)).c 4,(HE7.out.2.2.fr hW (by simp)).c 0,(HE7.out.2.2.fr hW (by simp)).c 1,(HE7.out.2.2.fr hW (by simp)).c 2,(HE7.out.2.2.fr hW (by simp)).c 3,(HE7.out.2.2.fr hW (by simp)).c 4,(HE7.out.2.2.fr hW (by simp)).c 5,(HE7.out.2.2.fr hW (by simp)).c 6⟩:W.cell? ⟨c,4,none⟩=some (.slice none 0 0)∧W.cell? ⟨XB,0,none⟩=some (.int .i64 0)∧W.cell? ⟨XB,1,none⟩=some (.int .i64 1)∧W.cell? ⟨XB,2,none⟩=some (.int .i64 16)∧W.cell? ⟨XB,3,none⟩=some (.string ⟨#[]⟩)∧W.cell? ⟨XB,4,none⟩=some (.int .i64 1)∧W.cell? ⟨XB,5,none⟩=some (.int .i64 0)∧W.cell? ⟨XB,6,none⟩=some (.string ⟨#[]⟩)))
 have hC:Fr [] D7 D7.drew:=(Fr.refl _ D7).drew
 refine wp_region_head (fun W=>Fr [] D7 W) 8 (by kernel_rfl) ?_ (by decide)
 show headJ 0 _ _ _ _ _ _ _ _ _ _ _
 iterate 6
  refine hdJ (v:=?_) rfl (Or.inl ⟨by rfl,?_⟩) ?_
  rotate_left
  ·intro W hW;obtain⟨c4,l0,l1,l2,l3,l4,l5,l6⟩:=HSS.out W hW;go_simp;try with_reducible rfl
  try simp only[Act.put,qA,qB,qC,qD,qE,qF]
 refine headI_only (i:=6) (by kernel_rfl) (by decide) rfl (fun K hK=>?_)
 rw[if_pos (by rfl)]
 go_simp
 obtain⟨G1,hG1,n1,hC1⟩:=bxd D7 #[.int .i64 0,.int .i64 1,.int .i64 16,.string ⟨#[]⟩,.int .i64 1,.int .i64 0,.string ⟨#[]⟩] 98
 rw[hG1]
 refine hK _ _ hC1 ?_
 clear hK K hG1 hC
 try simp only[Act.put,qA,qB,qC,qD,qE,qF]
 refine headI_only (i:=7) (by kernel_rfl) (by decide) rfl (fun K hK=>?_)
 rw[if_pos (by rfl)]
 obtain⟨ii,hii,iz0,iz1,iz2⟩:=info_link
 refine wp_app (.tmp 92) (.tmp 94) 61 rfl 98 ii _ 7 72 Tryz.underlying61 hii iz0 iz1 iz2 rfl (by decide) none 0 0 [] rfl (Own.nil _ _ _) ⟨D7.heap.size,0,none⟩ 1 1 [.int .i64 0,.int .i64 1,.int .i64 16,.string ⟨#[]⟩,.int .i64 1,.int .i64 0,.string ⟨#[]⟩] rfl rfl (fun j u hu=>by rw[add_mid',n1.c j];simpa using hu) (by simp[Value.oneCell']) (by unfold maxLen;omega) (by omega) ?_
 intro LA lcap G2 ho2 hf2 hA2
 rw[show (0+1:Nat)=1 from rfl] at ho2 ⊢
 obtain⟨lb,rfl,hlb⟩:=Cs.of_own ho2 (by omega)
 have hlN:G1.heap.size≤lb:=by
  rcases hA2 lb (by simp[blk]) with h | h
  ·simp[blk] at h
  ·exact h
 have hC:Fr [] D7 G2:=hC1.then (hf2.mono (by simp[blk]))
 refine hK _ _ hC ?_
 clear hK K
 try simp only[Act.put,qA,qB,qC,qD,qE,qF]
 refine headI_done ⟨by kernel_rfl,?_⟩
 simp only[List.drop_succ_cons,List.drop_zero]
 have HL8:=Hd (HL7.out.fr0 hC)
 have HR8:=Hd (HE7.out.2.1.fr hC (by simp))
 have q0:=HL8.out.box.k4
 have q1:=HL8.out.box.f 4
 have hsz:D7.heap.size≤lb:=Nat.le_trans hC1.size hlN
 have hcl:c<D7.heap.size:=HL7.out.box.lt
 have HLB:=Hd (And.intro hlb (And.intro (show c≠lb from by omega) (show ms≠lb∧w.heap.size≤lb from ⟨by have h:=HL7.out.sm.lt;omega,Nat.le_trans HL7.out.fr.size hsz⟩)))
 clear hC hC1 n1 hlb hlN hsz hcl hf2 hA2 ho2 HSS HL7 HE7 iz0 iz1 iz2 hii
 go_upto_region 21 with fail
 obtain⟨G3,hG3⟩:=nmd (G2.setCell ⟨c,4,none⟩ (.slice (some ⟨lb,0,none⟩) 1 lcap))
 have n3:BoxN G3 c 64 (conC ix ic KA kc (.slice (some ⟨lb,0,none⟩) 1 lcap)):=by rw[←hG3];exact HL8.out.box.setAt 4 _
 have f3:Fr [c] G2 G3:=by rw[←hG3];exact (Fr.refl [c] G2).set (.inl (by simp)) _
 try rw[hG3]
 have HL9:=Hd (HL8.out.putC f3 n3)
 have hr9:BoxN G3 R 91 _:=HR8.out.fr f3 (by have h:=HRMU.out;simpa using h.2.2)
 have HLB3:=Hd (And.intro (HLB.out.1.fr f3 (by simpa using Ne.symm HLB.out.2.1)) HLB.out.2.2)
 have r5:=hr9.k5
 clear q0 q1 hG3 n3 f3 hr9 HL8 HR8 HLB
 go_wp2_with fail
 rw[rounds_succ]
 go_wp2_with fail
 refine wp_loop_rounds 2 ?_
 clear r5
 rw[rounds_succ]
 have hcc:Cs G3 cb1 (chC 2 ⟨#[121,122]⟩ false):=(HST.out _ HL9.out.fr).2.2.2.2
 obtain⟨z0,z1,z2,z3,z4,z5,z6⟩:=hcc.m7
 clear hcc
 go_upto_region 25 with fail
 obtain⟨U0,hU0,n0,f0⟩:=bxn G3 #[.int .i64 16,.string ⟨#[]⟩,.int .i64 2,.int .i64 0,.string ⟨#[]⟩,.string ⟨#[121,122]⟩,.bool false] 95
 rw[hU0]
 have HU0:=Hd (HL9.out.fr0 f0)
 obtain⟨T,hTe⟩:=nmd ((G3).heap.size)
 rw[hTe] at n0 ⊢
 obtain⟨d0,d1,d2,d3,d4,d5,d6⟩:=n0.m7
 obtain⟨kl,hkl⟩:=keyOf_port2
 obtain⟨X2,hput,fX,mX⟩:=MapIs.put_new (v:=.agg #[.int .i64 1,.int .i64 16,.string ⟨#[]⟩,.int .i64 2,.int .i64 0,.string ⟨#[]⟩,.string ⟨#[121,122]⟩,.bool false]) key_name Tryz.underlying241 HU0.out.sm hkl (by simp[portV])
 try rw[List.nil_append] at mX
 have HX2:=Hd (HU0.out.putS fX mX)
 have HFX2:Hid (Fr [ms] G3 X2):=Hd ((f0.mono (by simp)).then fX)
 unfold portV at hput
 clear hU0 n0 f0 hTe z0 z1 z2 z3 z4 z5 z6 hkl fX mX HU0
 go_wp2_with fail
 clear hput d0 d1 d2 d3 d4 d5 d6
 rw[rounds_succ]
 go_wp2_with fail
 rw[rounds_succ]
 obtain⟨X3,hrg,fX3,hnx⟩:=run_range_empty Tryz.underlying149 HX2.out.am
 have HX3:=Hd (HX2.out.fr0 fX3)
 have HB3:=Hd ((HLB3.out.1.fr HFX2.out (by simpa using Ne.symm HLB3.out.2.1)).fr0 fX3)
 clear fX3
 go_wp2_with fail
 refine wp_loop_rounds 1 ?_
 rw[rounds_succ]
 clear hrg
 have c5:=HX3.out.box.k5
 have c4:=HX3.out.box.k4
 go_wp2_with (first
  | (go_at_call 128;(with_reducible refine (SortC none 0 0 _ (by omega) X3).mono ?_);rintro e w' ⟨rfl,rfl⟩)
  | (go_at_call 130;(with_reducible refine (SortL (some ⟨lb,0,none⟩) 1 lcap _ (by omega) X3).mono ?_);rintro e w' ⟨rfl,rfl⟩))
 go_ret2
 exact⟨mu,lb,lcap,rfl,HX3.out.box,HB3.out,HX3.out.um,HX3.out.fr,HLB3.out.2.2⟩
end Go.Proofs.YtlpmiimgacfmkaaGreatDoor
