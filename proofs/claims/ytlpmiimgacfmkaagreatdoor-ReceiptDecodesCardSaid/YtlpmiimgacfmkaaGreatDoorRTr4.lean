/- logtree: Append at one leaf, two, three. -/
import Derived.Test.YtlpmiimgacfmkaaGreatDoorRTr2
set_option linter.all false
namespace Go.Proofs.YtlpmiimgacfmkaaGreatDoor
open Go.RowKit
set_option maxRecDepth 100000
set_option maxHeartbeats 4000000
theorem row_range {X:World} {L:Nat} {t:TypeId} {d:Nm} (hr:X.rowIs L t 32 (fun j=>.int .u8 ((d.getD j 0).toNat:Int))) (hd:d.length=32):X.rangeAt L 0 (dCells d):=fun j v hv=>by
 rw[Nat.zero_add]
 have hj:j<32:=by have:=(List.getElem?_eq_some_iff.1 hv).1;rw[dcells_len,hd] at this;exact this
 rw[hr.cell hj,←hv,dcells_get (by omega)]
theorem new_dig (W:World) (d:Nm) (hd:d.length=32):∃ Y,(storeCells ⟨W.heap.size,0,none⟩ (dCells d)).run Tryz.prog (W.alloc (.cells (#[.int .u8 0,.int .u8 0,.int .u8 0,.int .u8 0,.int .u8 0,.int .u8 0,.int .u8 0,.int .u8 0,.int .u8 0,.int .u8 0,.int .u8 0,.int .u8 0,.int .u8 0,.int .u8 0,.int .u8 0,.int .u8 0,.int .u8 0,.int .u8 0,.int .u8 0,.int .u8 0,.int .u8 0,.int .u8 0,.int .u8 0,.int .u8 0,.int .u8 0,.int .u8 0,.int .u8 0,.int .u8 0,.int .u8 0,.int .u8 0,.int .u8 0,.int .u8 0]) 57))=.ok () Y∧Fr [] W Y∧Y.rowIs W.heap.size 57 32 (fun j=>.int .u8 ((d.getD j 0).toNat:Int)):=by
 obtain⟨f,hf⟩:=digest_new W
 exact⟨_,store_digest hf hd,((Fr.refl [] W).alloc _).setCells (.inr (Nat.le_refl _)) _ _,(row_digest hf hd).2⟩
theorem part_leaf {ds:List Nm} {kvs:List (Value × Value)} {i:Nat} {d:Nm} (h:ds[i]?=some d) (hd:d.length=32):PartIs ds kvs 0 i d:=⟨hd,.inl ⟨rfl,h⟩⟩
theorem Append_1 (b:Nat) (d0 d:Nm) (F:List Nat) (w:World) (hM:TreeM w b [d0] [] F) (hok:Ok w) (hlo:∀ k∈F,6≤k) (hd32:d.length=32):Calls Tryz.prog 89 #[.pointer (some ⟨b,0,none⟩),encD d] w fun e w'=>e=.returned (.int .i64 0)∧∃ F',TreeM w' b [d0,d] [(partV 1 0,encD (nodeN d0 d))] F'∧Fr F w w'∧∀ k∈F',k∈F ∨ w.heap.size≤k:=by
 obtain⟨A,c,r,h,rfl⟩:=hM
 have hcl:(dCells d).length=32:=by rw[dcells_len,hd32]
 have hbx:=h.box
 have hbl:=hbx.lt
 unfold encD
 obtain⟨w1,hw1⟩:=nmd (w.alloc (.cells (dCells d).toArray 57))
 have hL1:w1.rowIs w.heap.size 57 32 (fun j=>.int .u8 ((d.getD j 0).toNat:Int)):=by rw[←hw1];exact row_cells w hcl
 have hf1:Fr [] w w1:=by rw[←hw1];exact (Fr.refl [] w).alloc _
 have hb1:=hbx.fr hf1 (by simp)
 obtain⟨y0,y1⟩:=hb1.m2
 have hT1:=h.fr hf1 (by simp)
 have HW1:=Hd hw1
 have HF1:=Hd hf1
 have HL1:=Hd hL1
 have HT1:=Hd hT1
 have HT0:=Hd h
 clear hw1 hb1 hf1 hL1 hbx hT1 h
 have qT:∀ (w:World) (r:Option Nat),(binOp .eql 235 (.map r) (.map none)).run Tryz.prog w=.ok (.bool r.isNone) w:=fun w r=>run_eql_map_nil w _ _ _ r Tryz.underlying235
 go_enter Tryz.func89,Tryz.ntmps89
 go_upto_region 1 with fail
 rw[HW1.out]
 go_upto_region 8 with fail
 obtain⟨w4,hw4,hp4,hf34⟩:=bxn w1 #[.int .i64 0,.int .i64 1] 270
 rw[hw4]
 have hT4:=HT1.out.fr hf34 (by simp)
 have hcb:=hT4.box.k0
 have hL4:=rowIs_fr HL1.out hf34 (by simp)
 have HBW:=Hd hT4.box
 have HOW:=Hd hT4.own
 have hnb:=hT4.nb
 have hlb:w.heap.size ∉ blk A:=by intro hm;have:=HT0.out.own.lt _ hm;omega
 have hrng:∀ X:World,X.rowIs w.heap.size 57 32 (fun j=>.int .u8 ((d.getD j 0).toNat:Int))→X.rangeAt w.heap.size 0 (dCells d):=fun X hr j v hv=>by
  rw[Nat.zero_add]
  have hj:j<32:=by have:=(List.getElem?_eq_some_iff.1 hv).1;rw[hcl] at this;exact this
  rw[hr.cell hj,←hv,dcells_get (by omega)]
 have hC:(fun X:World=>X.cell? ⟨b,0,none⟩=some (.slice A 1 c)∧X.rangeAt w.heap.size 0 (dCells d)) w4.drew:=⟨hcb,hrng _ hL4.drew⟩
 have HSS:=Hd (fun (X:World) (hX:X.cell? ⟨b,0,none⟩=some (.slice A 1 c)∧X.rangeAt w.heap.size 0 (dCells d))=>And.intro hX.1 trivial)
 refine wp_region_head (fun X:World=>X.cell? ⟨b,0,none⟩=some (.slice A 1 c)∧X.rangeAt w.heap.size 0 (dCells d)) 10 (by kernel_rfl) ?_ (by decide)
 show headJ 0 _ _ _ _ _ _ _ _ _ _ _
 iterate 5
  refine hdJ (v:=?_) rfl (Or.inl ⟨by rfl,?_⟩) ?_
  rotate_left
  ·intro W hW;obtain⟨z0,_⟩:=HSS.out W hW;go_simp;try with_reducible rfl
  try simp only[Act.put,qA,qB,qC,qD,qE,qF]
 refine headI_take (i:=5) (v:=.agg (dCells d).toArray) (by kernel_rfl) head_done rfl (by decide) (by kernel_rfl) (fun _ _ _ h=>h) (yieldsIf_load_mid (by rfl) 57 (.tmp 3) rfl w.heap.size (0) rfl (dCells d) (.array 32 5) (fun X hX=>hX.2) (by kernel_rfl) rfl (by rw[hcl];kernel_rfl)) (by assumption) ?_
 try simp only[Act.put,qA,qB,qC,qD,qE,qF]
 refine headI_only (i:=6) (by kernel_rfl) (by decide) rfl (fun K hK=>?_)
 rw[if_pos (by rfl)]
 go_simp
 rw[fold_zero (by rfl) hd32]
 obtain⟨X5,hX5,n5,f5⟩:=bxd w4 (dCells d).toArray 57
 have hC5:X5.cell? ⟨b,0,none⟩=some (.slice A 1 c)∧X5.rangeAt w.heap.size 0 (dCells d):=⟨(HBW.out.fr f5 (by simp)).c 0,hrng _ (rowIs_fr hL4 f5 (by simp))⟩
 rw[hX5]
 refine hK _ _ hC5 ?_
 clear hK K hX5
 try simp only[Act.put,qA,qB,qC,qD,qE,qF]
 refine headI_only (i:=7) (by kernel_rfl) (by decide) rfl (fun K hK=>?_)
 rw[if_pos (by rfl)]
 obtain⟨ii,hii,iz0,iz1,iz2⟩:=info_dig
 have HO5:=Hd (HOW.out.fr f5 (by simp))
 refine wp_app (.tmp 37) (.tmp 39) 51 rfl 57 ii _ 32 32 Tryz.underlying51 hii iz0 iz1 iz2 rfl (by decide) A 1 c ([d0].flatMap dCells) rfl HO5.out ⟨w4.heap.size,0,none⟩ 1 1 (dCells d) rfl (by rw[hcl]) (fun j u hu=>by rw[add_mid',n5.c j];simpa using hu) (dcells_one d) (by unfold maxLen;omega) (by omega) ?_
 intro A' c' X6 ho6 hf6 hA6
 rw[show (1+1:Nat)=2 from rfl] at ho6 ⊢
 have hC6:X6.cell? ⟨b,0,none⟩=some (.slice A 1 c)∧X6.rangeAt w.heap.size 0 (dCells d):=⟨((HBW.out.fr f5 (by simp)).fr hf6 hnb).c 0,hrng _ (rowIs_fr (rowIs_fr hL4 f5 (by simp)) hf6 hlb)⟩
 refine hK _ _ hC6 ?_
 clear hK K hC hC5
 try simp only[Act.put,qA,qB,qC,qD,qE,qF]
 show headJ 8 _ _ _ _ _ _ _ _ _ _ _
 iterate 2
  refine hdJ (v:=?_) rfl (Or.inl ⟨by rfl,?_⟩) ?_
  rotate_left
  ·intro W hW;obtain⟨z0,_⟩:=HSS.out W hW;go_simp;try with_reducible rfl
  try simp only[Act.put,qA,qB,qC,qD,qE,qF]
 refine headI_done ⟨by kernel_rfl,?_⟩
 simp only[List.drop_succ_cons,List.drop_zero]
 have hb6:=(HBW.out.fr f5 (by simp)).fr hf6 hnb
 have e0:=hb6.k0
 have e1:=hb6.f 0
 obtain⟨X7,hX7⟩:=nmd (X6.setCell ⟨b,0,none⟩ (.slice A' 2 c'))
 have f67:Fr [b] X6 X7:=by rw[←hX7];exact (Fr.refl [b] X6).set (.inl (by simp)) _
 have hb7:=hb6.setAt 0 (.slice A' 2 c')
 have hbA:b ∉ blk A':=by
  intro hm
  rcases hA6 b hm with h | h
  ·exact hnb h
  ·have:=HBW.out.lt;have:=f5.size;omega
 have ho7:Own X7 57 32 A' 2 c' (([d0].flatMap dCells)++dCells d):=ho6.fr f67 (by intro k hk;simp only[List.mem_singleton];rintro rfl;exact hbA hk)
 have f47:Fr (b::blk A) w4 X7:=((f5.mono (by simp)).trans (hf6.mono (T:=b::blk A) (by intro x hx;exact .inl (by simp[hx]))) (fun x hx=>.inl hx)).trans f67 (by simp)
 rw[hX7] at hb7
 have HB7:=Hd hb7
 have HO7:=Hd ho7
 have HF47:=Hd f47
 have HA7:=Hd (And.intro hbA (fun k hk=>(hA6 k hk).imp id (fun h=>Nat.le_trans f5.size h)))
 clear hb6 f67 hb7 ho7 f47 hbA ho6 hf6 hA6 hC6 HO5 f5 n5 HSS hrng
 go_wp2_with fail
 try rw[hX7]
 clear hX7 e0 e1
 have hrA:r ∉ b::blk A:=by have:=(HT0.out.ms r rfl).2;simp only[List.mem_cons,not_or];exact⟨this.1,this.2⟩
 have hP:w1.heap.size ∉ b::blk A:=by
  have h1:=HF1.out.size
  intro hm
  rcases List.mem_cons.1 hm with h | h
  ·omega
  ·have:=HT0.out.own.lt _ h;omega
 have hrl:=(HT0.out.ms r rfl).1.lt
 have hp7:=hp4.fr HF47.out hP
 have hm7:=(hT4.ms r rfl).1.fr HF47.out hrA
 have hlen7:∀ y∈[d0]++[d],y.length=32:=by
  intro y hy
  rcases List.mem_append.1 hy with h | h
  ·exact HT0.out.len y h
  ·rw[List.mem_singleton] at h
   rw[h]
   exact hd32
 have hT7:TreeIs X7 b A' c' (some r) ([d0,d]) ([]):=⟨HB7.out,by have h:=HO7.out;rw[←flat_snoc] at h;exact h,hlen7,HA7.out.1,by simp,fun q hq=>by
  injection hq with hq
  subst hq
  refine⟨hm7,(HT0.out.ms r rfl).2.1,fun hm=>?_⟩
  rcases HA7.out.2 _ hm with h | h
  ·exact (HT0.out.ms r rfl).2.2 h
  ·have:=HF1.out.size;have:=hf34.size;omega⟩
 have hF7:Fr (b::blk A) w X7:=((HF1.out.then hf34).mono (by simp)).then HF47.out
 have hPA:w1.heap.size ∉ b::(blk A'++(some r).toList):=by
  have h1:=HF1.out.size
  have h2:=hp4.lt
  simp only[List.mem_cons,List.mem_append,not_or]
  refine⟨fun h=>hP (by simp[h]),fun hm=>?_,by simp;omega⟩
  rcases HA7.out.2 _ hm with h | h
  ·exact hP (by simp[h])
  ·omega
 have hA7:∀ q∈blk A',q∈blk A ∨ w.heap.size≤q:=fun q hq=>(HA7.out.2 q hq).imp id (fun h=>by have:=HF1.out.size;have:=hf34.size;omega)
 have hPw:w.heap.size≤w1.heap.size:=HF1.out.size
 generalize w1.heap.size=P at hp7 hPA hPw ⊢
 have HT7:=Hd hT7
 have HP7:=Hd hp7
 have HF7:=Hd hF7
 have HR7:=Hd hA7
 clear hp7 hm7 hT7 hF7 hA7 HB7 HO7 HF47 HA7 hT4 hL4 HBW HOW hcb hf34 HL1 HT1 y0 y1 hlb hrA
 have hlow:=hok.low
 have hokX:Ok X7:=hok.fr HF7.out (by
  intro k hk
  refine hlo k ?_
  rcases List.mem_cons.1 hk with h | h
  ·simp[h]
  ·simp[h])
 refine wp_loop_rounds 2 ?_
 rw[rounds_succ]
 have hpl:PartIs ([d0,d]) ([]) 0 0 (d0):=(part_leaf rfl (HT0.out.len d0 (by simp)))
 have hpr:PartIs ([d0,d]) ([]) 0 1 (d):=(part_leaf rfl hd32)
 have hTA:TreeAt X7 b ([d0,d]) ([]) (b::(blk A'++(some r).toList)):=⟨A',c',some r,HT7.out,rfl⟩
 have HCL:Hid (∀ W,Fr [] X7 W→Calls Tryz.prog 149 #[.pointer (some ⟨b,0,none⟩),.agg #[.int .i64 0,.int .i64 0]] W (SumPost W (d0))):=Hd (fun W hW=>complete_any b 0 0 ([d0,d]) ([]) _ (d0) W (hTA.fr0 hW) hpl)
 have HCR:Hid (∀ W,Fr [] X7 W→Calls Tryz.prog 149 #[.pointer (some ⟨b,0,none⟩),.agg #[.int .i64 0,.int .i64 1]] W (SumPost W (d))):=Hd (fun W hW=>complete_any b 0 1 ([d0,d]) ([]) _ (d) W (hTA.fr0 hW) hpr)
 have hdl32:(d0).length=32:=hpl.1
 have hdr32:(d).length=32:=hpr.1
 have hcl1:(dCells (d0)).length=32:=by rw[dcells_len,hdl32]
 have hcl2:(dCells (d)).length=32:=by rw[dcells_len,hdr32]
 obtain⟨v0,v1⟩:=HP7.out.m2
 have hPl:=HP7.out.lt
 have hOK:∀ W,Fr [] X7 W→Ok W:=fun W hW=>hokX.fr0 hW
 go_upto_region 11 with ((go_at_call 149;(with_reducible refine (HCL.out _ (Fr.refl [] X7)).mono ?_);rintro e y1 ⟨rfl,hfy1⟩;unfold encD;obtain⟨y2,hst2,hfy2,hry2⟩:=new_dig y1 _ hdl32))
 have hs1:=hfy1.size
 have hlt6:=hry2.lt
 generalize y1.heap.size=L6 at hry2 hs1 hlt6 ⊢
 have hX2:=hfy1.then hfy2
 have hp2:=HP7.out.fr hX2 (by simp)
 obtain⟨u0,u1⟩:=hp2.m2
 clear hst2 hfy1 hfy2 v0 v1
 go_upto_region 12 with ((go_at_call 149;(with_reducible refine (HCR.out _ hX2).mono ?_);rintro e y3 ⟨rfl,hfy3⟩;unfold encD;obtain⟨y4,hst4,hfy4,hry4⟩:=new_dig y3 _ hdr32))
 have hs3:=hfy3.size
 have hlt7:=hry4.lt
 have hX4:=hX2.then (hfy3.then hfy4)
 have hr6:=rowIs_fr hry2 (hfy3.then hfy4) (by simp)
 generalize y3.heap.size=L7 at hry4 hs3 hlt7 ⊢
 have hp4b:=HP7.out.fr hX4 (by simp)
 obtain⟨q0,q1⟩:=hp4b.m2
 have qf0:=hp4b.f 0
 have qf1:=hp4b.f 1
 clear hst4 hfy3 hfy4 u0 u1 hp2 hry2
 go_upto_region 13 with fail
 obtain⟨y5,hy5⟩:=nmd ((y4.setCell ⟨P,0,none⟩ (.int .i64 1)).setCell ⟨P,1,none⟩ (.int .i64 0))
 have hp5:BoxN y5 P 270 #[.int .i64 1,.int .i64 0]:=by rw[←hy5];exact (hp4b.setAt 0 _).setAt 1 _
 have hf45:Fr [P] y4 y5:=by rw[←hy5];exact ((Fr.refl [P] y4).set (.inl (by simp)) _).set (.inl (by simp)) _
 try rw[hy5]
 have hT4r:=HT7.out.fr hX4 (by simp)
 have hT5:=hT4r.fr hf45 (by intro k hk;simp only[List.mem_singleton];rintro rfl;exact hPA hk)
 have h65:=rowIs_fr hr6 hf45 (by simp;omega)
 have h75:=rowIs_fr hry4 hf45 (by simp;omega)
 have hX5:Fr [P] X7 y5:=(hX4.mono (by simp)).then hf45
 clear q0 q1 qf0 qf1 hy5 hr6 hry4 hp4b hT4r
 have hlow:=hok.low
 have hok5:Ok y5:=hokX.fr hX5 (by simp;omega)
 have hND:∀ W,Fr [] y5 W→Calls Tryz.prog 150 #[.agg (dCells (d0)).toArray,.agg (dCells (d)).toArray] W (SumPost W (nodeN (d0) (d))):=fun W hW=>Node_any _ _ W (hok5.fr0 hW) hdl32 hdr32
 have hCX:∀ W,Fr [] y5 W→(W.cell? ⟨b,1,none⟩=some (.map (some r))∧W.cell? ⟨P,0,none⟩=some (.int .i64 1)∧W.cell? ⟨P,1,none⟩=some (.int .i64 0))∧W.rangeAt L6 0 (dCells (d0))∧W.rangeAt L7 0 (dCells (d)):=fun W hW=>⟨⟨(hT5.box.fr hW (by simp)).c 1,(hp5.fr hW (by simp)).c 0,(hp5.fr hW (by simp)).c 1⟩,row_range (rowIs_fr h65 hW (by simp)) hdl32,row_range (rowIs_fr h75 hW (by simp)) hdr32⟩
 have hC:=hCX _ (Fr.refl [] y5).drew
 have HSS:=Hd (fun (W:World) (hW:(W.cell? ⟨b,1,none⟩=some (.map (some r))∧W.cell? ⟨P,0,none⟩=some (.int .i64 1)∧W.cell? ⟨P,1,none⟩=some (.int .i64 0))∧W.rangeAt L6 0 (dCells (d0))∧W.rangeAt L7 0 (dCells (d)))=>hW.1)
 refine wp_region_head (fun W:World=>(W.cell? ⟨b,1,none⟩=some (.map (some r))∧W.cell? ⟨P,0,none⟩=some (.int .i64 1)∧W.cell? ⟨P,1,none⟩=some (.int .i64 0))∧W.rangeAt L6 0 (dCells (d0))∧W.rangeAt L7 0 (dCells (d))) 8 (by kernel_rfl) ?_ (by decide)
 show headJ 0 _ _ _ _ _ _ _ _ _ _ _
 iterate 5
  refine hdJ (v:=?_) rfl (Or.inl ⟨by rfl,?_⟩) ?_
  rotate_left
  ·intro W hW;obtain⟨s0,s1,s2⟩:=HSS.out W hW;go_simp;try with_reducible rfl
  try simp only[Act.put,qA,qB,qC,qD,qE,qF]
 refine headI_take (i:=5) (v:=.agg (dCells (d0)).toArray) (by kernel_rfl) head_done rfl (by decide) (by kernel_rfl) (fun _ _ _ h=>h) (yieldsIf_load_mid (by rfl) 57 (.tmp 6) rfl L6 (0) rfl (dCells (d0)) (.array 32 5) (fun X hX=>hX.2.1) (by kernel_rfl) rfl (by rw[hcl1];kernel_rfl)) (by assumption) ?_
 try simp only[Act.put,qA,qB,qC,qD,qE,qF]
 refine headI_take (i:=6) (v:=.agg (dCells (d)).toArray) (by kernel_rfl) head_done rfl (by decide) (by kernel_rfl) (fun _ _ _ h=>h) (yieldsIf_load_mid (by rfl) 57 (.tmp 7) rfl L7 (0) rfl (dCells (d)) (.array 32 5) (fun X hX=>hX.2.2) (by kernel_rfl) rfl (by rw[hcl2];kernel_rfl)) (by assumption) ?_
 try simp only[Act.put,qA,qB,qC,qD,qE,qF]
 refine headI_only (i:=7) (by kernel_rfl) (by decide) rfl (fun K hK=>?_)
 rw[if_pos (by rfl)]
 go_simp
 go_at_call 150
 (with_reducible refine (hND _ (Fr.refl [] y5).drew).mono ?_)
 rintro e y6 ⟨rfl,hf6⟩
 unfold encD
 have hf56:=hf6.undrew
 refine hK _ _ (hCX _ hf56) ?_
 clear hK K hC HSS
 try simp only[Act.put,qA,qB,qC,qD,qE,qF]
 refine headI_done ⟨by kernel_rfl,?_⟩
 simp only[List.drop_succ_cons,List.drop_zero]
 have hm6:=(hT5.ms r rfl).1.fr hf56 (by simp)
 obtain⟨kk,hkk⟩:=keyOf_part10
 obtain⟨Y,hup,hfu,hmu⟩:=MapIs.put_new (v:=.agg (dCells (nodeN (d0) (d))).toArray) key_part Tryz.underlying235 hm6 hkk (by simp[partV])
 unfold partV at hup
 have hT6:=hT5.fr hf56 (by simp)
 have hrb:=(hT5.ms r rfl).2
 have hTY:TreeIs Y b A' c' (some r) ([d0,d]) (([])++[(partV 1 0,encD (nodeN (d0) (d)))]):=⟨hT6.box.fr hfu (by simpa using hrb.1.symm),hT6.own.fr hfu (by intro k hk;simp only[List.mem_singleton];rintro rfl;exact hrb.2 hk),hT6.len,hT6.nb,by simp,fun q hq=>by
  injection hq with hq
  subst hq
  exact⟨hmu,hrb⟩⟩
 have hPr:P≠r:=by rintro rfl;exact hPA (by simp)
 have HT8:=Hd hTY
 have HP8:=Hd ((hp5.fr hf56 (by simp)).fr hfu (by simpa using hPr))
 have HF8:Hid (Fr [P,r] X7 Y):=Hd (((hX5.mono (T:=[P,r]) (by simp)).trans hf56 (by simp)).trans hfu (by simp))
 clear hm6 hfu hmu hT6 hTY hf6 hf56 hCX hND hT5 h65 h75 hp5 hX5 hX4 hX2 hTA HCL HCR hf45 hrb
 go_wp2_with fail
 have q1:=HP8.out.k1
 rw[rounds_succ]
 go_wp2_with fail
 go_ret
 have hF7b:Fr (b::(blk A++(some r).toList)) w X7:=HF7.out.mono (fun k hk=>.inl (by rcases List.mem_cons.1 hk with h | h <;> simp[h]))
 have hfin:Fr (b::(blk A++(some r).toList)) w Y:=hF7b.trans HF8.out (by simp;omega)
 refine⟨rfl,b::(blk A'++(some r).toList),⟨A',c',r,HT8.out,rfl⟩,hfin,fun k hk=>?_⟩
 rcases List.mem_cons.1 hk with h | h
 ·exact .inl (by simp[h])
 ·rcases List.mem_append.1 h with h | h
  ·rcases HR7.out k h with h2 | h2
   ·exact .inl (by simp[h2])
   ·exact .inr h2
  ·exact .inl (by have:k=r:=by simpa using h
                  simp[this])
theorem Append_2 (b:Nat) (d0 d1 d:Nm) (kvs:List (Value × Value)) (F:List Nat) (w:World) (hM:TreeM w b [d0,d1] kvs F) (hd32:d.length=32):Calls Tryz.prog 89 #[.pointer (some ⟨b,0,none⟩),encD d] w fun e w'=>e=.returned (.int .i64 0)∧∃ F',TreeM w' b [d0,d1,d] kvs F'∧Fr F w w'∧∀ k∈F',k∈F ∨ w.heap.size≤k:=by
 obtain⟨A,c,r,h,rfl⟩:=hM
 have hcl:(dCells d).length=32:=by rw[dcells_len,hd32]
 have hbx:=h.box
 have hbl:=hbx.lt
 unfold encD
 obtain⟨w1,hw1⟩:=nmd (w.alloc (.cells (dCells d).toArray 57))
 have hL1:w1.rowIs w.heap.size 57 32 (fun j=>.int .u8 ((d.getD j 0).toNat:Int)):=by rw[←hw1];exact row_cells w hcl
 have hf1:Fr [] w w1:=by rw[←hw1];exact (Fr.refl [] w).alloc _
 have hb1:=hbx.fr hf1 (by simp)
 obtain⟨y0,y1⟩:=hb1.m2
 have hT1:=h.fr hf1 (by simp)
 have HW1:=Hd hw1
 have HF1:=Hd hf1
 have HL1:=Hd hL1
 have HT1:=Hd hT1
 have HT0:=Hd h
 clear hw1 hb1 hf1 hL1 hbx hT1 h
 have qT:∀ (w:World) (r:Option Nat),(binOp .eql 235 (.map r) (.map none)).run Tryz.prog w=.ok (.bool r.isNone) w:=fun w r=>run_eql_map_nil w _ _ _ r Tryz.underlying235
 go_enter Tryz.func89,Tryz.ntmps89
 go_upto_region 1 with fail
 rw[HW1.out]
 go_upto_region 8 with fail
 obtain⟨w4,hw4,hp4,hf34⟩:=bxn w1 #[.int .i64 0,.int .i64 2] 270
 rw[hw4]
 have hT4:=HT1.out.fr hf34 (by simp)
 have hcb:=hT4.box.k0
 have hL4:=rowIs_fr HL1.out hf34 (by simp)
 have HBW:=Hd hT4.box
 have HOW:=Hd hT4.own
 have hnb:=hT4.nb
 have hlb:w.heap.size ∉ blk A:=by intro hm;have:=HT0.out.own.lt _ hm;omega
 have hrng:∀ X:World,X.rowIs w.heap.size 57 32 (fun j=>.int .u8 ((d.getD j 0).toNat:Int))→X.rangeAt w.heap.size 0 (dCells d):=fun X hr j v hv=>by
  rw[Nat.zero_add]
  have hj:j<32:=by have:=(List.getElem?_eq_some_iff.1 hv).1;rw[hcl] at this;exact this
  rw[hr.cell hj,←hv,dcells_get (by omega)]
 have hC:(fun X:World=>X.cell? ⟨b,0,none⟩=some (.slice A 2 c)∧X.rangeAt w.heap.size 0 (dCells d)) w4.drew:=⟨hcb,hrng _ hL4.drew⟩
 have HSS:=Hd (fun (X:World) (hX:X.cell? ⟨b,0,none⟩=some (.slice A 2 c)∧X.rangeAt w.heap.size 0 (dCells d))=>And.intro hX.1 trivial)
 refine wp_region_head (fun X:World=>X.cell? ⟨b,0,none⟩=some (.slice A 2 c)∧X.rangeAt w.heap.size 0 (dCells d)) 10 (by kernel_rfl) ?_ (by decide)
 show headJ 0 _ _ _ _ _ _ _ _ _ _ _
 iterate 5
  refine hdJ (v:=?_) rfl (Or.inl ⟨by rfl,?_⟩) ?_
  rotate_left
  ·intro W hW;obtain⟨z0,_⟩:=HSS.out W hW;go_simp;try with_reducible rfl
  try simp only[Act.put,qA,qB,qC,qD,qE,qF]
 refine headI_take (i:=5) (v:=.agg (dCells d).toArray) (by kernel_rfl) head_done rfl (by decide) (by kernel_rfl) (fun _ _ _ h=>h) (yieldsIf_load_mid (by rfl) 57 (.tmp 3) rfl w.heap.size (0) rfl (dCells d) (.array 32 5) (fun X hX=>hX.2) (by kernel_rfl) rfl (by rw[hcl];kernel_rfl)) (by assumption) ?_
 try simp only[Act.put,qA,qB,qC,qD,qE,qF]
 refine headI_only (i:=6) (by kernel_rfl) (by decide) rfl (fun K hK=>?_)
 rw[if_pos (by rfl)]
 go_simp
 rw[fold_zero (by rfl) hd32]
 obtain⟨X5,hX5,n5,f5⟩:=bxd w4 (dCells d).toArray 57
 have hC5:X5.cell? ⟨b,0,none⟩=some (.slice A 2 c)∧X5.rangeAt w.heap.size 0 (dCells d):=⟨(HBW.out.fr f5 (by simp)).c 0,hrng _ (rowIs_fr hL4 f5 (by simp))⟩
 rw[hX5]
 refine hK _ _ hC5 ?_
 clear hK K hX5
 try simp only[Act.put,qA,qB,qC,qD,qE,qF]
 refine headI_only (i:=7) (by kernel_rfl) (by decide) rfl (fun K hK=>?_)
 rw[if_pos (by rfl)]
 obtain⟨ii,hii,iz0,iz1,iz2⟩:=info_dig
 have HO5:=Hd (HOW.out.fr f5 (by simp))
 refine wp_app (.tmp 37) (.tmp 39) 51 rfl 57 ii _ 32 32 Tryz.underlying51 hii iz0 iz1 iz2 rfl (by decide) A 2 c ([d0,d1].flatMap dCells) rfl HO5.out ⟨w4.heap.size,0,none⟩ 1 1 (dCells d) rfl (by rw[hcl]) (fun j u hu=>by rw[add_mid',n5.c j];simpa using hu) (dcells_one d) (by unfold maxLen;omega) (by omega) ?_
 intro A' c' X6 ho6 hf6 hA6
 rw[show (2+1:Nat)=3 from rfl] at ho6 ⊢
 have hC6:X6.cell? ⟨b,0,none⟩=some (.slice A 2 c)∧X6.rangeAt w.heap.size 0 (dCells d):=⟨((HBW.out.fr f5 (by simp)).fr hf6 hnb).c 0,hrng _ (rowIs_fr (rowIs_fr hL4 f5 (by simp)) hf6 hlb)⟩
 refine hK _ _ hC6 ?_
 clear hK K hC hC5
 try simp only[Act.put,qA,qB,qC,qD,qE,qF]
 show headJ 8 _ _ _ _ _ _ _ _ _ _ _
 iterate 2
  refine hdJ (v:=?_) rfl (Or.inl ⟨by rfl,?_⟩) ?_
  rotate_left
  ·intro W hW;obtain⟨z0,_⟩:=HSS.out W hW;go_simp;try with_reducible rfl
  try simp only[Act.put,qA,qB,qC,qD,qE,qF]
 refine headI_done ⟨by kernel_rfl,?_⟩
 simp only[List.drop_succ_cons,List.drop_zero]
 have hb6:=(HBW.out.fr f5 (by simp)).fr hf6 hnb
 have e0:=hb6.k0
 have e1:=hb6.f 0
 obtain⟨X7,hX7⟩:=nmd (X6.setCell ⟨b,0,none⟩ (.slice A' 3 c'))
 have f67:Fr [b] X6 X7:=by rw[←hX7];exact (Fr.refl [b] X6).set (.inl (by simp)) _
 have hb7:=hb6.setAt 0 (.slice A' 3 c')
 have hbA:b ∉ blk A':=by
  intro hm
  rcases hA6 b hm with h | h
  ·exact hnb h
  ·have:=HBW.out.lt;have:=f5.size;omega
 have ho7:Own X7 57 32 A' 3 c' (([d0,d1].flatMap dCells)++dCells d):=ho6.fr f67 (by intro k hk;simp only[List.mem_singleton];rintro rfl;exact hbA hk)
 have f47:Fr (b::blk A) w4 X7:=((f5.mono (by simp)).trans (hf6.mono (T:=b::blk A) (by intro x hx;exact .inl (by simp[hx]))) (fun x hx=>.inl hx)).trans f67 (by simp)
 rw[hX7] at hb7
 have HB7:=Hd hb7
 have HO7:=Hd ho7
 have HF47:=Hd f47
 have HA7:=Hd (And.intro hbA (fun k hk=>(hA6 k hk).imp id (fun h=>Nat.le_trans f5.size h)))
 clear hb6 f67 hb7 ho7 f47 hbA ho6 hf6 hA6 hC6 HO5 f5 n5 HSS hrng
 go_wp2_with fail
 try rw[hX7]
 clear hX7 e0 e1
 have hrA:r ∉ b::blk A:=by have:=(HT0.out.ms r rfl).2;simp only[List.mem_cons,not_or];exact⟨this.1,this.2⟩
 have hP:w1.heap.size ∉ b::blk A:=by
  have h1:=HF1.out.size
  intro hm
  rcases List.mem_cons.1 hm with h | h
  ·omega
  ·have:=HT0.out.own.lt _ h;omega
 have hrl:=(HT0.out.ms r rfl).1.lt
 have hp7:=hp4.fr HF47.out hP
 have hm7:=(hT4.ms r rfl).1.fr HF47.out hrA
 have hlen7:∀ y∈[d0,d1]++[d],y.length=32:=by
  intro y hy
  rcases List.mem_append.1 hy with h | h
  ·exact HT0.out.len y h
  ·rw[List.mem_singleton] at h
   rw[h]
   exact hd32
 have hT7:TreeIs X7 b A' c' (some r) ([d0,d1,d]) (kvs):=⟨HB7.out,by have h:=HO7.out;rw[←flat_snoc] at h;exact h,hlen7,HA7.out.1,by simp,fun q hq=>by
  injection hq with hq
  subst hq
  refine⟨hm7,(HT0.out.ms r rfl).2.1,fun hm=>?_⟩
  rcases HA7.out.2 _ hm with h | h
  ·exact (HT0.out.ms r rfl).2.2 h
  ·have:=HF1.out.size;have:=hf34.size;omega⟩
 have hF7:Fr (b::blk A) w X7:=((HF1.out.then hf34).mono (by simp)).then HF47.out
 have hPA:w1.heap.size ∉ b::(blk A'++(some r).toList):=by
  have h1:=HF1.out.size
  have h2:=hp4.lt
  simp only[List.mem_cons,List.mem_append,not_or]
  refine⟨fun h=>hP (by simp[h]),fun hm=>?_,by simp;omega⟩
  rcases HA7.out.2 _ hm with h | h
  ·exact hP (by simp[h])
  ·omega
 have hA7:∀ q∈blk A',q∈blk A ∨ w.heap.size≤q:=fun q hq=>(HA7.out.2 q hq).imp id (fun h=>by have:=HF1.out.size;have:=hf34.size;omega)
 have hPw:w.heap.size≤w1.heap.size:=HF1.out.size
 generalize w1.heap.size=P at hp7 hPA hPw ⊢
 have HT7:=Hd hT7
 have HP7:=Hd hp7
 have HF7:=Hd hF7
 have HR7:=Hd hA7
 clear hp7 hm7 hT7 hF7 hA7 HB7 HO7 HF47 HA7 hT4 hL4 HBW HOW hcb hf34 HL1 HT1 y0 y1 hlb hrA
 refine wp_loop_rounds 1 ?_
 have q1:=HP7.out.k1
 rw[rounds_succ]
 go_wp2_with fail
 go_ret
 have hF7b:Fr (b::(blk A++(some r).toList)) w X7:=HF7.out.mono (fun k hk=>.inl (by rcases List.mem_cons.1 hk with h | h <;> simp[h]))
 refine⟨rfl,b::(blk A'++(some r).toList),⟨A',c',r,HT7.out,rfl⟩,hF7b,fun k hk=>?_⟩
 rcases List.mem_cons.1 hk with h | h
 ·exact .inl (by simp[h])
 ·rcases List.mem_append.1 h with h | h
  ·rcases HR7.out k h with h2 | h2
   ·exact .inl (by simp[h2])
   ·exact .inr h2
  ·exact .inl (by have:k=r:=by simpa using h
                  simp[this])
theorem Append_3 (b:Nat) (d0 d1 d2 d n01:Nm) (F:List Nat) (w:World) (hM:TreeM w b [d0,d1,d2] [(partV 1 0,encD n01)] F) (hok:Ok w) (hlo:∀ k∈F,6≤k) (hn32:n01.length=32) (hd32:d.length=32) :
 Calls Tryz.prog 89 #[.pointer (some ⟨b,0,none⟩),encD d] w fun e w'=>e=.returned (.int .i64 0)∧∃ F',TreeM w' b [d0,d1,d2,d] [(partV 1 0,encD n01),(partV 1 1,encD (nodeN d2 d)),(partV 2 0,encD (nodeN n01 (nodeN d2 d)))] F'∧Fr F w w'∧∀ k∈F',k∈F ∨ w.heap.size≤k:=by
 obtain⟨A,c,r,h,rfl⟩:=hM
 have hcl:(dCells d).length=32:=by rw[dcells_len,hd32]
 have hbx:=h.box
 have hbl:=hbx.lt
 unfold encD
 obtain⟨w1,hw1⟩:=nmd (w.alloc (.cells (dCells d).toArray 57))
 have hL1:w1.rowIs w.heap.size 57 32 (fun j=>.int .u8 ((d.getD j 0).toNat:Int)):=by rw[←hw1];exact row_cells w hcl
 have hf1:Fr [] w w1:=by rw[←hw1];exact (Fr.refl [] w).alloc _
 have hb1:=hbx.fr hf1 (by simp)
 obtain⟨y0,y1⟩:=hb1.m2
 have hT1:=h.fr hf1 (by simp)
 have HW1:=Hd hw1
 have HF1:=Hd hf1
 have HL1:=Hd hL1
 have HT1:=Hd hT1
 have HT0:=Hd h
 clear hw1 hb1 hf1 hL1 hbx hT1 h
 have qT:∀ (w:World) (r:Option Nat),(binOp .eql 235 (.map r) (.map none)).run Tryz.prog w=.ok (.bool r.isNone) w:=fun w r=>run_eql_map_nil w _ _ _ r Tryz.underlying235
 go_enter Tryz.func89,Tryz.ntmps89
 go_upto_region 1 with fail
 rw[HW1.out]
 go_upto_region 8 with fail
 obtain⟨w4,hw4,hp4,hf34⟩:=bxn w1 #[.int .i64 0,.int .i64 3] 270
 rw[hw4]
 have hT4:=HT1.out.fr hf34 (by simp)
 have hcb:=hT4.box.k0
 have hL4:=rowIs_fr HL1.out hf34 (by simp)
 have HBW:=Hd hT4.box
 have HOW:=Hd hT4.own
 have hnb:=hT4.nb
 have hlb:w.heap.size ∉ blk A:=by intro hm;have:=HT0.out.own.lt _ hm;omega
 have hrng:∀ X:World,X.rowIs w.heap.size 57 32 (fun j=>.int .u8 ((d.getD j 0).toNat:Int))→X.rangeAt w.heap.size 0 (dCells d):=fun X hr j v hv=>by
  rw[Nat.zero_add]
  have hj:j<32:=by have:=(List.getElem?_eq_some_iff.1 hv).1;rw[hcl] at this;exact this
  rw[hr.cell hj,←hv,dcells_get (by omega)]
 have hC:(fun X:World=>X.cell? ⟨b,0,none⟩=some (.slice A 3 c)∧X.rangeAt w.heap.size 0 (dCells d)) w4.drew:=⟨hcb,hrng _ hL4.drew⟩
 have HSS:=Hd (fun (X:World) (hX:X.cell? ⟨b,0,none⟩=some (.slice A 3 c)∧X.rangeAt w.heap.size 0 (dCells d))=>And.intro hX.1 trivial)
 refine wp_region_head (fun X:World=>X.cell? ⟨b,0,none⟩=some (.slice A 3 c)∧X.rangeAt w.heap.size 0 (dCells d)) 10 (by kernel_rfl) ?_ (by decide)
 show headJ 0 _ _ _ _ _ _ _ _ _ _ _
 iterate 5
  refine hdJ (v:=?_) rfl (Or.inl ⟨by rfl,?_⟩) ?_
  rotate_left
  ·intro W hW;obtain⟨z0,_⟩:=HSS.out W hW;go_simp;try with_reducible rfl
  try simp only[Act.put,qA,qB,qC,qD,qE,qF]
 refine headI_take (i:=5) (v:=.agg (dCells d).toArray) (by kernel_rfl) head_done rfl (by decide) (by kernel_rfl) (fun _ _ _ h=>h) (yieldsIf_load_mid (by rfl) 57 (.tmp 3) rfl w.heap.size (0) rfl (dCells d) (.array 32 5) (fun X hX=>hX.2) (by kernel_rfl) rfl (by rw[hcl];kernel_rfl)) (by assumption) ?_
 try simp only[Act.put,qA,qB,qC,qD,qE,qF]
 refine headI_only (i:=6) (by kernel_rfl) (by decide) rfl (fun K hK=>?_)
 rw[if_pos (by rfl)]
 go_simp
 rw[fold_zero (by rfl) hd32]
 obtain⟨X5,hX5,n5,f5⟩:=bxd w4 (dCells d).toArray 57
 have hC5:X5.cell? ⟨b,0,none⟩=some (.slice A 3 c)∧X5.rangeAt w.heap.size 0 (dCells d):=⟨(HBW.out.fr f5 (by simp)).c 0,hrng _ (rowIs_fr hL4 f5 (by simp))⟩
 rw[hX5]
 refine hK _ _ hC5 ?_
 clear hK K hX5
 try simp only[Act.put,qA,qB,qC,qD,qE,qF]
 refine headI_only (i:=7) (by kernel_rfl) (by decide) rfl (fun K hK=>?_)
 rw[if_pos (by rfl)]
 obtain⟨ii,hii,iz0,iz1,iz2⟩:=info_dig
 have HO5:=Hd (HOW.out.fr f5 (by simp))
 refine wp_app (.tmp 37) (.tmp 39) 51 rfl 57 ii _ 32 32 Tryz.underlying51 hii iz0 iz1 iz2 rfl (by decide) A 3 c ([d0,d1,d2].flatMap dCells) rfl HO5.out ⟨w4.heap.size,0,none⟩ 1 1 (dCells d) rfl (by rw[hcl]) (fun j u hu=>by rw[add_mid',n5.c j];simpa using hu) (dcells_one d) (by unfold maxLen;omega) (by omega) ?_
 intro A' c' X6 ho6 hf6 hA6
 rw[show (3+1:Nat)=4 from rfl] at ho6 ⊢
 have hC6:X6.cell? ⟨b,0,none⟩=some (.slice A 3 c)∧X6.rangeAt w.heap.size 0 (dCells d):=⟨((HBW.out.fr f5 (by simp)).fr hf6 hnb).c 0,hrng _ (rowIs_fr (rowIs_fr hL4 f5 (by simp)) hf6 hlb)⟩
 refine hK _ _ hC6 ?_
 clear hK K hC hC5
 try simp only[Act.put,qA,qB,qC,qD,qE,qF]
 show headJ 8 _ _ _ _ _ _ _ _ _ _ _
 iterate 2
  refine hdJ (v:=?_) rfl (Or.inl ⟨by rfl,?_⟩) ?_
  rotate_left
  ·intro W hW;obtain⟨z0,_⟩:=HSS.out W hW;go_simp;try with_reducible rfl
  try simp only[Act.put,qA,qB,qC,qD,qE,qF]
 refine headI_done ⟨by kernel_rfl,?_⟩
 simp only[List.drop_succ_cons,List.drop_zero]
 have hb6:=(HBW.out.fr f5 (by simp)).fr hf6 hnb
 have e0:=hb6.k0
 have e1:=hb6.f 0
 obtain⟨X7,hX7⟩:=nmd (X6.setCell ⟨b,0,none⟩ (.slice A' 4 c'))
 have f67:Fr [b] X6 X7:=by rw[←hX7];exact (Fr.refl [b] X6).set (.inl (by simp)) _
 have hb7:=hb6.setAt 0 (.slice A' 4 c')
 have hbA:b ∉ blk A':=by
  intro hm
  rcases hA6 b hm with h | h
  ·exact hnb h
  ·have:=HBW.out.lt;have:=f5.size;omega
 have ho7:Own X7 57 32 A' 4 c' (([d0,d1,d2].flatMap dCells)++dCells d):=ho6.fr f67 (by intro k hk;simp only[List.mem_singleton];rintro rfl;exact hbA hk)
 have f47:Fr (b::blk A) w4 X7:=((f5.mono (by simp)).trans (hf6.mono (T:=b::blk A) (by intro x hx;exact .inl (by simp[hx]))) (fun x hx=>.inl hx)).trans f67 (by simp)
 rw[hX7] at hb7
 have HB7:=Hd hb7
 have HO7:=Hd ho7
 have HF47:=Hd f47
 have HA7:=Hd (And.intro hbA (fun k hk=>(hA6 k hk).imp id (fun h=>Nat.le_trans f5.size h)))
 clear hb6 f67 hb7 ho7 f47 hbA ho6 hf6 hA6 hC6 HO5 f5 n5 HSS hrng
 go_wp2_with fail
 try rw[hX7]
 clear hX7 e0 e1
 have hrA:r ∉ b::blk A:=by have:=(HT0.out.ms r rfl).2;simp only[List.mem_cons,not_or];exact⟨this.1,this.2⟩
 have hP:w1.heap.size ∉ b::blk A:=by
  have h1:=HF1.out.size
  intro hm
  rcases List.mem_cons.1 hm with h | h
  ·omega
  ·have:=HT0.out.own.lt _ h;omega
 have hrl:=(HT0.out.ms r rfl).1.lt
 have hp7:=hp4.fr HF47.out hP
 have hm7:=(hT4.ms r rfl).1.fr HF47.out hrA
 have hlen7:∀ y∈[d0,d1,d2]++[d],y.length=32:=by
  intro y hy
  rcases List.mem_append.1 hy with h | h
  ·exact HT0.out.len y h
  ·rw[List.mem_singleton] at h
   rw[h]
   exact hd32
 have hT7:TreeIs X7 b A' c' (some r) ([d0,d1,d2,d]) ([(partV 1 0,encD n01)]):=⟨HB7.out,by have h:=HO7.out;rw[←flat_snoc] at h;exact h,hlen7,HA7.out.1,by simp,fun q hq=>by
  injection hq with hq
  subst hq
  refine⟨hm7,(HT0.out.ms r rfl).2.1,fun hm=>?_⟩
  rcases HA7.out.2 _ hm with h | h
  ·exact (HT0.out.ms r rfl).2.2 h
  ·have:=HF1.out.size;have:=hf34.size;omega⟩
 have hF7:Fr (b::blk A) w X7:=((HF1.out.then hf34).mono (by simp)).then HF47.out
 have hPA:w1.heap.size ∉ b::(blk A'++(some r).toList):=by
  have h1:=HF1.out.size
  have h2:=hp4.lt
  simp only[List.mem_cons,List.mem_append,not_or]
  refine⟨fun h=>hP (by simp[h]),fun hm=>?_,by simp;omega⟩
  rcases HA7.out.2 _ hm with h | h
  ·exact hP (by simp[h])
  ·omega
 have hA7:∀ q∈blk A',q∈blk A ∨ w.heap.size≤q:=fun q hq=>(HA7.out.2 q hq).imp id (fun h=>by have:=HF1.out.size;have:=hf34.size;omega)
 have hPw:w.heap.size≤w1.heap.size:=HF1.out.size
 generalize w1.heap.size=P at hp7 hPA hPw ⊢
 have HT7:=Hd hT7
 have HP7:=Hd hp7
 have HF7:=Hd hF7
 have HR7:=Hd hA7
 clear hp7 hm7 hT7 hF7 hA7 HB7 HO7 HF47 HA7 hT4 hL4 HBW HOW hcb hf34 HL1 HT1 y0 y1 hlb hrA
 have hlow:=hok.low
 have hokX:Ok X7:=hok.fr HF7.out (by
  intro k hk
  refine hlo k ?_
  rcases List.mem_cons.1 hk with h | h
  ·simp[h]
  ·simp[h])
 refine wp_loop_rounds 3 ?_
 rw[rounds_succ]
 have hpl:PartIs ([d0,d1,d2,d]) ([(partV 1 0,encD n01)]) 0 2 (d2):=(part_leaf rfl (HT0.out.len d2 (by simp)))
 have hpr:PartIs ([d0,d1,d2,d]) ([(partV 1 0,encD n01)]) 0 3 (d):=(part_leaf rfl hd32)
 have hTA:TreeAt X7 b ([d0,d1,d2,d]) ([(partV 1 0,encD n01)]) (b::(blk A'++(some r).toList)):=⟨A',c',some r,HT7.out,rfl⟩
 have HCL:Hid (∀ W,Fr [] X7 W→Calls Tryz.prog 149 #[.pointer (some ⟨b,0,none⟩),.agg #[.int .i64 0,.int .i64 2]] W (SumPost W (d2))):=Hd (fun W hW=>complete_any b 0 2 ([d0,d1,d2,d]) ([(partV 1 0,encD n01)]) _ (d2) W (hTA.fr0 hW) hpl)
 have HCR:Hid (∀ W,Fr [] X7 W→Calls Tryz.prog 149 #[.pointer (some ⟨b,0,none⟩),.agg #[.int .i64 0,.int .i64 3]] W (SumPost W (d))):=Hd (fun W hW=>complete_any b 0 3 ([d0,d1,d2,d]) ([(partV 1 0,encD n01)]) _ (d) W (hTA.fr0 hW) hpr)
 have hdl32:(d2).length=32:=hpl.1
 have hdr32:(d).length=32:=hpr.1
 have hcl1:(dCells (d2)).length=32:=by rw[dcells_len,hdl32]
 have hcl2:(dCells (d)).length=32:=by rw[dcells_len,hdr32]
 obtain⟨v0,v1⟩:=HP7.out.m2
 have hPl:=HP7.out.lt
 have hOK:∀ W,Fr [] X7 W→Ok W:=fun W hW=>hokX.fr0 hW
 go_upto_region 11 with ((go_at_call 149;(with_reducible refine (HCL.out _ (Fr.refl [] X7)).mono ?_);rintro e y1 ⟨rfl,hfy1⟩;unfold encD;obtain⟨y2,hst2,hfy2,hry2⟩:=new_dig y1 _ hdl32))
 have hs1:=hfy1.size
 have hlt6:=hry2.lt
 generalize y1.heap.size=L6 at hry2 hs1 hlt6 ⊢
 have hX2:=hfy1.then hfy2
 have hp2:=HP7.out.fr hX2 (by simp)
 obtain⟨u0,u1⟩:=hp2.m2
 clear hst2 hfy1 hfy2 v0 v1
 go_upto_region 12 with ((go_at_call 149;(with_reducible refine (HCR.out _ hX2).mono ?_);rintro e y3 ⟨rfl,hfy3⟩;unfold encD;obtain⟨y4,hst4,hfy4,hry4⟩:=new_dig y3 _ hdr32))
 have hs3:=hfy3.size
 have hlt7:=hry4.lt
 have hX4:=hX2.then (hfy3.then hfy4)
 have hr6:=rowIs_fr hry2 (hfy3.then hfy4) (by simp)
 generalize y3.heap.size=L7 at hry4 hs3 hlt7 ⊢
 have hp4b:=HP7.out.fr hX4 (by simp)
 obtain⟨q0,q1⟩:=hp4b.m2
 have qf0:=hp4b.f 0
 have qf1:=hp4b.f 1
 clear hst4 hfy3 hfy4 u0 u1 hp2 hry2
 go_upto_region 13 with fail
 obtain⟨y5,hy5⟩:=nmd ((y4.setCell ⟨P,0,none⟩ (.int .i64 1)).setCell ⟨P,1,none⟩ (.int .i64 1))
 have hp5:BoxN y5 P 270 #[.int .i64 1,.int .i64 1]:=by rw[←hy5];exact (hp4b.setAt 0 _).setAt 1 _
 have hf45:Fr [P] y4 y5:=by rw[←hy5];exact ((Fr.refl [P] y4).set (.inl (by simp)) _).set (.inl (by simp)) _
 try rw[hy5]
 have hT4r:=HT7.out.fr hX4 (by simp)
 have hT5:=hT4r.fr hf45 (by intro k hk;simp only[List.mem_singleton];rintro rfl;exact hPA hk)
 have h65:=rowIs_fr hr6 hf45 (by simp;omega)
 have h75:=rowIs_fr hry4 hf45 (by simp;omega)
 have hX5:Fr [P] X7 y5:=(hX4.mono (by simp)).then hf45
 clear q0 q1 qf0 qf1 hy5 hr6 hry4 hp4b hT4r
 have hlow:=hok.low
 have hok5:Ok y5:=hokX.fr hX5 (by simp;omega)
 have hND:∀ W,Fr [] y5 W→Calls Tryz.prog 150 #[.agg (dCells (d2)).toArray,.agg (dCells (d)).toArray] W (SumPost W (nodeN (d2) (d))):=fun W hW=>Node_any _ _ W (hok5.fr0 hW) hdl32 hdr32
 have hCX:∀ W,Fr [] y5 W→(W.cell? ⟨b,1,none⟩=some (.map (some r))∧W.cell? ⟨P,0,none⟩=some (.int .i64 1)∧W.cell? ⟨P,1,none⟩=some (.int .i64 1))∧W.rangeAt L6 0 (dCells (d2))∧W.rangeAt L7 0 (dCells (d)):=fun W hW=>⟨⟨(hT5.box.fr hW (by simp)).c 1,(hp5.fr hW (by simp)).c 0,(hp5.fr hW (by simp)).c 1⟩,row_range (rowIs_fr h65 hW (by simp)) hdl32,row_range (rowIs_fr h75 hW (by simp)) hdr32⟩
 have hC:=hCX _ (Fr.refl [] y5).drew
 have HSS:=Hd (fun (W:World) (hW:(W.cell? ⟨b,1,none⟩=some (.map (some r))∧W.cell? ⟨P,0,none⟩=some (.int .i64 1)∧W.cell? ⟨P,1,none⟩=some (.int .i64 1))∧W.rangeAt L6 0 (dCells (d2))∧W.rangeAt L7 0 (dCells (d)))=>hW.1)
 refine wp_region_head (fun W:World=>(W.cell? ⟨b,1,none⟩=some (.map (some r))∧W.cell? ⟨P,0,none⟩=some (.int .i64 1)∧W.cell? ⟨P,1,none⟩=some (.int .i64 1))∧W.rangeAt L6 0 (dCells (d2))∧W.rangeAt L7 0 (dCells (d))) 8 (by kernel_rfl) ?_ (by decide)
 show headJ 0 _ _ _ _ _ _ _ _ _ _ _
 iterate 5
  refine hdJ (v:=?_) rfl (Or.inl ⟨by rfl,?_⟩) ?_
  rotate_left
  ·intro W hW;obtain⟨s0,s1,s2⟩:=HSS.out W hW;go_simp;try with_reducible rfl
  try simp only[Act.put,qA,qB,qC,qD,qE,qF]
 refine headI_take (i:=5) (v:=.agg (dCells (d2)).toArray) (by kernel_rfl) head_done rfl (by decide) (by kernel_rfl) (fun _ _ _ h=>h) (yieldsIf_load_mid (by rfl) 57 (.tmp 6) rfl L6 (0) rfl (dCells (d2)) (.array 32 5) (fun X hX=>hX.2.1) (by kernel_rfl) rfl (by rw[hcl1];kernel_rfl)) (by assumption) ?_
 try simp only[Act.put,qA,qB,qC,qD,qE,qF]
 refine headI_take (i:=6) (v:=.agg (dCells (d)).toArray) (by kernel_rfl) head_done rfl (by decide) (by kernel_rfl) (fun _ _ _ h=>h) (yieldsIf_load_mid (by rfl) 57 (.tmp 7) rfl L7 (0) rfl (dCells (d)) (.array 32 5) (fun X hX=>hX.2.2) (by kernel_rfl) rfl (by rw[hcl2];kernel_rfl)) (by assumption) ?_
 try simp only[Act.put,qA,qB,qC,qD,qE,qF]
 refine headI_only (i:=7) (by kernel_rfl) (by decide) rfl (fun K hK=>?_)
 rw[if_pos (by rfl)]
 go_simp
 go_at_call 150
 (with_reducible refine (hND _ (Fr.refl [] y5).drew).mono ?_)
 rintro e y6 ⟨rfl,hf6⟩
 unfold encD
 have hf56:=hf6.undrew
 refine hK _ _ (hCX _ hf56) ?_
 clear hK K hC HSS
 try simp only[Act.put,qA,qB,qC,qD,qE,qF]
 refine headI_done ⟨by kernel_rfl,?_⟩
 simp only[List.drop_succ_cons,List.drop_zero]
 have hm6:=(hT5.ms r rfl).1.fr hf56 (by simp)
 obtain⟨kk,hkk⟩:=keyOf_part11
 obtain⟨Y,hup,hfu,hmu⟩:=MapIs.put_new (v:=.agg (dCells (nodeN (d2) (d))).toArray) key_part Tryz.underlying235 hm6 hkk (by simp[partV])
 unfold partV at hup
 have hT6:=hT5.fr hf56 (by simp)
 have hrb:=(hT5.ms r rfl).2
 have hTY:TreeIs Y b A' c' (some r) ([d0,d1,d2,d]) (([(partV 1 0,encD n01)])++[(partV 1 1,encD (nodeN (d2) (d)))]):=⟨hT6.box.fr hfu (by simpa using hrb.1.symm),hT6.own.fr hfu (by intro k hk;simp only[List.mem_singleton];rintro rfl;exact hrb.2 hk),hT6.len,hT6.nb,by simp,fun q hq=>by
  injection hq with hq
  subst hq
  exact⟨hmu,hrb⟩⟩
 have hPr:P≠r:=by rintro rfl;exact hPA (by simp)
 have HT8:=Hd hTY
 have HP8:=Hd ((hp5.fr hf56 (by simp)).fr hfu (by simpa using hPr))
 have HF8:Hid (Fr [P,r] X7 Y):=Hd (((hX5.mono (T:=[P,r]) (by simp)).trans hf56 (by simp)).trans hfu (by simp))
 clear hm6 hfu hmu hT6 hTY hf6 hf56 hCX hND hT5 h65 h75 hp5 hX5 hX4 hX2 hTA HCL HCR hf45 hrb
 go_wp2_with fail
 have hokY:Ok Y:=hokX.fr HF8.out (by
  have h1:6≤r:=hlo r (by simp)
  simp
  omega)
 simp only[List.cons_append,List.nil_append] at HT8
 rw[rounds_succ]
 have hpl:PartIs ([d0,d1,d2,d]) ([(partV 1 0,encD n01),(partV 1 1,encD (nodeN d2 d))]) 1 0 (n01):=⟨hn32,.inr ⟨by decide,by simp[partV],keyOf_part10⟩⟩
 have hpr:PartIs ([d0,d1,d2,d]) ([(partV 1 0,encD n01),(partV 1 1,encD (nodeN d2 d))]) 1 1 ((nodeN d2 d)):=⟨shaN_len _,.inr ⟨by decide,by simp[partV],keyOf_part11⟩⟩
 have hTA:TreeAt Y b ([d0,d1,d2,d]) ([(partV 1 0,encD n01),(partV 1 1,encD (nodeN d2 d))]) (b::(blk A'++(some r).toList)):=⟨A',c',some r,HT8.out,rfl⟩
 have HCL:Hid (∀ W,Fr [] Y W→Calls Tryz.prog 149 #[.pointer (some ⟨b,0,none⟩),.agg #[.int .i64 1,.int .i64 0]] W (SumPost W (n01))):=Hd (fun W hW=>complete_any b 1 0 ([d0,d1,d2,d]) ([(partV 1 0,encD n01),(partV 1 1,encD (nodeN d2 d))]) _ (n01) W (hTA.fr0 hW) hpl)
 have HCR:Hid (∀ W,Fr [] Y W→Calls Tryz.prog 149 #[.pointer (some ⟨b,0,none⟩),.agg #[.int .i64 1,.int .i64 1]] W (SumPost W ((nodeN d2 d)))):=Hd (fun W hW=>complete_any b 1 1 ([d0,d1,d2,d]) ([(partV 1 0,encD n01),(partV 1 1,encD (nodeN d2 d))]) _ ((nodeN d2 d)) W (hTA.fr0 hW) hpr)
 have hdl32:(n01).length=32:=hpl.1
 have hdr32:((nodeN d2 d)).length=32:=hpr.1
 have hcl1:(dCells (n01)).length=32:=by rw[dcells_len,hdl32]
 have hcl2:(dCells ((nodeN d2 d))).length=32:=by rw[dcells_len,hdr32]
 obtain⟨v0,v1⟩:=HP8.out.m2
 have hPl:=HP8.out.lt
 have hOK:∀ W,Fr [] Y W→Ok W:=fun W hW=>hokY.fr0 hW
 go_upto_region 11 with ((go_at_call 149;(with_reducible refine (HCL.out _ (Fr.refl [] Y)).mono ?_);rintro e y1 ⟨rfl,hfy1⟩;unfold encD;obtain⟨y2,hst2,hfy2,hry2⟩:=new_dig y1 _ hdl32))
 have hs1:=hfy1.size
 have hlt6:=hry2.lt
 generalize y1.heap.size=L6 at hry2 hs1 hlt6 ⊢
 have hX2:=hfy1.then hfy2
 have hp2:=HP8.out.fr hX2 (by simp)
 obtain⟨u0,u1⟩:=hp2.m2
 clear hst2 hfy1 hfy2 v0 v1
 go_upto_region 12 with ((go_at_call 149;(with_reducible refine (HCR.out _ hX2).mono ?_);rintro e y3 ⟨rfl,hfy3⟩;unfold encD;obtain⟨y4,hst4,hfy4,hry4⟩:=new_dig y3 _ hdr32))
 have hs3:=hfy3.size
 have hlt7:=hry4.lt
 have hX4:=hX2.then (hfy3.then hfy4)
 have hr6:=rowIs_fr hry2 (hfy3.then hfy4) (by simp)
 generalize y3.heap.size=L7 at hry4 hs3 hlt7 ⊢
 have hp4b:=HP8.out.fr hX4 (by simp)
 obtain⟨q0,q1⟩:=hp4b.m2
 have qf0:=hp4b.f 0
 have qf1:=hp4b.f 1
 clear hst4 hfy3 hfy4 u0 u1 hp2 hry2
 go_upto_region 13 with fail
 obtain⟨y5,hy5⟩:=nmd ((y4.setCell ⟨P,0,none⟩ (.int .i64 2)).setCell ⟨P,1,none⟩ (.int .i64 0))
 have hp5:BoxN y5 P 270 #[.int .i64 2,.int .i64 0]:=by rw[←hy5];exact (hp4b.setAt 0 _).setAt 1 _
 have hf45:Fr [P] y4 y5:=by rw[←hy5];exact ((Fr.refl [P] y4).set (.inl (by simp)) _).set (.inl (by simp)) _
 try rw[hy5]
 have hT4r:=HT8.out.fr hX4 (by simp)
 have hT5:=hT4r.fr hf45 (by intro k hk;simp only[List.mem_singleton];rintro rfl;exact hPA hk)
 have h65:=rowIs_fr hr6 hf45 (by simp;omega)
 have h75:=rowIs_fr hry4 hf45 (by simp;omega)
 have hX5:Fr [P] Y y5:=(hX4.mono (by simp)).then hf45
 clear q0 q1 qf0 qf1 hy5 hr6 hry4 hp4b hT4r
 have hlow:=hok.low
 have hok5:Ok y5:=hokY.fr hX5 (by simp;omega)
 have hND:∀ W,Fr [] y5 W→Calls Tryz.prog 150 #[.agg (dCells (n01)).toArray,.agg (dCells ((nodeN d2 d))).toArray] W (SumPost W (nodeN (n01) ((nodeN d2 d)))):=fun W hW=>Node_any _ _ W (hok5.fr0 hW) hdl32 hdr32
 have hCX:∀ W,Fr [] y5 W→(W.cell? ⟨b,1,none⟩=some (.map (some r))∧W.cell? ⟨P,0,none⟩=some (.int .i64 2)∧W.cell? ⟨P,1,none⟩=some (.int .i64 0))∧W.rangeAt L6 0 (dCells (n01))∧W.rangeAt L7 0 (dCells ((nodeN d2 d))):=fun W hW=>⟨⟨(hT5.box.fr hW (by simp)).c 1,(hp5.fr hW (by simp)).c 0,(hp5.fr hW (by simp)).c 1⟩,row_range (rowIs_fr h65 hW (by simp)) hdl32,row_range (rowIs_fr h75 hW (by simp)) hdr32⟩
 have hC:=hCX _ (Fr.refl [] y5).drew
 have HSS:=Hd (fun (W:World) (hW:(W.cell? ⟨b,1,none⟩=some (.map (some r))∧W.cell? ⟨P,0,none⟩=some (.int .i64 2)∧W.cell? ⟨P,1,none⟩=some (.int .i64 0))∧W.rangeAt L6 0 (dCells (n01))∧W.rangeAt L7 0 (dCells ((nodeN d2 d))))=>hW.1)
 refine wp_region_head (fun W:World=>(W.cell? ⟨b,1,none⟩=some (.map (some r))∧W.cell? ⟨P,0,none⟩=some (.int .i64 2)∧W.cell? ⟨P,1,none⟩=some (.int .i64 0))∧W.rangeAt L6 0 (dCells (n01))∧W.rangeAt L7 0 (dCells ((nodeN d2 d)))) 8 (by kernel_rfl) ?_ (by decide)
 show headJ 0 _ _ _ _ _ _ _ _ _ _ _
 iterate 5
  refine hdJ (v:=?_) rfl (Or.inl ⟨by rfl,?_⟩) ?_
  rotate_left
  ·intro W hW;obtain⟨s0,s1,s2⟩:=HSS.out W hW;go_simp;try with_reducible rfl
  try simp only[Act.put,qA,qB,qC,qD,qE,qF]
 refine headI_take (i:=5) (v:=.agg (dCells (n01)).toArray) (by kernel_rfl) head_done rfl (by decide) (by kernel_rfl) (fun _ _ _ h=>h) (yieldsIf_load_mid (by rfl) 57 (.tmp 6) rfl L6 (0) rfl (dCells (n01)) (.array 32 5) (fun X hX=>hX.2.1) (by kernel_rfl) rfl (by rw[hcl1];kernel_rfl)) (by assumption) ?_
 try simp only[Act.put,qA,qB,qC,qD,qE,qF]
 refine headI_take (i:=6) (v:=.agg (dCells ((nodeN d2 d))).toArray) (by kernel_rfl) head_done rfl (by decide) (by kernel_rfl) (fun _ _ _ h=>h) (yieldsIf_load_mid (by rfl) 57 (.tmp 7) rfl L7 (0) rfl (dCells ((nodeN d2 d))) (.array 32 5) (fun X hX=>hX.2.2) (by kernel_rfl) rfl (by rw[hcl2];kernel_rfl)) (by assumption) ?_
 try simp only[Act.put,qA,qB,qC,qD,qE,qF]
 refine headI_only (i:=7) (by kernel_rfl) (by decide) rfl (fun K hK=>?_)
 rw[if_pos (by rfl)]
 go_simp
 go_at_call 150
 (with_reducible refine (hND _ (Fr.refl [] y5).drew).mono ?_)
 rintro e y6 ⟨rfl,hf6⟩
 unfold encD
 have hf56:=hf6.undrew
 refine hK _ _ (hCX _ hf56) ?_
 clear hK K hC HSS
 try simp only[Act.put,qA,qB,qC,qD,qE,qF]
 refine headI_done ⟨by kernel_rfl,?_⟩
 simp only[List.drop_succ_cons,List.drop_zero]
 have hm6:=(hT5.ms r rfl).1.fr hf56 (by simp)
 obtain⟨kk,hkk⟩:=keyOf_part20
 obtain⟨Z,hup,hfu,hmu⟩:=MapIs.put_new (v:=.agg (dCells (nodeN (n01) ((nodeN d2 d)))).toArray) key_part Tryz.underlying235 hm6 hkk (by simp[partV])
 unfold partV at hup
 have hT6:=hT5.fr hf56 (by simp)
 have hrb:=(hT5.ms r rfl).2
 have hTY:TreeIs Z b A' c' (some r) ([d0,d1,d2,d]) (([(partV 1 0,encD n01),(partV 1 1,encD (nodeN d2 d))])++[(partV 2 0,encD (nodeN (n01) ((nodeN d2 d))))]):=⟨hT6.box.fr hfu (by simpa using hrb.1.symm),hT6.own.fr hfu (by intro k hk;simp only[List.mem_singleton];rintro rfl;exact hrb.2 hk),hT6.len,hT6.nb,by simp,fun q hq=>by
  injection hq with hq
  subst hq
  exact⟨hmu,hrb⟩⟩
 have hPr:P≠r:=by rintro rfl;exact hPA (by simp)
 have HT9:=Hd hTY
 have HP9:=Hd ((hp5.fr hf56 (by simp)).fr hfu (by simpa using hPr))
 have HF9:Hid (Fr [P,r] Y Z):=Hd (((hX5.mono (T:=[P,r]) (by simp)).trans hf56 (by simp)).trans hfu (by simp))
 clear hm6 hfu hmu hT6 hTY hf6 hf56 hCX hND hT5 h65 h75 hp5 hX5 hX4 hX2 hTA HCL HCR hf45 hrb
 go_wp2_with fail
 have q1:=HP9.out.k1
 rw[rounds_succ]
 go_wp2_with fail
 go_ret
 have hF7b:Fr (b::(blk A++(some r).toList)) w X7:=HF7.out.mono (fun k hk=>.inl (by rcases List.mem_cons.1 hk with h | h <;> simp[h]))
 have hfin:Fr (b::(blk A++(some r).toList)) w Z:=(hF7b.trans HF8.out (by simp;omega)).trans HF9.out (by simp;omega)
 refine⟨rfl,b::(blk A'++(some r).toList),⟨A',c',r,HT9.out,rfl⟩,hfin,fun k hk=>?_⟩
 rcases List.mem_cons.1 hk with h | h
 ·exact .inl (by simp[h])
 ·rcases List.mem_append.1 h with h | h
  ·rcases HR7.out k h with h2 | h2
   ·exact .inl (by simp[h2])
   ·exact .inr h2
  ·exact .inl (by have:k=r:=by simpa using h
                  simp[this])
end Go.Proofs.YtlpmiimgacfmkaaGreatDoor
