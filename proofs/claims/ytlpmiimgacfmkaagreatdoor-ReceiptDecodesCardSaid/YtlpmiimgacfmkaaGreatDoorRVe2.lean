/- versions: (Versions).Append. -/
import Derived.Test.YtlpmiimgacfmkaaGreatDoorRTr5
set_option linter.all false
namespace Go.Proofs.YtlpmiimgacfmkaaGreatDoor
open Go.RowKit
set_option maxRecDepth 100000
set_option maxHeartbeats 4000000
theorem VAppend_0 (tt i:Int) (v:ByteArray) (cb xd b pb pl mw mr c kc:Nat) (A KA:Option Addr) (ks:List Value) (kw kr:List (Value × Value)) (PW:World→Prop) (t:TR) (Q:TR→Prop) (w:World) (h:VerIs w b pb pl mw mr A 0 c KA 0 kc [] ks kw kr PW) (hst:StAt w pl t) (hd:∀ k∈stB pl t,k ∉ VM b mw mr A KA) (hok:Ok w)
 (hx:Kept (VM b mw mr A KA) w fun W=>(AV.mk ⟨tt,.nil,.one i v false⟩ none 0 (some ⟨cb,0,none⟩) xd).ok W) (hg:(AC.mk tt .nil (.one i v false)).good) (hnew:∀ p∈kw,p.1≠portV i) (hkey:∃ l,keyOf Tryz.prog 31 (portV i)=some l)
 (hAp:∀ W,Fr [] w W→Calls Tryz.prog 153 #[.pointer (some ⟨pl,0,none⟩),.slice (some ⟨cb,0,none⟩) 1 xd] W (ApPost (stB pl t) Q W)) :
 Calls Tryz.prog 98 #[.pointer (some ⟨b,0,none⟩),(AV.mk ⟨tt,.nil,.one i v false⟩ none 0 (some ⟨cb,0,none⟩) xd).v] w fun e w'=>e=.returned (.int .i64 0)∧∃ pl' t' A' c' K' kc' ks' y g gc,y.a=AC.mk tt .nil (.one i v false)∧Q t'∧StAt w' pl' t'∧(∀ k∈stB pl' t',k ∉ VM b mw mr A' K') ∧
  VerIs w' b pb pl' mw mr A' 1 c' K' 1 kc' (AV.cs y) ks' (kw++[(portV i,.slice (some ⟨g,0,none⟩) 1 gc)]) kr (fun W=>(PW W∧y.ok W)∧Cs W g [.int .i64 0,.string v,.bool false])∧Fr (VM b mw mr A KA) w w'∧∀ k∈VM b mw mr A' K',k∈VM b mw mr A KA ∨ w.heap.size≤k:=by
 obtain⟨w1,hw1,hR1,hf1⟩:=bxn w ((AV.mk ⟨tt,.nil,.one i v false⟩ none 0 (some ⟨cb,0,none⟩) xd)).cs.toArray 91
 have hbl:=h.box.lt
 have hCell:∀ W,Fr [] w1 W→(W.cell? ⟨b,0,none⟩=some (.pointer (some ⟨pb,0,none⟩))∧W.cell? ⟨b,1,none⟩=some (.slice A 0 c)∧W.cell? ⟨b,2,none⟩=some (.slice KA 0 kc)∧W.cell? ⟨b,3,none⟩=some (.pointer (some ⟨pl,0,none⟩))∧W.cell? ⟨b,4,none⟩=some (.map (some mw))∧W.cell? ⟨b,5,none⟩=some (.map (some mr))) ∧
  W.cell? ⟨w.heap.size,0,none⟩=some (.int .i64 tt)∧W.cell? ⟨w.heap.size,1,none⟩=some (.int .i64 0)∧W.cell? ⟨w.heap.size,2,none⟩=some (.int .i64 tt)∧W.cell? ⟨w.heap.size,3,none⟩=some (.string ⟨#[]⟩)∧W.cell? ⟨w.heap.size,4,none⟩=some (.slice none 0 0)∧W.cell? ⟨w.heap.size,5,none⟩=some (.slice (some ⟨cb,0,none⟩) 1 xd):=fun W hW=>by
  have h1:=h.box.fr (hf1.then hW) (by simp)
  have h2:=hR1.fr hW (by simp)
  exact⟨⟨h1.c 0,h1.c 1,h1.c 2,h1.c 3,h1.c 4,h1.c 5⟩,h2.c 0,h2.c 1,h2.c 2,h2.c 3,h2.c 4,h2.c 5⟩
 have hWF:∀ W,Fr [] w1 W→Calls Tryz.prog 158 #[.agg #[.int .i64 tt,.int .i64 0,.int .i64 tt,.string ⟨#[]⟩,.slice none 0 0,.slice (some ⟨cb,0,none⟩) 1 xd]] W fun e w'=>e=.returned (.bool true)∧Fr [] W w':=fun W hW=>WellFormedV_any ((AV.mk ⟨tt,.nil,.one i v false⟩ none 0 (some ⟨cb,0,none⟩) xd)).a ((AV.mk ⟨tt,.nil,.one i v false⟩ none 0 (some ⟨cb,0,none⟩) xd)).A ((AV.mk ⟨tt,.nil,.one i v false⟩ none 0 (some ⟨cb,0,none⟩) xd)).B ((AV.mk ⟨tt,.nil,.one i v false⟩ none 0 (some ⟨cb,0,none⟩) xd)).c ((AV.mk ⟨tt,.nil,.one i v false⟩ none 0 (some ⟨cb,0,none⟩) xd)).d W (hok.fr0 (hf1.then hW)) ((hx.fr0 (hf1.then hW)).now.r) ((hx.fr0 (hf1.then hW)).now.w) hg
 have hApp:∀ W,Fr [] w1 W→Calls Tryz.prog 153 #[.pointer (some ⟨pl,0,none⟩),.slice (some ⟨cb,0,none⟩) 1 xd] W (ApPost (stB pl t) Q W):=fun W hW=>hAp W (hf1.then hW)
 have hNn:∀ W,Fr [] w1 W→Calls Tryz.prog 157 #[.pointer (some ⟨b,0,none⟩)] W fun e w'=>e=.returned (.bool false)∧W=w':=fun W hW=>noneV_any b pb W (hCell W hW).1.1
 have HX:=Hd hx
 have HH:=Hd h
 have HD:=Hd hd
 have HSS:=Hd hCell
 have HWF:=Hd hWF
 have HA:=Hd hApp
 have HN:=Hd hNn
 have HW1:=Hd hw1
 have HF1:=Hd hf1
 have HR1:=Hd hR1
 have HOK:=Hd hok
 unfold AV.v
 unfold AV.cs CL.sl CL.len at HW1 ⊢
 dsimp only at HW1 ⊢
 clear hx h hst hd hCell hWF hApp hNn hw1 hf1 hR1 hAp hok
 go_enter Tryz.func98,Tryz.ntmps98
 go_upto_region 1 with fail
 rw[HW1.out]
 obtain⟨⟨x0,x1,x2,x3,x4,x5⟩,y0,y1,y2,y3,y4,y5⟩:=HSS.out w1 (Fr.refl [] w1)
 go_upto_region 8 with (first
  | (go_at_call 157;(with_reducible refine (HN.out _ (Fr.refl [] w1)).mono ?_);rintro e w' ⟨rfl,rfl⟩)
  | (go_at_call 158;(with_reducible refine (HWF.out _ (Fr.refl [] w1)).mono ?_);rintro e w2 ⟨rfl,hf2⟩;clear x0 x1 x2 x3 x4 x5 y0 y1 y2 y3 y4 y5;obtain⟨⟨x0,x1,x2,x3,x4,x5⟩,y0,y1,y2,y3,y4,y5⟩:=HSS.out w2 hf2))
 clear x0 x1 x2 x3 x4 x5 y0 y1 y2 y3 y4 y5
 refine wp_region_qall (fun W=>Fr [] w1 W) (by kernel_rfl) (by kernel_rfl) (hf2.drew) ?_
 repeat (
  first
  | go_big_quiet_skip
  | (go_big_quiet_want
     first
     | (go_big_quiet_op
        go_big_quiet_on)
     | (apply Exists.intro
        refine⟨fun W hW=>?_,?_⟩
        ·(obtain⟨⟨x0,x1,x2,x3,x4,x5⟩,y0,y1,y2,y3,y4,y5⟩:=HSS.out W hW
          go_simp
          first
          | done
          | (with_reducible exact rfl)
          | (with_reducible exact⟨rfl,rfl⟩)
          | (fail))
        simp only[Act.put,qA,qB,qC]
        go_big_quiet_on))
  )
 refine wpQuiet_nil ?_
 intro W3 hW3
 go_upto_region 10 with fail
 have hC:Fr [] w1 W3.drew:=hW3.drew
 refine wp_region_head (fun W:World=>Fr [] w1 W) 11 (by kernel_rfl) ?_ (by decide)
 show headJ 0 _ _ _ _ _ _ _ _ _ _ _
 iterate 6
  refine hdJ (v:=?_) rfl (Or.inl ⟨by rfl,?_⟩) ?_
  rotate_left
  ·intro W hW;obtain⟨⟨x0,x1,x2,x3,x4,x5⟩,y0,y1,y2,y3,y4,y5⟩:=HSS.out W hW;go_simp;try with_reducible rfl
  try simp only[Act.put,qA,qB,qC,qD,qE,qF]
 refine headI_only (i:=6) (by kernel_rfl) (by decide) rfl (fun K hK=>?_)
 rw[if_pos (by rfl)]
 go_simp
 go_at_call 153
 (with_reducible refine (HA.out _ hC).mono ?_)
 rintro e w4 ⟨p2,t',rfl,hst4,hf4,hq4,hbl4⟩
 have hC4:=hC.then hf4
 have hz4:W3.heap.size≤w4.heap.size:=hf4.size
 have hz3:=hW3.size
 refine hK _ _ hC4 ?_
 clear hK K hC hf4
 try simp only[Act.put,qA,qB,qC,qD,qE,qF]
 show headJ 7 _ _ _ _ _ _ _ _ _ _ _
 iterate 4
  refine hdJ (v:=?_) rfl (Or.inl ⟨by rfl,?_⟩) ?_
  rotate_left
  ·intro W hW;obtain⟨⟨x0,x1,x2,x3,x4,x5⟩,y0,y1,y2,y3,y4,y5⟩:=HSS.out W hW;go_simp;try with_reducible rfl
  try simp only[Act.put,qA,qB,qC,qD,qE,qF]
 refine headI_done ⟨by kernel_rfl,?_⟩
 simp only[List.drop_succ_cons,List.drop_zero]
 have HST4:=Hd (And.intro hst4 (And.intro hq4 hbl4))
 have hF04:=HF1.out.then hC4
 have HV4:=Hd (HH.out.fr0 hF04)
 have HF04:=Hd hF04
 have HR4:=Hd (HR1.out.fr hC4 (by simp))
 clear hst4 hq4 hbl4 hF04
 go_upto_region 14 with fail
 have hb4:=HV4.out.box
 have hC:(fun W:World=>W.cell? ⟨b,2,none⟩=some (.slice KA 0 kc)∧W.cell? ⟨b,3,none⟩=some (.pointer (some ⟨pl,0,none⟩))) w4.drew:=⟨hb4.c 2,hb4.c 3⟩
 have HSK:=HSS
 clear HSS
 have HSS:=Hd (fun (W:World) (hW:W.cell? ⟨b,2,none⟩=some (.slice KA 0 kc)∧W.cell? ⟨b,3,none⟩=some (.pointer (some ⟨pl,0,none⟩)))=>hW)
 refine wp_region_head (fun W:World=>W.cell? ⟨b,2,none⟩=some (.slice KA 0 kc)∧W.cell? ⟨b,3,none⟩=some (.pointer (some ⟨pl,0,none⟩))) 13 (by kernel_rfl) ?_ (by decide)
 show headJ 0 _ _ _ _ _ _ _ _ _ _ _
 iterate 9
  refine hdJ (v:=?_) rfl (Or.inl ⟨by rfl,?_⟩) ?_
  rotate_left
  ·intro W hW;obtain⟨k2,k3⟩:=HSS.out W hW;go_simp;try with_reducible rfl
  try simp only[Act.put,qA,qB,qC,qD,qE,qF]
 refine headI_only (i:=9) (by kernel_rfl) (by decide) rfl (fun K hK=>?_)
 rw[if_pos (by rfl)]
 go_simp
 obtain⟨X1,hX1,n1,f1⟩:=bxd w4 #[.pointer (some ⟨pl,0,none⟩)] 86
 rw[hX1]
 have hV1:=HV4.out.fr0 f1
 refine hK _ _ ⟨hV1.box.c 2,hV1.box.c 3⟩ ?_
 clear hK K hC hX1
 try simp only[Act.put,qA,qB,qC,qD,qE,qF]
 refine headI_only (i:=10) (by kernel_rfl) (by decide) rfl (fun K hK=>?_)
 rw[if_pos (by rfl)]
 obtain⟨ii,hii,iz0,iz1,iz2⟩:=info_stp
 refine wp_app (.tmp 61) (.tmp 66) 133 rfl 86 ii _ 1 8 Tryz.underlying133 hii iz0 iz1 iz2 rfl (by decide) KA 0 kc ks rfl hV1.kown ⟨w4.heap.size,0,none⟩ 1 1 [.pointer (some ⟨pl,0,none⟩)] rfl rfl (fun j u hu=>by rw[add_mid',n1.c j];simpa using hu) (by simp[Value.oneCell']) (by unfold maxLen;omega) (by omega) ?_
 intro KA' kc' X2 ho2 hf2x hK2
 rw[show (0+1:Nat)=1 from rfl] at ho2 ⊢
 have hb2:=hV1.box.fr hf2x hV1.d1.2.1
 refine hK _ _ ⟨hb2.c 2,hb2.c 3⟩ ?_
 clear hK K
 try simp only[Act.put,qA,qB,qC,qD,qE,qF]
 have hC:(fun W:World=>W.cell? ⟨b,2,none⟩=some (.slice KA 0 kc)∧W.cell? ⟨b,3,none⟩=some (.pointer (some ⟨pl,0,none⟩))) X2:=⟨hb2.c 2,hb2.c 3⟩
 show headJ 11 _ _ _ _ _ _ _ _ _ _ _
 iterate 2
  refine hdJ (v:=?_) rfl (Or.inl ⟨by rfl,?_⟩) ?_
  rotate_left
  ·intro W hW;obtain⟨k2,k3⟩:=HSS.out W hW;go_simp;try with_reducible rfl
  try simp only[Act.put,qA,qB,qC,qD,qE,qF]
 refine headI_done ⟨by kernel_rfl,?_⟩
 simp only[List.drop_succ_cons,List.drop_zero]
 have e0:X2.cell? ⟨b,2,none⟩=some (.slice KA 0 kc):=hb2.c 2
 have e1:=hb2.f 2
 have HV1:=Hd hV1
 have HO2:=Hd ho2
 have HF2:=Hd hf2x
 have HK2:=Hd hK2
 have HB2:=Hd hb2
 have HF1x:=Hd f1
 clear hV1 ho2 hf2x hK2 hb2 n1 f1 hC hb4 HSS
 go_upto_region 15 with fail
 obtain⟨X3,hX3⟩:=nmd (X2.setCell ⟨b,2,none⟩ (.slice KA' 1 kc'))
 have hb3:BoxN X3 b 196 #[.pointer (some ⟨pb,0,none⟩),.slice A 0 c,.slice KA' 1 kc',.pointer (some ⟨pl,0,none⟩),.map (some mw),.map (some mr)]:=by rw[←hX3];exact HB2.out.setAt 2 _
 have f3:Fr [b] X2 X3:=by rw[←hX3];exact (Fr.refl [b] X2).set (.inl (by simp)) _
 try rw[hX3]
 have hP:=HV1.out.putK HF2.out HO2.out HK2.out f3 hb3
 have HV5:=Hd hP.1
 have HFR5:Hid (Fr (VM b mw mr A KA) w X3):=Hd (((HF04.out.then HF1x.out).mono (by simp)).then hP.2.1)
 have HM5:Hid (∀ k∈VM b mw mr A KA',k∈VM b mw mr A KA ∨ w4.heap.size≤k):=Hd (fun k hk=>(hP.2.2 k hk).imp id (Nat.le_trans HF1x.out.size))
 have HFW5:Hid (Fr (VM b mw mr A KA) w4 X3):=Hd ((HF1x.out.mono (by simp)).then hP.2.1)
 clear e0 e1 hX3 hb3 f3 hP HO2 HF2 HK2 HB2 HF1x HV1 HSK
 have hb:=HV5.out.box
 have e0:(X3).cell? ⟨b,3,none⟩=some (.pointer (some ⟨pl,0,none⟩)):=hb.c 3
 have e1:=hb.f 3
 go_upto_region 16 with fail
 obtain⟨X4,hY⟩:=nmd ((X3).setCell ⟨b,3,none⟩ (.pointer (some ⟨p2,0,none⟩)))
 have hbY:BoxN X4 b 196 #[.pointer (some ⟨pb,0,none⟩),.slice A 0 c,.slice KA' 1 kc',.pointer (some ⟨p2,0,none⟩),.map (some mw),.map (some mr)]:=by rw[←hY];exact hb.setAt 3 _
 have fXY:Fr [b] (X3) X4:=by rw[←hY];exact (Fr.refl [b] (X3)).set (.inl (by simp)) _
 try rw[hY]
 have HV6:=Hd (HV5.out.putLast fXY hbY)
 have HFXY:=Hd fXY
 clear e0 e1 hY hbY fXY hb
 have hfx:Fr (VM b mw mr A KA) w X4:=HFR5.out.trans HFXY.out (by simp[VM])
 have hRX:BoxN X4 w.heap.size 91 (AV.mk ⟨tt,.nil,.one i v false⟩ none 0 (some ⟨cb,0,none⟩) xd).cs.toArray:=(HR4.out.fr HFW5.out (fun hm=>by have:=HH.out.lt _ hm;omega)).fr HFXY.out (by have:=HH.out.box.lt;simp;omega)
 have hCell:∀ W,Fr [] X4 W→W.cell? ⟨b,1,none⟩=some (.slice A 0 c)∧W.cell? ⟨w.heap.size,0,none⟩=some (.int .i64 tt)∧W.cell? ⟨w.heap.size,1,none⟩=some (.int .i64 0)∧W.cell? ⟨w.heap.size,2,none⟩=some (.int .i64 tt)∧W.cell? ⟨w.heap.size,3,none⟩=some (.string ⟨#[]⟩)∧W.cell? ⟨w.heap.size,4,none⟩=some (.slice none 0 0)∧W.cell? ⟨w.heap.size,5,none⟩=some (.slice (some ⟨cb,0,none⟩) 1 xd):=fun W hW=>by
  have h1:=HV6.out.box.fr hW (by simp)
  have h2:=hRX.fr hW (by simp)
  exact⟨h1.c 1,h2.c 0,h2.c 1,h2.c 2,h2.c 3,h2.c 4,h2.c 5⟩
 have hCp:∀ W,Fr [] X4 W→Calls Tryz.prog 159 #[.agg #[.int .i64 tt,.int .i64 0,.int .i64 tt,.string ⟨#[]⟩,.slice none 0 0,.slice (some ⟨cb,0,none⟩) 1 xd]] W fun e w'=>∃ y:AV,e=.returned y.v∧y.a=(AC.mk tt .nil (.one i v false))∧y.ok w'∧Fr [] W w'∧∀ k∈y.bl,W.heap.size≤k:=fun W hW=>copiedV_av ((AV.mk ⟨tt,.nil,.one i v false⟩ none 0 (some ⟨cb,0,none⟩) xd)) W (HX.out W (hfx.trans hW (by simp)))
 have HCP:=Hd hCp
 have HFX:=Hd hfx
 have HRX:=Hd hRX
 have HSS:=Hd (fun (W:World) (hW:W.cell? ⟨b,1,none⟩=some (.slice A 0 c)∧W.cell? ⟨w.heap.size,0,none⟩=some (.int .i64 tt)∧W.cell? ⟨w.heap.size,1,none⟩=some (.int .i64 0)∧W.cell? ⟨w.heap.size,2,none⟩=some (.int .i64 tt)∧W.cell? ⟨w.heap.size,3,none⟩=some (.string ⟨#[]⟩)∧W.cell? ⟨w.heap.size,4,none⟩=some (.slice none 0 0)∧W.cell? ⟨w.heap.size,5,none⟩=some (.slice (some ⟨cb,0,none⟩) 1 xd))=>hW)
 have hC:=hCell _ (Fr.refl [] X4).drew
 have HCELL:=Hd hCell
 clear hCell hCp hfx hRX
 refine wp_region_head (fun W:World=>W.cell? ⟨b,1,none⟩=some (.slice A 0 c)∧W.cell? ⟨w.heap.size,0,none⟩=some (.int .i64 tt)∧W.cell? ⟨w.heap.size,1,none⟩=some (.int .i64 0)∧W.cell? ⟨w.heap.size,2,none⟩=some (.int .i64 tt)∧W.cell? ⟨w.heap.size,3,none⟩=some (.string ⟨#[]⟩)∧W.cell? ⟨w.heap.size,4,none⟩=some (.slice none 0 0)∧W.cell? ⟨w.heap.size,5,none⟩=some (.slice (some ⟨cb,0,none⟩) 1 xd)) 11 (by kernel_rfl) ?_ (by decide)
 show headJ 0 _ _ _ _ _ _ _ _ _ _ _
 iterate 6
  refine hdJ (v:=?_) rfl (Or.inl ⟨by rfl,?_⟩) ?_
  rotate_left
  ·intro W hW;obtain⟨x1,y0,y1,y2,y3,y4,y5⟩:=HSS.out W hW;go_simp;try with_reducible rfl
  try simp only[Act.put,qA,qB,qC,qD,qE,qF]
 refine headI_only (i:=6) (by kernel_rfl) (by decide) rfl (fun K hK=>?_)
 rw[if_pos (by rfl)]
 go_simp
 go_at_call 159
 (with_reducible refine (HCP.out _ (Fr.refl [] X4).drew).mono ?_)
 rintro e Z1 ⟨⟨ya,yA,yc,yB,yd⟩,rfl,hya,hyk,hfy,hyb⟩
 dsimp only at hya
 subst hya
 unfold AV.v AV.cs CL.sl CL.len
 dsimp only
 have hZ1:=hfy.undrew
 refine hK _ _ (HCELL.out _ hZ1) ?_
 clear hK K hC hfy
 try simp only[Act.put,qA,qB,qC,qD,qE,qF]
 refine headI_only (i:=7) (by kernel_rfl) (by decide) rfl (fun K hK=>?_)
 rw[if_pos (by rfl)]
 go_simp
 obtain⟨Z2,hZ2,n2,f2⟩:=bxn Z1 (AV.mk ((AC.mk tt .nil (.one i v false))) yA yc yB yd).cs.toArray 91
 unfold AV.cs CL.sl CL.len at hZ2
 dsimp only at hZ2
 rw[hZ2]
 have hX12:=hZ1.then f2
 refine hK _ _ (HCELL.out _ hX12) ?_
 clear hK K hZ2
 try simp only[Act.put,qA,qB,qC,qD,qE,qF]
 refine headI_only (i:=8) (by kernel_rfl) (by decide) rfl (fun K hK=>?_)
 rw[if_pos (by rfl)]
 obtain⟨ii,hii,iz0,iz1,iz2⟩:∃ i,(Tryz.prog).info? 91=some i∧i.zero=some (.agg actZ)∧i.size=6∧i.bytes=88:=info_parts (by kernel_rfl)
 have hO2:=HV6.out.own.fr hX12 (by simp)
 refine wp_app (.tmp 78) (.tmp 81) 22 rfl 91 ii _ 6 88 Tryz.underlying22 hii iz0 iz1 iz2 rfl (by decide) A 0 c [] rfl hO2 ⟨Z1.heap.size,0,none⟩ 1 1 (AV.mk ((AC.mk tt .nil (.one i v false))) yA yc yB yd).cs rfl rfl (fun j u hu=>by rw[add_mid',n2.c j];simpa using hu) (by intro u hu;simp only[AV.cs,CL.sl,List.mem_cons,List.not_mem_nil,or_false] at hu;rcases hu with rfl | rfl | rfl | rfl | rfl | rfl <;> rfl) (by unfold maxLen;omega) (by omega) ?_
 intro A' c' Z3 ho3 hf3 hA3
 rw[show (0+1:Nat)=1 from rfl] at ho3 ⊢
 have hRA:w.heap.size ∉ blk A:=fun hm=>by have h1:=HH.out.lt _ (show w.heap.size∈VM b mw mr A KA by simp only[VM,List.mem_cons,List.mem_append];exact .inr (.inr (.inr (.inl hm))));omega
 have hb3:=(HV6.out.box.fr hX12 (by simp)).fr hf3 HV6.out.d1.1
 have hr3:=(HRX.out.fr hX12 (by simp)).fr hf3 hRA
 have hC:Z3.cell? ⟨b,1,none⟩=some (.slice A 0 c)∧Z3.cell? ⟨w.heap.size,0,none⟩=some (.int .i64 tt)∧Z3.cell? ⟨w.heap.size,1,none⟩=some (.int .i64 0)∧Z3.cell? ⟨w.heap.size,2,none⟩=some (.int .i64 tt)∧Z3.cell? ⟨w.heap.size,3,none⟩=some (.string ⟨#[]⟩)∧Z3.cell? ⟨w.heap.size,4,none⟩=some (.slice none 0 0)∧Z3.cell? ⟨w.heap.size,5,none⟩=some (.slice (some ⟨cb,0,none⟩) 1 xd):=⟨hb3.c 1,hr3.c 0,hr3.c 1,hr3.c 2,hr3.c 3,hr3.c 4,hr3.c 5⟩
 refine hK _ _ hC ?_
 clear hK K
 try simp only[Act.put,qA,qB,qC,qD,qE,qF]
 show headJ 9 _ _ _ _ _ _ _ _ _ _ _
 iterate 2
  refine hdJ (v:=?_) rfl (Or.inl ⟨by rfl,?_⟩) ?_
  rotate_left
  ·intro W hW;obtain⟨x1,y0,y1,y2,y3,y4,y5⟩:=HSS.out W hW;go_simp;try with_reducible rfl
  try simp only[Act.put,qA,qB,qC,qD,qE,qF]
 refine headI_done ⟨by kernel_rfl,?_⟩
 simp only[List.drop_succ_cons,List.drop_zero]
 have e0:Z3.cell? ⟨b,1,none⟩=some (.slice A 0 c):=hb3.c 1
 have e1:=hb3.f 1
 have HO3:=Hd ho3
 have HF3:=Hd hf3
 have HA3:=Hd hA3
 have HX12:=Hd (And.intro hZ1 f2)
 have HYK:=Hd (And.intro hyk hyb)
 have HB3:=Hd hb3
 have HR3:=Hd hr3
 clear ho3 hf3 hA3 hX12 hZ1 f2 n2 hyk hyb hr3 hb3 hO2 HCELL HCP hC HSS
 go_upto_region 17 with fail
 obtain⟨X5,hY⟩:=nmd (Z3.setCell ⟨b,1,none⟩ (.slice A' 1 c'))
 have hbY:BoxN X5 b 196 #[.pointer (some ⟨pb,0,none⟩),.slice A' 1 c',.slice KA' 1 kc',.pointer (some ⟨p2,0,none⟩),.map (some mw),.map (some mr)]:=by rw[←hY];exact HB3.out.setAt 1 _
 have fY:Fr [b] Z3 X5:=by rw[←hY];exact (Fr.refl [b] Z3).set (.inl (by simp)) _
 try rw[hY]
 have hVZ2:=HV6.out.fr0 (HX12.out.1.then HX12.out.2)
 have hyZ2:Kept (VM b mw mr A KA') Z2 fun W=>(AV.mk ((AC.mk tt .nil (.one i v false))) yA yc yB yd).ok W:=fun W hW=>(HYK.out.1.fr0 HX12.out.2).fr hW (fun k hk hm=>by
  have h1:=HYK.out.2 k hk
  have h2:=HV6.out.lt k hm
  simp only[World.drew] at h1
  omega)
 have hP:=(hVZ2.addP hyZ2).putA HF3.out HO3.out HA3.out fY hbY
 have HVY:=Hd hP.1
 have hXZ2:Fr (VM b mw mr A KA') X4 X5:=((HX12.out.1.then HX12.out.2).mono (by simp)).then hP.2.1
 have hZsz:(X4).heap.size≤Z2.heap.size:=(HX12.out.1.then HX12.out.2).size
 have HMY:Hid (∀ k∈VM b mw mr A' KA',k∈VM b mw mr A KA' ∨ (X4).heap.size≤k):=Hd (fun k hk=>(hP.2.2 k hk).imp id (Nat.le_trans hZsz))
 have HXY:=Hd hXZ2
 have HRY:=Hd (HR3.out.fr fY (by have:=HH.out.box.lt;simp;omega))
 clear e0 e1 hY hbY fY hVZ2 hyZ2 hP hXZ2 hZsz HO3 HF3 HA3 HX12 HYK HB3 HR3 HRX hRA
 have HXO:=Hd (HX.out X5 (HFX.out.trans HXY.out (fun k hk=>(HM5.out k hk).imp id (Nat.le_trans HF04.out.size))))
 have hr:=HRY.out
 have y5:(X5).cell? ⟨w.heap.size,5,none⟩=some (.slice (some ⟨cb,0,none⟩) 1 xd):=hr.c 5
 have hcs:Cs X5 cb (chC i v false):=CLat.cs (HXO.out.w)
 have u0:(X5).cell? ⟨cb,0,none⟩=some (.int .i64 16):=hcs.2 0 _ rfl
 have u1:(X5).cell? ⟨cb,1,none⟩=some (.string ⟨#[]⟩):=hcs.2 1 _ rfl
 have u2:(X5).cell? ⟨cb,2,none⟩=some (.int .i64 i):=hcs.2 2 _ rfl
 have u3:(X5).cell? ⟨cb,3,none⟩=some (.int .i64 0):=hcs.2 3 _ rfl
 have u4:(X5).cell? ⟨cb,4,none⟩=some (.string ⟨#[]⟩):=hcs.2 4 _ rfl
 have u5:(X5).cell? ⟨cb,5,none⟩=some (.string v):=hcs.2 5 _ rfl
 have u6:(X5).cell? ⟨cb,6,none⟩=some (.bool false):=hcs.2 6 _ rfl
 clear hr hcs
 go_wp2_with fail
 refine wp_loop_rounds 2 ?_
 rw[rounds_succ]
 go_upto_region 20 with fail
 obtain⟨V0,hV0,n0,f0⟩:=bxn X5 #[.int .i64 16,.string ⟨#[]⟩,.int .i64 i,.int .i64 0,.string ⟨#[]⟩,.string v,.bool false] 95
 rw[hV0]
 obtain⟨B9,hB9⟩:=nmd ((X5).heap.size)
 rw[hB9] at n0 ⊢
 have hCell:∀ W,Fr [mw] V0 W→W.cell? ⟨b,4,none⟩=some (.map (some mw))∧W.cell? ⟨B9,0,none⟩=some (.int .i64 16)∧W.cell? ⟨B9,1,none⟩=some (.string ⟨#[]⟩)∧W.cell? ⟨B9,2,none⟩=some (.int .i64 i)∧W.cell? ⟨B9,3,none⟩=some (.int .i64 0)∧W.cell? ⟨B9,4,none⟩=some (.string ⟨#[]⟩)∧W.cell? ⟨B9,5,none⟩=some (.string v)∧W.cell? ⟨B9,6,none⟩=some (.bool false):=fun W hW=>by
  have h1:=(HVY.out.box.fr f0 (by simp)).fr hW (by simpa using HVY.out.d1.2.2.1)
  have h2:=n0.fr hW (by have:=HVY.out.wm.lt;simp;omega)
  exact⟨h1.c 4,h2.c 0,h2.c 1,h2.c 2,h2.c 3,h2.c 4,h2.c 5,h2.c 6⟩
 have hC:Fr [mw] V0 V0.drew:=(Fr.refl [mw] V0).drew
 have HSS:=Hd hCell
 have HVX:=HVY
 have HV0:=Hd (HVY.out.fr0 f0)
 have HF0:=Hd f0
 clear hCell n0 f0 hV0 y5 u0 u1 u2 u3 u4 u5 u6
 refine wp_region_head (fun W:World=>Fr [mw] V0 W) 17 (by kernel_rfl) ?_ (by decide)
 show headJ 0 _ _ _ _ _ _ _ _ _ _ _
 iterate 12
  refine hdJ (v:=?_) rfl (Or.inl ⟨by rfl,?_⟩) ?_
  rotate_left
  ·intro W hW;obtain⟨m4,z0,z1,z2,z3,z4,z5,z6⟩:=HSS.out W hW;go_simp;try with_reducible rfl
  try simp only[Act.put,qA,qB,qC,qD,qE,qF]
 refine headI_only (i:=12) (by kernel_rfl) (by decide) rfl (fun K hK=>?_)
 rw[if_pos (by rfl)]
 go_simp
 obtain⟨V1,hV1,n1,f1⟩:=bxd V0 #[.int .i64 0,.string v,.bool false] 201
 rw[hV1]
 refine hK _ _ (f1.mono (by simp)) ?_
 clear hK K hC hV1
 try simp only[Act.put,qA,qB,qC,qD,qE,qF]
 refine headI_only (i:=13) (by kernel_rfl) (by decide) rfl (fun K hK=>?_)
 rw[if_pos (by rfl)]
 have hm1:=HV0.out.wm.fr f1 (by simp)
 obtain⟨kl,hkl⟩:=hkey
 obtain⟨st,V2,hme,f2,hm2,hst2⟩:=MapIs.entry_new key_name Tryz.underlying193 zero_vers hm1 hkl hnew
 unfold portV at hme
 go_simp
 have f02:Fr [mw] V0 V2:=(f1.mono (by simp)).then f2
 refine hK _ _ f02 ?_
 clear hK K hme
 have hC:=f02
 try simp only[Act.put,qA,qB,qC,qD,qE,qF]
 show headJ 14 _ _ _ _ _ _ _ _ _ _ _
 refine hdJ (v:=?_) rfl (Or.inl ⟨by rfl,?_⟩) ?_
 rotate_left
 ·intro W hW;obtain⟨m4,z0,z1,z2,z3,z4,z5,z6⟩:=HSS.out W hW;go_simp;try with_reducible rfl
 try simp only[Act.put,qA,qB,qC,qD,qE,qF]
 show headJ 16 _ _ _ _ _ _ _ _ _ _ _
 refine hdJ (v:=?_) rfl (Or.inl ⟨by rfl,?_⟩) ?_
 rotate_left
 ·intro W hW;obtain⟨m4,z0,z1,z2,z3,z4,z5,z6⟩:=HSS.out W hW;go_simp;try with_reducible rfl
 try simp only[Act.put,qA,qB,qC,qD,qE,qF]
 refine headI_only (i:=15) (by kernel_rfl) (by decide) rfl (fun K hK=>?_)
 rw[if_pos (by rfl)]
 obtain⟨jj,hjj,jz0,jz1,jz2⟩:=info_ver
 have n2:=n1.fr f2 (by have:=HV0.out.wm.lt;simp;omega)
 refine wp_app (.tmp 98) (.tmp 105) 280 rfl 201 jj _ 3 32 Tryz.underlying280 hjj jz0 jz1 jz2 rfl (by decide) none 0 0 [] rfl (Own.nil _ _ _) ⟨V0.heap.size,0,none⟩ 1 1 [.int .i64 0,.string v,.bool false] rfl rfl (fun j u hu=>by rw[add_mid',n2.c j];simpa using hu) (by simp[Value.oneCell']) (by unfold maxLen;omega) (by omega) ?_
 intro AA cc V3 ho3 hf3 hA3
 rw[show (0+1:Nat)=1 from rfl] at ho3 ⊢
 obtain⟨gg,rfl,hcg⟩:=Cs.of_own ho3 (by omega)
 have f03:Fr [mw] V0 V3:=f02.trans hf3 (by simp[blk])
 refine hK _ _ f03 ?_
 clear hK K hC
 try simp only[Act.put,qA,qB,qC,qD,qE,qF]
 refine headI_done ⟨by kernel_rfl,?_⟩
 simp only[List.drop_succ_cons,List.drop_zero]
 have hgg:V2.heap.size≤gg:=by
  rcases hA3 gg (by simp[blk]) with h | h
  ·simp[blk] at h
  ·exact h
 obtain⟨V4,hes,f4,hm4⟩:=hst2 V3 (.slice (some ⟨gg,0,none⟩) 1 cc) (hf3.block _ hm2.lt (by simp[blk]))
 have f04:Fr [mw] V0 V4:=f03.then f4
 have hcg4:Cs V4 gg [.int .i64 0,.string v,.bool false]:=hcg.fr f4 (by have:=hm2.lt;simp;omega)
 have hVM:=HV0.out.lt
 have hV4:=HV0.out.putW f04 hm4
 have hsz12:V0.heap.size≤V2.heap.size:=f02.size
 have HV4b:=Hd (hV4.addP (Q:=fun W=>Cs W gg [.int .i64 0,.string v,.bool false]) (fun W hW=>hcg4.fr hW (fun hm=>by have:=hVM gg hm;omega)))
 have HFR4:Hid (Fr [mw] (X5) V4):=Hd ((HF0.out.mono (by simp)).then f04)
 clear hVM hV4 hsz12 f04 f03 f02 hcg hcg4 hm1 hm2 hm4 f1 f2 f4 hf3 hA3 ho3 n1 n2 hst2 HSS hgg
 go_wp2_with fail
 clear hes
 rw[rounds_succ]
 go_upto_region 22 with fail
 have HRV:=Hd (HRY.out.fr HFR4.out (by have:=HH.out.wm.lt;simp;omega))
 have hr:=HRV.out
 have y4:(V4).cell? ⟨w.heap.size,4,none⟩=some (.slice none 0 0):=hr.c 4
 clear hr
 go_wp2_with fail
 refine wp_loop_rounds 1 ?_
 rw[rounds_succ]
 go_wp2_with fail
 go_ret
 have hF4:Fr (VM b mw mr A KA) w4 V4:=((HFW5.out.trans HFXY.out (by simp[VM])).trans HXY.out (fun k hk=>HM5.out k hk)).trans HFR4.out (by simp[VM])
 have hVMl:∀ k∈VM b mw mr A KA,k<w.heap.size:=fun k hk=>HH.out.lt k hk
 have hst:StAt V4 p2 t':=HST4.out.1.fr hF4 (fun k hk hm=>by
  rcases HST4.out.2.2 k hk with h1 | h1
  ·exact HD.out k h1 hm
  ·have h2:=hVMl k hm
   have h3:=HF1.out.size
   simp only[World.drew] at h1
   omega)
 have hz4w:=HF04.out.size
 have hz45:=(HFW5.out.trans HFXY.out (by simp[VM])).size
 have hmem4:∀ k∈VM b mw mr A' KA',k∈VM b mw mr A KA ∨ w4.heap.size≤k:=fun k hk=>by
  rcases HMY.out k hk with h1 | h1
  ·exact HM5.out k h1
  ·exact .inr (by omega)
 have hdst:∀ k∈stB p2 t',k ∉ VM b mw mr A' KA':=fun k hk hm=>by
  rcases hmem4 k hm with h2 | h2
  ·rcases HST4.out.2.2 k hk with h1 | h1
   ·exact HD.out k h1 h2
   ·have h4:=hVMl k h2
    have h3:=HF1.out.size
    simp only[World.drew] at h1
    omega
  ·have:=HST4.out.1.lt k hk;omega
 have hfr:Fr (VM b mw mr A KA) w V4:=(HF04.out.mono (by simp)).then hF4
 have hmem:∀ k∈VM b mw mr A' KA',k∈VM b mw mr A KA ∨ w.heap.size≤k:=fun k hk=>(hmem4 k hk).imp id (by omega)
 exact⟨rfl,p2,t',A',c',KA',kc',_,AV.mk (AC.mk tt .nil (.one i v false)) yA yc yB yd,gg,cc,rfl,HST4.out.2.1,hst,hdst,HV4b.out,hfr,hmem⟩
theorem VAppend_1 (tt j:Int) (vj:ByteArray) (aj:Bool) (i:Int) (v:ByteArray) (cb xd:Nat) (yl:AV) (ca xc b pb pl mw mr c kc:Nat) (A KA:Option Addr) (ks:List Value) (kw kr:List (Value × Value)) (PW:World→Prop) (t:TR) (Q:TR→Prop) (w:World) (h:VerIs w b pb pl mw mr A 1 c KA 1 kc ([yl].flatMap AV.cs) ks kw kr PW) (hst:StAt w pl t) (hd:∀ k∈stB pl t,k ∉ VM b mw mr A KA) (hok:Ok w)
 (hx:Kept (VM b mw mr A KA) w fun W=>(AV.mk ⟨tt,.one j vj aj,.one i v false⟩ (some ⟨ca,0,none⟩) xc (some ⟨cb,0,none⟩) xd).ok W) (hg:(AC.mk tt (.one j vj aj) (.one i v false)).good) (hcm:cmpK (AV.mk ⟨tt,.one j vj aj,.one i v false⟩ (some ⟨ca,0,none⟩) xc (some ⟨cb,0,none⟩) xd).a.k yl.a.k=1) (hnew:∀ p∈kw,p.1≠portV i) (hkey:∃ l,keyOf Tryz.prog 31 (portV i)=some l) (hnewR:∀ p∈kr,p.1≠portV j) (hkeyR:∃ l,keyOf Tryz.prog 31 (portV j)=some l)
 (hAp:∀ W,Fr [] w W→Calls Tryz.prog 153 #[.pointer (some ⟨pl,0,none⟩),.slice (some ⟨cb,0,none⟩) 1 xd] W (ApPost (stB pl t) Q W)) :
 Calls Tryz.prog 98 #[.pointer (some ⟨b,0,none⟩),(AV.mk ⟨tt,.one j vj aj,.one i v false⟩ (some ⟨ca,0,none⟩) xc (some ⟨cb,0,none⟩) xd).v] w fun e w'=>e=.returned (.int .i64 0)∧∃ pl' t' A' c' y g gc rv,y.a=(AC.mk tt (.one j vj aj) (.one i v false))∧Q t'∧StAt w' pl' t'∧(∀ k∈stB pl' t',k ∉ VM b mw mr A' KA) ∧
  VerIs w' b pb pl' mw mr A' 2 c' KA 1 kc ([yl].flatMap AV.cs++AV.cs y) ks (kw++[(portV i,.slice (some ⟨g,0,none⟩) 1 gc)]) (kr++[(portV j,rv)]) (fun W=>(PW W∧y.ok W)∧Cs W g [.int .i64 1,.string v,.bool false])∧Fr (VM b mw mr A KA) w w'∧∀ k∈VM b mw mr A' KA,k∈VM b mw mr A KA ∨ w.heap.size≤k:=by
 obtain⟨g,rfl,hcs0⟩:=Cs.of_own h.own (by omega)
 have HCS:=Hd hcs0
 clear hcs0
 obtain⟨w1,hw1,hR1,hf1⟩:=bxn w ((AV.mk ⟨tt,.one j vj aj,.one i v false⟩ (some ⟨ca,0,none⟩) xc (some ⟨cb,0,none⟩) xd)).cs.toArray 91
 have hbl:=h.box.lt
 have hCell:∀ W,Fr [] w1 W→(W.cell? ⟨b,0,none⟩=some (.pointer (some ⟨pb,0,none⟩))∧W.cell? ⟨b,1,none⟩=some (.slice (some (⟨g,0,none⟩:Addr)) 1 c)∧W.cell? ⟨b,2,none⟩=some (.slice KA 1 kc)∧W.cell? ⟨b,3,none⟩=some (.pointer (some ⟨pl,0,none⟩))∧W.cell? ⟨b,4,none⟩=some (.map (some mw))∧W.cell? ⟨b,5,none⟩=some (.map (some mr))) ∧
  W.cell? ⟨w.heap.size,0,none⟩=some (.int .i64 tt)∧W.cell? ⟨w.heap.size,1,none⟩=some (.int .i64 0)∧W.cell? ⟨w.heap.size,2,none⟩=some (.int .i64 tt)∧W.cell? ⟨w.heap.size,3,none⟩=some (.string ⟨#[]⟩)∧W.cell? ⟨w.heap.size,4,none⟩=some (.slice (some ⟨ca,0,none⟩) 1 xc)∧W.cell? ⟨w.heap.size,5,none⟩=some (.slice (some ⟨cb,0,none⟩) 1 xd):=fun W hW=>by
  have h1:=h.box.fr (hf1.then hW) (by simp)
  have h2:=hR1.fr hW (by simp)
  exact⟨⟨h1.c 0,h1.c 1,h1.c 2,h1.c 3,h1.c 4,h1.c 5⟩,h2.c 0,h2.c 1,h2.c 2,h2.c 3,h2.c 4,h2.c 5⟩
 have hWF:∀ W,Fr [] w1 W→Calls Tryz.prog 158 #[.agg #[.int .i64 tt,.int .i64 0,.int .i64 tt,.string ⟨#[]⟩,.slice (some ⟨ca,0,none⟩) 1 xc,.slice (some ⟨cb,0,none⟩) 1 xd]] W fun e w'=>e=.returned (.bool true)∧Fr [] W w':=fun W hW=>WellFormedV_any ((AV.mk ⟨tt,.one j vj aj,.one i v false⟩ (some ⟨ca,0,none⟩) xc (some ⟨cb,0,none⟩) xd)).a ((AV.mk ⟨tt,.one j vj aj,.one i v false⟩ (some ⟨ca,0,none⟩) xc (some ⟨cb,0,none⟩) xd)).A ((AV.mk ⟨tt,.one j vj aj,.one i v false⟩ (some ⟨ca,0,none⟩) xc (some ⟨cb,0,none⟩) xd)).B ((AV.mk ⟨tt,.one j vj aj,.one i v false⟩ (some ⟨ca,0,none⟩) xc (some ⟨cb,0,none⟩) xd)).c ((AV.mk ⟨tt,.one j vj aj,.one i v false⟩ (some ⟨ca,0,none⟩) xc (some ⟨cb,0,none⟩) xd)).d W (hok.fr0 (hf1.then hW)) ((hx.fr0 (hf1.then hW)).now.r) ((hx.fr0 (hf1.then hW)).now.w) hg
 have hApp:∀ W,Fr [] w1 W→Calls Tryz.prog 153 #[.pointer (some ⟨pl,0,none⟩),.slice (some ⟨cb,0,none⟩) 1 xd] W (ApPost (stB pl t) Q W):=fun W hW=>hAp W (hf1.then hW)
 have hNn:∀ W,Fr [] w1 W→Calls Tryz.prog 157 #[.pointer (some ⟨b,0,none⟩)] W fun e w'=>e=.returned (.bool false)∧W=w':=fun W hW=>noneV_any b pb W (hCell W hW).1.1
 have HX:=Hd hx
 have HH:=Hd h
 have HD:=Hd hd
 have HSS:=Hd hCell
 have HWF:=Hd hWF
 have HA:=Hd hApp
 have HN:=Hd hNn
 have HW1:=Hd hw1
 have HF1:=Hd hf1
 have HR1:=Hd hR1
 have HOK:=Hd hok
 unfold AV.v
 unfold AV.cs CL.sl CL.len at HW1 ⊢
 dsimp only at HW1 ⊢
 clear hx h hst hd hCell hWF hApp hNn hw1 hf1 hR1 hAp hok
 go_enter Tryz.func98,Tryz.ntmps98
 go_upto_region 1 with fail
 rw[HW1.out]
 obtain⟨⟨x0,x1,x2,x3,x4,x5⟩,y0,y1,y2,y3,y4,y5⟩:=HSS.out w1 (Fr.refl [] w1)
 go_upto_region 8 with (first
  | (go_at_call 157;(with_reducible refine (HN.out _ (Fr.refl [] w1)).mono ?_);rintro e w' ⟨rfl,rfl⟩)
  | (go_at_call 158;(with_reducible refine (HWF.out _ (Fr.refl [] w1)).mono ?_);rintro e w2 ⟨rfl,hf2⟩;clear x0 x1 x2 x3 x4 x5 y0 y1 y2 y3 y4 y5;obtain⟨⟨x0,x1,x2,x3,x4,x5⟩,y0,y1,y2,y3,y4,y5⟩:=HSS.out w2 hf2))
 clear x0 x1 x2 x3 x4 x5 y0 y1 y2 y3 y4 y5
 have hCK:∀ W,Calls Tryz.prog 91 #[.agg #[.int .i64 tt,.int .i64 0,.int .i64 tt,.string ⟨#[]⟩],.agg #[.int .i64 yl.a.t,.int .i64 0,.int .i64 yl.a.t,.string ⟨#[]⟩]] W (CmpOPost W 1):=fun W=>by
  have h:=CompareK_any ((AV.mk ⟨tt,.one j vj aj,.one i v false⟩ (some ⟨ca,0,none⟩) xc (some ⟨cb,0,none⟩) xd)).a.k yl.a.k W (show validB []=true by decide) (show validB []=true by decide) (by simp[AC.k]) (by simp[AC.k])
  rw[hcm] at h
  exact h
 have HCK:=Hd hCK
 clear hCK
 have hwr:IntKind.i64.wrap 0=0:=by decide
 have HSK:=HSS
 clear HSS
 have HSS:=Hd (fun (W:World) (hW:Fr [] w1 W)=>And.intro (HSK.out W hW) (show W.cell? ⟨g,0,none⟩=some (.int .i64 yl.a.t)∧W.cell? ⟨g,1,none⟩=some (.int .i64 0)∧W.cell? ⟨g,2,none⟩=some (.int .i64 yl.a.t)∧W.cell? ⟨g,3,none⟩=some (.string ⟨#[]⟩) from by
  have h:=HCS.out.fr0 (HF1.out.then hW)
  exact⟨h.2 0 _ rfl,h.2 1 _ rfl,h.2 2 _ rfl,h.2 3 _ rfl⟩))
 refine wp_region_qall (fun W=>Fr [] w1 W) (by kernel_rfl) (by kernel_rfl) (hf2.drew) ?_
 repeat (
  first
  | go_big_quiet_skip
  | (go_big_quiet_want
     first
     | (go_big_quiet_op
        go_big_quiet_on)
     | (apply Exists.intro
        refine⟨fun W hW=>?_,?_⟩
        ·(obtain⟨⟨⟨x0,x1,x2,x3,x4,x5⟩,y0,y1,y2,y3,y4,y5⟩,z0,z1,z2,z3⟩:=HSS.out W hW
          go_simp
          first
          | done
          | (with_reducible exact rfl)
          | (with_reducible exact⟨rfl,rfl⟩)
          | ((go_at_call 91;(with_reducible refine (HCK.out W).mono ?_);rintro e w' ⟨rfl,h⟩;exact⟨rfl,hW.then h⟩)))
        simp only[Act.put,qA,qB,qC]
        go_big_quiet_on))
  )
 clear HSS hwr
 have HSS:=HSK
 clear HSK
 refine wpQuiet_nil ?_
 intro W3 hW3
 go_upto_region 10 with fail
 have hC:Fr [] w1 W3.drew:=hW3.drew
 refine wp_region_head (fun W:World=>Fr [] w1 W) 11 (by kernel_rfl) ?_ (by decide)
 show headJ 0 _ _ _ _ _ _ _ _ _ _ _
 iterate 6
  refine hdJ (v:=?_) rfl (Or.inl ⟨by rfl,?_⟩) ?_
  rotate_left
  ·intro W hW;obtain⟨⟨x0,x1,x2,x3,x4,x5⟩,y0,y1,y2,y3,y4,y5⟩:=HSS.out W hW;go_simp;try with_reducible rfl
  try simp only[Act.put,qA,qB,qC,qD,qE,qF]
 refine headI_only (i:=6) (by kernel_rfl) (by decide) rfl (fun K hK=>?_)
 rw[if_pos (by rfl)]
 go_simp
 go_at_call 153
 (with_reducible refine (HA.out _ hC).mono ?_)
 rintro e w4 ⟨p2,t',rfl,hst4,hf4,hq4,hbl4⟩
 have hC4:=hC.then hf4
 have hz4:W3.heap.size≤w4.heap.size:=hf4.size
 have hz3:=hW3.size
 refine hK _ _ hC4 ?_
 clear hK K hC hf4
 try simp only[Act.put,qA,qB,qC,qD,qE,qF]
 show headJ 7 _ _ _ _ _ _ _ _ _ _ _
 iterate 4
  refine hdJ (v:=?_) rfl (Or.inl ⟨by rfl,?_⟩) ?_
  rotate_left
  ·intro W hW;obtain⟨⟨x0,x1,x2,x3,x4,x5⟩,y0,y1,y2,y3,y4,y5⟩:=HSS.out W hW;go_simp;try with_reducible rfl
  try simp only[Act.put,qA,qB,qC,qD,qE,qF]
 refine headI_done ⟨by kernel_rfl,?_⟩
 simp only[List.drop_succ_cons,List.drop_zero]
 have HST4:=Hd (And.intro hst4 (And.intro hq4 hbl4))
 have hF04:=HF1.out.then hC4
 have HV4:=Hd (HH.out.fr0 hF04)
 have HF04:=Hd hF04
 have HR4:=Hd (HR1.out.fr hC4 (by simp))
 clear hst4 hq4 hbl4 hF04
 go_upto_region 15 with fail
 clear HCS
 have HFW5:Hid (Fr (VM b mw mr (some (⟨g,0,none⟩:Addr)) KA) w4 w4):=Hd (Fr.refl _ w4)
 have HM5:Hid (∀ k∈VM b mw mr (some (⟨g,0,none⟩:Addr)) KA,k∈VM b mw mr (some (⟨g,0,none⟩:Addr)) KA ∨ w4.heap.size≤k):=Hd (fun k hk=>.inl hk)
 have hb:=HV4.out.box
 have e0:(w4).cell? ⟨b,3,none⟩=some (.pointer (some ⟨pl,0,none⟩)):=hb.c 3
 have e1:=hb.f 3
 go_upto_region 16 with fail
 obtain⟨X4,hY⟩:=nmd ((w4).setCell ⟨b,3,none⟩ (.pointer (some ⟨p2,0,none⟩)))
 have hbY:BoxN X4 b 196 #[.pointer (some ⟨pb,0,none⟩),.slice (some (⟨g,0,none⟩:Addr)) 1 c,.slice KA 1 kc,.pointer (some ⟨p2,0,none⟩),.map (some mw),.map (some mr)]:=by rw[←hY];exact hb.setAt 3 _
 have fXY:Fr [b] (w4) X4:=by rw[←hY];exact (Fr.refl [b] (w4)).set (.inl (by simp)) _
 try rw[hY]
 have HV6:=Hd (HV4.out.putLast fXY hbY)
 have HFXY:=Hd fXY
 clear e0 e1 hY hbY fXY hb
 have hfx:Fr (VM b mw mr (some (⟨g,0,none⟩:Addr)) KA) w X4:=(HF04.out.mono (by simp)).trans HFXY.out (by simp[VM])
 have hRX:BoxN X4 w.heap.size 91 (AV.mk ⟨tt,.one j vj aj,.one i v false⟩ (some ⟨ca,0,none⟩) xc (some ⟨cb,0,none⟩) xd).cs.toArray:=HR4.out.fr HFXY.out (by have:=HH.out.box.lt;simp;omega)
 have hCell:∀ W,Fr [] X4 W→W.cell? ⟨b,1,none⟩=some (.slice (some (⟨g,0,none⟩:Addr)) 1 c)∧W.cell? ⟨w.heap.size,0,none⟩=some (.int .i64 tt)∧W.cell? ⟨w.heap.size,1,none⟩=some (.int .i64 0)∧W.cell? ⟨w.heap.size,2,none⟩=some (.int .i64 tt)∧W.cell? ⟨w.heap.size,3,none⟩=some (.string ⟨#[]⟩)∧W.cell? ⟨w.heap.size,4,none⟩=some (.slice (some ⟨ca,0,none⟩) 1 xc)∧W.cell? ⟨w.heap.size,5,none⟩=some (.slice (some ⟨cb,0,none⟩) 1 xd):=fun W hW=>by
  have h1:=HV6.out.box.fr hW (by simp)
  have h2:=hRX.fr hW (by simp)
  exact⟨h1.c 1,h2.c 0,h2.c 1,h2.c 2,h2.c 3,h2.c 4,h2.c 5⟩
 have hCp:∀ W,Fr [] X4 W→Calls Tryz.prog 159 #[.agg #[.int .i64 tt,.int .i64 0,.int .i64 tt,.string ⟨#[]⟩,.slice (some ⟨ca,0,none⟩) 1 xc,.slice (some ⟨cb,0,none⟩) 1 xd]] W fun e w'=>∃ y:AV,e=.returned y.v∧y.a=(AC.mk tt (.one j vj aj) (.one i v false))∧y.ok w'∧Fr [] W w'∧∀ k∈y.bl,W.heap.size≤k:=fun W hW=>copiedV_av ((AV.mk ⟨tt,.one j vj aj,.one i v false⟩ (some ⟨ca,0,none⟩) xc (some ⟨cb,0,none⟩) xd)) W (HX.out W (hfx.trans hW (by simp)))
 have HCP:=Hd hCp
 have HFX:=Hd hfx
 have HRX:=Hd hRX
 have HSS:=Hd (fun (W:World) (hW:W.cell? ⟨b,1,none⟩=some (.slice (some (⟨g,0,none⟩:Addr)) 1 c)∧W.cell? ⟨w.heap.size,0,none⟩=some (.int .i64 tt)∧W.cell? ⟨w.heap.size,1,none⟩=some (.int .i64 0)∧W.cell? ⟨w.heap.size,2,none⟩=some (.int .i64 tt)∧W.cell? ⟨w.heap.size,3,none⟩=some (.string ⟨#[]⟩)∧W.cell? ⟨w.heap.size,4,none⟩=some (.slice (some ⟨ca,0,none⟩) 1 xc)∧W.cell? ⟨w.heap.size,5,none⟩=some (.slice (some ⟨cb,0,none⟩) 1 xd))=>hW)
 have hC:=hCell _ (Fr.refl [] X4).drew
 have HCELL:=Hd hCell
 clear hCell hCp hfx hRX
 refine wp_region_head (fun W:World=>W.cell? ⟨b,1,none⟩=some (.slice (some (⟨g,0,none⟩:Addr)) 1 c)∧W.cell? ⟨w.heap.size,0,none⟩=some (.int .i64 tt)∧W.cell? ⟨w.heap.size,1,none⟩=some (.int .i64 0)∧W.cell? ⟨w.heap.size,2,none⟩=some (.int .i64 tt)∧W.cell? ⟨w.heap.size,3,none⟩=some (.string ⟨#[]⟩)∧W.cell? ⟨w.heap.size,4,none⟩=some (.slice (some ⟨ca,0,none⟩) 1 xc)∧W.cell? ⟨w.heap.size,5,none⟩=some (.slice (some ⟨cb,0,none⟩) 1 xd)) 11 (by kernel_rfl) ?_ (by decide)
 show headJ 0 _ _ _ _ _ _ _ _ _ _ _
 iterate 6
  refine hdJ (v:=?_) rfl (Or.inl ⟨by rfl,?_⟩) ?_
  rotate_left
  ·intro W hW;obtain⟨x1,y0,y1,y2,y3,y4,y5⟩:=HSS.out W hW;go_simp;try with_reducible rfl
  try simp only[Act.put,qA,qB,qC,qD,qE,qF]
 refine headI_only (i:=6) (by kernel_rfl) (by decide) rfl (fun K hK=>?_)
 rw[if_pos (by rfl)]
 go_simp
 go_at_call 159
 (with_reducible refine (HCP.out _ (Fr.refl [] X4).drew).mono ?_)
 rintro e Z1 ⟨⟨ya,yA,yc,yB,yd⟩,rfl,hya,hyk,hfy,hyb⟩
 dsimp only at hya
 subst hya
 unfold AV.v AV.cs CL.sl CL.len
 dsimp only
 have hZ1:=hfy.undrew
 refine hK _ _ (HCELL.out _ hZ1) ?_
 clear hK K hC hfy
 try simp only[Act.put,qA,qB,qC,qD,qE,qF]
 refine headI_only (i:=7) (by kernel_rfl) (by decide) rfl (fun K hK=>?_)
 rw[if_pos (by rfl)]
 go_simp
 obtain⟨Z2,hZ2,n2,f2⟩:=bxn Z1 (AV.mk ((AC.mk tt (.one j vj aj) (.one i v false))) yA yc yB yd).cs.toArray 91
 unfold AV.cs CL.sl CL.len at hZ2
 dsimp only at hZ2
 rw[hZ2]
 have hX12:=hZ1.then f2
 refine hK _ _ (HCELL.out _ hX12) ?_
 clear hK K hZ2
 try simp only[Act.put,qA,qB,qC,qD,qE,qF]
 refine headI_only (i:=8) (by kernel_rfl) (by decide) rfl (fun K hK=>?_)
 rw[if_pos (by rfl)]
 obtain⟨ii,hii,iz0,iz1,iz2⟩:∃ i,(Tryz.prog).info? 91=some i∧i.zero=some (.agg actZ)∧i.size=6∧i.bytes=88:=info_parts (by kernel_rfl)
 have hO2:=HV6.out.own.fr hX12 (by simp)
 refine wp_app (.tmp 78) (.tmp 81) 22 rfl 91 ii _ 6 88 Tryz.underlying22 hii iz0 iz1 iz2 rfl (by decide) (some (⟨g,0,none⟩:Addr)) 1 c ([yl].flatMap AV.cs) rfl hO2 ⟨Z1.heap.size,0,none⟩ 1 1 (AV.mk ((AC.mk tt (.one j vj aj) (.one i v false))) yA yc yB yd).cs rfl rfl (fun j u hu=>by rw[add_mid',n2.c j];simpa using hu) (by intro u hu;simp only[AV.cs,CL.sl,List.mem_cons,List.not_mem_nil,or_false] at hu;rcases hu with rfl | rfl | rfl | rfl | rfl | rfl <;> rfl) (by unfold maxLen;omega) (by omega) ?_
 intro A' c' Z3 ho3 hf3 hA3
 rw[show (1+1:Nat)=2 from rfl] at ho3 ⊢
 have hRA:w.heap.size ∉ blk (some (⟨g,0,none⟩:Addr)):=fun hm=>by have h1:=HH.out.lt _ (show w.heap.size∈VM b mw mr (some (⟨g,0,none⟩:Addr)) KA by simp only[VM,List.mem_cons,List.mem_append];exact .inr (.inr (.inr (.inl hm))));omega
 have hb3:=(HV6.out.box.fr hX12 (by simp)).fr hf3 HV6.out.d1.1
 have hr3:=(HRX.out.fr hX12 (by simp)).fr hf3 hRA
 have hC:Z3.cell? ⟨b,1,none⟩=some (.slice (some (⟨g,0,none⟩:Addr)) 1 c)∧Z3.cell? ⟨w.heap.size,0,none⟩=some (.int .i64 tt)∧Z3.cell? ⟨w.heap.size,1,none⟩=some (.int .i64 0)∧Z3.cell? ⟨w.heap.size,2,none⟩=some (.int .i64 tt)∧Z3.cell? ⟨w.heap.size,3,none⟩=some (.string ⟨#[]⟩)∧Z3.cell? ⟨w.heap.size,4,none⟩=some (.slice (some ⟨ca,0,none⟩) 1 xc)∧Z3.cell? ⟨w.heap.size,5,none⟩=some (.slice (some ⟨cb,0,none⟩) 1 xd):=⟨hb3.c 1,hr3.c 0,hr3.c 1,hr3.c 2,hr3.c 3,hr3.c 4,hr3.c 5⟩
 refine hK _ _ hC ?_
 clear hK K
 try simp only[Act.put,qA,qB,qC,qD,qE,qF]
 show headJ 9 _ _ _ _ _ _ _ _ _ _ _
 iterate 2
  refine hdJ (v:=?_) rfl (Or.inl ⟨by rfl,?_⟩) ?_
  rotate_left
  ·intro W hW;obtain⟨x1,y0,y1,y2,y3,y4,y5⟩:=HSS.out W hW;go_simp;try with_reducible rfl
  try simp only[Act.put,qA,qB,qC,qD,qE,qF]
 refine headI_done ⟨by kernel_rfl,?_⟩
 simp only[List.drop_succ_cons,List.drop_zero]
 have e0:Z3.cell? ⟨b,1,none⟩=some (.slice (some (⟨g,0,none⟩:Addr)) 1 c):=hb3.c 1
 have e1:=hb3.f 1
 have HO3:=Hd ho3
 have HF3:=Hd hf3
 have HA3:=Hd hA3
 have HX12:=Hd (And.intro hZ1 f2)
 have HYK:=Hd (And.intro hyk hyb)
 have HB3:=Hd hb3
 have HR3:=Hd hr3
 clear ho3 hf3 hA3 hX12 hZ1 f2 n2 hyk hyb hr3 hb3 hO2 HCELL HCP hC HSS
 go_upto_region 17 with fail
 obtain⟨X5,hY⟩:=nmd (Z3.setCell ⟨b,1,none⟩ (.slice A' 2 c'))
 have hbY:BoxN X5 b 196 #[.pointer (some ⟨pb,0,none⟩),.slice A' 2 c',.slice KA 1 kc,.pointer (some ⟨p2,0,none⟩),.map (some mw),.map (some mr)]:=by rw[←hY];exact HB3.out.setAt 1 _
 have fY:Fr [b] Z3 X5:=by rw[←hY];exact (Fr.refl [b] Z3).set (.inl (by simp)) _
 try rw[hY]
 have hVZ2:=HV6.out.fr0 (HX12.out.1.then HX12.out.2)
 have hyZ2:Kept (VM b mw mr (some (⟨g,0,none⟩:Addr)) KA) Z2 fun W=>(AV.mk ((AC.mk tt (.one j vj aj) (.one i v false))) yA yc yB yd).ok W:=fun W hW=>(HYK.out.1.fr0 HX12.out.2).fr hW (fun k hk hm=>by
  have h1:=HYK.out.2 k hk
  have h2:=HV6.out.lt k hm
  simp only[World.drew] at h1
  omega)
 have hP:=(hVZ2.addP hyZ2).putA HF3.out HO3.out HA3.out fY hbY
 have HVY:=Hd hP.1
 have hXZ2:Fr (VM b mw mr (some (⟨g,0,none⟩:Addr)) KA) X4 X5:=((HX12.out.1.then HX12.out.2).mono (by simp)).then hP.2.1
 have hZsz:(X4).heap.size≤Z2.heap.size:=(HX12.out.1.then HX12.out.2).size
 have HMY:Hid (∀ k∈VM b mw mr A' KA,k∈VM b mw mr (some (⟨g,0,none⟩:Addr)) KA ∨ (X4).heap.size≤k):=Hd (fun k hk=>(hP.2.2 k hk).imp id (Nat.le_trans hZsz))
 have HXY:=Hd hXZ2
 have HRY:=Hd (HR3.out.fr fY (by have:=HH.out.box.lt;simp;omega))
 clear e0 e1 hY hbY fY hVZ2 hyZ2 hP hXZ2 hZsz HO3 HF3 HA3 HX12 HYK HB3 HR3 HRX hRA
 have HXO:=Hd (HX.out X5 (HFX.out.trans HXY.out (fun k hk=>(HM5.out k hk).imp id (Nat.le_trans HF04.out.size))))
 have hr:=HRY.out
 have y5:(X5).cell? ⟨w.heap.size,5,none⟩=some (.slice (some ⟨cb,0,none⟩) 1 xd):=hr.c 5
 have hcs:Cs X5 cb (chC i v false):=CLat.cs (HXO.out.w)
 have u0:(X5).cell? ⟨cb,0,none⟩=some (.int .i64 16):=hcs.2 0 _ rfl
 have u1:(X5).cell? ⟨cb,1,none⟩=some (.string ⟨#[]⟩):=hcs.2 1 _ rfl
 have u2:(X5).cell? ⟨cb,2,none⟩=some (.int .i64 i):=hcs.2 2 _ rfl
 have u3:(X5).cell? ⟨cb,3,none⟩=some (.int .i64 0):=hcs.2 3 _ rfl
 have u4:(X5).cell? ⟨cb,4,none⟩=some (.string ⟨#[]⟩):=hcs.2 4 _ rfl
 have u5:(X5).cell? ⟨cb,5,none⟩=some (.string v):=hcs.2 5 _ rfl
 have u6:(X5).cell? ⟨cb,6,none⟩=some (.bool false):=hcs.2 6 _ rfl
 clear hr hcs
 go_wp2_with fail
 refine wp_loop_rounds 2 ?_
 rw[rounds_succ]
 go_upto_region 20 with fail
 obtain⟨V0,hV0,n0,f0⟩:=bxn X5 #[.int .i64 16,.string ⟨#[]⟩,.int .i64 i,.int .i64 0,.string ⟨#[]⟩,.string v,.bool false] 95
 rw[hV0]
 obtain⟨B9,hB9⟩:=nmd ((X5).heap.size)
 rw[hB9] at n0 ⊢
 have hCell:∀ W,Fr [mw] V0 W→W.cell? ⟨b,4,none⟩=some (.map (some mw))∧W.cell? ⟨B9,0,none⟩=some (.int .i64 16)∧W.cell? ⟨B9,1,none⟩=some (.string ⟨#[]⟩)∧W.cell? ⟨B9,2,none⟩=some (.int .i64 i)∧W.cell? ⟨B9,3,none⟩=some (.int .i64 0)∧W.cell? ⟨B9,4,none⟩=some (.string ⟨#[]⟩)∧W.cell? ⟨B9,5,none⟩=some (.string v)∧W.cell? ⟨B9,6,none⟩=some (.bool false):=fun W hW=>by
  have h1:=(HVY.out.box.fr f0 (by simp)).fr hW (by simpa using HVY.out.d1.2.2.1)
  have h2:=n0.fr hW (by have:=HVY.out.wm.lt;simp;omega)
  exact⟨h1.c 4,h2.c 0,h2.c 1,h2.c 2,h2.c 3,h2.c 4,h2.c 5,h2.c 6⟩
 have hC:Fr [mw] V0 V0.drew:=(Fr.refl [mw] V0).drew
 have HSS:=Hd hCell
 have HVX:=HVY
 have HV0:=Hd (HVY.out.fr0 f0)
 have HF0:=Hd f0
 clear hCell n0 f0 hV0 y5 u0 u1 u2 u3 u4 u5 u6
 refine wp_region_head (fun W:World=>Fr [mw] V0 W) 17 (by kernel_rfl) ?_ (by decide)
 show headJ 0 _ _ _ _ _ _ _ _ _ _ _
 iterate 12
  refine hdJ (v:=?_) rfl (Or.inl ⟨by rfl,?_⟩) ?_
  rotate_left
  ·intro W hW;obtain⟨m4,z0,z1,z2,z3,z4,z5,z6⟩:=HSS.out W hW;go_simp;try with_reducible rfl
  try simp only[Act.put,qA,qB,qC,qD,qE,qF]
 refine headI_only (i:=12) (by kernel_rfl) (by decide) rfl (fun K hK=>?_)
 rw[if_pos (by rfl)]
 go_simp
 obtain⟨V1,hV1,n1,f1⟩:=bxd V0 #[.int .i64 1,.string v,.bool false] 201
 rw[hV1]
 refine hK _ _ (f1.mono (by simp)) ?_
 clear hK K hC hV1
 try simp only[Act.put,qA,qB,qC,qD,qE,qF]
 refine headI_only (i:=13) (by kernel_rfl) (by decide) rfl (fun K hK=>?_)
 rw[if_pos (by rfl)]
 have hm1:=HV0.out.wm.fr f1 (by simp)
 obtain⟨kl,hkl⟩:=hkey
 obtain⟨st,V2,hme,f2,hm2,hst2⟩:=MapIs.entry_new key_name Tryz.underlying193 zero_vers hm1 hkl hnew
 unfold portV at hme
 go_simp
 have f02:Fr [mw] V0 V2:=(f1.mono (by simp)).then f2
 refine hK _ _ f02 ?_
 clear hK K hme
 have hC:=f02
 try simp only[Act.put,qA,qB,qC,qD,qE,qF]
 show headJ 14 _ _ _ _ _ _ _ _ _ _ _
 refine hdJ (v:=?_) rfl (Or.inl ⟨by rfl,?_⟩) ?_
 rotate_left
 ·intro W hW;obtain⟨m4,z0,z1,z2,z3,z4,z5,z6⟩:=HSS.out W hW;go_simp;try with_reducible rfl
 try simp only[Act.put,qA,qB,qC,qD,qE,qF]
 show headJ 16 _ _ _ _ _ _ _ _ _ _ _
 refine hdJ (v:=?_) rfl (Or.inl ⟨by rfl,?_⟩) ?_
 rotate_left
 ·intro W hW;obtain⟨m4,z0,z1,z2,z3,z4,z5,z6⟩:=HSS.out W hW;go_simp;try with_reducible rfl
 try simp only[Act.put,qA,qB,qC,qD,qE,qF]
 refine headI_only (i:=15) (by kernel_rfl) (by decide) rfl (fun K hK=>?_)
 rw[if_pos (by rfl)]
 obtain⟨jj,hjj,jz0,jz1,jz2⟩:=info_ver
 have n2:=n1.fr f2 (by have:=HV0.out.wm.lt;simp;omega)
 refine wp_app (.tmp 98) (.tmp 105) 280 rfl 201 jj _ 3 32 Tryz.underlying280 hjj jz0 jz1 jz2 rfl (by decide) none 0 0 [] rfl (Own.nil _ _ _) ⟨V0.heap.size,0,none⟩ 1 1 [.int .i64 1,.string v,.bool false] rfl rfl (fun j u hu=>by rw[add_mid',n2.c j];simpa using hu) (by simp[Value.oneCell']) (by unfold maxLen;omega) (by omega) ?_
 intro AA cc V3 ho3 hf3 hA3
 rw[show (0+1:Nat)=1 from rfl] at ho3 ⊢
 obtain⟨gg,rfl,hcg⟩:=Cs.of_own ho3 (by omega)
 have f03:Fr [mw] V0 V3:=f02.trans hf3 (by simp[blk])
 refine hK _ _ f03 ?_
 clear hK K hC
 try simp only[Act.put,qA,qB,qC,qD,qE,qF]
 refine headI_done ⟨by kernel_rfl,?_⟩
 simp only[List.drop_succ_cons,List.drop_zero]
 have hgg:V2.heap.size≤gg:=by
  rcases hA3 gg (by simp[blk]) with h | h
  ·simp[blk] at h
  ·exact h
 obtain⟨V4,hes,f4,hm4⟩:=hst2 V3 (.slice (some ⟨gg,0,none⟩) 1 cc) (hf3.block _ hm2.lt (by simp[blk]))
 have f04:Fr [mw] V0 V4:=f03.then f4
 have hcg4:Cs V4 gg [.int .i64 1,.string v,.bool false]:=hcg.fr f4 (by have:=hm2.lt;simp;omega)
 have hVM:=HV0.out.lt
 have hV4:=HV0.out.putW f04 hm4
 have hsz12:V0.heap.size≤V2.heap.size:=f02.size
 have HV4b:=Hd (hV4.addP (Q:=fun W=>Cs W gg [.int .i64 1,.string v,.bool false]) (fun W hW=>hcg4.fr hW (fun hm=>by have:=hVM gg hm;omega)))
 have HFR4:Hid (Fr [mw] (X5) V4):=Hd ((HF0.out.mono (by simp)).then f04)
 clear hVM hV4 hsz12 f04 f03 f02 hcg hcg4 hm1 hm2 hm4 f1 f2 f4 hf3 hA3 ho3 n1 n2 hst2 HSS hgg
 go_wp2_with fail
 clear hes
 rw[rounds_succ]
 go_upto_region 22 with fail
 have HRV:=Hd (HRY.out.fr HFR4.out (by have:=HH.out.wm.lt;simp;omega))
 have HXR:=Hd (HX.out V4 ((HFX.out.trans HXY.out (fun k hk=>(HM5.out k hk).imp id (Nat.le_trans HF04.out.size))).trans HFR4.out (by simp[VM])))
 have hr:=HRV.out
 have y4:(V4).cell? ⟨w.heap.size,4,none⟩=some (.slice (some ⟨ca,0,none⟩) 1 xc):=hr.c 4
 have hcs:Cs V4 ca (chC j vj aj):=CLat.cs (HXR.out.r)
 have u0:(V4).cell? ⟨ca,0,none⟩=some (.int .i64 16):=hcs.2 0 _ rfl
 have u1:(V4).cell? ⟨ca,1,none⟩=some (.string ⟨#[]⟩):=hcs.2 1 _ rfl
 have u2:(V4).cell? ⟨ca,2,none⟩=some (.int .i64 j):=hcs.2 2 _ rfl
 have u3:(V4).cell? ⟨ca,3,none⟩=some (.int .i64 0):=hcs.2 3 _ rfl
 have u4:(V4).cell? ⟨ca,4,none⟩=some (.string ⟨#[]⟩):=hcs.2 4 _ rfl
 have u5:(V4).cell? ⟨ca,5,none⟩=some (.string vj):=hcs.2 5 _ rfl
 have u6:(V4).cell? ⟨ca,6,none⟩=some (.bool aj):=hcs.2 6 _ rfl
 clear hr hcs
 go_wp2_with fail
 refine wp_loop_rounds 2 ?_
 rw[rounds_succ]
 go_upto_region 25 with fail
 obtain⟨U0,hU0,n0,f0⟩:=bxn V4 #[.int .i64 16,.string ⟨#[]⟩,.int .i64 j,.int .i64 0,.string ⟨#[]⟩,.string vj,.bool aj] 95
 rw[hU0]
 obtain⟨B8,hB8⟩:=nmd ((V4).heap.size)
 rw[hB8] at n0 ⊢
 have hCell:∀ W,Fr [mr] U0 W→W.cell? ⟨b,5,none⟩=some (.map (some mr))∧W.cell? ⟨B8,0,none⟩=some (.int .i64 16)∧W.cell? ⟨B8,1,none⟩=some (.string ⟨#[]⟩)∧W.cell? ⟨B8,2,none⟩=some (.int .i64 j)∧W.cell? ⟨B8,3,none⟩=some (.int .i64 0)∧W.cell? ⟨B8,4,none⟩=some (.string ⟨#[]⟩)∧W.cell? ⟨B8,5,none⟩=some (.string vj)∧W.cell? ⟨B8,6,none⟩=some (.bool aj):=fun W hW=>by
  have h1:=(HV4b.out.box.fr f0 (by simp)).fr hW (by simpa using HV4b.out.d1.2.2.2)
  have h2:=n0.fr hW (by have:=HV4b.out.rm.lt;simp;omega)
  exact⟨h1.c 5,h2.c 0,h2.c 1,h2.c 2,h2.c 3,h2.c 4,h2.c 5,h2.c 6⟩
 have hC:Fr [mr] U0 U0.drew:=(Fr.refl [mr] U0).drew
 have HSS:=Hd hCell
 have HU0:=Hd (HV4b.out.fr0 f0)
 have HF0:=Hd f0
 clear hCell n0 f0 hU0 y4 u0 u1 u2 u3 u4 u5 u6
 refine wp_region_head (fun W:World=>Fr [mr] U0 W) 12 (by kernel_rfl) ?_ (by decide)
 show headJ 0 _ _ _ _ _ _ _ _ _ _ _
 iterate 7
  refine hdJ (v:=?_) rfl (Or.inl ⟨by rfl,?_⟩) ?_
  rotate_left
  ·intro W hW;obtain⟨m4,z0,z1,z2,z3,z4,z5,z6⟩:=HSS.out W hW;go_simp;try with_reducible rfl
  try simp only[Act.put,qA,qB,qC,qD,qE,qF]
 refine headI_only (i:=7) (by kernel_rfl) (by decide) rfl (fun K hK=>?_)
 rw[if_pos (by rfl)]
 go_simp
 obtain⟨U1,hU1,n1,f1⟩:=bxd U0 #[.int .i64 1] 3
 rw[hU1]
 refine hK _ _ (f1.mono (by simp)) ?_
 clear hK K hC hU1
 try simp only[Act.put,qA,qB,qC,qD,qE,qF]
 refine headI_only (i:=8) (by kernel_rfl) (by decide) rfl (fun K hK=>?_)
 rw[if_pos (by rfl)]
 have hm1:=HU0.out.rm.fr f1 (by simp)
 obtain⟨kl,hkl⟩:=hkeyR
 obtain⟨st,U2,hme,f2,hm2,hst2⟩:=MapIs.entry_new key_name Tryz.underlying194 zero_ints hm1 hkl hnewR
 unfold portV at hme
 go_simp
 have f02:Fr [mr] U0 U2:=(f1.mono (by simp)).then f2
 refine hK _ _ f02 ?_
 clear hK K hme
 have hC:=f02
 try simp only[Act.put,qA,qB,qC,qD,qE,qF]
 show headJ 9 _ _ _ _ _ _ _ _ _ _ _
 refine hdJ (v:=?_) rfl (Or.inl ⟨by rfl,?_⟩) ?_
 rotate_left
 ·intro W hW;obtain⟨m4,z0,z1,z2,z3,z4,z5,z6⟩:=HSS.out W hW;go_simp;try with_reducible rfl
 try simp only[Act.put,qA,qB,qC,qD,qE,qF]
 show headJ 11 _ _ _ _ _ _ _ _ _ _ _
 refine hdJ (v:=?_) rfl (Or.inl ⟨by rfl,?_⟩) ?_
 rotate_left
 ·intro W hW;obtain⟨m4,z0,z1,z2,z3,z4,z5,z6⟩:=HSS.out W hW;go_simp;try with_reducible rfl
 try simp only[Act.put,qA,qB,qC,qD,qE,qF]
 refine headI_only (i:=10) (by kernel_rfl) (by decide) rfl (fun K hK=>?_)
 rw[if_pos (by rfl)]
 obtain⟨jj,hjj,jz0,jz1,jz2⟩:=info_int
 have n2:=n1.fr f2 (by have:=HU0.out.rm.lt;simp;omega)
 refine wp_app (.tmp 123) (.tmp 125) 36 rfl 3 jj _ 1 8 Tryz.underlying36 hjj jz0 jz1 jz2 rfl (by decide) none 0 0 [] rfl (Own.nil _ _ _) ⟨U0.heap.size,0,none⟩ 1 1 [.int .i64 1] rfl rfl (fun j u hu=>by rw[add_mid',n2.c j];simpa using hu) (by simp[Value.oneCell']) (by unfold maxLen;omega) (by omega) ?_
 intro AR cr U3 ho3 hf3 hA3
 rw[show (0+1:Nat)=1 from rfl]
 have f03:Fr [mr] U0 U3:=f02.trans hf3 (by simp[blk])
 refine hK _ _ f03 ?_
 clear hK K hC
 try simp only[Act.put,qA,qB,qC,qD,qE,qF]
 refine headI_done ⟨by kernel_rfl,?_⟩
 simp only[List.drop_succ_cons,List.drop_zero]
 obtain⟨U4,hes,f4,hm4⟩:=hst2 U3 (.slice AR 1 cr) (hf3.block _ hm2.lt (by simp[blk]))
 have HU4:=Hd (HU0.out.putR (f03.then f4) hm4)
 have HFR5x:Hid (Fr [mr] (V4) U4):=Hd ((HF0.out.mono (by simp)).then (f03.then f4))
 clear f03 f02 hm1 hm2 hm4 f1 f2 f4 hf3 hA3 ho3 n1 n2 hst2 HSS
 go_wp2_with fail
 clear hes
 rw[rounds_succ]
 go_wp2_with fail
 go_ret
 have hFL:Fr [mw,mr] X5 U4:=(HFR4.out.mono (by simp)).trans HFR5x.out (by simp)
 have hF4:Fr (VM b mw mr (some (⟨g,0,none⟩:Addr)) KA) w4 U4:=((HFW5.out.trans HFXY.out (by simp[VM])).trans HXY.out (fun k hk=>HM5.out k hk)).trans hFL (by simp[VM])
 have hVMl:∀ k∈VM b mw mr (some (⟨g,0,none⟩:Addr)) KA,k<w.heap.size:=fun k hk=>HH.out.lt k hk
 have hst:StAt U4 p2 t':=HST4.out.1.fr hF4 (fun k hk hm=>by
  rcases HST4.out.2.2 k hk with h1 | h1
  ·exact HD.out k h1 hm
  ·have h2:=hVMl k hm
   have h3:=HF1.out.size
   simp only[World.drew] at h1
   omega)
 have hz4w:=HF04.out.size
 have hz45:=(HFW5.out.trans HFXY.out (by simp[VM])).size
 have hmem4:∀ k∈VM b mw mr A' KA,k∈VM b mw mr (some (⟨g,0,none⟩:Addr)) KA ∨ w4.heap.size≤k:=fun k hk=>by
  rcases HMY.out k hk with h1 | h1
  ·exact HM5.out k h1
  ·exact .inr (by omega)
 have hdst:∀ k∈stB p2 t',k ∉ VM b mw mr A' KA:=fun k hk hm=>by
  rcases hmem4 k hm with h2 | h2
  ·rcases HST4.out.2.2 k hk with h1 | h1
   ·exact HD.out k h1 h2
   ·have h4:=hVMl k h2
    have h3:=HF1.out.size
    simp only[World.drew] at h1
    omega
  ·have:=HST4.out.1.lt k hk;omega
 have hfr:Fr (VM b mw mr (some (⟨g,0,none⟩:Addr)) KA) w U4:=(HF04.out.mono (by simp)).then hF4
 have hmem:∀ k∈VM b mw mr A' KA,k∈VM b mw mr (some (⟨g,0,none⟩:Addr)) KA ∨ w.heap.size≤k:=fun k hk=>(hmem4 k hk).imp id (by omega)
 exact⟨rfl,p2,t',A',c',AV.mk (AC.mk tt (.one j vj aj) (.one i v false)) yA yc yB yd,gg,cc,_,rfl,HST4.out.2.1,hst,hdst,HU4.out,hfr,hmem⟩
theorem VAppend_2 (tt j:Int) (vj:ByteArray) (aj:Bool) (yp yl:AV) (ca xc b pb pl mw mr c kc:Nat) (A KA:Option Addr) (ks:List Value) (kw kr:List (Value × Value)) (PW:World→Prop) (t:TR) (Q:TR→Prop) (w:World) (h:VerIs w b pb pl mw mr A 2 c KA 1 kc ([yp,yl].flatMap AV.cs) ks kw kr PW) (hst:StAt w pl t) (hd:∀ k∈stB pl t,k ∉ VM b mw mr A KA) (hok:Ok w)
 (hx:Kept (VM b mw mr A KA) w fun W=>(AV.mk ⟨tt,.one j vj aj,.nil⟩ (some ⟨ca,0,none⟩) xc none 0).ok W) (hg:(AC.mk tt (.one j vj aj) .nil).good) (hcm:cmpK (AV.mk ⟨tt,.one j vj aj,.nil⟩ (some ⟨ca,0,none⟩) xc none 0).a.k yl.a.k=1) (hnewR:∀ p∈kr,p.1≠portV j) (hkeyR:∃ l,keyOf Tryz.prog 31 (portV j)=some l)
 (hAp:∀ W,Fr [] w W→Calls Tryz.prog 153 #[.pointer (some ⟨pl,0,none⟩),.slice none 0 0] W (ApPost (stB pl t) Q W)) :
 Calls Tryz.prog 98 #[.pointer (some ⟨b,0,none⟩),(AV.mk ⟨tt,.one j vj aj,.nil⟩ (some ⟨ca,0,none⟩) xc none 0).v] w fun e w'=>e=.returned (.int .i64 0)∧∃ pl' t' A' c' y rv,y.a=(AC.mk tt (.one j vj aj) .nil)∧Q t'∧StAt w' pl' t'∧(∀ k∈stB pl' t',k ∉ VM b mw mr A' KA) ∧
  VerIs w' b pb pl' mw mr A' 3 c' KA 1 kc ([yp,yl].flatMap AV.cs++AV.cs y) ks kw (kr++[(portV j,rv)]) (fun W=>PW W∧y.ok W)∧Fr (VM b mw mr A KA) w w'∧∀ k∈VM b mw mr A' KA,k∈VM b mw mr A KA ∨ w.heap.size≤k:=by
 obtain⟨g,rfl,hcs0⟩:=Cs.of_own h.own (by omega)
 have HCS:=Hd hcs0
 clear hcs0
 obtain⟨w1,hw1,hR1,hf1⟩:=bxn w ((AV.mk ⟨tt,.one j vj aj,.nil⟩ (some ⟨ca,0,none⟩) xc none 0)).cs.toArray 91
 have hbl:=h.box.lt
 have hCell:∀ W,Fr [] w1 W→(W.cell? ⟨b,0,none⟩=some (.pointer (some ⟨pb,0,none⟩))∧W.cell? ⟨b,1,none⟩=some (.slice (some (⟨g,0,none⟩:Addr)) 2 c)∧W.cell? ⟨b,2,none⟩=some (.slice KA 1 kc)∧W.cell? ⟨b,3,none⟩=some (.pointer (some ⟨pl,0,none⟩))∧W.cell? ⟨b,4,none⟩=some (.map (some mw))∧W.cell? ⟨b,5,none⟩=some (.map (some mr))) ∧
  W.cell? ⟨w.heap.size,0,none⟩=some (.int .i64 tt)∧W.cell? ⟨w.heap.size,1,none⟩=some (.int .i64 0)∧W.cell? ⟨w.heap.size,2,none⟩=some (.int .i64 tt)∧W.cell? ⟨w.heap.size,3,none⟩=some (.string ⟨#[]⟩)∧W.cell? ⟨w.heap.size,4,none⟩=some (.slice (some ⟨ca,0,none⟩) 1 xc)∧W.cell? ⟨w.heap.size,5,none⟩=some (.slice none 0 0):=fun W hW=>by
  have h1:=h.box.fr (hf1.then hW) (by simp)
  have h2:=hR1.fr hW (by simp)
  exact⟨⟨h1.c 0,h1.c 1,h1.c 2,h1.c 3,h1.c 4,h1.c 5⟩,h2.c 0,h2.c 1,h2.c 2,h2.c 3,h2.c 4,h2.c 5⟩
 have hWF:∀ W,Fr [] w1 W→Calls Tryz.prog 158 #[.agg #[.int .i64 tt,.int .i64 0,.int .i64 tt,.string ⟨#[]⟩,.slice (some ⟨ca,0,none⟩) 1 xc,.slice none 0 0]] W fun e w'=>e=.returned (.bool true)∧Fr [] W w':=fun W hW=>WellFormedV_any ((AV.mk ⟨tt,.one j vj aj,.nil⟩ (some ⟨ca,0,none⟩) xc none 0)).a ((AV.mk ⟨tt,.one j vj aj,.nil⟩ (some ⟨ca,0,none⟩) xc none 0)).A ((AV.mk ⟨tt,.one j vj aj,.nil⟩ (some ⟨ca,0,none⟩) xc none 0)).B ((AV.mk ⟨tt,.one j vj aj,.nil⟩ (some ⟨ca,0,none⟩) xc none 0)).c ((AV.mk ⟨tt,.one j vj aj,.nil⟩ (some ⟨ca,0,none⟩) xc none 0)).d W (hok.fr0 (hf1.then hW)) ((hx.fr0 (hf1.then hW)).now.r) ((hx.fr0 (hf1.then hW)).now.w) hg
 have hApp:∀ W,Fr [] w1 W→Calls Tryz.prog 153 #[.pointer (some ⟨pl,0,none⟩),.slice none 0 0] W (ApPost (stB pl t) Q W):=fun W hW=>hAp W (hf1.then hW)
 have hNn:∀ W,Fr [] w1 W→Calls Tryz.prog 157 #[.pointer (some ⟨b,0,none⟩)] W fun e w'=>e=.returned (.bool false)∧W=w':=fun W hW=>noneV_any b pb W (hCell W hW).1.1
 have HX:=Hd hx
 have HH:=Hd h
 have HD:=Hd hd
 have HSS:=Hd hCell
 have HWF:=Hd hWF
 have HA:=Hd hApp
 have HN:=Hd hNn
 have HW1:=Hd hw1
 have HF1:=Hd hf1
 have HR1:=Hd hR1
 have HOK:=Hd hok
 unfold AV.v
 unfold AV.cs CL.sl CL.len at HW1 ⊢
 dsimp only at HW1 ⊢
 clear hx h hst hd hCell hWF hApp hNn hw1 hf1 hR1 hAp hok
 go_enter Tryz.func98,Tryz.ntmps98
 go_upto_region 1 with fail
 rw[HW1.out]
 obtain⟨⟨x0,x1,x2,x3,x4,x5⟩,y0,y1,y2,y3,y4,y5⟩:=HSS.out w1 (Fr.refl [] w1)
 go_upto_region 8 with (first
  | (go_at_call 157;(with_reducible refine (HN.out _ (Fr.refl [] w1)).mono ?_);rintro e w' ⟨rfl,rfl⟩)
  | (go_at_call 158;(with_reducible refine (HWF.out _ (Fr.refl [] w1)).mono ?_);rintro e w2 ⟨rfl,hf2⟩;clear x0 x1 x2 x3 x4 x5 y0 y1 y2 y3 y4 y5;obtain⟨⟨x0,x1,x2,x3,x4,x5⟩,y0,y1,y2,y3,y4,y5⟩:=HSS.out w2 hf2))
 clear x0 x1 x2 x3 x4 x5 y0 y1 y2 y3 y4 y5
 have hCK:∀ W,Calls Tryz.prog 91 #[.agg #[.int .i64 tt,.int .i64 0,.int .i64 tt,.string ⟨#[]⟩],.agg #[.int .i64 yl.a.t,.int .i64 0,.int .i64 yl.a.t,.string ⟨#[]⟩]] W (CmpOPost W 1):=fun W=>by
  have h:=CompareK_any ((AV.mk ⟨tt,.one j vj aj,.nil⟩ (some ⟨ca,0,none⟩) xc none 0)).a.k yl.a.k W (show validB []=true by decide) (show validB []=true by decide) (by simp[AC.k]) (by simp[AC.k])
  rw[hcm] at h
  exact h
 have HCK:=Hd hCK
 clear hCK
 have hwr:IntKind.i64.wrap 1=1:=by decide
 have HSK:=HSS
 clear HSS
 have HSS:=Hd (fun (W:World) (hW:Fr [] w1 W)=>And.intro (HSK.out W hW) (show W.cell? ⟨g,6,none⟩=some (.int .i64 yl.a.t)∧W.cell? ⟨g,7,none⟩=some (.int .i64 0)∧W.cell? ⟨g,8,none⟩=some (.int .i64 yl.a.t)∧W.cell? ⟨g,9,none⟩=some (.string ⟨#[]⟩) from by
  have h:=HCS.out.fr0 (HF1.out.then hW)
  exact⟨h.2 6 _ rfl,h.2 7 _ rfl,h.2 8 _ rfl,h.2 9 _ rfl⟩))
 refine wp_region_qall (fun W=>Fr [] w1 W) (by kernel_rfl) (by kernel_rfl) (hf2.drew) ?_
 repeat (
  first
  | go_big_quiet_skip
  | (go_big_quiet_want
     first
     | (go_big_quiet_op
        go_big_quiet_on)
     | (apply Exists.intro
        refine⟨fun W hW=>?_,?_⟩
        ·(obtain⟨⟨⟨x0,x1,x2,x3,x4,x5⟩,y0,y1,y2,y3,y4,y5⟩,z0,z1,z2,z3⟩:=HSS.out W hW
          go_simp
          first
          | done
          | (with_reducible exact rfl)
          | (with_reducible exact⟨rfl,rfl⟩)
          | ((go_at_call 91;(with_reducible refine (HCK.out W).mono ?_);rintro e w' ⟨rfl,h⟩;exact⟨rfl,hW.then h⟩)))
        simp only[Act.put,qA,qB,qC]
        go_big_quiet_on))
  )
 clear HSS hwr
 have HSS:=HSK
 clear HSK
 refine wpQuiet_nil ?_
 intro W3 hW3
 go_upto_region 10 with fail
 have hC:Fr [] w1 W3.drew:=hW3.drew
 refine wp_region_head (fun W:World=>Fr [] w1 W) 11 (by kernel_rfl) ?_ (by decide)
 show headJ 0 _ _ _ _ _ _ _ _ _ _ _
 iterate 6
  refine hdJ (v:=?_) rfl (Or.inl ⟨by rfl,?_⟩) ?_
  rotate_left
  ·intro W hW;obtain⟨⟨x0,x1,x2,x3,x4,x5⟩,y0,y1,y2,y3,y4,y5⟩:=HSS.out W hW;go_simp;try with_reducible rfl
  try simp only[Act.put,qA,qB,qC,qD,qE,qF]
 refine headI_only (i:=6) (by kernel_rfl) (by decide) rfl (fun K hK=>?_)
 rw[if_pos (by rfl)]
 go_simp
 go_at_call 153
 (with_reducible refine (HA.out _ hC).mono ?_)
 rintro e w4 ⟨p2,t',rfl,hst4,hf4,hq4,hbl4⟩
 have hC4:=hC.then hf4
 have hz4:W3.heap.size≤w4.heap.size:=hf4.size
 have hz3:=hW3.size
 refine hK _ _ hC4 ?_
 clear hK K hC hf4
 try simp only[Act.put,qA,qB,qC,qD,qE,qF]
 show headJ 7 _ _ _ _ _ _ _ _ _ _ _
 iterate 4
  refine hdJ (v:=?_) rfl (Or.inl ⟨by rfl,?_⟩) ?_
  rotate_left
  ·intro W hW;obtain⟨⟨x0,x1,x2,x3,x4,x5⟩,y0,y1,y2,y3,y4,y5⟩:=HSS.out W hW;go_simp;try with_reducible rfl
  try simp only[Act.put,qA,qB,qC,qD,qE,qF]
 refine headI_done ⟨by kernel_rfl,?_⟩
 simp only[List.drop_succ_cons,List.drop_zero]
 have HST4:=Hd (And.intro hst4 (And.intro hq4 hbl4))
 have hF04:=HF1.out.then hC4
 have HV4:=Hd (HH.out.fr0 hF04)
 have HF04:=Hd hF04
 have HR4:=Hd (HR1.out.fr hC4 (by simp))
 clear hst4 hq4 hbl4 hF04
 go_upto_region 15 with fail
 clear HCS
 have HFW5:Hid (Fr (VM b mw mr (some (⟨g,0,none⟩:Addr)) KA) w4 w4):=Hd (Fr.refl _ w4)
 have HM5:Hid (∀ k∈VM b mw mr (some (⟨g,0,none⟩:Addr)) KA,k∈VM b mw mr (some (⟨g,0,none⟩:Addr)) KA ∨ w4.heap.size≤k):=Hd (fun k hk=>.inl hk)
 have hb:=HV4.out.box
 have e0:(w4).cell? ⟨b,3,none⟩=some (.pointer (some ⟨pl,0,none⟩)):=hb.c 3
 have e1:=hb.f 3
 go_upto_region 16 with fail
 obtain⟨X4,hY⟩:=nmd ((w4).setCell ⟨b,3,none⟩ (.pointer (some ⟨p2,0,none⟩)))
 have hbY:BoxN X4 b 196 #[.pointer (some ⟨pb,0,none⟩),.slice (some (⟨g,0,none⟩:Addr)) 2 c,.slice KA 1 kc,.pointer (some ⟨p2,0,none⟩),.map (some mw),.map (some mr)]:=by rw[←hY];exact hb.setAt 3 _
 have fXY:Fr [b] (w4) X4:=by rw[←hY];exact (Fr.refl [b] (w4)).set (.inl (by simp)) _
 try rw[hY]
 have HV6:=Hd (HV4.out.putLast fXY hbY)
 have HFXY:=Hd fXY
 clear e0 e1 hY hbY fXY hb
 have hfx:Fr (VM b mw mr (some (⟨g,0,none⟩:Addr)) KA) w X4:=(HF04.out.mono (by simp)).trans HFXY.out (by simp[VM])
 have hRX:BoxN X4 w.heap.size 91 (AV.mk ⟨tt,.one j vj aj,.nil⟩ (some ⟨ca,0,none⟩) xc none 0).cs.toArray:=HR4.out.fr HFXY.out (by have:=HH.out.box.lt;simp;omega)
 have hCell:∀ W,Fr [] X4 W→W.cell? ⟨b,1,none⟩=some (.slice (some (⟨g,0,none⟩:Addr)) 2 c)∧W.cell? ⟨w.heap.size,0,none⟩=some (.int .i64 tt)∧W.cell? ⟨w.heap.size,1,none⟩=some (.int .i64 0)∧W.cell? ⟨w.heap.size,2,none⟩=some (.int .i64 tt)∧W.cell? ⟨w.heap.size,3,none⟩=some (.string ⟨#[]⟩)∧W.cell? ⟨w.heap.size,4,none⟩=some (.slice (some ⟨ca,0,none⟩) 1 xc)∧W.cell? ⟨w.heap.size,5,none⟩=some (.slice none 0 0):=fun W hW=>by
  have h1:=HV6.out.box.fr hW (by simp)
  have h2:=hRX.fr hW (by simp)
  exact⟨h1.c 1,h2.c 0,h2.c 1,h2.c 2,h2.c 3,h2.c 4,h2.c 5⟩
 have hCp:∀ W,Fr [] X4 W→Calls Tryz.prog 159 #[.agg #[.int .i64 tt,.int .i64 0,.int .i64 tt,.string ⟨#[]⟩,.slice (some ⟨ca,0,none⟩) 1 xc,.slice none 0 0]] W fun e w'=>∃ y:AV,e=.returned y.v∧y.a=(AC.mk tt (.one j vj aj) .nil)∧y.ok w'∧Fr [] W w'∧∀ k∈y.bl,W.heap.size≤k:=fun W hW=>copiedV_av ((AV.mk ⟨tt,.one j vj aj,.nil⟩ (some ⟨ca,0,none⟩) xc none 0)) W (HX.out W (hfx.trans hW (by simp)))
 have HCP:=Hd hCp
 have HFX:=Hd hfx
 have HRX:=Hd hRX
 have HSS:=Hd (fun (W:World) (hW:W.cell? ⟨b,1,none⟩=some (.slice (some (⟨g,0,none⟩:Addr)) 2 c)∧W.cell? ⟨w.heap.size,0,none⟩=some (.int .i64 tt)∧W.cell? ⟨w.heap.size,1,none⟩=some (.int .i64 0)∧W.cell? ⟨w.heap.size,2,none⟩=some (.int .i64 tt)∧W.cell? ⟨w.heap.size,3,none⟩=some (.string ⟨#[]⟩)∧W.cell? ⟨w.heap.size,4,none⟩=some (.slice (some ⟨ca,0,none⟩) 1 xc)∧W.cell? ⟨w.heap.size,5,none⟩=some (.slice none 0 0))=>hW)
 have hC:=hCell _ (Fr.refl [] X4).drew
 have HCELL:=Hd hCell
 clear hCell hCp hfx hRX
 refine wp_region_head (fun W:World=>W.cell? ⟨b,1,none⟩=some (.slice (some (⟨g,0,none⟩:Addr)) 2 c)∧W.cell? ⟨w.heap.size,0,none⟩=some (.int .i64 tt)∧W.cell? ⟨w.heap.size,1,none⟩=some (.int .i64 0)∧W.cell? ⟨w.heap.size,2,none⟩=some (.int .i64 tt)∧W.cell? ⟨w.heap.size,3,none⟩=some (.string ⟨#[]⟩)∧W.cell? ⟨w.heap.size,4,none⟩=some (.slice (some ⟨ca,0,none⟩) 1 xc)∧W.cell? ⟨w.heap.size,5,none⟩=some (.slice none 0 0)) 11 (by kernel_rfl) ?_ (by decide)
 show headJ 0 _ _ _ _ _ _ _ _ _ _ _
 iterate 6
  refine hdJ (v:=?_) rfl (Or.inl ⟨by rfl,?_⟩) ?_
  rotate_left
  ·intro W hW;obtain⟨x1,y0,y1,y2,y3,y4,y5⟩:=HSS.out W hW;go_simp;try with_reducible rfl
  try simp only[Act.put,qA,qB,qC,qD,qE,qF]
 refine headI_only (i:=6) (by kernel_rfl) (by decide) rfl (fun K hK=>?_)
 rw[if_pos (by rfl)]
 go_simp
 go_at_call 159
 (with_reducible refine (HCP.out _ (Fr.refl [] X4).drew).mono ?_)
 rintro e Z1 ⟨⟨ya,yA,yc,yB,yd⟩,rfl,hya,hyk,hfy,hyb⟩
 dsimp only at hya
 subst hya
 unfold AV.v AV.cs CL.sl CL.len
 dsimp only
 have hZ1:=hfy.undrew
 refine hK _ _ (HCELL.out _ hZ1) ?_
 clear hK K hC hfy
 try simp only[Act.put,qA,qB,qC,qD,qE,qF]
 refine headI_only (i:=7) (by kernel_rfl) (by decide) rfl (fun K hK=>?_)
 rw[if_pos (by rfl)]
 go_simp
 obtain⟨Z2,hZ2,n2,f2⟩:=bxn Z1 (AV.mk ((AC.mk tt (.one j vj aj) .nil)) yA yc yB yd).cs.toArray 91
 unfold AV.cs CL.sl CL.len at hZ2
 dsimp only at hZ2
 rw[hZ2]
 have hX12:=hZ1.then f2
 refine hK _ _ (HCELL.out _ hX12) ?_
 clear hK K hZ2
 try simp only[Act.put,qA,qB,qC,qD,qE,qF]
 refine headI_only (i:=8) (by kernel_rfl) (by decide) rfl (fun K hK=>?_)
 rw[if_pos (by rfl)]
 obtain⟨ii,hii,iz0,iz1,iz2⟩:∃ i,(Tryz.prog).info? 91=some i∧i.zero=some (.agg actZ)∧i.size=6∧i.bytes=88:=info_parts (by kernel_rfl)
 have hO2:=HV6.out.own.fr hX12 (by simp)
 refine wp_app (.tmp 78) (.tmp 81) 22 rfl 91 ii _ 6 88 Tryz.underlying22 hii iz0 iz1 iz2 rfl (by decide) (some (⟨g,0,none⟩:Addr)) 2 c ([yp,yl].flatMap AV.cs) rfl hO2 ⟨Z1.heap.size,0,none⟩ 1 1 (AV.mk ((AC.mk tt (.one j vj aj) .nil)) yA yc yB yd).cs rfl rfl (fun j u hu=>by rw[add_mid',n2.c j];simpa using hu) (by intro u hu;simp only[AV.cs,CL.sl,List.mem_cons,List.not_mem_nil,or_false] at hu;rcases hu with rfl | rfl | rfl | rfl | rfl | rfl <;> rfl) (by unfold maxLen;omega) (by omega) ?_
 intro A' c' Z3 ho3 hf3 hA3
 rw[show (2+1:Nat)=3 from rfl] at ho3 ⊢
 have hRA:w.heap.size ∉ blk (some (⟨g,0,none⟩:Addr)):=fun hm=>by have h1:=HH.out.lt _ (show w.heap.size∈VM b mw mr (some (⟨g,0,none⟩:Addr)) KA by simp only[VM,List.mem_cons,List.mem_append];exact .inr (.inr (.inr (.inl hm))));omega
 have hb3:=(HV6.out.box.fr hX12 (by simp)).fr hf3 HV6.out.d1.1
 have hr3:=(HRX.out.fr hX12 (by simp)).fr hf3 hRA
 have hC:Z3.cell? ⟨b,1,none⟩=some (.slice (some (⟨g,0,none⟩:Addr)) 2 c)∧Z3.cell? ⟨w.heap.size,0,none⟩=some (.int .i64 tt)∧Z3.cell? ⟨w.heap.size,1,none⟩=some (.int .i64 0)∧Z3.cell? ⟨w.heap.size,2,none⟩=some (.int .i64 tt)∧Z3.cell? ⟨w.heap.size,3,none⟩=some (.string ⟨#[]⟩)∧Z3.cell? ⟨w.heap.size,4,none⟩=some (.slice (some ⟨ca,0,none⟩) 1 xc)∧Z3.cell? ⟨w.heap.size,5,none⟩=some (.slice none 0 0):=⟨hb3.c 1,hr3.c 0,hr3.c 1,hr3.c 2,hr3.c 3,hr3.c 4,hr3.c 5⟩
 refine hK _ _ hC ?_
 clear hK K
 try simp only[Act.put,qA,qB,qC,qD,qE,qF]
 show headJ 9 _ _ _ _ _ _ _ _ _ _ _
 iterate 2
  refine hdJ (v:=?_) rfl (Or.inl ⟨by rfl,?_⟩) ?_
  rotate_left
  ·intro W hW;obtain⟨x1,y0,y1,y2,y3,y4,y5⟩:=HSS.out W hW;go_simp;try with_reducible rfl
  try simp only[Act.put,qA,qB,qC,qD,qE,qF]
 refine headI_done ⟨by kernel_rfl,?_⟩
 simp only[List.drop_succ_cons,List.drop_zero]
 have e0:Z3.cell? ⟨b,1,none⟩=some (.slice (some (⟨g,0,none⟩:Addr)) 2 c):=hb3.c 1
 have e1:=hb3.f 1
 have HO3:=Hd ho3
 have HF3:=Hd hf3
 have HA3:=Hd hA3
 have HX12:=Hd (And.intro hZ1 f2)
 have HYK:=Hd (And.intro hyk hyb)
 have HB3:=Hd hb3
 have HR3:=Hd hr3
 clear ho3 hf3 hA3 hX12 hZ1 f2 n2 hyk hyb hr3 hb3 hO2 HCELL HCP hC HSS
 go_upto_region 17 with fail
 obtain⟨X5,hY⟩:=nmd (Z3.setCell ⟨b,1,none⟩ (.slice A' 3 c'))
 have hbY:BoxN X5 b 196 #[.pointer (some ⟨pb,0,none⟩),.slice A' 3 c',.slice KA 1 kc,.pointer (some ⟨p2,0,none⟩),.map (some mw),.map (some mr)]:=by rw[←hY];exact HB3.out.setAt 1 _
 have fY:Fr [b] Z3 X5:=by rw[←hY];exact (Fr.refl [b] Z3).set (.inl (by simp)) _
 try rw[hY]
 have hVZ2:=HV6.out.fr0 (HX12.out.1.then HX12.out.2)
 have hyZ2:Kept (VM b mw mr (some (⟨g,0,none⟩:Addr)) KA) Z2 fun W=>(AV.mk ((AC.mk tt (.one j vj aj) .nil)) yA yc yB yd).ok W:=fun W hW=>(HYK.out.1.fr0 HX12.out.2).fr hW (fun k hk hm=>by
  have h1:=HYK.out.2 k hk
  have h2:=HV6.out.lt k hm
  simp only[World.drew] at h1
  omega)
 have hP:=(hVZ2.addP hyZ2).putA HF3.out HO3.out HA3.out fY hbY
 have HVY:=Hd hP.1
 have hXZ2:Fr (VM b mw mr (some (⟨g,0,none⟩:Addr)) KA) X4 X5:=((HX12.out.1.then HX12.out.2).mono (by simp)).then hP.2.1
 have hZsz:(X4).heap.size≤Z2.heap.size:=(HX12.out.1.then HX12.out.2).size
 have HMY:Hid (∀ k∈VM b mw mr A' KA,k∈VM b mw mr (some (⟨g,0,none⟩:Addr)) KA ∨ (X4).heap.size≤k):=Hd (fun k hk=>(hP.2.2 k hk).imp id (Nat.le_trans hZsz))
 have HXY:=Hd hXZ2
 have HRY:=Hd (HR3.out.fr fY (by have:=HH.out.box.lt;simp;omega))
 clear e0 e1 hY hbY fY hVZ2 hyZ2 hP hXZ2 hZsz HO3 HF3 HA3 HX12 HYK HB3 HR3 HRX hRA
 have HXO:=Hd (HX.out X5 (HFX.out.trans HXY.out (fun k hk=>(HM5.out k hk).imp id (Nat.le_trans HF04.out.size))))
 have hr:=HRY.out
 have y5:(X5).cell? ⟨w.heap.size,5,none⟩=some (.slice none 0 0):=hr.c 5
 clear hr
 go_wp2_with fail
 refine wp_loop_rounds 1 ?_
 rw[rounds_succ]
 go_upto_region 22 with fail
 clear y5
 have HRV:=HRY
 have hr:=HRV.out
 have y4:(X5).cell? ⟨w.heap.size,4,none⟩=some (.slice (some ⟨ca,0,none⟩) 1 xc):=hr.c 4
 have hcs:Cs X5 ca (chC j vj aj):=CLat.cs (HXO.out.r)
 have u0:(X5).cell? ⟨ca,0,none⟩=some (.int .i64 16):=hcs.2 0 _ rfl
 have u1:(X5).cell? ⟨ca,1,none⟩=some (.string ⟨#[]⟩):=hcs.2 1 _ rfl
 have u2:(X5).cell? ⟨ca,2,none⟩=some (.int .i64 j):=hcs.2 2 _ rfl
 have u3:(X5).cell? ⟨ca,3,none⟩=some (.int .i64 0):=hcs.2 3 _ rfl
 have u4:(X5).cell? ⟨ca,4,none⟩=some (.string ⟨#[]⟩):=hcs.2 4 _ rfl
 have u5:(X5).cell? ⟨ca,5,none⟩=some (.string vj):=hcs.2 5 _ rfl
 have u6:(X5).cell? ⟨ca,6,none⟩=some (.bool aj):=hcs.2 6 _ rfl
 clear hr hcs
 go_wp2_with fail
 refine wp_loop_rounds 2 ?_
 rw[rounds_succ]
 go_upto_region 25 with fail
 obtain⟨U0,hU0,n0,f0⟩:=bxn X5 #[.int .i64 16,.string ⟨#[]⟩,.int .i64 j,.int .i64 0,.string ⟨#[]⟩,.string vj,.bool aj] 95
 rw[hU0]
 obtain⟨B8,hB8⟩:=nmd ((X5).heap.size)
 rw[hB8] at n0 ⊢
 have hCell:∀ W,Fr [mr] U0 W→W.cell? ⟨b,5,none⟩=some (.map (some mr))∧W.cell? ⟨B8,0,none⟩=some (.int .i64 16)∧W.cell? ⟨B8,1,none⟩=some (.string ⟨#[]⟩)∧W.cell? ⟨B8,2,none⟩=some (.int .i64 j)∧W.cell? ⟨B8,3,none⟩=some (.int .i64 0)∧W.cell? ⟨B8,4,none⟩=some (.string ⟨#[]⟩)∧W.cell? ⟨B8,5,none⟩=some (.string vj)∧W.cell? ⟨B8,6,none⟩=some (.bool aj):=fun W hW=>by
  have h1:=(HVY.out.box.fr f0 (by simp)).fr hW (by simpa using HVY.out.d1.2.2.2)
  have h2:=n0.fr hW (by have:=HVY.out.rm.lt;simp;omega)
  exact⟨h1.c 5,h2.c 0,h2.c 1,h2.c 2,h2.c 3,h2.c 4,h2.c 5,h2.c 6⟩
 have hC:Fr [mr] U0 U0.drew:=(Fr.refl [mr] U0).drew
 have HSS:=Hd hCell
 have HU0:=Hd (HVY.out.fr0 f0)
 have HF0:=Hd f0
 clear hCell n0 f0 hU0 y4 u0 u1 u2 u3 u4 u5 u6
 refine wp_region_head (fun W:World=>Fr [mr] U0 W) 12 (by kernel_rfl) ?_ (by decide)
 show headJ 0 _ _ _ _ _ _ _ _ _ _ _
 iterate 7
  refine hdJ (v:=?_) rfl (Or.inl ⟨by rfl,?_⟩) ?_
  rotate_left
  ·intro W hW;obtain⟨m4,z0,z1,z2,z3,z4,z5,z6⟩:=HSS.out W hW;go_simp;try with_reducible rfl
  try simp only[Act.put,qA,qB,qC,qD,qE,qF]
 refine headI_only (i:=7) (by kernel_rfl) (by decide) rfl (fun K hK=>?_)
 rw[if_pos (by rfl)]
 go_simp
 obtain⟨U1,hU1,n1,f1⟩:=bxd U0 #[.int .i64 2] 3
 rw[hU1]
 refine hK _ _ (f1.mono (by simp)) ?_
 clear hK K hC hU1
 try simp only[Act.put,qA,qB,qC,qD,qE,qF]
 refine headI_only (i:=8) (by kernel_rfl) (by decide) rfl (fun K hK=>?_)
 rw[if_pos (by rfl)]
 have hm1:=HU0.out.rm.fr f1 (by simp)
 obtain⟨kl,hkl⟩:=hkeyR
 obtain⟨st,U2,hme,f2,hm2,hst2⟩:=MapIs.entry_new key_name Tryz.underlying194 zero_ints hm1 hkl hnewR
 unfold portV at hme
 go_simp
 have f02:Fr [mr] U0 U2:=(f1.mono (by simp)).then f2
 refine hK _ _ f02 ?_
 clear hK K hme
 have hC:=f02
 try simp only[Act.put,qA,qB,qC,qD,qE,qF]
 show headJ 9 _ _ _ _ _ _ _ _ _ _ _
 refine hdJ (v:=?_) rfl (Or.inl ⟨by rfl,?_⟩) ?_
 rotate_left
 ·intro W hW;obtain⟨m4,z0,z1,z2,z3,z4,z5,z6⟩:=HSS.out W hW;go_simp;try with_reducible rfl
 try simp only[Act.put,qA,qB,qC,qD,qE,qF]
 show headJ 11 _ _ _ _ _ _ _ _ _ _ _
 refine hdJ (v:=?_) rfl (Or.inl ⟨by rfl,?_⟩) ?_
 rotate_left
 ·intro W hW;obtain⟨m4,z0,z1,z2,z3,z4,z5,z6⟩:=HSS.out W hW;go_simp;try with_reducible rfl
 try simp only[Act.put,qA,qB,qC,qD,qE,qF]
 refine headI_only (i:=10) (by kernel_rfl) (by decide) rfl (fun K hK=>?_)
 rw[if_pos (by rfl)]
 obtain⟨jj,hjj,jz0,jz1,jz2⟩:=info_int
 have n2:=n1.fr f2 (by have:=HU0.out.rm.lt;simp;omega)
 refine wp_app (.tmp 123) (.tmp 125) 36 rfl 3 jj _ 1 8 Tryz.underlying36 hjj jz0 jz1 jz2 rfl (by decide) none 0 0 [] rfl (Own.nil _ _ _) ⟨U0.heap.size,0,none⟩ 1 1 [.int .i64 2] rfl rfl (fun j u hu=>by rw[add_mid',n2.c j];simpa using hu) (by simp[Value.oneCell']) (by unfold maxLen;omega) (by omega) ?_
 intro AR cr U3 ho3 hf3 hA3
 rw[show (0+1:Nat)=1 from rfl]
 have f03:Fr [mr] U0 U3:=f02.trans hf3 (by simp[blk])
 refine hK _ _ f03 ?_
 clear hK K hC
 try simp only[Act.put,qA,qB,qC,qD,qE,qF]
 refine headI_done ⟨by kernel_rfl,?_⟩
 simp only[List.drop_succ_cons,List.drop_zero]
 obtain⟨U4,hes,f4,hm4⟩:=hst2 U3 (.slice AR 1 cr) (hf3.block _ hm2.lt (by simp[blk]))
 have HU4:=Hd (HU0.out.putR (f03.then f4) hm4)
 have HFR5x:Hid (Fr [mr] (X5) U4):=Hd ((HF0.out.mono (by simp)).then (f03.then f4))
 clear f03 f02 hm1 hm2 hm4 f1 f2 f4 hf3 hA3 ho3 n1 n2 hst2 HSS
 go_wp2_with fail
 clear hes
 rw[rounds_succ]
 go_wp2_with fail
 go_ret
 have hF4:Fr (VM b mw mr (some (⟨g,0,none⟩:Addr)) KA) w4 U4:=((HFW5.out.trans HFXY.out (by simp[VM])).trans HXY.out (fun k hk=>HM5.out k hk)).trans HFR5x.out (by simp[VM])
 have hVMl:∀ k∈VM b mw mr (some (⟨g,0,none⟩:Addr)) KA,k<w.heap.size:=fun k hk=>HH.out.lt k hk
 have hst:StAt U4 p2 t':=HST4.out.1.fr hF4 (fun k hk hm=>by
  rcases HST4.out.2.2 k hk with h1 | h1
  ·exact HD.out k h1 hm
  ·have h2:=hVMl k hm
   have h3:=HF1.out.size
   simp only[World.drew] at h1
   omega)
 have hz4w:=HF04.out.size
 have hz45:=(HFW5.out.trans HFXY.out (by simp[VM])).size
 have hmem4:∀ k∈VM b mw mr A' KA,k∈VM b mw mr (some (⟨g,0,none⟩:Addr)) KA ∨ w4.heap.size≤k:=fun k hk=>by
  rcases HMY.out k hk with h1 | h1
  ·exact HM5.out k h1
  ·exact .inr (by omega)
 have hdst:∀ k∈stB p2 t',k ∉ VM b mw mr A' KA:=fun k hk hm=>by
  rcases hmem4 k hm with h2 | h2
  ·rcases HST4.out.2.2 k hk with h1 | h1
   ·exact HD.out k h1 h2
   ·have h4:=hVMl k h2
    have h3:=HF1.out.size
    simp only[World.drew] at h1
    omega
  ·have:=HST4.out.1.lt k hk;omega
 have hfr:Fr (VM b mw mr (some (⟨g,0,none⟩:Addr)) KA) w U4:=(HF04.out.mono (by simp)).then hF4
 have hmem:∀ k∈VM b mw mr A' KA,k∈VM b mw mr (some (⟨g,0,none⟩:Addr)) KA ∨ w.heap.size≤k:=fun k hk=>(hmem4 k hk).imp id (by omega)
 exact⟨rfl,p2,t',A',c',AV.mk (AC.mk tt (.one j vj aj) .nil) yA yc yB yd,_,rfl,HST4.out.2.1,hst,hdst,HU4.out,hfr,hmem⟩
end Go.Proofs.YtlpmiimgacfmkaaGreatDoor
