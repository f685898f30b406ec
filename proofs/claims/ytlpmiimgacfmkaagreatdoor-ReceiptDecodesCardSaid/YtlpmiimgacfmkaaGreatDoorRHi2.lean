/- history: (History).Append. -/
import Derived.Test.YtlpmiimgacfmkaaGreatDoorRTr5
import Derived.Test.YtlpmiimgacfmkaaGreatDoorRSt7
set_option linter.all false
namespace Go.Proofs.YtlpmiimgacfmkaaGreatDoor
open Go.RowKit
set_option maxRecDepth 100000
set_option maxHeartbeats 4000000
structure HistIs (w:World) (b pb pl bt:Nat) (A:Option Addr) (c:Nat) (F:List Nat) (l:List AV) (t:TR) (ds:List Nm) (kvs:List (Value × Value)):Prop where
 box:BoxN w b 136 #[.pointer (some ⟨pb,0,none⟩),.slice A l.length c,.slice none 0 0,.pointer (some ⟨pl,0,none⟩),.pointer (some ⟨bt,0,none⟩)]
 own:Own w 91 6 A l.length c (l.flatMap AV.cs)
 tree:TreeM w bt ds kvs F
 nb:b ∉ blk A
 nF:b ∉ F
 dj:∀ k∈blk A,k ∉ F
 st:StAt w pl t
 dst:∀ k∈stB pl t,k ∉ b::(blk A++F)
 kept:Kept (b::(blk A++F)) w fun W=>StAt W pb .nil∧∀ x∈l,x.ok W
def HistAt (w:World) (b:Nat) (l:List AV) (t:TR) (ds:List Nm) (kvs:List (Value × Value)) (M:List Nat):Prop:=∃ pb pl bt A c F,HistIs w b pb pl bt A c F l t ds kvs∧M=b::(blk A++F)
theorem none_any (b p:Nat) (w:World) (h:w.cell? ⟨b,0,none⟩=some (.pointer (some ⟨p,0,none⟩))):Calls Tryz.prog 59 #[.pointer (some ⟨b,0,none⟩)] w fun e w'=>e=.returned (.bool false)∧w=w':=by
 go_enter Tryz.func59,Tryz.ntmps59
 go_wp2_with fail
 go_ret
 exact⟨rfl,rfl⟩
theorem HistIs.step {w w4 w6 w5 X1 X2 X3 X5:World} {b pb pl p2 bt c c':Nat} {A A':Option Addr} {F F':List Nat} {l:List AV} {t t':TR} {ds ds':List Nm} {kvs kvs':List (Value × Value)} {y:AV}
 (h:HistIs w b pb pl bt A c F l t ds kvs) (f04:Fr [] w w4) (hst:StAt w4 p2 t') (hbl:∀ k∈stB p2 t',k∈stB pl t ∨ w.heap.size≤k)
 (f46:Fr [] w4 w6) (f65:Fr F w6 w5) (htm:TreeM w5 bt ds' kvs' F') (hF:∀ k∈F',k∈F ∨ w6.heap.size≤k)
 (f51:Fr [] w5 X1) (hy:y.ok X1) (hyb:∀ k∈y.bl,w5.heap.size≤k)
 (f12:Fr [] X1 X2) (f23:Fr (blk A) X2 X3) (hA:∀ k∈blk A',k∈blk A ∨ X2.heap.size≤k) (ho:Own X3 91 6 A' (l.length+1) c' (l.flatMap AV.cs++y.cs))
 (f35:Fr [b] X3 X5) (hbox:BoxN X5 b 136 #[.pointer (some ⟨pb,0,none⟩),.slice A' (l.length+1) c',.slice none 0 0,.pointer (some ⟨p2,0,none⟩),.pointer (some ⟨bt,0,none⟩)]) :
 HistIs X5 b pb p2 bt A' c' F' (l++[y]) t' ds' kvs'∧Fr (b::(blk A++F)) w X5∧∀ k∈b::(blk A'++F'),k∈b::(blk A++F) ∨ w.heap.size≤k:=by
 have z04:=f04.size
 have z46:=f46.size
 have z65:=f65.size
 have z51:=f51.size
 have z12:=f12.size
 have hb:=h.box.lt
 have hFl:=h.tree.lt
 have hAl:=h.own.lt
 have hFl':=htm.lt
 have hsl:=hst.lt
 have hyl:=hy.lt
 have g46:Fr (b::(blk A++F)) w4 w5:=(f46.mono (by simp)).trans f65 (by intro k hk;exact .inl (by simp[hk]))
 have g15:Fr (b::(blk A++F)) X1 X5:=((f12.mono (by simp)).trans f23 (by intro k hk;exact .inl (by simp[hk]))).trans f35 (by simp)
 have g4:Fr (b::(blk A++F)) w4 X5:=(g46.trans f51 (by simp)).then g15
 have g0:Fr (b::(blk A++F)) w X5:=(f04.mono (by simp)).then g4
 have hbF:b ∉ F':=fun hm=>by
  rcases hF b hm with h1 | h1
  ·exact h.nF h1
  ·omega
 have hdjA:∀ k∈F',k ∉ blk A:=fun k hk hm=>by
  rcases hF k hk with h1 | h1
  ·exact h.dj k hm h1
  ·have:=hAl k hm;omega
 have hbA:b ∉ blk A':=fun hm=>by
  rcases hA b hm with h1 | h1
  ·exact h.nb h1
  ·omega
 have hM:∀ k∈b::(blk A'++F'),k∈b::(blk A++F) ∨ w6.heap.size≤k:=fun k hk=>by
  rcases List.mem_cons.1 hk with rfl | hk
  ·exact .inl (by simp)
  ·rcases List.mem_append.1 hk with hk | hk
   ·rcases hA k hk with h1 | h1
    ·exact .inl (by simp[h1])
    ·exact .inr (by omega)
   ·rcases hF k hk with h1 | h1
    ·exact .inl (by simp[h1])
    ·exact .inr h1
 have hMl:∀ k∈b::(blk A++F),k<w.heap.size:=fun k hk=>by
  rcases List.mem_cons.1 hk with rfl | hk
  ·exact hb
  ·rcases List.mem_append.1 hk with hk | hk
   ·exact hAl k hk
   ·exact hFl k hk
 have hdst:∀ k∈stB p2 t',k ∉ b::(blk A++F):=fun k hk hm=>by
  rcases hbl k hk with h1 | h1
  ·exact h.dst k h1 hm
  ·have:=hMl k hm;omega
 have hM2:∀ k∈b::(blk A'++F'),k∈b::(blk A++F) ∨ w.heap.size≤k:=fun k hk=>(hM k hk).imp id (by omega)
 refine⟨⟨?_,?_,?_,hbA,hbF,?_,hst.fr g4 hdst,?_,?_⟩,g0,hM2⟩
 ·rw[List.length_append]
  exact hbox
 ·rw[List.length_append,List.flatMap_append]
  have:=ho.fr f35 (by intro k hk;simp only[List.mem_singleton];rintro rfl;exact hbA hk)
  simpa using this
 ·exact (((htm.fr f51 (by simp)).fr f12 (by simp)).fr f23 hdjA).fr f35 (by intro k hk;simp only[List.mem_singleton];rintro rfl;exact hbF hk)
 ·intro k hk hm
  rcases hA k hk with h1 | h1
  ·exact hdjA k hm h1
  ·have:=hFl' k hm;omega
 ·intro k hk hm
  rcases hM k hm with h1 | h1
  ·exact hdst k hk h1
  ·have:=hsl k hk;omega
 ·have k1:=h.kept.step g0 hM2
  have k2:Kept (b::(blk A'++F')) X5 fun W=>y.ok W:=fun W hW=>by
   have hF2:Fr ((b::(blk A++F))++(b::(blk A'++F'))) X1 W:=(g15.mono (fun k hk=>.inl (List.mem_append_left _ hk))).trans hW (fun k hk=>.inl (List.mem_append_right _ hk))
   refine hy.fr hF2 (fun k hk hm=>?_)
   have h1:=hyb k hk
   have h2:=hyl k hk
   rcases List.mem_append.1 hm with hm | hm
   ·have:=hMl k hm;omega
   ·rcases List.mem_cons.1 hm with rfl | hm
    ·omega
    ·rcases List.mem_append.1 hm with hm | hm
     ·rcases hA k hm with h3 | h3
      ·have:=hAl k h3;omega
      ·omega
     ·have:=hFl' k hm;omega
  exact (k1.and k2).imp fun W hW=>⟨hW.1.1,fun z hz=>by
   rcases List.mem_append.1 hz with hz | hz
   ·exact hW.1.2 z hz
   ·rw[List.mem_singleton.1 hz];exact hW.2⟩
theorem info_act:∃ i,(Tryz.prog).info? 91=some i∧i.zero=some (.agg actZ)∧i.size=6∧i.bytes=88:=info_parts (by kernel_rfl)
theorem HAppend_0 (b:Nat) (t:TR) (ds ds':List Nm) (kvs kvs':List (Value × Value)) (M:List Nat) (x:AV) (Q:TR→Prop) (w:World) (h:HistAt w b ([]:List AV) t ds kvs M) (hok:Ok w) (hlo:∀ k∈M,6≤k)
 (hx:Kept M w fun W=>x.ok W) (hg:x.a.good)  (hE:(encA x.a).length≤1000000)
 (hAp:∀ W p,StAt W p t→Ok W→x.ok W→Calls Tryz.prog 153 #[.pointer (some ⟨p,0,none⟩),x.a.w.sl x.B x.d] W (ApPost (stB p t) Q W))
 (hTr:∀ W bt F,TreeM W bt ds kvs F→Ok W→(∀ k∈F,6≤k)→Calls Tryz.prog 89 #[.pointer (some ⟨bt,0,none⟩),encD (leafN (1::encA x.a))] W fun e w'=>e=.returned (.int .i64 0)∧∃ F',TreeM w' bt ds' kvs' F'∧Fr F W w'∧∀ k∈F',k∈F ∨ W.heap.size≤k) :
 Calls Tryz.prog 34 #[.pointer (some ⟨b,0,none⟩),x.v] w fun e w'=>e=.returned (.int .i64 0)∧∃ M' y t',y.a=x.a∧Q t'∧HistAt w' b (([]:List AV)++[y]) t' ds' kvs' M'∧Fr M w w'∧∀ k∈M',k∈M ∨ w.heap.size≤k:=by
 obtain⟨pb,pl,bt,A,c,F,h,rfl⟩:=h
 skip
 obtain⟨w1,hw1,hR1,hf1⟩:=bxn w (x.cs.toArray) 91
 have hbl:=h.box.lt
 have hCell:∀ W,Fr [] w1 W→(W.cell? ⟨b,0,none⟩=some (.pointer (some ⟨pb,0,none⟩))∧W.cell? ⟨b,1,none⟩=some (.slice A 0 c)∧W.cell? ⟨b,3,none⟩=some (.pointer (some ⟨pl,0,none⟩))∧W.cell? ⟨b,4,none⟩=some (.pointer (some ⟨bt,0,none⟩))) ∧
  W.cell? ⟨w.heap.size,0,none⟩=some (.int .i64 x.a.t)∧W.cell? ⟨w.heap.size,1,none⟩=some (.int .i64 0)∧W.cell? ⟨w.heap.size,2,none⟩=some (.int .i64 x.a.t)∧W.cell? ⟨w.heap.size,3,none⟩=some (.string ⟨#[]⟩)∧W.cell? ⟨w.heap.size,4,none⟩=some (.slice x.A x.a.r.len x.c)∧W.cell? ⟨w.heap.size,5,none⟩=some (.slice x.B x.a.w.len x.d):=fun W hW=>by
  have h1:=h.box.fr (hf1.then hW) (by simp)
  have h2:=hR1.fr hW (by simp)
  exact⟨⟨h1.c 0,h1.c 1,h1.c 3,h1.c 4⟩,h2.c 0,h2.c 1,h2.c 2,h2.c 3,h2.c 4,h2.c 5⟩
 have hEnc:∀ W,Fr [] w1 W→Calls Tryz.prog 60 #[x.v] W (RetPost W (.tuple #[encN (encA x.a),.int .i64 0])):=fun W hW=>EncodeA_any x.a x.A x.B x.c x.d W (hok.fr0 (hf1.then hW)) ((hx.fr0 (hf1.then hW)).now.r) ((hx.fr0 (hf1.then hW)).now.w) hg
 have hApp:∀ W,Fr [] w1 W→Calls Tryz.prog 92 #[x.v,.pointer (some ⟨pl,0,none⟩)] W (ApPost (stB pl t) Q W):=fun W hW=>ApplyA_any _ Q x pl W fun W2 hW2=>hAp W2 pl (((h.st.fr0 hf1).fr0 hW).fr0 hW2) (hok.fr0 ((hf1.then hW).then hW2)) (hx.fr0 ((hf1.then hW).then hW2)).now
 have hLf:∀ W,Fr [] w1 W→Calls Tryz.prog 93 #[encN (encA x.a)] W (SumPost W (leafN (1::encA x.a))):=fun W hW=>leafH_any (encA x.a) W (hok.fr0 (hf1.then hW)) (by omega)
 have hNn:∀ W,Fr [] w1 W→Calls Tryz.prog 59 #[.pointer (some ⟨b,0,none⟩)] W fun e w'=>e=.returned (.bool false)∧W=w':=fun W hW=>none_any b pb W (hCell W hW).1.1
 obtain⟨d,hd⟩:=nmd (leafN (1::encA x.a))
 obtain⟨tx,htx⟩:=nmd (encN (encA x.a))
 rw[hd] at hLf
 rw[htx] at hEnc hLf
 rw[hd] at hTr
 have HX:=Hd hx
 have HH:=Hd h
 have HSS:=Hd hCell
 have HE:=Hd hEnc
 have HA:=Hd hApp
 have HL:=Hd hLf
 have HN:=Hd hNn
 have hTree:∀ W,Fr [] w1 W→Calls Tryz.prog 89 #[.pointer (some ⟨bt,0,none⟩),encD d] W fun e w'=>e=.returned (.int .i64 0)∧∃ F',TreeM w' bt ds' kvs' F'∧Fr F W w'∧∀ k∈F',k∈F ∨ W.heap.size≤k:=fun W hW=>hTr W bt F (h.tree.fr (hf1.then hW) (by simp)) (hok.fr0 (hf1.then hW)) (fun k hk=>hlo k (by simp[hk]))
 have HT:=Hd hTree
 have HW1:=Hd hw1
 have HF1:=Hd hf1
 have HR1:=Hd hR1
 have HOK:=Hd hok
 have HLO:=Hd hlo
 unfold AV.v at HE HA
 unfold AV.v
 unfold AV.cs CL.sl at HW1 HE HA ⊢
 clear hx h hCell hEnc hApp hLf hNn hTr hTree hw1 hf1 hR1 hAp hd htx hok hlo
 go_enter Tryz.func34,Tryz.ntmps34
 go_upto_region 1 with fail
 rw[HW1.out]
 obtain⟨⟨x0,x1,x3,x4⟩,y0,y1,y2,y3,y4,y5⟩:=HSS.out w1 (Fr.refl [] w1)
 go_upto_region 9 with (first
  | (go_at_call 59;(with_reducible refine (HN.out _ (Fr.refl [] w1)).mono ?_);rintro e w' ⟨rfl,rfl⟩)
  | (go_at_call 60;(with_reducible refine (HE.out _ (Fr.refl [] w1)).mono ?_);rintro e w2 ⟨rfl,hf2⟩;clear x0 x1 x3 x4 y0 y1 y2 y3 y4 y5;obtain⟨⟨x0,x1,x3,x4⟩,y0,y1,y2,y3,y4,y5⟩:=HSS.out w2 hf2))
 clear x0 x1 x3 x4 y0 y1 y2 y3 y4 y5
 refine wp_region_qall (fun W=>Fr [] w1 W) (by kernel_rfl) (by kernel_rfl) (hf2.drew) ?_
 repeat (
  first
  | go_big_quiet_skip
  | (go_big_quiet_want
     first
     | (go_big_quiet_op
        go_big_quiet_on)
     | (apply Exists.intro
        refine⟨fun W hW=>?_,?_⟩
        ·(obtain⟨⟨x0,x1,x3,x4⟩,y0,y1,y2,y3,y4,y5⟩:=HSS.out W hW
          go_simp
          first
          | done
          | (with_reducible exact rfl)
          | (with_reducible exact⟨rfl,rfl⟩)
          | (fail))
        simp only[Act.put,qA,qB,qC]
        go_big_quiet_on))
  )
 refine wpQuiet_nil ?_
 intro W3 hW3
 go_upto_region 11 with fail
 have hC:Fr [] w1 W3.drew:=hW3.drew
 refine wp_region_head (fun W:World=>Fr [] w1 W) 10 (by kernel_rfl) ?_ (by decide)
 show headJ 0 _ _ _ _ _ _ _ _ _ _ _
 iterate 5
  refine hdJ (v:=?_) rfl (Or.inl ⟨by rfl,?_⟩) ?_
  rotate_left
  ·intro W hW;obtain⟨⟨x0,x1,x3,x4⟩,y0,y1,y2,y3,y4,y5⟩:=HSS.out W hW;go_simp;try with_reducible rfl
  try simp only[Act.put,qA,qB,qC,qD,qE,qF]
 refine headI_only (i:=5) (by kernel_rfl) (by decide) rfl (fun K hK=>?_)
 rw[if_pos (by rfl)]
 go_simp
 go_at_call 92
 (with_reducible refine (HA.out _ hC).mono ?_)
 rintro e w4 ⟨p2,t',rfl,hst4,hf4,hq4,hbl4⟩
 have hC4:=hC.then hf4
 have hz4:W3.heap.size≤w4.heap.size:=hf4.size
 have hz3:=hW3.size
 refine hK _ _ hC4 ?_
 clear hK K hC hf4
 try simp only[Act.put,qA,qB,qC,qD,qE,qF]
 show headJ 6 _ _ _ _ _ _ _ _ _ _ _
 iterate 4
  refine hdJ (v:=?_) rfl (Or.inl ⟨by rfl,?_⟩) ?_
  rotate_left
  ·intro W hW;obtain⟨⟨x0,x1,x3,x4⟩,y0,y1,y2,y3,y4,y5⟩:=HSS.out W hW;go_simp;try with_reducible rfl
  try simp only[Act.put,qA,qB,qC,qD,qE,qF]
 refine headI_done ⟨by kernel_rfl,?_⟩
 simp only[List.drop_succ_cons,List.drop_zero]
 have HST4:=Hd (And.intro hst4 (And.intro hq4 hbl4))
 clear hst4 hq4 hbl4
 go_upto_region 14 with fail
 have hC:Fr [] w1 w4.drew:=hC4.drew
 refine wp_region_head (fun W:World=>Fr [] w1 W) 6 (by kernel_rfl) ?_ (by decide)
 show headJ 0 _ _ _ _ _ _ _ _ _ _ _
 iterate 5
  refine hdJ (v:=?_) rfl (Or.inl ⟨by rfl,?_⟩) ?_
  rotate_left
  ·intro W hW;obtain⟨⟨x0,x1,x3,x4⟩,y0,y1,y2,y3,y4,y5⟩:=HSS.out W hW;go_simp;try with_reducible rfl
  try simp only[Act.put,qA,qB,qC,qD,qE,qF]
 refine headI_only (i:=5) (by kernel_rfl) (by decide) rfl (fun K hK=>?_)
 rw[if_pos (by rfl)]
 go_simp
 go_at_call 93
 (with_reducible refine (HL.out _ hC).mono ?_)
 rintro e w6 ⟨rfl,hf6⟩
 have hz6:w4.heap.size≤w6.heap.size:=hf6.size
 have hC6:=hC.then hf6
 have hC46:Fr [] w4 w6:=hf6.undrew
 refine hK _ _ hC6 ?_
 clear hK K hC hf6
 try simp only[Act.put,qA,qB,qC,qD,qE,qF]
 refine headI_done ⟨by kernel_rfl,?_⟩
 simp only[List.drop_succ_cons,List.drop_zero]
 go_upto_region 17 with ((go_at_call 89;(with_reducible refine (HT.out _ hC6).mono ?_);rintro e w5 ⟨rfl,F',htm,hf5,hF5⟩;have HTM:=Hd (And.intro htm hF5);have HF5:=Hd hf5;clear htm hF5 hf5))
 have hFlt:=HH.out.tree.lt
 have hAlt:=HH.out.own.lt
 have hbw:=HH.out.box.lt
 have hRF:w.heap.size ∉ F:=fun hm=>by have:=hFlt _ hm;omega
 have hRA:w.heap.size ∉ blk A:=fun hm=>by have:=hAlt _ hm;omega
 have hf06:=HF1.out.then hC6
 have hB5:=(HH.out.box.fr hf06 (by simp)).fr HF5.out HH.out.nF
 have hO5:=(HH.out.own.fr hf06 (by simp)).fr HF5.out HH.out.dj
 have hR5:=(HR1.out.fr hC6 (by simp)).fr HF5.out hRF
 have hF05:Fr (b::(blk A++F)) w w5:=(hf06.mono (by simp)).trans HF5.out (by intro k hk;exact .inl (by simp[hk]))
 have hCell:∀ W,Fr [] w5 W→W.cell? ⟨b,1,none⟩=some (.slice A 0 c)∧W.cell? ⟨w.heap.size,0,none⟩=some (.int .i64 x.a.t)∧W.cell? ⟨w.heap.size,1,none⟩=some (.int .i64 0)∧W.cell? ⟨w.heap.size,2,none⟩=some (.int .i64 x.a.t)∧W.cell? ⟨w.heap.size,3,none⟩=some (.string ⟨#[]⟩)∧W.cell? ⟨w.heap.size,4,none⟩=some (.slice x.A x.a.r.len x.c)∧W.cell? ⟨w.heap.size,5,none⟩=some (.slice x.B x.a.w.len x.d):=fun W hW=>by
  have h1:=hB5.fr hW (by simp)
  have h2:=hR5.fr hW (by simp)
  exact⟨h1.c 1,h2.c 0,h2.c 1,h2.c 2,h2.c 3,h2.c 4,h2.c 5⟩
 have hCp:∀ W,Fr [] w5 W→Calls Tryz.prog 94 #[x.v] W fun e w'=>∃ y:AV,e=.returned y.v∧y.a=x.a∧y.ok w'∧Fr [] W w'∧∀ k∈y.bl,W.heap.size≤k:=fun W hW=>copiedH_av x W (HX.out W (hF05.trans hW (by simp)))
 have HCP:=Hd hCp
 unfold AV.v AV.cs CL.sl at HCP
 clear HSS
 have HSS:=Hd (fun (W:World) (hW:W.cell? ⟨b,1,none⟩=some (.slice A 0 c)∧W.cell? ⟨w.heap.size,0,none⟩=some (.int .i64 x.a.t)∧W.cell? ⟨w.heap.size,1,none⟩=some (.int .i64 0)∧W.cell? ⟨w.heap.size,2,none⟩=some (.int .i64 x.a.t)∧W.cell? ⟨w.heap.size,3,none⟩=some (.string ⟨#[]⟩)∧W.cell? ⟨w.heap.size,4,none⟩=some (.slice x.A x.a.r.len x.c)∧W.cell? ⟨w.heap.size,5,none⟩=some (.slice x.B x.a.w.len x.d))=>hW)
 have hC:=hCell _ (Fr.refl [] w5).drew
 have HCELL:=Hd hCell
 have HB5:=Hd hB5
 have HO5:=Hd hO5
 have HR5:=Hd hR5
 have HF05:=Hd hF05
 clear hCell hCp hB5 hO5 hR5 hF05 hf06 HR1 HX
 refine wp_region_head (fun W:World=>W.cell? ⟨b,1,none⟩=some (.slice A 0 c)∧W.cell? ⟨w.heap.size,0,none⟩=some (.int .i64 x.a.t)∧W.cell? ⟨w.heap.size,1,none⟩=some (.int .i64 0)∧W.cell? ⟨w.heap.size,2,none⟩=some (.int .i64 x.a.t)∧W.cell? ⟨w.heap.size,3,none⟩=some (.string ⟨#[]⟩)∧W.cell? ⟨w.heap.size,4,none⟩=some (.slice x.A x.a.r.len x.c)∧W.cell? ⟨w.heap.size,5,none⟩=some (.slice x.B x.a.w.len x.d)) 11 (by kernel_rfl) ?_ (by decide)
 show headJ 0 _ _ _ _ _ _ _ _ _ _ _
 iterate 6
  refine hdJ (v:=?_) rfl (Or.inl ⟨by rfl,?_⟩) ?_
  rotate_left
  ·intro W hW;obtain⟨x1,y0,y1,y2,y3,y4,y5⟩:=HSS.out W hW;go_simp;try with_reducible rfl
  try simp only[Act.put,qA,qB,qC,qD,qE,qF]
 refine headI_only (i:=6) (by kernel_rfl) (by decide) rfl (fun K hK=>?_)
 rw[if_pos (by rfl)]
 go_simp
 go_at_call 94
 (with_reducible refine (HCP.out _ (Fr.refl [] w5).drew).mono ?_)
 rintro e X1 ⟨⟨ya,yA,yc,yB,yd⟩,rfl,hya,hyk,hfy,hyb⟩
 dsimp only at hya
 subst hya
 have hX1:=hfy.undrew
 refine hK _ _ (HCELL.out _ hX1) ?_
 clear hK K hC hfy
 have hC:=HCELL.out _ hX1
 try simp only[Act.put,qA,qB,qC,qD,qE,qF]
 try dsimp only
 refine headI_only (i:=7) (by kernel_rfl) (by decide) rfl (fun K hK=>?_)
 rw[if_pos (by rfl)]
 go_simp
 obtain⟨X2,hX2,n2,f2⟩:=bxn X1 #[.int .i64 x.a.t,.int .i64 0,.int .i64 x.a.t,.string ⟨#[]⟩,.slice yA x.a.r.len yc,.slice yB x.a.w.len yd] 91
 rw[hX2]
 have hX12:=hX1.then f2
 refine hK _ _ (HCELL.out _ hX12) ?_
 clear hK K hC hX2
 try simp only[Act.put,qA,qB,qC,qD,qE,qF]
 refine headI_only (i:=8) (by kernel_rfl) (by decide) rfl (fun K hK=>?_)
 rw[if_pos (by rfl)]
 obtain⟨ii,hii,iz0,iz1,iz2⟩:=info_act
 have hO2:Own X2 91 6 A 0 c ((([]:List AV)).flatMap AV.cs):=HO5.out.fr hX12 (by simp)
 refine wp_app (.tmp 74) (.tmp 77) 22 rfl 91 ii _ 6 88 Tryz.underlying22 hii iz0 iz1 iz2 rfl (by decide) A 0 c ((([]:List AV)).flatMap AV.cs) rfl hO2 ⟨X1.heap.size,0,none⟩ 1 1 (AV.mk x.a yA yc yB yd).cs rfl rfl (fun j u hu=>by rw[add_mid',n2.c j];simpa [AV.cs,CL.sl] using hu) (by intro u hu;simp only[AV.cs,CL.sl,List.mem_cons,List.not_mem_nil,or_false] at hu;rcases hu with rfl | rfl | rfl | rfl | rfl | rfl <;> rfl) (by unfold maxLen;omega) (by omega) ?_
 intro A' c' X3 ho3 hf3 hA3
 have hb3:=(HB5.out.fr hX12 (by simp)).fr hf3 HH.out.nb
 have hr3:=(HR5.out.fr hX12 (by simp)).fr hf3 hRA
 have hC:X3.cell? ⟨b,1,none⟩=some (.slice A 0 c)∧X3.cell? ⟨w.heap.size,0,none⟩=some (.int .i64 x.a.t)∧X3.cell? ⟨w.heap.size,1,none⟩=some (.int .i64 0)∧X3.cell? ⟨w.heap.size,2,none⟩=some (.int .i64 x.a.t)∧X3.cell? ⟨w.heap.size,3,none⟩=some (.string ⟨#[]⟩)∧X3.cell? ⟨w.heap.size,4,none⟩=some (.slice x.A x.a.r.len x.c)∧X3.cell? ⟨w.heap.size,5,none⟩=some (.slice x.B x.a.w.len x.d):=⟨hb3.c 1,hr3.c 0,hr3.c 1,hr3.c 2,hr3.c 3,hr3.c 4,hr3.c 5⟩
 rw[show (0+1:Nat)=1 from rfl] at ho3 ⊢
 refine hK _ _ hC ?_
 clear hK K
 try simp only[Act.put,qA,qB,qC,qD,qE,qF]
 show headJ 9 _ _ _ _ _ _ _ _ _ _ _
 iterate 2
  refine hdJ (v:=?_) rfl (Or.inl ⟨by rfl,?_⟩) ?_
  rotate_left
  ·intro W hW;obtain⟨x1,y0,y1,y2,y3,y4,y5⟩:=HSS.out W hW;go_simp;try with_reducible rfl
  try simp only[Act.put,qA,qB,qC,qD,qE,qF]
 refine headI_done ⟨by kernel_rfl,?_⟩
 simp only[List.drop_succ_cons,List.drop_zero]
 have HO3:=Hd ho3
 have HF3:=Hd hf3
 have HA3:=Hd hA3
 have HX12:=Hd (And.intro hX1 f2)
 have HYK:=Hd (And.intro hyk hyb)
 clear ho3 hf3 hA3 hX12 hX1 f2 n2 hyk hyb hr3 hO2 HR5 HB5 HO5 HCELL HCP hC HSS
 have e0:=hb3.k1
 have e1:=hb3.f 1
 go_upto_region 18 with fail
 obtain⟨X4,hX4⟩:=nmd (X3.setCell ⟨b,1,none⟩ (.slice A' 1 c'))
 have hb4:BoxN X4 b 136 #[.pointer (some ⟨pb,0,none⟩),.slice A' 1 c',.slice none 0 0,.pointer (some ⟨pl,0,none⟩),.pointer (some ⟨bt,0,none⟩)]:=by rw[←hX4];exact hb3.setAt 1 _
 have f4:Fr [b] X3 X4:=by rw[←hX4];exact (Fr.refl [b] X3).set (.inl (by simp)) _
 try rw[hX4]
 clear e0 e1 hX4 hb3
 have e0:=hb4.k3
 have e1:=hb4.f 3
 go_upto_region 19 with fail
 obtain⟨X5,hX5⟩:=nmd (X4.setCell ⟨b,3,none⟩ (.pointer (some ⟨p2,0,none⟩)))
 have hb5:BoxN X5 b 136 #[.pointer (some ⟨pb,0,none⟩),.slice A' 1 c',.slice none 0 0,.pointer (some ⟨p2,0,none⟩),.pointer (some ⟨bt,0,none⟩)]:=by rw[←hX5];exact hb4.setAt 3 _
 have f5:Fr [b] X3 X5:=by rw[←hX5];exact f4.set (.inl (by simp)) _
 try rw[hX5]
 clear e0 e1 hX5 hb4 f4
 have e0:=hb5.k1
 go_wp2_with fail
 go_ret
 have hfin:=HH.out.step (y:=⟨x.a,yA,yc,yB,yd⟩) (F':=F') (p2:=p2) (t':=t') (ds':=ds') (kvs':=kvs') (HF1.out.then hC4) HST4.out.1 (fun k hk=>(HST4.out.2.2 k hk).imp id (fun h=>by have:=HF1.out.size;simp only[World.drew] at h;omega)) hC46 HF5.out HTM.out.1 HTM.out.2 HX12.out.1 HYK.out.1 (fun k hk=>HYK.out.2 k hk) HX12.out.2 HF3.out HA3.out HO3.out f5 hb5
 exact⟨rfl,b::(blk A'++F'),⟨x.a,yA,yc,yB,yd⟩,t',rfl,HST4.out.2.1,⟨pb,p2,bt,A',c',F',hfin.1,rfl⟩,hfin.2⟩
theorem HAppend_1 (yl:AV)(b:Nat) (t:TR) (ds ds':List Nm) (kvs kvs':List (Value × Value)) (M:List Nat) (x:AV) (Q:TR→Prop) (w:World) (h:HistAt w b [yl] t ds kvs M) (hok:Ok w) (hlo:∀ k∈M,6≤k)
 (hx:Kept M w fun W=>x.ok W) (hg:x.a.good) (hcm:cmpK x.a.k yl.a.k=1) (hE:(encA x.a).length≤1000000)
 (hAp:∀ W p,StAt W p t→Ok W→x.ok W→Calls Tryz.prog 153 #[.pointer (some ⟨p,0,none⟩),x.a.w.sl x.B x.d] W (ApPost (stB p t) Q W))
 (hTr:∀ W bt F,TreeM W bt ds kvs F→Ok W→(∀ k∈F,6≤k)→Calls Tryz.prog 89 #[.pointer (some ⟨bt,0,none⟩),encD (leafN (1::encA x.a))] W fun e w'=>e=.returned (.int .i64 0)∧∃ F',TreeM w' bt ds' kvs' F'∧Fr F W w'∧∀ k∈F',k∈F ∨ W.heap.size≤k) :
 Calls Tryz.prog 34 #[.pointer (some ⟨b,0,none⟩),x.v] w fun e w'=>e=.returned (.int .i64 0)∧∃ M' y t',y.a=x.a∧Q t'∧HistAt w' b ([yl]++[y]) t' ds' kvs' M'∧Fr M w w'∧∀ k∈M',k∈M ∨ w.heap.size≤k:=by
 obtain⟨pb,pl,bt,A,c,F,h,rfl⟩:=h
 (obtain⟨g,rfl,hcs0⟩:=Cs.of_own h.own (by simp);have HCS:=Hd hcs0;clear hcs0)
 obtain⟨w1,hw1,hR1,hf1⟩:=bxn w (x.cs.toArray) 91
 have hbl:=h.box.lt
 have hCell:∀ W,Fr [] w1 W→(W.cell? ⟨b,0,none⟩=some (.pointer (some ⟨pb,0,none⟩))∧W.cell? ⟨b,1,none⟩=some (.slice (some (⟨g,0,none⟩:Addr)) 1 c)∧W.cell? ⟨b,3,none⟩=some (.pointer (some ⟨pl,0,none⟩))∧W.cell? ⟨b,4,none⟩=some (.pointer (some ⟨bt,0,none⟩))) ∧
  W.cell? ⟨w.heap.size,0,none⟩=some (.int .i64 x.a.t)∧W.cell? ⟨w.heap.size,1,none⟩=some (.int .i64 0)∧W.cell? ⟨w.heap.size,2,none⟩=some (.int .i64 x.a.t)∧W.cell? ⟨w.heap.size,3,none⟩=some (.string ⟨#[]⟩)∧W.cell? ⟨w.heap.size,4,none⟩=some (.slice x.A x.a.r.len x.c)∧W.cell? ⟨w.heap.size,5,none⟩=some (.slice x.B x.a.w.len x.d):=fun W hW=>by
  have h1:=h.box.fr (hf1.then hW) (by simp)
  have h2:=hR1.fr hW (by simp)
  exact⟨⟨h1.c 0,h1.c 1,h1.c 3,h1.c 4⟩,h2.c 0,h2.c 1,h2.c 2,h2.c 3,h2.c 4,h2.c 5⟩
 have hEnc:∀ W,Fr [] w1 W→Calls Tryz.prog 60 #[x.v] W (RetPost W (.tuple #[encN (encA x.a),.int .i64 0])):=fun W hW=>EncodeA_any x.a x.A x.B x.c x.d W (hok.fr0 (hf1.then hW)) ((hx.fr0 (hf1.then hW)).now.r) ((hx.fr0 (hf1.then hW)).now.w) hg
 have hApp:∀ W,Fr [] w1 W→Calls Tryz.prog 92 #[x.v,.pointer (some ⟨pl,0,none⟩)] W (ApPost (stB pl t) Q W):=fun W hW=>ApplyA_any _ Q x pl W fun W2 hW2=>hAp W2 pl (((h.st.fr0 hf1).fr0 hW).fr0 hW2) (hok.fr0 ((hf1.then hW).then hW2)) (hx.fr0 ((hf1.then hW).then hW2)).now
 have hLf:∀ W,Fr [] w1 W→Calls Tryz.prog 93 #[encN (encA x.a)] W (SumPost W (leafN (1::encA x.a))):=fun W hW=>leafH_any (encA x.a) W (hok.fr0 (hf1.then hW)) (by omega)
 have hNn:∀ W,Fr [] w1 W→Calls Tryz.prog 59 #[.pointer (some ⟨b,0,none⟩)] W fun e w'=>e=.returned (.bool false)∧W=w':=fun W hW=>none_any b pb W (hCell W hW).1.1
 obtain⟨d,hd⟩:=nmd (leafN (1::encA x.a))
 obtain⟨tx,htx⟩:=nmd (encN (encA x.a))
 rw[hd] at hLf
 rw[htx] at hEnc hLf
 rw[hd] at hTr
 have HX:=Hd hx
 have HH:=Hd h
 have HSS:=Hd hCell
 have HE:=Hd hEnc
 have HA:=Hd hApp
 have HL:=Hd hLf
 have HN:=Hd hNn
 have hTree:∀ W,Fr [] w1 W→Calls Tryz.prog 89 #[.pointer (some ⟨bt,0,none⟩),encD d] W fun e w'=>e=.returned (.int .i64 0)∧∃ F',TreeM w' bt ds' kvs' F'∧Fr F W w'∧∀ k∈F',k∈F ∨ W.heap.size≤k:=fun W hW=>hTr W bt F (h.tree.fr (hf1.then hW) (by simp)) (hok.fr0 (hf1.then hW)) (fun k hk=>hlo k (by simp[hk]))
 have HT:=Hd hTree
 have HW1:=Hd hw1
 have HF1:=Hd hf1
 have HR1:=Hd hR1
 have HOK:=Hd hok
 have HLO:=Hd hlo
 unfold AV.v at HE HA
 unfold AV.v
 unfold AV.cs CL.sl at HW1 HE HA ⊢
 clear hx h hCell hEnc hApp hLf hNn hTr hTree hw1 hf1 hR1 hAp hd htx hok hlo
 go_enter Tryz.func34,Tryz.ntmps34
 go_upto_region 1 with fail
 rw[HW1.out]
 obtain⟨⟨x0,x1,x3,x4⟩,y0,y1,y2,y3,y4,y5⟩:=HSS.out w1 (Fr.refl [] w1)
 go_upto_region 9 with (first
  | (go_at_call 59;(with_reducible refine (HN.out _ (Fr.refl [] w1)).mono ?_);rintro e w' ⟨rfl,rfl⟩)
  | (go_at_call 60;(with_reducible refine (HE.out _ (Fr.refl [] w1)).mono ?_);rintro e w2 ⟨rfl,hf2⟩;clear x0 x1 x3 x4 y0 y1 y2 y3 y4 y5;obtain⟨⟨x0,x1,x3,x4⟩,y0,y1,y2,y3,y4,y5⟩:=HSS.out w2 hf2))
 clear x0 x1 x3 x4 y0 y1 y2 y3 y4 y5
 have hCK:∀ W,Calls Tryz.prog 91 #[.agg #[.int .i64 x.a.t,.int .i64 0,.int .i64 x.a.t,.string ⟨#[]⟩],.agg #[.int .i64 yl.a.t,.int .i64 0,.int .i64 yl.a.t,.string ⟨#[]⟩]] W (CmpOPost W 1):=fun W=>by
  have h:=CompareK_any x.a.k yl.a.k W (show validB []=true by decide) (show validB []=true by decide) (by simp[AC.k]) (by simp[AC.k])
  rw[hcm] at h
  exact h
 have HCK:=Hd hCK
 clear hCK
 have hwr:IntKind.i64.wrap 0=0:=by decide
 have HSK:=HSS
 clear HSS
 have HSS:=Hd (fun (W:World) (hW:Fr [] w1 W)=>And.intro (HSK.out W hW) (show W.cell? ⟨g,0,none⟩=some (.int .i64 yl.a.t)∧W.cell? ⟨g,1,none⟩=some (.int .i64 0)∧W.cell? ⟨g,2,none⟩=some (.int .i64 yl.a.t)∧W.cell? ⟨g,3,none⟩=some (.string ⟨#[]⟩) from by
  have h:=HCS.out.fr0 (HF1.out.then hW)
  exact⟨h.2 0 _ rfl,h.2 1 _ rfl,h.2 2 _ rfl,h.2 3 _ rfl⟩))
 refine wp_region_qall (fun W=>Fr [] w1 W) (by kernel_rfl) (by kernel_rfl) (hf2.drew) ?_
 repeat (
  first
  | go_big_quiet_skip
  | (go_big_quiet_want
     first
     | (go_big_quiet_op
        go_big_quiet_on)
     | (apply Exists.intro
        refine⟨fun W hW=>?_,?_⟩
        ·(obtain⟨⟨⟨x0,x1,x3,x4⟩,y0,y1,y2,y3,y4,y5⟩,z0,z1,z2,z3⟩:=HSS.out W hW
          go_simp
          first
          | done
          | (with_reducible exact rfl)
          | (with_reducible exact⟨rfl,rfl⟩)
          | ((go_at_call 91;(with_reducible refine (HCK.out W).mono ?_);rintro e w' ⟨rfl,h⟩;exact⟨rfl,hW.then h⟩)))
        simp only[Act.put,qA,qB,qC]
        go_big_quiet_on))
  )
 clear HSS hwr
 have HSS:=HSK
 clear HSK
 refine wpQuiet_nil ?_
 intro W3 hW3
 go_upto_region 11 with fail
 have hC:Fr [] w1 W3.drew:=hW3.drew
 refine wp_region_head (fun W:World=>Fr [] w1 W) 10 (by kernel_rfl) ?_ (by decide)
 show headJ 0 _ _ _ _ _ _ _ _ _ _ _
 iterate 5
  refine hdJ (v:=?_) rfl (Or.inl ⟨by rfl,?_⟩) ?_
  rotate_left
  ·intro W hW;obtain⟨⟨x0,x1,x3,x4⟩,y0,y1,y2,y3,y4,y5⟩:=HSS.out W hW;go_simp;try with_reducible rfl
  try simp only[Act.put,qA,qB,qC,qD,qE,qF]
 refine headI_only (i:=5) (by kernel_rfl) (by decide) rfl (fun K hK=>?_)
 rw[if_pos (by rfl)]
 go_simp
 go_at_call 92
 (with_reducible refine (HA.out _ hC).mono ?_)
 rintro e w4 ⟨p2,t',rfl,hst4,hf4,hq4,hbl4⟩
 have hC4:=hC.then hf4
 have hz4:W3.heap.size≤w4.heap.size:=hf4.size
 have hz3:=hW3.size
 refine hK _ _ hC4 ?_
 clear hK K hC hf4
 try simp only[Act.put,qA,qB,qC,qD,qE,qF]
 show headJ 6 _ _ _ _ _ _ _ _ _ _ _
 iterate 4
  refine hdJ (v:=?_) rfl (Or.inl ⟨by rfl,?_⟩) ?_
  rotate_left
  ·intro W hW;obtain⟨⟨x0,x1,x3,x4⟩,y0,y1,y2,y3,y4,y5⟩:=HSS.out W hW;go_simp;try with_reducible rfl
  try simp only[Act.put,qA,qB,qC,qD,qE,qF]
 refine headI_done ⟨by kernel_rfl,?_⟩
 simp only[List.drop_succ_cons,List.drop_zero]
 have HST4:=Hd (And.intro hst4 (And.intro hq4 hbl4))
 clear hst4 hq4 hbl4
 go_upto_region 14 with fail
 have hC:Fr [] w1 w4.drew:=hC4.drew
 refine wp_region_head (fun W:World=>Fr [] w1 W) 6 (by kernel_rfl) ?_ (by decide)
 show headJ 0 _ _ _ _ _ _ _ _ _ _ _
 iterate 5
  refine hdJ (v:=?_) rfl (Or.inl ⟨by rfl,?_⟩) ?_
  rotate_left
  ·intro W hW;obtain⟨⟨x0,x1,x3,x4⟩,y0,y1,y2,y3,y4,y5⟩:=HSS.out W hW;go_simp;try with_reducible rfl
  try simp only[Act.put,qA,qB,qC,qD,qE,qF]
 refine headI_only (i:=5) (by kernel_rfl) (by decide) rfl (fun K hK=>?_)
 rw[if_pos (by rfl)]
 go_simp
 go_at_call 93
 (with_reducible refine (HL.out _ hC).mono ?_)
 rintro e w6 ⟨rfl,hf6⟩
 have hz6:w4.heap.size≤w6.heap.size:=hf6.size
 have hC6:=hC.then hf6
 have hC46:Fr [] w4 w6:=hf6.undrew
 refine hK _ _ hC6 ?_
 clear hK K hC hf6
 try simp only[Act.put,qA,qB,qC,qD,qE,qF]
 refine headI_done ⟨by kernel_rfl,?_⟩
 simp only[List.drop_succ_cons,List.drop_zero]
 go_upto_region 17 with ((go_at_call 89;(with_reducible refine (HT.out _ hC6).mono ?_);rintro e w5 ⟨rfl,F',htm,hf5,hF5⟩;have HTM:=Hd (And.intro htm hF5);have HF5:=Hd hf5;clear htm hF5 hf5))
 have hFlt:=HH.out.tree.lt
 have hAlt:=HH.out.own.lt
 have hbw:=HH.out.box.lt
 have hRF:w.heap.size ∉ F:=fun hm=>by have:=hFlt _ hm;omega
 have hRA:w.heap.size ∉ blk (some (⟨g,0,none⟩:Addr)):=fun hm=>by have:=hAlt _ hm;omega
 have hf06:=HF1.out.then hC6
 have hB5:=(HH.out.box.fr hf06 (by simp)).fr HF5.out HH.out.nF
 have hO5:=(HH.out.own.fr hf06 (by simp)).fr HF5.out HH.out.dj
 have hR5:=(HR1.out.fr hC6 (by simp)).fr HF5.out hRF
 have hF05:Fr (b::(blk (some (⟨g,0,none⟩:Addr))++F)) w w5:=(hf06.mono (by simp)).trans HF5.out (by intro k hk;exact .inl (by simp[hk]))
 have hCell:∀ W,Fr [] w5 W→W.cell? ⟨b,1,none⟩=some (.slice (some (⟨g,0,none⟩:Addr)) 1 c)∧W.cell? ⟨w.heap.size,0,none⟩=some (.int .i64 x.a.t)∧W.cell? ⟨w.heap.size,1,none⟩=some (.int .i64 0)∧W.cell? ⟨w.heap.size,2,none⟩=some (.int .i64 x.a.t)∧W.cell? ⟨w.heap.size,3,none⟩=some (.string ⟨#[]⟩)∧W.cell? ⟨w.heap.size,4,none⟩=some (.slice x.A x.a.r.len x.c)∧W.cell? ⟨w.heap.size,5,none⟩=some (.slice x.B x.a.w.len x.d):=fun W hW=>by
  have h1:=hB5.fr hW (by simp)
  have h2:=hR5.fr hW (by simp)
  exact⟨h1.c 1,h2.c 0,h2.c 1,h2.c 2,h2.c 3,h2.c 4,h2.c 5⟩
 have hCp:∀ W,Fr [] w5 W→Calls Tryz.prog 94 #[x.v] W fun e w'=>∃ y:AV,e=.returned y.v∧y.a=x.a∧y.ok w'∧Fr [] W w'∧∀ k∈y.bl,W.heap.size≤k:=fun W hW=>copiedH_av x W (HX.out W (hF05.trans hW (by simp)))
 have HCP:=Hd hCp
 unfold AV.v AV.cs CL.sl at HCP
 clear HSS
 have HSS:=Hd (fun (W:World) (hW:W.cell? ⟨b,1,none⟩=some (.slice (some (⟨g,0,none⟩:Addr)) 1 c)∧W.cell? ⟨w.heap.size,0,none⟩=some (.int .i64 x.a.t)∧W.cell? ⟨w.heap.size,1,none⟩=some (.int .i64 0)∧W.cell? ⟨w.heap.size,2,none⟩=some (.int .i64 x.a.t)∧W.cell? ⟨w.heap.size,3,none⟩=some (.string ⟨#[]⟩)∧W.cell? ⟨w.heap.size,4,none⟩=some (.slice x.A x.a.r.len x.c)∧W.cell? ⟨w.heap.size,5,none⟩=some (.slice x.B x.a.w.len x.d))=>hW)
 have hC:=hCell _ (Fr.refl [] w5).drew
 have HCELL:=Hd hCell
 have HB5:=Hd hB5
 have HO5:=Hd hO5
 have HR5:=Hd hR5
 have HF05:=Hd hF05
 clear hCell hCp hB5 hO5 hR5 hF05 hf06 HR1 HX
 refine wp_region_head (fun W:World=>W.cell? ⟨b,1,none⟩=some (.slice (some (⟨g,0,none⟩:Addr)) 1 c)∧W.cell? ⟨w.heap.size,0,none⟩=some (.int .i64 x.a.t)∧W.cell? ⟨w.heap.size,1,none⟩=some (.int .i64 0)∧W.cell? ⟨w.heap.size,2,none⟩=some (.int .i64 x.a.t)∧W.cell? ⟨w.heap.size,3,none⟩=some (.string ⟨#[]⟩)∧W.cell? ⟨w.heap.size,4,none⟩=some (.slice x.A x.a.r.len x.c)∧W.cell? ⟨w.heap.size,5,none⟩=some (.slice x.B x.a.w.len x.d)) 11 (by kernel_rfl) ?_ (by decide)
 show headJ 0 _ _ _ _ _ _ _ _ _ _ _
 iterate 6
  refine hdJ (v:=?_) rfl (Or.inl ⟨by rfl,?_⟩) ?_
  rotate_left
  ·intro W hW;obtain⟨x1,y0,y1,y2,y3,y4,y5⟩:=HSS.out W hW;go_simp;try with_reducible rfl
  try simp only[Act.put,qA,qB,qC,qD,qE,qF]
 refine headI_only (i:=6) (by kernel_rfl) (by decide) rfl (fun K hK=>?_)
 rw[if_pos (by rfl)]
 go_simp
 go_at_call 94
 (with_reducible refine (HCP.out _ (Fr.refl [] w5).drew).mono ?_)
 rintro e X1 ⟨⟨ya,yA,yc,yB,yd⟩,rfl,hya,hyk,hfy,hyb⟩
 dsimp only at hya
 subst hya
 have hX1:=hfy.undrew
 refine hK _ _ (HCELL.out _ hX1) ?_
 clear hK K hC hfy
 have hC:=HCELL.out _ hX1
 try simp only[Act.put,qA,qB,qC,qD,qE,qF]
 try dsimp only
 refine headI_only (i:=7) (by kernel_rfl) (by decide) rfl (fun K hK=>?_)
 rw[if_pos (by rfl)]
 go_simp
 obtain⟨X2,hX2,n2,f2⟩:=bxn X1 #[.int .i64 x.a.t,.int .i64 0,.int .i64 x.a.t,.string ⟨#[]⟩,.slice yA x.a.r.len yc,.slice yB x.a.w.len yd] 91
 rw[hX2]
 have hX12:=hX1.then f2
 refine hK _ _ (HCELL.out _ hX12) ?_
 clear hK K hC hX2
 try simp only[Act.put,qA,qB,qC,qD,qE,qF]
 refine headI_only (i:=8) (by kernel_rfl) (by decide) rfl (fun K hK=>?_)
 rw[if_pos (by rfl)]
 obtain⟨ii,hii,iz0,iz1,iz2⟩:=info_act
 have hO2:Own X2 91 6 (some (⟨g,0,none⟩:Addr)) 1 c (([yl]).flatMap AV.cs):=HO5.out.fr hX12 (by simp)
 refine wp_app (.tmp 74) (.tmp 77) 22 rfl 91 ii _ 6 88 Tryz.underlying22 hii iz0 iz1 iz2 rfl (by decide) (some (⟨g,0,none⟩:Addr)) 1 c (([yl]).flatMap AV.cs) rfl hO2 ⟨X1.heap.size,0,none⟩ 1 1 (AV.mk x.a yA yc yB yd).cs rfl rfl (fun j u hu=>by rw[add_mid',n2.c j];simpa [AV.cs,CL.sl] using hu) (by intro u hu;simp only[AV.cs,CL.sl,List.mem_cons,List.not_mem_nil,or_false] at hu;rcases hu with rfl | rfl | rfl | rfl | rfl | rfl <;> rfl) (by unfold maxLen;omega) (by omega) ?_
 intro A' c' X3 ho3 hf3 hA3
 have hb3:=(HB5.out.fr hX12 (by simp)).fr hf3 HH.out.nb
 have hr3:=(HR5.out.fr hX12 (by simp)).fr hf3 hRA
 have hC:X3.cell? ⟨b,1,none⟩=some (.slice (some (⟨g,0,none⟩:Addr)) 1 c)∧X3.cell? ⟨w.heap.size,0,none⟩=some (.int .i64 x.a.t)∧X3.cell? ⟨w.heap.size,1,none⟩=some (.int .i64 0)∧X3.cell? ⟨w.heap.size,2,none⟩=some (.int .i64 x.a.t)∧X3.cell? ⟨w.heap.size,3,none⟩=some (.string ⟨#[]⟩)∧X3.cell? ⟨w.heap.size,4,none⟩=some (.slice x.A x.a.r.len x.c)∧X3.cell? ⟨w.heap.size,5,none⟩=some (.slice x.B x.a.w.len x.d):=⟨hb3.c 1,hr3.c 0,hr3.c 1,hr3.c 2,hr3.c 3,hr3.c 4,hr3.c 5⟩
 rw[show (1+1:Nat)=2 from rfl] at ho3 ⊢
 refine hK _ _ hC ?_
 clear hK K
 try simp only[Act.put,qA,qB,qC,qD,qE,qF]
 show headJ 9 _ _ _ _ _ _ _ _ _ _ _
 iterate 2
  refine hdJ (v:=?_) rfl (Or.inl ⟨by rfl,?_⟩) ?_
  rotate_left
  ·intro W hW;obtain⟨x1,y0,y1,y2,y3,y4,y5⟩:=HSS.out W hW;go_simp;try with_reducible rfl
  try simp only[Act.put,qA,qB,qC,qD,qE,qF]
 refine headI_done ⟨by kernel_rfl,?_⟩
 simp only[List.drop_succ_cons,List.drop_zero]
 have HO3:=Hd ho3
 have HF3:=Hd hf3
 have HA3:=Hd hA3
 have HX12:=Hd (And.intro hX1 f2)
 have HYK:=Hd (And.intro hyk hyb)
 clear ho3 hf3 hA3 hX12 hX1 f2 n2 hyk hyb hr3 hO2 HR5 HB5 HO5 HCELL HCP hC HSS
 have e0:=hb3.k1
 have e1:=hb3.f 1
 go_upto_region 18 with fail
 obtain⟨X4,hX4⟩:=nmd (X3.setCell ⟨b,1,none⟩ (.slice A' 2 c'))
 have hb4:BoxN X4 b 136 #[.pointer (some ⟨pb,0,none⟩),.slice A' 2 c',.slice none 0 0,.pointer (some ⟨pl,0,none⟩),.pointer (some ⟨bt,0,none⟩)]:=by rw[←hX4];exact hb3.setAt 1 _
 have f4:Fr [b] X3 X4:=by rw[←hX4];exact (Fr.refl [b] X3).set (.inl (by simp)) _
 try rw[hX4]
 clear e0 e1 hX4 hb3
 have e0:=hb4.k3
 have e1:=hb4.f 3
 go_upto_region 19 with fail
 obtain⟨X5,hX5⟩:=nmd (X4.setCell ⟨b,3,none⟩ (.pointer (some ⟨p2,0,none⟩)))
 have hb5:BoxN X5 b 136 #[.pointer (some ⟨pb,0,none⟩),.slice A' 2 c',.slice none 0 0,.pointer (some ⟨p2,0,none⟩),.pointer (some ⟨bt,0,none⟩)]:=by rw[←hX5];exact hb4.setAt 3 _
 have f5:Fr [b] X3 X5:=by rw[←hX5];exact f4.set (.inl (by simp)) _
 try rw[hX5]
 clear e0 e1 hX5 hb4 f4
 have e0:=hb5.k1
 go_wp2_with fail
 go_ret
 have hfin:=HH.out.step (y:=⟨x.a,yA,yc,yB,yd⟩) (F':=F') (p2:=p2) (t':=t') (ds':=ds') (kvs':=kvs') (HF1.out.then hC4) HST4.out.1 (fun k hk=>(HST4.out.2.2 k hk).imp id (fun h=>by have:=HF1.out.size;simp only[World.drew] at h;omega)) hC46 HF5.out HTM.out.1 HTM.out.2 HX12.out.1 HYK.out.1 (fun k hk=>HYK.out.2 k hk) HX12.out.2 HF3.out HA3.out HO3.out f5 hb5
 exact⟨rfl,b::(blk A'++F'),⟨x.a,yA,yc,yB,yd⟩,t',rfl,HST4.out.2.1,⟨pb,p2,bt,A',c',F',hfin.1,rfl⟩,hfin.2⟩
theorem HAppend_2 (yp yl:AV)(b:Nat) (t:TR) (ds ds':List Nm) (kvs kvs':List (Value × Value)) (M:List Nat) (x:AV) (Q:TR→Prop) (w:World) (h:HistAt w b [yp,yl] t ds kvs M) (hok:Ok w) (hlo:∀ k∈M,6≤k)
 (hx:Kept M w fun W=>x.ok W) (hg:x.a.good) (hcm:cmpK x.a.k yl.a.k=1) (hE:(encA x.a).length≤1000000)
 (hAp:∀ W p,StAt W p t→Ok W→x.ok W→Calls Tryz.prog 153 #[.pointer (some ⟨p,0,none⟩),x.a.w.sl x.B x.d] W (ApPost (stB p t) Q W))
 (hTr:∀ W bt F,TreeM W bt ds kvs F→Ok W→(∀ k∈F,6≤k)→Calls Tryz.prog 89 #[.pointer (some ⟨bt,0,none⟩),encD (leafN (1::encA x.a))] W fun e w'=>e=.returned (.int .i64 0)∧∃ F',TreeM w' bt ds' kvs' F'∧Fr F W w'∧∀ k∈F',k∈F ∨ W.heap.size≤k) :
 Calls Tryz.prog 34 #[.pointer (some ⟨b,0,none⟩),x.v] w fun e w'=>e=.returned (.int .i64 0)∧∃ M' y t',y.a=x.a∧Q t'∧HistAt w' b ([yp,yl]++[y]) t' ds' kvs' M'∧Fr M w w'∧∀ k∈M',k∈M ∨ w.heap.size≤k:=by
 obtain⟨pb,pl,bt,A,c,F,h,rfl⟩:=h
 (obtain⟨g,rfl,hcs0⟩:=Cs.of_own h.own (by simp);have HCS:=Hd hcs0;clear hcs0)
 obtain⟨w1,hw1,hR1,hf1⟩:=bxn w (x.cs.toArray) 91
 have hbl:=h.box.lt
 have hCell:∀ W,Fr [] w1 W→(W.cell? ⟨b,0,none⟩=some (.pointer (some ⟨pb,0,none⟩))∧W.cell? ⟨b,1,none⟩=some (.slice (some (⟨g,0,none⟩:Addr)) 2 c)∧W.cell? ⟨b,3,none⟩=some (.pointer (some ⟨pl,0,none⟩))∧W.cell? ⟨b,4,none⟩=some (.pointer (some ⟨bt,0,none⟩))) ∧
  W.cell? ⟨w.heap.size,0,none⟩=some (.int .i64 x.a.t)∧W.cell? ⟨w.heap.size,1,none⟩=some (.int .i64 0)∧W.cell? ⟨w.heap.size,2,none⟩=some (.int .i64 x.a.t)∧W.cell? ⟨w.heap.size,3,none⟩=some (.string ⟨#[]⟩)∧W.cell? ⟨w.heap.size,4,none⟩=some (.slice x.A x.a.r.len x.c)∧W.cell? ⟨w.heap.size,5,none⟩=some (.slice x.B x.a.w.len x.d):=fun W hW=>by
  have h1:=h.box.fr (hf1.then hW) (by simp)
  have h2:=hR1.fr hW (by simp)
  exact⟨⟨h1.c 0,h1.c 1,h1.c 3,h1.c 4⟩,h2.c 0,h2.c 1,h2.c 2,h2.c 3,h2.c 4,h2.c 5⟩
 have hEnc:∀ W,Fr [] w1 W→Calls Tryz.prog 60 #[x.v] W (RetPost W (.tuple #[encN (encA x.a),.int .i64 0])):=fun W hW=>EncodeA_any x.a x.A x.B x.c x.d W (hok.fr0 (hf1.then hW)) ((hx.fr0 (hf1.then hW)).now.r) ((hx.fr0 (hf1.then hW)).now.w) hg
 have hApp:∀ W,Fr [] w1 W→Calls Tryz.prog 92 #[x.v,.pointer (some ⟨pl,0,none⟩)] W (ApPost (stB pl t) Q W):=fun W hW=>ApplyA_any _ Q x pl W fun W2 hW2=>hAp W2 pl (((h.st.fr0 hf1).fr0 hW).fr0 hW2) (hok.fr0 ((hf1.then hW).then hW2)) (hx.fr0 ((hf1.then hW).then hW2)).now
 have hLf:∀ W,Fr [] w1 W→Calls Tryz.prog 93 #[encN (encA x.a)] W (SumPost W (leafN (1::encA x.a))):=fun W hW=>leafH_any (encA x.a) W (hok.fr0 (hf1.then hW)) (by omega)
 have hNn:∀ W,Fr [] w1 W→Calls Tryz.prog 59 #[.pointer (some ⟨b,0,none⟩)] W fun e w'=>e=.returned (.bool false)∧W=w':=fun W hW=>none_any b pb W (hCell W hW).1.1
 obtain⟨d,hd⟩:=nmd (leafN (1::encA x.a))
 obtain⟨tx,htx⟩:=nmd (encN (encA x.a))
 rw[hd] at hLf
 rw[htx] at hEnc hLf
 rw[hd] at hTr
 have HX:=Hd hx
 have HH:=Hd h
 have HSS:=Hd hCell
 have HE:=Hd hEnc
 have HA:=Hd hApp
 have HL:=Hd hLf
 have HN:=Hd hNn
 have hTree:∀ W,Fr [] w1 W→Calls Tryz.prog 89 #[.pointer (some ⟨bt,0,none⟩),encD d] W fun e w'=>e=.returned (.int .i64 0)∧∃ F',TreeM w' bt ds' kvs' F'∧Fr F W w'∧∀ k∈F',k∈F ∨ W.heap.size≤k:=fun W hW=>hTr W bt F (h.tree.fr (hf1.then hW) (by simp)) (hok.fr0 (hf1.then hW)) (fun k hk=>hlo k (by simp[hk]))
 have HT:=Hd hTree
 have HW1:=Hd hw1
 have HF1:=Hd hf1
 have HR1:=Hd hR1
 have HOK:=Hd hok
 have HLO:=Hd hlo
 unfold AV.v at HE HA
 unfold AV.v
 unfold AV.cs CL.sl at HW1 HE HA ⊢
 clear hx h hCell hEnc hApp hLf hNn hTr hTree hw1 hf1 hR1 hAp hd htx hok hlo
 go_enter Tryz.func34,Tryz.ntmps34
 go_upto_region 1 with fail
 rw[HW1.out]
 obtain⟨⟨x0,x1,x3,x4⟩,y0,y1,y2,y3,y4,y5⟩:=HSS.out w1 (Fr.refl [] w1)
 go_upto_region 9 with (first
  | (go_at_call 59;(with_reducible refine (HN.out _ (Fr.refl [] w1)).mono ?_);rintro e w' ⟨rfl,rfl⟩)
  | (go_at_call 60;(with_reducible refine (HE.out _ (Fr.refl [] w1)).mono ?_);rintro e w2 ⟨rfl,hf2⟩;clear x0 x1 x3 x4 y0 y1 y2 y3 y4 y5;obtain⟨⟨x0,x1,x3,x4⟩,y0,y1,y2,y3,y4,y5⟩:=HSS.out w2 hf2))
 clear x0 x1 x3 x4 y0 y1 y2 y3 y4 y5
 have hCK:∀ W,Calls Tryz.prog 91 #[.agg #[.int .i64 x.a.t,.int .i64 0,.int .i64 x.a.t,.string ⟨#[]⟩],.agg #[.int .i64 yl.a.t,.int .i64 0,.int .i64 yl.a.t,.string ⟨#[]⟩]] W (CmpOPost W 1):=fun W=>by
  have h:=CompareK_any x.a.k yl.a.k W (show validB []=true by decide) (show validB []=true by decide) (by simp[AC.k]) (by simp[AC.k])
  rw[hcm] at h
  exact h
 have HCK:=Hd hCK
 clear hCK
 have hwr:IntKind.i64.wrap 1=1:=by decide
 have HSK:=HSS
 clear HSS
 have HSS:=Hd (fun (W:World) (hW:Fr [] w1 W)=>And.intro (HSK.out W hW) (show W.cell? ⟨g,6,none⟩=some (.int .i64 yl.a.t)∧W.cell? ⟨g,7,none⟩=some (.int .i64 0)∧W.cell? ⟨g,8,none⟩=some (.int .i64 yl.a.t)∧W.cell? ⟨g,9,none⟩=some (.string ⟨#[]⟩) from by
  have h:=HCS.out.fr0 (HF1.out.then hW)
  exact⟨h.2 6 _ rfl,h.2 7 _ rfl,h.2 8 _ rfl,h.2 9 _ rfl⟩))
 refine wp_region_qall (fun W=>Fr [] w1 W) (by kernel_rfl) (by kernel_rfl) (hf2.drew) ?_
 repeat (
  first
  | go_big_quiet_skip
  | (go_big_quiet_want
     first
     | (go_big_quiet_op
        go_big_quiet_on)
     | (apply Exists.intro
        refine⟨fun W hW=>?_,?_⟩
        ·(obtain⟨⟨⟨x0,x1,x3,x4⟩,y0,y1,y2,y3,y4,y5⟩,z0,z1,z2,z3⟩:=HSS.out W hW
          go_simp
          first
          | done
          | (with_reducible exact rfl)
          | (with_reducible exact⟨rfl,rfl⟩)
          | ((go_at_call 91;(with_reducible refine (HCK.out W).mono ?_);rintro e w' ⟨rfl,h⟩;exact⟨rfl,hW.then h⟩)))
        simp only[Act.put,qA,qB,qC]
        go_big_quiet_on))
  )
 clear HSS hwr
 have HSS:=HSK
 clear HSK
 refine wpQuiet_nil ?_
 intro W3 hW3
 go_upto_region 11 with fail
 have hC:Fr [] w1 W3.drew:=hW3.drew
 refine wp_region_head (fun W:World=>Fr [] w1 W) 10 (by kernel_rfl) ?_ (by decide)
 show headJ 0 _ _ _ _ _ _ _ _ _ _ _
 iterate 5
  refine hdJ (v:=?_) rfl (Or.inl ⟨by rfl,?_⟩) ?_
  rotate_left
  ·intro W hW;obtain⟨⟨x0,x1,x3,x4⟩,y0,y1,y2,y3,y4,y5⟩:=HSS.out W hW;go_simp;try with_reducible rfl
  try simp only[Act.put,qA,qB,qC,qD,qE,qF]
 refine headI_only (i:=5) (by kernel_rfl) (by decide) rfl (fun K hK=>?_)
 rw[if_pos (by rfl)]
 go_simp
 go_at_call 92
 (with_reducible refine (HA.out _ hC).mono ?_)
 rintro e w4 ⟨p2,t',rfl,hst4,hf4,hq4,hbl4⟩
 have hC4:=hC.then hf4
 have hz4:W3.heap.size≤w4.heap.size:=hf4.size
 have hz3:=hW3.size
 refine hK _ _ hC4 ?_
 clear hK K hC hf4
 try simp only[Act.put,qA,qB,qC,qD,qE,qF]
 show headJ 6 _ _ _ _ _ _ _ _ _ _ _
 iterate 4
  refine hdJ (v:=?_) rfl (Or.inl ⟨by rfl,?_⟩) ?_
  rotate_left
  ·intro W hW;obtain⟨⟨x0,x1,x3,x4⟩,y0,y1,y2,y3,y4,y5⟩:=HSS.out W hW;go_simp;try with_reducible rfl
  try simp only[Act.put,qA,qB,qC,qD,qE,qF]
 refine headI_done ⟨by kernel_rfl,?_⟩
 simp only[List.drop_succ_cons,List.drop_zero]
 have HST4:=Hd (And.intro hst4 (And.intro hq4 hbl4))
 clear hst4 hq4 hbl4
 go_upto_region 14 with fail
 have hC:Fr [] w1 w4.drew:=hC4.drew
 refine wp_region_head (fun W:World=>Fr [] w1 W) 6 (by kernel_rfl) ?_ (by decide)
 show headJ 0 _ _ _ _ _ _ _ _ _ _ _
 iterate 5
  refine hdJ (v:=?_) rfl (Or.inl ⟨by rfl,?_⟩) ?_
  rotate_left
  ·intro W hW;obtain⟨⟨x0,x1,x3,x4⟩,y0,y1,y2,y3,y4,y5⟩:=HSS.out W hW;go_simp;try with_reducible rfl
  try simp only[Act.put,qA,qB,qC,qD,qE,qF]
 refine headI_only (i:=5) (by kernel_rfl) (by decide) rfl (fun K hK=>?_)
 rw[if_pos (by rfl)]
 go_simp
 go_at_call 93
 (with_reducible refine (HL.out _ hC).mono ?_)
 rintro e w6 ⟨rfl,hf6⟩
 have hz6:w4.heap.size≤w6.heap.size:=hf6.size
 have hC6:=hC.then hf6
 have hC46:Fr [] w4 w6:=hf6.undrew
 refine hK _ _ hC6 ?_
 clear hK K hC hf6
 try simp only[Act.put,qA,qB,qC,qD,qE,qF]
 refine headI_done ⟨by kernel_rfl,?_⟩
 simp only[List.drop_succ_cons,List.drop_zero]
 go_upto_region 17 with ((go_at_call 89;(with_reducible refine (HT.out _ hC6).mono ?_);rintro e w5 ⟨rfl,F',htm,hf5,hF5⟩;have HTM:=Hd (And.intro htm hF5);have HF5:=Hd hf5;clear htm hF5 hf5))
 have hFlt:=HH.out.tree.lt
 have hAlt:=HH.out.own.lt
 have hbw:=HH.out.box.lt
 have hRF:w.heap.size ∉ F:=fun hm=>by have:=hFlt _ hm;omega
 have hRA:w.heap.size ∉ blk (some (⟨g,0,none⟩:Addr)):=fun hm=>by have:=hAlt _ hm;omega
 have hf06:=HF1.out.then hC6
 have hB5:=(HH.out.box.fr hf06 (by simp)).fr HF5.out HH.out.nF
 have hO5:=(HH.out.own.fr hf06 (by simp)).fr HF5.out HH.out.dj
 have hR5:=(HR1.out.fr hC6 (by simp)).fr HF5.out hRF
 have hF05:Fr (b::(blk (some (⟨g,0,none⟩:Addr))++F)) w w5:=(hf06.mono (by simp)).trans HF5.out (by intro k hk;exact .inl (by simp[hk]))
 have hCell:∀ W,Fr [] w5 W→W.cell? ⟨b,1,none⟩=some (.slice (some (⟨g,0,none⟩:Addr)) 2 c)∧W.cell? ⟨w.heap.size,0,none⟩=some (.int .i64 x.a.t)∧W.cell? ⟨w.heap.size,1,none⟩=some (.int .i64 0)∧W.cell? ⟨w.heap.size,2,none⟩=some (.int .i64 x.a.t)∧W.cell? ⟨w.heap.size,3,none⟩=some (.string ⟨#[]⟩)∧W.cell? ⟨w.heap.size,4,none⟩=some (.slice x.A x.a.r.len x.c)∧W.cell? ⟨w.heap.size,5,none⟩=some (.slice x.B x.a.w.len x.d):=fun W hW=>by
  have h1:=hB5.fr hW (by simp)
  have h2:=hR5.fr hW (by simp)
  exact⟨h1.c 1,h2.c 0,h2.c 1,h2.c 2,h2.c 3,h2.c 4,h2.c 5⟩
 have hCp:∀ W,Fr [] w5 W→Calls Tryz.prog 94 #[x.v] W fun e w'=>∃ y:AV,e=.returned y.v∧y.a=x.a∧y.ok w'∧Fr [] W w'∧∀ k∈y.bl,W.heap.size≤k:=fun W hW=>copiedH_av x W (HX.out W (hF05.trans hW (by simp)))
 have HCP:=Hd hCp
 unfold AV.v AV.cs CL.sl at HCP
 clear HSS
 have HSS:=Hd (fun (W:World) (hW:W.cell? ⟨b,1,none⟩=some (.slice (some (⟨g,0,none⟩:Addr)) 2 c)∧W.cell? ⟨w.heap.size,0,none⟩=some (.int .i64 x.a.t)∧W.cell? ⟨w.heap.size,1,none⟩=some (.int .i64 0)∧W.cell? ⟨w.heap.size,2,none⟩=some (.int .i64 x.a.t)∧W.cell? ⟨w.heap.size,3,none⟩=some (.string ⟨#[]⟩)∧W.cell? ⟨w.heap.size,4,none⟩=some (.slice x.A x.a.r.len x.c)∧W.cell? ⟨w.heap.size,5,none⟩=some (.slice x.B x.a.w.len x.d))=>hW)
 have hC:=hCell _ (Fr.refl [] w5).drew
 have HCELL:=Hd hCell
 have HB5:=Hd hB5
 have HO5:=Hd hO5
 have HR5:=Hd hR5
 have HF05:=Hd hF05
 clear hCell hCp hB5 hO5 hR5 hF05 hf06 HR1 HX
 refine wp_region_head (fun W:World=>W.cell? ⟨b,1,none⟩=some (.slice (some (⟨g,0,none⟩:Addr)) 2 c)∧W.cell? ⟨w.heap.size,0,none⟩=some (.int .i64 x.a.t)∧W.cell? ⟨w.heap.size,1,none⟩=some (.int .i64 0)∧W.cell? ⟨w.heap.size,2,none⟩=some (.int .i64 x.a.t)∧W.cell? ⟨w.heap.size,3,none⟩=some (.string ⟨#[]⟩)∧W.cell? ⟨w.heap.size,4,none⟩=some (.slice x.A x.a.r.len x.c)∧W.cell? ⟨w.heap.size,5,none⟩=some (.slice x.B x.a.w.len x.d)) 11 (by kernel_rfl) ?_ (by decide)
 show headJ 0 _ _ _ _ _ _ _ _ _ _ _
 iterate 6
  refine hdJ (v:=?_) rfl (Or.inl ⟨by rfl,?_⟩) ?_
  rotate_left
  ·intro W hW;obtain⟨x1,y0,y1,y2,y3,y4,y5⟩:=HSS.out W hW;go_simp;try with_reducible rfl
  try simp only[Act.put,qA,qB,qC,qD,qE,qF]
 refine headI_only (i:=6) (by kernel_rfl) (by decide) rfl (fun K hK=>?_)
 rw[if_pos (by rfl)]
 go_simp
 go_at_call 94
 (with_reducible refine (HCP.out _ (Fr.refl [] w5).drew).mono ?_)
 rintro e X1 ⟨⟨ya,yA,yc,yB,yd⟩,rfl,hya,hyk,hfy,hyb⟩
 dsimp only at hya
 subst hya
 have hX1:=hfy.undrew
 refine hK _ _ (HCELL.out _ hX1) ?_
 clear hK K hC hfy
 have hC:=HCELL.out _ hX1
 try simp only[Act.put,qA,qB,qC,qD,qE,qF]
 try dsimp only
 refine headI_only (i:=7) (by kernel_rfl) (by decide) rfl (fun K hK=>?_)
 rw[if_pos (by rfl)]
 go_simp
 obtain⟨X2,hX2,n2,f2⟩:=bxn X1 #[.int .i64 x.a.t,.int .i64 0,.int .i64 x.a.t,.string ⟨#[]⟩,.slice yA x.a.r.len yc,.slice yB x.a.w.len yd] 91
 rw[hX2]
 have hX12:=hX1.then f2
 refine hK _ _ (HCELL.out _ hX12) ?_
 clear hK K hC hX2
 try simp only[Act.put,qA,qB,qC,qD,qE,qF]
 refine headI_only (i:=8) (by kernel_rfl) (by decide) rfl (fun K hK=>?_)
 rw[if_pos (by rfl)]
 obtain⟨ii,hii,iz0,iz1,iz2⟩:=info_act
 have hO2:Own X2 91 6 (some (⟨g,0,none⟩:Addr)) 2 c (([yp,yl]).flatMap AV.cs):=HO5.out.fr hX12 (by simp)
 refine wp_app (.tmp 74) (.tmp 77) 22 rfl 91 ii _ 6 88 Tryz.underlying22 hii iz0 iz1 iz2 rfl (by decide) (some (⟨g,0,none⟩:Addr)) 2 c (([yp,yl]).flatMap AV.cs) rfl hO2 ⟨X1.heap.size,0,none⟩ 1 1 (AV.mk x.a yA yc yB yd).cs rfl rfl (fun j u hu=>by rw[add_mid',n2.c j];simpa [AV.cs,CL.sl] using hu) (by intro u hu;simp only[AV.cs,CL.sl,List.mem_cons,List.not_mem_nil,or_false] at hu;rcases hu with rfl | rfl | rfl | rfl | rfl | rfl <;> rfl) (by unfold maxLen;omega) (by omega) ?_
 intro A' c' X3 ho3 hf3 hA3
 have hb3:=(HB5.out.fr hX12 (by simp)).fr hf3 HH.out.nb
 have hr3:=(HR5.out.fr hX12 (by simp)).fr hf3 hRA
 have hC:X3.cell? ⟨b,1,none⟩=some (.slice (some (⟨g,0,none⟩:Addr)) 2 c)∧X3.cell? ⟨w.heap.size,0,none⟩=some (.int .i64 x.a.t)∧X3.cell? ⟨w.heap.size,1,none⟩=some (.int .i64 0)∧X3.cell? ⟨w.heap.size,2,none⟩=some (.int .i64 x.a.t)∧X3.cell? ⟨w.heap.size,3,none⟩=some (.string ⟨#[]⟩)∧X3.cell? ⟨w.heap.size,4,none⟩=some (.slice x.A x.a.r.len x.c)∧X3.cell? ⟨w.heap.size,5,none⟩=some (.slice x.B x.a.w.len x.d):=⟨hb3.c 1,hr3.c 0,hr3.c 1,hr3.c 2,hr3.c 3,hr3.c 4,hr3.c 5⟩
 rw[show (2+1:Nat)=3 from rfl] at ho3 ⊢
 refine hK _ _ hC ?_
 clear hK K
 try simp only[Act.put,qA,qB,qC,qD,qE,qF]
 show headJ 9 _ _ _ _ _ _ _ _ _ _ _
 iterate 2
  refine hdJ (v:=?_) rfl (Or.inl ⟨by rfl,?_⟩) ?_
  rotate_left
  ·intro W hW;obtain⟨x1,y0,y1,y2,y3,y4,y5⟩:=HSS.out W hW;go_simp;try with_reducible rfl
  try simp only[Act.put,qA,qB,qC,qD,qE,qF]
 refine headI_done ⟨by kernel_rfl,?_⟩
 simp only[List.drop_succ_cons,List.drop_zero]
 have HO3:=Hd ho3
 have HF3:=Hd hf3
 have HA3:=Hd hA3
 have HX12:=Hd (And.intro hX1 f2)
 have HYK:=Hd (And.intro hyk hyb)
 clear ho3 hf3 hA3 hX12 hX1 f2 n2 hyk hyb hr3 hO2 HR5 HB5 HO5 HCELL HCP hC HSS
 have e0:=hb3.k1
 have e1:=hb3.f 1
 go_upto_region 18 with fail
 obtain⟨X4,hX4⟩:=nmd (X3.setCell ⟨b,1,none⟩ (.slice A' 3 c'))
 have hb4:BoxN X4 b 136 #[.pointer (some ⟨pb,0,none⟩),.slice A' 3 c',.slice none 0 0,.pointer (some ⟨pl,0,none⟩),.pointer (some ⟨bt,0,none⟩)]:=by rw[←hX4];exact hb3.setAt 1 _
 have f4:Fr [b] X3 X4:=by rw[←hX4];exact (Fr.refl [b] X3).set (.inl (by simp)) _
 try rw[hX4]
 clear e0 e1 hX4 hb3
 have e0:=hb4.k3
 have e1:=hb4.f 3
 go_upto_region 19 with fail
 obtain⟨X5,hX5⟩:=nmd (X4.setCell ⟨b,3,none⟩ (.pointer (some ⟨p2,0,none⟩)))
 have hb5:BoxN X5 b 136 #[.pointer (some ⟨pb,0,none⟩),.slice A' 3 c',.slice none 0 0,.pointer (some ⟨p2,0,none⟩),.pointer (some ⟨bt,0,none⟩)]:=by rw[←hX5];exact hb4.setAt 3 _
 have f5:Fr [b] X3 X5:=by rw[←hX5];exact f4.set (.inl (by simp)) _
 try rw[hX5]
 clear e0 e1 hX5 hb4 f4
 have e0:=hb5.k1
 go_wp2_with fail
 go_ret
 have hfin:=HH.out.step (y:=⟨x.a,yA,yc,yB,yd⟩) (F':=F') (p2:=p2) (t':=t') (ds':=ds') (kvs':=kvs') (HF1.out.then hC4) HST4.out.1 (fun k hk=>(HST4.out.2.2 k hk).imp id (fun h=>by have:=HF1.out.size;simp only[World.drew] at h;omega)) hC46 HF5.out HTM.out.1 HTM.out.2 HX12.out.1 HYK.out.1 (fun k hk=>HYK.out.2 k hk) HX12.out.2 HF3.out HA3.out HO3.out f5 hb5
 exact⟨rfl,b::(blk A'++F'),⟨x.a,yA,yc,yB,yd⟩,t',rfl,HST4.out.2.1,⟨pb,p2,bt,A',c',F',hfin.1,rfl⟩,hfin.2⟩
end Go.Proofs.YtlpmiimgacfmkaaGreatDoor
