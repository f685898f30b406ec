/- receipt: Decode. -/
import Derived.Test.YtlpmiimgacfmkaaGreatDoorRDc1
import Derived.Test.YtlpmiimgacfmkaaGreatDoorRMk1
set_option linter.all false
namespace Go.Proofs.YtlpmiimgacfmkaaGreatDoor
open Go.RowKit
set_option maxRecDepth 100000
set_option maxHeartbeats 4000000
structure PV where
 p:PF
 A:Option Addr
 c:Nat
def PV.cs (len:Int) (x:PV):List Value:=[.int .i64 x.p.idx,.int .i64 len,encN x.p.text,.slice x.A x.p.path.length x.c]
def PV.ok (w:World) (x:PV):Prop:=Own w 57 32 x.A x.p.path.length x.c (x.p.path.flatMap dCells)
def rcC (k nn xx at_ len:Int) (so st:ByteArray) (v:Value):Array Value:=#[.int .i64 k,.string so,.int .i64 nn,.int .i64 xx,.string st,.int .i64 at_,.int .i64 len,v]
def rcZC:Array Value:=#[.int .i64 0,.string ⟨#[]⟩,.int .i64 0,.int .i64 0,.string ⟨#[]⟩,.int .i64 0,.int .i64 0,.slice none 0 0]
def DRPost (w:World) (s:Nm) (e:Ending) (w':World):Prop:=Fr [] w w' ∧
 (∀ c,decR s=some c→∃ (so st:ByteArray) (A:Option Addr) (cap:Nat) (xs:List PV),encN c.nm.owner=.string so∧encN c.nm.text=.string st∧e=.returned (.tuple #[.agg (rcC c.nm.kind c.nm.number c.nm.index c.at_ c.len so st (.slice A c.ps.length cap)),.int .i64 0])∧xs.map PV.p=c.ps∧Own w' 53 4 A c.ps.length cap (xs.flatMap (PV.cs c.len))∧∀ x∈xs,x.ok w') ∧
 (decR s=none→e=.returned (.tuple #[.agg rcZC,.int .i64 3]))
def DRR (w:World) (c0 c1 b R2 RB K:Nat) (k nn xx at_ len:Int) (so st:ByteArray) (r0:RS) (i:Value) (W:World):Prop :=
 ∃ (j:Nat) (rj:RS) (done:List PF) (xs:List PV) (A:Option Addr) (cap:Nat),j≤K∧i=.int .i64 (j:Int)∧rdPfs (K - j) rj done=rdPfs K r0 []∧xs.map PV.p=done∧done.length=j∧RdS c0 c1 b rj W∧BoxN W RB 39 (rcC k nn xx at_ len so st (.slice A j cap))∧Own W 53 4 A j cap (xs.flatMap (PV.cs len))∧(∀ x∈xs,x.ok W∧∀ q∈blk x.A,RB<q∧q ∉ blk A)∧BoxN W R2 39 rcZC∧Fr [] w W∧(∀ q∈blk A,RB<q)∧c1≤W.heap.size
theorem DecodeR_any (s:ByteArray) (w:World) (hok:Ok w) (hs:s.size≤70368744177664):Calls Tryz.prog 16 #[.string s] w (DRPost w s.data.toList):=by
 obtain⟨l,hl⟩:=nmd (s.data.toList)
 obtain⟨w1,hw1⟩:=nmd ((w).alloc (.cells #[.int .i64 0,.string ⟨#[]⟩,.int .i64 0,.int .i64 0,.string ⟨#[]⟩,.int .i64 0,.int .i64 0,.slice none 0 0] 39))
 have hz1:(w1).heap.size=w.heap.size+1:=by rw[←hw1,World.size_alloc];try omega
 have n1:BoxN w1 (w.heap.size) 39 #[.int .i64 0,.string ⟨#[]⟩,.int .i64 0,.int .i64 0,.string ⟨#[]⟩,.int .i64 0,.int .i64 0,.slice none 0 0]:=by have h0:=BoxN.new (w) 39 #[.int .i64 0,.string ⟨#[]⟩,.int .i64 0,.int .i64 0,.string ⟨#[]⟩,.int .i64 0,.int .i64 0,.slice none 0 0];rw[hw1] at h0;rw[show w.heap.size=(w).heap.size from by first | rfl | omega];exact h0
 have f1:Fr [] (w) w1:=by rw[←hw1];exact (Fr.refl [] (w)).alloc _
 obtain⟨cap,w2,hcv,hf2,hr2⟩:=str_row s w1
 have hNR:=NewReader_rs _ s.size cap _ _ w2 hr2 (by rintro a h;injection h with h;rw[←h]) hs
 obtain⟨ts,hts⟩:∃ s,encN (dT l).1=.string s:=⟨_,rfl⟩
 have hts2:ts.data.toList=(dT l).1:=by
  have h0:=congrArg (fun v:Value=>match v with | .string x=>x.data.toList | _=>[]) hts
  simpa [encN] using h0.symm
 have htl:ts.size≤16777216:=by
  have:=rdText_len 16777216 ⟨l,0,0⟩
  have h1:(dT l).1.length≤16777216:=this
  rw[←hts2,Array.length_toList] at h1
  exact h1
 have HN:=Hd hNR
 have HW1:=Hd (And.intro hw1 (And.intro (n1.fr hf2 (by simp)) (f1.then hf2)))
 have HOK:=Hd hok
 have HE:=Hd (And.intro hl (And.intro hts (And.intro hts2 htl)))
 clear hNR hw1 n1 f1 hz1 hf2 hr2 hok hl hts hts2 htl
 go_enter Tryz.func16,Tryz.ntmps16
 go_upto_region 1 with fail
 rw[HW1.out.1]
 go_upto_region 2 with ((go_at_call 47;(with_reducible refine HN.out.mono ?_);rintro e w3 ⟨b,rfl,hrd,hf3⟩))
 obtain⟨c0,hc0⟩:=nmd (w2.heap.size)
 obtain⟨c1,hc1⟩:=nmd (w3.heap.size)
 obtain⟨R2,hR2⟩:=nmd (w.heap.size)
 have hlt2:=HW1.out.2.1.lt
 rw[hc0,hc1,HE.out.1] at hrd
 have hbb:R2<b∧b<c1∧c1=w3.heap.size∧c0≤b:=by obtain⟨A,_,h1,h2,_⟩:=hrd;omega
 have hn3:=HW1.out.2.1.fr hf3 (by simp)
 rw[hR2] at hn3 ⊢
 have H3:=Hd (And.intro hrd (And.intro hn3 (HW1.out.2.2.then hf3)))
 have HB:=Hd hbb
 have HR2:Hid (w.heap.size=R2):=Hd hR2
 clear hrd hf3 hbb hn3 hlt2 hc0 hc1 hR2 HN HW1 hcv
 have hT:=Text_rs H3.out.1 16777216
 rw[show (((16777216:Nat)):Int)=16777216 from rfl] at hT
 have hT':Calls Tryz.prog 49 #[.pointer (some ⟨b,0,none⟩),.int .i64 16777216] w3 fun e w'=>e=.returned (.string ts)∧RdS c0 c1 b (dT l).2 w'∧Fr [b] w3 w':=by rw[←HE.out.2.1];exact hT
 have HT:=Hd hT'
 obtain⟨q,hq⟩:=nmd (decO (dT l).1)
 have HD:Hid (∀ W,Fr [] w W→Calls Tryz.prog 48 #[.string ts] W (DecPost W q)):=Hd fun W hW=>by
  have h:=DecodeO_any ts W (HOK.out.fr0 hW) (by have:=HE.out.2.2.2;omega)
  rw[HE.out.2.2.1,hq] at h
  exact h
 have HQ:=Hd hq
 obtain⟨so,hso⟩:∃ s,encN q.1.owner=.string s:=⟨_,rfl⟩
 obtain⟨st,hst⟩:∃ s,encN q.1.text=.string s:=⟨_,rfl⟩
 have HSO:=Hd (And.intro hso hst)
 clear hT hT' hq
 go_upto_region 3 with (first
  | (go_at_call 49;(with_reducible refine HT.out.mono ?_);rintro e w4 ⟨rfl,hrd4,hf4⟩;have H4:=Hd (And.intro hrd4 (And.intro hf4 (show Fr [] w w4 from H3.out.2.2.trans hf4 (fun k hk=>.inr (by have:=HB.out;have:=HR2.out;simp at hk;omega)))));clear hrd4 hf4)
  | (go_at_call 48;(with_reducible refine (HD.out w4 H4.out.2.2).mono ?_);rintro e w5 ⟨rfl,hf5⟩;unfold encO;rw[hso,hst];have H5:=Hd hf5;clear hf5))
 obtain⟨w6,hw6⟩:=nmd ((w5).alloc (.cells #[.int .i64 q.1.kind,.string so,.int .i64 q.1.number,.int .i64 q.1.index,.string st] 31))
 have hz6:(w6).heap.size=w5.heap.size+1:=by rw[←hw6,World.size_alloc];try omega
 have n6:BoxN w6 (w5.heap.size) 31 #[.int .i64 q.1.kind,.string so,.int .i64 q.1.number,.int .i64 q.1.index,.string st]:=by have h0:=BoxN.new (w5) 31 #[.int .i64 q.1.kind,.string so,.int .i64 q.1.number,.int .i64 q.1.index,.string st];rw[hw6] at h0;rw[show w5.heap.size=(w5).heap.size from by first | rfl | omega];exact h0
 have f6:Fr [] (w5) w6:=by rw[←hw6];exact (Fr.refl [] (w5)).alloc _
 rw[hw6]
 have h56:Fr [] w4 w6:=H5.out.then f6
 have hRz:BoxN w6 R2 39 rcZC:=(H3.out.2.1.fr H4.out.2.1 (by have:=HB.out;simp;omega)).fr h56 (by simp)
 have H6:=Hd (And.intro (H4.out.1.fr0 h56) (And.intro n6 (And.intro (H4.out.2.2.then h56) hRz)))
 clear hw6 n6 f6 hz6 h56 hRz hso hst
 rcases Int.decEq q.2 0 with h | h
 ·have hqe:decide (q.2=0)=false:=decide_eq_false h
  have hqe':(q.2 != 0)=true:=by simp[h]
  have hbr:=H6.out.2.2.2
  have HZR:=Hd (And.intro hbr H6.out.2.2.1)
  unfold rcZC at hbr
  obtain⟨z0,z1,z2,z3,z4,z5,z6,z7⟩:=hbr.m8
  have vv0:=hbr.f 0
  have vv1:=hbr.f 1
  have vv2:=hbr.f 2
  have vv3:=hbr.f 3
  have vv4:=hbr.f 4
  have vv5:=hbr.f 5
  have vv6:=hbr.f 6
  have vv7:=hbr.f 7
  clear hbr
  go_wp2_with fail
  obtain⟨wE,hW2⟩:=nmd (((((((((((w6).setCell ⟨R2,0,none⟩ (.int .i64 0)).setCell ⟨R2,1,none⟩ (.string ⟨#[]⟩)).setCell ⟨R2,2,none⟩ (.int .i64 0)).setCell ⟨R2,3,none⟩ (.int .i64 0)).setCell ⟨R2,4,none⟩ (.string ⟨#[]⟩)).setCell ⟨R2,5,none⟩ (.int .i64 0))).setCell ⟨R2,6,none⟩ (.int .i64 0)).setCell ⟨R2,7,none⟩ (.slice none 0 0)))
  have nE:BoxN wE (R2) 39 #[.int .i64 0,.string ⟨#[]⟩,.int .i64 0,.int .i64 0,.string ⟨#[]⟩,.int .i64 0,.int .i64 0,.slice none 0 0]:=by rw[←hW2];exact ((((((((HZR.out.1.setAt 0 _).setAt 1 _).setAt 2 _).setAt 3 _).setAt 4 _).setAt 5 _).setAt 6 _).setAt 7 _)
  have fE:Fr [R2] (w6) wE:=by rw[←hW2];exact ((((((((Fr.refl [R2] (w6)).set (.inl (by simp)) _).set (.inl (by simp)) _).set (.inl (by simp)) _).set (.inl (by simp)) _).set (.inl (by simp)) _).set (.inl (by simp)) _).set (.inl (by simp)) _).set (.inl (by simp)) _
  rw[hW2]
  clear hW2
  obtain⟨t0,t1,t2,t3,t4,t5,t6,t7⟩:=nE.m8
  try simp only[Exit.inBlock,Exit.then]
  refine bodyPost_ret (v:=.tuple #[.agg #[.int .i64 0,.string ⟨#[]⟩,.int .i64 0,.int .i64 0,.string ⟨#[]⟩,.int .i64 0,.int .i64 0,.slice none 0 0],.int .i64 3]) (by simp[results,Tryz.results16,go_sem,t0,t1,t2,t3,t4,t5,t6,t7]) rfl ?_
  have hR2:=HR2.out
  refine⟨HZR.out.2.trans fE (fun q hq=>.inr (by simp at hq;omega)),fun c hc=>?_,fun _=>rfl⟩
  exfalso
  rw[HE.out.1] at hc
  unfold decR at hc
  rw[HQ.out,if_pos h] at hc
  cases hc
 have hqe:decide (q.2=0)=true:=decide_eq_true h
 have hqe':(q.2 != 0)=false:=by simp[h]
 go_upto_region 5 with fail
 obtain⟨y0,y1,y2,y3,y4⟩:=H6.out.2.1.m5
 go_upto_region 6 with fail
 obtain⟨w7,hw7⟩:=nmd ((w6).alloc (.cells #[.int .i64 0,.string ⟨#[]⟩,.int .i64 0,.int .i64 0,.string ⟨#[]⟩,.int .i64 0,.int .i64 0,.slice none 0 0] 39))
 have hz7:(w7).heap.size=w6.heap.size+1:=by rw[←hw7,World.size_alloc];try omega
 have n7:BoxN w7 (w6.heap.size) 39 #[.int .i64 0,.string ⟨#[]⟩,.int .i64 0,.int .i64 0,.string ⟨#[]⟩,.int .i64 0,.int .i64 0,.slice none 0 0]:=by have h0:=BoxN.new (w6) 39 #[.int .i64 0,.string ⟨#[]⟩,.int .i64 0,.int .i64 0,.string ⟨#[]⟩,.int .i64 0,.int .i64 0,.slice none 0 0];rw[hw7] at h0;rw[show w6.heap.size=(w6).heap.size from by first | rfl | omega];exact h0
 have f7:Fr [] (w6) w7:=by rw[←hw7];exact (Fr.refl [] (w6)).alloc _
 rw[hw7]
 have hRB:R2<w6.heap.size:=H6.out.2.2.2.lt
 have hbl:b<w6.heap.size∧c1≤w6.heap.size:=by have h1:=HB.out;have h2:=H4.out.2.1.size;have h3:=(H5.out).size;have h4:=H6.out.2.1.lt;omega
 have hy7:=H6.out.2.1.fr f7 (by simp)
 obtain⟨RB,hRBe⟩:=nmd (w6.heap.size)
 rw[hRBe] at n7 hRB hbl ⊢
 clear y0 y1 y2 y3 y4
 have H7:=Hd (And.intro (H6.out.1.fr0 f7) (And.intro n7 (And.intro (H6.out.2.2.1.then f7) (And.intro (H6.out.2.2.2.fr f7 (by simp)) (And.intro hRB hbl)))))
 obtain⟨y0,y1,y2,y3,y4⟩:=hy7.m5
 obtain⟨z0,z1,z2,z3,z4,z5,z6,z7⟩:=n7.m8
 have vv0:=n7.f 0
 have vv1:=n7.f 1
 have vv2:=n7.f 2
 have vv3:=n7.f 3
 have vv4:=n7.f 4
 clear hw7 n7 f7 hz7 hRB hbl hy7 hRBe
 go_upto_region 7 with fail
 obtain⟨w8,hw8⟩:=nmd ((((((w7.setCell ⟨RB,0,none⟩ (.int .i64 q.1.kind)).setCell ⟨RB,1,none⟩ (.string so)).setCell ⟨RB,2,none⟩ (.int .i64 q.1.number)).setCell ⟨RB,3,none⟩ (.int .i64 q.1.index)).setCell ⟨RB,4,none⟩ (.string st)))
 have n8:BoxN w8 RB 39 (rcC q.1.kind q.1.number q.1.index 0 0 so st (.slice none 0 0)):=by rw[←hw8];exact (((((H7.out.2.1.setAt 0 _).setAt 1 _).setAt 2 _).setAt 3 _).setAt 4 _)
 have f8:Fr [RB] w7 w8:=by rw[←hw8];exact (((((Fr.refl [RB] w7).set (.inl (by simp)) _).set (.inl (by simp)) _).set (.inl (by simp)) _).set (.inl (by simp)) _).set (.inl (by simp)) _
 rw[hw8]
 have hww:w.heap.size≤RB:=by have:=HR2.out;have:=H7.out.2.2.2.2.1;omega
 have hbs:R2<RB∧b<RB∧c1≤RB∧R2<b∧w.heap.size=R2:=⟨H7.out.2.2.2.2.1,H7.out.2.2.2.2.2.1,H7.out.2.2.2.2.2.2,HB.out.1,HR2.out⟩
 have HBS:=Hd hbs
 have H8:=Hd (And.intro (H7.out.1.fr f8 (fun k hk=>.inr (by simp at hk;omega))) (And.intro n8 (And.intro (H7.out.2.2.1.trans f8 (fun k hk=>.inr (by simp at hk;omega))) (H7.out.2.2.2.1.fr f8 (by simp;omega)))))
 clear y0 y1 y2 y3 y4 z0 z1 z2 z3 z4 z5 z6 z7 vv0 vv1 vv2 vv3 vv4 hw8 n8 f8 hww hbs
 have hA:=Number_rs H8.out.1 9223372036854775807
 rw[show (((9223372036854775807:Nat)):Int)=9223372036854775807 from rfl] at hA
 obtain⟨av,hav⟩:=nmd ((dA l).1)
 obtain⟨lv,hlv⟩:=nmd ((dL l).1)
 have hA':Calls Tryz.prog 50 #[.pointer (some ⟨b,0,none⟩),.int .i64 9223372036854775807] w8 fun e w'=>e=.returned (.int .i64 av)∧RdS c0 c1 b (dA l).2 w'∧Fr [b] w8 w':=by rw[←hav];exact hA
 have HA:=Hd hA'
 have HL:Hid (∀ W,RdS c0 c1 b (dA l).2 W→Calls Tryz.prog 50 #[.pointer (some ⟨b,0,none⟩),.int .i64 9223372036854775807] W fun e w'=>e=.returned (.int .i64 lv)∧RdS c0 c1 b (dL l).2 w'∧Fr [b] W w'):=Hd fun W hW=>by
  have h:=Number_rs hW 9223372036854775807
  rw[show (((9223372036854775807:Nat)):Int)=9223372036854775807 from rfl] at h
  rw[←hlv];exact h
 have hb4:=rdNum_le 4096 (dL l).2
 obtain⟨K,hKK⟩:∃ K:Nat,(dK l).1=(K:Int):=⟨(dK l).1.toNat,by have:(0:Int)≤(dK l).1:=hb4.1;omega⟩
 have hK4:K≤4096:=by have:(dK l).1≤4096:=hb4.2;omega
 have HK:Hid (∀ W,RdS c0 c1 b (dL l).2 W→Calls Tryz.prog 50 #[.pointer (some ⟨b,0,none⟩),.int .i64 4096] W fun e w'=>e=.returned (.int .i64 (K:Int))∧RdS c0 c1 b (dK l).2 w'∧Fr [b] W w'):=Hd fun W hW=>by
  have h:=Number_rs hW 4096
  rw[show (((4096:Nat)):Int)=4096 from rfl] at h
  rw[←hKK];exact h
 have HV:=Hd (And.intro hav (And.intro hlv (And.intro hKK hK4)))
 clear hA hA' hav hlv hKK hK4 hb4
 go_upto_region 8 with (go_at_call 50;(with_reducible refine HA.out.mono ?_);rintro e w9 ⟨rfl,hrd,hf⟩;have hb9:=H8.out.2.1.fr hf (by have:=HBS.out;simp;omega);have y5:w9.cell? ⟨RB,5,none⟩=some (.int .i64 0):=hb9.c 5;have y5f:=hb9.f 5;have H9:=Hd (And.intro hrd (And.intro hb9 hf));clear hrd hf hb9)
 obtain⟨x9,hx9⟩:=nmd (w9.setCell ⟨RB,5,none⟩ (.int .i64 av))
 have n9:BoxN x9 RB 39 (rcC q.1.kind q.1.number q.1.index av 0 so st (.slice none 0 0)):=by rw[←hx9];exact H9.out.2.1.setAt 5 _
 have f9:Fr [RB] w9 x9:=by rw[←hx9];exact (Fr.refl [RB] w9).set (.inl (by simp)) _
 rw[hx9]
 have hs9:=HBS.out
 have HX9:=Hd (And.intro (H9.out.1.fr f9 (fun k hk=>.inr (by simp at hk;omega))) (And.intro n9 (And.intro ((H8.out.2.2.1.trans H9.out.2.2 (fun k hk=>.inr (by simp at hk;omega))).trans f9 (fun k hk=>.inr (by simp at hk;omega))) ((H8.out.2.2.2.fr H9.out.2.2 (by simp;omega)).fr f9 (by simp;omega)))))
 clear y5 y5f hx9 n9 f9 hs9 H8 H9 HA
 go_upto_region 9 with (go_at_call 50;(with_reducible refine (HL.out x9 HX9.out.1).mono ?_);rintro e wA ⟨rfl,hrd,hf⟩;have hbA:=HX9.out.2.1.fr hf (by have:=HBS.out;simp;omega);have y6:wA.cell? ⟨RB,6,none⟩=some (.int .i64 0):=hbA.c 6;have y6f:=hbA.f 6;have HAA:=Hd (And.intro hrd (And.intro hbA hf));clear hrd hf hbA)
 obtain⟨xA,hxA⟩:=nmd (wA.setCell ⟨RB,6,none⟩ (.int .i64 lv))
 have nA:BoxN xA RB 39 (rcC q.1.kind q.1.number q.1.index av lv so st (.slice none 0 0)):=by rw[←hxA];exact HAA.out.2.1.setAt 6 _
 have fA:Fr [RB] wA xA:=by rw[←hxA];exact (Fr.refl [RB] wA).set (.inl (by simp)) _
 rw[hxA]
 have hsA:=HBS.out
 have HXA:=Hd (And.intro (HAA.out.1.fr fA (fun k hk=>.inr (by simp at hk;omega))) (And.intro nA (And.intro ((HX9.out.2.2.1.trans HAA.out.2.2 (fun k hk=>.inr (by simp at hk;omega))).trans fA (fun k hk=>.inr (by simp at hk;omega))) ((HX9.out.2.2.2.fr HAA.out.2.2 (by simp;omega)).fr fA (by simp;omega)))))
 clear y6 y6f hxA nA fA hsA HX9 HAA HL
 go_upto_region 10 with (go_at_call 50;(with_reducible refine (HK.out xA HXA.out.1).mono ?_);rintro e wB ⟨rfl,hrd,hf⟩;have HBB:=Hd (And.intro hrd hf);clear hrd hf)
 have hj0:DRR w c0 c1 b R2 RB K q.1.kind q.1.number q.1.index av lv so st (dK l).2 (.int .i64 0) wB:=by
  have h:=HBS.out
  have hlt:=HXA.out.2.1.lt
  have hsz:=HBB.out.2.size
  exact⟨0,(dK l).2,[],[],none,0,Nat.zero_le _,rfl,by rw[Nat.sub_zero],rfl,rfl,HBB.out.1,HXA.out.2.1.fr HBB.out.2 (by simp;omega),Own.nil _ _ _,by simp,HXA.out.2.2.2.fr HBB.out.2 (by simp;omega),HXA.out.2.2.1.trans HBB.out.2 (fun k hk=>.inr (by simp at hk;omega)),by simp[blk],by omega⟩
 have HJ0:=Hd hj0
 clear hj0 HXA HBB HK HT HD H3 H4 H5 H6 H7
 go_loopw [34] (DRR w c0 c1 b R2 RB K q.1.kind q.1.number q.1.index av lv so st (dK l).2) (fun i _=>K - (intOf i).toNat)
 case atStart=>exact HJ0.out
 case round =>
  obtain⟨j,rj,done,xs,A,cp,hj,rfl,hpath,hmap,hlen,hrd,hbR,hown,hxs,hbZ,hfr,hAb,hc1W⟩:=hrel
  by_cases hlt:j<K
  ·have hlt3:(j:Int)<(K:Int):=by omega
   have hRP:=ReadProof_rs hrd hc1W
   obtain⟨pr,hpr⟩:=nmd (rdPf rj)
   have HRP:=Hd hRP
   have HH:=Hd (And.intro hpath (And.intro hmap (And.intro hlen (And.intro hrd (And.intro hbR (And.intro hown (And.intro hxs (And.intro hbZ (And.intro hfr (And.intro hAb (And.intro hc1W (And.intro hlt hpr))))))))))))
   clear hRP hpath hmap hlen hrd hbR hown hxs hbZ hfr hAb hc1W hpr
   rcases hb1:(rdPf rj).1 with _ | _
   ·go_upto_region 12 with (go_at_call 51;(with_reducible refine HRP.out.mono ?_);rintro e x1 ⟨hrdx,hfx,_,hno⟩;have he:=hno hb1;subst he;have HX:=Hd hfx;clear hrdx hfx hno)
    obtain⟨x2,hx2⟩:=nmd (x1.alloc (.cells #[.int .i64 0,.int .i64 0,.string ⟨#[]⟩,.slice none 0 0] 53))
    have f2:Fr [b] wr x2:=by rw[←hx2];exact HX.out.alloc _
    rw[hx2]
    have hbs:=HBS.out
    have hF2:Fr [] w x2:=HH.out.2.2.2.2.2.2.2.2.1.trans f2 (fun k hk=>.inr (by simp at hk;omega))
    have hZ2:=HH.out.2.2.2.2.2.2.2.1.fr f2 (by simp;omega)
    have H2:=Hd (And.intro hZ2 hF2)
    clear hx2 f2 hbs hF2 hZ2
    have hbr:=H2.out.1
    have HZR:=Hd (And.intro hbr H2.out.2)
    unfold rcZC at hbr
    obtain⟨z0,z1,z2,z3,z4,z5,z6,z7⟩:=hbr.m8
    have vv0:=hbr.f 0
    have vv1:=hbr.f 1
    have vv2:=hbr.f 2
    have vv3:=hbr.f 3
    have vv4:=hbr.f 4
    have vv5:=hbr.f 5
    have vv6:=hbr.f 6
    have vv7:=hbr.f 7
    clear hbr
    go_wp2_with fail
    obtain⟨wE,hW2⟩:=nmd (((((((((((x2).setCell ⟨R2,0,none⟩ (.int .i64 0)).setCell ⟨R2,1,none⟩ (.string ⟨#[]⟩)).setCell ⟨R2,2,none⟩ (.int .i64 0)).setCell ⟨R2,3,none⟩ (.int .i64 0)).setCell ⟨R2,4,none⟩ (.string ⟨#[]⟩)).setCell ⟨R2,5,none⟩ (.int .i64 0))).setCell ⟨R2,6,none⟩ (.int .i64 0)).setCell ⟨R2,7,none⟩ (.slice none 0 0)))
    have nE:BoxN wE (R2) 39 #[.int .i64 0,.string ⟨#[]⟩,.int .i64 0,.int .i64 0,.string ⟨#[]⟩,.int .i64 0,.int .i64 0,.slice none 0 0]:=by rw[←hW2];exact ((((((((HZR.out.1.setAt 0 _).setAt 1 _).setAt 2 _).setAt 3 _).setAt 4 _).setAt 5 _).setAt 6 _).setAt 7 _)
    have fE:Fr [R2] (x2) wE:=by rw[←hW2];exact ((((((((Fr.refl [R2] (x2)).set (.inl (by simp)) _).set (.inl (by simp)) _).set (.inl (by simp)) _).set (.inl (by simp)) _).set (.inl (by simp)) _).set (.inl (by simp)) _).set (.inl (by simp)) _).set (.inl (by simp)) _
    rw[hW2]
    clear hW2
    obtain⟨t0,t1,t2,t3,t4,t5,t6,t7⟩:=nE.m8
    try simp only[Exit.inBlock,Exit.then]
    refine bodyPost_ret (v:=.tuple #[.agg #[.int .i64 0,.string ⟨#[]⟩,.int .i64 0,.int .i64 0,.string ⟨#[]⟩,.int .i64 0,.int .i64 0,.slice none 0 0],.int .i64 3]) (by simp[results,Tryz.results16,go_sem,t0,t1,t2,t3,t4,t5,t6,t7]) rfl ?_
    have hR2:=HR2.out
    refine⟨HZR.out.2.trans fE (fun q hq=>.inr (by simp at hq;omega)),fun c hc=>?_,fun _=>rfl⟩
    exfalso
    rw[HE.out.1] at hc
    obtain⟨m,hm⟩:∃ m,K - j=m+1:=⟨K - j - 1,by omega⟩
    have hpth:=HH.out.1
    rw[hm,rdPfs,hb1] at hpth
    simp only[Bool.false_eq_true,if_false] at hpth
    have hP1:(dP l).1=false:=by
     unfold dP
     rw[HV.out.2.2.1,Int.toNat_natCast,←hpth]
    unfold decR at hc
    rw[HQ.out,if_neg (by simpa using h),if_pos hP1] at hc
    cases hc
   ·obtain⟨tx,htx⟩:∃ s,encN (rdPf rj).2.1.text=.string s:=⟨_,rfl⟩
    go_upto_region 12 with (go_at_call 51;(with_reducible refine HRP.out.mono ?_);rintro e x1 ⟨hrdx,hfx,hyes,_⟩;obtain⟨A1,ca,he,ho1,hk1⟩:=hyes hb1;rw[htx] at he;subst he;have HX:=Hd (And.intro hrdx (And.intro hfx (And.intro ho1 hk1)));clear hrdx hfx hyes ho1 hk1)
    obtain⟨ix,hix⟩:=nmd ((rdPf rj).2.1.idx)
    obtain⟨n1,hn1⟩:=nmd ((rdPf rj).2.1.path.length)
    rw[hix,hn1]
    obtain⟨x2,hx2⟩:=nmd ((x1).alloc (.cells #[.int .i64 ix,.int .i64 0,.string tx,.slice A1 n1 ca] 53))
    have hz2:(x2).heap.size=x1.heap.size+1:=by rw[←hx2,World.size_alloc];try omega
    have n2:BoxN x2 (x1.heap.size) 53 #[.int .i64 ix,.int .i64 0,.string tx,.slice A1 n1 ca]:=by have h0:=BoxN.new (x1) 53 #[.int .i64 ix,.int .i64 0,.string tx,.slice A1 n1 ca];rw[hx2] at h0;rw[show x1.heap.size=(x1).heap.size from by first | rfl | omega];exact h0
    have f2:Fr [] (x1) x2:=by rw[←hx2];exact (Fr.refl [] (x1)).alloc _
    rw[hx2]
    have hbs:=HBS.out
    have hRx:RB<x1.heap.size:=by have h1:=HH.out.2.2.2.2.1.lt;have h2:=HX.out.2.1.size;omega
    obtain⟨BX,hBX⟩:=nmd (x1.heap.size)
    have hb2:BoxN x2 RB 39 (rcC q.1.kind q.1.number q.1.index av lv so st (.slice A j cp)):=(HH.out.2.2.2.2.1.fr HX.out.2.1 (by simp;omega)).fr f2 (by simp)
    rw[hBX] at n2 hRx ⊢
    have y6:=hb2.k6
    obtain⟨p0,p1,p2,p3⟩:=n2.m4
    have p1f:=n2.f 1
    have H2:=Hd (And.intro n2 (And.intro hb2 (And.intro f2 (And.intro hRx hBX))))
    have HT2:=Hd (And.intro htx (And.intro hix hn1))
    clear n2 hb2 f2 hRx hBX hbs hz2 hx2 htx hix hn1
    go_upto_region 15 with fail
    obtain⟨x3,hx3⟩:=nmd (x2.setCell ⟨BX,1,none⟩ (.int .i64 lv))
    have n3:BoxN x3 BX 53 #[.int .i64 ix,.int .i64 lv,.string tx,.slice A1 n1 ca]:=by rw[←hx3];exact H2.out.1.setAt 1 _
    have f3:Fr [BX] x2 x3:=by rw[←hx3];exact (Fr.refl [BX] x2).set (.inl (by simp)) _
    rw[hx3]
    have hb3:BoxN x3 RB 39 (rcC q.1.kind q.1.number q.1.index av lv so st (.slice A j cp)):=H2.out.2.1.fr f3 (by have:=H2.out.2.2.2.1;simp;omega)
    have y7:=hb3.k7
    clear p0 p1 p2 p3 p1f y6 hx3
    obtain⟨p0,p1,p2,p3⟩:=n3.m4
    have hAl:∀ k∈blk A,k<wr.heap.size:=HH.out.2.2.2.2.2.1.lt
    have hwx:wr.heap.size≤BX:=by have h1:=HX.out.2.1.size;have h2:=H2.out.2.2.2.2;omega
    have hbs:=HBS.out
    have hAb:=HH.out.2.2.2.2.2.2.2.2.2.1
    have hO3:Own x3 53 4 A j cp (xs.flatMap (PV.cs lv)):=((HH.out.2.2.2.2.2.1.fr HX.out.2.1 (fun k hk=>by have:=hAb k hk;simp;omega)).fr H2.out.2.2.1 (by simp)).fr f3 (fun k hk=>by have:=hAl k hk;simp;omega)
    have HO3:=Hd hO3
    have H3:=Hd (And.intro hb3 (And.intro f3 (And.intro hAl (And.intro hwx (fun hm=>absurd (hAb RB hm) (by omega):RB ∉ blk A)))))
    have hK4:=HV.out.2.2.2
    obtain⟨ii,hii,iz0,iz1,iz2⟩:=info_proof
    clear n3 hb3 f3 hAl hwx hbs hAb hO3
    go_upto_region 16 with (at_builtin;(with_reducible refine wpList_app_tmp (w:=x3) rfl (.tmp 48) (.tmp 50) 37 rfl 53 ii _ 4 56 Tryz.underlying37 hii iz0 iz1 iz2 rfl (by decide) A j cp (xs.flatMap (PV.cs lv)) rfl HO3.out 1 1 [.int .i64 ix,.int .i64 lv,.string tx,.slice A1 n1 ca] 53 rfl rfl (by simp[Value.oneCell']) (by unfold maxLen;omega) (by omega) ?_);intro A2 c2 x4 ho hf hs;have hb4:=H3.out.1.fr hf H3.out.2.2.2.2;have q0:x4.cell? ⟨RB,7,none⟩=some (.slice A j cp):=hb4.c 7;have q1:=hb4.f 7;have H4:=Hd (And.intro ho (And.intro hf (And.intro hs hb4)));clear ho hf hs hb4)
    obtain⟨x5,hx5⟩:=nmd (x4.setCell ⟨RB,7,none⟩ (.slice A2 (j+1) c2))
    have n5:BoxN x5 RB 39 (rcC q.1.kind q.1.number q.1.index av lv so st (.slice A2 (j+1) c2)):=by rw[←hx5];exact H4.out.2.2.2.setAt 7 _
    have f5:Fr [RB] x4 x5:=by rw[←hx5];exact (Fr.refl [RB] x4).set (.inl (by simp)) _
    rw[hx5]
    have H5:=Hd (And.intro n5 f5)
    clear p0 p1 p2 p3 y7 q0 q1 hx5 n5 f5 iz0 iz1 iz2 hii
    go_wp2_with fail
    go_roundw
    case rel =>
     have hbs:=HBS.out
     have hAb:=HH.out.2.2.2.2.2.2.2.2.2.1
     have hRBl:RB<wr.heap.size:=HH.out.2.2.2.2.1.lt
     have F1:Fr [b] wr x1:=HX.out.2.1
     have F2:Fr [] x1 x2:=H2.out.2.2.1
     have F3:Fr [BX] x2 x3:=H3.out.2.1
     have F4:Fr (blk A) x3 x4:=H4.out.2.1
     have F5:Fr [RB] x4 x5:=H5.out.2
     have hBX:RB<BX:=H2.out.2.2.2.1
     have hx1:x1.heap.size=BX:=H2.out.2.2.2.2
     have hBl:BX<x2.heap.size:=H2.out.1.lt
     have s23:=F3.size
     have s34:=F4.size
     have s45:=F5.size
     have hwx:wr.heap.size≤BX:=H3.out.2.2.2.1
     have hAl:∀ q∈blk A,q<wr.heap.size:=H3.out.2.2.1
     have hA2:∀ q∈blk A2,q∈blk A ∨ x3.heap.size≤q:=H4.out.2.2.1
     have keep:∀ q,q≠b→q≠BX→q ∉ blk A→q≠RB→q<wr.heap.size→x5.heap[q]?=wr.heap[q]?:=fun q h1 h2 h3 h4 h5=>by
      rw[F5.block q (by omega) (by simpa using h4),F4.block q (by omega) h3,F3.block q (by omega) (by simpa using h2),F2.block q (by omega) (by simp),F1.block q h5 (by simpa using h1)]
     obtain⟨m,hm⟩:∃ m,K - j=m+1:=⟨K - j - 1,by omega⟩
     have hpth:=HH.out.1
     rw[hm,rdPfs,hb1] at hpth
     simp only[if_true] at hpth
     refine⟨j+1,(rdPf rj).2.2,done++[(rdPf rj).2.1],xs++[⟨(rdPf rj).2.1,A1,ca⟩],A2,c2,by omega,by go_num,by rw[show K - (j+1)=m by omega];exact hpth,by rw[List.map_append,HH.out.2.1];rfl,by simp[HH.out.2.2.1],?_,H5.out.1,?_,?_,?_,?_,?_,by have:=HH.out.2.2.2.2.2.2.2.2.2.2.1;omega⟩
     ·exact (((HX.out.1.fr0 F2).fr F3 (fun q hq=>.inr (by simp at hq;omega))).fr F4 (fun q hq=>.inr (by have:=hAb q hq;omega))).fr F5 (fun q hq=>.inr (by simp at hq;omega))
     ·have h1:=H4.out.1.fr F5 (fun q hq=>by
       simp only[List.mem_singleton]
       rintro rfl
       rcases hA2 q hq with h2 | h2
       ·exact H3.out.2.2.2.2 h2
       ·omega)
      rw[List.flatMap_append]
      have h2:PV.cs lv ⟨(rdPf rj).2.1,A1,ca⟩=[.int .i64 ix,.int .i64 lv,.string tx,.slice A1 n1 ca]:=by
       unfold PV.cs
       simp only[HT2.out.1,HT2.out.2.1,HT2.out.2.2]
      simpa [h2] using h1
     ·intro x hx
      rcases List.mem_append.1 hx with hx | hx
      ·obtain⟨h1,h2⟩:=HH.out.2.2.2.2.2.2.1 x hx
       have hl:=Own.lt h1
       refine⟨?_,fun q hq=>⟨(h2 q hq).1,fun hm=>?_⟩⟩
       ·have g1:=Own.fr h1 F1 (fun q hq=>by have:=(h2 q hq).1;simp;omega)
        have g2:=g1.fr F2 (by simp)
        have g3:=g2.fr F3 (fun q hq=>by have:=hl q hq;simp;omega)
        have g4:=g3.fr F4 (fun q hq=>(h2 q hq).2)
        exact g4.fr F5 (fun q hq=>by have:=(h2 q hq).1;simp;omega)
       ·have:=hl q hq
        rcases hA2 q hm with h3 | h3
        ·exact (h2 q hq).2 h3
        ·omega
      ·rw[List.mem_singleton] at hx
       subst hx
       have h1:=HX.out.2.2.1
       have hl:=h1.lt
       have h2:∀ q∈blk A1,wr.heap.size≤q:=HX.out.2.2.2
       refine⟨?_,fun q hq=>⟨by have:=h2 q hq;omega,fun hm=>?_⟩⟩
       ·have g2:=h1.fr F2 (by simp)
        have g3:=g2.fr F3 (fun q hq=>by have:=hl q hq;simp;omega)
        have g4:=g3.fr F4 (fun q hq hm=>by have:=h2 q hq;have:=hAl q hm;omega)
        exact g4.fr F5 (fun q hq=>by have:=h2 q hq;simp;omega)
       ·have e1:=h2 q hq
        have e2:q<x1.heap.size:=hl q hq
        rcases hA2 q hm with h3 | h3
        ·have:=hAl q h3;omega
        ·have:=F2.size;omega
     ·exact (((((HH.out.2.2.2.2.2.2.2.1.fr F1 (by simp;omega)).fr F2 (by simp)).fr F3 (by simp;omega)).fr F4 (fun hm=>by have:=hAb R2 hm;omega)).fr F5 (by simp;omega))
     ·have g:=HH.out.2.2.2.2.2.2.2.2.1
      exact ((((g.trans F1 (fun q hq=>.inr (by simp at hq;omega))).then F2).trans F3 (fun q hq=>.inr (by simp at hq;omega))).trans F4 (fun q hq=>.inr (by have:=hAb q hq;omega))).trans F5 (fun q hq=>.inr (by simp at hq;omega))
     ·intro q hq
      rcases hA2 q hq with h3 | h3
      ·exact hAb q h3
      ·omega
    case measure=>simp[intOf];omega
  ·obtain rfl:j=K:=by omega
   have hCl:=Close_rs hrd
   have hbs:=HBS.out
   rw[Nat.sub_self,rdPfs] at hpath
   have hPP:dP l=(true,done,rj):=by
    unfold dP
    rw[HV.out.2.2.1,Int.toNat_natCast,←hpath]
   obtain⟨cl,hcl⟩:=nmd (rdClose rj)
   rw[hcl] at hCl
   have HCL:=Hd hCl
   have HH:=Hd (And.intro hPP (And.intro hmap (And.intro hlen (And.intro hbR (And.intro hown (And.intro hxs (And.intro hbZ (And.intro hfr (And.intro hAb hcl)))))))))
   clear hpath hmap hlen hrd hbR hown hxs hbZ hfr hAb hc1W hCl hPP hcl hbs
   rcases Int.decEq cl 0 with hz | hz
   ·have hce:decide (cl=0)=false:=decide_eq_false hz
    have hce':(cl != 0)=true:=by simp[hz]
    go_upto_region 18 with (go_at_call 52;(with_reducible refine HCL.out.mono ?_);rintro e w' ⟨rfl,rfl⟩)
    have hbr:=HH.out.2.2.2.2.2.2.1
    have HZR:=Hd (And.intro hbr HH.out.2.2.2.2.2.2.2.1)
    unfold rcZC at hbr
    obtain⟨z0,z1,z2,z3,z4,z5,z6,z7⟩:=hbr.m8
    have vv0:=hbr.f 0
    have vv1:=hbr.f 1
    have vv2:=hbr.f 2
    have vv3:=hbr.f 3
    have vv4:=hbr.f 4
    have vv5:=hbr.f 5
    have vv6:=hbr.f 6
    have vv7:=hbr.f 7
    clear hbr
    go_wp2_with fail
    obtain⟨wE,hW2⟩:=nmd (((((((((((wr).setCell ⟨R2,0,none⟩ (.int .i64 0)).setCell ⟨R2,1,none⟩ (.string ⟨#[]⟩)).setCell ⟨R2,2,none⟩ (.int .i64 0)).setCell ⟨R2,3,none⟩ (.int .i64 0)).setCell ⟨R2,4,none⟩ (.string ⟨#[]⟩)).setCell ⟨R2,5,none⟩ (.int .i64 0))).setCell ⟨R2,6,none⟩ (.int .i64 0)).setCell ⟨R2,7,none⟩ (.slice none 0 0)))
    have nE:BoxN wE (R2) 39 #[.int .i64 0,.string ⟨#[]⟩,.int .i64 0,.int .i64 0,.string ⟨#[]⟩,.int .i64 0,.int .i64 0,.slice none 0 0]:=by rw[←hW2];exact ((((((((HZR.out.1.setAt 0 _).setAt 1 _).setAt 2 _).setAt 3 _).setAt 4 _).setAt 5 _).setAt 6 _).setAt 7 _)
    have fE:Fr [R2] (wr) wE:=by rw[←hW2];exact ((((((((Fr.refl [R2] (wr)).set (.inl (by simp)) _).set (.inl (by simp)) _).set (.inl (by simp)) _).set (.inl (by simp)) _).set (.inl (by simp)) _).set (.inl (by simp)) _).set (.inl (by simp)) _).set (.inl (by simp)) _
    rw[hW2]
    clear hW2
    obtain⟨t0,t1,t2,t3,t4,t5,t6,t7⟩:=nE.m8
    try simp only[Exit.inBlock,Exit.then]
    refine bodyPost_ret (v:=.tuple #[.agg #[.int .i64 0,.string ⟨#[]⟩,.int .i64 0,.int .i64 0,.string ⟨#[]⟩,.int .i64 0,.int .i64 0,.slice none 0 0],.int .i64 3]) (by simp[results,Tryz.results16,go_sem,t0,t1,t2,t3,t4,t5,t6,t7]) rfl ?_
    have hR2:=HR2.out
    refine⟨HZR.out.2.trans fE (fun q hq=>.inr (by simp at hq;omega)),fun c hc=>?_,fun _=>rfl⟩
    exfalso
    rw[HE.out.1] at hc
    unfold decR at hc
    rw[HQ.out,if_neg (by simpa using h),HH.out.1,if_neg (by simp),if_pos (by rw[HH.out.2.2.2.2.2.2.2.2.2];exact hz)] at hc
    cases hc
   ·have hce:decide (cl=0)=true:=decide_eq_true hz
    have hce':(cl != 0)=false:=by simp[hz]
    have hbr:=HH.out.2.2.2.1
    have hbz:=HH.out.2.2.2.2.2.2.1
    unfold rcC at hbr
    unfold rcZC at hbz
    go_upto_region 19 with (go_at_call 52;(with_reducible refine HCL.out.mono ?_);rintro e w' ⟨rfl,rfl⟩)
    obtain⟨p0,p1,p2,p3,p4,p5,p6,p7⟩:=hbr.m8
    obtain⟨z0,z1,z2,z3,z4,z5,z6,z7⟩:=hbz.m8
    have vv0:=hbz.f 0
    have vv1:=hbz.f 1
    have vv2:=hbz.f 2
    have vv3:=hbz.f 3
    have vv4:=hbz.f 4
    have vv5:=hbz.f 5
    have vv6:=hbz.f 6
    have vv7:=hbz.f 7
    have HBZ:=Hd hbz
    clear hbr hbz
    go_wp2_with fail
    obtain⟨wE,hW2⟩:=nmd (((((((((((wr).setCell ⟨R2,0,none⟩ (.int .i64 q.1.kind)).setCell ⟨R2,1,none⟩ (.string so)).setCell ⟨R2,2,none⟩ (.int .i64 q.1.number)).setCell ⟨R2,3,none⟩ (.int .i64 q.1.index)).setCell ⟨R2,4,none⟩ (.string st)).setCell ⟨R2,5,none⟩ (.int .i64 av))).setCell ⟨R2,6,none⟩ (.int .i64 lv)).setCell ⟨R2,7,none⟩ (.slice A j cp)))
    have nE:BoxN wE (R2) 39 #[.int .i64 q.1.kind,.string so,.int .i64 q.1.number,.int .i64 q.1.index,.string st,.int .i64 av,.int .i64 lv,.slice A j cp]:=by rw[←hW2];exact ((((((((HBZ.out.setAt 0 _).setAt 1 _).setAt 2 _).setAt 3 _).setAt 4 _).setAt 5 _).setAt 6 _).setAt 7 _)
    have fE:Fr [R2] (wr) wE:=by rw[←hW2];exact ((((((((Fr.refl [R2] (wr)).set (.inl (by simp)) _).set (.inl (by simp)) _).set (.inl (by simp)) _).set (.inl (by simp)) _).set (.inl (by simp)) _).set (.inl (by simp)) _).set (.inl (by simp)) _).set (.inl (by simp)) _
    rw[hW2]
    clear hW2
    obtain⟨t0,t1,t2,t3,t4,t5,t6,t7⟩:=nE.m8
    refine bodyPost_ret (v:=.tuple #[.agg #[.int .i64 q.1.kind,.string so,.int .i64 q.1.number,.int .i64 q.1.index,.string st,.int .i64 av,.int .i64 lv,.slice A j cp],.int .i64 0]) (by simp[results,Tryz.results16,go_sem,t0,t1,t2,t3,t4,t5,t6,t7]) rfl ?_
    have hbs:=HBS.out
    have hdec:decR s.data.toList=some ⟨q.1,av,lv,done⟩:=by
     rw[HE.out.1]
     unfold decR
     rw[HQ.out,if_neg (by simpa using h),HH.out.1,if_neg (by simp),if_neg (by rw[HH.out.2.2.2.2.2.2.2.2.2];simpa using hz),HV.out.1,HV.out.2.1]
    refine⟨HH.out.2.2.2.2.2.2.2.1.trans fE (fun q hq=>.inr (by simp at hq;omega)),fun c hc=>?_,fun hn=>by rw[hdec] at hn;cases hn⟩
    rw[hdec] at hc
    injection hc with hc
    subst hc
    refine⟨so,st,A,cp,xs,HSO.out.1,HSO.out.2,?_,HH.out.2.1,?_,fun x hx=>?_⟩
    ·show _=Ending.returned (.tuple #[.agg (rcC q.1.kind q.1.number q.1.index av lv so st (.slice A done.length cp)),.int .i64 0])
     rw[HH.out.2.2.1]
     rfl
    ·show Own wE 53 4 A done.length cp (xs.flatMap (PV.cs lv))
     rw[HH.out.2.2.1]
     exact HH.out.2.2.2.2.1.fr fE (fun k hk=>by have:=HH.out.2.2.2.2.2.2.2.2.1 k hk;simp;omega)
    ·obtain⟨h1,h2⟩:=HH.out.2.2.2.2.2.1 x hx
     exact Own.fr h1 fE (fun k hk=>by have:=(h2 k hk).1;simp;omega)
end Go.Proofs.YtlpmiimgacfmkaaGreatDoor
