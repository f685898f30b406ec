/- logtree: leftSize, Len, New. -/
import Derived.Test.YtlpmiimgacfmkaaGreatDoorROb4
import Derived.Test.YtlpmiimgacfmkaaGreatDoorRShelf1
import Derived.Test.YtlpmiimgacfmkaaGreatDoorRWr4
set_option linter.all false
namespace Go.Proofs.YtlpmiimgacfmkaaGreatDoor
open Go.RowKit
set_option maxHeartbeats 1000000
def leftS (n:Nat):Nat:=2 ^ (Lib.bitLen (n - 1) - 1)
theorem bitLenAux_le:∀ (f x:Nat),Lib.bitLenAux f x≤f
 | 0,x=>by simp[Lib.bitLenAux]
 | f+1,x=>by
  unfold Lib.bitLenAux
  split
  ·omega
  ·have:=bitLenAux_le f (x / 2);omega
theorem bitLen_le {k x:Nat} (h:x<2 ^ k) (hk:k≤64):Lib.bitLen x≤k:=by
 unfold Lib.bitLen
 rw[Lib.bitLenAux_fuel k x h 64 hk]
 exact bitLenAux_le k x
theorem leftSize_any (n:Nat) (h1:2≤n) (h2:n≤1048576) (w:World):Calls Tryz.prog 171 #[.int .i64 (n:Int)] w fun e w'=>e=.returned (.int .i64 (leftS n:Nat))∧w'=w:=by
 have hs:IntKind.i64.wrap ((n:Int) - 1)=((n - 1:Nat):Int):=by simp only[IntKind.wrap_i64];omega
 have hl1:1≤Lib.bitLen (n - 1):=by rw[Lib.bitLen_half (n - 1) (by omega) (by omega)];omega
 have hl2:Lib.bitLen (n - 1)≤20:=bitLen_le (by omega) (by omega)
 have hfin:wrap64 (2 ^ (Lib.bitLen (n - 1) - 1))=((leftS n:Nat):Int):=by
  unfold leftS
  have h3:(2:Nat) ^ (Lib.bitLen (n - 1) - 1)≤2 ^ 19:=Nat.pow_le_pow_right (by omega) (by omega)
  have h4:((2:Int) ^ (Lib.bitLen (n - 1) - 1))=((2 ^ (Lib.bitLen (n - 1) - 1):Nat):Int):=by simp
  rw[h4]
  generalize (2:Nat) ^ (Lib.bitLen (n - 1) - 1)=z at h3 ⊢
  simp only[wrap64]
  omega
 have HFI:=Hd hfin
 clear hfin
 have hb:=Tryz.bits_Len ((n - 1:Nat):Int) w (by omega) (by omega)
 rw[show (((n - 1:Nat):Int)).toNat=n - 1 from rfl] at hb
 have HB:=Hd hb
 clear hb
 go_enter Tryz.func171,Tryz.ntmps171
 go_wp2_with ((go_at_call 172;(with_reducible refine HB.out.mono ?_);rintro e w1 ⟨rfl,rfl⟩))
 go_ret
 exact⟨by rw[←HFI.out];rfl,rfl⟩
theorem NewTree_any (w:World):Calls Tryz.prog 87 #[] w fun e w'=>e=.returned (.pointer (some ⟨w.heap.size,0,none⟩))∧BoxN w' w.heap.size 237 #[.slice none 0 0,.map none]∧Fr [] w w':=by
 go_enter Tryz.func87,Tryz.ntmps87
 go_wp2_with fail
 go_ret
 exact⟨rfl,BoxN.new w _ _,(Fr.refl [] w).alloc _⟩
set_option maxRecDepth 100000
set_option maxHeartbeats 4000000
structure KY where
 rnd:Int
 phase:Int
 idx:Int
 lin:Nm
def encK (k:KY):Value:=.agg #[.int .i64 k.rnd,.int .i64 k.phase,.int .i64 k.idx,encN k.lin]
def cmpK (a b:KY):Int:=orL [Lib.compareInt a.rnd b.rnd,Lib.compareInt a.phase b.phase,Lib.compareInt a.idx b.idx,cmpL (ordsOf a.lin) (ordsOf b.lin)]
theorem four_row (w:World) (d1 d2 d3 d4:Int) (t:TypeId):Row ((w.alloc (.cells #[.int .i64 d1,.int .i64 d2,.int .i64 d3,.int .i64 d4] t))) (w.alloc (.cells #[.int .i64 d1,.int .i64 d2,.int .i64 d3,.int .i64 d4] t)).heap.size 1 (some ⟨w.heap.size,0,none⟩) 4 ([d1,d2,d3,d4].map encI):=by
 refine⟨by simp,fun _=>⟨_,0,rfl,by simp,fun j u hu=>?_⟩⟩
 have:=new_cells w [.int .i64 d1,.int .i64 d2,.int .i64 d3,.int .i64 d4] t j u (by simpa [encI] using hu)
 rw[add_mid'] at this
 rw[Nat.zero_add]
 exact this
theorem CompareK_any (a b:KY) (w:World) (va:validB a.lin=true) (vb:validB b.lin=true) (ha:a.lin.length≤4294967280) (hb:b.lin.length≤4294967280):Calls Tryz.prog 91 #[encK a,encK b] w (CmpOPost w (cmpK a b)):=by
 obtain⟨r,hr⟩:=nmd (cmpK a b)
 rw[hr]
 unfold cmpK at hr
 obtain⟨n1,i1,j1,o1⟩:=a
 obtain⟨n2,i2,j2,o2⟩:=b
 unfold encK
 simp only at va vb ha hb hr ⊢
 obtain⟨p1,hp1,hp1',hp1s⟩:=str_of o1
 obtain⟨p2,hp2,hp2',hp2s⟩:=str_of o2
 rw[hp1,hp2]
 obtain⟨w1,hw1⟩:=nmd (w.alloc (.cells #[.int .i64 n1,.int .i64 i1,.int .i64 j1,.string p1] 89))
 obtain⟨w2,hw2⟩:=nmd (w1.alloc (.cells #[.int .i64 n2,.int .i64 i2,.int .i64 j2,.string p2] 89))
 have hf2:Fr [] w w2:=by rw[←hw2,←hw1];exact ((Fr.refl [] w).alloc _).alloc _
 have hA:BoxN w2 w.heap.size 89 #[.int .i64 n1,.int .i64 i1,.int .i64 j1,.string p1]:=by rw[←hw2,←hw1];exact (BoxN.new w _ _).alloc _
 have hB:BoxN w2 (w.heap.size+1) 89 #[.int .i64 n2,.int .i64 i2,.int .i64 j2,.string p2]:=by rw[←hw2];have:=BoxN.new w1 89 #[.int .i64 n2,.int .i64 i2,.int .i64 j2,.string p2];rw[show w1.heap.size=w.heap.size+1 by rw[←hw1,World.size_alloc]] at this;exact this
 have hC:=fun W=>Compare_valid p1 p2 W (by omega) (by omega) (by rw[hp1'];exact va) (by rw[hp2'];exact vb)
 rw[hp1',hp2'] at hC
 have hss:∀ W,Fr [] w2 W→W.cell? ⟨w.heap.size,0,none⟩=some (.int .i64 n1)∧W.cell? ⟨w.heap.size+1,0,none⟩=some (.int .i64 n2)∧W.cell? ⟨w.heap.size,1,none⟩=some (.int .i64 i1)∧W.cell? ⟨w.heap.size+1,1,none⟩=some (.int .i64 i2)∧W.cell? ⟨w.heap.size,2,none⟩=some (.int .i64 j1)∧W.cell? ⟨w.heap.size+1,2,none⟩=some (.int .i64 j2)∧W.cell? ⟨w.heap.size,3,none⟩=some (.string p1)∧W.cell? ⟨w.heap.size+1,3,none⟩=some (.string p2):=fun W hf =>
  have qa:=hA.fr hf (by simp)
  have qb:=hB.fr hf (by simp)
  ⟨qa.c 0,qb.c 0,qa.c 1,qb.c 1,qa.c 2,qb.c 2,qa.c 3,qb.c 3⟩
 have HK1:=Hd (fun W=>Tryz.cmp_Compare_int n1 n2 W)
 have HK2:=Hd (fun W=>Tryz.cmp_Compare_int i1 i2 W)
 have HK3:=Hd (fun W=>Tryz.cmp_Compare_int j1 j2 W)
 have HC:=Hd hC
 have HR:=Hd hr
 have HSS:=Hd hss
 have HW1:=Hd hw1
 have HW2:=Hd hw2
 have HF2:=Hd hf2
 clear hr hw1 hw2 hf2 hA hB hC hss va vb hp1 hp2 hp1' hp2' hp1s hp2s
 generalize Lib.compareInt n1 n2=d1 at HK1 HR
 generalize Lib.compareInt i1 i2=d2 at HK2 HR
 generalize Lib.compareInt j1 j2=d3 at HK3 HR
 generalize cmpL (ordsOf o1) (ordsOf o2)=d4 at HC HR
 go_enter Tryz.func91,Tryz.ntmps91
 go_upto_region 1 with fail
 rw[HW1.out,HW2.out]
 generalize hZ:w.heap.size=Z1 at HSS ⊢
 go_region_held3 (fun W=>W.cell? ⟨Z1,0,none⟩=some (.int .i64 n1)∧W.cell? ⟨Z1+1,0,none⟩=some (.int .i64 n2)∧W.cell? ⟨Z1,1,none⟩=some (.int .i64 i1)∧W.cell? ⟨Z1+1,1,none⟩=some (.int .i64 i2)∧W.cell? ⟨Z1,2,none⟩=some (.int .i64 j1)∧W.cell? ⟨Z1+1,2,none⟩=some (.int .i64 j2)∧W.cell? ⟨Z1,3,none⟩=some (.string p1)∧W.cell? ⟨Z1+1,3,none⟩=some (.string p2)) (with_reducible refine HSS.out _ ?_;(repeat (first | exact Fr.refl _ _ | exact hfN | refine Fr.drew ?_ | refine Fr.alloc ?_ _));done) (first
  | (go_at_call 133;(with_reducible refine (HK1.out _).mono ?_);rintro e w7 ⟨rfl,rfl⟩)
  | (go_at_call 133;(with_reducible refine (HK2.out _).mono ?_);rintro e w7 ⟨rfl,rfl⟩)
  | (go_at_call 133;(with_reducible refine (HK3.out _).mono ?_);rintro e w7 ⟨rfl,rfl⟩)
  | (go_at_call 152;(with_reducible refine (HC.out _).mono ?_);rintro e w3 ⟨rfl,hb3⟩;have hfN:=(Fr.refl [] w2).drew.then (Fr.of_below hb3))
  | (go_at_call 132;(with_reducible refine (Or_any _ 4 4 _ [d1,d2,d3,d4] _ (four_row _ d1 d2 d3 d4 _) (by omega)).mono ?_);rintro e w7 ⟨rfl,rfl⟩))
 all_goals
  go_wp2_with fail
  go_ret
  exact⟨by rw[HR.out];rfl,by repeat (first | exact HF2.out.then hfN | refine Fr.drew ?_ | refine Fr.alloc ?_ _)⟩
def encKey (k:KY):Nm:=((encU k.rnd.toNat++encU k.phase.toNat)++encU k.idx.toNat)++encT k.lin
theorem WrS.blt {a w:World} {b:Nat} {bs:Nm} (h:WrS a b bs w):b<w.heap.size:=by obtain⟨A,h1,_⟩:=h;exact h1.lt
theorem WrS.alloc {a w:World} {b:Nat} {bs:Nm} (h:WrS a b bs w) (o:Obj):WrS a b bs (w.alloc o):=h.more ((Fr.refl [] w).alloc _) h.blt
theorem KeyWrite_wk (k:KY) (a w:World) (b:Nat) (bs:Nm) (h:WrS a b bs w) (h1:0≤k.rnd∧k.rnd≤9223372036854775807) (h2:0≤k.phase∧k.phase≤9223372036854775807) (h3:0≤k.idx∧k.idx≤9223372036854775807) (h4:k.lin.length≤16777216) (hL:bs.length≤70368700000000) :
 Calls Tryz.prog 121 #[encK k,.pointer (some ⟨b,0,none⟩)] w fun e w'=>e=.returned (.tuple #[])∧WrS a b (bs++encKey k) w'∧Kp b w w':=by
 obtain⟨n,i,j,o⟩:=k
 unfold encK encKey
 simp only at h1 h2 h3 h4 ⊢
 obtain⟨p,hp,_,_⟩:=str_of o
 have hbl:=h.blt
 obtain⟨w1,hw1⟩:=nmd (w.alloc (.cells #[.int .i64 n,.int .i64 i,.int .i64 j,.string p] 89))
 have hs1:WrS a b bs w1:=by rw[←hw1];exact h.alloc _
 have hb1:BoxN w1 w.heap.size 89 #[.int .i64 n,.int .i64 i,.int .i64 j,.string p]:=by rw[←hw1];exact BoxN.new w _ _
 have hk1:Kp b w w1:=by rw[←hw1];exact Kp.fr0 ((Fr.refl [] w).alloc _)
 have hne:w.heap.size≠b:=by omega
 have e1:=encU_len9 (u:=n.toNat) (by omega)
 have e2:=encU_len9 (u:=i.toNat) (by omega)
 have e3:=encU_len9 (u:=j.toNat) (by omega)
 have x0:=hb1.k0
 have hT:=Number_wk hs1 n.toNat (by omega) (by omega)
 rw[show ((n.toNat:Nat):Int)=n by omega] at hT
 have HT:=Hd hT
 have HB1:=Hd hb1
 have HK1:=Hd hk1
 have HW1:=Hd hw1
 have HP:=Hd hp
 have HE:=Hd (And.intro e1 (And.intro e2 (And.intro e3 (And.intro h2 (And.intro h3 (And.intro h4 hL))))))
 rw[hp]
 clear hT hb1 hk1 hw1 hs1 h h1 h2 h3 h4 e1 e2 e3 hL hp
 go_enter Tryz.func121,Tryz.ntmps121
 go_upto_region 1 with fail
 rw[HW1.out]
 go_upto_region 2 with ((go_at_call 57;(with_reducible refine HT.out.mono ?_);rintro e w2 ⟨rfl,hs2,hk2⟩))
 have HB2:=Hd (hk2 _ _ _ (by decide) hne HB1.out)
 have HK2:=Hd (HK1.out.trans hk2)
 obtain⟨e1,e2,e3,h2,h3,h4,hL⟩:=HE.out
 have x1:=HB2.out.k1
 have hT:=Number_wk hs2 i.toNat (by omega) (by simp only[List.length_append];omega)
 rw[show ((i.toNat:Nat):Int)=i by omega] at hT
 have HT2:=Hd hT
 clear hT hk2 hs2 e1 e2 e3 h2 h3 h4 hL x0 HT HB1 HK1 HW1
 go_upto_region 3 with ((go_at_call 57;(with_reducible refine HT2.out.mono ?_);rintro e w3 ⟨rfl,hs3,hk3⟩))
 have HB3:=Hd (hk3 _ _ _ (by decide) hne HB2.out)
 have HK3:=Hd (HK2.out.trans hk3)
 obtain⟨e1,e2,e3,h2,h3,h4,hL⟩:=HE.out
 have x2:=HB3.out.k2
 have hT:=Number_wk hs3 j.toNat (by omega) (by simp only[List.length_append];omega)
 rw[show ((j.toNat:Nat):Int)=j by omega] at hT
 have HT3:=Hd hT
 clear hT hk3 hs3 e1 e2 e3 h2 h3 h4 hL x1 HT2 HB2 HK2
 go_upto_region 4 with ((go_at_call 57;(with_reducible refine HT3.out.mono ?_);rintro e w4 ⟨rfl,hs4,hk4⟩))
 have HB4:=Hd (hk4 _ _ _ (by decide) hne HB3.out)
 have HK4:=Hd (HK3.out.trans hk4)
 obtain⟨e1,e2,e3,h2,h3,h4,hL⟩:=HE.out
 have x3:=HB4.out.k3
 have hT:=Text_wk hs4 o h4 (by simp only[List.length_append];omega)
 rw[HP.out] at hT
 have HT4:=Hd hT
 clear hT hk4 hs4 e1 e2 e3 h2 h3 h4 hL x2 HT3 HB3 HK3
 go_wp2_with ((go_at_call 56;(with_reducible refine HT4.out.mono ?_);rintro e w5 ⟨rfl,hs5,hk5⟩;have HS5:=Hd hs5;have HK5:=Hd (HK4.out.trans hk5);clear hs5 hk5))
 go_end0
 exact⟨rfl,by have:=HS5.out;simpa only[List.append_assoc] using this,HK5.out⟩
def rdKey (r:RS):KY × RS :=
 let n:=rdNum 1073741824 r
 let i:=rdNum 2 n.2
 let j:=rdNum 999999 i.2
 let o:=rdText 16777216 j.2
 (⟨n.1,i.1,j.1,o.1⟩,o.2)
structure KSt (w:World) (c0 c1 b D:Nat) (cs:Array Value) (r:RS) (W:World):Prop where
 rd:RdS c0 c1 b r W
 kb:BoxN W D 89 cs
 zb:BoxN W w.heap.size 89 #[.int .i64 0,.int .i64 0,.int .i64 0,.string ⟨#[]⟩]
 fr:Fr [b] w W
 h1:c1≤w.heap.size
 h2:w.heap.size<D
section
variable {w W W':World} {c0 c1 b D:Nat} {cs cs':Array Value} {r r':RS}
theorem KSt.bb (h:KSt w c0 c1 b D cs r W):c0≤b∧b<c1:=by obtain⟨A,_,h1,h2,_⟩:=h.rd;exact⟨h1,h2⟩
theorem KSt.called (h:KSt w c0 c1 b D cs r W) (hr:RdS c0 c1 b r' W') (hf:Fr [b] W W'):KSt w c0 c1 b D cs r' W':=by
 have hb:=h.bb
 have e1:=h.h1;have e2:=h.h2
 exact⟨hr,h.kb.fr hf (by simp;omega),h.zb.fr hf (by simp;omega),h.fr.then hf,e1,e2⟩
theorem KSt.set (h:KSt w c0 c1 b D cs r W) (j:Nat) (v:Value) (hn:cs.setIfInBounds j v=cs'):KSt w c0 c1 b D cs' r (W.setCell ⟨D,j,none⟩ v):=by
 have hb:=h.bb
 have e1:=h.h1;have e2:=h.h2
 have hf:Fr [D] W (W.setCell ⟨D,j,none⟩ v):=(Fr.refl [D] W).set (.inl (by simp)) _
 refine⟨h.rd.fr hf (by simp;omega),?_,h.zb.fr hf (by simp;omega),h.fr.set (.inr (by show _≤D;omega)) _,e1,e2⟩
 rw[←hn]
 exact h.kb.setAt j v
end
theorem readKey_rs (c0 c1 b:Nat) (r:RS) (w:World) (h:RdS c0 c1 b r w) (hc:c1≤w.heap.size) :
 Calls Tryz.prog 176 #[.pointer (some ⟨b,0,none⟩)] w fun e w'=>e=.returned (encK (rdKey r).1)∧RdS c0 c1 b (rdKey r).2 w'∧Fr [b] w w':=by
 unfold rdKey encK
 simp only
 obtain⟨str,hstr,_,_⟩:=str_of (rdText 16777216 (rdNum 999999 (rdNum 2 (rdNum 1073741824 r).2).2).2).1
 rw[hstr]
 have HSTR:=Hd hstr
 clear hstr
 obtain⟨w1,hw1⟩:=nmd (w.alloc (.cells #[.int .i64 0,.int .i64 0,.int .i64 0,.string ⟨#[]⟩] 89))
 obtain⟨w2,hw2⟩:=nmd (w1.alloc (.cells #[.int .i64 0,.int .i64 0,.int .i64 0,.string ⟨#[]⟩] 89))
 have hsz:w1.heap.size=w.heap.size+1:=by rw[←hw1,World.size_alloc]
 have hst:KSt w c0 c1 b (w.heap.size+1) #[.int .i64 0,.int .i64 0,.int .i64 0,.string ⟨#[]⟩] r w2:=by
  refine⟨?_,?_,?_,?_,hc,by omega⟩
  ·rw[←hw2,←hw1];exact h.fr0 (((Fr.refl [] w).alloc _).alloc _)
  ·rw[←hw2,←hsz];exact BoxN.new w1 _ _
  ·rw[←hw2,←hw1];exact (BoxN.new w _ _).alloc _
  ·rw[←hw2,←hw1];exact ((Fr.refl [b] w).alloc _).alloc _
 have HW1:=Hd hw1
 have HW2:=Hd hw2
 clear hw1 hw2 hsz h
 go_enter Tryz.func176,Tryz.ntmps176
 go_upto_region 2 with fail
 rw[HW1.out,HW2.out]
 have hT1:=Number_rs hst.rd 1073741824
 rw[show (((1073741824:Nat)):Int)=1073741824 from rfl] at hT1
 have HT1:=Hd hT1
 have HS1:=Hd hst
 clear hT1 hst
 go_upto_region 3 with ((go_at_call 50;(with_reducible refine HT1.out.mono ?_);rintro e w7 ⟨rfl,hrd,hf7⟩;have h7:=HS1.out.called hrd hf7;have hfin:=h7.set (cs':=#[.int .i64 (rdNum 1073741824 r).1,.int .i64 0,.int .i64 0,.string ⟨#[]⟩]) 0 (.int .i64 (rdNum 1073741824 r).1) rfl;have dc:=h7.kb.c 0;have df:=h7.kb.f 0;simp only[List.getElem?_toArray,List.getElem?_cons_zero,List.getElem?_cons_succ] at dc;have HFN:=Hd hfin;clear hrd hf7 h7 hfin))
 obtain⟨w8,hw8⟩:=nmd (w7.setCell ⟨w.heap.size+1,0,none⟩ (.int .i64 (rdNum 1073741824 r).1))
 have hst:=HFN.out
 rw[hw8] at hst ⊢
 clear hw8 dc df HFN HS1 HT1
 have hT2:=Number_rs hst.rd 2
 rw[show (((2:Nat)):Int)=2 from rfl] at hT2
 have HT2:=Hd hT2
 have HS2:=Hd hst
 clear hT2 hst
 go_upto_region 4 with ((go_at_call 50;(with_reducible refine HT2.out.mono ?_);rintro e w7 ⟨rfl,hrd,hf7⟩;have h7:=HS2.out.called hrd hf7;have hfin:=h7.set (cs':=#[.int .i64 (rdNum 1073741824 r).1,.int .i64 (rdNum 2 (rdNum 1073741824 r).2).1,.int .i64 0,.string ⟨#[]⟩]) 1 (.int .i64 (rdNum 2 (rdNum 1073741824 r).2).1) rfl;have dc:=h7.kb.c 1;have df:=h7.kb.f 1;simp only[List.getElem?_toArray,List.getElem?_cons_zero,List.getElem?_cons_succ] at dc;have HFN:=Hd hfin;clear hrd hf7 h7 hfin))
 obtain⟨w8,hw8⟩:=nmd (w7.setCell ⟨w.heap.size+1,1,none⟩ (.int .i64 (rdNum 2 (rdNum 1073741824 r).2).1))
 have hst:=HFN.out
 rw[hw8] at hst ⊢
 clear hw8 dc df HFN HS2 HT2
 have hT3:=Number_rs hst.rd 999999
 rw[show (((999999:Nat)):Int)=999999 from rfl] at hT3
 have HT3:=Hd hT3
 have HS3:=Hd hst
 clear hT3 hst
 go_upto_region 5 with ((go_at_call 50;(with_reducible refine HT3.out.mono ?_);rintro e w7 ⟨rfl,hrd,hf7⟩;have h7:=HS3.out.called hrd hf7;have hfin:=h7.set (cs':=#[.int .i64 (rdNum 1073741824 r).1,.int .i64 (rdNum 2 (rdNum 1073741824 r).2).1,.int .i64 (rdNum 999999 (rdNum 2 (rdNum 1073741824 r).2).2).1,.string ⟨#[]⟩]) 2 (.int .i64 (rdNum 999999 (rdNum 2 (rdNum 1073741824 r).2).2).1) rfl;have dc:=h7.kb.c 2;have df:=h7.kb.f 2;simp only[List.getElem?_toArray,List.getElem?_cons_zero,List.getElem?_cons_succ] at dc;have HFN:=Hd hfin;clear hrd hf7 h7 hfin))
 obtain⟨w8,hw8⟩:=nmd (w7.setCell ⟨w.heap.size+1,2,none⟩ (.int .i64 (rdNum 999999 (rdNum 2 (rdNum 1073741824 r).2).2).1))
 have hst:=HFN.out
 rw[hw8] at hst ⊢
 clear hw8 dc df HFN HS3 HT3
 have hT:=Text_rs hst.rd 16777216
 rw[show (((16777216:Nat)):Int)=16777216 from rfl] at hT
 rw[HSTR.out] at hT
 have HT:=Hd hT
 have HS:=Hd hst
 clear hT hst
 go_upto_region 6 with ((go_at_call 49;(with_reducible refine HT.out.mono ?_);rintro e w7 ⟨rfl,hrd,hf7⟩;have h7:=HS.out.called hrd hf7;have hfin:=h7.set (cs':=#[.int .i64 (rdNum 1073741824 r).1,.int .i64 (rdNum 2 (rdNum 1073741824 r).2).1,.int .i64 (rdNum 999999 (rdNum 2 (rdNum 1073741824 r).2).2).1,.string str]) 3 (.string str) rfl;have dc:=h7.kb.c 3;have df:=h7.kb.f 3;simp only[List.getElem?_toArray,List.getElem?_cons_zero,List.getElem?_cons_succ] at dc;have HFN:=Hd hfin;clear hrd hf7 h7 hfin))
 obtain⟨w8,hw8⟩:=nmd (w7.setCell ⟨w.heap.size+1,3,none⟩ (.string str))
 have hst:=HFN.out
 rw[hw8] at hst ⊢
 clear hw8 dc df HFN HS HT
 obtain⟨d0,d1,d2,d3⟩:=hst.kb.m4
 obtain⟨y0,y1,y2,y3⟩:=hst.zb.m4
 have g0:=hst.zb.f 0
 have g1:=hst.zb.f 1
 have g2:=hst.zb.f 2
 have g3:=hst.zb.f 3
 have HS:=Hd hst
 clear hst
 go_wp2_with fail
 obtain⟨w9,hw9⟩:=nmd (((((w8.setCell ⟨w.heap.size,0,none⟩ (.int .i64 (rdNum 1073741824 r).1)).setCell ⟨w.heap.size,1,none⟩ (.int .i64 (rdNum 2 (rdNum 1073741824 r).2).1)).setCell ⟨w.heap.size,2,none⟩ (.int .i64 (rdNum 999999 (rdNum 2 (rdNum 1073741824 r).2).2).1)).setCell ⟨w.heap.size,3,none⟩ (.string str)))
 have hz9:BoxN w9 w.heap.size 89 #[.int .i64 (rdNum 1073741824 r).1,.int .i64 (rdNum 2 (rdNum 1073741824 r).2).1,.int .i64 (rdNum 999999 (rdNum 2 (rdNum 1073741824 r).2).2).1,.string str]:=by rw[←hw9];exact ((((HS.out.zb.setAt 0 _).setAt 1 _).setAt 2 _).setAt 3 _)
 have hf9:Fr [b] w w9:=by rw[←hw9];exact ((((HS.out.fr.set (.inr (Nat.le_refl _)) _).set (.inr (Nat.le_refl _)) _).set (.inr (Nat.le_refl _)) _).set (.inr (Nat.le_refl _)) _)
 have hr9:RdS c0 c1 b (rdText 16777216 (rdNum 999999 (rdNum 2 (rdNum 1073741824 r).2).2).2).2 w9:=by
  rw[←hw9]
  refine HS.out.rd.fr (S:=[w.heap.size]) ((((Fr.refl _ w8).set (.inl (by simp)) _).set (.inl (by simp)) _).set (.inl (by simp)) _ |>.set (.inl (by simp)) _) (by simp;omega)
 rw[hw9]
 obtain⟨t0,t1,t2,t3⟩:=hz9.m4
 have HR9:=Hd hr9
 have HF9:=Hd hf9
 clear hw9 hz9 hr9 hf9
 exact bodyPost_ret (v:=.agg #[.int .i64 (rdNum 1073741824 r).1,.int .i64 (rdNum 2 (rdNum 1073741824 r).2).1,.int .i64 (rdNum 999999 (rdNum 2 (rdNum 1073741824 r).2).2).1,.string str]) (by simp[results,Tryz.results176,go_sem,t0,t1,t2,t3]) rfl ⟨rfl,HR9.out,HF9.out⟩
def checkK (k:KY):Int :=
 if k.rnd<0 ∨ 1073741824<k.rnd then 2 else if k.phase<0 ∨ 2<k.phase then 11
 else if (k.idx<0 ∨ 999999<k.idx) ∨ (k.phase=0∧k.idx=0) then 2
 else if k.phase=0 then (if k.lin≠[] then 3 else 0)
 else if k.lin=[] ∨ validB k.lin=false then 12
 else if k.phase=2∧k.idx≠0 then 3 else 0
theorem CheckK_any (k:KY) (w:World) (hl:k.lin.length≤4294967280):Calls Tryz.prog 169 #[encK k] w (ChkPost w (checkK k)):=by
 obtain⟨r,hr⟩:=nmd (checkK k)
 rw[hr]
 unfold checkK at hr
 obtain⟨n,i,j,o⟩:=k
 unfold encK
 simp only at hl hr ⊢
 obtain⟨p,hp,hp',hps⟩:=str_of o
 rw[hp]
 obtain⟨w1,hw1,hb1,hf1⟩:=bxn w #[.int .i64 n,.int .i64 i,.int .i64 j,.string p] 89
 obtain⟨x0,x1,x2,x3⟩:=hb1.m4
 have HF1:=Hd hf1
 have HB1:=Hd hb1
 have HW1:=Hd hw1
 have HR:=Hd hr
 have HP:=Hd hp'
 clear hw1 hf1 hb1 hp hr hp'
 go_enter Tryz.func169,Tryz.ntmps169
 go_upto_region 1 with fail
 rw[HW1.out]
 clear HW1
 by_cases a1:n<0
 ·have e:=HR.out
  rw[if_pos (.inl a1)] at e
  subst e
  clear HR
  go_wp2_with fail
  go_ret
  exact⟨rfl,HF1.out⟩
 by_cases a2:1073741824<n
 ·have e:=HR.out
  rw[if_pos (.inr a2)] at e
  subst e
  clear HR
  go_wp2_with fail
  go_ret
  exact⟨rfl,HF1.out⟩
 have e:=HR.out
 rw[if_neg (by omega)] at e
 replace HR:=Hd e
 clear e
 go_upto_region 3 with fail
 by_cases b1:i<0
 ·have e:=HR.out
  rw[if_pos (.inl b1)] at e
  subst e
  clear HR
  go_wp2_with fail
  go_ret
  exact⟨rfl,HF1.out⟩
 by_cases b2:2<i
 ·have e:=HR.out
  rw[if_pos (.inr b2)] at e
  subst e
  clear HR
  go_wp2_with fail
  go_ret
  exact⟨rfl,HF1.out⟩
 have e:=HR.out
 rw[if_neg (by omega)] at e
 replace HR:=Hd e
 clear e
 go_upto_region 5 with fail
 by_cases c1:j<0
 ·have e:=HR.out
  rw[if_pos (.inl (.inl c1))] at e
  subst e
  clear HR
  go_wp2_with fail
  go_ret
  exact⟨rfl,HF1.out⟩
 by_cases c2:999999<j
 ·have e:=HR.out
  rw[if_pos (.inl (.inr c2))] at e
  subst e
  clear HR
  go_wp2_with fail
  go_ret
  exact⟨rfl,HF1.out⟩
 by_cases c3:i=0
 ·subst c3
  by_cases c4:j=0
  ·have e:=HR.out
   rw[if_pos (.inr ⟨rfl,c4⟩)] at e
   subst e c4
   clear HR
   go_wp2_with fail
   go_ret
   exact⟨rfl,HF1.out⟩
  ·have c5:(j == 0)=false:=by simpa using c4
   have e:=HR.out
   rw[if_neg (by omega),if_pos rfl] at e
   clear HR
   by_cases hx:o=[]
   ·rw[if_neg (by simpa using hx)] at e
    have hx1:p.data.toList=[]:=by rw[HP.out];exact hx
    have hx2:=isEmpty_of_nil hx1
    have hx3:p.toList=[]:=by rw[ByteArray.toList_eq];exact hx1
    clear hx hx1 HP
    subst e
    go_wp2_with fail
    go_ret
    exact⟨rfl,HF1.out⟩
   ·rw[if_pos hx] at e
    have hx1:p.data.toList≠[]:=by rw[HP.out];exact hx
    have hx2:=isEmpty_of_ne hx1
    have hx3:p.toList≠[]:=by rw[ByteArray.toList_eq];exact hx1
    have hx5:(p.toList == [])=false:=by simpa using hx3
    clear hx hx1 HP
    subst e
    go_wp2_with fail
    go_ret
    exact⟨rfl,HF1.out⟩
 ·have c5:(i == 0)=false:=by simpa using c3
  have e:=HR.out
  rw[if_neg (by omega),if_neg c3] at e
  replace HR:=Hd e
  clear e
  by_cases hx:o=[]
  ·have e:=HR.out
   rw[if_pos (.inl hx)] at e
   have hx1:p.data.toList=[]:=by rw[HP.out];exact hx
   have hx2:=isEmpty_of_nil hx1
   have hx3:p.toList=[]:=by rw[ByteArray.toList_eq];exact hx1
   clear hx hx1 HP HR
   subst e
   go_wp2_with fail
   go_ret
   exact⟨rfl,HF1.out⟩
  ·have hx1:p.data.toList≠[]:=by rw[HP.out];exact hx
   have hx2:=isEmpty_of_ne hx1
   have hx3:p.toList≠[]:=by rw[ByteArray.toList_eq];exact hx1
   have hx5:(p.toList == [])=false:=by simpa using hx3
   have hV:=Valid_any p w1 (by omega)
   rw[HP.out] at hV
   cases hv:validB o with
   | false =>
    have e:=HR.out
    rw[if_pos (.inr hv)] at e
    rw[hv] at hV
    have HV:=Hd hV
    clear hV hx hx1 HP HR hv
    subst e
    go_wp2_with ((go_at_call 115;(with_reducible refine HV.out.mono ?_);rintro e w3 ⟨rfl,hb3⟩;have HF3:=Hd (HF1.out.then (Fr.of_below hb3));clear hb3))
    go_ret
    exact⟨rfl,HF3.out⟩
   | true =>
    have e:=HR.out
    rw[if_neg (by rw[hv];simp[hx])] at e
    rw[hv] at hV
    have HV:=Hd hV
    clear hV hx hx1 HP HR hv
    by_cases d1:i=2
    ·subst d1
     by_cases d2:j=0
     ·rw[if_neg (by simp[d2])] at e
      subst d2
      subst e
      go_wp2_with ((go_at_call 115;(with_reducible refine HV.out.mono ?_);rintro e w3 ⟨rfl,hb3⟩;have HF3:=Hd (HF1.out.then (Fr.of_below hb3));have y1:w3.cell? ⟨w.heap.size,1,none⟩=some (.int .i64 2):=(HB1.out.later hb3).c 1;have y2:w3.cell? ⟨w.heap.size,2,none⟩=some (.int .i64 0):=(HB1.out.later hb3).c 2;clear hb3))
      go_ret
      exact⟨rfl,HF3.out⟩
     ·rw[if_pos ⟨rfl,d2⟩] at e
      have d3:(j != 0)=true:=by simpa using d2
      subst e
      go_wp2_with ((go_at_call 115;(with_reducible refine HV.out.mono ?_);rintro e w3 ⟨rfl,hb3⟩;have HF3:=Hd (HF1.out.then (Fr.of_below hb3));have y1:w3.cell? ⟨w.heap.size,1,none⟩=some (.int .i64 2):=(HB1.out.later hb3).c 1;have y2:w3.cell? ⟨w.heap.size,2,none⟩=some (.int .i64 j):=(HB1.out.later hb3).c 2;clear hb3))
      go_ret
      exact⟨rfl,HF3.out⟩
    ·rw[if_neg (by simp[d1])] at e
     have d3:(i == 2)=false:=by simpa using d1
     subst e
     go_wp2_with ((go_at_call 115;(with_reducible refine HV.out.mono ?_);rintro e w3 ⟨rfl,hb3⟩;have HF3:=Hd (HF1.out.then (Fr.of_below hb3));have y1:w3.cell? ⟨w.heap.size,1,none⟩=some (.int .i64 i):=(HB1.out.later hb3).c 1;have y2:w3.cell? ⟨w.heap.size,2,none⟩=some (.int .i64 j):=(HB1.out.later hb3).c 2;clear hb3))
     go_ret
     exact⟨rfl,HF3.out⟩
end Go.Proofs.YtlpmiimgacfmkaaGreatDoor
