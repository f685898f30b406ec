/- The law's right, of a receipt that was decoded. -/
import Derived.LoopN
import Derived.Test.YtlpmiimgacfmkaaGreatDoorRDc4
import Derived.Test.YtlpmiimgacfmkaaGreatDoorRSt5
import Derived.Test.YtlpmiimgacfmkaaGreatDoorRKn2
set_option linter.all false
namespace Go.Proofs.YtlpmiimgacfmkaaGreatDoor
open Go.RowKit
set_option maxRecDepth 100000
set_option maxHeartbeats 4000000
theorem fm_get {α:Type} {f:α→List Value} {m:Nat} (hf:∀ x,(f x).length=m):∀ (xs:List α) (j o:Nat) (x:α),xs[j]?=some x→o<m→(xs.flatMap f)[j*m+o]?=(f x)[o]?
 | [],j,o,x,h,_=>by simp at h
 | y::r,0,o,x,h,ho=>by
  simp at h
  subst h
  rw[List.flatMap_cons,Nat.zero_mul,Nat.zero_add,List.getElem?_append_left (by rw[hf];exact ho)]
 | y::r,j+1,o,x,h,ho=>by
  rw[List.flatMap_cons,List.getElem?_append_right (by rw[hf,Nat.add_mul];omega),hf,show (j+1)*m+o - m=j*m+o by rw[Nat.add_mul];omega]
  exact fm_get hf r j o x (by simpa using h) ho
theorem pvcs_len (len:Int) (x:PV):(PV.cs len x).length=4:=rfl
theorem pv_cells {w:World} {g j:Nat} {len:Int} {xs:List PV} {x:PV} (h:Cs w g (xs.flatMap (PV.cs len))) (hx:xs[j]?=some x) :
 w.cell? ⟨g,j*4,none⟩=some (.int .i64 x.p.idx)∧w.cell? ⟨g,j*4+1,none⟩=some (.int .i64 len)∧w.cell? ⟨g,j*4+2,none⟩=some (encN x.p.text)∧w.cell? ⟨g,j*4+3,none⟩=some (.slice x.A x.p.path.length x.c) :=
 ⟨h.2 _ _ ((fm_get (pvcs_len len) xs j 0 x hx (by omega)).trans rfl),h.2 _ _ ((fm_get (pvcs_len len) xs j 1 x hx (by omega)).trans rfl),h.2 _ _ ((fm_get (pvcs_len len) xs j 2 x hx (by omega)).trans rfl),h.2 _ _ ((fm_get (pvcs_len len) xs j 3 x hx (by omega)).trans rfl)⟩
structure RcAt (w:World) (c:RC) (A:Option Addr) (cap:Nat) (xs:List PV):Prop where
 own:Own w 53 4 A c.ps.length cap (xs.flatMap (PV.cs c.len))
 ps:xs.map PV.p=c.ps
 pa:∀ x∈xs,x.ok w
theorem RcAt.fr0 {w w':World} {c:RC} {A:Option Addr} {cap:Nat} {xs:List PV} (h:RcAt w c A cap xs) (hf:Fr [] w w'):RcAt w' c A cap xs:=⟨h.own.fr hf (by simp),h.ps,fun x hx=>Own.fr (h.pa x hx) hf (by simp)⟩
theorem Right_any (c:RC) (so st:ByteArray) (A:Option Addr) (cap:Nat) (xs:List PV) (w:World) (hok:Ok w) (hc:c.ok) (hso:encN c.nm.owner=.string so) (hst:encN c.nm.text=.string st) (ho:c.nm.owner.length≤4294967280) (ht:c.nm.text.length≤4294967280) (h:RcAt w c A cap xs) :
 Calls Tryz.prog 17 #[.agg (rcC c.nm.kind c.nm.number c.nm.index c.at_ c.len so st (.slice A c.ps.length cap))] w (RetPost w (.bool true)):=by
 obtain⟨nm,av,lv,ps⟩:=c
 simp only at hso hst ho ht ⊢
 obtain⟨n,hn⟩:=nmd (ps.length)
 rw[hn]
 obtain⟨c1,c2,c3,c4,c5,c6,c7⟩:=hc
 simp only at c1 c2 c3 c4 c5 c6 c7
 rw[hn] at c6
 unfold rcC
 obtain⟨w1,hw1⟩:=nmd ((w).alloc (.cells #[.int .i64 nm.kind,.string so,.int .i64 nm.number,.int .i64 nm.index,.string st,.int .i64 av,.int .i64 lv,.slice A n cap] 39))
 have hz1:(w1).heap.size=w.heap.size+1:=by rw[←hw1,World.size_alloc];try omega
 have n1:BoxN w1 (w.heap.size) 39 #[.int .i64 nm.kind,.string so,.int .i64 nm.number,.int .i64 nm.index,.string st,.int .i64 av,.int .i64 lv,.slice A n cap]:=by have h0:=BoxN.new (w) 39 #[.int .i64 nm.kind,.string so,.int .i64 nm.number,.int .i64 nm.index,.string st,.int .i64 av,.int .i64 lv,.slice A n cap];rw[hw1] at h0;rw[show w.heap.size=(w).heap.size from by first | rfl | omega];exact h0
 have f1:Fr [] (w) w1:=by rw[←hw1];exact (Fr.refl [] (w)).alloc _
 have hCk:Calls Tryz.prog 53 #[.agg #[.int .i64 nm.kind,.string so,.int .i64 nm.number,.int .i64 nm.index,.string st]] w1 (ChkPost w1 0):=by
  have h:=Check_any nm w1 (hok.fr0 f1) ho ht
  rw[c1] at h
  unfold encO at h
  rw[hso,hst] at h
  exact h
 obtain⟨x0,x1,x2,x3,x4,x5,x6,x7⟩:=n1.m8
 have HC:=Hd hCk
 have HW:=Hd hw1
 have HH:=Hd (And.intro n1 (And.intro f1 (And.intro h (And.intro c7 hn))))
 have e1:decide (av<0)=false:=decide_eq_false (by omega)
 have e2:decide (lv<0)=false:=decide_eq_false (by omega)
 have e3:decide ((4096:Int)<(n:Int))=false:=decide_eq_false (by omega)
 clear hCk hw1 n1 f1 h c1 c7 hn hso hst ho ht hz1 hok
 go_enter Tryz.func17,Tryz.ntmps17
 go_upto_region 1 with fail
 rw[HW.out]
 go_upto_region 3 with (go_at_call 53;(with_reducible refine HC.out.mono ?_);rintro e w2 ⟨rfl,hf2⟩;have m2:=HH.out.1.fr hf2 (by simp);have y5:w2.cell? ⟨w.heap.size,5,none⟩=some (.int .i64 av):=m2.c 5;have y6:w2.cell? ⟨w.heap.size,6,none⟩=some (.int .i64 lv):=m2.c 6;have y7:w2.cell? ⟨w.heap.size,7,none⟩=some (.slice A n cap):=m2.c 7;have H2:=Hd (And.intro m2 (HH.out.2.1.then hf2));clear hf2 m2)
 clear x0 x1 x2 x3 x4 x5 x6 x7 y5 y6 y7
 go_wp2_with fail
 go_loopw [3] (fun i W=>∃ j:Nat,j≤n∧i=.int .i64 (j:Int)∧Fr [] w2 W) (fun i _=>n - (intOf i).toNat)
 case atStart=>exact⟨0,Nat.zero_le _,rfl,Fr.refl _ _⟩
 case round =>
  obtain⟨j,hj,rfl,hfr⟩:=hrel
  have m2:=H2.out.1.fr hfr (by simp)
  have y7:=m2.k7
  have HF:=Hd (And.intro m2 hfr)
  clear m2 hfr
  by_cases hlt:j<n
  ·have hlt3:(j:Int)<(n:Int):=by omega
   have hR:=HH.out.2.2.1
   obtain⟨g,rfl,hcs⟩:=Cs.of_own hR.own (by rw[HH.out.2.2.2.2];omega)
   have hxl:xs.length=n:=by have h:=hR.ps;simp only at h;have:=congrArg List.length h;rw[List.length_map] at this;rw[this];exact HH.out.2.2.2.2
   obtain⟨x,hx⟩:∃ x,xs[j]?=some x:=⟨_,List.getElem?_eq_getElem (by omega)⟩
   have hpok:x.p.ok:=HH.out.2.2.2.1 x.p (by have h:=hR.ps;simp only at h;rw[←h];exact List.mem_map_of_mem (List.mem_of_getElem? hx))
   obtain⟨tx,htx⟩:∃ t,encN x.p.text=.string t:=⟨_,rfl⟩
   obtain⟨z0,z1,z2,z3⟩:=pv_cells (hcs.fr0 (H2.out.2.then HF.out.2)) hx
   rw[htx] at z2
   obtain⟨ix,hix⟩:=nmd (x.p.idx)
   obtain⟨n1,hn1⟩:=nmd (x.p.path.length)
   rw[hix] at z0
   rw[hn1] at z3
   have e4:decide (ix<0)=false:=decide_eq_false (by have:=hpok.1;omega)
   have e5:decide ((64:Int)<(n1:Int))=false:=decide_eq_false (by have:=hpok.2.2.1;omega)
   clear hR hcs hxl hpok htx hix hn1
   go_upto_region 7 with fail
   obtain⟨v1,hv⟩:=nmd ((wr).alloc (.cells #[.int .i64 ix,.int .i64 lv,.string tx,.slice x.A n1 x.c] 53))
   have hzv:(v1).heap.size=wr.heap.size+1:=by rw[←hv,World.size_alloc];try omega
   have nv:BoxN v1 (wr.heap.size) 53 #[.int .i64 ix,.int .i64 lv,.string tx,.slice x.A n1 x.c]:=by have h0:=BoxN.new (wr) 53 #[.int .i64 ix,.int .i64 lv,.string tx,.slice x.A n1 x.c];rw[hv] at h0;rw[show wr.heap.size=(wr).heap.size from by first | rfl | omega];exact h0
   have fv:Fr [] (wr) v1:=by rw[←hv];exact (Fr.refl [] (wr)).alloc _
   rw[hv]
   have mv:=HF.out.1.fr fv (by simp)
   have y6:=mv.k6
   obtain⟨p0,p1,p2,p3⟩:=nv.m4
   have HV:=Hd fv
   clear hv nv fv hzv mv z0 z1 z2 z3 y7
   go_wp2_with fail
   go_roundw
   case rel=>exact⟨j+1,by omega,by go_num,HF.out.2.then HV.out⟩
   case measure=>simp[intOf];omega
  ·obtain rfl:j=n:=by omega
   go_wp2_with fail
   go_ret
   exact⟨rfl,H2.out.2.then HF.out.2⟩
theorem dg_get:∀ (xs:List Nm) (j o:Nat) (x:Nm),(∀ d∈xs,d.length=32)→xs[j]?=some x→o<32→(xs.flatMap dCells)[j*32+o]?=(dCells x)[o]?
 | [],j,o,x,_,h,_=>by simp at h
 | y::r,0,o,x,hd,h,ho=>by
  simp at h
  subst h
  rw[List.flatMap_cons,Nat.zero_mul,Nat.zero_add,List.getElem?_append_left (by rw[dcells_len,hd _ (by simp)];exact ho)]
 | y::r,j+1,o,x,hd,h,ho=>by
  have hy:(dCells y).length=32:=by rw[dcells_len,hd _ (by simp)]
  rw[List.flatMap_cons,List.getElem?_append_right (by rw[hy,Nat.add_mul];omega),hy,show (j+1)*32+o - 32=j*32+o by rw[Nat.add_mul];omega]
  exact dg_get r j o x (fun d h=>hd d (by simp[h])) (by simpa using h) ho
theorem dg_row {w:World} {g k:Nat} {path:List Nm} {d:Nm} (hcs:Cs w g (path.flatMap dCells)) (hd:∀ d∈path,d.length=32) (hx:path[k]?=some d):Row w w.heap.size 1 (some ⟨g,k*32,none⟩) 32 (dCells d) :=
 ⟨by rw[dcells_len,hd d (List.mem_of_getElem? hx)],fun _=>⟨g,k*32,rfl,hcs.1,fun j u hu=>by
  have hj:=(List.getElem?_eq_some_iff.1 hu).1
  rw[dcells_len,hd d (List.mem_of_getElem? hx)] at hj
  exact hcs.2 _ _ ((dg_get path k j d hd hx hj).trans hu)⟩⟩
theorem drop_cons {α β:Type} {f:α→List β} {xs:List α} {j:Nat} {x:α} (hx:xs[j]?=some x):(xs.drop j).flatMap f=f x++(xs.drop (j+1)).flatMap f:=by
 obtain⟨hj,rfl⟩:=List.getElem?_eq_some_iff.1 hx
 rw[List.drop_eq_getElem_cons hj,List.flatMap_cons]
theorem encT_ge (s:Nm):s.length≤(encT s).length:=by unfold encT;rw[List.length_append];omega
theorem Encode_any (c:RC) (so st:ByteArray) (A:Option Addr) (cap:Nat) (xs:List PV) (w:World) (hok:Ok w) (hc:c.ok) (hso:encN c.nm.owner=.string so) (hst:encN c.nm.text=.string st) (ho:c.nm.owner.length≤16777216) (ht:c.nm.text.length≤16777216) (hl:(encRc c).length≤100000) (h:RcAt w c A cap xs) :
 Calls Tryz.prog 18 #[.agg (rcC c.nm.kind c.nm.number c.nm.index c.at_ c.len so st (.slice A c.ps.length cap))] w (RetPost w (encN (encRc c))):=by
 obtain⟨nm,av,lv,ps⟩:=c
 obtain⟨tot,htot⟩:=nmd (encRc ⟨nm,av,lv,ps⟩)
 rw[htot] at hl ⊢
 unfold encRc at htot
 simp only at hso hst ho ht htot ⊢
 obtain⟨n,hn⟩:=nmd (ps.length)
 rw[hn] at htot ⊢
 obtain⟨c1,c2,c3,c4,c5,c6,c7⟩:=hc
 simp only at c1 c2 c3 c4 c5 c6 c7
 rw[hn] at c6
 unfold rcC
 obtain⟨L,hL⟩:=nmd (encOn nm)
 rw[hL] at htot
 have hlt:=congrArg List.length htot
 simp only[List.length_append] at hlt
 have hLl:=encT_ge L
 obtain⟨w1,hw1⟩:=nmd ((w).alloc (.cells #[.int .i64 nm.kind,.string so,.int .i64 nm.number,.int .i64 nm.index,.string st,.int .i64 av,.int .i64 lv,.slice A n cap] 39))
 have hz1:(w1).heap.size=w.heap.size+1:=by rw[←hw1,World.size_alloc];try omega
 have n1:BoxN w1 (w.heap.size) 39 #[.int .i64 nm.kind,.string so,.int .i64 nm.number,.int .i64 nm.index,.string st,.int .i64 av,.int .i64 lv,.slice A n cap]:=by have h0:=BoxN.new (w) 39 #[.int .i64 nm.kind,.string so,.int .i64 nm.number,.int .i64 nm.index,.string st,.int .i64 av,.int .i64 lv,.slice A n cap];rw[hw1] at h0;rw[show w.heap.size=(w).heap.size from by first | rfl | omega];exact h0
 have f1:Fr [] (w) w1:=by rw[←hw1];exact (Fr.refl [] (w)).alloc _
 have hCk:∀ W,Fr [] w W→Calls Tryz.prog 55 #[.agg #[.int .i64 nm.kind,.string so,.int .i64 nm.number,.int .i64 nm.index,.string st]] W (EncPost W L 0):=fun W hW=>by
  have h:=EncodeO_ok nm W (hok.fr0 hW) ho (by omega) c1
  unfold encO at h
  rw[hso,hst,hL] at h
  exact h
 have HC:Hid (∀ W,Fr [] w W→Calls Tryz.prog 55 #[.agg #[.int .i64 nm.kind,.string so,.int .i64 nm.number,.int .i64 nm.index,.string st]] W (EncPost W L 0)):=Hd hCk
 have HW:=Hd hw1
 have HH:=Hd (And.intro n1 (And.intro f1 (And.intro h (And.intro c7 (And.intro hn htot)))))
 have HLL:=Hd (And.intro hl (And.intro hlt hLl))
 clear hCk hw1 n1 f1 h c1 c7 hn hso hst ho ht hz1 hok htot hl hlt hLl hL
 go_enter Tryz.func18,Tryz.ntmps18
 go_upto_region 1 with fail
 rw[HW.out]
 go_upto_region 2 with (go_at_call 54;(with_reducible refine (NewWriter_any w1).mono ?_);rintro e w3 ⟨rfl,hwr,hfN⟩)
 obtain⟨b,hb⟩:=nmd (w1.heap.size)
 rw[hb] at hwr ⊢
 have hB:w.heap.size<b:=by have:=HH.out.1.lt;omega
 have hws:=WrS.new hwr
 have n3:=HH.out.1.fr hfN (by simp)
 have H3:=Hd (And.intro n3 (And.intro (HH.out.2.1.then hfN) hws))
 obtain⟨y0,y1,y2,y3,y4⟩:=n3.m5
 clear hfN hwr hws n3 hb HW
 go_upto_region 3 with (go_at_call 55;(with_reducible refine (HC.out w3 H3.out.2.1).mono ?_);rintro e w4 ⟨rfl,hf4⟩;have H4:=Hd hf4;clear hf4)
 clear y0 y1 y2 y3 y4
 have hbl:b<w3.heap.size:=H3.out.2.2.blt
 have hll:=HLL.out
 have hT:=Text_wk (H3.out.2.2.more H4.out hbl) L (by omega) (by simp;omega)
 have HT:=Hd hT
 clear hT
 go_upto_region 4 with (go_at_call 56;(with_reducible refine HT.out.mono ?_);rintro e w5 ⟨rfl,hws,_⟩;have HWN:=Hd hws;clear hws)
 obtain⟨b1,hb1⟩:=nmd (([]:Nm)++encT L)
 rw[hb1] at HWN
 have hb1l:=congrArg List.length hb1
 simp only[List.length_append,List.length_nil] at hb1l
 have n5:=H3.out.1.fr HWN.out.fr (by simp;omega)
 have y5:=n5.k5
 have hT:=Number_wk HWN.out av.toNat (by omega) (by omega)
 rw[show ((av.toNat:Nat):Int)=av by omega] at hT
 have HT2:=Hd hT
 clear n5 hT
 go_upto_region 5 with (go_at_call 57;(with_reducible refine HT2.out.mono ?_);rintro e w6 ⟨rfl,hws,_⟩;have HWO:=Hd hws;clear hws)
 obtain⟨b2,hb2⟩:=nmd (b1++encU av.toNat)
 rw[hb2] at HWO
 have hb2l:=congrArg List.length hb2
 simp only[List.length_append] at hb2l
 have n6:=H3.out.1.fr HWO.out.fr (by simp;omega)
 have y6:=n6.k6
 have hT:=Number_wk HWO.out lv.toNat (by omega) (by omega)
 rw[show ((lv.toNat:Nat):Int)=lv by omega] at hT
 have HT3:=Hd hT
 clear y5 n6 hT HT HT2 HWN
 go_upto_region 6 with (go_at_call 57;(with_reducible refine HT3.out.mono ?_);rintro e w7 ⟨rfl,hws,_⟩;have HWN:=Hd hws;clear hws)
 obtain⟨b3,hb3⟩:=nmd (b2++encU lv.toNat)
 rw[hb3] at HWN
 have hb3l:=congrArg List.length hb3
 simp only[List.length_append] at hb3l
 have n7:=H3.out.1.fr HWN.out.fr (by simp;omega)
 have y7:=n7.k7
 have hT:=Number_wk HWN.out n (by omega) (by omega)
 have HT4:=Hd hT
 clear y6 n7 hT HT3 HWO
 go_upto_region 7 with (go_at_call 57;(with_reducible refine HT4.out.mono ?_);rintro e w8 ⟨rfl,hws,_⟩;have HWO:=Hd hws;clear hws)
 obtain⟨b4,hb4⟩:=nmd (b3++encU n)
 rw[hb4] at HWO
 have hb4e:b4++(ps.drop 0).flatMap encPf=tot:=by rw[←HH.out.2.2.2.2.2,←hb4,←hb3,←hb2,←hb1];simp
 have HB4:=Hd hb4e
 clear y7 HT4 HWN hll hb1 hb2 hb3 hb4 hb1l hb2l hb3l hb4e
 go_wp2_with fail
 go_loopw [6] (fun i W=>∃ j:Nat,j≤n∧i=.int .i64 (j:Int)∧∃ bs,bs++(ps.drop j).flatMap encPf=tot∧WrS w3 b bs W) (fun i _=>n - (intOf i).toNat)
 case atStart=>exact⟨0,Nat.zero_le _,rfl,b4,HB4.out,HWO.out⟩
 case round =>
  obtain⟨j,hj,rfl,bs,hbs,hws⟩:=hrel
  have m2:=H3.out.1.fr hws.fr (by simp;omega)
  have y7:=m2.k7
  have HF:=Hd (And.intro m2 (And.intro hws hbs))
  have hsz:w3.heap.size≤wr.heap.size:=hws.fr.size
  clear m2 hws hbs HWO HB4
  by_cases hlt:j<n
  ·have hlt3:(j:Int)<(n:Int):=by omega
   have hR:=HH.out.2.2.1
   obtain⟨g,hA,hcs⟩:=Cs.of_own hR.own (by rw[HH.out.2.2.2.2.1];omega)
   subst hA
   have hxs:=hR.ps
   simp only at hxs
   have hxl:xs.length=n:=by have:=congrArg List.length hxs;rw[List.length_map] at this;rw[this];exact HH.out.2.2.2.2.1
   obtain⟨x,hx⟩:∃ x,xs[j]?=some x:=⟨_,List.getElem?_eq_getElem (by omega)⟩
   have hpx:ps[j]?=some x.p:=by rw[←hxs,List.getElem?_map,hx];rfl
   have hpok:x.p.ok:=HH.out.2.2.2.1 x.p (by rw[←hxs];exact List.mem_map_of_mem (List.mem_of_getElem? hx))
   have hxo:x.ok w:=hR.pa x (List.mem_of_getElem? hx)
   have hcs':=(hcs.fr0 H3.out.2.1).fr HF.out.2.1.fr (by have:=hcs.1;simp;omega)
   have hxk:∀ W,Fr [b] w3 W→Own W 57 32 x.A x.p.path.length x.c (x.p.path.flatMap dCells):=fun W hW=>(Own.fr (Own.fr hxo H3.out.2.1 (by simp)) hW (fun k hk=>by have:=Own.lt hxo k hk;simp;omega))
   obtain⟨z0,z1,z2,z3⟩:=pv_cells hcs' hx
   have hte:bs++((encU x.p.idx.toNat++(encT x.p.text++(encU x.p.path.length++x.p.path.flatMap encT)))++(ps.drop (j+1)).flatMap encPf)=tot:=by have h:=HF.out.2.2;rw[drop_cons hpx] at h;exact h
   obtain⟨q0,q1,q2,q3,q4⟩:=hpok
   obtain⟨⟨ix,tx,path⟩,xA,xc⟩:=x
   simp only at z0 z1 z2 z3 hte q0 q1 q2 q3 q4 hxk
   obtain⟨m,hm⟩:=nmd (path.length)
   obtain⟨ts,hts⟩:∃ t,encN tx=.string t:=⟨_,rfl⟩
   rw[hts] at z2
   have HTS:=Hd hts
   clear hts
   rw[hm] at z3 hte hxk q2
   have hle:=congrArg List.length hte
   simp only[List.length_append] at hle
   have hll:=HLL.out.1
   have htl:=encT_ge tx
   have HX:=Hd (And.intro hxk (And.intro hte (And.intro q4 hm)))
   clear hR hcs hcs' hxl hxs hx hpx hxo hxk hte q4 hm
   go_upto_region 11 with fail
   obtain⟨v1,hv⟩:=nmd ((wr).alloc (.cells #[.int .i64 ix,.int .i64 lv,.string ts,.slice xA m xc] 53))
   have hzv:(v1).heap.size=wr.heap.size+1:=by rw[←hv,World.size_alloc];try omega
   have nv:BoxN v1 (wr.heap.size) 53 #[.int .i64 ix,.int .i64 lv,.string ts,.slice xA m xc]:=by have h0:=BoxN.new (wr) 53 #[.int .i64 ix,.int .i64 lv,.string ts,.slice xA m xc];rw[hv] at h0;rw[show wr.heap.size=(wr).heap.size from by first | rfl | omega];exact h0
   have fv:Fr [] (wr) v1:=by rw[←hv];exact (Fr.refl [] (wr)).alloc _
   rw[hv]
   have hbw:b<wr.heap.size:=by omega
   have hwv:=HF.out.2.1.more fv hbw
   obtain⟨BX,hBX⟩:=nmd (wr.heap.size)
   rw[hBX] at nv hbw ⊢
   have hBb:BX≠b:=by omega
   have p0:=nv.k0
   have hT:=Number_wk hwv ix.toNat (by omega) (by omega)
   rw[show ((ix.toNat:Nat):Int)=ix by omega] at hT
   have HT:=Hd hT
   have HN:=Hd nv
   clear hT hwv nv hv hzv fv z0 z1 z2 z3 y7
   go_upto_region 12 with (go_at_call 57;(with_reducible refine HT.out.mono ?_);rintro e v2 ⟨rfl,hws,hkp⟩;have n2:=hkp _ _ _ (by decide) hBb HN.out;have HW2:=Hd (And.intro hws n2);have p2:v2.cell? ⟨BX,2,none⟩=some (.string ts):=n2.c 2;clear hws n2 hkp)
   have hT:=Text_wk HW2.out.1 tx (by omega) (by simp only[List.length_append];omega)
   rw[HTS.out] at hT
   have HT2:=Hd hT
   clear hT HT HN p0
   go_upto_region 13 with (go_at_call 56;(with_reducible refine HT2.out.mono ?_);rintro e v3 ⟨rfl,hws,hkp⟩;have n3:=hkp _ _ _ (by decide) hBb HW2.out.2;have HW3:=Hd (And.intro hws n3);have p3:v3.cell? ⟨BX,3,none⟩=some (.slice xA m xc):=n3.c 3;clear hws n3 hkp)
   have hT:=Number_wk HW3.out.1 m (by omega) (by simp only[List.length_append];omega)
   have HT3:=Hd hT
   clear hT HT2 HW2 p2
   go_upto_region 14 with (go_at_call 57;(with_reducible refine HT3.out.mono ?_);rintro e v4 ⟨rfl,hws,hkp⟩;have n4:=hkp _ _ _ (by decide) hBb HW3.out.2;have HW4:=Hd (And.intro hws n4);clear hws n4 hkp)
   have hpa:(((bs++encU ix.toNat)++encT tx)++encU m)++((path.drop 0).flatMap encT++(ps.drop (j+1)).flatMap encPf)=tot:=by rw[←HX.out.2.1,List.drop_zero];simp only[List.append_assoc]
   have HPA:=Hd hpa
   clear hpa HT3 HW3 p3
   go_wp2_with fail
   go_loopw [8] (fun i W=>∃ k:Nat,k≤m∧i=.int .i64 (k:Int)∧∃ cs,cs++((path.drop k).flatMap encT++(ps.drop (j+1)).flatMap encPf)=tot∧WrS w3 b cs W∧BoxN W BX 53 #[.int .i64 ix,.int .i64 lv,.string ts,.slice xA m xc]) (fun i _=>m - (intOf i).toNat)
   case atStart=>exact⟨0,Nat.zero_le _,rfl,_,HPA.out,HW4.out.1,HW4.out.2⟩
   case round =>
    obtain⟨k,hk,rfl,cs,hcs,hws,hbx⟩:=hrel
    have y3:=hbx.k3
    have HJ:=Hd (And.intro hcs (And.intro hws hbx))
    clear hcs hws hbx
    by_cases hlt5:k<m
    ·have hlt6:(k:Int)<(m:Int):=by omega
     obtain⟨d,hd⟩:∃ d,path[k]?=some d:=⟨_,List.getElem?_eq_getElem (by rw[HX.out.2.2.2];omega)⟩
     have hd32:d.length=32:=HX.out.2.2.1 d (List.mem_of_getElem? hd)
     obtain⟨g5,hA5,hcs5⟩:=Cs.of_own (HX.out.1 wr HJ.out.2.1.fr) (by omega)
     subst hA5
     have hcv:=run_row_str (P:=Tryz.prog) (dg_row hcs5 HX.out.2.2.1 hd) 49 5 Tryz.underlying49 Tryz.underlying5 9 Tryz.underlying9 32
     have hte:=HJ.out.1
     rw[drop_cons hd] at hte
     have hle2:=congrArg List.length hte
     simp only[List.length_append] at hle2
     have hT:=Text_wk HJ.out.2.1 d (by omega) (by omega)
     have HT:=Hd hT
     have HTE:=Hd hte
     clear hT hte hcs5 hd
     go_wp2_with (go_at_call 56;(with_reducible refine HT.out.mono ?_);rintro e v5 ⟨rfl,hws,hkp⟩;have n5:=hkp _ _ _ (by decide) hBb HJ.out.2.2;have HW5:=Hd (And.intro hws n5);clear hws n5 hkp)
     go_roundw
     case rel=>exact⟨k+1,by omega,by go_num,cs++encT d,by rw[←HTE.out];simp,HW5.out.1,HW5.out.2⟩
     case measure=>simp[intOf];omega
    ·obtain rfl:k=m:=by omega
     go_wp2_with fail
     go_roundw
     case rel=>exact⟨j+1,by omega,by go_num,cs,by have h:=HJ.out.1;rw[List.drop_of_length_le (by rw[HX.out.2.2.2];omega)] at h;simpa using h,HJ.out.2.1⟩
     case measure=>simp[intOf];omega
  ·obtain rfl:j=n:=by omega
   have hbt:bs=tot:=by have h:=HF.out.2.2;rw[List.drop_of_length_le (by rw[HH.out.2.2.2.2.1];omega)] at h;simpa using h
   subst hbt
   have hll:=HLL.out.1
   have HB:=Hd (Bytes_ws HF.out.2.1 (by omega))
   go_wp2_with (go_at_call 58;(with_reducible refine HB.out.mono ?_);rintro e w6 ⟨A',c',rfl,ho6,hf6,_⟩;have hcv:=run_row_str (P:=Tryz.prog) ho6.row 49 5 Tryz.underlying49 Tryz.underlying5 9 Tryz.underlying9 c';have HFF:=Hd hf6;clear ho6 hf6)
   go_ret
   exact⟨rfl,(H3.out.2.1.trans HF.out.2.1.fr (fun x hx=>by rw[List.mem_singleton] at hx;subst hx;exact .inr (by omega))).then HFF.out⟩
theorem Equal_zero (w:World):Calls Tryz.prog 15 #[.agg rcZC,.agg rcZC] w (RetPost w (.bool true)):=by
 unfold rcZC
 obtain⟨w1,hw1⟩:=nmd ((w).alloc (.cells #[.int .i64 0,.string ⟨#[]⟩,.int .i64 0,.int .i64 0,.string ⟨#[]⟩,.int .i64 0,.int .i64 0,.slice none 0 0] 39))
 have hz1:(w1).heap.size=w.heap.size+1:=by rw[←hw1,World.size_alloc];try omega
 have n1:BoxN w1 (w.heap.size) 39 #[.int .i64 0,.string ⟨#[]⟩,.int .i64 0,.int .i64 0,.string ⟨#[]⟩,.int .i64 0,.int .i64 0,.slice none 0 0]:=by have h0:=BoxN.new (w) 39 #[.int .i64 0,.string ⟨#[]⟩,.int .i64 0,.int .i64 0,.string ⟨#[]⟩,.int .i64 0,.int .i64 0,.slice none 0 0];rw[hw1] at h0;rw[show w.heap.size=(w).heap.size from by first | rfl | omega];exact h0
 have f1:Fr [] (w) w1:=by rw[←hw1];exact (Fr.refl [] (w)).alloc _
 obtain⟨w2,hw2⟩:=nmd ((w1).alloc (.cells #[.int .i64 0,.string ⟨#[]⟩,.int .i64 0,.int .i64 0,.string ⟨#[]⟩,.int .i64 0,.int .i64 0,.slice none 0 0] 39))
 have hz2:(w2).heap.size=w.heap.size+1+1:=by rw[←hw2,World.size_alloc];try omega
 have n2:BoxN w2 (w.heap.size+1) 39 #[.int .i64 0,.string ⟨#[]⟩,.int .i64 0,.int .i64 0,.string ⟨#[]⟩,.int .i64 0,.int .i64 0,.slice none 0 0]:=by have h0:=BoxN.new (w1) 39 #[.int .i64 0,.string ⟨#[]⟩,.int .i64 0,.int .i64 0,.string ⟨#[]⟩,.int .i64 0,.int .i64 0,.slice none 0 0];rw[hw2] at h0;rw[show w.heap.size+1=(w1).heap.size from by first | rfl | omega];exact h0
 have f2:Fr [] (w1) w2:=by rw[←hw2];exact (Fr.refl [] (w1)).alloc _
 have HW1:=Hd hw1
 have HW2:=Hd hw2
 have HF:=Hd (f1.then f2)
 have n3:=n1.fr f2 (by simp)
 obtain⟨x0,x1,x2,x3,x4,x5,x6,x7⟩:=n3.m8
 obtain⟨y0,y1,y2,y3,y4,y5,y6,y7⟩:=n2.m8
 clear hw1 hw2 f1 f2 n1 n2 n3 hz1 hz2
 go_enter Tryz.func15,Tryz.ntmps15
 go_upto_region 1 with fail
 rw[HW1.out,HW2.out]
 go_wp2_with fail
 refine wp_loop_rounds 1 ?_
 rw[rounds_succ]
 go_wp2_with fail
 go_ret
 exact⟨rfl,HF.out⟩
theorem decO_lens (s:Nm):(decO s).1.owner.length≤16777216∧(decO s).1.text.length≤16777216:=by
 unfold decO
 split
 ·exact⟨by simp[onZ],by simp[onZ]⟩
 ·unfold decN decF
  refine⟨?_,?_⟩
  ·simp only
   split
   ·exact rdText_len _ _
   ·simp
  ·simp only
   split
   ·exact rdText_len _ _
   ·simp
theorem decR_lens {s:Nm} {c:RC} (h:decR s=some c):c.nm.owner.length≤16777216∧c.nm.text.length≤16777216:=by
 unfold decR at h
 split at h
 ·simp at h
 ·split at h
  ·simp at h
  ·split at h
   ·simp at h
   ·injection h with h
    subst h
    exact decO_lens _
theorem Decodes_any (s:ByteArray) (w:World) (hok:Ok w):Calls Tryz.prog 4 #[.string s] w (RetPost w (.bool true)):=by
 have b1:(0:Int)≤min (s.size:Int) 400:=by omega
 have b2:min (s.size:Int) 400≤(s.size:Int):=by omega
 obtain⟨s1,hs1⟩:=nmd (s.extract 0 (min (s.size:Int) 400).toNat)
 have hl1:s1.size≤400:=by rw[←hs1,ByteArray.size_extract];omega
 have hD:=DecodeR_any s1 w hok (by omega)
 have HOK:=Hd hok
 have HL:=Hd hl1
 clear hok hl1
 go_enter Tryz.func4,Tryz.ntmps4
 go_upto_region 2 with fail
 clear hs1 b1 b2
 cases hq:decR s1.data.toList with
 | none =>
  have hD':Calls Tryz.prog 16 #[.string s1] w fun e w'=>e=.returned (.tuple #[.agg #[.int .i64 0,.string ⟨#[]⟩,.int .i64 0,.int .i64 0,.string ⟨#[]⟩,.int .i64 0,.int .i64 0,.slice none 0 0],.int .i64 3])∧Fr [] w w':=hD.mono fun e w' hp=>⟨hp.2.2 hq,hp.1⟩
  have HD:=Hd hD'
  have HE:Hid (∀ W,Calls Tryz.prog 15 #[.agg #[.int .i64 0,.string ⟨#[]⟩,.int .i64 0,.int .i64 0,.string ⟨#[]⟩,.int .i64 0,.int .i64 0,.slice none 0 0],.agg #[.int .i64 0,.string ⟨#[]⟩,.int .i64 0,.int .i64 0,.string ⟨#[]⟩,.int .i64 0,.int .i64 0,.slice none 0 0]] W (RetPost W (.bool true))):=Hd fun W=>Equal_zero W
  clear hD hD' hq
  go_upto_region 3 with (go_at_call 16;(with_reducible refine HD.out.mono ?_);rintro e w2 ⟨rfl,hf⟩;have H2:=Hd hf;clear hf)
  obtain⟨w3,hw3⟩:=nmd ((w2).alloc (.cells #[.int .i64 0,.string ⟨#[]⟩,.int .i64 0,.int .i64 0,.string ⟨#[]⟩,.int .i64 0,.int .i64 0,.slice none 0 0] 39))
  have hz3:(w3).heap.size=w2.heap.size+1:=by rw[←hw3,World.size_alloc];try omega
  have n3:BoxN w3 (w2.heap.size) 39 #[.int .i64 0,.string ⟨#[]⟩,.int .i64 0,.int .i64 0,.string ⟨#[]⟩,.int .i64 0,.int .i64 0,.slice none 0 0]:=by have h0:=BoxN.new (w2) 39 #[.int .i64 0,.string ⟨#[]⟩,.int .i64 0,.int .i64 0,.string ⟨#[]⟩,.int .i64 0,.int .i64 0,.slice none 0 0];rw[hw3] at h0;rw[show w2.heap.size=(w2).heap.size from by first | rfl | omega];exact h0
  have f3:Fr [] (w2) w3:=by rw[←hw3];exact (Fr.refl [] (w2)).alloc _
  rw[hw3]
  have H3:=Hd (And.intro n3 (H2.out.then f3))
  clear hw3 n3 f3 hz3
  go_upto_region 5 with (go_at_call 11;(with_reducible refine (Known_any w3 (HOK.out.fr0 H3.out.2)).mono ?_);rintro e w4 ⟨rfl,hf⟩;have H4:=Hd hf;clear hf)
  have n4:=H3.out.1.fr H4.out (by simp)
  obtain⟨x0,x1,x2,x3,x4,x5,x6,x7⟩:=n4.m8
  clear n4
  go_wp2_with (go_at_call 15;(with_reducible refine (HE.out w4).mono ?_);rintro e w5 ⟨rfl,hf⟩;have H5:=Hd hf;clear hf)
  go_ret
  exact⟨rfl,(H3.out.2.then H4.out).then H5.out⟩
 | some c =>
  obtain⟨henc,hcok⟩:=dec_enc hq
  obtain⟨ho,ht⟩:=decR_lens hq
  have hlen:(encRc c).length≤100000:=by rw[henc,Array.length_toList];have h:=HL.out;show s1.size≤_;omega
  have hes:encN (encRc c)=.string s1:=by rw[henc];rfl
  have hR:=fun so st A cap xs W hW h1 h2 h3=>Right_any c so st A cap xs W hW hcok h1 h2 (by omega) (by omega) h3
  have hE:=fun so st A cap xs W hW h1 h2 h3=>Encode_any c so st A cap xs W hW hcok h1 h2 ho ht hlen h3
  rw[hes] at hE
  have hD':Calls Tryz.prog 16 #[.string s1] w fun e w'=>∃ (so st:ByteArray) (A:Option Addr) (cap:Nat) (xs:List PV),encN c.nm.owner=.string so∧encN c.nm.text=.string st∧e=.returned (.tuple #[.agg #[.int .i64 c.nm.kind,.string so,.int .i64 c.nm.number,.int .i64 c.nm.index,.string st,.int .i64 c.at_,.int .i64 c.len,.slice A c.ps.length cap],.int .i64 0])∧RcAt w' c A cap xs∧Fr [] w w':=hD.mono fun e w' hp=>by
   obtain⟨so,st,A,cap,xs,h1,h2,h3,h4,h5,h6⟩:=hp.2.1 c hq
   exact⟨so,st,A,cap,xs,h1,h2,h3,⟨h5,h4,h6⟩,hp.1⟩
  unfold rcC at hR hE
  have HD:=Hd hD'
  have HR:=Hd hR
  have HE:=Hd hE
  clear hD hD' hR hE hq henc hcok ho ht hlen hes
  go_upto_region 3 with (go_at_call 16;(with_reducible refine HD.out.mono ?_);rintro e w2 ⟨so,st,A,cap,xs,hso,hst,rfl,hrc,hf⟩;have H2:=Hd (And.intro hso (And.intro hst (And.intro hrc hf)));clear hso hst hrc hf)
  obtain⟨w3,hw3⟩:=nmd ((w2).alloc (.cells #[.int .i64 c.nm.kind,.string so,.int .i64 c.nm.number,.int .i64 c.nm.index,.string st,.int .i64 c.at_,.int .i64 c.len,.slice A c.ps.length cap] 39))
  have hz3:(w3).heap.size=w2.heap.size+1:=by rw[←hw3,World.size_alloc];try omega
  have n3:BoxN w3 (w2.heap.size) 39 #[.int .i64 c.nm.kind,.string so,.int .i64 c.nm.number,.int .i64 c.nm.index,.string st,.int .i64 c.at_,.int .i64 c.len,.slice A c.ps.length cap]:=by have h0:=BoxN.new (w2) 39 #[.int .i64 c.nm.kind,.string so,.int .i64 c.nm.number,.int .i64 c.nm.index,.string st,.int .i64 c.at_,.int .i64 c.len,.slice A c.ps.length cap];rw[hw3] at h0;rw[show w2.heap.size=(w2).heap.size from by first | rfl | omega];exact h0
  have f3:Fr [] (w2) w3:=by rw[←hw3];exact (Fr.refl [] (w2)).alloc _
  rw[hw3]
  have H3:=Hd (And.intro n3 (And.intro (H2.out.2.2.2.then f3) (H2.out.2.2.1.fr0 f3)))
  clear hw3 n3 f3 hz3
  go_upto_region 5 with (go_at_call 11;(with_reducible refine (Known_any w3 (HOK.out.fr0 H3.out.2.1)).mono ?_);rintro e w4 ⟨rfl,hf⟩;have H4:=Hd (And.intro (H3.out.2.1.then hf) (And.intro (H3.out.2.2.fr0 hf) (H3.out.1.fr hf (by simp))));clear hf)
  have n4:=H4.out.2.2
  obtain⟨x0,x1,x2,x3,x4,x5,x6,x7⟩:=n4.m8
  clear n4
  go_wp2_with (first
   | (go_at_call 17;(with_reducible refine (HR.out so st A cap xs w4 (HOK.out.fr0 H4.out.1) H2.out.1 H2.out.2.1 H4.out.2.1).mono ?_);rintro e w5 ⟨rfl,hf⟩;have n5:=H4.out.2.2.fr hf (by simp);have H5:=Hd (And.intro (H4.out.1.then hf) (H4.out.2.1.fr0 hf));have y0:w5.cell? ⟨w2.heap.size,0,none⟩=some (.int .i64 c.nm.kind):=n5.c 0;have y1:w5.cell? ⟨w2.heap.size,1,none⟩=some (.string so):=n5.c 1;have y2:w5.cell? ⟨w2.heap.size,2,none⟩=some (.int .i64 c.nm.number):=n5.c 2;have y3:w5.cell? ⟨w2.heap.size,3,none⟩=some (.int .i64 c.nm.index):=n5.c 3;have y4:w5.cell? ⟨w2.heap.size,4,none⟩=some (.string st):=n5.c 4;have y5:w5.cell? ⟨w2.heap.size,5,none⟩=some (.int .i64 c.at_):=n5.c 5;have y6:w5.cell? ⟨w2.heap.size,6,none⟩=some (.int .i64 c.len):=n5.c 6;have y7:w5.cell? ⟨w2.heap.size,7,none⟩=some (.slice A c.ps.length cap):=n5.c 7;clear hf n5)
   | (go_at_call 18;(with_reducible refine (HE.out so st A cap xs w5 (HOK.out.fr0 H5.out.1) H2.out.1 H2.out.2.1 H5.out.2).mono ?_);rintro e w6 ⟨rfl,hf⟩;have H6:=Hd (H5.out.1.then hf);clear hf))
  go_ret
  exact⟨rfl,H6.out⟩
end Go.Proofs.YtlpmiimgacfmkaaGreatDoor
