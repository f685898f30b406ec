/- step: changes of ports: orderly, wellFormed (step's and versions'). -/
import Derived.LoopN
import Derived.Test.YtlpmiimgacfmkaaGreatDoorRTr1
import Derived.Test.YtlpmiimgacfmkaaGreatDoorRMaps
set_option linter.all false
namespace Go.Proofs.YtlpmiimgacfmkaaGreatDoor
open Go.RowKit
set_option maxRecDepth 100000
set_option maxHeartbeats 4000000
def Cs (w:World) (b:Nat) (xs:List Value):Prop:=b<w.heap.size∧∀ j v,xs[j]?=some v→w.cell? ⟨b,j,none⟩=some v
section
variable {w w':World} {b:Nat} {xs:List Value} {S:List Nat}
theorem Cs.fr (h:Cs w b xs) (hf:Fr S w w') (hb:b ∉ S):Cs w' b xs:=⟨Nat.lt_of_lt_of_le h.1 hf.size,fun j v hv=>(hf.fcell h.1 hb j).trans (h.2 j v hv)⟩
theorem Cs.fr0 (h:Cs w b xs) (hf:Fr [] w w'):Cs w' b xs:=h.fr hf (by simp)
theorem Cs.of_box {t:TypeId} {cs:Array Value} (h:BoxN w b t cs):Cs w b cs.toList:=⟨h.lt,fun j v hv=>by rw[h.c j];simpa using hv⟩
theorem Cs.of_own {e:TypeId} {size n c:Nat} {A:Option Addr} (h:Own w e size A n c xs) (hn:0<n):∃ g,A=some ⟨g,0,none⟩∧Cs w g xs:=by
 obtain⟨b,off,e1,hlt,hc⟩:=h.row.2 hn
 rcases h.2 with ⟨h1,h2⟩ | ⟨g,cap,cur,h1,_⟩
 ·omega
 ·injection h1 with h1
  rw[e1] at h1
  injection h1 with h1
  injection h1 with h1 h2
  subst h1 h2
  exact⟨b,e1,hlt,fun j v hv=>by have:=hc j v hv;rw[Nat.zero_add] at this;exact this⟩
end
def portN (i:Int):ON:=⟨16,[],i,0,[]⟩
def chC (i:Int) (v:ByteArray) (a:Bool):List Value:=[.int .i64 16,.string ⟨#[]⟩,.int .i64 i,.int .i64 0,.string ⟨#[]⟩,.string v,.bool a]
theorem encO_port (i:Int):encO (portN i)=portV i:=rfl
structure Good (i:Int) (v:ByteArray) (a:Bool):Prop where
 ck:checkO (portN i)=0
 le:v.size≤65536
 ab:a=true→v=⟨#[]⟩
 ir:0≤i∧i≤1000
theorem good1:Good 1 ⟨#[120]⟩ false:=⟨by decide,by decide,by simp,by omega⟩
theorem good2:Good 2 ⟨#[121,122]⟩ false:=⟨by decide,by decide,by simp,by omega⟩
theorem good1z:Good 3 ⟨#[]⟩ true:=⟨by decide,by decide,by simp,by omega⟩
inductive CL
 | nil
 | one (i:Int) (v:ByteArray) (a:Bool)
def CL.len:CL→Nat
 | .nil=>0
 | .one _ _ _=>1
def CL.good:CL→Prop
 | .nil=>True
 | .one i v a=>Good i v a
def CLat (w:World) (A:Option Addr):CL→Prop
 | .nil=>True
 | .one i v a=>∃ b,A=some ⟨b,0,none⟩∧Cs w b (chC i v a)
theorem CLat.fr {w w':World} {A:Option Addr} {l:CL} {S:List Nat} (h:CLat w A l) (hf:Fr S w w') (hS:∀ k∈blk A,k ∉ S):CLat w' A l:=by
 cases l with
 | nil=>trivial
 | one i v a=>obtain⟨b,rfl,hc⟩:=h;exact⟨b,rfl,hc.fr hf (hS b (by simp[blk]))⟩
theorem CLat.fr0 {w w':World} {A:Option Addr} {l:CL} (h:CLat w A l) (hf:Fr [] w w'):CLat w' A l:=h.fr hf (by simp)
def CL.sl (l:CL) (A:Option Addr) (c:Nat):Value:=.slice A l.len c
theorem Orderly_any (l:CL) (A:Option Addr) (c:Nat) (w:World) (hok:Ok w) (h:CLat w A l) (hg:l.good):Calls Tryz.prog 170 #[l.sl A c] w fun e w'=>e=.returned (.bool true)∧Fr [] w w':=by
 cases l with
 | nil =>
  unfold CL.sl CL.len
  go_enter Tryz.func170,Tryz.ntmps170
  go_wp2_with fail
  refine wp_loop_rounds 1 ?_
  rw[rounds_succ]
  go_wp2_with fail
  go_ret
  exact⟨rfl,Fr.refl [] w⟩
 | one i v a =>
  obtain⟨b,rfl,hb⟩:=h
  obtain⟨hck,hle,hab,_⟩:=hg
  unfold CL.sl CL.len
  have hle2:(v.size:Int)≤65536:=by omega
  obtain⟨w1,hw1,hb1,hf1⟩:=bxn w (chC i v a).toArray 95
  have hC:=Check_any (portN i) w1 (hok.fr0 hf1) (by simp[portN]) (by simp[portN])
  rw[hck,encO_port] at hC
  unfold portV at hC
  have y0:w.cell? ⟨b,0,none⟩=some (.int .i64 16):=hb.2 0 _ rfl
  have y1:w.cell? ⟨b,1,none⟩=some (.string ⟨#[]⟩):=hb.2 1 _ rfl
  have y2:w.cell? ⟨b,2,none⟩=some (.int .i64 i):=hb.2 2 _ rfl
  have y3:w.cell? ⟨b,3,none⟩=some (.int .i64 0):=hb.2 3 _ rfl
  have y4:w.cell? ⟨b,4,none⟩=some (.string ⟨#[]⟩):=hb.2 4 _ rfl
  have y5:w.cell? ⟨b,5,none⟩=some (.string v):=hb.2 5 _ rfl
  have y6:w.cell? ⟨b,6,none⟩=some (.bool a):=hb.2 6 _ rfl
  have HC:=Hd hC
  have HB1:=Hd hb1
  have HF1:=Hd hf1
  have HW1:=Hd hw1
  clear hw1 hb1 hf1 hC hb hck hok
  unfold chC at HW1
  cases a with
  | false =>
   clear hab
   go_enter Tryz.func170,Tryz.ntmps170
   go_wp2_with fail
   refine wp_loop_rounds 2 ?_
   rw[rounds_succ]
   go_upto_region 4 with fail
   rw[HW1.out]
   have hb1:=HB1.out
   have x0:=hb1.c 0
   have x1:=hb1.c 1
   have x2:=hb1.c 2
   have x3:=hb1.c 3
   have x4:=hb1.c 4
   clear hb1
   unfold chC at x0 x1 x2 x3 x4
   simp only[List.getElem?_toArray,List.getElem?_cons_zero,List.getElem?_cons_succ] at x0 x1 x2 x3 x4
   go_upto_region 6 with ((go_at_call 53;(with_reducible refine HC.out.mono ?_);rintro e w2 ⟨rfl,hf2⟩;have hb2:=HB1.out.fr hf2 (by simp);have x5:=hb2.c 5;have x6:=hb2.c 6;unfold chC at x5 x6;simp only[List.getElem?_toArray,List.getElem?_cons_zero,List.getElem?_cons_succ] at x5 x6;have HF2:=Hd (HF1.out.then hf2);clear hb2 hf2))
   go_quiet (fail)
   go_wp2_with fail
   rw[rounds_succ]
   go_wp2_with fail
   go_ret
   exact⟨rfl,HF2.out.drewN _⟩
  | true =>
   obtain rfl:=hab rfl
   clear hab
   go_enter Tryz.func170,Tryz.ntmps170
   go_wp2_with fail
   refine wp_loop_rounds 2 ?_
   rw[rounds_succ]
   go_upto_region 4 with fail
   rw[HW1.out]
   have hb1:=HB1.out
   have x0:=hb1.c 0
   have x1:=hb1.c 1
   have x2:=hb1.c 2
   have x3:=hb1.c 3
   have x4:=hb1.c 4
   clear hb1
   unfold chC at x0 x1 x2 x3 x4
   simp only[List.getElem?_toArray,List.getElem?_cons_zero,List.getElem?_cons_succ] at x0 x1 x2 x3 x4
   go_upto_region 6 with ((go_at_call 53;(with_reducible refine HC.out.mono ?_);rintro e w2 ⟨rfl,hf2⟩;have hb2:=HB1.out.fr hf2 (by simp);have x5:=hb2.c 5;have x6:=hb2.c 6;unfold chC at x5 x6;simp only[List.getElem?_toArray,List.getElem?_cons_zero,List.getElem?_cons_succ] at x5 x6;have HF2:=Hd (HF1.out.then hf2);clear hb2 hf2))
   go_quiet (fail)
   go_wp2_with fail
   rw[rounds_succ]
   go_wp2_with fail
   go_ret
   exact⟨rfl,HF2.out.drewN _⟩
theorem OrderlyV_any (l:CL) (A:Option Addr) (c:Nat) (w:World) (hok:Ok w) (h:CLat w A l) (hg:l.good):Calls Tryz.prog 190 #[l.sl A c] w fun e w'=>e=.returned (.bool true)∧Fr [] w w':=by
 cases l with
 | nil =>
  unfold CL.sl CL.len
  go_enter Tryz.func190,Tryz.ntmps190
  go_wp2_with fail
  refine wp_loop_rounds 1 ?_
  rw[rounds_succ]
  go_wp2_with fail
  go_ret
  exact⟨rfl,Fr.refl [] w⟩
 | one i v a =>
  obtain⟨b,rfl,hb⟩:=h
  obtain⟨hck,hle,hab,_⟩:=hg
  unfold CL.sl CL.len
  have hle2:(v.size:Int)≤65536:=by omega
  obtain⟨w1,hw1,hb1,hf1⟩:=bxn w (chC i v a).toArray 95
  have hC:=Check_any (portN i) w1 (hok.fr0 hf1) (by simp[portN]) (by simp[portN])
  rw[hck,encO_port] at hC
  unfold portV at hC
  have y0:w.cell? ⟨b,0,none⟩=some (.int .i64 16):=hb.2 0 _ rfl
  have y1:w.cell? ⟨b,1,none⟩=some (.string ⟨#[]⟩):=hb.2 1 _ rfl
  have y2:w.cell? ⟨b,2,none⟩=some (.int .i64 i):=hb.2 2 _ rfl
  have y3:w.cell? ⟨b,3,none⟩=some (.int .i64 0):=hb.2 3 _ rfl
  have y4:w.cell? ⟨b,4,none⟩=some (.string ⟨#[]⟩):=hb.2 4 _ rfl
  have y5:w.cell? ⟨b,5,none⟩=some (.string v):=hb.2 5 _ rfl
  have y6:w.cell? ⟨b,6,none⟩=some (.bool a):=hb.2 6 _ rfl
  have HC:=Hd hC
  have HB1:=Hd hb1
  have HF1:=Hd hf1
  have HW1:=Hd hw1
  clear hw1 hb1 hf1 hC hb hck hok
  unfold chC at HW1
  cases a with
  | false =>
   clear hab
   go_enter Tryz.func190,Tryz.ntmps190
   go_wp2_with fail
   refine wp_loop_rounds 2 ?_
   rw[rounds_succ]
   go_upto_region 4 with fail
   rw[HW1.out]
   have hb1:=HB1.out
   have x0:=hb1.c 0
   have x1:=hb1.c 1
   have x2:=hb1.c 2
   have x3:=hb1.c 3
   have x4:=hb1.c 4
   clear hb1
   unfold chC at x0 x1 x2 x3 x4
   simp only[List.getElem?_toArray,List.getElem?_cons_zero,List.getElem?_cons_succ] at x0 x1 x2 x3 x4
   go_upto_region 6 with ((go_at_call 53;(with_reducible refine HC.out.mono ?_);rintro e w2 ⟨rfl,hf2⟩;have hb2:=HB1.out.fr hf2 (by simp);have x5:=hb2.c 5;have x6:=hb2.c 6;unfold chC at x5 x6;simp only[List.getElem?_toArray,List.getElem?_cons_zero,List.getElem?_cons_succ] at x5 x6;have HF2:=Hd (HF1.out.then hf2);clear hb2 hf2))
   go_quiet (fail)
   go_wp2_with fail
   rw[rounds_succ]
   go_wp2_with fail
   go_ret
   exact⟨rfl,HF2.out.drewN _⟩
  | true =>
   obtain rfl:=hab rfl
   clear hab
   go_enter Tryz.func190,Tryz.ntmps190
   go_wp2_with fail
   refine wp_loop_rounds 2 ?_
   rw[rounds_succ]
   go_upto_region 4 with fail
   rw[HW1.out]
   have hb1:=HB1.out
   have x0:=hb1.c 0
   have x1:=hb1.c 1
   have x2:=hb1.c 2
   have x3:=hb1.c 3
   have x4:=hb1.c 4
   clear hb1
   unfold chC at x0 x1 x2 x3 x4
   simp only[List.getElem?_toArray,List.getElem?_cons_zero,List.getElem?_cons_succ] at x0 x1 x2 x3 x4
   go_upto_region 6 with ((go_at_call 53;(with_reducible refine HC.out.mono ?_);rintro e w2 ⟨rfl,hf2⟩;have hb2:=HB1.out.fr hf2 (by simp);have x5:=hb2.c 5;have x6:=hb2.c 6;unfold chC at x5 x6;simp only[List.getElem?_toArray,List.getElem?_cons_zero,List.getElem?_cons_succ] at x5 x6;have HF2:=Hd (HF1.out.then hf2);clear hb2 hf2))
   go_quiet (fail)
   go_wp2_with fail
   rw[rounds_succ]
   go_wp2_with fail
   go_ret
   exact⟨rfl,HF2.out.drewN _⟩
structure AC where
 t:Int
 r:CL
 w:CL
def AC.k (a:AC):KY:=⟨a.t,0,a.t,[]⟩
def actC (t:Int) (rv wv:Value):Array Value:=#[.int .i64 t,.int .i64 0,.int .i64 t,.string ⟨#[]⟩,rv,wv]
def AC.val (a:AC) (A:Option Addr) (c:Nat) (B:Option Addr) (d:Nat):Value:=.agg (actC a.t (a.r.sl A c) (a.w.sl B d))
def AC.good (a:AC):Prop:=(1≤a.t∧a.t≤1000)∧a.r.good∧a.w.good
theorem AC.ck {a:AC} (h:a.good):checkK a.k=0:=by
 obtain⟨⟨h1,h2⟩,_⟩:=h
 unfold checkK AC.k
 simp only
 rw[if_neg (by omega),if_neg (by omega),if_neg (by omega)]
 simp
theorem WellFormed_any (a:AC) (A B:Option Addr) (c d:Nat) (w:World) (hok:Ok w) (hA:CLat w A a.r) (hB:CLat w B a.w) (hg:a.good):Calls Tryz.prog 120 #[a.val A c B d] w fun e w'=>e=.returned (.bool true)∧Fr [] w w':=by
 unfold AC.val actC
 obtain⟨rv,hrv⟩:=nmd (a.r.sl A c)
 obtain⟨wv,hwv⟩:=nmd (a.w.sl B d)
 obtain⟨t,ht⟩:∃ t,a.t=t:=⟨_,rfl⟩
 rw[hrv,hwv,ht]
 obtain⟨w1,hw1,hb1,hf1⟩:=bxn w #[.int .i64 t,.int .i64 0,.int .i64 t,.string ⟨#[]⟩,rv,wv] 91
 have hC:=CheckK_any a.k w1 (by simp[AC.k])
 rw[AC.ck hg] at hC
 unfold encK AC.k at hC
 rw[ht] at hC
 have hC2:Calls Tryz.prog 169 #[.agg #[.int .i64 t,.int .i64 0,.int .i64 t,.string ⟨#[]⟩]] w1 (ChkPost w1 0):=hC
 have hO1:=fun W (hW:Fr [] w W)=>Orderly_any a.r A c W (hok.fr0 hW) (hA.fr0 hW) hg.2.1
 have hO2:=fun W (hW:Fr [] w W)=>Orderly_any a.w B d W (hok.fr0 hW) (hB.fr0 hW) hg.2.2
 rw[hrv] at hO1
 rw[hwv] at hO2
 obtain⟨x0,x1,x2,x3⟩:=hb1.m4
 have HC:=Hd hC2
 have HB1:=Hd hb1
 have HF1:=Hd hf1
 have HW1:=Hd hw1
 have HO1:=Hd hO1
 have HO2:=Hd hO2
 clear hC hC2 hb1 hf1 hw1 hO1 hO2 hok hA hB hg hrv hwv ht
 go_enter Tryz.func120,Tryz.ntmps120
 go_upto_region 1 with fail
 rw[HW1.out]
 go_wp2_with (first
  | (go_at_call 169;(with_reducible refine HC.out.mono ?_);rintro e w2 ⟨rfl,hf2⟩;have hb2:=HB1.out.fr hf2 (by simp);have y4:w2.cell? ⟨w.heap.size,4,none⟩=some rv:=hb2.c 4;have y5:w2.cell? ⟨w.heap.size,5,none⟩=some wv:=hb2.c 5;have HF2:=Hd (HF1.out.then hf2);have HB2:=Hd hb2;clear hb2 hf2)
  | (go_at_call 170;(with_reducible refine (HO1.out _ HF2.out).mono ?_);rintro e w3 ⟨rfl,hf3⟩;have hb3:=HB2.out.fr hf3 (by simp);have z5:w3.cell? ⟨w.heap.size,5,none⟩=some wv:=hb3.c 5;have HF3:=Hd (HF2.out.then hf3);clear hb3 hf3)
  | (go_at_call 170;(with_reducible refine (HO2.out _ HF3.out).mono ?_);rintro e w4 ⟨rfl,hf4⟩;have HF4:=Hd (HF3.out.then hf4);clear hf4))
 go_ret
 exact⟨rfl,HF4.out⟩
theorem WellFormedV_any (a:AC) (A B:Option Addr) (c d:Nat) (w:World) (hok:Ok w) (hA:CLat w A a.r) (hB:CLat w B a.w) (hg:a.good):Calls Tryz.prog 158 #[a.val A c B d] w fun e w'=>e=.returned (.bool true)∧Fr [] w w':=by
 unfold AC.val actC
 obtain⟨rv,hrv⟩:=nmd (a.r.sl A c)
 obtain⟨wv,hwv⟩:=nmd (a.w.sl B d)
 obtain⟨t,ht⟩:∃ t,a.t=t:=⟨_,rfl⟩
 rw[hrv,hwv,ht]
 obtain⟨w1,hw1,hb1,hf1⟩:=bxn w #[.int .i64 t,.int .i64 0,.int .i64 t,.string ⟨#[]⟩,rv,wv] 91
 have hC:=CheckK_any a.k w1 (by simp[AC.k])
 rw[AC.ck hg] at hC
 unfold encK AC.k at hC
 rw[ht] at hC
 have hC2:Calls Tryz.prog 169 #[.agg #[.int .i64 t,.int .i64 0,.int .i64 t,.string ⟨#[]⟩]] w1 (ChkPost w1 0):=hC
 have hO1:=fun W (hW:Fr [] w W)=>OrderlyV_any a.r A c W (hok.fr0 hW) (hA.fr0 hW) hg.2.1
 have hO2:=fun W (hW:Fr [] w W)=>OrderlyV_any a.w B d W (hok.fr0 hW) (hB.fr0 hW) hg.2.2
 rw[hrv] at hO1
 rw[hwv] at hO2
 obtain⟨x0,x1,x2,x3⟩:=hb1.m4
 have HC:=Hd hC2
 have HB1:=Hd hb1
 have HF1:=Hd hf1
 have HW1:=Hd hw1
 have HO1:=Hd hO1
 have HO2:=Hd hO2
 clear hC hC2 hb1 hf1 hw1 hO1 hO2 hok hA hB hg hrv hwv ht
 go_enter Tryz.func158,Tryz.ntmps158
 go_upto_region 1 with fail
 rw[HW1.out]
 go_wp2_with (first
  | (go_at_call 169;(with_reducible refine HC.out.mono ?_);rintro e w2 ⟨rfl,hf2⟩;have hb2:=HB1.out.fr hf2 (by simp);have y4:w2.cell? ⟨w.heap.size,4,none⟩=some rv:=hb2.c 4;have y5:w2.cell? ⟨w.heap.size,5,none⟩=some wv:=hb2.c 5;have HF2:=Hd (HF1.out.then hf2);have HB2:=Hd hb2;clear hb2 hf2)
  | (go_at_call 190;(with_reducible refine (HO1.out _ HF2.out).mono ?_);rintro e w3 ⟨rfl,hf3⟩;have hb3:=HB2.out.fr hf3 (by simp);have z5:w3.cell? ⟨w.heap.size,5,none⟩=some wv:=hb3.c 5;have HF3:=Hd (HF2.out.then hf3);clear hb3 hf3)
  | (go_at_call 190;(with_reducible refine (HO2.out _ HF3.out).mono ?_);rintro e w4 ⟨rfl,hf4⟩;have HF4:=Hd (HF3.out.then hf4);clear hf4))
 go_ret
 exact⟨rfl,HF4.out⟩
theorem Cs.k0 {W : World} {b : Nat} {v0 : Value} {l : List Value} (h : Cs W b (v0 :: l)) : W.cell? ⟨b, 0, none⟩ = some v0 := h.2 0 _ rfl
theorem Cs.k1 {W : World} {b : Nat} {v0 v1 : Value} {l : List Value} (h : Cs W b (v0 :: v1 :: l)) : W.cell? ⟨b, 1, none⟩ = some v1 := h.2 1 _ rfl
theorem Cs.k2 {W : World} {b : Nat} {v0 v1 v2 : Value} {l : List Value} (h : Cs W b (v0 :: v1 :: v2 :: l)) : W.cell? ⟨b, 2, none⟩ = some v2 := h.2 2 _ rfl
theorem Cs.k3 {W : World} {b : Nat} {v0 v1 v2 v3 : Value} {l : List Value} (h : Cs W b (v0 :: v1 :: v2 :: v3 :: l)) : W.cell? ⟨b, 3, none⟩ = some v3 := h.2 3 _ rfl
theorem Cs.k4 {W : World} {b : Nat} {v0 v1 v2 v3 v4 : Value} {l : List Value} (h : Cs W b (v0 :: v1 :: v2 :: v3 :: v4 :: l)) : W.cell? ⟨b, 4, none⟩ = some v4 := h.2 4 _ rfl
theorem Cs.k5 {W : World} {b : Nat} {v0 v1 v2 v3 v4 v5 : Value} {l : List Value} (h : Cs W b (v0 :: v1 :: v2 :: v3 :: v4 :: v5 :: l)) : W.cell? ⟨b, 5, none⟩ = some v5 := h.2 5 _ rfl
theorem Cs.k6 {W : World} {b : Nat} {v0 v1 v2 v3 v4 v5 v6 : Value} {l : List Value} (h : Cs W b (v0 :: v1 :: v2 :: v3 :: v4 :: v5 :: v6 :: l)) : W.cell? ⟨b, 6, none⟩ = some v6 := h.2 6 _ rfl
theorem Cs.k7 {W : World} {b : Nat} {v0 v1 v2 v3 v4 v5 v6 v7 : Value} {l : List Value} (h : Cs W b (v0 :: v1 :: v2 :: v3 :: v4 :: v5 :: v6 :: v7 :: l)) : W.cell? ⟨b, 7, none⟩ = some v7 := h.2 7 _ rfl
theorem Cs.k8 {W : World} {b : Nat} {v0 v1 v2 v3 v4 v5 v6 v7 v8 : Value} {l : List Value} (h : Cs W b (v0 :: v1 :: v2 :: v3 :: v4 :: v5 :: v6 :: v7 :: v8 :: l)) : W.cell? ⟨b, 8, none⟩ = some v8 := h.2 8 _ rfl
theorem Cs.k9 {W : World} {b : Nat} {v0 v1 v2 v3 v4 v5 v6 v7 v8 v9 : Value} {l : List Value} (h : Cs W b (v0 :: v1 :: v2 :: v3 :: v4 :: v5 :: v6 :: v7 :: v8 :: v9 :: l)) : W.cell? ⟨b, 9, none⟩ = some v9 := h.2 9 _ rfl
theorem Cs.k10 {W : World} {b : Nat} {v0 v1 v2 v3 v4 v5 v6 v7 v8 v9 v10 : Value} {l : List Value} (h : Cs W b (v0 :: v1 :: v2 :: v3 :: v4 :: v5 :: v6 :: v7 :: v8 :: v9 :: v10 :: l)) : W.cell? ⟨b, 10, none⟩ = some v10 := h.2 10 _ rfl
theorem Cs.k11 {W : World} {b : Nat} {v0 v1 v2 v3 v4 v5 v6 v7 v8 v9 v10 v11 : Value} {l : List Value} (h : Cs W b (v0 :: v1 :: v2 :: v3 :: v4 :: v5 :: v6 :: v7 :: v8 :: v9 :: v10 :: v11 :: l)) : W.cell? ⟨b, 11, none⟩ = some v11 := h.2 11 _ rfl
theorem Cs.m2 {W : World} {b : Nat} {v0 v1 : Value} {l : List Value} (h : Cs W b (v0 :: v1 :: l)) : W.cell? ⟨b, 0, none⟩ = some v0 ∧ W.cell? ⟨b, 1, none⟩ = some v1 := ⟨h.2 0 _ rfl, h.2 1 _ rfl⟩
theorem Cs.m3 {W : World} {b : Nat} {v0 v1 v2 : Value} {l : List Value} (h : Cs W b (v0 :: v1 :: v2 :: l)) : W.cell? ⟨b, 0, none⟩ = some v0 ∧ W.cell? ⟨b, 1, none⟩ = some v1 ∧ W.cell? ⟨b, 2, none⟩ = some v2 := ⟨h.2 0 _ rfl, h.2 1 _ rfl, h.2 2 _ rfl⟩
theorem Cs.m4 {W : World} {b : Nat} {v0 v1 v2 v3 : Value} {l : List Value} (h : Cs W b (v0 :: v1 :: v2 :: v3 :: l)) : W.cell? ⟨b, 0, none⟩ = some v0 ∧ W.cell? ⟨b, 1, none⟩ = some v1 ∧ W.cell? ⟨b, 2, none⟩ = some v2 ∧ W.cell? ⟨b, 3, none⟩ = some v3 := ⟨h.2 0 _ rfl, h.2 1 _ rfl, h.2 2 _ rfl, h.2 3 _ rfl⟩
theorem Cs.m5 {W : World} {b : Nat} {v0 v1 v2 v3 v4 : Value} {l : List Value} (h : Cs W b (v0 :: v1 :: v2 :: v3 :: v4 :: l)) : W.cell? ⟨b, 0, none⟩ = some v0 ∧ W.cell? ⟨b, 1, none⟩ = some v1 ∧ W.cell? ⟨b, 2, none⟩ = some v2 ∧ W.cell? ⟨b, 3, none⟩ = some v3 ∧ W.cell? ⟨b, 4, none⟩ = some v4 := ⟨h.2 0 _ rfl, h.2 1 _ rfl, h.2 2 _ rfl, h.2 3 _ rfl, h.2 4 _ rfl⟩
theorem Cs.m6 {W : World} {b : Nat} {v0 v1 v2 v3 v4 v5 : Value} {l : List Value} (h : Cs W b (v0 :: v1 :: v2 :: v3 :: v4 :: v5 :: l)) : W.cell? ⟨b, 0, none⟩ = some v0 ∧ W.cell? ⟨b, 1, none⟩ = some v1 ∧ W.cell? ⟨b, 2, none⟩ = some v2 ∧ W.cell? ⟨b, 3, none⟩ = some v3 ∧ W.cell? ⟨b, 4, none⟩ = some v4 ∧ W.cell? ⟨b, 5, none⟩ = some v5 := ⟨h.2 0 _ rfl, h.2 1 _ rfl, h.2 2 _ rfl, h.2 3 _ rfl, h.2 4 _ rfl, h.2 5 _ rfl⟩
theorem Cs.m7 {W : World} {b : Nat} {v0 v1 v2 v3 v4 v5 v6 : Value} {l : List Value} (h : Cs W b (v0 :: v1 :: v2 :: v3 :: v4 :: v5 :: v6 :: l)) : W.cell? ⟨b, 0, none⟩ = some v0 ∧ W.cell? ⟨b, 1, none⟩ = some v1 ∧ W.cell? ⟨b, 2, none⟩ = some v2 ∧ W.cell? ⟨b, 3, none⟩ = some v3 ∧ W.cell? ⟨b, 4, none⟩ = some v4 ∧ W.cell? ⟨b, 5, none⟩ = some v5 ∧ W.cell? ⟨b, 6, none⟩ = some v6 := ⟨h.2 0 _ rfl, h.2 1 _ rfl, h.2 2 _ rfl, h.2 3 _ rfl, h.2 4 _ rfl, h.2 5 _ rfl, h.2 6 _ rfl⟩
theorem Cs.m8 {W : World} {b : Nat} {v0 v1 v2 v3 v4 v5 v6 v7 : Value} {l : List Value} (h : Cs W b (v0 :: v1 :: v2 :: v3 :: v4 :: v5 :: v6 :: v7 :: l)) : W.cell? ⟨b, 0, none⟩ = some v0 ∧ W.cell? ⟨b, 1, none⟩ = some v1 ∧ W.cell? ⟨b, 2, none⟩ = some v2 ∧ W.cell? ⟨b, 3, none⟩ = some v3 ∧ W.cell? ⟨b, 4, none⟩ = some v4 ∧ W.cell? ⟨b, 5, none⟩ = some v5 ∧ W.cell? ⟨b, 6, none⟩ = some v6 ∧ W.cell? ⟨b, 7, none⟩ = some v7 := ⟨h.2 0 _ rfl, h.2 1 _ rfl, h.2 2 _ rfl, h.2 3 _ rfl, h.2 4 _ rfl, h.2 5 _ rfl, h.2 6 _ rfl, h.2 7 _ rfl⟩
theorem Cs.m9 {W : World} {b : Nat} {v0 v1 v2 v3 v4 v5 v6 v7 v8 : Value} {l : List Value} (h : Cs W b (v0 :: v1 :: v2 :: v3 :: v4 :: v5 :: v6 :: v7 :: v8 :: l)) : W.cell? ⟨b, 0, none⟩ = some v0 ∧ W.cell? ⟨b, 1, none⟩ = some v1 ∧ W.cell? ⟨b, 2, none⟩ = some v2 ∧ W.cell? ⟨b, 3, none⟩ = some v3 ∧ W.cell? ⟨b, 4, none⟩ = some v4 ∧ W.cell? ⟨b, 5, none⟩ = some v5 ∧ W.cell? ⟨b, 6, none⟩ = some v6 ∧ W.cell? ⟨b, 7, none⟩ = some v7 ∧ W.cell? ⟨b, 8, none⟩ = some v8 := ⟨h.2 0 _ rfl, h.2 1 _ rfl, h.2 2 _ rfl, h.2 3 _ rfl, h.2 4 _ rfl, h.2 5 _ rfl, h.2 6 _ rfl, h.2 7 _ rfl, h.2 8 _ rfl⟩
theorem Cs.m10 {W : World} {b : Nat} {v0 v1 v2 v3 v4 v5 v6 v7 v8 v9 : Value} {l : List Value} (h : Cs W b (v0 :: v1 :: v2 :: v3 :: v4 :: v5 :: v6 :: v7 :: v8 :: v9 :: l)) : W.cell? ⟨b, 0, none⟩ = some v0 ∧ W.cell? ⟨b, 1, none⟩ = some v1 ∧ W.cell? ⟨b, 2, none⟩ = some v2 ∧ W.cell? ⟨b, 3, none⟩ = some v3 ∧ W.cell? ⟨b, 4, none⟩ = some v4 ∧ W.cell? ⟨b, 5, none⟩ = some v5 ∧ W.cell? ⟨b, 6, none⟩ = some v6 ∧ W.cell? ⟨b, 7, none⟩ = some v7 ∧ W.cell? ⟨b, 8, none⟩ = some v8 ∧ W.cell? ⟨b, 9, none⟩ = some v9 := ⟨h.2 0 _ rfl, h.2 1 _ rfl, h.2 2 _ rfl, h.2 3 _ rfl, h.2 4 _ rfl, h.2 5 _ rfl, h.2 6 _ rfl, h.2 7 _ rfl, h.2 8 _ rfl, h.2 9 _ rfl⟩
theorem Cs.m11 {W : World} {b : Nat} {v0 v1 v2 v3 v4 v5 v6 v7 v8 v9 v10 : Value} {l : List Value} (h : Cs W b (v0 :: v1 :: v2 :: v3 :: v4 :: v5 :: v6 :: v7 :: v8 :: v9 :: v10 :: l)) : W.cell? ⟨b, 0, none⟩ = some v0 ∧ W.cell? ⟨b, 1, none⟩ = some v1 ∧ W.cell? ⟨b, 2, none⟩ = some v2 ∧ W.cell? ⟨b, 3, none⟩ = some v3 ∧ W.cell? ⟨b, 4, none⟩ = some v4 ∧ W.cell? ⟨b, 5, none⟩ = some v5 ∧ W.cell? ⟨b, 6, none⟩ = some v6 ∧ W.cell? ⟨b, 7, none⟩ = some v7 ∧ W.cell? ⟨b, 8, none⟩ = some v8 ∧ W.cell? ⟨b, 9, none⟩ = some v9 ∧ W.cell? ⟨b, 10, none⟩ = some v10 := ⟨h.2 0 _ rfl, h.2 1 _ rfl, h.2 2 _ rfl, h.2 3 _ rfl, h.2 4 _ rfl, h.2 5 _ rfl, h.2 6 _ rfl, h.2 7 _ rfl, h.2 8 _ rfl, h.2 9 _ rfl, h.2 10 _ rfl⟩
theorem Cs.m12 {W : World} {b : Nat} {v0 v1 v2 v3 v4 v5 v6 v7 v8 v9 v10 v11 : Value} {l : List Value} (h : Cs W b (v0 :: v1 :: v2 :: v3 :: v4 :: v5 :: v6 :: v7 :: v8 :: v9 :: v10 :: v11 :: l)) : W.cell? ⟨b, 0, none⟩ = some v0 ∧ W.cell? ⟨b, 1, none⟩ = some v1 ∧ W.cell? ⟨b, 2, none⟩ = some v2 ∧ W.cell? ⟨b, 3, none⟩ = some v3 ∧ W.cell? ⟨b, 4, none⟩ = some v4 ∧ W.cell? ⟨b, 5, none⟩ = some v5 ∧ W.cell? ⟨b, 6, none⟩ = some v6 ∧ W.cell? ⟨b, 7, none⟩ = some v7 ∧ W.cell? ⟨b, 8, none⟩ = some v8 ∧ W.cell? ⟨b, 9, none⟩ = some v9 ∧ W.cell? ⟨b, 10, none⟩ = some v10 ∧ W.cell? ⟨b, 11, none⟩ = some v11 := ⟨h.2 0 _ rfl, h.2 1 _ rfl, h.2 2 _ rfl, h.2 3 _ rfl, h.2 4 _ rfl, h.2 5 _ rfl, h.2 6 _ rfl, h.2 7 _ rfl, h.2 8 _ rfl, h.2 9 _ rfl, h.2 10 _ rfl, h.2 11 _ rfl⟩
def RetPost (w:World) (v:Value) (e:Ending) (w':World):Prop:=e=.returned v∧Fr [] w w'
theorem Written_any (a w:World) (b:Nat) (bs:Nm) (hws:WrS a b bs w) (hL:bs.length≤70368744177600):Calls Tryz.prog 123 #[.pointer (some ⟨b,0,none⟩)] w (RetPost w (.tuple #[encN bs,.int .i64 0])):=by
 go_enter Tryz.func123,Tryz.ntmps123
 go_wp2_with ((go_at_call 58;(with_reducible refine (Bytes_ws hws hL).mono ?_);rintro e w6 ⟨A',c',rfl,ho6,hf6,_⟩;have hcv:=run_row_str ho6.row 49 5 Tryz.underlying49 Tryz.underlying5 9 Tryz.underlying9 c';have HFF:=Hd hf6;clear ho6 hf6))
 go_ret2
 exact⟨rfl,HFF.out⟩
def encCL (bs:Nm):CL→Nm
 | .nil=>bs++encU 0
 | .one i v a=>(((bs++encU 1)++encT (encOn (portN i)))++[flagB a])++encT v.data.toList
def encA (a:AC):Nm:=encCL (encCL (([]:Nm)++encKey a.k) a.r) a.w
theorem encOn_port (i:Int):encOn (portN i)=encU 16++encU i.toNat:=by
 unfold encOn portN
 have e:us (16:Int).toNat=⟨[112,111,114,116],false,true,false,false,0⟩:=rfl
 simp only
 rw[e]
 unfold encOu
 simp
theorem encCL_len {bs:Nm} {l:CL} (h:l.good):(encCL bs l).length≤bs.length+70000:=by
 cases l with
 | nil =>
  unfold encCL
  have:=encU_len9 (u:=0) (by omega)
  rw[List.length_append];omega
 | one i v a =>
  unfold encCL
  obtain⟨h1,h2,_,h4⟩:=h
  have e:=encOn_port i
  have k1:=encU_len9 (u:=16) (by omega)
  have k2:=encU_len9 (u:=i.toNat) (by omega)
  have k3:=encU_len9 (u:=1) (by omega)
  have k4:=encT_len (s:=encOn (portN i)) (by rw[e,List.length_append];omega)
  have k5:=encT_len (s:=v.data.toList) (by rw[←len_data];omega)
  rw[←len_data] at k5
  rw[e] at k4
  simp only[List.length_append,List.length_cons,List.length_nil,e] at k4 ⊢
  omega
def encUp (kb:Nm) (r wr:CL):Nat→Nm
 | 0=>kb
 | 1=>encCL kb r
 | _=>encCL (encCL kb r) wr
def EncR (W3:World) (b:Nat) (kb:Nm) (r wr:CL) (i:Value) (W:World):Prop:=∃ k:Nat,k≤2∧i=.int .i64 (k:Int)∧WrS W3 b (encUp kb r wr k) W
theorem run_index2 (w:World) (x y v:Value) (i:Nat) (hi:i<2) (hv:(#[x,y]:Array Value)[i]?=some v):(Instr.index 231 (.agg #[x,y]) (.int .i64 (i:Int))).run Tryz.prog w=.ok v w :=
 run_index_agg w 231 62 2 #[x,y] .i64 i v Tryz.underlying231 (fun w=>by simp[go_sem]) (fun w=>by simp[go_sem]) hi hv
theorem EncodeA_any (a:AC) (A B:Option Addr) (c d:Nat) (w:World) (hok:Ok w) (hA:CLat w A a.r) (hB:CLat w B a.w) (hg:a.good):Calls Tryz.prog 60 #[a.val A c B d] w (RetPost w (.tuple #[encN (encA a),.int .i64 0])):=by
 have hk:encK a.k=.agg #[.int .i64 a.t,.int .i64 0,.int .i64 a.t,.string ⟨#[]⟩]:=rfl
 obtain⟨q,hq⟩:=nmd (encA a)
 rw[hq]
 unfold encA at hq
 obtain⟨w1,hw1,hb1,hf1⟩:=bxn w (actC a.t (a.r.sl A c) (a.w.sl B d)) 91
 have hWF:=WellFormed_any a A B c d w1 (hok.fr0 hf1) (hA.fr0 hf1) (hB.fr0 hf1) hg
 have hKW:=fun (W2 W3:World) (b:Nat) (hws:WrS W2 b [] W3)=>KeyWrite_wk a.k W2 W3 b [] hws ⟨by have:=hg.1;simp only[AC.k];omega,by have:=hg.1;simp only[AC.k];omega⟩ (by simp[AC.k]) ⟨by have:=hg.1;simp only[AC.k];omega,by have:=hg.1;simp only[AC.k];omega⟩ (by simp[AC.k]) (by simp)
 rw[hk] at hKW
 have hkl:(encKey a.k).length≤100:=by
  unfold encKey AC.k
  have:=hg.1
  have h1:=encU_len9 (u:=a.t.toNat) (by omega)
  have h2:=encU_len9 (u:=(0:Int).toNat) (by simp)
  have h3:=encT_len (s:=[]) (by simp)
  simp only[List.length_append,List.length_nil] at h3 ⊢
  omega
 obtain⟨kb,hkb⟩:=nmd (([]:Nm)++encKey a.k)
 rw[hkb] at hKW hq
 have hkl2:kb.length≤100:=by rw[←hkb];simpa using hkl
 have hl1:(encCL kb a.r).length≤10000000:=by have:=encCL_len (bs:=kb) hg.2.1;omega
 have hl2:(encCL (encCL kb a.r) a.w).length≤10000000:=by have:=encCL_len (bs:=kb) hg.2.1;have:=encCL_len (bs:=encCL kb a.r) hg.2.2;omega
 have hl0:kb.length≤10000000:=by omega
 clear hkb hkl hk hkl2
 unfold AC.val at hWF ⊢
 unfold actC at hWF hw1 hb1 ⊢
 obtain⟨t,r,l2⟩:=a
 simp only at hWF hw1 hb1 hA hB hKW hq hl1 hl2 ⊢
 obtain⟨_,hgr,hgw⟩:=hg
 simp only at hgr hgw
 unfold CL.sl at hWF hw1 hb1 ⊢
 obtain⟨rn,hrn⟩:=nmd (r.len)
 obtain⟨wn,hwn⟩:=nmd (l2.len)
 rw[hrn,hwn] at hWF hw1 hb1 ⊢
 have HRN:=Hd hrn
 have HWN0:=Hd hwn
 clear hrn hwn
 obtain⟨x0,x1,x2,x3,x4,x5⟩:=hb1.m6
 have HWF:=Hd hWF
 have HKW:=Hd hKW
 have HQ:=Hd hq
 have HB1:=Hd hb1
 have HF1:=Hd hf1
 have HW1:=Hd hw1
 have HOK:=Hd (fun (W:World) (hW:Fr [] w W)=>hok.fr0 hW)
 have HLS:=Hd (And.intro hl0 (And.intro hl1 hl2))
 clear hWF hKW hq hb1 hf1 hw1 hok hl0 hl1 hl2
 go_enter Tryz.func60,Tryz.ntmps60
 go_upto_region 1 with fail
 rw[HW1.out]
 go_upto_region 4 with (first
  | (go_at_call 120;(with_reducible refine HWF.out.mono ?_);rintro e w2 ⟨rfl,hf2⟩;have HF2:=Hd hf2;clear hf2)
  | (go_at_call 54;(with_reducible refine (NewWriter_any _).mono ?_);rintro e w3 ⟨rfl,hwr3,hf3⟩))
 have hlt:=HB1.out.lt
 have hs2:=HF2.out.size
 have HF3:=Hd (HF1.out.then (HF2.out.then hf3))
 have hb3:=(HB1.out.fr HF2.out (by simp)).fr hf3 (by simp)
 have hws3:=WrS.new hwr3
 have hbb:w.heap.size<w2.heap.size:=by omega
 generalize w2.heap.size=b at hws3 hbb ⊢
 obtain⟨y0,y1,y2,y3⟩:=hb3.m4
 have HB3:=Hd hb3
 have HWS3:=Hd hws3
 clear x0 x1 x2 x3 x4 x5 hwr3 hf3 hb3 hws3 hlt hs2 HWF HB1 HF1 HF2 HW1
 go_upto_region 5 with ((go_at_call 121;(with_reducible refine (HKW.out _ _ _ HWS3.out).mono ?_);rintro e w4 ⟨rfl,hws4,hk4⟩))
 have hb4:=HB3.out.fr hws4.fr (by simp;omega)
 have z4:=hb4.k4
 have z5:=hb4.k5
 have hj0:EncR w3 b kb r l2 (.int .i64 0) w4:=⟨0,by omega,rfl,hws4⟩
 have HJ0:=Hd hj0
 clear y0 y1 y2 y3 hb4 hws4 hk4 hj0 HB3 HWS3 HKW
 go_wp2_with fail
 clear z4 z5
 go_loopw [24] (EncR w3 b kb r l2) (fun i _=>2 - (intOf i).toNat)
 case atStart=>exact HJ0.out
 case round =>
  obtain⟨k,hk,rfl,hws⟩:=hrel
  have HWN:=Hd hws
  clear hws HJ0
  match k,hk with
  | 0,_ =>
   have hix:(Instr.index 231 (.agg #[.slice A rn c,.slice B wn d]) (.int .i64 0)).run Tryz.prog wr=.ok (.slice A rn c) wr:=run_index2 wr _ _ _ 0 (by omega) rfl
   go_upto_region 8 with fail
   clear hix
   have HLEN:=Hd HLS.out.1
   have hgl:=hgr
   unfold encUp at HWN
   simp only at HWN
   cases r with
   | nil =>
    obtain rfl:0=rn:=HRN.out
    have HLE:Hid ((kb).length≤10000000):=HLEN
    go_upto_region 9 with ((go_at_call 57;have hT:=Number_wk HWN.out 0 (by omega) (by have:=HLE.out;omega);rw[show (((0:Nat)):Int)=0 from rfl] at hT;(with_reducible refine hT.mono ?_);clear hT HWN;rintro e w5 ⟨rfl,hws5,_⟩;have HWN:=Hd hws5;clear hws5))
    go_wp2_with fail
    refine wp_loop_rounds 1 ?_
    rw[rounds_succ]
    go_wp2_with fail
    go_roundw
    case rel=>exact⟨0+1,by omega,rfl,HWN.out⟩
    case measure=>simp[intOf]
   | one i v ab =>
    obtain⟨cb,rfl,hcb⟩:=hA
    unfold CL.good at hgl
    have HGL:=Hd hgl
    have hcs3:=hcb.fr0 HF3.out
    have hcw:cb<w.heap.size:=hcb.1
    have hcb2:cb≠b:=by omega
    have HCS:=Hd hcs3
    have HLE:Hid ((kb).length≤10000000):=HLEN
    clear hcb hcs3 hgl
    obtain rfl:1=rn:=HRN.out
    go_upto_region 9 with ((go_at_call 57;have hT:=Number_wk HWN.out 1 (by omega) (by have:=HLE.out;omega);rw[show (((1:Nat)):Int)=1 from rfl] at hT;(with_reducible refine hT.mono ?_);clear hT HWN;rintro e w5 ⟨rfl,hws5,_⟩;have HWN:=Hd hws5;clear hws5))
    go_wp2_with fail
    refine wp_loop_rounds 2 ?_
    rw[rounds_succ]
    have hc5:=HCS.out.fr HWN.out.fr (by simpa using hcb2)
    have y0:_=some (Value.int .i64 16):=hc5.2 0 _ rfl
    have y1:_=some (Value.string ⟨#[]⟩):=hc5.2 1 _ rfl
    have y2:_=some (Value.int .i64 i):=hc5.2 2 _ rfl
    have y3:_=some (Value.int .i64 0):=hc5.2 3 _ rfl
    have y4:_=some (Value.string ⟨#[]⟩):=hc5.2 4 _ rfl
    have y5:_=some (Value.string v):=hc5.2 5 _ rfl
    have y6:_=some (Value.bool ab):=hc5.2 6 _ rfl
    clear hc5
    go_upto_region 12 with fail
    obtain⟨w6,hw6,hz6,hf6⟩:=bxn w5 #[.int .i64 16,.string ⟨#[]⟩,.int .i64 i,.int .i64 0,.string ⟨#[]⟩,.string v,.bool ab] 95
    have hb5:=HWN.out.blt
    have HW6:=Hd (HWN.out.more hf6 hb5)
    have hzb:w5.heap.size≠b:=by omega
    rw[hw6]
    generalize w5.heap.size=Z at hz6 hzb ⊢
    obtain⟨x0,x1,x2,x3,x4⟩:=hz6.m5
    have hE:=EncodeO_any (portN i) w6 (HOK.out w6 ((HF3.out.trans HWN.out.fr (by intro x hx;rw[List.mem_singleton] at hx;subst hx;exact .inr (by omega))).then hf6)) (by simp[portN]) (by simp[portN])
    rw[HGL.out.ck,if_pos rfl,encO_port] at hE
    unfold portV EncPost at hE
    obtain⟨ns,hns,_,_⟩:=str_of (encOn (portN i))
    obtain⟨vs,hvs⟩:=nmd (v.data.toList)
    have hvl:vs.length≤65536:=by rw[←hvs,←len_data];exact HGL.out.le
    have hve:encN vs=.string v:=by rw[←hvs];rfl
    have hol:(encOn (portN i)).length≤20:=by
     rw[encOn_port,List.length_append]
     have:=HGL.out.ir
     have h1:=encU_len9 (u:=16) (by omega)
     have h2:=encU_len9 (u:=i.toNat) (by omega)
     omega
    have hut:=encT_len (s:=encOn (portN i)) (by omega)
    have hu1:=encU_len9 (u:=1) (by omega)
    rw[hns] at hE
    have HE:=Hd hE
    have HZ6:=Hd hz6
    have HVS:=Hd (And.intro hvs hve)
    have HNS:=Hd hns
    clear hE hz6 hw6 hvs hve hns y0 y1 y2 y3 y4 y5 y6 hf6 hb5 HWN
    go_upto_region 15 with ((go_at_call 55;(with_reducible refine HE.out.mono ?_);rintro e w7 ⟨rfl,hf7⟩))
    have HW7:=Hd (HW6.out.more hf7 HW6.out.blt)
    have HZ7:=Hd (HZ6.out.fr hf7 (by simp))
    clear hf7 x0 x1 x2 x3 x4 HE HZ6 HW6
    have hT:=Text_wk HW7.out (encOn (portN i)) (by omega) (by have:=HLE.out;rw[List.length_append];omega)
    rw[HNS.out] at hT
    have HT:=Hd hT
    clear hT
    go_upto_region 16 with ((go_at_call 56;(with_reducible refine HT.out.mono ?_);rintro e w8 ⟨rfl,hws8,hk8⟩))
    have hz8:=hk8 _ _ _ (by decide) hzb HZ7.out
    have z6:=hz8.k6
    have hT:=Flag_wk hws8 ab (by have:=HLE.out;simp only[List.length_append];omega)
    have HT2:=Hd hT
    have HZ8:=Hd hz8
    clear hT hz8 hws8 hk8 HT HZ7 HW7
    go_upto_region 17 with ((go_at_call 122;(with_reducible refine HT2.out.mono ?_);rintro e w9 ⟨rfl,hws9,hk9⟩))
    have hz9:=hk9 _ _ _ (by decide) hzb HZ8.out
    have z5:=hz9.k5
    have hT:=Text_wk hws9 vs (by omega) (by have:=HLE.out;simp only[List.length_append,List.length_cons,List.length_nil];omega)
    rw[HVS.out.2] at hT
    have HT3:=Hd hT
    clear hT hz9 hws9 hk9 HT2 HZ8 z6
    go_upto_region 18 with ((go_at_call 56;(with_reducible refine HT3.out.mono ?_);rintro e w10 ⟨rfl,hws10,hk10⟩))
    have HWN:=Hd hws10
    clear hws10 hk10 HT3 z5
    go_wp2_with fail
    rw[rounds_succ]
    go_wp2_with fail
    go_roundw
    case rel =>
     refine⟨0+1,by omega,rfl,?_⟩
     have h:=HWN.out
     rw[←HVS.out.1] at h
     exact h
    case measure=>simp[intOf]
  | 1,_ =>
   have hix:(Instr.index 231 (.agg #[.slice A rn c,.slice B wn d]) (.int .i64 1)).run Tryz.prog wr=.ok (.slice B wn d) wr:=run_index2 wr _ _ _ 1 (by omega) rfl
   go_upto_region 8 with fail
   clear hix
   have HLEN:=Hd HLS.out.2.1
   have hgl:=hgw
   unfold encUp at HWN
   simp only at HWN
   cases l2 with
   | nil =>
    obtain rfl:0=wn:=HWN0.out
    have HLE:Hid ((encCL kb r).length≤10000000):=HLEN
    go_upto_region 9 with ((go_at_call 57;have hT:=Number_wk HWN.out 0 (by omega) (by have:=HLE.out;omega);rw[show (((0:Nat)):Int)=0 from rfl] at hT;(with_reducible refine hT.mono ?_);clear hT HWN;rintro e w5 ⟨rfl,hws5,_⟩;have HWN:=Hd hws5;clear hws5))
    go_wp2_with fail
    refine wp_loop_rounds 1 ?_
    rw[rounds_succ]
    go_wp2_with fail
    go_roundw
    case rel=>exact⟨1+1,by omega,rfl,HWN.out⟩
    case measure=>simp[intOf]
   | one i v ab =>
    obtain⟨cb,rfl,hcb⟩:=hB
    unfold CL.good at hgl
    have HGL:=Hd hgl
    have hcs3:=hcb.fr0 HF3.out
    have hcw:cb<w.heap.size:=hcb.1
    have hcb2:cb≠b:=by omega
    have HCS:=Hd hcs3
    have HLE:Hid ((encCL kb r).length≤10000000):=HLEN
    clear hcb hcs3 hgl
    obtain rfl:1=wn:=HWN0.out
    go_upto_region 9 with ((go_at_call 57;have hT:=Number_wk HWN.out 1 (by omega) (by have:=HLE.out;omega);rw[show (((1:Nat)):Int)=1 from rfl] at hT;(with_reducible refine hT.mono ?_);clear hT HWN;rintro e w5 ⟨rfl,hws5,_⟩;have HWN:=Hd hws5;clear hws5))
    go_wp2_with fail
    refine wp_loop_rounds 2 ?_
    rw[rounds_succ]
    have hc5:=HCS.out.fr HWN.out.fr (by simpa using hcb2)
    have y0:_=some (Value.int .i64 16):=hc5.2 0 _ rfl
    have y1:_=some (Value.string ⟨#[]⟩):=hc5.2 1 _ rfl
    have y2:_=some (Value.int .i64 i):=hc5.2 2 _ rfl
    have y3:_=some (Value.int .i64 0):=hc5.2 3 _ rfl
    have y4:_=some (Value.string ⟨#[]⟩):=hc5.2 4 _ rfl
    have y5:_=some (Value.string v):=hc5.2 5 _ rfl
    have y6:_=some (Value.bool ab):=hc5.2 6 _ rfl
    clear hc5
    go_upto_region 12 with fail
    obtain⟨w6,hw6,hz6,hf6⟩:=bxn w5 #[.int .i64 16,.string ⟨#[]⟩,.int .i64 i,.int .i64 0,.string ⟨#[]⟩,.string v,.bool ab] 95
    have hb5:=HWN.out.blt
    have HW6:=Hd (HWN.out.more hf6 hb5)
    have hzb:w5.heap.size≠b:=by omega
    rw[hw6]
    generalize w5.heap.size=Z at hz6 hzb ⊢
    obtain⟨x0,x1,x2,x3,x4⟩:=hz6.m5
    have hE:=EncodeO_any (portN i) w6 (HOK.out w6 ((HF3.out.trans HWN.out.fr (by intro x hx;rw[List.mem_singleton] at hx;subst hx;exact .inr (by omega))).then hf6)) (by simp[portN]) (by simp[portN])
    rw[HGL.out.ck,if_pos rfl,encO_port] at hE
    unfold portV EncPost at hE
    obtain⟨ns,hns,_,_⟩:=str_of (encOn (portN i))
    obtain⟨vs,hvs⟩:=nmd (v.data.toList)
    have hvl:vs.length≤65536:=by rw[←hvs,←len_data];exact HGL.out.le
    have hve:encN vs=.string v:=by rw[←hvs];rfl
    have hol:(encOn (portN i)).length≤20:=by
     rw[encOn_port,List.length_append]
     have:=HGL.out.ir
     have h1:=encU_len9 (u:=16) (by omega)
     have h2:=encU_len9 (u:=i.toNat) (by omega)
     omega
    have hut:=encT_len (s:=encOn (portN i)) (by omega)
    have hu1:=encU_len9 (u:=1) (by omega)
    rw[hns] at hE
    have HE:=Hd hE
    have HZ6:=Hd hz6
    have HVS:=Hd (And.intro hvs hve)
    have HNS:=Hd hns
    clear hE hz6 hw6 hvs hve hns y0 y1 y2 y3 y4 y5 y6 hf6 hb5 HWN
    go_upto_region 15 with ((go_at_call 55;(with_reducible refine HE.out.mono ?_);rintro e w7 ⟨rfl,hf7⟩))
    have HW7:=Hd (HW6.out.more hf7 HW6.out.blt)
    have HZ7:=Hd (HZ6.out.fr hf7 (by simp))
    clear hf7 x0 x1 x2 x3 x4 HE HZ6 HW6
    have hT:=Text_wk HW7.out (encOn (portN i)) (by omega) (by have:=HLE.out;rw[List.length_append];omega)
    rw[HNS.out] at hT
    have HT:=Hd hT
    clear hT
    go_upto_region 16 with ((go_at_call 56;(with_reducible refine HT.out.mono ?_);rintro e w8 ⟨rfl,hws8,hk8⟩))
    have hz8:=hk8 _ _ _ (by decide) hzb HZ7.out
    have z6:=hz8.k6
    have hT:=Flag_wk hws8 ab (by have:=HLE.out;simp only[List.length_append];omega)
    have HT2:=Hd hT
    have HZ8:=Hd hz8
    clear hT hz8 hws8 hk8 HT HZ7 HW7
    go_upto_region 17 with ((go_at_call 122;(with_reducible refine HT2.out.mono ?_);rintro e w9 ⟨rfl,hws9,hk9⟩))
    have hz9:=hk9 _ _ _ (by decide) hzb HZ8.out
    have z5:=hz9.k5
    have hT:=Text_wk hws9 vs (by omega) (by have:=HLE.out;simp only[List.length_append,List.length_cons,List.length_nil];omega)
    rw[HVS.out.2] at hT
    have HT3:=Hd hT
    clear hT hz9 hws9 hk9 HT2 HZ8 z6
    go_upto_region 18 with ((go_at_call 56;(with_reducible refine HT3.out.mono ?_);rintro e w10 ⟨rfl,hws10,hk10⟩))
    have HWN:=Hd hws10
    clear hws10 hk10 HT3 z5
    go_wp2_with fail
    rw[rounds_succ]
    go_wp2_with fail
    go_roundw
    case rel =>
     refine⟨1+1,by omega,rfl,?_⟩
     have h:=HWN.out
     rw[←HVS.out.1] at h
     exact h
    case measure=>simp[intOf]
  | 2,_ =>
   have hq2:encUp kb r l2 2=q:=HQ.out
   rw[hq2] at HWN
   have hlq:q.length≤10000000:=by rw[←HQ.out];exact HLS.out.2.2
   go_wp2_with ((go_at_call 123;(with_reducible refine (Written_any _ _ _ _ HWN.out (by omega)).mono ?_);rintro e w5 ⟨rfl,hf5⟩))
   go_ret2
   refine⟨rfl,(HF3.out.trans HWN.out.fr (by intro x hx;rw[List.mem_singleton] at hx;subst hx;exact .inr (by omega))).then hf5⟩
end Go.Proofs.YtlpmiimgacfmkaaGreatDoor
