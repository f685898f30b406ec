/- taint: Origin of any byte. -/
import Derived.Test.YtlpmiimgacfmkaaGreatDoorMRf2
set_option linter.all false
namespace Go.Proofs.YtlpmiimgacfmkaaGreatDoor
open Go.Proofs.Tryz
open Go.RowKit Go.Shelf
set_option maxRecDepth 100000
set_option maxHeartbeats 8000000
attribute [local go_sem] Oper.semAt_some
structure OS where
 og:Int
 fd:Bool
 vl:Int
def os0:OS:=⟨0,false,0⟩
def atV (P:Nat) (v:Nm):Int:=((v.getD P 0).toNat:Int)
def OS.stop (P:Nat) (s:OS) (z:VZ):Prop:=z.a=true \/ z.v.length<=P \/ (s.fd=true/\atV P z.v≠s.vl)
instance (P:Nat) (s:OS) (z:VZ):Decidable (OS.stop P s z):=by unfold OS.stop;infer_instance
def OS.next (P:Nat) (z:VZ):OS:=⟨z.i,true,atV P z.v⟩
def OS.walk (P:Nat):List VZ->OS->OS
 | [],s=>s
 | z::r,s=>if OS.stop P s z then s else OS.walk P r (OS.next P z)
theorem os_run (P:Nat):∀ (R:List VZ) (s:OS),(∃ z∈R,z.a=true)->∃ (K:Nat) (S:Nat->OS),1<=K/\K<=R.length/\S 0=s/\(∀ k,k+1<K->∃ z,R[k]?=some z/\¬ OS.stop P (S k) z/\S (k+1)=OS.next P z)/\(∀ k,k+1=K->∃ z,R[k]?=some z/\OS.stop P (S k) z/\S (k+1)=S k)/\S K=OS.walk P R s
 | [],s,h=>by simp at h
 | z::r,s,h=>by
  by_cases hs:OS.stop P s z
  ·refine⟨1,fun _=>s,by omega,by simp,rfl,fun k hk=>by omega,fun k hk=>⟨z,by rw[show k=0 by omega];rfl,hs,rfl⟩,?_⟩
   rw[OS.walk,if_pos hs]
  ·have hr:∃ y∈r,y.a=true:=by
    obtain⟨y,hy,hya⟩:=h
    rcases List.mem_cons.1 hy with rfl | hy
    ·exact absurd (.inl hya) hs
    ·exact⟨y,hy,hya⟩
   obtain⟨K,S,h1,h2,h3,h4,h5,h6⟩:=os_run P r (OS.next P z) hr;refine⟨K+1,fun k=>match k with | 0=>s | k+1=>S k,by omega,by simp;omega,rfl,fun k hk=>?_,fun k hk=>?_,?_⟩
   ·rcases k with _ | k
    ·exact⟨z,rfl,hs,h3⟩
    ·exact h4 k (by omega)
   ·rcases k with _ | k
    ·omega
    ·exact h5 k (by omega)
   ·rw[OS.walk,if_neg hs]
    exact h6
def oRes (l:List AG) (n:ON) (P:Nat):OS:=OS.walk P (ofL l n).reverse os0
theorem bwX_rev {L:List VZ} {k:Nat} {z:VZ} (h:L.reverse[k]?=some z) (hk:k<L.length):(bwX L k).2=z:=by
 rw[List.getElem?_reverse hk] at h;unfold bwX;rw[List.getD_eq_getElem?_getD,h];rfl
theorem verF_lt (n:ON):∀ (l:List AG) (i:Nat),∀ x∈verF i l n,x.i<i+l.length
 | [],i,x,h=>by simp[verF] at h
 | a::r,i,x,h=>by
  rw[verF] at h
  rcases List.mem_append.1 h with h | h
  ·unfold verOf at h
   obtain⟨c,_,rfl⟩:=List.mem_map.1 h;simp only[List.length_cons];omega
  ·have:=verF_lt n r (i+1) x h
   simp only[List.length_cons];omega
theorem ofL_lt (l:List AG) (n:ON):∀ z∈ofL l n,z.i<(l.length:Int):=fun z hz=>by
 rcases List.mem_cons.1 hz with rfl | hz
 ·unfold z0
  simp only;omega
 ·obtain⟨x,hx,rfl⟩:=List.mem_map.1 hz
  have:=verF_lt n l 0 x hx;unfold zOf;simp only;omega
theorem ofL_len (b:Nat) (ys:List AX) (M:List Nat) (n:ON) (w:World) (h:VG w b ys M) (hn:checkO n=0):(ofL (ys.map AX.a) n).length<=121:=by
 obtain⟨pb,pl,mw,mr,A,c,K,kk,kc,ks,ew,er,ns,h,rfl⟩:=h;have hwl:=h.wl n;have hl12:=h.run.len;rw[h.wr] at hwl;unfold ofL verL at *;simp only[List.length_cons,List.length_map] at *;omega
structure OG (w W:World) (B4 B8 B9 B10:Nat) (pc:Array Value) (s:OS):Prop where
 fr:Fr [] w W
 pl:BoxN W B4 33 pc
 or:BoxN W B8 3 #[.int .i64 s.og]
 fd:BoxN W B9 4 #[.bool s.fd]
 va:BoxN W B10 5 #[.int .u8 s.vl]
theorem OG.frS {w W W':World} {B4 B8 B9 B10:Nat} {pc:Array Value} {s:OS} {S:List Nat} (h:OG w W B4 B8 B9 B10 pc s) (hf:Fr S W W') (hS:∀ q∈S,w.heap.size<=q) (h4:B4 ∉ S) (h8:B8 ∉ S) (h9:B9 ∉ S) (h10:B10 ∉ S):OG w W' B4 B8 B9 B10 pc s :=
 ⟨h.fr.trans hf (fun q hq=>.inr (hS q hq)),h.pl.fr hf h4,h.or.fr hf h8,h.fd.fr hf h9,h.va.fr hf h10⟩
theorem Origin_g (b:Nat) (ys:List AX) (M:List Nat) (nm:ON) (P:Nat) (hP:P<=1000000) (w:World) (hv:VG w b ys M) (hn:checkO nm=0) (so st:ByteArray) (he:encO nm=.agg #[.int .i64 nm.kind,.string so,.int .i64 nm.number,.int .i64 nm.index,.string st]):Calls prog 44 #[.pointer (some ⟨b,0,none⟩),.agg #[.int .i64 nm.kind,.string so,.int .i64 nm.number,.int .i64 nm.index,.string st,.int .i64 (P:Int)],.int .i64 (ys.length:Int)] w fun e w'=>e=.returned (.tuple #[.int .i64 (if (oRes (ys.map AX.a) nm P).fd then (oRes (ys.map AX.a) nm P).og else 0),.int .i64 (if (oRes (ys.map AX.a) nm P).fd then 0 else 8)])/\Fr [] w w':=by
 obtain⟨L,hL⟩:=nmd (ofL (ys.map AX.a) nm);have hLm:=ofL_len b ys M nm w hv hn;have hLt:=ofL_lt (ys.map AX.a) nm;have hLa:∃ z∈L.reverse,z.a=true:=⟨z0,by rw[<-hL];simp[ofL],rfl⟩;unfold oRes;rw[hL] at hLm hLt ⊢;rw[List.length_map] at hLt;obtain⟨K,S,hK1,hK2,hS0,hSn,hSl,hSK⟩:=os_run P L.reverse os0 hLa;rw[List.length_reverse] at hK2
 have hxn:∀ k z,(bwZ L K)[k]?=some z->k+1<K->¬ OS.stop P (S k) z/\S (k+1)=OS.next P z:=fun k z hz hk=>by
  obtain⟨z2,h1,h2,h3⟩:=hSn k hk;rw[bwZ_get (by omega),bwX_rev h1 (by omega)] at hz;obtain rfl:z2=z:=by simpa using hz
  exact⟨h2,h3⟩
 have hxl:∀ k z,(bwZ L K)[k]?=some z->k+1=K->OS.stop P (S k) z/\S (k+1)=S k:=fun k z hz hk=>by
  obtain⟨z2,h1,h2,h3⟩:=hSl k hk;rw[bwZ_get (by omega),bwX_rev h1 (by omega)] at hz;obtain rfl:z2=z:=by simpa using hz
  exact⟨h2,h3⟩
 rw[<-hSK];obtain⟨ro,hro⟩:=nmd ((if (S K).fd=true then (S K).og else 0));obtain⟨re,hre⟩:∃ x:Int,(if (S K).fd=true then 0 else 8)=x:=⟨_,rfl⟩;rw[hro,hre];have HRO:=Hd (An hro hre);clear hro hre;have HXN:=Hd hxn;have HXL:=Hd hxl;have HS0:=Hd hS0;have HLL:=Hd (An hL (An (show L.length<=1000 by omega) (An hLt (An hK1 hK2))));have HEN:=Hd (An he hn);have HP:=Hd hP;obtain⟨m,hm⟩:=nmd (ys.length)
 have hm12:m<=12:=by
  obtain⟨pb,pl,mw,mr,A,c,K,kk,kc,ks,ew,er,ns,h,rfl⟩:=hv;have:=h.run.len
  first | omega | (simp at this;omega)
 have HM:=Hd hm;have HYL:=Hd (Len_v b ys M);have hm1:decide ((m:Int)<0)=false:=by simp
 have hp1:decide ((P:Int)<0)=false:=by simp
 clear hxn hxl hS0 hL hLm hLt hLa hSK hSn hSl hK1 hK2 he hn hP;rw[hm];obtain⟨w1,hw1,hb4,hf1⟩:=bxn w #[.int .i64 nm.kind,.string so,.int .i64 nm.number,.int .i64 nm.index,.string st,.int .i64 (P:Int)] 33;obtain⟨y0,y1,y2,y3,y4,y5⟩:=hb4.m6;have hln:=HYL.out w1 (hv.fr0 hf1);rw[hm] at hln;have HLN:=Hd hln;have HV:=Hd hv;have HB4:=Hd hb4;have HF1:=Hd hf1;have HW1:=Hd hw1;clear hw1 hb4 hf1 hv hln HYL hm;refine (callsIn_wide (n:=5)).1 ?_;refine callsIn_of_wp_marks func44 rfl trivial ?_ rfl;simp only[ntmps44,List.size_toArray,List.length_cons,List.length_nil,Nat.reduceAdd,Nat.reduceSub,Array.replicate_succ,Array.replicate_zero,List.push_toArray,List.append_toArray,List.nil_append,List.cons_append];refine wpIn_wide.2 ?_
 go_upto_region 1 with fail
 rw[HW1.out]
 go_upto_region 7 with ((go_at_call 99;(with_reducible refine HLN.out.mono ?_);rintro e w2 ⟨rfl,rfl⟩))
 obtain⟨w4,hw4⟩:=nmd (((w1.alloc (.cells #[.int .i64 0] 3)).alloc (.cells #[.bool false] 4)).alloc (.cells #[.int .u8 0] 5));have hb8:BoxN w4 w1.heap.size 3 #[.int .i64 0]:=by rw[<-hw4];exact ((BoxN.new w1 _ _).alloc _).alloc _
 have hb9:BoxN w4 (w1.heap.size+1) 4 #[.bool false]:=by
  rw[<-hw4];have h:=(BoxN.new (w1.alloc (.cells #[.int .i64 0] 3)) 4 #[.bool false]).alloc (.cells #[.int .u8 0] 5)
  rwa [wsA] at h
 have hb10:BoxN w4 (w1.heap.size+1+1) 5 #[.int .u8 0]:=by
  rw[<-hw4];have h:=BoxN.new ((w1.alloc (.cells #[.int .i64 0] 3)).alloc (.cells #[.bool false] 4)) 5 #[.int .u8 0]
  rwa [wsA,wsA] at h
 have hf4:Fr [] w1 w4:=by rw[<-hw4];exact (((Fq [] w1).alloc _).alloc _).alloc _
 have hz4:w4.heap.size=w1.heap.size+3:=by rw[<-hw4];simp
 rw[hw4];clear hw4 y0 y1 y2 y3 y4 y5;have hb4:=HB4.out.fr hf4 (by simp);obtain⟨y0,y1,y2,y3,y4⟩:=hb4.m5;have hzz:=HB4.out.lt;obtain⟨B8,hB8⟩:=nmd (w1.heap.size);rw[hB8] at hb8 hb9 hb10 hz4 hzz ⊢;have HBS:=Hd (An hb4 (An hb8 (An hb9 hb10)));have HZ4:=Hd (An hz4 hzz);have HF4:=Hd (HF1.out.then hf4);have hbk:=backwards_g b nm.kind nm.number nm.index so st (m:Int) w4;have HBK:=Hd hbk;clear hbk hb4 hb8 hb9 hb10 hz4 hzz hf4 hB8
 go_wp2_with ((go_at_call 100;(with_reducible refine HBK.out.mono ?_);rintro e w5 ⟨rfl,hk1,hk2,hk3,hf5,hz5⟩;have HKS:=Hd (An hk1 (An hk2 hk3));have HF5:=Hd hf5;have HZ5:=Hd hz5;clear hk1 hk2 hk3 hf5 hz5))
 clear y0 y1 y2 y3 y4 HBK HLN
 have hS0:OG w w5 w.heap.size B8 (B8+1) (B8+1+1) #[.int .i64 nm.kind,.string so,.int .i64 nm.number,.int .i64 nm.index,.string st,.int .i64 (P:Int)] (S 0):=by
  rw[HS0.out];exact⟨HF4.out.then HF5.out,HBS.out.1.fr HF5.out (by simp),HBS.out.2.1.fr HF5.out (by simp),HBS.out.2.2.1.fr HF5.out (by simp),HBS.out.2.2.2.fr HF5.out (by simp)⟩
 have hZ:w.heap.size<B8/\B8+2<w5.heap.size/\w4.heap.size+3=w5.heap.size/\B8+3=w4.heap.size:=by have h1:=HZ4.out;have h2:=HZ5.out;omega
 have HZ:=Hd hZ;clear hZ
 refine wp_rangeFunc_exit 0 (a:=?aa) 5 [B8,B8+1,B8+1+1] (by have:=HZ.out;simp;omega) (bwZ L K) (fun x:VZ=>#[.agg x.cs.toArray]) (lb:=#[.pointer (some ⟨w4.heap.size,0,none⟩),.pointer (some ⟨w4.heap.size+1,0,none⟩),.pointer (some ⟨w4.heap.size+2,0,none⟩)]) ?_ (enters_of func160 (by kernel_rfl) rfl) ?_
  (fun k W=>OG w W w.heap.size B8 (B8+1) (B8+1+1) #[.int .i64 nm.kind,.string so,.int .i64 nm.number,.int .i64 nm.index,.string st,.int .i64 (P:Int)] (S k))
  (fun k U U' S h hf hq=>h.frS hf (fun q hm=>by have:=hq q hm;have:=HZ.out;omega) (fun hm=>by have:=hq _ hm;have:=HZ.out;omega) (fun hm=>by have:=hq _ hm;have:=HZ.out;omega) (fun hm=>by have:=hq _ hm;have:=HZ.out;omega) (fun hm=>by have:=hq _ hm;have:=HZ.out;omega)) hS0
  (fun l J U hU hUs hJ hy hJ0=>bws_g 5 l w4.heap.size (w4.heap.size+1) (w4.heap.size+2) b ys M nm so st (m:Int) L K HLL.out.1 HLL.out.2.1 HLL.out.2.2.2.1 HLL.out.2.2.2.2 (fun z hz=>by rw[<-HM.out];exact HLL.out.2.2.1 z hz) U (w5.heap.size::(w5.heap.size+1)::[B8,B8+1,B8+1+1]) (by have:=HZ.out;simp;omega) (HKS.out.1.fr hU (by simp)) (HKS.out.2.1.fr hU (by simp)) HEN.out.1 HEN.out.2 (HKS.out.2.2.fr hU (by simp)) (by have:=HZ.out;simp;omega) (HV.out.fr0 ((HF4.out.then HF5.out).then hU)) J hJ hy hJ0)
  (fun k a' W'=>∃ B6,(∃ x:VZ,(bwZ L K)[k]?=some x/\a'={ tmps:=((Act.tmps ?aa).setIfInBounds 32 (.agg x.cs.toArray)).setIfInBounds 11 (.pointer (some ⟨B6,0,none⟩)),defers:=[] }/\BoxN W' B6 201 x.cs.toArray)/\w5.heap.size+2<=B6/\OG w W' w.heap.size B8 (B8+1) (B8+1+1) #[.int .i64 nm.kind,.string so,.int .i64 nm.number,.int .i64 nm.index,.string st,.int .i64 (P:Int)] (S k))
  ?_ ?_ ?_ ?_ ?_ ?_
 ·rfl
 ·intro x;rfl
 ·rintro k a' U U' ⟨B6,⟨x,hx,ha,hb⟩,hB6,hs⟩ hf
  have hz:=HZ.out;exact⟨B6,⟨x,hx,ha,hb.fr hf (by simp;omega)⟩,hB6,hs.frS hf (by simp;omega) (by simp;omega) (by simp;omega) (by simp;omega) (by simp;omega)⟩
 ·intro l k z U K2 hx hI hUs hK
  unfold VZ.cs;obtain⟨sv,hsv,_,_⟩:=str_of z.v;rw[hsv]
  gi_wp2_with fail
  exact hK _ _ ((Fq [] U).alloc _) ⟨U.heap.size,⟨_,hx,by simp only[VZ.cs,hsv];rfl,by simp only[VZ.cs,hsv];exact BoxN.new U _ _⟩,hUs,hI.frS ((Fq [] U).alloc _) (by simp) (by simp) (by simp) (by simp) (by simp)⟩
 ·intro l k z a' U hx hk hA hUs
  obtain⟨B6,⟨x',hx',rfl,hb6⟩,hB6,hs⟩:=hA;rw[hx] at hx';obtain rfl:z=x':=by simpa using hx'
  rw[bwZ_len] at hk;obtain⟨hst,hnx⟩:=HXN.out k z hx hk;rw[hnx];clear hx hx' hnx hk;generalize S k=s at hs hst;obtain⟨og,fd,vl⟩:=s;unfold OS.stop at hst;simp only[not_or,Bool.not_eq_true,Nat.not_le,not_and,ne_eq,Decidable.not_not] at hst;obtain⟨hza,hzl,hzf⟩:=hst;obtain⟨zi,zv,za⟩:=z;simp only at hza hzl hzf;subst hza;obtain⟨sv,hsv,hs1,hs2⟩:=str_of zv
  have hget:∀ h:P<sv.size,(((sv[P]'h).toNat:Nat):Int)=atV P zv:=fun h=>by
   unfold atV;rw[<-hs1,List.getD_eq_getElem?_getD,lge (by rw[Array.length_toList];exact h)];rfl
  simp only[VZ.cs,hsv,OS.next] at hb6 ⊢;have hge:decide (zv.length<=P)=false:=by simp;omega
  have hlt:(P:Int)<(zv.length:Int):=by omega
  have hp0:(0:Int)<=(P:Int):=by omega
  rcases fd with _ | _
  ·
   have HSS:=Hd (fun (X:World) (hX:Fr [] U X)=>(show X.cell? ⟨B6,0,none⟩=some (.int .i64 zi)/\X.cell? ⟨B6,1,none⟩=some (.string sv)/\X.cell? ⟨B6,2,none⟩=some (.bool false)/\X.cell? ⟨w.heap.size,5,none⟩=some (.int .i64 (P:Int))/\X.cell? ⟨B8,0,none⟩=some (.int .i64 og)/\X.cell? ⟨B8+1,0,none⟩=some (.bool false)/\X.cell? ⟨B8+1+1,0,none⟩=some (.int .u8 vl) from by
    have h6:=hb6.fr hX (by simp);exact⟨h6.c 0,h6.c 1,h6.c 2,(hs.pl.fr hX (by simp)).c 5,(hs.or.fr hX (by simp)).c 0,(hs.fd.fr hX (by simp)).c 0,(hs.va.fr hX (by simp)).c 0⟩))
   have HB6:=Hd hb6;have HS:=Hd hs;have HB6s:=Hd (An hB6 hUs);have HSV:=Hd hsv;clear hb6 hs hB6 hUs hsv;simp only[qA,qB,qC]
   gi_wp2_with fail
   have hC:Fr [] U U.drew:=(Fq [] U).drew;refine wpIn_region_head (fun X:World=>Fr [] U X) 21 (by kernel_rfl) (by kernel_rfl) (fun _ _ h=>by have h1:=And.left h;cases h1) ?_ (by decide)
   show headJ 0 _ _ _ _ _ _ _ _ _ _ _
   iterate 13
    refine hdJ (v:=?_) rfl (Or.inl ⟨by rfl,?_⟩) ?_
    rotate_left
    ·intro W hW;obtain⟨t0,t1,t2,p5,o8,f9,v10⟩:=HSS.out W hW;go_simp;try with_reducible rfl
    try simp only[Act.put,qA,qB,qC,qD,qE,qF]
   refine headI_take (i:=13) (v:=undef) (by kernel_rfl) head_done rfl (by decide) (by kernel_rfl) (fun _ _ _ h=>h) (Or.inr ⟨by rfl,rfl⟩) (by assumption) ?_
   try simp only[Act.put,qA,qB,qC,qD,qE,qF]
   refine headI_take (i:=14) (v:=undef) (by kernel_rfl) head_done rfl (by decide) (by kernel_rfl) (fun _ _ _ h=>h) (Or.inr ⟨by rfl,rfl⟩) (by assumption) ?_
   try simp only[Act.put,qA,qB,qC,qD,qE,qF]
   refine headI_take (i:=15) (v:=undef) (by kernel_rfl) head_done rfl (by decide) (by kernel_rfl) (fun _ _ _ h=>h) (Or.inr ⟨by rfl,rfl⟩) (by assumption) ?_
   try simp only[Act.put,qA,qB,qC,qD,qE,qF]
   refine headI_take (i:=16) (v:=undef) (by kernel_rfl) head_done rfl (by decide) (by kernel_rfl) (fun _ _ _ h=>h) (Or.inr ⟨by rfl,rfl⟩) (by assumption) ?_
   try simp only[Act.put,qA,qB,qC,qD,qE,qF]
   refine headI_take (i:=17) (v:=undef) (by kernel_rfl) head_done rfl (by decide) (by kernel_rfl) (fun _ _ _ h=>h) (Or.inr ⟨by rfl,rfl⟩) (by assumption) ?_
   try simp only[Act.put,qA,qB,qC,qD,qE,qF]
   refine headI_take (i:=18) (v:=undef) (by kernel_rfl) head_done rfl (by decide) (by kernel_rfl) (fun _ _ _ h=>h) (Or.inr ⟨by rfl,rfl⟩) (by assumption) ?_
   try simp only[Act.put,qA,qB,qC,qD,qE,qF]
   refine headI_take (i:=19) (v:=undef) (by kernel_rfl) head_done rfl (by decide) (by kernel_rfl) (fun _ _ _ h=>h) (Or.inr ⟨by rfl,rfl⟩) (by assumption) ?_
   try simp only[Act.put,qA,qB,qC,qD,qE,qF]
   show headJ 20 _ _ _ _ _ _ _ _ _ _ _
   refine hdJ (v:=?_) rfl (Or.inl ⟨by rfl,?_⟩) ?_
   rotate_left
   ·intro W hW;obtain⟨t0,t1,t2,p5,o8,f9,v10⟩:=HSS.out W hW;go_simp;try with_reducible rfl
   try simp only[Act.put,qA,qB,qC,qD,qE,qF]
   refine headI_done ⟨by kernel_rfl,?_⟩;simp only[qG,qH]
   go_wp2_with fail
   gi_wp2_with fail
   clear hC HSS
   have HSS:=Hd (fun (X:World) (hX:Fr [B8,B8+1,B8+1+1] U X)=>(show X.cell? ⟨B6,0,none⟩=some (.int .i64 zi)/\X.cell? ⟨B6,1,none⟩=some (.string sv)/\X.cell? ⟨B6,2,none⟩=some (.bool false)/\X.cell? ⟨w.heap.size,5,none⟩=some (.int .i64 (P:Int)) from by
    have hz:=HZ.out;have h6:=HB6.out.fr hX (by have:=HB6s.out;simp;omega);exact⟨h6.c 0,h6.c 1,h6.c 2,(HS.out.pl.fr hX (by simp;omega)).c 5⟩))
   refine wpIn_region_head (fun X:World=>Fr [B8,B8+1,B8+1+1] U X) 9 (by kernel_rfl) (by kernel_rfl) (fun _ _ h=>by have h1:=And.left h;cases h1) ?_ (by decide);obtain⟨U2,hU2⟩:=nmd (U.drew.drew);have f2:Fr [] U U2:=by rw[<-hU2];exact (Fq [] U).drew.drew
   rw[hU2];have hC:Fr [B8,B8+1,B8+1+1] U U2:=f2.mono (by simp);clear hU2
   show headJ 0 _ _ _ _ _ _ _ _ _ _ _
   iterate 7
    refine hdJ (v:=?_) rfl (Or.inl ⟨by rfl,?_⟩) ?_
    rotate_left
    ·intro W hW;obtain⟨t0,t1,t2,p5⟩:=HSS.out W hW;go_simp;try with_reducible rfl
    try simp only[Act.put,qA,qB,qC,qD,qE,qF]
   try simp only[hget]
   refine hO (i:=7) rfl fun K hK=>?_;have h8:=HS.out.or.fr f2 (by simp);have e0:=h8.k0;have e1:=h8.f 0;go_simp
   obtain⟨U3,hU3⟩:=nmd (U2.setCell ⟨B8,0,none⟩ (.int .i64 zi));have h8b:BoxN U3 B8 3 #[.int .i64 zi]:=by rw[<-hU3];exact h8.setAt 0 _
   have f3:Fr [B8] U2 U3:=by rw[<-hU3];exact (Fq [B8] U2).set (.inl (by simp)) _
   rw[hU3];have hC3:Fr [B8,B8+1,B8+1+1] U U3:=hC.trans f3 (by simp);refine hK _ _ hC3 ?_;clear hK K e0 e1 hU3
   try simp only[Act.put,qA,qB,qC,qD,qE,qF]
   refine hO (i:=8) rfl fun K hK=>?_;have h10:=(HS.out.va.fr f2 (by simp)).fr f3 (by simp;omega);have e0:=h10.k0;have e1:=h10.f 0;go_simp
   obtain⟨U4,hU4⟩:=nmd (U3.setCell ⟨B8+1+1,0,none⟩ (.int .u8 (atV P zv)));have h10b:BoxN U4 (B8+1+1) 5 #[.int .u8 (atV P zv)]:=by rw[<-hU4];exact h10.setAt 0 _
   have f4:Fr [B8+1+1] U3 U4:=by rw[<-hU4];exact (Fq [B8+1+1] U3).set (.inl (by simp)) _
   rw[hU4];have hC4:Fr [B8,B8+1,B8+1+1] U U4:=hC3.trans f4 (by simp);refine hK _ _ hC4 ?_;clear hK K e0 e1 hU4
   try simp only[Act.put,qA,qB,qC,qD,qE,qF]
   refine headI_done ⟨by kernel_rfl,?_⟩;simp only[qG,qH];have h9:=((HS.out.fd.fr f2 (by simp)).fr f3 (by simp)).fr f4 (by simp);have e0:=h9.k0;have e1:=h9.f 0;obtain⟨U5,hU5⟩:=nmd (U4.setCell ⟨B8+1,0,none⟩ (.bool true));have h9b:BoxN U5 (B8+1) 4 #[.bool true]:=by rw[<-hU5];exact h9.setAt 0 _
   have f5:Fr [B8+1] U4 U5:=by rw[<-hU5];exact (Fq [B8+1] U4).set (.inl (by simp)) _
   have hC5:Fr [B8,B8+1,B8+1+1] U U5:=hC4.trans f5 (by simp);have hz:=HZ.out;have hE:OG w U5 w.heap.size B8 (B8+1) (B8+1+1) #[.int .i64 nm.kind,.string so,.int .i64 nm.number,.int .i64 nm.index,.string st,.int .i64 (P:Int)] ⟨zi,true,atV P zv⟩:=⟨HS.out.fr.trans hC5 (by simp;omega),HS.out.pl.fr hC5 (by simp;omega),(h8b.fr f4 (by simp;omega)).fr f5 (by simp),h9b,h10b.fr f5 (by simp)⟩;have HE:=Hd (An hE hC5);clear h8 h8b h9 h9b h10 h10b f2 f3 f4 f5 hC hC3 hC4 hC5 hE hz HSS
   go_wp2_with fail
   gi_wp2_with fail
   exact⟨HE.out.1,HE.out.2⟩
  ·
   have hzf2:=hzf rfl;subst hzf2
   have HSS:=Hd (fun (X:World) (hX:Fr [] U X)=>(show X.cell? ⟨B6,0,none⟩=some (.int .i64 zi)/\X.cell? ⟨B6,1,none⟩=some (.string sv)/\X.cell? ⟨B6,2,none⟩=some (.bool false)/\X.cell? ⟨w.heap.size,5,none⟩=some (.int .i64 (P:Int))/\X.cell? ⟨B8,0,none⟩=some (.int .i64 og)/\X.cell? ⟨B8+1,0,none⟩=some (.bool true)/\X.cell? ⟨B8+1+1,0,none⟩=some (.int .u8 (atV P zv)) from by
    have h6:=hb6.fr hX (by simp);exact⟨h6.c 0,h6.c 1,h6.c 2,(hs.pl.fr hX (by simp)).c 5,(hs.or.fr hX (by simp)).c 0,(hs.fd.fr hX (by simp)).c 0,(hs.va.fr hX (by simp)).c 0⟩))
   have HB6:=Hd hb6;have HS:=Hd hs;have HB6s:=Hd (An hB6 hUs);have HSV:=Hd hsv;clear hb6 hs hB6 hUs hsv;simp only[qA,qB,qC]
   gi_wp2_with fail
   have hC:Fr [] U U.drew:=(Fq [] U).drew;refine wpIn_region_head (fun X:World=>Fr [] U X) 21 (by kernel_rfl) (by kernel_rfl) (fun _ _ h=>by have h1:=And.left h;cases h1) ?_ (by decide)
   show headJ 0 _ _ _ _ _ _ _ _ _ _ _
   iterate 18
    refine hdJ (v:=?_) rfl (Or.inl ⟨by rfl,?_⟩) ?_
    rotate_left
    ·intro W hW;obtain⟨t0,t1,t2,p5,o8,f9,v10⟩:=HSS.out W hW;go_simp;try with_reducible rfl
    try simp only[Act.put,qA,qB,qC,qD,qE,qF]
   try simp only[hget]
   show headJ 18 _ _ _ _ _ _ _ _ _ _ _
   iterate 3
    refine hdJ (v:=?_) rfl (Or.inl ⟨by rfl,?_⟩) ?_
    rotate_left
    ·intro W hW;obtain⟨t0,t1,t2,p5,o8,f9,v10⟩:=HSS.out W hW;go_simp;try with_reducible rfl
    try simp only[Act.put,qA,qB,qC,qD,qE,qF]
   refine headI_done ⟨by kernel_rfl,?_⟩;simp only[qG,qH]
   go_wp2_with fail
   gi_wp2_with fail
   clear hC HSS
   have HSS:=Hd (fun (X:World) (hX:Fr [B8,B8+1,B8+1+1] U X)=>(show X.cell? ⟨B6,0,none⟩=some (.int .i64 zi)/\X.cell? ⟨B6,1,none⟩=some (.string sv)/\X.cell? ⟨B6,2,none⟩=some (.bool false)/\X.cell? ⟨w.heap.size,5,none⟩=some (.int .i64 (P:Int)) from by
    have hz:=HZ.out;have h6:=HB6.out.fr hX (by have:=HB6s.out;simp;omega);exact⟨h6.c 0,h6.c 1,h6.c 2,(HS.out.pl.fr hX (by simp;omega)).c 5⟩))
   refine wpIn_region_head (fun X:World=>Fr [B8,B8+1,B8+1+1] U X) 9 (by kernel_rfl) (by kernel_rfl) (fun _ _ h=>by have h1:=And.left h;cases h1) ?_ (by decide);obtain⟨U2,hU2⟩:=nmd (U.drew.drew);have f2:Fr [] U U2:=by rw[<-hU2];exact (Fq [] U).drew.drew
   rw[hU2];have hC:Fr [B8,B8+1,B8+1+1] U U2:=f2.mono (by simp);clear hU2
   show headJ 0 _ _ _ _ _ _ _ _ _ _ _
   iterate 7
    refine hdJ (v:=?_) rfl (Or.inl ⟨by rfl,?_⟩) ?_
    rotate_left
    ·intro W hW;obtain⟨t0,t1,t2,p5⟩:=HSS.out W hW;go_simp;try with_reducible rfl
    try simp only[Act.put,qA,qB,qC,qD,qE,qF]
   try simp only[hget]
   refine hO (i:=7) rfl fun K hK=>?_;have h8:=HS.out.or.fr f2 (by simp);have e0:=h8.k0;have e1:=h8.f 0;go_simp
   obtain⟨U3,hU3⟩:=nmd (U2.setCell ⟨B8,0,none⟩ (.int .i64 zi));have h8b:BoxN U3 B8 3 #[.int .i64 zi]:=by rw[<-hU3];exact h8.setAt 0 _
   have f3:Fr [B8] U2 U3:=by rw[<-hU3];exact (Fq [B8] U2).set (.inl (by simp)) _
   rw[hU3];have hC3:Fr [B8,B8+1,B8+1+1] U U3:=hC.trans f3 (by simp);refine hK _ _ hC3 ?_;clear hK K e0 e1 hU3
   try simp only[Act.put,qA,qB,qC,qD,qE,qF]
   refine hO (i:=8) rfl fun K hK=>?_;have h10:=(HS.out.va.fr f2 (by simp)).fr f3 (by simp;omega);have e0:=h10.k0;have e1:=h10.f 0;go_simp
   obtain⟨U4,hU4⟩:=nmd (U3.setCell ⟨B8+1+1,0,none⟩ (.int .u8 (atV P zv)));have h10b:BoxN U4 (B8+1+1) 5 #[.int .u8 (atV P zv)]:=by rw[<-hU4];exact h10.setAt 0 _
   have f4:Fr [B8+1+1] U3 U4:=by rw[<-hU4];exact (Fq [B8+1+1] U3).set (.inl (by simp)) _
   rw[hU4];have hC4:Fr [B8,B8+1,B8+1+1] U U4:=hC3.trans f4 (by simp);refine hK _ _ hC4 ?_;clear hK K e0 e1 hU4
   try simp only[Act.put,qA,qB,qC,qD,qE,qF]
   refine headI_done ⟨by kernel_rfl,?_⟩;simp only[qG,qH];have h9:=((HS.out.fd.fr f2 (by simp)).fr f3 (by simp)).fr f4 (by simp);have e0:=h9.k0;have e1:=h9.f 0;obtain⟨U5,hU5⟩:=nmd (U4.setCell ⟨B8+1,0,none⟩ (.bool true));have h9b:BoxN U5 (B8+1) 4 #[.bool true]:=by rw[<-hU5];exact h9.setAt 0 _
   have f5:Fr [B8+1] U4 U5:=by rw[<-hU5];exact (Fq [B8+1] U4).set (.inl (by simp)) _
   have hC5:Fr [B8,B8+1,B8+1+1] U U5:=hC4.trans f5 (by simp);have hz:=HZ.out;have hE:OG w U5 w.heap.size B8 (B8+1) (B8+1+1) #[.int .i64 nm.kind,.string so,.int .i64 nm.number,.int .i64 nm.index,.string st,.int .i64 (P:Int)] ⟨zi,true,atV P zv⟩:=⟨HS.out.fr.trans hC5 (by simp;omega),HS.out.pl.fr hC5 (by simp;omega),(h8b.fr f4 (by simp;omega)).fr f5 (by simp),h9b,h10b.fr f5 (by simp)⟩;have HE:=Hd (An hE hC5);clear h8 h8b h9 h9b h10 h10b f2 f3 f4 f5 hC hC3 hC4 hC5 hE hz HSS
   go_wp2_with fail
   gi_wp2_with fail
   exact⟨HE.out.1,HE.out.2⟩
 ·intro l k z a' U hx hk hA hUs
  obtain⟨B6,⟨x',hx',rfl,hb6⟩,hB6,hs⟩:=hA;rw[hx] at hx';obtain rfl:z=x':=by simpa using hx'
  rw[bwZ_len] at hk;obtain⟨hst,hnx⟩:=HXL.out k z hx hk;rw[hnx];clear hx hx' hnx hk;generalize S k=s at hs hst ⊢;obtain⟨og,fd,vl⟩:=s;unfold OS.stop at hst;obtain⟨zi,zv,za⟩:=z;simp only at hst;obtain⟨sv,hsv,hs1,hs2⟩:=str_of zv
  have hget:∀ h:P<sv.size,(((sv[P]'h).toNat:Nat):Int)=atV P zv:=fun h=>by
   unfold atV;rw[<-hs1,List.getD_eq_getElem?_getD,lge (by rw[Array.length_toList];exact h)];rfl
  simp only[VZ.cs,hsv] at hb6 ⊢;have hp0:(0:Int)<=(P:Int):=by omega
  rcases za with _ | _
  ·rcases Nat.lt_or_ge P zv.length with hzl | hzl
   ·obtain⟨hf,hne⟩:fd=true/\atV P zv≠vl:=by
     rcases hst with h | h | h
     ·simp at h
     ·omega
     ·exact h
    subst hf;have hge:decide (zv.length<=P)=false:=by simp;omega
    have hlt:(P:Int)<(zv.length:Int):=by omega
    have hbe:(atV P zv == vl)=false:=by simpa using hne
    have hbn:(atV P zv != vl)=true:=by simpa using hne
    clear hst
    have HSS:=Hd (fun (X:World) (hX:Fr [] U X)=>(show X.cell? ⟨B6,0,none⟩=some (.int .i64 zi)/\X.cell? ⟨B6,1,none⟩=some (.string sv)/\X.cell? ⟨B6,2,none⟩=some (.bool false)/\X.cell? ⟨w.heap.size,5,none⟩=some (.int .i64 (P:Int))/\X.cell? ⟨B8,0,none⟩=some (.int .i64 og)/\X.cell? ⟨B8+1,0,none⟩=some (.bool true)/\X.cell? ⟨B8+1+1,0,none⟩=some (.int .u8 vl) from by
     have h6:=hb6.fr hX (by simp);exact⟨h6.c 0,h6.c 1,h6.c 2,(hs.pl.fr hX (by simp)).c 5,(hs.or.fr hX (by simp)).c 0,(hs.fd.fr hX (by simp)).c 0,(hs.va.fr hX (by simp)).c 0⟩))
    have HB6:=Hd hb6;have HS:=Hd hs;have HB6s:=Hd (An hB6 hUs);have HSV:=Hd hsv;clear hb6 hs hB6 hUs hsv;simp only[qA,qB,qC]
    gi_wp2_with fail
    have hC:Fr [] U U.drew:=(Fq [] U).drew;refine wpIn_region_head (fun X:World=>Fr [] U X) 21 (by kernel_rfl) (by kernel_rfl) (fun _ _ h=>by have h1:=And.left h;cases h1) ?_ (by decide)
    show headJ 0 _ _ _ _ _ _ _ _ _ _ _
    iterate 18
     refine hdJ (v:=?_) rfl (Or.inl ⟨by rfl,?_⟩) ?_
     rotate_left
     ·intro W hW;obtain⟨t0,t1,t2,p5,o8,f9,v10⟩:=HSS.out W hW;go_simp;try with_reducible rfl
     try simp only[Act.put,qA,qB,qC,qD,qE,qF]
    try simp only[hget]
    show headJ 18 _ _ _ _ _ _ _ _ _ _ _
    iterate 2
     refine hdJ (v:=?_) rfl (Or.inl ⟨by rfl,?_⟩) ?_
     rotate_left
     ·intro W hW;obtain⟨t0,t1,t2,p5,o8,f9,v10⟩:=HSS.out W hW;go_simp;try with_reducible rfl
     try simp only[Act.put,qA,qB,qC,qD,qE,qF]
    try simp only[hbe,hbn,Bool.not_false]
    show headJ 20 _ _ _ _ _ _ _ _ _ _ _
    refine hdJ (v:=?_) rfl (Or.inl ⟨by rfl,?_⟩) ?_
    rotate_left
    ·intro W hW;obtain⟨t0,t1,t2,p5,o8,f9,v10⟩:=HSS.out W hW;go_simp;try with_reducible rfl
    try simp only[Act.put,qA,qB,qC,qD,qE,qF]
    refine headI_done ⟨by kernel_rfl,?_⟩;simp only[qG,qH]
    go_wp2_with fail
    have hE:OG w U.drew w.heap.size B8 (B8+1) (B8+1+1) #[.int .i64 nm.kind,.string so,.int .i64 nm.number,.int .i64 nm.index,.string st,.int .i64 (P:Int)] ⟨og,true,vl⟩:=⟨HS.out.fr.drew,HS.out.pl.drew,HS.out.or.drew,HS.out.fd.drew,HS.out.va.drew⟩;have HE:=Hd hE;clear hE hC HSS
    gi_wp2_with fail
    exact⟨HE.out,(Fq _ U).drew⟩
   ·have hge:decide (zv.length<=P)=true:=by simp;omega
    clear hst
    have HSS:=Hd (fun (X:World) (hX:Fr [] U X)=>(show X.cell? ⟨B6,0,none⟩=some (.int .i64 zi)/\X.cell? ⟨B6,1,none⟩=some (.string sv)/\X.cell? ⟨B6,2,none⟩=some (.bool false)/\X.cell? ⟨w.heap.size,5,none⟩=some (.int .i64 (P:Int))/\X.cell? ⟨B8,0,none⟩=some (.int .i64 og)/\X.cell? ⟨B8+1,0,none⟩=some (.bool fd)/\X.cell? ⟨B8+1+1,0,none⟩=some (.int .u8 vl) from by
     have h6:=hb6.fr hX (by simp);exact⟨h6.c 0,h6.c 1,h6.c 2,(hs.pl.fr hX (by simp)).c 5,(hs.or.fr hX (by simp)).c 0,(hs.fd.fr hX (by simp)).c 0,(hs.va.fr hX (by simp)).c 0⟩))
    have HB6:=Hd hb6;have HS:=Hd hs;have HB6s:=Hd (An hB6 hUs);have HSV:=Hd hsv;clear hb6 hs hB6 hUs hsv;simp only[qA,qB,qC]
    gi_wp2_with fail
    have hC:Fr [] U U.drew:=(Fq [] U).drew;refine wpIn_region_head (fun X:World=>Fr [] U X) 21 (by kernel_rfl) (by kernel_rfl) (fun _ _ h=>by have h1:=And.left h;cases h1) ?_ (by decide)
    show headJ 0 _ _ _ _ _ _ _ _ _ _ _
    iterate 11
     refine hdJ (v:=?_) rfl (Or.inl ⟨by rfl,?_⟩) ?_
     rotate_left
     ·intro W hW;obtain⟨t0,t1,t2,p5,o8,f9,v10⟩:=HSS.out W hW;go_simp;try with_reducible rfl
     try simp only[Act.put,qA,qB,qC,qD,qE,qF]
    refine headI_take (i:=11) (v:=undef) (by kernel_rfl) head_done rfl (by decide) (by kernel_rfl) (fun _ _ _ h=>h) (Or.inr ⟨by rfl,rfl⟩) (by assumption) ?_
    try simp only[Act.put,qA,qB,qC,qD,qE,qF]
    refine headI_take (i:=12) (v:=undef) (by kernel_rfl) head_done rfl (by decide) (by kernel_rfl) (fun _ _ _ h=>h) (Or.inr ⟨by rfl,rfl⟩) (by assumption) ?_
    try simp only[Act.put,qA,qB,qC,qD,qE,qF]
    refine headI_take (i:=13) (v:=undef) (by kernel_rfl) head_done rfl (by decide) (by kernel_rfl) (fun _ _ _ h=>h) (Or.inr ⟨by rfl,rfl⟩) (by assumption) ?_
    try simp only[Act.put,qA,qB,qC,qD,qE,qF]
    refine headI_take (i:=14) (v:=undef) (by kernel_rfl) head_done rfl (by decide) (by kernel_rfl) (fun _ _ _ h=>h) (Or.inr ⟨by rfl,rfl⟩) (by assumption) ?_
    try simp only[Act.put,qA,qB,qC,qD,qE,qF]
    refine headI_take (i:=15) (v:=undef) (by kernel_rfl) head_done rfl (by decide) (by kernel_rfl) (fun _ _ _ h=>h) (Or.inr ⟨by rfl,rfl⟩) (by assumption) ?_
    try simp only[Act.put,qA,qB,qC,qD,qE,qF]
    refine headI_take (i:=16) (v:=undef) (by kernel_rfl) head_done rfl (by decide) (by kernel_rfl) (fun _ _ _ h=>h) (Or.inr ⟨by rfl,rfl⟩) (by assumption) ?_
    try simp only[Act.put,qA,qB,qC,qD,qE,qF]
    refine headI_take (i:=17) (v:=undef) (by kernel_rfl) head_done rfl (by decide) (by kernel_rfl) (fun _ _ _ h=>h) (Or.inr ⟨by rfl,rfl⟩) (by assumption) ?_
    try simp only[Act.put,qA,qB,qC,qD,qE,qF]
    refine headI_take (i:=18) (v:=undef) (by kernel_rfl) head_done rfl (by decide) (by kernel_rfl) (fun _ _ _ h=>h) (Or.inr ⟨by rfl,rfl⟩) (by assumption) ?_
    try simp only[Act.put,qA,qB,qC,qD,qE,qF]
    refine headI_take (i:=19) (v:=undef) (by kernel_rfl) head_done rfl (by decide) (by kernel_rfl) (fun _ _ _ h=>h) (Or.inr ⟨by rfl,rfl⟩) (by assumption) ?_
    try simp only[Act.put,qA,qB,qC,qD,qE,qF]
    refine headI_take (i:=20) (v:=undef) (by kernel_rfl) head_done rfl (by decide) (by kernel_rfl) (fun _ _ _ h=>h) (Or.inr ⟨by rfl,rfl⟩) (by assumption) ?_
    try simp only[Act.put,qA,qB,qC,qD,qE,qF]
    refine headI_done ⟨by kernel_rfl,?_⟩;simp only[qG,qH]
    go_wp2_with fail
    have hE:OG w U.drew w.heap.size B8 (B8+1) (B8+1+1) #[.int .i64 nm.kind,.string so,.int .i64 nm.number,.int .i64 nm.index,.string st,.int .i64 (P:Int)] ⟨og,fd,vl⟩:=⟨HS.out.fr.drew,HS.out.pl.drew,HS.out.or.drew,HS.out.fd.drew,HS.out.va.drew⟩;have HE:=Hd hE;clear hE hC HSS
    gi_wp2_with fail
    exact⟨HE.out,(Fq _ U).drew⟩
  ·clear hst
   have HSS:=Hd (fun (X:World) (hX:Fr [] U X)=>(show X.cell? ⟨B6,0,none⟩=some (.int .i64 zi)/\X.cell? ⟨B6,1,none⟩=some (.string sv)/\X.cell? ⟨B6,2,none⟩=some (.bool true)/\X.cell? ⟨w.heap.size,5,none⟩=some (.int .i64 (P:Int))/\X.cell? ⟨B8,0,none⟩=some (.int .i64 og)/\X.cell? ⟨B8+1,0,none⟩=some (.bool fd)/\X.cell? ⟨B8+1+1,0,none⟩=some (.int .u8 vl) from by
    have h6:=hb6.fr hX (by simp);exact⟨h6.c 0,h6.c 1,h6.c 2,(hs.pl.fr hX (by simp)).c 5,(hs.or.fr hX (by simp)).c 0,(hs.fd.fr hX (by simp)).c 0,(hs.va.fr hX (by simp)).c 0⟩))
   have HB6:=Hd hb6;have HS:=Hd hs;have HB6s:=Hd (An hB6 hUs);have HSV:=Hd hsv;clear hb6 hs hB6 hUs hsv;simp only[qA,qB,qC]
   gi_wp2_with fail
   have hC:Fr [] U U.drew:=(Fq [] U).drew;refine wpIn_region_head (fun X:World=>Fr [] U X) 21 (by kernel_rfl) (by kernel_rfl) (fun _ _ h=>by have h1:=And.left h;cases h1) ?_ (by decide)
   show headJ 0 _ _ _ _ _ _ _ _ _ _ _
   iterate 3
    refine hdJ (v:=?_) rfl (Or.inl ⟨by rfl,?_⟩) ?_
    rotate_left
    ·intro W hW;obtain⟨t0,t1,t2,p5,o8,f9,v10⟩:=HSS.out W hW;go_simp;try with_reducible rfl
    try simp only[Act.put,qA,qB,qC,qD,qE,qF]
   refine headI_take (i:=3) (v:=undef) (by kernel_rfl) head_done rfl (by decide) (by kernel_rfl) (fun _ _ _ h=>h) (Or.inr ⟨by rfl,rfl⟩) (by assumption) ?_
   try simp only[Act.put,qA,qB,qC,qD,qE,qF]
   refine headI_take (i:=4) (v:=undef) (by kernel_rfl) head_done rfl (by decide) (by kernel_rfl) (fun _ _ _ h=>h) (Or.inr ⟨by rfl,rfl⟩) (by assumption) ?_
   try simp only[Act.put,qA,qB,qC,qD,qE,qF]
   refine headI_take (i:=5) (v:=undef) (by kernel_rfl) head_done rfl (by decide) (by kernel_rfl) (fun _ _ _ h=>h) (Or.inr ⟨by rfl,rfl⟩) (by assumption) ?_
   try simp only[Act.put,qA,qB,qC,qD,qE,qF]
   refine headI_take (i:=6) (v:=undef) (by kernel_rfl) head_done rfl (by decide) (by kernel_rfl) (fun _ _ _ h=>h) (Or.inr ⟨by rfl,rfl⟩) (by assumption) ?_
   try simp only[Act.put,qA,qB,qC,qD,qE,qF]
   refine headI_take (i:=7) (v:=undef) (by kernel_rfl) head_done rfl (by decide) (by kernel_rfl) (fun _ _ _ h=>h) (Or.inr ⟨by rfl,rfl⟩) (by assumption) ?_
   try simp only[Act.put,qA,qB,qC,qD,qE,qF]
   refine headI_take (i:=8) (v:=undef) (by kernel_rfl) head_done rfl (by decide) (by kernel_rfl) (fun _ _ _ h=>h) (Or.inr ⟨by rfl,rfl⟩) (by assumption) ?_
   try simp only[Act.put,qA,qB,qC,qD,qE,qF]
   show headJ 9 _ _ _ _ _ _ _ _ _ _ _
   iterate 2
    refine hdJ (v:=?_) rfl (Or.inl ⟨by rfl,?_⟩) ?_
    rotate_left
    ·intro W hW;obtain⟨t0,t1,t2,p5,o8,f9,v10⟩:=HSS.out W hW;go_simp;try with_reducible rfl
    try simp only[Act.put,qA,qB,qC,qD,qE,qF]
   refine headI_take (i:=11) (v:=undef) (by kernel_rfl) head_done rfl (by decide) (by kernel_rfl) (fun _ _ _ h=>h) (Or.inr ⟨by rfl,rfl⟩) (by assumption) ?_
   try simp only[Act.put,qA,qB,qC,qD,qE,qF]
   refine headI_take (i:=12) (v:=undef) (by kernel_rfl) head_done rfl (by decide) (by kernel_rfl) (fun _ _ _ h=>h) (Or.inr ⟨by rfl,rfl⟩) (by assumption) ?_
   try simp only[Act.put,qA,qB,qC,qD,qE,qF]
   refine headI_take (i:=13) (v:=undef) (by kernel_rfl) head_done rfl (by decide) (by kernel_rfl) (fun _ _ _ h=>h) (Or.inr ⟨by rfl,rfl⟩) (by assumption) ?_
   try simp only[Act.put,qA,qB,qC,qD,qE,qF]
   refine headI_take (i:=14) (v:=undef) (by kernel_rfl) head_done rfl (by decide) (by kernel_rfl) (fun _ _ _ h=>h) (Or.inr ⟨by rfl,rfl⟩) (by assumption) ?_
   try simp only[Act.put,qA,qB,qC,qD,qE,qF]
   refine headI_take (i:=15) (v:=undef) (by kernel_rfl) head_done rfl (by decide) (by kernel_rfl) (fun _ _ _ h=>h) (Or.inr ⟨by rfl,rfl⟩) (by assumption) ?_
   try simp only[Act.put,qA,qB,qC,qD,qE,qF]
   refine headI_take (i:=16) (v:=undef) (by kernel_rfl) head_done rfl (by decide) (by kernel_rfl) (fun _ _ _ h=>h) (Or.inr ⟨by rfl,rfl⟩) (by assumption) ?_
   try simp only[Act.put,qA,qB,qC,qD,qE,qF]
   refine headI_take (i:=17) (v:=undef) (by kernel_rfl) head_done rfl (by decide) (by kernel_rfl) (fun _ _ _ h=>h) (Or.inr ⟨by rfl,rfl⟩) (by assumption) ?_
   try simp only[Act.put,qA,qB,qC,qD,qE,qF]
   refine headI_take (i:=18) (v:=undef) (by kernel_rfl) head_done rfl (by decide) (by kernel_rfl) (fun _ _ _ h=>h) (Or.inr ⟨by rfl,rfl⟩) (by assumption) ?_
   try simp only[Act.put,qA,qB,qC,qD,qE,qF]
   refine headI_take (i:=19) (v:=undef) (by kernel_rfl) head_done rfl (by decide) (by kernel_rfl) (fun _ _ _ h=>h) (Or.inr ⟨by rfl,rfl⟩) (by assumption) ?_
   try simp only[Act.put,qA,qB,qC,qD,qE,qF]
   refine headI_take (i:=20) (v:=undef) (by kernel_rfl) head_done rfl (by decide) (by kernel_rfl) (fun _ _ _ h=>h) (Or.inr ⟨by rfl,rfl⟩) (by assumption) ?_
   try simp only[Act.put,qA,qB,qC,qD,qE,qF]
   refine headI_done ⟨by kernel_rfl,?_⟩;simp only[qG,qH]
   go_wp2_with fail
   have hE:OG w U.drew w.heap.size B8 (B8+1) (B8+1+1) #[.int .i64 nm.kind,.string so,.int .i64 nm.number,.int .i64 nm.index,.string st,.int .i64 (P:Int)] ⟨og,fd,vl⟩:=⟨HS.out.fr.drew,HS.out.pl.drew,HS.out.or.drew,HS.out.fd.drew,HS.out.va.drew⟩;have HE:=Hd hE;clear hE hC HSS
   gi_wp2_with fail
   exact⟨HE.out,(Fq _ U).drew⟩
 ·intro h
  have h1:=bwZ_len L K;rw[h] at h1;have h2:=HLL.out.2.2.2.1;simp at h1;omega
 ·intro D U hD hI hK
  rw[bwZ_len] at hI;obtain⟨s,hs⟩:=nmd (S K);rw[hs] at hI;obtain⟨og,fd,vl⟩:=s;have HS:=Hd hs;clear hs;have e8:=hI.or.k0;have e9:=hI.fd.k0;have HI:=Hd hI.fr;have HK:=Hd hK;have HDD:=Hd hD;clear hI hK hD
  rcases fd with _ | _
  ·go_wp2_with fail
   refine⟨by simp,.inl ⟨_,_,rfl,run_takeDeferred HK.out,?_⟩⟩;refine⟨.tuple #[.int .i64 0,.int .i64 8],by simp[results,results44,go_sem],by rw[<-HRO.out.1,<-HRO.out.2,HS.out];rfl,?_⟩;exact HI.out.trans (fr_putObj (S:=[D]) _ (Fq _ U) (.inl (by simp))) (by simp;have:=HZ.out;have:=HDD.out;omega)
  ·go_wp2_with fail
   refine⟨by simp,.inl ⟨_,_,rfl,run_takeDeferred HK.out,?_⟩⟩;refine⟨.tuple #[.int .i64 og,.int .i64 0],by simp[results,results44,go_sem],by rw[<-HRO.out.1,<-HRO.out.2,HS.out];rfl,?_⟩;exact HI.out.trans (fr_putObj (S:=[D]) _ (Fq _ U) (.inl (by simp))) (by simp;have:=HZ.out;have:=HDD.out;omega)
end Go.Proofs.YtlpmiimgacfmkaaGreatDoor
