/- state: With, Without, Get, Len of any states. -/
import Derived.OrdersHeld
import Derived.Test.YtlpmiimgacfmkaaGreatDoorMGh
import Derived.Test.YtlpmiimgacfmkaaGreatDoorMQt
set_option linter.all false
namespace Go.Proofs.YtlpmiimgacfmkaaGreatDoor
open Go.Proofs.Tryz
open Go.RowKit
set_option maxRecDepth 100000
set_option maxHeartbeats 4000000
def SG (w:World) (b:Nat) (ns:List ON):Prop:=∃ rp h,BoxN w b 184 #[.pointer rp]/\TT w rp ns h/\SrtO ns
theorem SG.fr0 {w w':World} {b:Nat} {ns:List ON} (h:SG w b ns) (hf:Fr [] w w'):SG w' b ns:=by
 obtain⟨rp,k,h1,h2,h3⟩:=h;exact⟨rp,k,h1.fr hf (by simp),h2.fr0 hf,h3⟩
def SPost (w:World) (k:Nat) (e:Ending) (w':World):Prop:=∃ b ns,e=.returned (.tuple #[.pointer (some ⟨b,0,none⟩),.int .i64 0])/\SG w' b ns/\ns.length<=k/\Fr [] w w'
theorem TT.size {w:World} {p:Option Addr} {ns:List ON} {h:Int} (hT:TT w p ns h):Calls prog 95 #[.pointer p] w fun e w'=>e=.returned (.int .i64 (ns.length:Int))/\w=w':=by
 obtain⟨t,rfl,h2,h3,rfl,rfl⟩:=hT;refine (sizeOf_g t w h2).mono fun e w' h=>⟨?_,h.2.symm⟩;rw[h.1,h3.nums.2.2.1,TG.cnt_ns]
theorem Len_s (b:Nat) (ns:List ON) (w:World) (h:SG w b ns):Calls prog 38 #[.pointer (some ⟨b,0,none⟩)] w fun e w'=>e=.returned (.int .i64 (ns.length:Int))/\w=w':=by
 obtain⟨rp,k,hb,ht,_⟩:=h;have x0:=hb.k0;have HS:=Hd ht.size;clear hb ht
 go_enter func38,ntmps38
 go_wp2_with ((go_at_call 95;(with_reducible refine HS.out.mono ?_);rintro e w' ⟨rfl,rfl⟩))
 go_ret
 exact⟨rfl,rfl⟩
theorem Check_ok (n:ON) (w:World) (hok:Ok w) (hn:checkO n=0) (ht:n.text.length<=140737488355328):Calls prog 53 #[encO n] w (ChkPost w 0):=by
 have h:=Check_any n w hok (by have:=valid_len (valid_of_check hn);omega) ht;rw[hn] at h;exact h
theorem With_s (b:Nat) (ns:List ON) (n:ON) (v:Nm) (w:World) (hok:Ok w) (hS:SG w b ns) (hn:checkO n=0) (hnt:n.text.length<=140737488355328) (hv:v.length<=65536) (hl:ns.length<50000) :
 Calls prog 189 #[.pointer (some ⟨b,0,none⟩),encO n,encN v] w (SPost w (ns.length+1)):=by
 obtain⟨so,hso,_,_⟩:=str_of n.owner;obtain⟨st,hst,_,_⟩:=str_of n.text;obtain⟨sv,hsv,_,hsz⟩:=str_of v;have he:=encO_str hso hst;have hle2:¬ 65536<(sv.size:Int):=by omega
 have hle3:decide ((65536:Int)<(sv.size:Int))=false:=decide_eq_false hle2;obtain⟨w1,hw1,hz1,n1,fw1⟩:=bxz w #[.int .i64 n.kind,.string so,.int .i64 n.number,.int .i64 n.index,.string st] 31 w.heap.size;have hC:=Check_ok n w1 (hok.fr0 fw1) hn hnt;have hL:=fun (W:World) (hW:Fr [] w1 W)=>Len_s b ns W (hS.fr0 (fw1.then hW));have hsd:decide (65536<=(ns.length:Int))=false:=by simp;omega
 obtain⟨rp,k,hb,ht,hs⟩:=hS;have hw:∀ W m,Fr [] w1 W->BoxN W m 191 (nodeG (.pointer none) (.pointer none) n v 0 0 0)->Calls prog 236 #[.pointer rp,.pointer (some ⟨m,0,none⟩)] W (WTPost W ns n):=fun W m hW hm=>with_t (ns.length+1) rp ns k m n v W (by omega) (ht.fr0 (fw1.then hW)) hs ⟨⟨_,_,_,_,_,hm⟩,hn,hv⟩ hl;unfold nodeG at hw;rw[hso,hst,hsv] at hw
 have HSS:=Hd (fun (W:World) (hW:Fr [] w1 W)=>An (show ((W.cell? ⟨w.heap.size,0,none⟩=some (.int .i64 n.kind)/\W.cell? ⟨w.heap.size,1,none⟩=some (.string so)/\W.cell? ⟨w.heap.size,2,none⟩=some (.int .i64 n.number)/\W.cell? ⟨w.heap.size,3,none⟩=some (.int .i64 n.index)/\W.cell? ⟨w.heap.size,4,none⟩=some (.string st))) from by
  have h1:=n1.fr hW (by simp);exact⟨h1.c 0,h1.c 1,h1.c 2,h1.c 3,h1.c 4⟩) (show W.cell? ⟨b,0,none⟩=some (.pointer rp) from (hb.fr (fw1.then hW) (by simp)).c 0))
 obtain⟨⟨x0,x1,x2,x3,x4⟩,_⟩:=HSS.out w1 (Fq [] w1);rw[he] at hC ⊢;rw[hsv];have HC:=Hd hC;have HF1:=Hd fw1;have HW1:=Hd hw1;have HL:=Hd hL;have HWI:=Hd hw;clear hC fw1 hw1 hL hw n1 hz1 ht hs hb hok hn hv hl hso hst hsv he hle3
 go_enter func189,ntmps189
 go_upto_region 3 with fail
 rw[HW1.out]
 go_upto_region 7 with ((go_at_call 53;(with_reducible refine HC.out.mono ?_);rintro e w2 ⟨rfl,hf2⟩))
 clear x0 x1 x2 x3 x4;refine wp_region_qall (fun W=>Fr [] w1 W) (by kernel_rfl) (by kernel_rfl) (hf2.drew) ?_
 repeat (
  first
  | go_big_quiet_skip
  | (go_big_quiet_want
     first
     | (go_big_quiet_op
        go_big_quiet_on)
     | (apply Exists.intro
        refine⟨fun W hW=>?_,?_⟩
        ·(obtain⟨⟨z0,z1,z2,z3,z4⟩,z5⟩:=HSS.out W hW
          go_simp
          first
          | done
          | (with_reducible exact rfl)
          | (with_reducible exact⟨rfl,rfl⟩)
          | ((go_at_call 38;(with_reducible refine (HL.out W hW).mono ?_);rintro e w' ⟨rfl,rfl⟩;exact⟨rfl,hW⟩)))
        simp only[Act.put,qA,qB,qC]
        go_big_quiet_on))
  )
 refine wpQuiet_nil ?_;intro W3 hW3
 go_upto_region 9 with fail
 have HS3:=Hd (fun (W:World) (hW:Fr [] W3 W)=>HSS.out W (hW3.then hW));obtain⟨N0,hN0⟩:=nmd (w.heap.size);rw[hN0] at HS3 ⊢;clear HSS HL HC HW1
 go_region_held3 (fun W=>((W.cell? ⟨N0,0,none⟩=some (.int .i64 n.kind)/\W.cell? ⟨N0,1,none⟩=some (.string so)/\W.cell? ⟨N0,2,none⟩=some (.int .i64 n.number)/\W.cell? ⟨N0,3,none⟩=some (.int .i64 n.index)/\W.cell? ⟨N0,4,none⟩=some (.string st)))/\W.cell? ⟨b,0,none⟩=some (.pointer rp)) (with_reducible refine HS3.out _ ?_;(repeat (first | exact Fq _ _ | with_reducible assumption | refine Fr.drew ?_ | refine Fr.alloc ?_ _));done) (first
  | (go_at_call 236;(with_reducible refine (HWI.out _ _ ((hW3.alloc _).drew) (BoxN.new W3 _ _).drew).mono ?_);rintro e w5 ⟨ns5,⟨q5,h5,rfl,ht5,hf5⟩,hs5⟩;have hk5:=(Fr.alloc (Fq [] W3) _).then hf5.undrew;have H5:=Hd (An ht5 hs5);clear ht5 hf5 hs5))
 have hfx:=hk5.alloc (.cells #[.pointer q5] 184);have hbx:=BoxN.new w5 184 #[.pointer q5];have hfa:Fr [] w (w5.alloc (.cells #[.pointer q5] 184)):=(HF1.out.then hW3).then hfx;have HX:=Hd (An hfa (An hbx (H5.out.1.fr0 ((Fq [] w5).alloc (.cells #[.pointer q5] 184)))));clear hfx hbx hfa
 go_wp2_with fail
 go_ret2
 exact⟨_,ns5,rfl,⟨q5,h5,HX.out.2.1,HX.out.2.2,H5.out.2.1⟩,H5.out.2.2.2,HX.out.1⟩
theorem Without_s (b:Nat) (ns:List ON) (n:ON) (w:World) (hok:Ok w) (hS:SG w b ns) (hn:checkO n=0) (hnt:n.text.length<=140737488355328) (hl:ns.length<50000) :
 Calls prog 188 #[.pointer (some ⟨b,0,none⟩),encO n] w (SPost w ns.length):=by
 obtain⟨so,hso,_,_⟩:=str_of n.owner;obtain⟨st,hst,_,_⟩:=str_of n.text;have he:=encO_str hso hst;obtain⟨w1,hw1,hz1,n1,fw1⟩:=bxz w #[.int .i64 n.kind,.string so,.int .i64 n.number,.int .i64 n.index,.string st] 31 w.heap.size;have hC:=Check_ok n w1 (hok.fr0 fw1) hn hnt;have HSG:=Hd hS;obtain⟨rp,k,hb,ht,hs⟩:=hS;have hF:=fun (W:World) (hW:Fr [] w1 W)=>find_t rp ns k n W (ht.fr0 (fw1.then hW)) hn;have hw:(∃ x∈ns,cmpO n x=0)->∀ W,Fr [] w1 W->Calls prog 235 #[.pointer rp,encO n] W (WOPost W ns n):=fun hx W hW=>without_t (ns.length+1) rp ns k n W (by omega) (ht.fr0 (fw1.then hW)) hs hn hl hx
 have HSS:=Hd (fun (W:World) (hW:Fr [] w1 W)=>An (show ((W.cell? ⟨w.heap.size,0,none⟩=some (.int .i64 n.kind)/\W.cell? ⟨w.heap.size,1,none⟩=some (.string so)/\W.cell? ⟨w.heap.size,2,none⟩=some (.int .i64 n.number)/\W.cell? ⟨w.heap.size,3,none⟩=some (.int .i64 n.index)/\W.cell? ⟨w.heap.size,4,none⟩=some (.string st))) from by
  have h1:=n1.fr hW (by simp);exact⟨h1.c 0,h1.c 1,h1.c 2,h1.c 3,h1.c 4⟩) (show W.cell? ⟨b,0,none⟩=some (.pointer rp) from (hb.fr (fw1.then hW) (by simp)).c 0))
 obtain⟨⟨x0,x1,x2,x3,x4⟩,_⟩:=HSS.out w1 (Fq [] w1);rw[he] at hC hF hw ⊢;have HC:=Hd hC;have HF1:=Hd fw1;have HW1:=Hd hw1;have HF:=Hd hF;have HWI:=Hd hw;clear hC fw1 hw1 hF hw n1 hz1 ht hs hb hok hn hl hso hst he
 go_enter func188,ntmps188
 go_upto_region 3 with fail
 rw[HW1.out]
 go_upto_region 5 with ((go_at_call 53;(with_reducible refine HC.out.mono ?_);rintro e w2 ⟨rfl,hf2⟩))
 clear x0 x1 x2 x3 x4;obtain⟨N0,hN0⟩:=nmd (w.heap.size);rw[hN0] at HSS ⊢
 go_region_held3 (fun W=>((W.cell? ⟨N0,0,none⟩=some (.int .i64 n.kind)/\W.cell? ⟨N0,1,none⟩=some (.string so)/\W.cell? ⟨N0,2,none⟩=some (.int .i64 n.number)/\W.cell? ⟨N0,3,none⟩=some (.int .i64 n.index)/\W.cell? ⟨N0,4,none⟩=some (.string st)))/\W.cell? ⟨b,0,none⟩=some (.pointer rp)) (((with_reducible refine HSS.out _ ?_;(repeat (first | exact Fq _ _ | with_reducible assumption | refine Fr.drew ?_ | refine Fr.alloc ?_ _ | refine Fr.then ?_ (Fr.undrew (by with_reducible assumption))));done))) (first
  | (go_at_call 97;(with_reducible refine (HF.out _ hf2.drew).mono ?_);rintro e w5 ⟨q5,rfl,hq5,hf5⟩;have hk5:=hf2.then hf5.undrew;have H5:=Hd hq5;clear hq5 hf5))
 cases q5 with
 | none =>
  go_wp2_with fail
  go_ret2
  exact⟨b,ns,rfl,HSG.out.fr0 (HF1.out.then hk5),nlr _,HF1.out.then hk5⟩
 | some qb =>
  have hx:∃ x∈ns,cmpO n x=0:=by
   rcases H5.out with h | ⟨b,x,v,_,h1,h2,_⟩
   ·cases h
   ·exact⟨x,h1,h2⟩
  have HW2:=Hd (HWI.out hx);clear hx HWI H5
  go_upto_region 7 with fail
  go_region_held3 (fun W=>((W.cell? ⟨N0,0,none⟩=some (.int .i64 n.kind)/\W.cell? ⟨N0,1,none⟩=some (.string so)/\W.cell? ⟨N0,2,none⟩=some (.int .i64 n.number)/\W.cell? ⟨N0,3,none⟩=some (.int .i64 n.index)/\W.cell? ⟨N0,4,none⟩=some (.string st)))/\W.cell? ⟨b,0,none⟩=some (.pointer rp)) (((with_reducible refine HSS.out _ ?_;(repeat (first | exact Fq _ _ | with_reducible assumption | refine Fr.drew ?_ | refine Fr.alloc ?_ _ | refine Fr.then ?_ (Fr.undrew (by with_reducible assumption))));done))) (first
   | (go_at_call 235;(with_reducible refine (HW2.out _ hk5.drew).mono ?_);rintro e w6 ⟨ns6,⟨q6,h6,rfl,ht6,hf6⟩,hs6⟩;have hk6:=hk5.then hf6.undrew;have H6:=Hd (An ht6 hs6);clear ht6 hf6 hs6))
  have hfa:Fr [] w (w6.alloc (.cells #[.pointer q6] 184)):=(HF1.out.then hk6).alloc _;have hbx:=BoxN.new w6 184 #[.pointer q6];have HX:=Hd (An hfa (An hbx (H6.out.1.fr0 ((Fq [] w6).alloc (.cells #[.pointer q6] 184)))));clear hbx hfa
  go_wp2_with fail
  go_ret2
  exact⟨_,ns6,rfl,⟨q6,h6,HX.out.2.1,HX.out.2.2,H6.out.2.1⟩,H6.out.2.2.2,HX.out.1⟩
def GPost (w:World) (ns:List ON) (e:Ending) (w':World):Prop:=∃ (s:ByteArray) (f:Bool),e=.returned (.tuple #[.string s,.bool f])/\s.size<=65536/\(ns=[]->s=⟨#[]⟩/\f=false)/\Fr [] w w'
theorem Get_s (b:Nat) (ns:List ON) (n:ON) (w:World) (hS:SG w b ns) (hn:checkO n=0) :
 Calls prog 40 #[.pointer (some ⟨b,0,none⟩),encO n] w (GPost w ns):=by
 obtain⟨so,hso,_,_⟩:=str_of n.owner;obtain⟨st,hst,_,_⟩:=str_of n.text;have he:=encO_str hso hst;obtain⟨w1,hw1,hz1,n1,fw1⟩:=bxz w #[.int .i64 n.kind,.string so,.int .i64 n.number,.int .i64 n.index,.string st] 31 w.heap.size;obtain⟨rp,k,hb,ht,hs⟩:=hS;have hF:=fun (W:World) (hW:Fr [] w1 W)=>find_t rp ns k n W (ht.fr0 (fw1.then hW)) hn
 have HSS:=Hd (fun (W:World) (hW:Fr [] w1 W)=>An (show ((W.cell? ⟨w.heap.size,0,none⟩=some (.int .i64 n.kind)/\W.cell? ⟨w.heap.size,1,none⟩=some (.string so)/\W.cell? ⟨w.heap.size,2,none⟩=some (.int .i64 n.number)/\W.cell? ⟨w.heap.size,3,none⟩=some (.int .i64 n.index)/\W.cell? ⟨w.heap.size,4,none⟩=some (.string st))) from by
  have h1:=n1.fr hW (by simp);exact⟨h1.c 0,h1.c 1,h1.c 2,h1.c 3,h1.c 4⟩) (show W.cell? ⟨b,0,none⟩=some (.pointer rp) from (hb.fr (fw1.then hW) (by simp)).c 0))
 rw[he] at hF ⊢;have HF1:=Hd fw1;have HW1:=Hd hw1;have HF:=Hd hF;clear fw1 hw1 hF n1 hz1 ht hs hb hn hso hst he
 go_enter func40,ntmps40
 go_upto_region 3 with fail
 try rw[HW1.out]
 have hk1:=Fq [] w1;obtain⟨N0,hN0⟩:=nmd (w.heap.size);rw[hN0] at HSS ⊢
 go_region_held3 (fun W=>((W.cell? ⟨N0,0,none⟩=some (.int .i64 n.kind)/\W.cell? ⟨N0,1,none⟩=some (.string so)/\W.cell? ⟨N0,2,none⟩=some (.int .i64 n.number)/\W.cell? ⟨N0,3,none⟩=some (.int .i64 n.index)/\W.cell? ⟨N0,4,none⟩=some (.string st)))/\W.cell? ⟨b,0,none⟩=some (.pointer rp)) (((with_reducible refine HSS.out _ ?_;(repeat (first | exact Fq _ _ | with_reducible assumption | refine Fr.drew ?_ | refine Fr.alloc ?_ _ | refine Fr.then ?_ (Fr.undrew (by with_reducible assumption))));done))) (first
  | (go_at_call 97;(with_reducible refine (HF.out _ hk1.drew).mono ?_);rintro e w5 ⟨q5,rfl,hq5,hf5⟩;have hk5:=hk1.then hf5.undrew;have H5:=Hd hq5;clear hq5 hf5))
 cases q5 with
 | none =>
  go_wp2_with fail
  go_ret2
  exact⟨⟨#[]⟩,false,rfl,by decide,fun _=>⟨rfl,rfl⟩,HF1.out.then hk5⟩
 | some qb =>
  have hx:∃ b x v,qb=⟨b,0,none⟩/\x∈ns/\Mid w5 b x v:=by
   rcases H5.out with h | ⟨b,x,v,h,h1,h2,h3⟩
   ·cases h
   ·cases h;exact⟨b,x,v,rfl,h1,h3⟩
  obtain⟨c,x,v,rfl,hxn,⟨_,_,_,_,_,hm⟩,_,hv⟩:=hx;obtain⟨sv,hsv,_,hsz⟩:=str_of v;unfold nodeG at hm;rw[hsv] at hm;have x7:=hm.k7;have HX:=Hd (An hxn (show sv.size<=65536 by omega));clear hm hxn hv hsz hsv H5
  go_wp2_with fail
  go_ret2
  exact⟨sv,true,rfl,HX.out.2,fun h=>absurd HX.out.1 (by rw[h];simp),HF1.out.then hk5⟩
theorem oneB_of {c:CH} (h:oneB c=true):checkO c.n=0/\c.v.length<=65536:=by
 unfold oneB at h;simp only[Bool.and_eq_true,decide_eq_true_eq] at h;exact⟨h.1,h.2.1⟩
theorem Apply_s (b0:Nat) (ns:List ON) (l:List CH) (A:Option Addr) (c:Nat) (w:World) (hok:Ok w) (hS:SG w b0 ns) (h:Chs w A l) (hg:∀ x∈l,x.fit/\oneB x=true) (hl:ns.length+l.length<40000) :
 Calls prog 153 #[.pointer (some ⟨b0,0,none⟩),.slice A l.length c] w (SPost w (ns.length+l.length)):=by
 obtain⟨n,hn⟩:=nmd (l.length);have HL:=Hd (An hn h);have HOK:=Hd hok;have HG:=Hd hg;have HS0:=Hd hS;obtain⟨m,hm⟩:=nmd (ns.length);have HM:=Hd hm;rw[hn,hm] at hl ⊢;clear hn h hok hg hS hm
 go_enter func153,ntmps153
 go_wp2_with fail
 go_loopw [0,13] (fun s i W=>∃ (j b:Nat) (ns':List ON),j<=n/\i=.int .i64 (j:Int)/\s=.pointer (some ⟨b,0,none⟩)/\SG W b ns'/\ns'.length<=m+j/\Fr [] w W) (fun _ i _=>n - (intOf i).toNat)
 case atStart=>exact⟨0,b0,ns,Nat.zero_le _,rfl,rfl,HS0.out,by rw[HM.out];omega,Fq _ _⟩
 case round =>
  obtain⟨j,b,ns',hj,rfl,rfl,hS,hle,hfr⟩:=hrel;have HF:=Hd (An hS (An hle hfr));clear hS hle hfr
  by_cases hlt:j<n
  ·have hlt3:(j:Int)<(n:Int):=by omega
   have hrow:Row wr wr.heap.size 7 A n (l.flatMap CH.cs):=by have h:=HL.out.2.fr0 HF.out.2.2;unfold Chs Rd at h;rw[HL.out.1] at h;exact h
   obtain⟨bb,off,rfl,hbl,hcl⟩:=row_get ch_len hrow (by omega);obtain⟨x,hx⟩:∃ x,l[j]?=some x:=⟨_,lge (by rw[HL.out.1];exact hlt)⟩;obtain⟨⟨f1,f2,f3⟩,hone⟩:=HG.out x (lmg hx);obtain⟨hck,hvl⟩:=oneB_of hone;have hcx:=hcl j x hx;have hCW:x.a=false->∀ W,Fr [] wr W->Calls prog 189 #[.pointer (some ⟨b,0,none⟩),encO x.n,encN x.v] W (SPost W (ns'.length+1)):=fun _ W hW=>With_s b ns' x.n x.v W (HOK.out.fr0 (HF.out.2.2.then hW)) (HF.out.1.fr0 hW) hck f2 hvl (by have:=HF.out.2.1;omega);have hCO:x.a=true->∀ W,Fr [] wr W->Calls prog 188 #[.pointer (some ⟨b,0,none⟩),encO x.n] W (SPost W ns'.length):=fun _ W hW=>Without_s b ns' x.n W (HOK.out.fr0 (HF.out.2.2.then hW)) (HF.out.1.fr0 hW) hck f2 (by have:=HF.out.2.1;omega);obtain⟨⟨k,ow,nu,ix,tx⟩,v,ab⟩:=x;simp only at f1 f2 f3 hCW hCO;obtain⟨so,hso,_,_⟩:=str_of ow;obtain⟨st,hst,_,_⟩:=str_of tx;obtain⟨sv,hsv,_,_⟩:=str_of v;unfold CH.cs at hcx;unfold encO at hCW hCO;simp only[hso,hst,hsv] at hcx hCW hCO;have y0:wr.cell? ⟨bb,off+j*7,none⟩=some (.int .i64 k):=hcx 0 (by omega);have y1:wr.cell? ⟨bb,off+j*7+1,none⟩=some (.string so):=hcx 1 (by omega);have y2:wr.cell? ⟨bb,off+j*7+2,none⟩=some (.int .i64 nu):=hcx 2 (by omega);have y3:wr.cell? ⟨bb,off+j*7+3,none⟩=some (.int .i64 ix):=hcx 3 (by omega);have y4:wr.cell? ⟨bb,off+j*7+4,none⟩=some (.string st):=hcx 4 (by omega);have y5:wr.cell? ⟨bb,off+j*7+5,none⟩=some (.string sv):=hcx 5 (by omega);have y6:wr.cell? ⟨bb,off+j*7+6,none⟩=some (.bool ab):=hcx 6 (by omega);obtain⟨w1,hw1,hz1,n1,fw1⟩:=bxz wr #[.int .i64 k,.string so,.int .i64 nu,.int .i64 ix,.string st,.string sv,.bool ab] 95 wr.heap.size;clear hcx hcl hrow hx hck hso hst hsv hone
   go_upto_region 6 with fail
   try rw[hw1]
   clear y0 y1 y2 y3 y4 y5 y6 hbl;obtain⟨x0,x1,x2,x3,x4,x5,x6⟩:=n1.m7;have HW1:=Hd fw1;clear hw1 n1 fw1 hz1
   cases ab with
   | false =>
    have HC:=Hd (hCW rfl);clear hCW hCO
    go_wp2_with ((go_at_call 189;(with_reducible refine (HC.out _ HW1.out).mono ?_);rintro e w2 ⟨b2,ns2,rfl,hs2,hl2,hf2⟩;have H2:=Hd (An hs2 (An hl2 hf2));clear hs2 hl2 hf2))
    go_roundw
    case rel=>exact⟨j+1,b2,ns2,by omega,by go_num,rfl,H2.out.1,by have:=H2.out.2.1;have:=HF.out.2.1;omega,HF.out.2.2.then (HW1.out.then H2.out.2.2)⟩
    case measure=>simp[intOf];omega
   | true =>
    have HC:=Hd (hCO rfl);clear hCW hCO
    go_wp2_with ((go_at_call 188;(with_reducible refine (HC.out _ HW1.out).mono ?_);rintro e w2 ⟨b2,ns2,rfl,hs2,hl2,hf2⟩;have H2:=Hd (An hs2 (An hl2 hf2));clear hs2 hl2 hf2))
    go_roundw
    case rel=>exact⟨j+1,b2,ns2,by omega,by go_num,rfl,H2.out.1,by have:=H2.out.2.1;have:=HF.out.2.1;omega,HF.out.2.2.then (HW1.out.then H2.out.2.2)⟩
    case measure=>simp[intOf];omega
  ·obtain rfl:j=n:=by omega
   go_wp2_with fail
   go_ret2
   exact⟨b,ns',rfl,HF.out.1,HF.out.2.1,HF.out.2.2⟩
def StAt (w:World) (b:Nat) (t:TR):Prop:=BoxN w b 184 #[t.ptr]/\TRat w t
theorem StAt.fr0 {w w':World} {b:Nat} {t:TR} (h:StAt w b t) (hf:Fr [] w w'):StAt w' b t:=⟨h.1.fr hf (by simp),h.2.fr0 hf⟩
theorem NewS_any (w:World):Calls prog 33 #[] w fun e w'=>e=.returned (.pointer (some ⟨w.heap.size,0,none⟩))/\StAt w' w.heap.size .nil/\Fr [] w w':=by
 go_enter func33,ntmps33
 go_wp2_with fail
 go_ret
 exact⟨rfl,⟨BoxN.new w _ _,trivial⟩,(Fq [] w).alloc _⟩
theorem LenS_any (b:Nat) (t:TR) (w:World) (h:StAt w b t):Calls prog 38 #[.pointer (some ⟨b,0,none⟩)] w fun e w'=>e=.returned (.int .i64 t.s)/\w'=w:=by
 have x0:=h.1.k0;have hS:=sizeOf_any t w h.2;unfold TR.ptr at hS x0;have HS:=Hd hS;clear hS h
 go_enter func38,ntmps38
 go_wp2_with ((go_at_call 95;(with_reducible refine HS.out.mono ?_);rintro e w' ⟨rfl,rfl⟩))
 go_ret
 exact⟨rfl,rfl⟩
set_option maxHeartbeats 1000000
theorem each_nil_in (n:Nat) (f:Value) (w:World):CallsIn Fence.wide n prog 156 #[.pointer none,f] w fun e w'=>e=.returned (.bool true)/\w'=w:=by
 refine callsIn_wide.2 ?_
 go_enter func156,ntmps156
 go_wp2_with fail
 go_ret
 exact⟨rfl,rfl⟩
theorem nodes_any (n b:Nat) (w:World):CallsIn Fence.wide n prog 96 #[.pointer (some ⟨b,0,none⟩)] w fun e w'=>e=.returned (.func (.func 155) #[] #[.pointer (some ⟨w.heap.size,0,none⟩)])/\w'=w.alloc (.cells #[.pointer (some ⟨b,0,none⟩)] 86):=by
 refine callsIn_wide.2 ?_
 go_enter func96,ntmps96
 go_wp2_with fail
 go_ret
 exact⟨rfl,rfl⟩
section
variable {P:Program} {ops:Array Oper} {md:Region.Mode} {Q:Exit->Act->World->Prop} {C:World->Prop} {n:Nat} {L:Array Bool->Act->World->Prop}
def headH (P:Program) (md:Region.Mode) (ops:Array Oper) (Q:Exit->Act->World->Prop) (C:World->Prop) (n:Nat) (L:Array Bool->Act->World->Prop):Nat->Array Bool->Act->World->Prop
 | 0,S,a,w=>L S a w
 | f+1,S,a,w=>Region.ready md ops S≠[]/\∀ i∈Region.ready md ops S,i<n/\wpOp P ops Q i (fun a' w'=>C w'/\headH P md ops Q C n L f (S.setIfInBounds i true) a' w') a w
theorem wpAny_of_headH {g:Nat} (hL:∀ S a w,L S a w->wpAny P md ops Q g S a w) (f:Nat):∀ (S:Array Bool) (a:Act) (w:World),headH P md ops Q C n L f S a w->wpAny P md ops Q (f+g) S a w:=by
 induction f with
 | zero=>intro S a w h;rw[Nat.zero_add];exact hL S a w h
 | succ f ih =>
  intro S a w h;rw[Nat.add_right_comm];exact⟨fun h0=>absurd h0 h.1,fun i hi=>wpOp_mono (fun a' w' h'=>ih _ a' w' h'.2) (h.2 i hi).2⟩
theorem headH_first {i:Nat} {oi:Oper} {v:Value} (hi:ops[i]?=some oi) (hns:Region.noSelect ops=true) (hs:Region.sinkB md ops n=true) (hc:Region.chainB md ops n=true) (hn:n<ops.size) (hin:i<n)
 (hQ:∀ c a w,Q (.panic c) (a.put oi.dst v) w->Q (.panic c) a w) (hdone:∀ S a w,L S a w->∀ j∈Region.ready md ops S,n<=j) (f:Nat) :
 ∀ (S:Array Bool) (a:Act) (w:World),HeadInv md ops n S ->
  (∀ j oj,ops[j]?=some oj->j≠i->S.getD j true=false->(∀ e∈oj.after,Region.binds md e=true->e.on≠i)->oi.apart ops oj=true) ->
  i∈Region.ready md ops S->YieldsIf P ops C oi v a->C w->headH P md ops Q C n L f (S.setIfInBounds i true) (a.put oi.dst v) w->headH P md ops Q C n L (f+1) S a w:=by
 have hsel:=Region.noSelect_spec hns
 induction f with
 | zero =>
  intro S a w inv _ hr hy hC H;have hun:=(mem_ready.1 hr).1;refine⟨fun h=>by rw[h] at hr;simp at hr,fun j hj=>?_⟩
  by_cases hji:j=i
  ·subst hji;exact⟨hin,hy.wpOp hi hC ⟨hC,H⟩⟩
  ·have hjn:j<n:=Nat.lt_of_not_le fun h=>tail_waits hs hc hn inv _ i rfl hin hun j h hj
   have:=hdone _ _ _ H j (ready_mono hj hji)
   omega
 | succ f ih =>
  intro S a w inv hap hr hy hC H;have hun:=(mem_ready.1 hr).1;refine⟨fun h=>by rw[h] at hr;simp at hr,fun j hj=>?_⟩
  by_cases hji:j=i
  ·subst hji;exact⟨hin,hy.wpOp hi hC ⟨hC,H⟩⟩
  ·have hjn:j<n:=Nat.lt_of_not_le fun h=>tail_waits hs hc hn inv _ i rfl hin hun j h hj
   refine⟨hjn,?_⟩;obtain⟨hjun,oj,hoj,hall⟩:=mem_ready.1 hj
   have hne:∀ e∈oj.after,Region.binds md e=true->e.on≠i:=by
    intro e he hb heq;have h1:=hall e he hb;rw[heq,getD_both hun] at h1;exact absurd h1 (by simp)
   have hq:=wpOp_putIf hoj (hap j oj hoj hji hjun hne) (fun cs b=>hsel i oi cs b hi) (fun cs b=>hsel j oj cs b hoj) hQ hy (H.2 j (ready_mono hj hji)).2;refine wpOp_mono (fun a' w' h'=>?_) hq;refine⟨h'.2.1,ih (S.setIfInBounds j true) a' w' (inv.set hj hjn) ?_ (ready_mono hr (Ne.symm hji)) h'.1 h'.2.1 ?_⟩
   ·intro k ok hk hki hkun hkne
    refine hap k ok hk hki ?_ hkne
    by_cases hjk:j=k
    ·subst hjk;exact hjun
    ·rw[getD_set_ne true hjk] at hkun;exact hkun
   ·rw[Array.setIfInBounds_comm _ _ hji]
    exact h'.2.2
def headI (P:Program) (md:Region.Mode) (ops:Array Oper) (Q:Exit->Act->World->Prop) (C:World->Prop) (n:Nat) (L:Array Bool->Act->World->Prop) (f:Nat) (S:Array Bool) (a:Act) (w:World):Prop:=HeadInv md ops n S->headH P md ops Q C n L f S a w
theorem headI_take {i:Nat} {oi:Oper} {v:Value} {f:Nat} {S:Array Bool} {a:Act} {w:World} (hB:(Region.noSelect ops && Region.sinkB md ops n && Region.chainB md ops n && decide (n<ops.size))=true) (hdone:∀ S a w,L S a w->∀ j∈Region.ready md ops S,n<=j)
 (hi:ops[i]?=some oi) (hin:i<n) (hf:(Region.free md ops S i && (Region.ready md ops S).contains i)=true)
 (hQ:∀ c a w,Q (.panic c) (a.put oi.dst v) w->Q (.panic c) a w) (hy:YieldsIf P ops C oi v a) (hC:C w)
 (h:headI P md ops Q C n L f (S.setIfInBounds i true) (a.put oi.dst v) w):headI P md ops Q C n L (f+1) S a w:=by
 simp only[Bool.and_eq_true,decide_eq_true_eq] at hB hf;intro inv;have hr:i∈Region.ready md ops S:=by simpa using hf.2
 exact headH_first hi hB.1.1.1 hB.1.1.2 hB.1.2 hB.2 hin hQ hdone f S a w inv (Region.free_spec hi hf.1) hr hy hC (h (inv.set hr hin))
theorem headI_only {i:Nat} {oi:Oper} {f:Nat} {S:Array Bool} {a:Act} {w:World} (hr:Region.ready md ops S=[i]) (hin:i<n) (hi:ops[i]?=some oi)
 (h:∀ K:Act->World->Prop,(∀ a' w',C w'->headI P md ops Q C n L f (S.setIfInBounds i true) a' w'->K a' w')->if Region.wanted oi (yielded ops a.tmps)=true then oi.wp P a w K Q else K (a.put oi.dst undef) w):headI P md ops Q C n L (f+1) S a w:=by
 intro inv;refine⟨by rw[hr];simp,fun j hj=>?_⟩;rw[hr] at hj;obtain rfl:j=i:=by simpa using hj
 refine⟨hin,?_⟩;have hm:j∈Region.ready md ops S:=by rw[hr];simp
 exact wpOp_step hi fun K hK=>h K fun a' w' hC hW=>hK a' w' ⟨hC,hW (inv.set hm hin)⟩
theorem headI_two {i j:Nat} {oi oj:Oper} {f:Nat} {S:Array Bool} {a:Act} {w:World} (hr:Region.ready md ops S=[i,j]) (hin:i<n) (hjn:j<n) (hi:ops[i]?=some oi) (hj:ops[j]?=some oj)
 (h1:∀ K:Act->World->Prop,(∀ a' w',C w'->headI P md ops Q C n L f (S.setIfInBounds i true) a' w'->K a' w')->if Region.wanted oi (yielded ops a.tmps)=true then oi.wp P a w K Q else K (a.put oi.dst undef) w)
 (h2:∀ K:Act->World->Prop,(∀ a' w',C w'->headI P md ops Q C n L f (S.setIfInBounds j true) a' w'->K a' w')->if Region.wanted oj (yielded ops a.tmps)=true then oj.wp P a w K Q else K (a.put oj.dst undef) w):headI P md ops Q C n L (f+1) S a w:=by
 intro inv;refine⟨by rw[hr];simp,fun m hm=>?_⟩;have hi0:i∈Region.ready md ops S:=by rw[hr];simp
 have hj0:j∈Region.ready md ops S:=by rw[hr];simp
 rw[hr] at hm;simp only[List.mem_cons,List.not_mem_nil,or_false] at hm
 rcases hm with rfl | rfl
 ·exact⟨hin,wpOp_step hi fun K hK=>h1 K fun a' w' hC hW=>hK a' w' ⟨hC,hW (inv.set hi0 hin)⟩⟩
 ·exact⟨hjn,wpOp_step hj fun K hK=>h2 K fun a' w' hC hW=>hK a' w' ⟨hC,hW (inv.set hj0 hjn)⟩⟩
theorem headI_done {S:Array Bool} {a:Act} {w:World} (h:L S a w):headI P md ops Q C n L 0 S a w:=fun _=>h
theorem wp_region_head (C:World->Prop) {id:Nat} {a:Act} {w:World} {l:List Oper} (n:Nat) (hm:P.follows .mixedOrders=true)
 (h:headI P .any l.toArray Q C n (fun S a w=>Region.seqB .any l.toArray (l.toArray.size - n) n S=true/\wpList P l.toArray Q (l.drop n) a w) n (Array.replicate l.toArray.size false) a w.drew) (hn:n<=l.length):(Code.region id l.toArray true).wp P Q a w:=by
 have inv:HeadInv .any l.toArray n (Array.replicate l.toArray.size false) :=
  ⟨by simp,fun j oj _ hl=>absurd hl (by rw[getD_replicate_false];simp),fun t _ ht=>getD_in (by simpa using ht) (getD_replicate_false _ _)⟩
 refine wp_region_any hm ?_;have hdl:(l.drop n).length=l.toArray.size - n:=by simp
 have hA:=wpAny_of_headH (g:=l.toArray.size - n) (fun S a' w' hL=>by
  have:=wpAny_of_seq (md:=.any) (Q':=Q) (l.drop n) n S a' w' (fun j=>by simp[List.getElem?_drop]) (by rw[hdl];exact hL.1) hL.2
  rwa [hdl] at this) _ _ _ _ (h inv)
 rw[show n+(l.toArray.size - n)=l.toArray.size by simp;omega] at hA;exact hA
theorem head_done {l:List Oper} {g n:Nat}:∀ (S:Array Bool) (a:Act) (w:World),(Region.seqB .any l.toArray g n S=true/\wpList P l.toArray Q (l.drop n) a w)->∀ j∈Region.ready .any l.toArray S,n<=j:=fun _ _ _ h=>seqB_ready h.1
end
abbrev headJ (_ : Nat) (P : Program) (md : Region.Mode) (ops : Array Oper) (Q : Exit -> Act -> World -> Prop) (C : World -> Prop) (n : Nat) (L : Array Bool -> Act -> World -> Prop) (f : Nat) (S : Array Bool) (a : Act) (w : World) : Prop := headI P md ops Q C n L f S a w
theorem hdJ {P : Program} {ops : Array Oper} {Q : Exit -> Act -> World -> Prop} {C : World -> Prop} {n : Nat} {L : Array Bool -> Act -> World -> Prop} {i : Nat} {oi : Oper} {v : Value} {f : Nat} {S : Array Bool} {a : Act} {w : World} (hi : ops[i]? = some oi) (hy : YieldsIf P ops C oi v a)
    (h : headJ (i + 1) P .any ops Q C n L f (S.setIfInBounds i true) (a.put oi.dst v) w) (hB : (Region.noSelect ops && Region.sinkB .any ops n && Region.chainB .any ops n && decide (n < ops.size)) = true := by kernel_rfl) (hdone : ∀ S a w, L S a w -> ∀ j ∈ Region.ready .any ops S, n <= j := by exact head_done)
    (hin : i < n := by decide) (hf : (Region.free .any ops S i && (Region.ready .any ops S).contains i) = true := by kernel_rfl) (hQ : ∀ c a w, Q (.panic c) (a.put oi.dst v) w -> Q (.panic c) a w := by exact fun _ _ _ h => h) (hC : C w := by assumption) : headJ i P .any ops Q C n L (f + 1) S a w :=
  headI_take hB hdone hi hin hf hQ hy hC h
theorem hO {P : Program} {md : Region.Mode} {ops : Array Oper} {Q : Exit -> Act -> World -> Prop} {C : World -> Prop} {n : Nat} {L : Array Bool -> Act -> World -> Prop} {i : Nat} {oi : Oper} {f : Nat} {S : Array Bool} {a : Act} {w : World} (hi : ops[i]? = some oi)
    (h : ∀ K : Act -> World -> Prop, (∀ a' w', C w' -> headI P md ops Q C n L f (S.setIfInBounds i true) a' w' -> K a' w') -> oi.wp P a w K Q) (hr : Region.ready md ops S = [i] := by kernel_rfl) (hin : i < n := by decide) (hw : Region.wanted oi (yielded ops a.tmps) = true := by rfl) : headI P md ops Q C n L (f + 1) S a w :=
  headI_only hr hin hi fun K hK => by rw [if_pos hw]; exact h K hK
theorem hdn {P : Program} {md : Region.Mode} {ops : Array Oper} {Q : Exit -> Act -> World -> Prop} {C : World -> Prop} {n : Nat} {p : Array Bool -> Prop} {q : Act -> World -> Prop} {S : Array Bool} {a : Act} {w : World} (h : q a w) (hs : p S := by kernel_rfl) : headI P md ops Q C n (fun S a w => p S /\ q a w) 0 S a w := headI_done ⟨hs, h⟩
end Go.Proofs.YtlpmiimgacfmkaaGreatDoor
