/- versions: Append of any action that may follow. -/
import Derived.Test.YtlpmiimgacfmkaaGreatDoorMMaps3
set_option linter.all false
namespace Go.Proofs.YtlpmiimgacfmkaaGreatDoor
open Go.Proofs.Tryz
open Go.RowKit
set_option maxRecDepth 100000
set_option maxHeartbeats 8000000
structure VGis (w:World) (b pb pl mw mr:Nat) (A:Option Addr) (c:Nat) (KA:Option Addr) (kk kc:Nat) (ks:List Value) (ys:List AX) (ew:List (NE ON VX)) (er:List (NE ON Nat)) (ns:List ON):Prop where
 s:VS w b pb pl mw mr A c KA kk kc ks ys ew er
 kl:kk<=ys.length
 xok:∀ x∈ys,x.ok w
 base:SG w pb []
 st:SG w pl ns
 nl:ns.length<=10*ys.length
 wr:∀ m,getL ew m=verL (ys.map AX.a) m
 wl:∀ m,(getL ew m).length<=10*ys.length
 rl:∀ m,(getL er m).length<=10*ys.length
 run:Run ys
def VG (w:World) (b:Nat) (ys:List AX) (M:List Nat):Prop:=∃ pb pl mw mr A c KA kk kc ks ew er ns,VGis w b pb pl mw mr A c KA kk kc ks ys ew er ns/\M=VB b mw mr A KA ew er
def VAPost (ys:List AX) (a:AG) (M:List Nat) (b:Nat) (w:World) (e:Ending) (w':World):Prop:=e=.returned (.int .i64 0)/\∃ M' y,y.a=a/\VG w' b (ys++[y]) M'/\Fr M w w'/\∀ k∈M',k∈M \/ w.heap.size<=k
theorem noneV_g (b p:Nat) (w:World) (h:w.cell? ⟨b,0,none⟩=some (.pointer (some ⟨p,0,none⟩))):Calls prog 157 #[.pointer (some ⟨b,0,none⟩)] w fun e w'=>e=.returned (.bool false)/\w=w':=noneV_any b p w h
theorem VAppend_g (b:Nat) (ys:List AX) (M:List Nat) (x:AX) (w:World) (h:VG w b ys M) (hok:Ok w) (hlo:∀ k∈M,6<=k) (hx:x.ok w) (hA:okA ys x.a=true) (hf:x.a.fit) (hr:x.a.r.length<=10) (hw:x.a.w.length<=10) (hlen:ys.length<=11) :
 Calls prog 98 #[.pointer (some ⟨b,0,none⟩),x.v] w (VAPost ys x.a M b w):=by
 obtain⟨pb,pl,mw,mr,A,c,KA,kk,kc,ks,ew,er,ns,h,rfl⟩:=h
 have hwf:wfB x.a=true:=by
  unfold okA at hA;simp only[Bool.and_eq_true] at hA;exact hA.1
 obtain⟨nr,hnr⟩:=nmd (x.a.r.length);obtain⟨nw,hnw⟩:=nmd (x.a.w.length);obtain⟨n,hn⟩:=nmd (ys.length);have hval:x.v=.agg #[.int .i64 x.a.k.rnd,.int .i64 x.a.k.phase,.int .i64 x.a.k.idx,.string x.sl,.slice x.A nr x.c,.slice x.B nw x.d]:=by unfold AX.v AG.val;rw[hnr,hnw]
 rw[hval];obtain⟨w1,hw1,hz1,n1,hf1⟩:=bxz w #[.int .i64 x.a.k.rnd,.int .i64 x.a.k.phase,.int .i64 x.a.k.idx,.string x.sl,.slice x.A nr x.c,.slice x.B nw x.d] 91 w.heap.size;obtain⟨R,hR⟩:=nmd (w.heap.size);have HRR:=Hd hR;rw[hR] at n1
 have hCell:∀ W,Fr [] w1 W->(W.cell? ⟨b,0,none⟩=some (.pointer (some ⟨pb,0,none⟩))/\W.cell? ⟨b,1,none⟩=some (.slice A n c)/\W.cell? ⟨b,2,none⟩=some (.slice KA kk kc)/\W.cell? ⟨b,3,none⟩=some (.pointer (some ⟨pl,0,none⟩))/\W.cell? ⟨b,4,none⟩=some (.map (some mw))/\W.cell? ⟨b,5,none⟩=some (.map (some mr)))/\W.cell? ⟨R,0,none⟩=some (.int .i64 x.a.k.rnd)/\W.cell? ⟨R,1,none⟩=some (.int .i64 x.a.k.phase)/\W.cell? ⟨R,2,none⟩=some (.int .i64 x.a.k.idx)/\W.cell? ⟨R,3,none⟩=some (.string x.sl)/\W.cell? ⟨R,4,none⟩=some (.slice x.A nr x.c)/\W.cell? ⟨R,5,none⟩=some (.slice x.B nw x.d):=fun W hW=>by
  have h1:=h.s.box.fr (hf1.then hW) (by simp);rw[hn] at h1;have h2:=n1.fr hW (by simp);exact⟨⟨h1.c 0,h1.c 1,h1.c 2,h1.c 3,h1.c 4,h1.c 5⟩,h2.c 0,h2.c 1,h2.c 2,h2.c 3,h2.c 4,h2.c 5⟩
 have hNn:∀ W,Fr [] w1 W->Calls prog 157 #[.pointer (some ⟨b,0,none⟩)] W fun e w'=>e=.returned (.bool false)/\W=w':=fun W hW=>noneV_g b pb W (hCell W hW).1.1
 have hWF:∀ W,Fr [] w1 W->Calls prog 158 #[x.v] W (RetPost W (.bool true)):=fun W hW=>by
  have:=WellFormedVG x.a x.sl x.A x.B x.c x.d W (hok.fr0 (hf1.then hW)) hx.s (hx.chr.fr0 (hf1.then hW)) (hx.chw.fr0 (hf1.then hW)) hf;rw[hwf] at this;exact this
 have hlists:=wfB_lists hwf;have hG:∀ y∈x.a.w,y.fit/\oneB y=true:=fun y hy=>⟨hf.w y hy,ordB_all hlists.2 y hy⟩;have hnl:=h.nl
 have hApp:∀ W,Fr [] w1 W->Calls prog 153 #[.pointer (some ⟨pl,0,none⟩),.slice x.B nw x.d] W (SPost W (ns.length+nw)):=fun W hW=>by
  have:=Apply_s pl ns x.a.w x.B x.d W (hok.fr0 (hf1.then hW)) (h.st.fr0 (hf1.then hW)) (hx.chw.fr0 (hf1.then hW)) hG (by omega);rw[hnw] at this;exact this
 rw[hval] at hWF;have hbig:decide ((65536:Int)<=(n:Int))=false:=by simp;omega
 have hks:ys.getLast?=ys[n - 1]?:=by rw[List.getLast?_eq_getElem?,hn]
 have hn12:n<=11:=by omega
 have HN:=Hd hNn;have HWF:=Hd hWF;have HA:=Hd hApp;have HW1:=Hd hw1;have HF1:=Hd hf1;have HSS:=Hd hCell;have HR1:=Hd n1;have HH:=Hd h;have HX:=Hd hx;have HOK:=Hd hok;have HLO:=Hd hlo;have HV:=Hd (An hval (An hn (An hwf (An hA (An hf (An hnr (An hnw hks)))))));have HL:=Hd (An hr hw);have hnr10:nr<=10:=by omega
 have hnw10:nw<=10:=by omega
 clear hx h hCell hNn hWF hApp hw1 hf1 n1 hval hok hlo hwf hz1 hf hnr hnw hn hlists hG hnl hks hr hw hlen hA hR
 go_enter func98,ntmps98
 go_upto_region 1 with fail
 rw[HW1.out]
 try rw[HRR.out]
 obtain⟨⟨x0,x1,x2,x3,x4,x5⟩,y0,y1,y2,y3,y4,y5⟩:=HSS.out w1 (Fq [] w1)
 go_upto_region 8 with (first
  | (go_at_call 157;(with_reducible refine (HN.out _ (Fq [] w1)).mono ?_);rintro e w' ⟨rfl,rfl⟩)
  | (go_at_call 158;(with_reducible refine (HWF.out _ (Fq [] w1)).mono ?_);rintro e w2 ⟨rfl,hf2⟩;clear x0 x1 x2 x3 x4 x5 y0 y1 y2 y3 y4 y5;obtain⟨⟨x0,x1,x2,x3,x4,x5⟩,y0,y1,y2,y3,y4,y5⟩:=HSS.out w2 hf2))
 clear x0 x1 x2 x3 x4 x5 y0 y1 y2 y3 y4 y5
 go_cut [40] from 24 to 41 (fun s W=>s=.bool false/\Fr [] w1 W)
 case first =>
  cases n with
  | zero =>
   refine wp_region_qall (fun W=>Fr [] w1 W) (by kernel_rfl) (by kernel_rfl) (hf2.drew) ?_
   repeat (
    first
    | go_big_quiet_skip
    | (go_big_quiet_want
       first
       | (go_big_quiet_op
          go_big_quiet_on)
       | (apply Exists.intro
          refine⟨fun W hW=>?_,?_⟩
          ·(obtain⟨⟨x0,x1,x2,x3,x4,x5⟩,y0,y1,y2,y3,y4,y5⟩:=HSS.out W hW
            go_simp
            first
            | done
            | (with_reducible exact rfl)
            | (with_reducible exact⟨rfl,rfl⟩)
            | (fail))
          simp only[Act.put,qA,qB,qC]
          go_big_quiet_on))
    )
   refine wpQuiet_nil ?_;intro W3 hW3
   go_wp2_with fail
   go_meet
   exact⟨rfl,hW3⟩
  | succ m =>
   have hrow:=(HH.out.s.own.rd:Rd w 6 A ys.length (ys.flatMap AX.cs));rw[HV.out.2.1] at hrow;obtain⟨g,off,rfl,hgl,hcl⟩:=row_get ax_len hrow (by omega);obtain⟨y,hy⟩:∃ y,ys[m]?=some y:=⟨_,lge (by rw[HV.out.2.1];omega)⟩;have hcy:=hcl m y hy;unfold AX.cs at hcy;have hgc:∀ o,(W:World)->Fr [] w1 W->W.cell? ⟨g,o,none⟩=w.cell? ⟨g,o,none⟩:=fun o W hW=>(HF1.out.then hW).cell (p:=⟨g,o,none⟩) hgl (by simp);have hyw:=HH.out.run.wf y (lmg hy);have hyk:=HH.out.xok y (lmg hy);obtain⟨r,hr⟩:=nmd (cmpK x.a.k y.a.k)
   have hTr:decide (r<=0)=false:=by
    have h0:=HV.out.2.2.2.1;unfold okA at h0;rw[HV.out.2.2.1,HV.out.2.2.2.2.2.2.2,Nat.add_sub_cancel,hy] at h0;simp only[Bool.true_and,hr,decide_eq_true_eq] at h0;simp;omega
   have hCK:∀ W,Calls prog 91 #[.agg #[.int .i64 x.a.k.rnd,.int .i64 x.a.k.phase,.int .i64 x.a.k.idx,.string x.sl],.agg #[.int .i64 y.a.k.rnd,.int .i64 y.a.k.phase,.int .i64 y.a.k.idx,.string y.sl]] W (CmpOPost W r):=fun W=>by
    obtain⟨v1,v2⟩:=checkK_valid (wfB_key HV.out.2.2.1);obtain⟨v3,v4⟩:=checkK_valid (wfB_key hyw.1);have h:=CompareK_any x.a.k y.a.k W v1 v3 (by omega) (by omega);rw[hr] at h;unfold encK at h;rw[HX.out.s,hyk.s] at h;exact h
   have HCK:=Hd hCK;have HSK:=HSS;clear HSS
   have HSS:=Hd (fun (W:World) (hW:Fr [] w1 W)=>An (HSK.out W hW) (show W.cell? ⟨g,off+m*6,none⟩=some (.int .i64 y.a.k.rnd)/\W.cell? ⟨g,off+m*6+1,none⟩=some (.int .i64 y.a.k.phase)/\W.cell? ⟨g,off+m*6+2,none⟩=some (.int .i64 y.a.k.idx)/\W.cell? ⟨g,off+m*6+3,none⟩=some (.string y.sl) from
    ⟨(hgc _ W hW).trans (hcy 0 (by omega)),(hgc _ W hW).trans (hcy 1 (by omega)),(hgc _ W hW).trans (hcy 2 (by omega)),(hgc _ W hW).trans (hcy 3 (by omega))⟩))
   have hwr:IntKind.i64.wrap (m:Int)=(m:Int):=by simp only[IntKind.wrap_i64];omega
   have hmm:(m:Int)<(m:Int)+1:=by omega
   clear hcy hcl hrow hgc hyw hyk hr hCK;refine wp_region_qall (fun W=>Fr [] w1 W) (by kernel_rfl) (by kernel_rfl) (hf2.drew) ?_
   repeat (
    first
    | go_big_quiet_skip
    | (go_big_quiet_want
       first
       | (go_big_quiet_op
          go_big_quiet_on)
       | (apply Exists.intro
          refine⟨fun W hW=>?_,?_⟩
          ·(obtain⟨⟨⟨x0,x1,x2,x3,x4,x5⟩,y0,y1,y2,y3,y4,y5⟩,z0,z1,z2,z3⟩:=HSS.out W hW
            go_simp
            first
            | done
            | (with_reducible exact rfl)
            | (with_reducible exact⟨rfl,rfl⟩)
            | ((go_at_call 91;(with_reducible refine (HCK.out W).mono ?_);rintro e w' ⟨rfl,h⟩;exact⟨rfl,hW.then h⟩)))
          simp only[Act.put,qA,qB,qC]
          go_big_quiet_on))
    )
   refine wpQuiet_nil ?_;intro W3 hW3
   go_wp2_with fail
   go_meet
   exact⟨rfl,hW3⟩
 case rest =>
 obtain⟨rfl,hW3⟩:=hcut
 go_upto_region 10 with fail
 have hC:Fr [] w1 wc.drew:=hW3.drew;refine wp_region_head (fun W:World=>Fr [] w1 W) 11 (by kernel_rfl) ?_ (by decide)
 show headJ 0 _ _ _ _ _ _ _ _ _ _ _
 iterate 6
  refine hdJ (v:=?_) rfl (Or.inl ⟨by rfl,?_⟩) ?_
  rotate_left
  ·intro W hW;obtain⟨⟨x0,x1,x2,x3,x4,x5⟩,y0,y1,y2,y3,y4,y5⟩:=HSS.out W hW;go_simp;try with_reducible rfl
  try simp only[Act.put,qA,qB,qC,qD,qE,qF]
 refine hO (i:=6) rfl fun K hK=>?_;go_simp
 go_at_call 153
 (with_reducible refine (HA.out _ hC).mono ?_);rintro e w4 ⟨p2,ns2,rfl,hst4,hnl4,hf4⟩;have hC4:=hC.then hf4;refine hK _ _ hC4 ?_;clear hK K hC hf4
 try simp only[Act.put,qA,qB,qC,qD,qE,qF]
 show headJ 7 _ _ _ _ _ _ _ _ _ _ _
 iterate 4
  refine hdJ (v:=?_) rfl (Or.inl ⟨by rfl,?_⟩) ?_
  rotate_left
  ·intro W hW;obtain⟨⟨x0,x1,x2,x3,x4,x5⟩,y0,y1,y2,y3,y4,y5⟩:=HSS.out W hW;go_simp;try with_reducible rfl
  try simp only[Act.put,qA,qB,qC,qD,qE,qF]
 refine headI_done ⟨by kernel_rfl,?_⟩;simp only[qG,qH];have HST4:=Hd (An hst4 (An hnl4 hC4));clear hst4 hnl4 hC4;have hs4:=HH.out.s.fr0 (HF1.out.then HST4.out.2.2);have hr4:=HR1.out.fr HST4.out.2.2 (by simp);have HS4:=Hd (An hs4 hr4);clear hs4 hr4
 go_upto_if 56 with fail
 have hkl:=HH.out.kl;rw[HV.out.2.1] at hkl;have HKL:=Hd hkl;clear hkl
 go_cut [57] from 57 to 70 (fun _ W=>∃ KA' kk' kc' ks',VS W b pb pl mw mr A c KA' kk' kc' ks' ys ew er/\kk'<=n+1/\Fr (b::blk KA) w4 W/\∀ q∈blk KA',q∈blk KA \/ w4.heap.size<=q)
 case first =>
  have hb4:=HS4.out.1.box;rw[HV.out.2.1] at hb4
  by_cases h0:n=0
  ·subst h0
   have hkk:kk=0:=by have:=HKL.out;omega
   subst hkk;have hKown:=HS4.out.1.kown;have HBK:=Hd (An hb4 hKown);clear hb4 hKown
   go_upto_region 14 with fail
   have HSK:=HSS;clear HSS;have HSS:=Hd (fun (W:World) (hW:W.cell? ⟨b,2,none⟩=some (.slice KA 0 kc)/\W.cell? ⟨b,3,none⟩=some (.pointer (some ⟨pl,0,none⟩)))=>hW);have hC:w4.drew.cell? ⟨b,2,none⟩=some (.slice KA 0 kc)/\w4.drew.cell? ⟨b,3,none⟩=some (.pointer (some ⟨pl,0,none⟩)):=⟨HBK.out.1.c 2,HBK.out.1.c 3⟩;refine wp_region_head (fun W:World=>W.cell? ⟨b,2,none⟩=some (.slice KA 0 kc)/\W.cell? ⟨b,3,none⟩=some (.pointer (some ⟨pl,0,none⟩))) 13 (by kernel_rfl) ?_ (by decide)
   show headJ 0 _ _ _ _ _ _ _ _ _ _ _
   iterate 9
    refine hdJ (v:=?_) rfl (Or.inl ⟨by rfl,?_⟩) ?_
    rotate_left
    ·intro W hW;obtain⟨z2,z3⟩:=HSS.out W hW;go_simp;try with_reducible rfl
    try simp only[Act.put,qA,qB,qC,qD,qE,qF]
   refine hO (i:=9) rfl fun K hK=>?_;go_simp
   obtain⟨X1,hX1,n2,f1⟩:=bxd w4 #[.pointer (some ⟨pl,0,none⟩)] 86;rw[hX1];have hb1:=HBK.out.1.fr f1 (by simp);refine hK _ _ ⟨hb1.c 2,hb1.c 3⟩ ?_;clear hK K hX1
   try simp only[Act.put,qA,qB,qC,qD,qE,qF]
   refine hO (i:=10) rfl fun K hK=>?_;obtain⟨ii,hii,iz0,iz1,iz2⟩:=info_stp;refine wp_app (.tmp 61) (.tmp 66) 133 rfl 86 ii _ 1 8 underlying133 hii iz0 iz1 iz2 rfl (by decide) KA 0 kc ks rfl (HBK.out.2.fr f1 (by simp)) ⟨w4.heap.size,0,none⟩ 1 1 [.pointer (some ⟨pl,0,none⟩)] rfl rfl (fun j u hu=>by rw[add_mid',n2.c j];simpa using hu) (by simp[Value.oneCell']) (by unfold maxLen;omega) (by omega) ?_;intro A' c' X3 ho3 hf3 hA3
   have hbK:b ∉ blk KA:=fun hm=>by
    have:=NoT.own (ts:=[196]) HBK.out.2 (by decide) b hm _ _ _ HBK.out.1;simp at this
   have hb3:=hb1.fr hf3 hbK;have hC3:X3.cell? ⟨b,2,none⟩=some (.slice KA 0 kc)/\X3.cell? ⟨b,3,none⟩=some (.pointer (some ⟨pl,0,none⟩)):=⟨hb3.c 2,hb3.c 3⟩;refine hK _ _ hC3 ?_;clear hK K
   try simp only[Act.put,qA,qB,qC,qD,qE,qF]
   show headJ 11 _ _ _ _ _ _ _ _ _ _ _
   iterate 2
    refine hdJ (v:=?_) rfl (Or.inl ⟨by rfl,?_⟩) ?_
    rotate_left
    ·intro W hW;obtain⟨z2,z3⟩:=HSS.out W hW;go_simp;try with_reducible rfl
    try simp only[Act.put,qA,qB,qC,qD,qE,qF]
   refine headI_done ⟨by kernel_rfl,?_⟩;simp only[qG,qH];rw[show (0+1:Nat)=1 from rfl] at ho3 ⊢;have e0:=hb3.k2;have e1:=hb3.f 2;have hb5:=hb3.setAt 2 (.slice A' 1 c');have f5:Fr [b] X3 (X3.setCell ⟨b,2,none⟩ (.slice A' 1 c')):=(Fq [b] X3).set (.inl (by simp)) _;have hys:ys.length=0:=HV.out.2.1;have hput:=HS4.out.1.putK (K':=A') (kk':=1) (kc':=c') (ks':=ks++[.pointer (some ⟨pl,0,none⟩)]) ((f1.mono (by simp)).then hf3) ho3 (fun k hk=>(hA3 k hk).imp id (fun h=>Nat.le_trans f1.size h)) f5 (by rw[hys];exact hb5);have hfr:Fr (b::blk KA) w4 (X3.setCell ⟨b,2,none⟩ (.slice A' 1 c')):=(((f1.mono (by simp)).then hf3).mono (T:=b::blk KA) (fun k hk=>.inl (by simp[hk]))).trans f5 (by simp);have HFIN:=Hd (An hput (An hfr (fun k hk=>(hA3 k hk).imp id (fun h=>Nat.le_trans f1.size h))));clear hput hfr hb5 f5 hb3 hf3 ho3 hA3 hb1 n2 f1 hC hC3 HBK
   go_wp2_with fail
   go_meet
   exact⟨A',1,c',_,HFIN.out.1,by omega,HFIN.out.2.1,HFIN.out.2.2⟩
  ·have hm16:¬ (n:Int) % 16=0:=by omega
   clear hb4
   go_wp2_with fail
   go_meet
   exact⟨KA,kk,kc,ks,HS4.out.1,by have:=HKL.out;omega,Fq _ _,fun q hq=>.inl hq⟩
 case rest =>
 obtain⟨K2,kk2,kc2,ks2,hvs2,hkk2,hf42,hK2⟩:=hcut;have hMlt:=HH.out.s.lt;have hRM:R ∉ VB b mw mr A KA ew er:=fun hm=>by have:=hMlt R hm;have:=HRR.out;omega
 have hRM2:R≠b/\R ∉ blk A/\R ∉ blk KA/\R≠mw/\R≠mr/\R ∉ blsL ew/\R ∉ blsL er:=by
  simp only[VB,List.mem_cons,List.mem_append,not_or] at hRM;exact⟨hRM.1,hRM.2.2.2.1,hRM.2.2.2.2.1,hRM.2.1,hRM.2.2.1,hRM.2.2.2.2.2.1,hRM.2.2.2.2.2.2⟩
 have HRM:=Hd hRM2;have hw4:=HF1.out.then HST4.out.2.2;have HW4:=Hd hw4;have hb2:=hvs2.box;rw[HV.out.2.1] at hb2;have e0:=hb2.k3;have e1:=hb2.f 3;have HVS2:=Hd (An hvs2 (An hkk2 (An hf42 hK2)));clear hMlt hRM hRM2 hw4 hvs2 hkk2 hf42 hK2 hW3
 go_upto_region 16 with fail
 obtain⟨X5,hX5⟩:=nmd (wc.setCell ⟨b,3,none⟩ (.pointer (some ⟨p2,0,none⟩)));have hb5:=hb2.setAt 3 (.pointer (some ⟨p2,0,none⟩));have f5:Fr [b] wc X5:=by rw[<-hX5];exact (Fq [b] wc).set (.inl (by simp)) _
 rw[hX5] at hb5
 try rw[hX5]
 have hv5:=HVS2.out.1.putLast (pl':=p2) f5 (by rw[HV.out.2.1];exact hb5);have hr5:BoxN X5 R 91 #[.int .i64 x.a.k.rnd,.int .i64 x.a.k.phase,.int .i64 x.a.k.idx,.string x.sl,.slice x.A nr x.c,.slice x.B nw x.d]:=((HS4.out.2.fr HVS2.out.2.2.1 (by simp only[List.mem_cons,not_or];exact⟨HRM.out.1,HRM.out.2.2.1⟩)).fr f5 (by simpa using HRM.out.1));have hfw5:Fr (VB b mw mr A KA ew er) w X5:=((HW4.out.mono (by simp)).trans (HVS2.out.2.2.1.mono (T:=VB b mw mr A KA ew er) (fun k hk=>.inl (by rcases List.mem_cons.1 hk with h | h <;> simp[VB,h]))) (fun k hk=>.inl hk)).trans f5 (by simp[VB]);have hst5:SG X5 p2 ns2:=(HST4.out.1.frT HVS2.out.2.2.1 (HS4.out.1.noS.mem (by intro k hk;rcases List.mem_cons.1 hk with h | h <;> simp[VB,h]))).frT f5 (HVS2.out.1.noS.mem (by intro k hk;rw[lms] at hk;simp[VB,hk]));have HV5:=Hd (An hv5 (An hr5 (An hfw5 hst5)));clear e0 e1 hX5 hb5 hb2 hv5 hr5 hfw5 f5 hst5
 have hCell:∀ W,Fr [] X5 W->W.cell? ⟨b,1,none⟩=some (.slice A n c)/\W.cell? ⟨R,0,none⟩=some (.int .i64 x.a.k.rnd)/\W.cell? ⟨R,1,none⟩=some (.int .i64 x.a.k.phase)/\W.cell? ⟨R,2,none⟩=some (.int .i64 x.a.k.idx)/\W.cell? ⟨R,3,none⟩=some (.string x.sl)/\W.cell? ⟨R,4,none⟩=some (.slice x.A nr x.c)/\W.cell? ⟨R,5,none⟩=some (.slice x.B nw x.d):=fun W hW=>by
  have h1:=HV5.out.1.box.fr hW (by simp);rw[HV.out.2.1] at h1;have h2:=HV5.out.2.1.fr hW (by simp);exact⟨h1.c 1,h2.c 0,h2.c 1,h2.c 2,h2.c 3,h2.c 4,h2.c 5⟩
 have hCp:∀ W,Fr [] X5 W->Calls prog 159 #[x.v] W (CopyG W x.a):=fun W hW=>by
  have hxw:=HX.out.frT (HV5.out.2.2.1.trans hW (by simp)) HH.out.s.noS;exact copiedV_g x.a x.sl x.A x.B x.c x.d W HX.out.s hxw.chr hxw.chw HV.out.2.2.2.2.1
 rw[HV.out.1] at hCp;have HCP:=Hd hCp;clear HSS;have HSS:=Hd (fun (W:World) (hW:W.cell? ⟨b,1,none⟩=some (.slice A n c)/\W.cell? ⟨R,0,none⟩=some (.int .i64 x.a.k.rnd)/\W.cell? ⟨R,1,none⟩=some (.int .i64 x.a.k.phase)/\W.cell? ⟨R,2,none⟩=some (.int .i64 x.a.k.idx)/\W.cell? ⟨R,3,none⟩=some (.string x.sl)/\W.cell? ⟨R,4,none⟩=some (.slice x.A nr x.c)/\W.cell? ⟨R,5,none⟩=some (.slice x.B nw x.d))=>hW);have hC:=hCell _ (Fq [] X5).drew;have HCELL:=Hd hCell;clear hCell hCp;refine wp_region_head (fun W:World=>W.cell? ⟨b,1,none⟩=some (.slice A n c)/\W.cell? ⟨R,0,none⟩=some (.int .i64 x.a.k.rnd)/\W.cell? ⟨R,1,none⟩=some (.int .i64 x.a.k.phase)/\W.cell? ⟨R,2,none⟩=some (.int .i64 x.a.k.idx)/\W.cell? ⟨R,3,none⟩=some (.string x.sl)/\W.cell? ⟨R,4,none⟩=some (.slice x.A nr x.c)/\W.cell? ⟨R,5,none⟩=some (.slice x.B nw x.d)) 11 (by kernel_rfl) ?_ (by decide)
 show headJ 0 _ _ _ _ _ _ _ _ _ _ _
 iterate 6
  refine hdJ (v:=?_) rfl (Or.inl ⟨by rfl,?_⟩) ?_
  rotate_left
  ·intro W hW;obtain⟨x1,y0,y1,y2,y3,y4,y5⟩:=HSS.out W hW;go_simp;try with_reducible rfl
  try simp only[Act.put,qA,qB,qC,qD,qE,qF]
 refine hO (i:=6) rfl fun K hK=>?_;go_simp
 go_at_call 159
 (with_reducible refine (HCP.out _ (Fq [] X5).drew).mono ?_);rintro e Y1 ⟨⟨ya,ys2,yA,yc,yB,yd⟩,hya,rfl,hyk,hfy⟩
 dsimp only at hya
 subst hya;have hX1:=hfy.undrew;refine hK _ _ (HCELL.out _ hX1) ?_;clear hK K hC hfy;have hC:=HCELL.out _ hX1;unfold AX.v AG.val
 dsimp only
 rw[HV.out.2.2.2.2.2.1,HV.out.2.2.2.2.2.2.1]
 try simp only[Act.put,qA,qB,qC,qD,qE,qF]
 refine hO (i:=7) rfl fun K hK=>?_;go_simp
 obtain⟨Y2,hY2,n2,f2⟩:=bxn Y1 #[.int .i64 x.a.k.rnd,.int .i64 x.a.k.phase,.int .i64 x.a.k.idx,.string ys2,.slice yA nr yc,.slice yB nw yd] 91;rw[hY2];have hX12:=hX1.then f2;refine hK _ _ (HCELL.out _ hX12) ?_;clear hK K hC hY2
 try simp only[Act.put,qA,qB,qC,qD,qE,qF]
 refine hO (i:=8) rfl fun K hK=>?_;obtain⟨ii,hii,iz0,iz1,iz2⟩:=info_act;have hO2:=HV5.out.1.own.fr hX12 (by simp);rw[HV.out.2.1] at hO2;refine wp_app (.tmp 78) (.tmp 81) 22 rfl 91 ii _ 6 88 underlying22 hii iz0 iz1 iz2 rfl (by decide) A n c (ys.flatMap AX.cs) rfl hO2 ⟨Y1.heap.size,0,none⟩ 1 1 (AX.mk x.a ys2 yA yc yB yd).cs rfl rfl (fun j u hu=>by unfold AX.cs at hu;dsimp only at hu;rw[HV.out.2.2.2.2.2.1,HV.out.2.2.2.2.2.2.1] at hu;rw[add_mid',n2.c j];simpa using hu) (by intro u hu;simp only[AX.cs,List.mem_cons,List.not_mem_nil,or_false] at hu;rcases hu with rfl | rfl | rfl | rfl | rfl | rfl <;> rfl) (by unfold maxLen;omega) (by omega) ?_;intro A' c' Y3 ho3 hf3 hA3
 have hnb5:b ∉ blk A:=fun hm=>by
  have:=NoT.own (ts:=[196]) HH.out.s.own (by decide) b hm _ _ _ HH.out.s.box;simp at this
 have hb3:=((HV5.out.1.box.fr hX12 (by simp)).fr hf3 hnb5);rw[HV.out.2.1] at hb3;have hr3:=(HV5.out.2.1.fr hX12 (by simp)).fr hf3 HRM.out.2.1;have hC:Y3.cell? ⟨b,1,none⟩=some (.slice A n c)/\Y3.cell? ⟨R,0,none⟩=some (.int .i64 x.a.k.rnd)/\Y3.cell? ⟨R,1,none⟩=some (.int .i64 x.a.k.phase)/\Y3.cell? ⟨R,2,none⟩=some (.int .i64 x.a.k.idx)/\Y3.cell? ⟨R,3,none⟩=some (.string x.sl)/\Y3.cell? ⟨R,4,none⟩=some (.slice x.A nr x.c)/\Y3.cell? ⟨R,5,none⟩=some (.slice x.B nw x.d):=⟨hb3.c 1,hr3.c 0,hr3.c 1,hr3.c 2,hr3.c 3,hr3.c 4,hr3.c 5⟩;refine hK _ _ hC ?_;clear hK K
 try simp only[Act.put,qA,qB,qC,qD,qE,qF]
 show headJ 9 _ _ _ _ _ _ _ _ _ _ _
 iterate 2
  refine hdJ (v:=?_) rfl (Or.inl ⟨by rfl,?_⟩) ?_
  rotate_left
  ·intro W hW;obtain⟨x1,y0,y1,y2,y3,y4,y5⟩:=HSS.out W hW;go_simp;try with_reducible rfl
  try simp only[Act.put,qA,qB,qC,qD,qE,qF]
 refine headI_done ⟨by kernel_rfl,?_⟩;simp only[qG,qH];have e0:=hb3.k1;have e1:=hb3.f 1;have HY3:=Hd (An hX12 (An f2 (An ho3 (An hf3 (An hA3 (An hb3 (An hr3 (An hyk hX1))))))));clear hX12 f2 ho3 hf3 hA3 hb3 hr3 hyk n2 hX1 hO2 hC HCELL HCP HSS hnb5
 go_upto_region 17 with fail
 obtain⟨Y4,hY4⟩:=nmd (Y3.setCell ⟨b,1,none⟩ (.slice A' (n+1) c'));have hb4:=HY3.out.2.2.2.2.2.1.setAt 1 (.slice A' (n+1) c');have f4:Fr [b] Y3 Y4:=by rw[<-hY4];exact (Fq [b] Y3).set (.inl (by simp)) _
 rw[hY4] at hb4
 try rw[hY4]
 obtain⟨zs,hzs⟩:∃ zs,zs=ys++[AX.mk x.a ys2 yA yc yB yd]:=⟨_,rfl⟩;have hzl:zs.length=n+1:=by rw[hzs,lla,HV.out.2.1];rfl
 have hzf:zs.flatMap AX.cs=ys.flatMap AX.cs++(AX.mk x.a ys2 yA yc yB yd).cs:=by rw[hzs,List.flatMap_append];simp
 have fA:Fr (blk A) X5 Y3:=((HY3.out.1.mono (by simp)).then HY3.out.2.2.2.1);have hv4:=HV5.out.1.putA (A':=A') (c':=c') (ys':=zs) fA (by rw[hzl,hzf];exact HY3.out.2.2.1) (fun k hk=>(HY3.out.2.2.2.2.1 k hk).imp id (fun h=>Nat.le_trans HY3.out.1.size h)) f4 (by rw[hzl];exact hb4);have hr4:BoxN Y4 R 91 #[.int .i64 x.a.k.rnd,.int .i64 x.a.k.phase,.int .i64 x.a.k.idx,.string x.sl,.slice x.A nr x.c,.slice x.B nw x.d]:=HY3.out.2.2.2.2.2.2.1.fr f4 (by simpa using HRM.out.1);have fB:Fr (b::blk A) X5 Y4:=(fA.mono (fun k hk=>.inl (by simp[hk]))).trans f4 (by simp);have hfw4:Fr (VB b mw mr A KA ew er) w Y4:=HV5.out.2.2.1.trans fB (fun k hk=>.inl (by rcases List.mem_cons.1 hk with h | h <;> simp[VB,h]))
 have hy4:(AX.mk x.a ys2 yA yc yB yd).ok Y4:=by
  have h5:VS Y1 b pb p2 mw mr A c K2 kk2 kc2 ks2 ys ew er:=HV5.out.1.fr0 HY3.out.2.2.2.2.2.2.2.2;have fX:Fr (b::blk A) Y1 Y4:=((HY3.out.2.1.mono (by simp)).trans (HY3.out.2.2.2.1.mono (T:=b::blk A) (fun k hk=>.inl (by simp[hk]))) (fun k hk=>.inl hk)).trans f4 (by simp);exact HY3.out.2.2.2.2.2.2.2.1.frT fX (h5.noS.mem (by intro k hk;rcases List.mem_cons.1 hk with h | h <;> simp[VB,h]))
 have hst4:SG Y4 p2 ns2:=HV5.out.2.2.2.frT fB (HV5.out.1.noS.mem (by intro k hk;rcases List.mem_cons.1 hk with h | h <;> simp[VB,h]));have hzA:∀ k∈blk A',k∈blk A \/ w.heap.size<=k:=fun k hk=>(HY3.out.2.2.2.2.1 k hk).imp id (fun h=>by have h1:=HV5.out.2.2.1.size;have h2:=HY3.out.1.size;omega);have HV4:=Hd (An hv4 (An hr4 (An hfw4 (An hy4 (An hzs (An hzl (An hst4 hzA)))))));clear e0 e1 hY4 hb4 f4 hzf fA hv4 hr4 fB hfw4 hy4 hzs hzl hst4 hzA;have y5:=HV4.out.2.1.k5
 go_wp2_with fail
 clear y5
 go_loopw [88] (fun i W=>∃ (j:Nat) (e2:List (NE ON VX)),j<=nw/\i=.int .i64 (j:Int)/\VS W b pb p2 mw mr A' c' K2 kk2 kc2 ks2 zs e2 er/\Fr (mw::blsL ew) Y4 W/\(∀ q∈blsL e2,q∈blsL ew \/ Y4.heap.size<=q)/\∀ m,getL e2 m=verL (ys.map AX.a) m++verOf n m (x.a.w.take j)) (fun i _=>nw - (intOf i).toNat)
 case atStart=>exact⟨0,ew,Nat.zero_le _,rfl,HV4.out.1,Fq _ _,fun q hq=>.inl hq,fun m=>by rw[HH.out.wr];simp[verOf]⟩
 case round =>
  obtain⟨j,e2,hj,rfl,hvs,hfr,hbl,hgl⟩:=hrel;have hfw:Fr (VB b mw mr A KA ew er) w wr:=HV4.out.2.2.1.trans hfr (fun k hk=>.inl (by rcases List.mem_cons.1 hk with h | h <;> simp[VB,h]));have hxw:=HX.out.frT hfw HH.out.s.noS;have HJ:=Hd (An hvs (An hfr (An hbl (An hgl hfw))));clear hvs hfr hbl hgl hfw
  by_cases hjl:j<nw
  ·have hlt3:(j:Int)<(nw:Int):=by omega
   have hrow:=hxw.chw;unfold Chs Rd at hrow;rw[HV.out.2.2.2.2.2.2.1] at hrow;obtain⟨bb,off,hB,hbl,hcl⟩:=row_get ch_len hrow (by omega);obtain⟨d,hd⟩:∃ d,x.a.w[j]?=some d:=⟨_,lge (by rw[HV.out.2.2.2.2.2.2.1];exact hjl)⟩;have hdo:=oneB_of (ordB_all (wfB_lists HV.out.2.2.1).2 d (lmg hd));obtain⟨kl,hkl⟩:=keyOf_check hdo.1;have hcx:=hcl j d hd;have HD:=Hd (An hd (An hdo.1 hB));obtain⟨nm,hnm⟩:=nmd (d.n);obtain⟨so,hso,_,_⟩:=str_of d.n.owner;obtain⟨st,hst,_,_⟩:=str_of d.n.text;obtain⟨sv,hsv,_,_⟩:=str_of d.v;obtain⟨k,hk⟩:=nmd (d.n.kind);obtain⟨nu,hnu⟩:=nmd (d.n.number);obtain⟨ix,hix⟩:=nmd (d.n.index);obtain⟨ab,hab⟩:=nmd (d.a);have hen:encO d.n=.agg #[.int .i64 k,.string so,.int .i64 nu,.int .i64 ix,.string st]:=by rw[encO_str hso hst,hk,hnu,hix]
   have hvx:(VX.mk n d.v d.a).cs=[.int .i64 (n:Int),.string sv,.bool ab]:=by unfold VX.cs;rw[hsv,hab]
   unfold CH.cs at hcx;rw[hso,hst,hsv,hk,hnu,hix,hab] at hcx;have y0:wr.cell? ⟨bb,off+j*7,none⟩=some (.int .i64 k):=hcx 0 (by omega);have y1:wr.cell? ⟨bb,off+j*7+1,none⟩=some (.string so):=hcx 1 (by omega);have y2:wr.cell? ⟨bb,off+j*7+2,none⟩=some (.int .i64 nu):=hcx 2 (by omega);have y3:wr.cell? ⟨bb,off+j*7+3,none⟩=some (.int .i64 ix):=hcx 3 (by omega);have y4:wr.cell? ⟨bb,off+j*7+4,none⟩=some (.string st):=hcx 4 (by omega);have y5:wr.cell? ⟨bb,off+j*7+5,none⟩=some (.string sv):=hcx 5 (by omega);have y6:wr.cell? ⟨bb,off+j*7+6,none⟩=some (.bool ab):=hcx 6 (by omega);rw[hB];obtain⟨V0,hV0,hz0,n0,f0⟩:=bxz wr #[.int .i64 k,.string so,.int .i64 nu,.int .i64 ix,.string st,.string sv,.bool ab] 95 wr.heap.size;obtain⟨B9,hB9⟩:=nmd (wr.heap.size);rw[hB9] at n0;have hvb:=HJ.out.1.box.fr f0 (by simp);have hm0:WML V0 mw e2:=ML.fr0 HJ.out.1.wm f0;have HB9:=Hd hB9;have HK:=Hd (An hen hvx);have HM0:=Hd hm0;have HF0:=Hd f0;clear hcx hcl hrow hxw hd hdo hB hso hst hsv hk hnu hix hab hnm hen hvx hm0 hB9 hbl
   go_upto_region 20 with fail
   try rw[hV0]
   try rw[HB9.out]
   clear y0 y1 y2 y3 y4 y5 y6 hV0 hz0
   have hln:(getL e2 d.n).length<=200:=by
    rw[HJ.out.2.2.2.1,lla];have h1:=HH.out.wl d.n;rw[HH.out.wr,HV.out.2.1] at h1
    have h2:(verOf n d.n (x.a.w.take j)).length<=j:=by
     unfold verOf;rw[List.length_map];have:=List.length_filter_le (fun c=>decide (CH.n c=d.n)) (x.a.w.take j);rw[List.length_take] at this;omega
    have h3:=HL.out.2;have h4:=HV.out.2.2.2.2.2.2.1;omega
   have hz9:=HJ.out.1.lt;have hbz:∀ q∈VB b mw mr A' K2 e2 er,q≠B9:=fun q hq he=>by have:=hz9 q hq;have:=HB9.out;omega
   have hbm:b≠mw:=fun he=>by
    obtain⟨es2,clock,h3,_⟩:=HJ.out.1.wm.map;rw[<-he,show wr.heap[b]?=_ from HJ.out.1.box] at h3
    cases h3
   have HBZ:=Hd (An (hbz mw (by simp[VB])) (An hbm (fun q (hq:q∈blsL e2)=>hbz q (by simp[VB,hq]))))
   have hbe2:b ∉ blsL e2:=fun hm=>by
    have:=ML.noT (ts:=[196]) HJ.out.1.wm (by decide) b hm _ _ _ HJ.out.1.box;simp at this
   have HBE2:=Hd hbe2
   have hCell:∀ W,Fr (mw::blsL e2) V0 W->W.cell? ⟨b,4,none⟩=some (.map (some mw))/\W.cell? ⟨B9,0,none⟩=some (.int .i64 k)/\W.cell? ⟨B9,1,none⟩=some (.string so)/\W.cell? ⟨B9,2,none⟩=some (.int .i64 nu)/\W.cell? ⟨B9,3,none⟩=some (.int .i64 ix)/\W.cell? ⟨B9,4,none⟩=some (.string st)/\W.cell? ⟨B9,5,none⟩=some (.string sv)/\W.cell? ⟨B9,6,none⟩=some (.bool ab):=fun W hW=>by
    have h1:=hvb.fr hW (by simp only[List.mem_cons,not_or];exact⟨HBZ.out.2.1,HBE2.out⟩);have h2:=n0.fr hW (by simp only[List.mem_cons,not_or];exact⟨Ne.symm HBZ.out.1,fun hm=>HBZ.out.2.2 _ hm rfl⟩);exact⟨h1.c 4,h2.c 0,h2.c 1,h2.c 2,h2.c 3,h2.c 4,h2.c 5,h2.c 6⟩
   have hC:Fr (mw::blsL e2) V0 V0.drew:=(Fq _ V0).drew;have HSS:=Hd hCell;clear hCell hz9 hbz hbm hbe2 n0 f0 hvb;refine wp_region_head (fun W:World=>Fr (mw::blsL e2) V0 W) 17 (by kernel_rfl) ?_ (by decide)
   show headJ 0 _ _ _ _ _ _ _ _ _ _ _
   iterate 12
    refine hdJ (v:=?_) rfl (Or.inl ⟨by rfl,?_⟩) ?_
    rotate_left
    ·intro W hW;obtain⟨m4,z0,z1,z2,z3,z4,z5,z6⟩:=HSS.out W hW;go_simp;try with_reducible rfl
    try simp only[Act.put,qA,qB,qC,qD,qE,qF]
   refine hO (i:=12) rfl fun K hK=>?_;go_simp
   obtain⟨V1,hV1,n1,f1⟩:=bxd V0 #[.int .i64 (n:Int),.string sv,.bool ab] 201;rw[hV1];refine hK _ _ (f1.mono (by simp)) ?_;clear hK K hC hV1
   try simp only[Act.put,qA,qB,qC,qD,qE,qF]
   refine hO (i:=13) rfl fun K hK=>?_;obtain⟨sm,Ae,ce,V2,hme,f2,hoe,hbe,hstep⟩:=ML.step encO_inj key_name underlying193 zero_vers (ML.fr0 HM0.out f1) d.n hkl;rw[HK.out.1] at hme;go_simp
   have f02:Fr (mw::blsL e2) V0 V2:=(f1.mono (by simp)).trans f2 (by simp);refine hK _ _ f02 ?_;clear hK K hme;have hC:=f02
   try simp only[Act.put,qA,qB,qC,qD,qE,qF]
   show headJ 14 _ _ _ _ _ _ _ _ _ _ _
   refine hdJ (v:=?_) rfl (Or.inl ⟨by rfl,?_⟩) ?_
   rotate_left
   ·intro W hW;obtain⟨m4,z0,z1,z2,z3,z4,z5,z6⟩:=HSS.out W hW;go_simp;try with_reducible rfl
   try simp only[Act.put,qA,qB,qC,qD,qE,qF]
   show headJ 16 _ _ _ _ _ _ _ _ _ _ _
   refine hdJ (v:=?_) rfl (Or.inl ⟨by rfl,?_⟩) ?_
   rotate_left
   ·intro W hW;obtain⟨m4,z0,z1,z2,z3,z4,z5,z6⟩:=HSS.out W hW;go_simp;try with_reducible rfl
   try simp only[Act.put,qA,qB,qC,qD,qE,qF]
   refine hO (i:=15) rfl fun K hK=>?_;obtain⟨jj,hjj,jz0,jz1,jz2⟩:=info_ver;have n2:=n1.fr f2 (by have:=HM0.out.map.lt;simp;omega);have hone:∀ u∈[Value.int .i64 (n:Int),.string sv,.bool ab],u.oneCell'=true:=by rw[<-HK.out.2];exact vx_one _
   refine wp_app (.tmp 98) (.tmp 105) 280 rfl 201 jj _ 3 32 underlying280 hjj jz0 jz1 jz2 rfl (by decide) Ae _ ce _ rfl hoe ⟨V0.heap.size,0,none⟩ 1 1 [.int .i64 (n:Int),.string sv,.bool ab] rfl rfl (fun j u hu=>by rw[add_mid',n2.c j];simpa using hu) hone (by unfold maxLen;omega) (by omega) ?_;intro AA cc V3 ho3 hf3 hA3;have f03:Fr (mw::blsL e2) V0 V3:=f02.trans hf3 (fun q hq=>.inl (by simp[hbe q hq]));refine hK _ _ f03 ?_;clear hK K hC
   try simp only[Act.put,qA,qB,qC,qD,qE,qF]
   refine headI_done ⟨by kernel_rfl,?_⟩;simp only[qG,qH];rw[<-HK.out.2] at ho3;obtain⟨V4,e3,hes,f4,hm4,hgl4,hbl4⟩:=hstep ⟨n,d.v,d.a⟩ V3 AA cc hf3 ho3 hA3;have f04:Fr (mw::blsL e2) V0 V4:=f03.trans f4 (by simp);have hvs4:=(HJ.out.1.fr0 HF0.out).putW f04 hm4;have hsz:=HF0.out.size
   have hfr4:Fr (mw::blsL ew) Y4 V4:=HJ.out.2.1.trans ((HF0.out.mono (by simp)).then f04) (fun q hq=>by
    rcases List.mem_cons.1 hq with h | h
    ·exact .inl (by simp[h])
    ·exact (HJ.out.2.2.1 q h).imp (fun h=>by simp[h]) id)
   have hz1:=HJ.out.2.1.size;have hz1':=f1.size
   have hbl5:∀ q∈blsL e3,q∈blsL ew \/ Y4.heap.size<=q:=fun q hq=>by
    rcases hbl4 q hq with h | h
    ·exact HJ.out.2.2.1 q h
    ·exact .inr (by omega)
   have hgl5:∀ m,getL e3 m=verL (ys.map AX.a) m++verOf n m (x.a.w.take (j+1)):=fun m=>by
    rw[hgl4,List.take_add_one,HD.out.1]
    show _=_++verOf n m (x.a.w.take j++[d])
    rw[verOf_snoc]
    by_cases hmm:m=d.n
    ·subst hmm
     rw[if_pos rfl,if_pos rfl,HJ.out.2.2.2.1,List.append_assoc]
    ·rw[if_neg hmm,if_neg (fun e=>hmm e.symm),HJ.out.2.2.2.1,List.append_nil]
   have HFIN:=Hd (An hvs4 (An hfr4 (An hbl5 hgl5)));clear hvs4 hfr4 hbl5 hgl5 f04 f03 f02 f4 hm4 hgl4 hbl4 ho3 hf3 hA3 hstep hoe hbe n1 n2 f1 f2 HSS hsz hz1 hz1' hone
   go_wp2_with fail
   go_roundw
   case rel=>exact⟨j+1,e3,by omega,by go_num,HFIN.out.1,HFIN.out.2.1,HFIN.out.2.2.1,HFIN.out.2.2.2⟩
   case measure=>simp[intOf];omega
  ·obtain rfl:j=nw:=by omega
   have hZR:BoxN wr R 91 #[.int .i64 x.a.k.rnd,.int .i64 x.a.k.phase,.int .i64 x.a.k.idx,.string x.sl,.slice x.A nr x.c,.slice x.B j x.d]:=HV4.out.2.1.fr HJ.out.2.1 (by simp only[List.mem_cons,not_or];exact⟨HRM.out.2.2.2.1,HRM.out.2.2.2.2.2.1⟩);have y4:=hZR.k4;clear hZR
   go_wp2_with fail
   clear y4;obtain⟨Z0,hZ0⟩:=nmd (wr);rw[hZ0] at HJ hxw
   try rw[hZ0]
   clear hZ0;have HXW:=Hd hxw;clear hxw
   go_loopw [113] (fun i W=>∃ (i2:Nat) (eR:List (NE ON Nat)),i2<=nr/\i=.int .i64 (i2:Int)/\VS W b pb p2 mw mr A' c' K2 kk2 kc2 ks2 zs e2 eR/\Fr (mr::blsL er) Z0 W/\(∀ q∈blsL eR,q∈blsL er \/ Z0.heap.size<=q)/\∀ m,(getL eR m).length<=10*n+i2) (fun i _=>nr - (intOf i).toNat)
   case atStart=>exact⟨0,er,Nat.zero_le _,rfl,HJ.out.1,Fq _ _,fun q hq=>.inl hq,fun m=>by have:=HH.out.rl m;rw[HV.out.2.1] at this;exact this⟩
   case round =>
    obtain⟨i2,eR,hj2,rfl,hvs,hfr,hbl,hgl⟩:=hrel;have hN0:NoT tyS Z0 (mr::blsL er):=HJ.out.1.noS.mem (by intro k hk;rcases List.mem_cons.1 hk with h | h <;> simp[VB,h]);have hxw:=HXW.out.frT hfr hN0;have HJ2:=Hd (An hvs (An hfr (An hbl hgl)));clear hvs hfr hbl hgl hN0
    by_cases hjl2:i2<nr
    ·have hlt4:(i2:Int)<(nr:Int):=by omega
     have hrow:=hxw.chr;unfold Chs Rd at hrow;rw[HV.out.2.2.2.2.2.1] at hrow;obtain⟨bb,off,hB,hbl,hcl⟩:=row_get ch_len hrow (by omega);obtain⟨d,hd⟩:∃ d,x.a.r[i2]?=some d:=⟨_,lge (by rw[HV.out.2.2.2.2.2.1];exact hjl2)⟩;have hdo:=oneB_of (ordB_all (wfB_lists HV.out.2.2.1).1 d (lmg hd));obtain⟨kl,hkl⟩:=keyOf_check hdo.1;have hcx:=hcl i2 d hd;obtain⟨so,hso,_,_⟩:=str_of d.n.owner;obtain⟨st,hst,_,_⟩:=str_of d.n.text;obtain⟨sv,hsv,_,_⟩:=str_of d.v;obtain⟨k,hk⟩:=nmd (d.n.kind);obtain⟨nu,hnu⟩:=nmd (d.n.number);obtain⟨ix,hix⟩:=nmd (d.n.index);obtain⟨ab,hab⟩:=nmd (d.a);have hen:encO d.n=.agg #[.int .i64 k,.string so,.int .i64 nu,.int .i64 ix,.string st]:=by rw[encO_str hso hst,hk,hnu,hix]
     unfold CH.cs at hcx;rw[hso,hst,hsv,hk,hnu,hix,hab] at hcx;have y0:wr.cell? ⟨bb,off+i2*7,none⟩=some (.int .i64 k):=hcx 0 (by omega);have y1:wr.cell? ⟨bb,off+i2*7+1,none⟩=some (.string so):=hcx 1 (by omega);have y2:wr.cell? ⟨bb,off+i2*7+2,none⟩=some (.int .i64 nu):=hcx 2 (by omega);have y3:wr.cell? ⟨bb,off+i2*7+3,none⟩=some (.int .i64 ix):=hcx 3 (by omega);have y4:wr.cell? ⟨bb,off+i2*7+4,none⟩=some (.string st):=hcx 4 (by omega);have y5:wr.cell? ⟨bb,off+i2*7+5,none⟩=some (.string sv):=hcx 5 (by omega);have y6:wr.cell? ⟨bb,off+i2*7+6,none⟩=some (.bool ab):=hcx 6 (by omega);rw[hB];obtain⟨V0,hV0,hz0,n0,f0⟩:=bxz wr #[.int .i64 k,.string so,.int .i64 nu,.int .i64 ix,.string st,.string sv,.bool ab] 95 wr.heap.size;obtain⟨B9,hB9⟩:=nmd (wr.heap.size);rw[hB9] at n0;have hvb:=HJ2.out.1.box.fr f0 (by simp);have HB9:=Hd hB9;have HK:=Hd hen;have HM0:=Hd (show IML V0 mr eR from ML.fr0 HJ2.out.1.rm f0);have HF0:=Hd f0;clear hcx hcl hrow hxw hd hdo hB hso hst hsv hk hnu hix hab hen hB9 hbl
     go_upto_region 25 with fail
     try rw[hV0]
     try rw[HB9.out]
     clear y0 y1 y2 y3 y4 y5 y6 hV0 hz0;have hln:(getL eR d.n).length<=200:=by have:=HJ2.out.2.2.2 d.n;omega
     have hz9:=HJ2.out.1.lt;have hbz:∀ q∈VB b mw mr A' K2 e2 eR,q≠B9:=fun q hq he=>by have:=hz9 q hq;have:=HB9.out;omega
     have hbm:b≠mr:=fun he=>by
      obtain⟨es2,clock,h3,_⟩:=HJ2.out.1.rm.map;rw[<-he,show wr.heap[b]?=_ from HJ2.out.1.box] at h3
      cases h3
     have HBZ:=Hd (An (hbz mr (by simp[VB])) (An hbm (fun q (hq:q∈blsL eR)=>hbz q (by simp[VB,hq]))))
     have hbe2:b ∉ blsL eR:=fun hm=>by
      have:=ML.noT (ts:=[196]) HJ2.out.1.rm (by decide) b hm _ _ _ HJ2.out.1.box;simp at this
     have HBE2:=Hd hbe2
     have hCell:∀ W,Fr (mr::blsL eR) V0 W->W.cell? ⟨b,5,none⟩=some (.map (some mr))/\W.cell? ⟨B9,0,none⟩=some (.int .i64 k)/\W.cell? ⟨B9,1,none⟩=some (.string so)/\W.cell? ⟨B9,2,none⟩=some (.int .i64 nu)/\W.cell? ⟨B9,3,none⟩=some (.int .i64 ix)/\W.cell? ⟨B9,4,none⟩=some (.string st):=fun W hW=>by
      have h1:=hvb.fr hW (by simp only[List.mem_cons,not_or];exact⟨HBZ.out.2.1,HBE2.out⟩);have h2:=n0.fr hW (by simp only[List.mem_cons,not_or];exact⟨Ne.symm HBZ.out.1,fun hm=>HBZ.out.2.2 _ hm rfl⟩);exact⟨h1.c 5,h2.c 0,h2.c 1,h2.c 2,h2.c 3,h2.c 4⟩
     have hC:Fr (mr::blsL eR) V0 V0.drew:=(Fq _ V0).drew;have HSS:=Hd hCell;clear hCell hz9 hbz hbm hbe2 n0 f0 hvb;refine wp_region_head (fun W:World=>Fr (mr::blsL eR) V0 W) 12 (by kernel_rfl) ?_ (by decide)
     show headJ 0 _ _ _ _ _ _ _ _ _ _ _
     iterate 7
      refine hdJ (v:=?_) rfl (Or.inl ⟨by rfl,?_⟩) ?_
      rotate_left
      ·intro W hW;obtain⟨m4,z0,z1,z2,z3,z4⟩:=HSS.out W hW;go_simp;try with_reducible rfl
      try simp only[Act.put,qA,qB,qC,qD,qE,qF]
     refine hO (i:=7) rfl fun K hK=>?_;go_simp
     obtain⟨V1,hV1,n1,f1⟩:=bxd V0 #[.int .i64 (n:Int)] 3;rw[hV1];refine hK _ _ (f1.mono (by simp)) ?_;clear hK K hC hV1
     try simp only[Act.put,qA,qB,qC,qD,qE,qF]
     refine hO (i:=8) rfl fun K hK=>?_;obtain⟨sm,Ae,ce,V2,hme,f2,hoe,hbe,hstep⟩:=ML.step encO_inj key_name underlying194 zero_ints (ML.fr0 HM0.out f1) d.n hkl;rw[HK.out] at hme;go_simp
     have f02:Fr (mr::blsL eR) V0 V2:=(f1.mono (by simp)).trans f2 (by simp);refine hK _ _ f02 ?_;clear hK K hme;have hC:=f02
     try simp only[Act.put,qA,qB,qC,qD,qE,qF]
     show headJ 9 _ _ _ _ _ _ _ _ _ _ _
     refine hdJ (v:=?_) rfl (Or.inl ⟨by rfl,?_⟩) ?_
     rotate_left
     ·intro W hW;obtain⟨m4,z0,z1,z2,z3,z4⟩:=HSS.out W hW;go_simp;try with_reducible rfl
     try simp only[Act.put,qA,qB,qC,qD,qE,qF]
     show headJ 11 _ _ _ _ _ _ _ _ _ _ _
     refine hdJ (v:=?_) rfl (Or.inl ⟨by rfl,?_⟩) ?_
     rotate_left
     ·intro W hW;obtain⟨m4,z0,z1,z2,z3,z4⟩:=HSS.out W hW;go_simp;try with_reducible rfl
     try simp only[Act.put,qA,qB,qC,qD,qE,qF]
     refine hO (i:=10) rfl fun K hK=>?_;obtain⟨jj,hjj,jz0,jz1,jz2⟩:=info_int;have n2:=n1.fr f2 (by have:=HM0.out.map.lt;simp;omega);refine wp_app (.tmp 123) (.tmp 125) 36 rfl 3 jj _ 1 8 underlying36 hjj jz0 jz1 jz2 rfl (by decide) Ae _ ce _ rfl hoe ⟨V0.heap.size,0,none⟩ 1 1 [.int .i64 (n:Int)] rfl rfl (fun j u hu=>by rw[add_mid',n2.c j];simpa using hu) (by simp[Value.oneCell']) (by unfold maxLen;omega) (by omega) ?_;intro AA cc V3 ho3 hf3 hA3;have f03:Fr (mr::blsL eR) V0 V3:=f02.trans hf3 (fun q hq=>.inl (by simp[hbe q hq]));refine hK _ _ f03 ?_;clear hK K hC
     try simp only[Act.put,qA,qB,qC,qD,qE,qF]
     refine headI_done ⟨by kernel_rfl,?_⟩;simp only[qG,qH];obtain⟨V4,e3,hes,f4,hm4,hgl4,hbl4⟩:=hstep n V3 AA cc hf3 ho3 hA3;have f04:Fr (mr::blsL eR) V0 V4:=f03.trans f4 (by simp);have hvs4:=(HJ2.out.1.fr0 HF0.out).putR f04 hm4;have hsz:=HF0.out.size
     have hfr4:Fr (mr::blsL er) Z0 V4:=HJ2.out.2.1.trans ((HF0.out.mono (by simp)).then f04) (fun q hq=>by
      rcases List.mem_cons.1 hq with h | h
      ·exact .inl (by simp[h])
      ·exact (HJ2.out.2.2.1 q h).imp (fun h=>by simp[h]) id)
     have hz1:=HJ2.out.2.1.size;have hz1':=f1.size
     have hbl5:∀ q∈blsL e3,q∈blsL er \/ Z0.heap.size<=q:=fun q hq=>by
      rcases hbl4 q hq with h | h
      ·exact HJ2.out.2.2.1 q h
      ·exact .inr (by omega)
     have hgl5:∀ m,(getL e3 m).length<=10*n+(i2+1):=fun m=>by
      rw[hgl4];split
      ·rename_i hmm
       rw[lla];have:=HJ2.out.2.2.2 d.n;simp;omega
      ·have:=HJ2.out.2.2.2 m;omega
     have HFIN:=Hd (An hvs4 (An hfr4 (An hbl5 hgl5)));clear hvs4 hfr4 hbl5 hgl5 f04 f03 f02 f4 hm4 hgl4 hbl4 ho3 hf3 hA3 hstep hoe hbe n1 n2 f1 f2 HSS hsz hz1 hz1'
     go_wp2_with fail
     go_roundw
     case rel=>exact⟨i2+1,e3,by omega,by go_num,HFIN.out.1,HFIN.out.2.1,HFIN.out.2.2.1,HFIN.out.2.2.2⟩
     case measure=>simp[intOf];omega
    ·obtain rfl:i2=nr:=by omega
     go_wp2_with fail
     go_ret
     have hNY:NoT tyS Y4 (mw::blsL ew):=HV4.out.1.noS.mem (by intro k hk;rcases List.mem_cons.1 hk with h | h <;> simp[VB,h]);have hNZ:NoT tyS Z0 (mr::blsL er):=HJ.out.1.noS.mem (by intro k hk;rcases List.mem_cons.1 hk with h | h <;> simp[VB,h]);have hfin:Fr (VB b mw mr A KA ew er) w wr:=HJ.out.2.2.2.2.trans HJ2.out.2.1 (fun k hk=>.inl (by rcases List.mem_cons.1 hk with h | h <;> simp[VB,h]));have hz4:=HV4.out.2.2.1.size;have hz0:=HJ.out.2.2.2.2.size;have hzw4:=HW4.out.size;have hzl:=HV4.out.2.2.2.2.2.1;have hzs:=HV4.out.2.2.2.2.1;have hmap:zs.map AX.a=ys.map AX.a++[x.a]:=by rw[hzs,List.map_append];rfl
     have hgw:∀ m,getL e2 m=verL (zs.map AX.a) m:=fun m=>by
      rw[HJ.out.2.2.2.1,hmap];unfold verL;rw[verF_snoc,List.length_map,HV.out.2.1,Nat.zero_add,List.take_of_length_le (by rw[HV.out.2.2.2.2.2.2.1];exact nlr _)]
     refine⟨rfl,VB b mw mr A' K2 e2 eR,⟨x.a,ys2,yA,yc,yB,yd⟩,rfl,⟨pb,p2,mw,mr,A',c',K2,kk2,kc2,ks2,e2,eR,ns2,?_,rfl⟩,hfin,fun k hk=>?_⟩
     ·rw[<-hzs]
      refine⟨HJ2.out.1,by rw[hzl];exact HVS2.out.2.1,fun y hy=>?_,HH.out.base.frT hfin HH.out.s.noS,(HV4.out.2.2.2.2.2.2.1.frT HJ.out.2.1 hNY).frT HJ2.out.2.1 hNZ,?_,hgw,fun m=>?_,fun m=>?_,?_⟩
      ·rw[hzs] at hy
       rcases List.mem_append.1 hy with hy | hy
       ·exact (HH.out.xok y hy).frT hfin HH.out.s.noS
       ·rw[lms] at hy
        rw[hy];exact (HV4.out.2.2.2.1.frT HJ.out.2.1 hNY).frT HJ2.out.2.1 hNZ
      ·have h1:=HST4.out.2.1
       have h2:=HH.out.nl;rw[HV.out.2.1] at h2;rw[hzl];omega
      ·rw[HJ.out.2.2.2.1,lla,hzl]
       have h1:=HH.out.wl m;rw[HH.out.wr,HV.out.2.1] at h1
       have h2:(verOf n m (x.a.w.take j)).length<=j:=by
        unfold verOf;rw[List.length_map];have:=List.length_filter_le (fun c=>decide (CH.n c=m)) (x.a.w.take j);rw[List.length_take] at this;omega
       omega
      ·have h1:=HJ2.out.2.2.2 m
       rw[hzl];omega
      ·rw[hzs]
       exact HH.out.run.snoc HV.out.2.2.2.1 ⟨HV.out.2.2.1,HV.out.2.2.2.2.1,HL.out.1,HL.out.2⟩ (by rw[HV.out.2.1];exact hn12)
     ·simp only[VB,List.mem_cons,List.mem_append] at hk ⊢
      rcases hk with h | h | h | h | h | h | h
      ·exact .inl (by simp[h])
      ·exact .inl (by simp[h])
      ·exact .inl (by simp[h])
      ·exact (HV4.out.2.2.2.2.2.2.2 k h).imp (fun h=>by simp[h]) id
      ·exact (HVS2.out.2.2.2 k h).imp (fun h=>by simp[h]) (fun h=>by omega)
      ·exact (HJ.out.2.2.1 k h).imp (fun h=>by simp[h]) (fun h=>by omega)
      ·exact (HJ2.out.2.2.1 k h).imp (fun h=>by simp[h]) (fun h=>by omega)
end Go.Proofs.YtlpmiimgacfmkaaGreatDoor
