/- history: Append of any action. -/
import Derived.Test.YtlpmiimgacfmkaaGreatDoorMHi1
set_option linter.all false
namespace Go.Proofs.YtlpmiimgacfmkaaGreatDoor
open Go.Proofs.Tryz
open Go.RowKit
set_option maxRecDepth 100000
set_option maxHeartbeats 4000000
theorem checkK_valid {k:KY} (hck:checkK k=0):validB k.lin=true/\k.lin.length<=72:=by
 have h1:k.lin=[] \/ validB k.lin=true:=by
  unfold checkK at hck;split at hck
  ·simp at hck
  split at hck
  ·simp at hck
  split at hck
  ·simp at hck
  split at hck
  ·split at hck
   ·simp at hck
   ·rename_i h;simp at h;exact .inl h
  ·split at hck
   ·simp at hck
   ·rename_i h;simp at h;exact .inr h.2
 have h2:validB k.lin=true:=by
  rcases h1 with h1 | h1
  ·rw[h1];decide
  ·exact h1
 exact⟨h2,valid_len h2⟩
theorem wfB_key {a:AG} (h:wfB a=true):checkK a.k=0:=by
 unfold wfB at h;simp only[Bool.and_eq_true,decide_eq_true_eq] at h;exact h.1
theorem wfB_lists {a:AG} (h:wfB a=true):ordB none a.r=true/\ordB none a.w=true:=by
 unfold wfB at h;simp only[Bool.and_eq_true] at h;exact h.2
theorem encAG_len {a:AG} (h:wfB a=true) (hf:a.fit) (hr:a.r.length<=10) (hw:a.w.length<=10):(encAG a).length<=2000000:=by
 obtain⟨h1,h2⟩:=wfB_lists h;have l1:=encL_len h1 hf.rl;have l2:=encL_len h2 hf.wl;obtain⟨hv,hl⟩:=checkK_valid (wfB_key h);have hck:=wfB_key h
 have hKC:(0<=a.k.rnd/\a.k.rnd<=9223372036854775807)/\(0<=a.k.phase/\a.k.phase<=9223372036854775807)/\(0<=a.k.idx/\a.k.idx<=9223372036854775807):=by
  unfold checkK at hck;split at hck
  ·simp at hck
  split at hck
  ·simp at hck
  split at hck
  ·simp at hck
  omega
 unfold encAG encKey;have h1:=encU_len9 (u:=a.k.rnd.toNat) (by omega);have h2:=encU_len9 (u:=a.k.phase.toNat) (by omega);have h3:=encU_len9 (u:=a.k.idx.toNat) (by omega);have h4:=encT_len (s:=a.k.lin) (by omega);simp only[lla];omega
theorem Run.snoc {xs:List AX} {y:AX} (h:Run xs) (hk:okA xs y.a=true) (hy:wfB y.a=true/\y.a.fit/\y.a.r.length<=10/\y.a.w.length<=10) (hl:xs.length<=11):Run (xs++[y]):=by
 refine⟨fun x hx=>?_,fun i x z hx hz=>?_,by rw[lla];simp;omega⟩
 ·rcases List.mem_append.1 hx with hx | hx
  ·exact h.wf x hx
  ·rw[lms] at hx;rw[hx];exact hy
 ·by_cases hi:i+1<xs.length
  ·rw[List.getElem?_append_left (by omega)] at hx hz
   exact h.inc i x z hx hz
  ·have hi2:i+1=xs.length:=by
    have:=(lgs.1 hz).1;rw[lla] at this;simp at this;omega
   rw[List.getElem?_append_left (by omega)] at hx;rw[List.getElem?_append_right (by omega),hi2,Nat.sub_self,List.getElem?_cons_zero] at hz
   injection hz with hz
   subst hz;unfold okA at hk;rw[List.getLast?_eq_getElem?,show xs.length - 1=i by omega,hx] at hk;simp only[Bool.and_eq_true,decide_eq_true_eq] at hk;exact hk.2
def HAPost (xs:List AX) (a:AG) (M:List Nat) (b:Nat) (w:World) (e:Ending) (w':World):Prop :=
 ∃ q:Int,e=.returned (.int .i64 q)/\((okA xs a=false/\q≠0/\Fr [] w w') \/ (okA xs a=true/\q=0/\∃ M' y,y.a=a/\HG w' b (xs++[y]) M'/\Fr M w w'/\∀ k∈M',k∈M \/ w.heap.size<=k))
theorem HAppend_g (b:Nat) (xs:List AX) (M:List Nat) (a:AG) (sl:ByteArray) (RA RB:Option Addr) (rc rd:Nat) (w:World) (h:HG w b xs M) (hok:Ok w) (hlo:∀ k∈M,6<=k) (hsl:encN a.k.lin=.string sl) (hf:a.fit) (hr:a.r.length<=10) (hw:a.w.length<=10) (hlen:xs.length<=11)
 (hx:Kept M w fun W=>Chs W RA a.r/\Chs W RB a.w):Calls prog 34 #[.pointer (some ⟨b,0,none⟩),a.val sl RA rc RB rd] w (HAPost xs a M b w):=by
 obtain⟨pb,pl,bt,A,c,F,ns,ds,kvs,h,rfl⟩:=h;obtain⟨ti,hti⟩:=nmd (a.k.rnd);obtain⟨ph,hph⟩:=nmd (a.k.phase);obtain⟨ix,hix⟩:=nmd (a.k.idx);obtain⟨nr,hnr⟩:=nmd (a.r.length);obtain⟨nw,hnw⟩:=nmd (a.w.length);obtain⟨n,hn⟩:=nmd (xs.length);have hval:a.val sl RA rc RB rd=.agg #[.int .i64 ti,.int .i64 ph,.int .i64 ix,.string sl,.slice RA nr rc,.slice RB nw rd]:=by unfold AG.val;rw[hti,hph,hix,hnr,hnw]
 rw[hval];have HEQ:=Hd (An hti (An hph hix));obtain⟨w1,hw1,hz1,n1,hf1⟩:=bxz w #[.int .i64 ti,.int .i64 ph,.int .i64 ix,.string sl,.slice RA nr rc,.slice RB nw rd] 91 w.heap.size
 have hCell:∀ W,Fr [] w1 W->(W.cell? ⟨b,0,none⟩=some (.pointer (some ⟨pb,0,none⟩))/\W.cell? ⟨b,1,none⟩=some (.slice A n c)/\W.cell? ⟨b,3,none⟩=some (.pointer (some ⟨pl,0,none⟩))/\W.cell? ⟨b,4,none⟩=some (.pointer (some ⟨bt,0,none⟩))) /\
  W.cell? ⟨w.heap.size,0,none⟩=some (.int .i64 ti)/\W.cell? ⟨w.heap.size,1,none⟩=some (.int .i64 ph)/\W.cell? ⟨w.heap.size,2,none⟩=some (.int .i64 ix)/\W.cell? ⟨w.heap.size,3,none⟩=some (.string sl)/\W.cell? ⟨w.heap.size,4,none⟩=some (.slice RA nr rc)/\W.cell? ⟨w.heap.size,5,none⟩=some (.slice RB nw rd):=fun W hW=>by
  have h1:=h.box.fr (hf1.then hW) (by simp);rw[hn] at h1;have h2:=n1.fr hW (by simp);exact⟨⟨h1.c 0,h1.c 1,h1.c 3,h1.c 4⟩,h2.c 0,h2.c 1,h2.c 2,h2.c 3,h2.c 4,h2.c 5⟩
 have hNn:∀ W,Fr [] w1 W->Calls prog 59 #[.pointer (some ⟨b,0,none⟩)] W fun e w'=>e=.returned (.bool false)/\W=w':=fun W hW=>none_any b pb W (hCell W hW).1.1;have HN:=Hd hNn;have HW1:=Hd hw1;have HF1:=Hd hf1;have HSS:=Hd hCell;have HR1:=Hd n1;have hbig:decide ((65536:Int)<=(n:Int))=false:=by simp;omega
 cases hwf:wfB a with
 | false =>
  have hEnc:∀ W,Fr [] w1 W->Calls prog 60 #[a.val sl RA rc RB rd] W (RetPost W (.tuple #[.string ⟨#[]⟩,.int .i64 3])):=fun W hW=>EncodeAG_bad a sl RA RB rc rd W (hok.fr0 (hf1.then hW)) hsl (hx.fr0 (hf1.then hW)).now.1 (hx.fr0 (hf1.then hW)).now.2 hf hwf;rw[hval] at hEnc;have HE:=Hd hEnc;have hoA:okA xs a=false:=by unfold okA;rw[hwf];rfl
  have HOA:=Hd hoA;clear hx h hCell hEnc hw1 hf1 n1 hoA hval hok hlo hNn hwf hz1 hsl hf hti hph hix hnr hnw hn
  go_enter func34,ntmps34
  go_upto_region 1 with fail
  rw[HW1.out];obtain⟨⟨x0,x1,x3,x4⟩,y0,y1,y2,y3,y4,y5⟩:=HSS.out w1 (Fq [] w1)
  go_wp2_with (first
   | (go_at_call 59;(with_reducible refine (HN.out _ (Fq [] w1)).mono ?_);rintro e w' ⟨rfl,rfl⟩)
   | (go_at_call 60;(with_reducible refine (HE.out _ (Fq [] w1)).mono ?_);rintro e w2 ⟨rfl,hf2⟩;have HF2:=Hd hf2;clear hf2))
  go_ret
  exact⟨3,rfl,.inl ⟨HOA.out,by decide,HF1.out.then HF2.out⟩⟩
 | true =>
  have hEnc:∀ W,Fr [] w1 W->Calls prog 60 #[a.val sl RA rc RB rd] W (RetPost W (.tuple #[encN (encAG a),.int .i64 0])):=fun W hW=>EncodeAG_ok a sl RA RB rc rd W (hok.fr0 (hf1.then hW)) hsl (hx.fr0 (hf1.then hW)).now.1 (hx.fr0 (hf1.then hW)).now.2 hf hwf;have hel:=encAG_len hwf hf hr hw;have hlists:=wfB_lists hwf;have hG:∀ x∈a.w,x.fit/\oneB x=true:=fun x hx=>⟨hf.w x hx,ordB_all hlists.2 x hx⟩;have hnl:=h.nl;have hApp:∀ W,Fr [] w1 W->Calls prog 92 #[a.val sl RA rc RB rd,.pointer (some ⟨pl,0,none⟩)] W (SPost W (ns.length+a.w.length)):=fun W hW=>ApplyA_g a sl RA RB rc rd _ pl W fun W2 hW2=>Apply_s pl ns a.w RB rd W2 (hok.fr0 ((hf1.then hW).then hW2)) (h.st.fr0 ((hf1.then hW).then hW2)) (hx.fr0 ((hf1.then hW).then hW2)).now.2 hG (by omega);have hLf:∀ W,Fr [] w1 W->Calls prog 93 #[encN (encAG a)] W (SumPost W (leafN (1::encAG a))):=fun W hW=>leafH_any (encAG a) W (hok.fr0 (hf1.then hW)) (by omega);have hdl:ds.length=n+1:=by rw[h.ds,List.length_cons,List.length_map,hn]
  have hTree:∀ W,Fr [] w1 W->Calls prog 89 #[.pointer (some ⟨bt,0,none⟩),encD (leafN (1::encAG a))] W (AppPost bt (ds++[leafN (1::encAG a)]) F W):=fun W hW=>Append_g bt ds (leafN (1::encAG a)) kvs F W (h.tree.fr (hf1.then hW) (by simp)) h.parts h.keys (hok.fr0 (hf1.then hW)) (fun k hk=>hlo k (by simp[hk])) (shaN_len _) (by omega) (by omega);rw[hval] at hEnc hApp;obtain⟨d,hd⟩:=nmd (leafN (1::encAG a));obtain⟨tx,htx⟩:=nmd (encN (encAG a));have HD:=Hd hd;rw[htx] at hEnc hLf;rw[hd] at hLf hTree;have hks:xs.getLast?=xs[n - 1]?:=by rw[List.getLast?_eq_getElem?,hn]
  have HE:=Hd hEnc;have HA:=Hd hApp;have HL:=Hd hLf;have HT:=Hd hTree;have HX:=Hd hx;have HH:=Hd h;have HOK:=Hd hok;have HLO:=Hd hlo;have HV:=Hd (An hval (An hn (An hwf (An hsl (An hf (An hr (An hw hks)))))));have hn12:n<=11:=by omega
  clear hx h hCell hEnc hApp hLf hTree hw1 hf1 n1 hval hok hlo hNn hwf hz1 hsl hf hti hph hix hnr hnw hn hd htx hel hlists hG hnl hdl hks hr hw hlen
  go_enter func34,ntmps34
  go_upto_region 1 with fail
  rw[HW1.out];obtain⟨⟨x0,x1,x3,x4⟩,y0,y1,y2,y3,y4,y5⟩:=HSS.out w1 (Fq [] w1)
  go_upto_region 9 with (first
   | (go_at_call 59;(with_reducible refine (HN.out _ (Fq [] w1)).mono ?_);rintro e w' ⟨rfl,rfl⟩)
   | (go_at_call 60;(with_reducible refine (HE.out _ (Fq [] w1)).mono ?_);rintro e w2 ⟨rfl,hf2⟩;clear x0 x1 x3 x4 y0 y1 y2 y3 y4 y5;obtain⟨⟨x0,x1,x3,x4⟩,y0,y1,y2,y3,y4,y5⟩:=HSS.out w2 hf2))
  clear x0 x1 x3 x4 y0 y1 y2 y3 y4 y5;have hcutT:∃ T,T=(decide (0<n) && !(okA xs a)):=⟨_,rfl⟩;obtain⟨T,hT⟩:=hcutT
  go_cut [47] from 31 to 48 (fun s W=>s=.bool T/\Fr [] w1 W)
  case first =>
   cases n with
   | zero =>
    refine wp_region_qall (fun W=>Fr [] w1 W) (by kernel_rfl) (by kernel_rfl) (hf2.drew) ?_
    repeat (
     first
     | go_big_quiet_skip
     | (go_big_quiet_want
        first
        | (go_big_quiet_op
           go_big_quiet_on)
        | (apply Exists.intro
           refine⟨fun W hW=>?_,?_⟩
           ·(obtain⟨⟨x0,x1,x3,x4⟩,y0,y1,y2,y3,y4,y5⟩:=HSS.out W hW
             go_simp
             first
             | done
             | (with_reducible exact rfl)
             | (with_reducible exact⟨rfl,rfl⟩)
             | (fail))
           simp only[Act.put,qA,qB,qC]
           go_big_quiet_on))
     )
    refine wpQuiet_nil ?_;intro W3 hW3
    go_wp2_with fail
    go_meet
    exact⟨by rw[hT];rfl,hW3⟩
   | succ m =>
    have hrow:=(HH.out.own.rd:Rd w 6 A xs.length (xs.flatMap AX.cs));rw[HV.out.2.1] at hrow;obtain⟨g,off,rfl,hgl,hcl⟩:=row_get ax_len hrow (by omega);obtain⟨y,hy⟩:∃ y,xs[m]?=some y:=⟨_,lge (by rw[HV.out.2.1];omega)⟩;have hcy:=hcl m y hy;unfold AX.cs at hcy;have hgc:∀ o,(W:World)->Fr [] w1 W->W.cell? ⟨g,o,none⟩=w.cell? ⟨g,o,none⟩:=fun o W hW=>(HF1.out.then hW).cell (p:=⟨g,o,none⟩) hgl (by simp);have hyw:=HH.out.run.wf y (lmg hy);have hyk:=HH.out.xok y (lmg hy);obtain⟨r,hr⟩:=nmd (cmpK a.k y.a.k)
    have hTr:T=decide (r<=0):=by
     rw[hT];unfold okA;rw[HV.out.2.2.1,HV.out.2.2.2.2.2.2.2,Nat.add_sub_cancel,hy];simp only[Bool.true_and,hr]
     by_cases h0:r<=0
     ·have:¬ 0<r:=by omega
      simp[h0,this]
     ·have:0<r:=by omega
      simp[h0,this]
    have hCK:∀ W,Calls prog 91 #[.agg #[.int .i64 ti,.int .i64 ph,.int .i64 ix,.string sl],.agg #[.int .i64 y.a.k.rnd,.int .i64 y.a.k.phase,.int .i64 y.a.k.idx,.string y.sl]] W (CmpOPost W r):=fun W=>by
     obtain⟨v1,v2⟩:=checkK_valid (wfB_key HV.out.2.2.1);obtain⟨v3,v4⟩:=checkK_valid (wfB_key hyw.1);have h:=CompareK_any a.k y.a.k W v1 v3 (by omega) (by omega);rw[hr] at h;unfold encK at h;rw[HEQ.out.1,HEQ.out.2.1,HEQ.out.2.2,HV.out.2.2.2.1,hyk.s] at h;exact h
    have HCK:=Hd hCK;have HSK:=HSS;clear HSS
    have HSS:=Hd (fun (W:World) (hW:Fr [] w1 W)=>An (HSK.out W hW) (show W.cell? ⟨g,off+m*6,none⟩=some (.int .i64 y.a.k.rnd)/\W.cell? ⟨g,off+m*6+1,none⟩=some (.int .i64 y.a.k.phase)/\W.cell? ⟨g,off+m*6+2,none⟩=some (.int .i64 y.a.k.idx)/\W.cell? ⟨g,off+m*6+3,none⟩=some (.string y.sl) from
     ⟨(hgc _ W hW).trans (hcy 0 (by omega)),(hgc _ W hW).trans (hcy 1 (by omega)),(hgc _ W hW).trans (hcy 2 (by omega)),(hgc _ W hW).trans (hcy 3 (by omega))⟩))
    have hwr:IntKind.i64.wrap (m:Int)=(m:Int):=by simp only[IntKind.wrap_i64];omega
    have hmm:(m:Int)<(m:Int)+1:=by omega
    clear hcy hcl hrow hgc hyw hyk hr hCK hT;refine wp_region_qall (fun W=>Fr [] w1 W) (by kernel_rfl) (by kernel_rfl) (hf2.drew) ?_
    repeat (
     first
     | go_big_quiet_skip
     | (go_big_quiet_want
        first
        | (go_big_quiet_op
           go_big_quiet_on)
        | (apply Exists.intro
           refine⟨fun W hW=>?_,?_⟩
           ·(obtain⟨⟨⟨x0,x1,x3,x4⟩,y0,y1,y2,y3,y4,y5⟩,z0,z1,z2,z3⟩:=HSS.out W hW
             go_simp
             first
             | done
             | (with_reducible exact rfl)
             | (with_reducible exact⟨rfl,rfl⟩)
             | ((go_at_call 91;(with_reducible refine (HCK.out W).mono ?_);rintro e w' ⟨rfl,h⟩;exact⟨rfl,hW.then h⟩)))
           simp only[Act.put,qA,qB,qC]
           go_big_quiet_on))
     )
    refine wpQuiet_nil ?_;intro W3 hW3
    go_wp2_with fail
    go_meet
    exact⟨by rw[hTr],hW3⟩
  case rest =>
   obtain⟨rfl,hW3⟩:=hcut
   cases T with
   | true =>
    have hoA:okA xs a=false:=by
     cases hq:okA xs a with
     | false=>rfl
     | true=>rw[hq] at hT;simp at hT
    have HOA:=Hd (An hoA hW3);clear hW3 hT hoA
    go_wp2_with fail
    go_ret
    exact⟨32,rfl,.inl ⟨HOA.out.1,by decide,HF1.out.then HOA.out.2⟩⟩
   | false =>
    have hoA:okA xs a=true:=by
     cases hq:okA xs a with
     | true=>rfl
     | false =>
      rw[hq] at hT;have h0:n=0:=by simpa using hT
      have h1:=HV.out.2.1;rw[h0] at h1;have h2:xs=[]:=List.eq_nil_of_length_eq_zero h1;unfold okA at hq;rw[HV.out.2.2.1,h2] at hq;simp at hq
    have HOA:=Hd hoA;clear hT hoA
    go_upto_region 11 with fail
    have hC:Fr [] w1 wc.drew:=hW3.drew;refine wp_region_head (fun W:World=>Fr [] w1 W) 10 (by kernel_rfl) ?_ (by decide)
    show headJ 0 _ _ _ _ _ _ _ _ _ _ _
    iterate 5
     refine hdJ (v:=?_) rfl (Or.inl ⟨by rfl,?_⟩) ?_
     rotate_left
     ·intro W hW;obtain⟨⟨x0,x1,x3,x4⟩,y0,y1,y2,y3,y4,y5⟩:=HSS.out W hW;go_simp;try with_reducible rfl
     try simp only[Act.put,qA,qB,qC,qD,qE,qF]
    refine hO (i:=5) rfl fun K hK=>?_;go_simp
    go_at_call 92
    (with_reducible refine (HA.out _ hC).mono ?_);rintro e w4 ⟨p2,ns2,rfl,hst4,hnl4,hf4⟩;have hC4:=hC.then hf4;have hz4:wc.heap.size<=w4.heap.size:=hf4.size;have hz3:=hW3.size;refine hK _ _ hC4 ?_;clear hK K hC hf4
    try simp only[Act.put,qA,qB,qC,qD,qE,qF]
    show headJ 6 _ _ _ _ _ _ _ _ _ _ _
    iterate 4
     refine hdJ (v:=?_) rfl (Or.inl ⟨by rfl,?_⟩) ?_
     rotate_left
     ·intro W hW;obtain⟨⟨x0,x1,x3,x4⟩,y0,y1,y2,y3,y4,y5⟩:=HSS.out W hW;go_simp;try with_reducible rfl
     try simp only[Act.put,qA,qB,qC,qD,qE,qF]
    refine headI_done ⟨by kernel_rfl,?_⟩;simp only[qG,qH];have HST4:=Hd (An hst4 hnl4);clear hst4 hnl4
    go_upto_region 14 with fail
    have hC:Fr [] w1 w4.drew:=hC4.drew;refine wp_region_head (fun W:World=>Fr [] w1 W) 6 (by kernel_rfl) ?_ (by decide)
    show headJ 0 _ _ _ _ _ _ _ _ _ _ _
    iterate 5
     refine hdJ (v:=?_) rfl (Or.inl ⟨by rfl,?_⟩) ?_
     rotate_left
     ·intro W hW;obtain⟨⟨x0,x1,x3,x4⟩,y0,y1,y2,y3,y4,y5⟩:=HSS.out W hW;go_simp;try with_reducible rfl
     try simp only[Act.put,qA,qB,qC,qD,qE,qF]
    refine hO (i:=5) rfl fun K hK=>?_;go_simp
    go_at_call 93
    (with_reducible refine (HL.out _ hC).mono ?_);rintro e w6 ⟨rfl,hf6⟩;have hz6:w4.heap.size<=w6.heap.size:=hf6.size;have hC6:=hC.then hf6;have hC46:Fr [] w4 w6:=hf6.undrew;refine hK _ _ hC6 ?_;clear hK K hC hf6
    try simp only[Act.put,qA,qB,qC,qD,qE,qF]
    refine headI_done ⟨by kernel_rfl,?_⟩;simp only[qG,qH]
    go_upto_region 17 with ((go_at_call 89;(with_reducible refine (HT.out _ hC6).mono ?_);rintro e w5 ⟨rfl,kvs',F',htm,hpp,hkk,hf5,hF5⟩;have HTM:=Hd (An htm (An hF5 (An hpp hkk)));have HF5:=Hd hf5;clear htm hF5 hf5 hpp hkk))
    have hFlt:=HH.out.tree.lt;have hAlt:=HH.out.own.lt;have hbw:=HH.out.box.lt;have hRF:w.heap.size ∉ F:=fun hm=>by have:=hFlt _ hm;omega
    have hRA:w.heap.size ∉ blk A:=fun hm=>by have:=hAlt _ hm;omega
    have hf06:=HF1.out.then hC6;have hB5:=(HH.out.box.fr hf06 (by simp)).fr HF5.out HH.out.nF;have hO5:=(HH.out.own.fr hf06 (by simp)).fr HF5.out HH.out.dj;rw[HV.out.2.1] at hB5 hO5;have hR5:=(HR1.out.fr hC6 (by simp)).fr HF5.out hRF;have hF05:Fr (b::(blk A++F)) w w5:=(hf06.mono (by simp)).trans HF5.out (by intro k hk;exact .inl (by simp[hk]))
    have hCell:∀ W,Fr [] w5 W->W.cell? ⟨b,1,none⟩=some (.slice A n c)/\W.cell? ⟨w.heap.size,0,none⟩=some (.int .i64 ti)/\W.cell? ⟨w.heap.size,1,none⟩=some (.int .i64 ph)/\W.cell? ⟨w.heap.size,2,none⟩=some (.int .i64 ix)/\W.cell? ⟨w.heap.size,3,none⟩=some (.string sl)/\W.cell? ⟨w.heap.size,4,none⟩=some (.slice RA nr rc)/\W.cell? ⟨w.heap.size,5,none⟩=some (.slice RB nw rd):=fun W hW=>by
     have h1:=hB5.fr hW (by simp);have h2:=hR5.fr hW (by simp);exact⟨h1.c 1,h2.c 0,h2.c 1,h2.c 2,h2.c 3,h2.c 4,h2.c 5⟩
    have hCp:∀ W,Fr [] w5 W->Calls prog 94 #[a.val sl RA rc RB rd] W (CopyG W a):=fun W hW=>copiedH_g a sl RA RB rc rd W HV.out.2.2.2.1 (HX.out W (hF05.trans hW (by simp))).1 (HX.out W (hF05.trans hW (by simp))).2 HV.out.2.2.2.2.1;rw[HV.out.1] at hCp;have HCP:=Hd hCp;clear HSS;have HSS:=Hd (fun (W:World) (hW:W.cell? ⟨b,1,none⟩=some (.slice A n c)/\W.cell? ⟨w.heap.size,0,none⟩=some (.int .i64 ti)/\W.cell? ⟨w.heap.size,1,none⟩=some (.int .i64 ph)/\W.cell? ⟨w.heap.size,2,none⟩=some (.int .i64 ix)/\W.cell? ⟨w.heap.size,3,none⟩=some (.string sl)/\W.cell? ⟨w.heap.size,4,none⟩=some (.slice RA nr rc)/\W.cell? ⟨w.heap.size,5,none⟩=some (.slice RB nw rd))=>hW);have hC:=hCell _ (Fq [] w5).drew;have HCELL:=Hd hCell;have HB5:=Hd hB5;have HO5:=Hd hO5;have HR5:=Hd hR5;have HF05:=Hd hF05;clear hCell hCp hB5 hO5 hR5 hF05 hf06 HR1 HX;refine wp_region_head (fun W:World=>W.cell? ⟨b,1,none⟩=some (.slice A n c)/\W.cell? ⟨w.heap.size,0,none⟩=some (.int .i64 ti)/\W.cell? ⟨w.heap.size,1,none⟩=some (.int .i64 ph)/\W.cell? ⟨w.heap.size,2,none⟩=some (.int .i64 ix)/\W.cell? ⟨w.heap.size,3,none⟩=some (.string sl)/\W.cell? ⟨w.heap.size,4,none⟩=some (.slice RA nr rc)/\W.cell? ⟨w.heap.size,5,none⟩=some (.slice RB nw rd)) 11 (by kernel_rfl) ?_ (by decide)
    show headJ 0 _ _ _ _ _ _ _ _ _ _ _
    iterate 6
     refine hdJ (v:=?_) rfl (Or.inl ⟨by rfl,?_⟩) ?_
     rotate_left
     ·intro W hW;obtain⟨x1,y0,y1,y2,y3,y4,y5⟩:=HSS.out W hW;go_simp;try with_reducible rfl
     try simp only[Act.put,qA,qB,qC,qD,qE,qF]
    refine hO (i:=6) rfl fun K hK=>?_;go_simp
    go_at_call 94
    (with_reducible refine (HCP.out _ (Fq [] w5).drew).mono ?_);rintro e X1 ⟨⟨ya,ys,yA,yc,yB,yd⟩,hya,rfl,hyk,hfy⟩
    dsimp only at hya
    subst hya;have hX1:=hfy.undrew;refine hK _ _ (HCELL.out _ hX1) ?_;clear hK K hC hfy;have hC:=HCELL.out _ hX1;unfold AX.v AG.val
    try simp only[Act.put,qA,qB,qC,qD,qE,qF]
    try dsimp only
    refine hO (i:=7) rfl fun K hK=>?_;go_simp
    obtain⟨X2,hX2,n2,f2⟩:=bxn X1 #[.int .i64 ya.k.rnd,.int .i64 ya.k.phase,.int .i64 ya.k.idx,.string ys,.slice yA ya.r.length yc,.slice yB ya.w.length yd] 91;rw[hX2];have hX12:=hX1.then f2;refine hK _ _ (HCELL.out _ hX12) ?_;clear hK K hC hX2
    try simp only[Act.put,qA,qB,qC,qD,qE,qF]
    refine hO (i:=8) rfl fun K hK=>?_;obtain⟨ii,hii,iz0,iz1,iz2⟩:=info_act;have hO2:=HO5.out.fr hX12 (by simp);refine wp_app (.tmp 74) (.tmp 77) 22 rfl 91 ii _ 6 88 underlying22 hii iz0 iz1 iz2 rfl (by decide) A n c (xs.flatMap AX.cs) rfl hO2 ⟨X1.heap.size,0,none⟩ 1 1 (AX.mk ya ys yA yc yB yd).cs rfl rfl (fun j u hu=>by rw[add_mid',n2.c j];simpa [AX.cs] using hu) (by intro u hu;simp only[AX.cs,List.mem_cons,List.not_mem_nil,or_false] at hu;rcases hu with rfl | rfl | rfl | rfl | rfl | rfl <;> rfl) (by unfold maxLen;omega) (by omega) ?_;intro A' c' X3 ho3 hf3 hA3;have hb3:=(HB5.out.fr hX12 (by simp)).fr hf3 HH.out.nb;have hr3:=(HR5.out.fr hX12 (by simp)).fr hf3 hRA;have hC:X3.cell? ⟨b,1,none⟩=some (.slice A n c)/\X3.cell? ⟨w.heap.size,0,none⟩=some (.int .i64 ti)/\X3.cell? ⟨w.heap.size,1,none⟩=some (.int .i64 ph)/\X3.cell? ⟨w.heap.size,2,none⟩=some (.int .i64 ix)/\X3.cell? ⟨w.heap.size,3,none⟩=some (.string sl)/\X3.cell? ⟨w.heap.size,4,none⟩=some (.slice RA nr rc)/\X3.cell? ⟨w.heap.size,5,none⟩=some (.slice RB nw rd):=⟨hb3.c 1,hr3.c 0,hr3.c 1,hr3.c 2,hr3.c 3,hr3.c 4,hr3.c 5⟩;refine hK _ _ hC ?_;clear hK K
    try simp only[Act.put,qA,qB,qC,qD,qE,qF]
    show headJ 9 _ _ _ _ _ _ _ _ _ _ _
    iterate 2
     refine hdJ (v:=?_) rfl (Or.inl ⟨by rfl,?_⟩) ?_
     rotate_left
     ·intro W hW;obtain⟨x1,y0,y1,y2,y3,y4,y5⟩:=HSS.out W hW;go_simp;try with_reducible rfl
     try simp only[Act.put,qA,qB,qC,qD,qE,qF]
    refine headI_done ⟨by kernel_rfl,?_⟩;simp only[qG,qH];have HO3:=Hd ho3;have HF3:=Hd hf3;have HA3:=Hd hA3;have HX12:=Hd (An hX1 f2);have HYK:=Hd hyk;clear ho3 hf3 hA3 hX12 hX1 f2 n2 hyk hr3 hO2 HR5 HB5 HO5 HCELL HCP hC HSS;have e0:=hb3.k1;have e1:=hb3.f 1
    go_upto_region 18 with fail
    obtain⟨X4,hX4⟩:=nmd (X3.setCell ⟨b,1,none⟩ (.slice A' (n+1) c'));have hb4:BoxN X4 b 136 #[.pointer (some ⟨pb,0,none⟩),.slice A' (n+1) c',.slice none 0 0,.pointer (some ⟨pl,0,none⟩),.pointer (some ⟨bt,0,none⟩)]:=by rw[<-hX4];exact hb3.setAt 1 _
    have f4:Fr [b] X3 X4:=by rw[<-hX4];exact (Fq [b] X3).set (.inl (by simp)) _
    try rw[hX4]
    clear e0 e1 hX4 hb3;have e0:=hb4.k3;have e1:=hb4.f 3
    go_upto_region 19 with fail
    obtain⟨X5,hX5⟩:=nmd (X4.setCell ⟨b,3,none⟩ (.pointer (some ⟨p2,0,none⟩)));have hb5:BoxN X5 b 136 #[.pointer (some ⟨pb,0,none⟩),.slice A' (n+1) c',.slice none 0 0,.pointer (some ⟨p2,0,none⟩),.pointer (some ⟨bt,0,none⟩)]:=by rw[<-hX5];exact hb4.setAt 3 _
    have f5:Fr [b] X3 X5:=by rw[<-hX5];exact f4.set (.inl (by simp)) _
    try rw[hX5]
    clear e0 e1 hX5 hb4 f4;have e0:=hb5.k1;have hm16:((n:Int)+1) % 16=(n:Int)+1:=by omega
    have hm17:((n:Int)+1 == 0)=false:=by simp;omega
    have HB5:=Hd (An hb5 f5);clear hb5 f5
    go_wp2_with fail
    go_ret
    have h6:=HH.out.fr0 (HF1.out.then hC6);have hz1:=HF1.out.size;have hzC:=hC6.size;have hz12:=(HX12.out.1.then HX12.out.2).size;have hzF:=HF5.out.size
    have hAb:b ∉ blk A':=fun hm=>by
     rcases HA3.out b hm with h | h
     ·exact HH.out.nb h
     ·omega
    have fX:Fr (b::blk A) X1 X5:=((HX12.out.2.mono (by simp)).trans (HF3.out.mono (T:=b::blk A) (fun k hk=>.inl (by simp[hk]))) (fun k hk=>.inl hk)).trans HB5.out.2 (by simp);have f5X:Fr (b::blk A) w5 X5:=(HX12.out.1.mono (by simp)).then fX;have f6:Fr (b::(blk A++F)) w6 X5:=(HF5.out.mono (T:=b::(blk A++F)) (fun k hk=>.inl (by simp[hk]))).trans f5X (fun k hk=>.inl (by rcases List.mem_cons.1 hk with h | h <;> simp[h]));have hfin:Fr (b::(blk A++F)) w X5:=((HF1.out.then hC6).mono (by simp)).then f6;have hN1:NoT tyS X1 (b::blk A):=((NoT.box ((h6.box.fr HF5.out HH.out.nF).fr HX12.out.1 (by simp)) (by decide)).app (NoT.own ((h6.own.fr HF5.out HH.out.dj).fr HX12.out.1 (by simp)) (by decide))).mem (by simp)
    have hF':∀ k∈b::blk A,k ∉ F':=fun k hk hm=>by
     rcases HTM.out.2.1 k hm with h | h
     ·rcases List.mem_cons.1 hk with rfl | hk
      ·exact HH.out.nF h
      ·exact HH.out.dj k hk h
     ·rcases List.mem_cons.1 hk with rfl | hk
      ·omega
      ·have:=hAlt k hk;omega
    have hlx:(xs++[AX.mk ya ys yA yc yB yd]).length=n+1:=by rw[lla,HV.out.2.1];rfl
    refine⟨0,rfl,.inr ⟨HOA.out,rfl,b::(blk A'++F'),⟨ya,ys,yA,yc,yB,yd⟩,rfl,⟨pb,p2,bt,A',c',F',ns2,ds++[d],kvs',⟨?_,?_,?_,h6.base.frT f6 h6.noT,(HST4.out.1.fr0 hC46).frT f6 h6.noT,?_,HTM.out.1.fr f5X (fun k hk hm=>hF' k hm hk),HTM.out.2.2.1,HTM.out.2.2.2,?_,?_⟩,rfl⟩,hfin,fun k hk=>?_⟩⟩
    ·rw[hlx];exact HB5.out.1
    ·rw[hlx,List.flatMap_append]
     have:=HO3.out.fr HB5.out.2 (fun k hk=>by simp only[lms];rintro rfl;exact hAb hk);simpa using this
    ·intro x hx
     rcases List.mem_append.1 hx with hx | hx
     ·exact (h6.xok x hx).frT f6 h6.noT
     ·rw[lms] at hx
      rw[hx];exact HYK.out.frT fX hN1
    ·have h1:=HST4.out.2
     have h2:=HH.out.nl;have h3:=HV.out.2.2.2.2.2.2.1;rw[HV.out.2.1] at h2;rw[hlx];omega
    ·rw[HH.out.ds,<-HD.out];simp[leafX]
    ·exact HH.out.run.snoc HOA.out ⟨HV.out.2.2.1,HV.out.2.2.2.2.1,HV.out.2.2.2.2.2.1,HV.out.2.2.2.2.2.2.1⟩ (by rw[HV.out.2.1];exact hn12)
    ·rcases List.mem_cons.1 hk with h | h
     ·exact .inl (by simp[h])
     ·rcases List.mem_append.1 h with h | h
      ·rcases HA3.out k h with h2 | h2
       ·exact .inl (by simp[h2])
       ·exact .inr (by omega)
      ·rcases HTM.out.2.1 k h with h2 | h2
       ·exact .inl (by simp[h2])
       ·exact .inr (by omega)
theorem SG.of_nil {w:World} {b:Nat} (h:StAt w b .nil):SG w b []:=⟨none,0,h.1,TT.nil w,List.Pairwise.nil⟩
theorem parts_one:Parts [leaf0] []:=by
 intro l i h;have h1:=Nat.one_le_two_pow (n:=l);have h2:(i+1)*2 ^ l<=1:=h;have h3:1*2 ^ l<=(i+1)*2 ^ l:=Nat.mul_le_mul_right _ (by omega);have h4:2 ^ l=1:=by omega
 have h5:l=0:=by
  rcases Nat.eq_zero_or_pos l with h | h
  ·exact h
  ·have:2 ^ 1<=2 ^ l:=Nat.pow_le_pow_right (by omega) h
   omega
 subst h5;have h6:i=0:=by omega
 subst h6;simp only[Nat.pow_zero,Nat.mul_one,rt_one];exact⟨shaN_len _,.inl ⟨rfl,rfl⟩⟩
theorem New_h (p:Nat) (w:World) (hok:Ok w) (h:StAt w p .nil):Calls prog 32 #[.pointer (some ⟨p,0,none⟩)] w fun e w'=>∃ b M,e=.returned (.tuple #[.pointer (some ⟨b,0,none⟩),.int .i64 0])/\HG w' b [] M/\Fr [] w w'/\∀ k∈M,w.heap.size<=k:=by
 refine (NewH_any p w hok h).mono ?_;rintro e w' ⟨b,M,rfl,⟨pb,pl,bt,A,c,F,hh,rfl⟩,hf,hM⟩;exact⟨b,_,rfl,⟨pb,pl,bt,A,c,F,[],[leaf0],[],⟨hh.box,hh.own,by simp,SG.of_nil hh.kept.now.1,SG.of_nil hh.st,by simp,hh.tree,parts_one,by intro p hp;simp at hp,rfl,⟨by simp,by simp,by simp⟩⟩,rfl⟩,hf,hM⟩
theorem State_h (b:Nat) (xs:List AX) (M:List Nat) (n:Nat) (w:World) (hok:Ok w) (h:HG w b xs M) (hn:n<=xs.length):Calls prog 37 #[.pointer (some ⟨b,0,none⟩),.int .i64 (n:Int)] w (SPost w 120):=by
 have hl12:=h.len12;obtain⟨pb,pl,bt,A,c,F,ns,ds,kvs,h,rfl⟩:=h;obtain⟨m,hm⟩:=nmd (xs.length);have hbx:=h.box;rw[hm] at hbx hn hl12;obtain⟨x0,x1⟩:=hbx.m2;have x3:=hbx.k3;have HN:=Hd (none_any b pb w x0);have HH:=Hd h;have HOK:=Hd hok;have HM:=Hd hm;have hcap:=h.own.le_cap;rw[hm] at hcap;have hg0:decide ((n:Int)<0)=false:=by simp
 have hg1:decide (m<n)=false:=by simp;omega
 rcases Nat.lt_or_eq_of_le hn with hlt | rfl
 ·have hrow:=(h.own.rd:Rd w 6 A xs.length (xs.flatMap AX.cs))
  rw[hm] at hrow;obtain⟨g,off,rfl,hgl,hcl⟩:=row_get ax_len hrow (by omega);have HCL:=Hd hcl;have hne:¬ n=m:=by omega
  have hne2:((n:Int) == (m:Int))=false:=by simp;omega
  have h16:decide ((16:Int)<=(n:Int))=false:=by simp;omega
  have hr16:(n:Int) % 16=(n:Int):=by omega
  have hle1:(n:Int)<=(c:Int):=by omega
  have hle2:(n:Int)<=(m:Int):=by omega
  clear h hok hm hbx hrow hcl
  go_enter func37,ntmps37
  go_upto_region 3 with ((go_at_call 59;(with_reducible refine HN.out.mono ?_);rintro e w' ⟨rfl,rfl⟩))
  go_wp2_with fail
  clear x0 x1 x3
  try rw[hr16]
  go_loopw [6,61] (fun s i W=>∃ (j b':Nat) (ns':List ON),j<=n/\i=.int .i64 (j:Int)/\s=.pointer (some ⟨b',0,none⟩)/\SG W b' ns'/\ns'.length<=10*j/\Fr [] w W) (fun _ i _=>n - (intOf i).toNat)
  case atStart=>exact⟨0,pb,[],Nat.zero_le _,rfl,rfl,HH.out.base,by simp,Fq _ _⟩
  case round =>
   obtain⟨j,b',ns',hj,rfl,rfl,hS,hle,hfr⟩:=hrel;have HF:=Hd (An hS (An hle hfr));clear hS hle hfr
   by_cases hjl:j<n
   ·have hlt3:(j:Int)<(n:Int):=by omega
    obtain⟨x,hx⟩:∃ x,xs[j]?=some x:=⟨_,lge (by rw[HM.out];omega)⟩;have hxw:=HH.out.run.wf x (lmg hx);have hxo:=(HH.out.xok x (lmg hx)).fr0 HF.out.2.2;have hcx:=HCL.out j x hx;unfold AX.cs at hcx;have hk:∀ o,wr.cell? ⟨g,o,none⟩=w.cell? ⟨g,o,none⟩:=fun o=>HF.out.2.2.cell (p:=⟨g,o,none⟩) hgl (by simp);have hls:=wfB_lists hxw.1;have hA:∀ W,Fr [] wr W->Calls prog 92 #[x.a.val x.sl x.A x.c x.B x.d,.pointer (some ⟨b',0,none⟩)] W (SPost W (ns'.length+x.a.w.length)):=fun W hW=>ApplyA_g x.a x.sl x.A x.B x.c x.d _ b' W fun W2 hW2=>Apply_s b' ns' x.a.w x.B x.d W2 (HOK.out.fr0 (HF.out.2.2.then (hW.then hW2))) (HF.out.1.fr0 (hW.then hW2)) (hxo.chw.fr0 (hW.then hW2)) (fun y hy=>⟨hxw.2.1.w y hy,ordB_all hls.2 y hy⟩) (by have:=HF.out.2.1;have:=hxw.2.2.2;omega);unfold AG.val at hA;have y0:wr.cell? ⟨g,off+j*6,none⟩=some (.int .i64 x.a.k.rnd):=(hk _).trans (hcx 0 (by omega));have y1:wr.cell? ⟨g,off+j*6+1,none⟩=some (.int .i64 x.a.k.phase):=(hk _).trans (hcx 1 (by omega));have y2:wr.cell? ⟨g,off+j*6+2,none⟩=some (.int .i64 x.a.k.idx):=(hk _).trans (hcx 2 (by omega));have y3:wr.cell? ⟨g,off+j*6+3,none⟩=some (.string x.sl):=(hk _).trans (hcx 3 (by omega));have y4:wr.cell? ⟨g,off+j*6+4,none⟩=some (.slice x.A x.a.r.length x.c):=(hk _).trans (hcx 4 (by omega));have y5:wr.cell? ⟨g,off+j*6+5,none⟩=some (.slice x.B x.a.w.length x.d):=(hk _).trans (hcx 5 (by omega));obtain⟨w1,hw1,hz1,n1,fw1⟩:=bxz wr #[.int .i64 x.a.k.rnd,.int .i64 x.a.k.phase,.int .i64 x.a.k.idx,.string x.sl,.slice x.A x.a.r.length x.c,.slice x.B x.a.w.length x.d] 91 wr.heap.size;have HA:=Hd hA;have HX:=Hd hxw.2.2.2;clear hcx hk hA hxo hxw hls hx
    go_upto_region 13 with fail
    try rw[hw1]
    clear y0 y1 y2 y3 y4 y5;obtain⟨x0,x1,x2,x3,x4,x5⟩:=n1.m6;have HW1:=Hd fw1;clear hw1 n1 fw1 hz1
    go_wp2_with ((go_at_call 92;(with_reducible refine (HA.out _ HW1.out).mono ?_);rintro e w2 ⟨b2,ns2,rfl,hs2,hl2,hf2⟩;have H2:=Hd (An hs2 (An hl2 hf2));clear hs2 hl2 hf2))
    go_roundw
    case rel=>exact⟨j+1,b2,ns2,by omega,by go_num,rfl,H2.out.1,by have:=H2.out.2.1;have:=HF.out.2.1;have:=HX.out;omega,HF.out.2.2.then (HW1.out.then H2.out.2.2)⟩
    case measure=>simp[intOf];omega
   ·obtain rfl:j=n:=by omega
    go_wp2_with fail
    go_ret2
    exact⟨b',ns',rfl,HF.out.1,by have:=HF.out.2.1;omega,HF.out.2.2⟩
 ·have hnl:=h.nl
  rw[hm] at hnl;have HR:=Hd (An h.st hnl);clear h hok hm hbx hnl
  go_enter func37,ntmps37
  go_wp2_with ((go_at_call 59;(with_reducible refine HN.out.mono ?_);rintro e w' ⟨rfl,rfl⟩))
  go_ret2
  exact⟨pl,ns,rfl,HR.out.1,by have:=HR.out.2;omega,Fq _ _⟩
end Go.Proofs.YtlpmiimgacfmkaaGreatDoor
