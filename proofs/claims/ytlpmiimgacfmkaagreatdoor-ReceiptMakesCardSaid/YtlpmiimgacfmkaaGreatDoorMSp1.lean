/- The law's place: a place of a byte, and a number of actions. -/
import Derived.WideKeyEntry
import Derived.Test.YtlpmiimgacfmkaaGreatDoorMGs
import Derived.Test.YtlpmiimgacfmkaaGreatDoorMOpm
import Derived.Test.YtlpmiimgacfmkaaGreatDoorMSt3
set_option linter.all false
namespace Go.Proofs.YtlpmiimgacfmkaaGreatDoor
open Go.Proofs.Tryz
open Go.RowKit
set_option maxRecDepth 100000
set_option maxHeartbeats 8000000
theorem TG.wf.names:∀ {t:TG},t.wf->∀ x∈t.ns,checkO x=0
 | .nil,_,x,hx=>by simp[TG.ns] at hx
 | .node _ l n v h s y r,hw,x,hx=>by
  obtain⟨⟨hl,hr⟩,_,_,_,hc,_⟩:=hw;simp only[TG.ns,List.mem_append,List.mem_cons] at hx
  rcases hx with hx | rfl | hx
  ·exact TG.wf.names hl x hx
  ·exact hc
  ·exact TG.wf.names hr x hx
theorem SG.names {w:World} {b:Nat} {ns:List ON} (h:SG w b ns):∀ x∈ns,checkO x=0:=by
 obtain⟨rp,k,_,⟨t,_,_,hw,rfl,_⟩,_⟩:=h;exact hw.names
def plV (nm:ON) (so st:ByteArray) (P:Int):Value:=.agg #[.int .i64 nm.kind,.string so,.int .i64 nm.number,.int .i64 nm.index,.string st,.int .i64 P]
def PlacePost (k:Nat) (w:World) (e:Ending) (w':World):Prop:=∃ (nm:ON) (so st:ByteArray) (P n:Nat),e=.returned (.tuple #[plV nm so st (P:Int),.int .i64 (n:Int)])/\(checkO nm=0/\encO nm=.agg #[.int .i64 nm.kind,.string so,.int .i64 nm.number,.int .i64 nm.index,.string st])/\P<=65536/\n<=k/\Fr [] w w'
theorem Place_g (af nmi at_:Int) (h1:0<=af/\af<256) (h2:0<=nmi/\nmi<256) (h3:0<=at_/\at_<256) (b:Nat) (xs:List AX) (M:List Nat) (w:World) (hok:Ok w) (h:HG w b xs M) :
 Calls prog 12 #[.agg #[.int .u8 af,.int .u8 nmi,.int .u8 at_],.pointer (some ⟨b,0,none⟩)] w (PlacePost xs.length w):=by
 have hl12:=h.len12;obtain⟨m,hm⟩:=nmd (xs.length);rw[hm] at hl12;obtain⟨w1,hw1,hz1,n1,f1⟩:=bxz w #[.int .u8 af,.int .u8 nmi,.int .u8 at_] 24 w.heap.size;obtain⟨w2,hw2,hz2,n2,f2⟩:=bxz w1 #[.int .i64 0,.string ⟨#[]⟩,.int .i64 0,.int .i64 0,.string ⟨#[]⟩,.int .i64 0] 33 (w.heap.size+1);have HF2:=Hd (f1.then f2);obtain⟨RB,hRB⟩:=nmd (w.heap.size+1);have hz2':w.heap.size+1<w2.heap.size:=n2.lt;have HZ:=Hd (An hRB hz2');rw[hRB] at n2;have HN:=Hd (An (n1.fr f2 (by simp)) n2);have HW:=Hd (An hw1 (An hw2 (An hz1 hRB)));have HH:=Hd (h.fr0 HF2.out);have HOK:=Hd (hok.fr0 HF2.out);have HM:=Hd hm;have HAF:=Hd (An h1 (An h2 h3))
 have hln:∀ W,Fr [] w2 W->Calls prog 19 #[.pointer (some ⟨b,0,none⟩)] W fun e w'=>e=.returned (.int .i64 (m:Int))/\W=w':=fun W hW=>by
  have h:=Len_h b xs M W (HH.out.fr0 hW);rw[hm] at h;exact h
 have HL:=Hd hln;rw[hm];clear hw1 hw2 n1 n2 f1 f2 hz1 hz2 hz2' h hok hm hln
 go_enter func12,ntmps12
 go_upto_region 1 with fail
 rw[HW.out.1,HW.out.2.1]
 try rw[HW.out.2.2.1]
 try rw[hRB]
 have hwm:IntKind.i64.wrap ((m:Int)+1)=(m:Int)+1:=by simp[IntKind.wrap,IntKind.bits,IntKind.signed];omega
 have hca:IntKind.i64.wrap af=af:=by have:=HAF.out.1;simp[IntKind.wrap,IntKind.bits,IntKind.signed];omega
 have hm0:((m:Int)+1=0)=False:=by simp;omega
 obtain⟨q,hq,hqm⟩:∃ q:Nat,af.tmod ((m:Int)+1)=(q:Int)/\q<=m:=by
  have h1:=HAF.out.1.1;rw[Int.tmod_eq_emod_of_nonneg h1];have h2:=Int.emod_nonneg af (show (m:Int)+1≠0 by omega);have h3:=Int.emod_lt_of_pos af (show 0<(m:Int)+1 by omega);exact⟨(af % ((m:Int)+1)).toNat,by omega,by omega⟩
 obtain⟨n0,hn0⟩:=nmd (m - q);have hsub:IntKind.i64.wrap ((m:Int) - (q:Int))=(n0:Int):=by simp[IntKind.wrap,IntKind.bits,IntKind.signed];omega
 have HSS:=Hd (fun (W:World) (hW:Fr [] w2 W)=>(⟨(HN.out.1.fr hW (by simp)).c 0,(HN.out.1.fr hW (by simp)).c 1,(HN.out.1.fr hW (by simp)).c 2⟩:W.cell? ⟨w.heap.size,0,none⟩=some (.int .u8 af)/\W.cell? ⟨w.heap.size,1,none⟩=some (.int .u8 nmi)/\W.cell? ⟨w.heap.size,2,none⟩=some (.int .u8 at_)));have hC:Fr [] w2 w2.drew:=(Fq _ w2).drew;clear hRB;refine wp_region_head (fun W=>Fr [] w2 W) 10 (by kernel_rfl) ?_ (by decide)
 show headJ 0 _ _ _ _ _ _ _ _ _ _ _
 refine hdJ (v:=?_) rfl (Or.inl ⟨by rfl,?_⟩) ?_
 rotate_left
 ·intro W hW;obtain⟨x0,x1,x2⟩:=HSS.out W hW;go_simp;try with_reducible rfl
 try simp only[Act.put,qA,qB,qC,qD,qE,qF]
 show headJ 2 _ _ _ _ _ _ _ _ _ _ _
 iterate 4
  refine hdJ (v:=?_) rfl (Or.inl ⟨by rfl,?_⟩) ?_
  rotate_left
  ·intro W hW;obtain⟨x0,x1,x2⟩:=HSS.out W hW;go_simp;try with_reducible rfl
  try simp only[Act.put,qA,qB,qC,qD,qE,qF]
 refine hO (i:=1) rfl fun K hK=>?_;go_simp
 go_at_call 19
 (with_reducible refine (HL.out _ hC).mono ?_);rintro e u1 ⟨rfl,rfl⟩;refine hK _ _ hC ?_;clear hK K
 try simp only[Act.put,qA,qB,qC,qD,qE,qF]
 refine hO (i:=6) rfl fun K hK=>?_;go_simp
 go_at_call 19
 (with_reducible refine (HL.out _ hC).mono ?_);rintro e u1 ⟨rfl,rfl⟩;refine hK _ _ hC ?_;clear hK K
 try simp only[Act.put,qA,qB,qC,qD,qE,qF]
 show headJ 7 _ _ _ _ _ _ _ _ _ _ _
 iterate 3
  refine hdJ (v:=?_) rfl (Or.inl ⟨by rfl,?_⟩) ?_
  rotate_left
  ·intro W hW;obtain⟨x0,x1,x2⟩:=HSS.out W hW;go_simp;try with_reducible rfl
  try simp only[Act.put,qA,qB,qC,qD,qE,qF]
 refine headI_done ⟨by kernel_rfl,?_⟩;simp only[qG,qH];have hn0m:n0<=m:=by omega
 clear hwm hca hm0 hq hqm hsub hn0 HSS;obtain⟨w3,hw3⟩:=nmd (w2.drew);rw[hw3] at hC ⊢;have HC:=Hd hC;clear hw3 hC;have x0:w3.cell? ⟨w.heap.size,0,none⟩=some (.int .u8 af):=(HN.out.1.fr HC.out (by simp)).c 0
 go_upto_if 26 with fail
 go_cut [6] from 26 to 28 (fun s W=>(∃ n1:Nat,n1<=m/\s=.int .i64 (n1:Int))/\W=w3)
 case first =>
  rcases Decidable.em (af % 4=3) with h4 | h4
  ·go_wp2_with (go_at_call 19;(with_reducible refine (HL.out _ HC.out).mono ?_);rintro e u1 ⟨rfl,rfl⟩)
   go_meet
   exact⟨⟨n0,hn0m,rfl⟩,rfl⟩
  ·have h5:(af % 4 == 3)=false:=by simpa using h4
   have h6:(af % 4 != 3)=true:=by simpa using h4
   go_wp2_with (go_at_call 19;(with_reducible refine (HL.out _ HC.out).mono ?_);rintro e u1 ⟨rfl,rfl⟩)
   go_meet
   exact⟨⟨m,nlr m,rfl⟩,rfl⟩
 case rest =>
  obtain⟨⟨n,hnm,rfl⟩,hwc⟩:=hcut;rw[hwc];clear hwc hn0m x0;have hst:=State_h b xs M n w3 (HOK.out.fr0 HC.out) (HH.out.fr0 HC.out) (by rw[HM.out];exact hnm);have HST:=Hd hst;clear hst
  go_upto_region 5 with (go_at_call 37;(with_reducible refine HST.out.mono ?_);rintro e w4 ⟨sb,ns,rfl,hsg,hnl,hf⟩;have H4:=Hd (An hsg (An hnl (HC.out.then hf)));clear hsg hnl hf)
  have HLN:=Hd (Len_s sb ns w4 H4.out.1);obtain⟨k,hk⟩:=nmd (ns.length);rw[hk] at HLN;have HK:=Hd hk
  rcases Nat.eq_zero_or_pos k with hz | hpos
  ·subst hz
   go_upto_region 6 with (go_at_call 38;(with_reducible refine HLN.out.mono ?_);rintro e u1 ⟨rfl,rfl⟩)
   have HSS:=Hd (fun (W:World) (hW:Fr [] w4 W)=>((HN.out.1.fr (H4.out.2.2.then hW) (by simp)).c 2:W.cell? ⟨w.heap.size,2,none⟩=some (.int .u8 at_)));have hat:IntKind.i64.wrap at_=at_:=by have:=HAF.out.2.2;simp[IntKind.wrap,IntKind.bits,IntKind.signed];omega
   refine wp_region_store (fun W=>Fr [] w4 W) 6 7 (by kernel_rfl) ((Fq _ w4).drew) ?_ (by decide);refine headSI_take (i:=1) (v:=?_) (by kernel_rfl) head_done rfl (by decide) (by decide) (by kernel_rfl) (fun _ _ _ h=>h) (Or.inl ⟨by rfl,?_⟩) ?_
   rotate_left
   ·intro W hW
    obtain x2:=HSS.out W hW;go_simp
    try with_reducible rfl
   try simp only[Act.put,qA,qB,qC,qD,qE,qF]
   refine headSI_take (i:=2) (v:=?_) (by kernel_rfl) head_done rfl (by decide) (by decide) (by kernel_rfl) (fun _ _ _ h=>h) (Or.inl ⟨by rfl,?_⟩) ?_
   rotate_left
   ·intro W hW
    obtain x2:=HSS.out W hW;go_simp
    try with_reducible rfl
   try simp only[Act.put,qA,qB,qC,qD,qE,qF]
   refine headSI_take (i:=3) (v:=?_) (by kernel_rfl) head_done rfl (by decide) (by decide) (by kernel_rfl) (fun _ _ _ h=>h) (Or.inl ⟨by rfl,?_⟩) ?_
   rotate_left
   ·intro W hW
    obtain x2:=HSS.out W hW;go_simp
    try with_reducible rfl
   try simp only[Act.put,qA,qB,qC,qD,qE,qF]
   refine headSI_pure (i:=5) (v:=?_) (by kernel_rfl) head_done rfl (by decide) (by decide) (by kernel_rfl) (fun _ _ _ h=>h) (Or.inl ⟨by rfl,?_⟩) ?_
   rotate_left
   ·intro W hW
    go_simp
    try with_reducible rfl
   try simp only[Act.put,qA,qB,qC,qD,qE,qF]
   refine headSI_only (i:=0) (by kernel_rfl) (by decide) (by decide) rfl (fun K hK=>?_);rw[if_pos (by rfl)];go_simp
   go_at_call 35
   (with_reducible refine (Port_any 1 w4.drew).mono ?_);rintro e u1 ⟨rfl,hu1⟩;have hC1:Fr [] w4 u1:=((Fq _ w4).drew).then hu1;refine hK _ _ hC1 ?_;clear hK K hu1
   try simp only[Act.put,qA,qB,qC,qD,qE,qF]
   unfold portV;refine headSI_take (i:=4) (v:=?_) (by kernel_rfl) head_done rfl (by decide) (by decide) (by kernel_rfl) (fun _ _ _ h=>h) (Or.inl ⟨by rfl,?_⟩) ?_
   rotate_left
   ·intro W hW
    obtain x2:=HSS.out W hW;go_simp
    try with_reducible rfl
   try simp only[Act.put,qA,qB,qC,qD,qE,qF]
   have hrb:=HN.out.2.fr (H4.out.2.2.then hC1) (by simp);obtain⟨y0,y1,y2,y3,y4,y5⟩:=hrb.m6;have yf0:=hrb.f 0;have yf1:=hrb.f 1;have yf2:=hrb.f 2;have yf3:=hrb.f 3;have yf4:=hrb.f 4;have yf5:=hrb.f 5;refine headSI_store (by kernel_rfl) (by decide) rfl (fun K hK=>?_);rw[if_pos (by rfl)];go_simp
   obtain⟨u2,hW2⟩:=nmd (((((((((u1).setCell ⟨RB,0,none⟩ (.int .i64 16)).setCell ⟨RB,1,none⟩ (.string ⟨#[]⟩)).setCell ⟨RB,2,none⟩ (.int .i64 1)).setCell ⟨RB,3,none⟩ (.int .i64 0)).setCell ⟨RB,4,none⟩ (.string ⟨#[]⟩)).setCell ⟨RB,5,none⟩ (.int .i64 at_))));have hb2:BoxN u2 (RB) 33 #[.int .i64 16,.string ⟨#[]⟩,.int .i64 1,.int .i64 0,.string ⟨#[]⟩,.int .i64 at_]:=by rw[<-hW2];exact ((((((hrb.setAt 0 _).setAt 1 _).setAt 2 _).setAt 3 _).setAt 4 _).setAt 5 _)
   have g2:Fr [RB] (u1) u2:=by rw[<-hW2];exact ((((((Fq [RB] (u1)).set (.inl (by simp)) _).set (.inl (by simp)) _).set (.inl (by simp)) _).set (.inl (by simp)) _).set (.inl (by simp)) _).set (.inl (by simp)) _
   rw[hW2];clear hW2;refine hK _ _ ?_;clear hK K
   try simp only[Act.put,qA,qB,qC,qD,qE,qF]
   refine headSI_done ⟨by kernel_rfl,?_⟩;simp only[qG,qH];clear y0 y1 y2 y3 y4 y5 yf0 yf1 yf2 yf3 yf4 yf5;obtain⟨y0,y1,y2,y3,y4,y5⟩:=hb2.m6
   go_wp2_with fail
   obtain⟨P,hP⟩:∃ P:Nat,at_=(P:Int):=⟨at_.toNat,by have:=HAF.out.2.2.1;omega⟩;subst hP;refine bodyPost_ret (v:=.tuple #[plV (portN 1) ⟨#[]⟩ ⟨#[]⟩ (P:Int),.int .i64 (n:Int)]) (by simp[results,results12,plV,portN,go_sem,y0,y1,y2,y3,y4,y5]) rfl ?_;exact⟨portN 1,⟨#[]⟩,⟨#[]⟩,P,n,rfl,⟨by kernel_rfl,rfl⟩,by have:=HAF.out.2.2.2;omega,hnm,(HF2.out.then (H4.out.2.2.then hC1)).trans g2 (by simp;have:=HZ.out;omega)⟩
  ·have hne:((k:Int) == 0)=false:=by simp;omega
   have hk0:((k:Int)=0)=False:=by simp;omega
   go_upto_region 7 with (go_at_call 38;(with_reducible refine HLN.out.mono ?_);rintro e u1 ⟨rfl,rfl⟩)
   have hnm2:=Names_s sb ns w4 H4.out.1 (by have:=H4.out.2.1;omega);unfold NsPost at hnm2;rw[HK.out] at hnm2;have HNM:=Hd hnm2;clear hnm2
   go_upto_region 8 with (go_at_call 39;(with_reducible refine HNM.out.mono ?_);rintro e w5 ⟨A,c,rfl,ho,hf,hA⟩;have H5:=Hd (An ho (An (H4.out.2.2.then hf) hf));clear ho hf hA)
   obtain⟨j,hj,hjk⟩:∃ j:Nat,nmi % (k:Int)=(j:Int)/\j<k:=by
    have h2:=Int.emod_nonneg nmi (show (k:Int)≠0 by omega);have h3:=Int.emod_lt_of_pos nmi (show 0<(k:Int) by omega);exact⟨(nmi % (k:Int)).toNat,by omega,by omega⟩
   have hjt:nmi.tmod (k:Int)=(j:Int):=by rw[Int.tmod_eq_emod_of_nonneg HAF.out.2.1.1];exact hj
   obtain⟨r3,hr3,hr3k⟩:∃ r:Nat,at_ % 3=(r:Int)/\r<3:=⟨(at_ % 3).toNat,by omega,by omega⟩;have hr3t:at_.tmod 3=(r3:Int):=by rw[Int.tmod_eq_emod_of_nonneg HAF.out.2.2.1];exact hr3
   have hc1:IntKind.i64.wrap nmi=nmi:=by have:=HAF.out.2.1;simp[IntKind.wrap,IntKind.bits,IntKind.signed];omega
   have hc2:IntKind.i64.wrap at_=at_:=by have:=HAF.out.2.2;simp[IntKind.wrap,IntKind.bits,IntKind.signed];omega
   obtain⟨nm,hnm3⟩:∃ x,ns[j]?=some x:=⟨_,lge (by rw[HK.out];exact hjk)⟩;obtain⟨g,off,rfl,hgl,hcl⟩:=row_get on_len (H5.out.1.rd) hpos;have hcx:=hcl j nm hnm3;obtain⟨kd,hkd⟩:=nmd (nm.kind);obtain⟨nu,hnu⟩:=nmd (nm.number);obtain⟨ix,hix⟩:=nmd (nm.index);obtain⟨so,hso,_,_⟩:=str_of nm.owner;obtain⟨st,hst,_,_⟩:=str_of nm.text;unfold ON.cs at hcx;rw[hkd,hnu,hix,hso,hst] at hcx;have y0:w5.cell? ⟨g,off+j*5,none⟩=some (.int .i64 kd):=hcx 0 (by omega);have y1:w5.cell? ⟨g,off+j*5+1,none⟩=some (.string so):=hcx 1 (by omega);have y2:w5.cell? ⟨g,off+j*5+2,none⟩=some (.int .i64 nu):=hcx 2 (by omega);have y3:w5.cell? ⟨g,off+j*5+3,none⟩=some (.int .i64 ix):=hcx 3 (by omega);have y4:w5.cell? ⟨g,off+j*5+4,none⟩=some (.string st):=hcx 4 (by omega);have s0:=HN.out.1.fr H5.out.2.1 (by simp);have x1:=s0.k1;have x2:=s0.k2;have hsl:w.heap.size<w5.heap.size:=s0.lt;clear s0 hcl hcx HNM HLN;have HEN:=Hd (An hkd (An hnu (An hix (An hso (An hst hnm3)))));clear hkd hnu hix hso hst hnm3
   go_region
   obtain⟨D,hD⟩:=nmd (w5.heap.size);obtain⟨w6,hw6⟩:=nmd ((w5.alloc (.cells #[.int .i64 kd,.string so,.int .i64 nu,.int .i64 ix,.string st,.int .i64 (r3:Int)] 33)).drew);have n6:BoxN w6 D 33 #[.int .i64 kd,.string so,.int .i64 nu,.int .i64 ix,.string st,.int .i64 (r3:Int)]:=by rw[<-hw6,<-hD];exact (BoxN.new w5 _ _).drew
   have f6:Fr [] w5 w6:=by rw[<-hw6];exact ((Fq [] w5).alloc _).drew
   rw[hw6,hD];rw[hD] at hsl;have H6:=Hd (An n6 (An (H5.out.2.1.then f6) (H5.out.2.2.then f6)))
   have hDR:D≠RB:=by
    have h1:=H5.out.2.1.size;have h2:=HN.out.2.lt;omega
   clear hw6 f6 y0 y1 y2 y3 y4 x1 x2 hgl;have hck:checkO nm=0:=H4.out.1.names nm (lmg HEN.out.2.2.2.2.2);have hg0:=Get_s sb ns nm w6 (H4.out.1.fr0 H6.out.2.2) hck;unfold encO at hg0;rw[HEN.out.1,HEN.out.2.1,HEN.out.2.2.1,HEN.out.2.2.2.1,HEN.out.2.2.2.2.1] at hg0;have HGT:=Hd hg0;have HCK:=Hd hck;obtain⟨z0,z1,z2,z3,z4,z5⟩:=n6.m6;clear hg0 hck n6
   go_upto_region 10 with (go_at_call 40;(with_reducible refine HGT.out.mono ?_);rintro e w7 ⟨s,fl,rfl,hsz,_,hf⟩;have H7:=Hd (An hsz (An (H6.out.2.1.then hf) hf));clear hsz hf)
   clear z0 z1 z2 z3 z4 z5;have n7:=H6.out.1.fr H7.out.2.2 (by simp)
   rcases Nat.eq_zero_or_pos s.size with hz | hpz
   ·have hg1:decide ((0:Int)<(s.size:Int))=false:=decide_eq_false (by omega)
    have hg2:¬ (0:Int)<(s.size:Int):=by omega
    clear HGT;have hrb:=HN.out.2.fr (H7.out.2.1) (by simp);obtain⟨y0,y1,y2,y3,y4,y5⟩:=hrb.m6;have yf0:=hrb.f 0;have yf1:=hrb.f 1;have yf2:=hrb.f 2;have yf3:=hrb.f 3;have yf4:=hrb.f 4;have yf5:=hrb.f 5;obtain⟨z0,z1,z2,z3,z4,z5⟩:=n7.m6
    go_wp2_with fail
    obtain⟨u2,hW2⟩:=nmd (((((((((w7).setCell ⟨RB,0,none⟩ (.int .i64 kd)).setCell ⟨RB,1,none⟩ (.string so)).setCell ⟨RB,2,none⟩ (.int .i64 nu)).setCell ⟨RB,3,none⟩ (.int .i64 ix)).setCell ⟨RB,4,none⟩ (.string st)).setCell ⟨RB,5,none⟩ (.int .i64 (r3:Int)))));have hb2:BoxN u2 (RB) 33 #[.int .i64 kd,.string so,.int .i64 nu,.int .i64 ix,.string st,.int .i64 (r3:Int)]:=by rw[<-hW2];exact ((((((hrb.setAt 0 _).setAt 1 _).setAt 2 _).setAt 3 _).setAt 4 _).setAt 5 _)
    have g2:Fr [RB] (w7) u2:=by rw[<-hW2];exact ((((((Fq [RB] (w7)).set (.inl (by simp)) _).set (.inl (by simp)) _).set (.inl (by simp)) _).set (.inl (by simp)) _).set (.inl (by simp)) _).set (.inl (by simp)) _
    rw[hW2];clear hW2;clear y0 y1 y2 y3 y4 y5 yf0 yf1 yf2 yf3 yf4 yf5;obtain⟨y0,y1,y2,y3,y4,y5⟩:=hb2.m6;refine bodyPost_ret (v:=.tuple #[plV nm so st (r3:Int),.int .i64 (n:Int)]) (by simp[results,results12,plV,HEN.out.1,HEN.out.2.1,HEN.out.2.2.1,go_sem,y0,y1,y2,y3,y4,y5]) rfl ?_;exact⟨nm,so,st,r3,n,rfl,⟨HCK.out,by unfold encO;rw[HEN.out.2.2.2.1,HEN.out.2.2.2.2.1]⟩,(by omega),hnm,(HF2.out.then (H7.out.2.1)).trans g2 (by simp;have:=HZ.out;omega)⟩
   ·have hg1:decide ((0:Int)<(s.size:Int))=true:=decide_eq_true (by omega)
    have hg2:(0:Int)<(s.size:Int):=by omega
    have hs0:((s.size:Int)=0)=False:=eq_false (by omega)
    obtain⟨v,hv,hvs⟩:∃ v:Nat,at_ % (s.size:Int)=(v:Int)/\v<s.size:=by
     have h2:=Int.emod_nonneg at_ (show (s.size:Int)≠0 by omega);have h3:=Int.emod_lt_of_pos at_ (show 0<(s.size:Int) by omega);exact⟨(at_ % (s.size:Int)).toNat,by omega,by omega⟩
    have hvt:at_.tmod (s.size:Int)=(v:Int):=by rw[Int.tmod_eq_emod_of_nonneg HAF.out.2.2.1];exact hv
    have x2:w7.cell? ⟨w.heap.size,2,none⟩=some (.int .u8 at_):=(HN.out.1.fr H7.out.2.1 (by simp)).c 2;have z5:=n7.c 5;have z5f:=n7.f 5;clear HGT
    go_upto_region 12 with fail
    obtain⟨w8,hw8⟩:=nmd (w7.setCell ⟨D,5,none⟩ (.int .i64 (v:Int)));have n8:BoxN w8 D 33 #[.int .i64 kd,.string so,.int .i64 nu,.int .i64 ix,.string st,.int .i64 (v:Int)]:=by rw[<-hw8];exact n7.setAt 5 _
    have f8:Fr [D] w7 w8:=by rw[<-hw8];exact (Fq [D] w7).set (.inl (by simp)) _
    have g8:Fr [] w2 w8:=H7.out.2.1.trans f8 (by simp;have h1:=H5.out.2.1.size;omega);rw[hw8];have hv6:v<=65536:=by have:=H7.out.1;omega
    clear hw8 z5 z5f x2 n7 hv hvt;have hrb:=HN.out.2.fr (g8) (by simp);obtain⟨y0,y1,y2,y3,y4,y5⟩:=hrb.m6;have yf0:=hrb.f 0;have yf1:=hrb.f 1;have yf2:=hrb.f 2;have yf3:=hrb.f 3;have yf4:=hrb.f 4;have yf5:=hrb.f 5;obtain⟨z0,z1,z2,z3,z4,z5⟩:=n8.m6
    go_wp2_with fail
    obtain⟨u2,hW2⟩:=nmd (((((((((w8).setCell ⟨RB,0,none⟩ (.int .i64 kd)).setCell ⟨RB,1,none⟩ (.string so)).setCell ⟨RB,2,none⟩ (.int .i64 nu)).setCell ⟨RB,3,none⟩ (.int .i64 ix)).setCell ⟨RB,4,none⟩ (.string st)).setCell ⟨RB,5,none⟩ (.int .i64 (v:Int)))));have hb2:BoxN u2 (RB) 33 #[.int .i64 kd,.string so,.int .i64 nu,.int .i64 ix,.string st,.int .i64 (v:Int)]:=by rw[<-hW2];exact ((((((hrb.setAt 0 _).setAt 1 _).setAt 2 _).setAt 3 _).setAt 4 _).setAt 5 _)
    have g2:Fr [RB] (w8) u2:=by rw[<-hW2];exact ((((((Fq [RB] (w8)).set (.inl (by simp)) _).set (.inl (by simp)) _).set (.inl (by simp)) _).set (.inl (by simp)) _).set (.inl (by simp)) _).set (.inl (by simp)) _
    rw[hW2];clear hW2;clear y0 y1 y2 y3 y4 y5 yf0 yf1 yf2 yf3 yf4 yf5;obtain⟨y0,y1,y2,y3,y4,y5⟩:=hb2.m6;refine bodyPost_ret (v:=.tuple #[plV nm so st (v:Int),.int .i64 (n:Int)]) (by simp[results,results12,plV,HEN.out.1,HEN.out.2.1,HEN.out.2.2.1,go_sem,y0,y1,y2,y3,y4,y5]) rfl ?_;exact⟨nm,so,st,v,n,rfl,⟨HCK.out,by unfold encO;rw[HEN.out.2.2.2.1,HEN.out.2.2.2.2.1]⟩,hv6,hnm,(HF2.out.then (g8)).trans g2 (by simp;have:=HZ.out;omega)⟩
section
variable {P:Program} {w w':World} {t k e:TypeId} {r:Nat} {key z v:Value} {kl:Lit} {kvs:List (Value × Value)}
theorem MapIs.entry_new (K:Maps.Keyed P k) (ht:P.underlying t=some (.map k e)) (hz:∀ u:World,(zeroValue e).run P u=.ok z u) (h:MapIs P k w r kvs) (hkey:keyOf P k key=some kl) (hn:∀ p∈kvs,p.1≠key) :
 ∃ st w1,(Instr.mapEntry t (.map (some r)) key).run P w=.ok (.tuple #[z,.int .i64 st]) w1/\Fr [r] w w1/\MapIs P k w1 r (kvs++[(key,z)]) /\
  ∀ w2 val,w2.heap[r]?=w1.heap[r]?->∃ w3,(Instr.entryStore t (.map (some r)) (.int .i64 st) val).run P w2=.ok () w3/\Fr [r] w2 w3/\MapIs P k w3 r (kvs++[(key,val)]):=by
 obtain⟨es,clock,h1,h2,h3,rfl⟩:=h
 rcases K.find w hkey es.toList h3 with ⟨f1,f2⟩ | ⟨j,e0,f1,f2,f3⟩
 ·have hkeys:∀ u:Value,∀ x∈(es.push ⟨key,u,clock⟩).toList,∃ l,keyOf P k x.key=some l:=by
   intro u x hx;simp only[Array.toList_push,List.mem_append,lms] at hx
   rcases hx with hx | rfl
   ·exact h3 x hx
   ·exact⟨kl,hkey⟩
  refine⟨((clock:Nat):Int),{ w with heap:=w.heap.setIfInBounds r (.map (es.push ⟨key,z,clock⟩) (clock+1)) },?_,⟨rfl,rfl,rfl,by simp,fun j _ hj=>(MapKept.heap_set h1).2 j (by simpa using hj)⟩,⟨_,_,(MapKept.heap_set h1).1,MapKept.stamped_push h2 f2,hkeys z,by simp⟩,fun w2 val hw2=>?_⟩
  ·simp[Instr.mapEntry,run_underlying ht,MapKept.run_getObj_map h1,K.check w false hkey,f1,hz,goInt,MapKept.run_setObj_map _ h1,Result.andThen]
  ·have hw3:w2.heap[r]?=some (.map (es.push ⟨key,z,clock⟩) (clock+1)):=hw2.trans (MapKept.heap_set h1).1
   have hidx:(es.push ⟨key,z,clock⟩).findIdx? (fun e=>((e.born:Nat):Int) == ((clock:Nat):Int))=some es.size:=by
    rw[WideElems.findIdx_arr]
    have:=WideElems.findIdx_born (l:=(es.push ⟨key,z,clock⟩).toList) (j:=es.size) (e0:=⟨key,z,clock⟩) (by
     simp only[Array.toList_push,List.map_append,List.map_cons,List.map_nil];refine List.nodup_append.2 ⟨h2.2.1,by simp,fun a ha c hc e1=>?_⟩;simp only[lms] at hc;obtain⟨x,hx,rfl⟩:=List.mem_map.1 ha;have:=h2.1 x hx;omega) (by simp)
    exact this
   have hmod:(es.push ⟨key,z,clock⟩).modify es.size (fun e=>{ e with val:=val })=es.push ⟨key,val,clock⟩:=by
    apply Array.ext'
    rw[Array.toList_modify,Array.toList_push,Array.toList_push,<-Array.length_toList,WideElems.modify_last]
   refine⟨{ w2 with heap:=w2.heap.setIfInBounds r (.map (es.push ⟨key,val,clock⟩) (clock+1)) },?_,⟨rfl,rfl,rfl,by simp,fun j _ hj=>(MapKept.heap_set hw3).2 j (by simpa using hj)⟩,_,_,(MapKept.heap_set hw3).1,MapKept.stamped_push h2 f2,hkeys val,by simp⟩;simp[Instr.entryStore,MapKept.run_getObj_map hw3,asInt,asIntOf,hidx,hmod,MapKept.run_setObj_map _ hw3,Result.andThen]
 ·exact absurd f3 (hn _ (List.mem_map.2 ⟨e0,lmg f2,rfl⟩))
end
end Go.Proofs.YtlpmiimgacfmkaaGreatDoor
