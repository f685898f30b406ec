/- Part of the proof. -/
import Derived.Test.YtlpmiimgacfmkaaGreatDoorRLv3
set_option linter.all false
set_option maxHeartbeats 16000000
set_option maxRecDepth 100000
namespace Go.Proofs.YtlpmiimgacfmkaaGreatDoor
open Go.Proofs.Tryz
open Go.RowKit Go.Shelf
theorem xe(rt:Nm)(hr32:rt.length=32)(nm:ON)(so st:ByteArray)(P n m:Nat)(A:Option Addr)(c:Nat)(ps:List PF)(as_:List AG)(w:World)(hok:Ok w)(hn:eX nm=0)(hen:fg nm=.agg #[.int .i64 nm.kind,.string so,.int .i64 nm.number,.int .i64 nm.index,.string st])(hP:P<65536)(hp:PrL w n A c ps)(hpl:ps.length=m)(hm0:0<m)(hm12:m<=12)(hal:as_.length=m)
 (hwf:∀a∈as_,mN a=true/\a.r.length<=10/\a.w.length<=10)
 (hV:∀(j:Nat) (p:PF) (a:AG),ps[j]?=some p->as_[j]?=some a->∀W,Fr [] w W->Calls prog 66 #[fu rt,.agg (p.cs n).toArray] W (km W a)) :
 Calls prog 23 #[fu rt,yS nm.kind so nm.number nm.index st (P:Int) (n:Int) (.slice A m c)] w (kH nm P (ps.map PF.i) as_ w):=by
 have hcr:(eP rt).length=32:=by rw[eU,hr32]
 obtain⟨kd,hkd⟩:=eR (nm.kind);obtain⟨nu,hnu⟩:=eR (nm.number);obtain⟨xx,hxx⟩:=eR (nm.index);rw[hkd,hnu,hxx]at hen ⊢;obtain⟨w1,hw1⟩:=eR ((w).alloc (.cells (eP rt).toArray 57));have hz1:(w1).heap.size=w.heap.size+1:=by rw[<-hw1,kX];try omega
 have n1:(w1).rowIs (w.heap.size) 57 32 (λj=>.int .u8 ((rt.getD j 0).toNat:Int)):=by have h0:=gS (t:=57) (w) hcr;rw[show w.heap.size=(w).heap.size from by first|rfl|omega,<-hw1];exact h0
 have f1:Fr [] (w) w1:=by rw[<-hw1];exact(Fq [] (w)).alloc _
 obtain⟨w2,hw2,hz2,n2,f2⟩:=il w1 #[.int .i64 kd,.string so,.int .i64 nu,.int .i64 xx,.string st,.int .i64 (P:Int),.int .i64 (n:Int),.slice A m c] 39 (w.heap.size+1);obtain⟨w3,hw3,hz3,n3,f3⟩:=il w2 #[.int .u8 0,.int .i64 0,.slice none 0 0,.slice none 0 0,.slice none 0 0,.slice none 0 0] 64 (w.heap.size+1+1);obtain⟨w4,hw4,hz4,n4,f4⟩:=il w3 #[.int .u8 0,.int .i64 0,.slice none 0 0,.slice none 0 0,.slice none 0 0,.slice none 0 0] 64 (w.heap.size+1+1+1);have f34:=f3.then f4;have m2:=n2.fr f34 (by simp);have hf:=((f1.then f2).then f3).then f4;obtain⟨x0,x1,x2,x3,x4,x5,x6,x7⟩:=m2.m8;have hck:=oq nm w4 (hok.fr0 hf) hn (by have:=ur hn;omega);rw[hen]at hck;have HC:=Hd hck;have HW:=Hd (An hw1 (An hw2 (An hw3 hw4)));have HRW:=Hd (eS n1 ((f2.then f3).then f4) (by simp));have HN:=Hd (An m2 (An (n3.fr f4 (by simp)) (An n4 hf)));have HP:=Hd (An hp (An hpl (An hal (An hwf (An hn (An hen hok))))));have HV:=Hd hV;have hm1:((m:Int) == 0)=false:=by simp;omega
 have hm2:decide ((4096:Int)<(m:Int))=false:=by simp;omega
 have hP1:decide ((P:Int)<0)=false:=by simp
 have hP2:decide ((65536:Int)<=(P:Int))=false:=by simp;omega
 clear hV hw1 hw2 hw3 hw4 n1 n2 n3 n4 m2 f1 f2 f3 f4 f34 hz1 hz2 hz3 hz4 hf hok hp hwf hn hen hkd hnu hxx hck hpl hal;unfold yS fu
 go_enter func23,ntmps23
 go_upto_region 2 with fail
 rw[HW.out.1,HW.out.2.1,HW.out.2.2.1,HW.out.2.2.2]
 go_upto_region 9 with(go_at_call 53;(with_reducible refine HC.out.mono ?_);rintro e w5 ⟨rfl,hf5⟩;have H5:=Hd hf5;have m3:=HN.out.1.fr hf5 (by simp);have y5:w5.cell? ⟨w.heap.size+1,5,none⟩=some (.int .i64 (P:Int)):=m3.c 5;clear hf5 m3)
 clear x0 x1 x2 x3 x4 x5 x6 x7
 go_upto_region 11 with fail
 clear y5 hP1 hP2 hm1 hm2;obtain⟨w6,hw6,hz6,n6,f6⟩:=il w5 #[.int .u8 0,.int .i64 0,.slice none 0 0,.slice none 0 0,.slice none 0 0,.slice none 0 0] 64 w5.heap.size
 go_wp2_with fail
 try rw[hw6]
 obtain⟨CB,hCB⟩:=eR (w5.heap.size);have HCB:=Hd hCB;rw[hCB]at n6 ⊢;have HV0:Hid (VIg (.int .u8 0) (.int .i64 0) w5 w6 CB 0 0 0 0 none none [] []):=Hd ⟨n6,Own.nil _ _ _,Own.nil _ _ _,⟨by simp[eV],by simp[eV],by rw[HCB.out];exact fV _⟩,by simp[eV],by simp[eV],by simp[eV],f6⟩;clear n6 f6 hz6 hw6 hCB HC HW
 go_loopw [9,10] (λs i W=>∃(j c' ic kc:Nat) (A' IA KA:Option Addr) (ys:List AX),j<=m/\i=.int .i64 (j:Int)/\s=.slice A' j c'/\ActO W A' j c' ys/\ys.map AX.a=as_.take j/\VIg (.int .u8 0) (.int .i64 0) w5 W CB j j ic kc IA KA (jX ((ps.map PF.i).take j)) ((as_.take j).flatMap lo)/\(∀q∈eV A',w5.heap.size<=q)/\vP (ps.map PF.i) j) (λ_ i _=>m - (intOf i).toNat)
 case atStart=>exact⟨0,0,0,0,none,none,none,[],Nat.zero_le _,rfl,rfl,⟨Own.nil _ _ _,by simp,rfl⟩,by simp,HV0.out,by simp[eV],λk hk=>by omega⟩
 case round =>
  clear HV0;obtain⟨j,c',ic,kc,A',IA,KA,ys,hj,rfl,rfl,hao,hya,hvi,hA',hasc⟩:=hrel;have HF:=Hd (An hao (An hya (An hvi (An hA' hasc))));have x7:wr.cell? ⟨w.heap.size+1,7,none⟩=some (.slice A m c):=(HN.out.1.fr (H5.out.then hvi.fr) (by simp)).c 7;clear hao hya hvi hA' hasc
  by_cases hlt:j<m
  ·have hlt3:(j:Int)<(m:Int):=by omega
   have hwr4:Fr [] w4 wr:=H5.out.then HF.out.2.2.1.fr;have hrow:Row wr wr.heap.size 4 A m (ps.flatMap (PF.cs n)):=by have h:=(HP.out.1.own.fr (HN.out.2.2.2.then hwr4) (by simp)).rd;unfold Rd at h;rw[HP.out.2.1]at h;exact h
   obtain⟨g,off,rfl,hgl,hcl⟩:=fo (wG n) hrow (by omega);obtain⟨p,hpj⟩:∃x,ps[j]?=some x:=⟨_,gx (by rw[HP.out.2.1];exact hlt)⟩;obtain⟨a,haj⟩:∃x,as_[j]?=some x:=⟨_,gx (by rw[HP.out.2.2.1];exact hlt)⟩;have hvc:=HV.out j p a hpj haj;have hcx:=hcl j p hpj;have hgi:(ps.map PF.i).getD j 0=p.i:=by rw[List.getD_eq_getElem?_getD,List.getElem?_map,hpj];rfl
   have hIL:jX ((ps.map PF.i).take (j+1))=jX ((ps.map PF.i).take j)++[.int .i64 (p.i:Int)]:=by
    rw[mj (x:=p.i) (by rw[List.getElem?_map,hpj];rfl)];unfold jX;rw[List.map_append];rfl
   have hKL:(as_.take (j+1)).flatMap lo=(as_.take j).flatMap lo++lo a:=by
    rw[mj haj,List.flatMap_append];simp
   have HX:=Hd (An hpj (An haj (An hgi (An hIL hKL))));obtain⟨s,hs,_,_⟩:=eT p.s;obtain⟨pi,hpi⟩:=eR (p.i);obtain⟨PA,hPA⟩:=eR (p.A);obtain⟨pd,hpd⟩:=eR (p.d.length);obtain⟨pc,hpc⟩:=eR (p.c);unfold PF.cs at hcx hvc;unfold fu at hvc;rw[hs,hpi,hPA,hpd,hpc]at hcx hvc;have z0:wr.cell? ⟨g,off+j*4,none⟩=some (.int .i64 (pi:Int)):=hcx 0 (by omega);have z1:wr.cell? ⟨g,off+j*4+1,none⟩=some (.int .i64 (n:Int)):=hcx 1 (by omega);have z2:wr.cell? ⟨g,off+j*4+2,none⟩=some (.string s):=hcx 2 (by omega);have z3:wr.cell? ⟨g,off+j*4+3,none⟩=some (.slice PA pd pc):=hcx 3 (by omega);obtain⟨u4,hu4,hz4,n4,f4⟩:=il wr #[.int .i64 (pi:Int),.int .i64 (n:Int),.string s,.slice PA pd pc] 53 wr.heap.size;have HVC:=Hd hvc;have HCL:=Hd hcl;have HPI:=Hd hpi;clear hvc hcl hcx hrow hpj haj hgi hs hpi hPA hpd hpc hz4 hIL hKL
   go_upto_region 17 with fail
   try rw[hu4]
   clear z0 z1 z2 z3 hu4 x7;have hm4:=HN.out.1.fr (hwr4.then f4) (by simp);have p1:=n4.k1;have r6:=hm4.k6;have HN4:=Hd (An n4 (An hm4 (An f4 (hwr4.then f4))));clear n4 hm4 f4 hwr4;obtain⟨PB,hPB⟩:=eR (wr.heap.size);rw[hPB]at HN4 p1 hgl ⊢
   go_upto_region 19 with fail
   clear p1 r6;obtain⟨gb,hgb⟩:=eR (decide (0<j/\(ps.map PF.i).getD j 0<=(ps.map PF.i).getD (j - 1) 0))
   go_cut [92]from 79 to 92 (λs W=>s=.bool gb/\Fr [] u4 W)
   case first =>
    rcases Nat.eq_zero_or_pos j with hj0|hj0
    ·have hd0:decide ((0:Int)<(j:Int))=false:=by simp;omega
     have hd1:decide (0<j)=false:=by simp;omega
     have HG:=Hd (show gb=false by rw[<-hgb];simp;omega);clear hgb;have HSS:=Hd (λ(W:World) (hW:Fr [] u4 W)=>((HN4.out.1.fr hW (by simp)).c 0:W.cell? ⟨PB,0,none⟩=some (.int .i64 (pi:Int))));refine eY (λW=>Fr [] u4 W) (by kernel_rfl) (by kernel_rfl) ((Fq _ u4).drew) ?_
     repeat(
      first
      | go_big_quiet_skip
      | (go_big_quiet_want;first|(go_big_quiet_op;go_big_quiet_on)|(apply Exists.intro;refine⟨λW hW=>?_,?_⟩;(· obtain a0':=HSS.out W hW;go_simp;first|done|with_reducible exact rfl|with_reducible exact⟨rfl,rfl⟩ );simp only[qq];go_big_quiet_on))
      )
     refine wpQuiet_nil ?_;intro v5 hv5;have HV5:=Hd hv5;clear hv5
     go_wp2_with fail
     go_meet
     exact⟨by rw[HG.out],HV5.out⟩
    ·obtain⟨jm,hjm⟩:=eR (j - 1)
     have hd0:decide ((0:Int)<(j:Int))=true:=by simp;omega
     have hd1:decide (0<j)=true:=by simp;omega
     have hwj:IntKind.i64.wrap ((j:Int) - 1)=(jm:Int):=by simp[IntKind.wrap,IntKind.bits,IntKind.signed];omega
     have hwm:IntKind.i64.wrap (jm:Int)=(jm:Int):=by simp[IntKind.wrap,IntKind.bits,IntKind.signed];omega
     have hjmm:(jm:Int)<(m:Int):=by omega
     have hjm2:jm<m:=by omega
     obtain⟨q,hqj⟩:∃x,ps[jm]?=some x:=⟨_,gx (by rw[HP.out.2.1];exact hjm2)⟩;have hqc:=HCL.out jm q hqj 0 (by omega);have hq0:(ps.map PF.i).getD jm 0=q.i:=by rw[List.getD_eq_getElem?_getD,List.getElem?_map,hqj];rfl
     obtain⟨qi,hqi⟩:=eR (q.i);unfold PF.cs at hqc;rw[hqi]at hqc hq0;have hgl2:g<wr.heap.size:=by rw[hPB];exact hgl
     have zq:∀W,Fr [] u4 W->W.cell? ⟨g,off+jm*4,none⟩=some (.int .i64 (qi:Int)):=λW hW=>((HN4.out.2.2.1.then hW).cell (p:=⟨g,off+jm*4,none⟩) hgl2 (by simp)).trans hqc;have HG:=Hd (show decide (pi<=qi)=gb by rw[<-hgb,HX.out.2.2.1,hjm,hq0,HPI.out];simp[hj0]);have hle:decide ((pi:Int)<=(qi:Int))=decide (pi<=qi):=by simp
     clear hgb hqj hqc hq0 hqi hgl2;have HSS:=Hd (λ(W:World) (hW:Fr [] u4 W)=>(⟨(HN4.out.1.fr hW (by simp)).c 0,(HN4.out.2.1.fr hW (by simp)).c 7,zq W hW⟩:W.cell? ⟨PB,0,none⟩=some (.int .i64 (pi:Int))/\W.cell? ⟨w.heap.size+1,7,none⟩=some (.slice (some ⟨g,off,none⟩) m c)/\W.cell? ⟨g,off+jm*4,none⟩=some (.int .i64 (qi:Int))));clear zq;refine eY (λW=>Fr [] u4 W) (by kernel_rfl) (by kernel_rfl) ((Fq _ u4).drew) ?_
     repeat(
      first
      | go_big_quiet_skip
      | (go_big_quiet_want;first|(go_big_quiet_op;go_big_quiet_on)|(apply Exists.intro;refine⟨λW hW=>?_,?_⟩;(· obtain⟨a0',b0',c0'⟩:=HSS.out W hW;go_simp;first|done|with_reducible exact rfl|with_reducible exact⟨rfl,rfl⟩ );simp only[qq];go_big_quiet_on))
      )
     refine wpQuiet_nil ?_;intro v5 hv5;have HV5:=Hd hv5;clear hv5
     go_wp2_with fail
     go_meet
     exact⟨by rw[HG.out],HV5.out⟩
   case rest =>
    obtain⟨rfl,hwc⟩:=hcut
    cases gb with
    | true =>
     have hbad:=of_decide_eq_true hgb;have hres:ju nm P (ps.map PF.i) as_=.error 32:=by unfold ju;rw[if_pos (tk (by rw[List.length_map,HP.out.2.1];exact hlt) hbad.1 hbad.2)]
     have HWC:=Hd (HN4.out.2.2.2.then hwc);clear hgb hbad hwc;have hb4:=HN.out.2.1.fr HWC.out (by simp);have hb6:=HN.out.2.2.1.fr HWC.out (by simp);obtain⟨tn0,tn1,tn2,tn3,tn4,tn5⟩:=hb6.m6;obtain⟨t0,t1,t2,t3,t4,t5⟩:=hb4.m6;have tf0:=hb4.f 0;have tf1:=hb4.f 1;have tf2:=hb4.f 2;have tf3:=hb4.f 3;have tf4:=hb4.f 4;have tf5:=hb4.f 5
     go_wp2_with fail
     obtain⟨u2,hW2,hb2,g2⟩:=qN (wc) (w.heap.size+1+1) hb4 (.int .u8 0) (.int .i64 0) (.slice none 0 0) (.slice none 0 0) (.slice none 0 0) (.slice none 0 0);rw[hW2];clear hW2;clear t0 t1 t2 t3 t4 t5 tf0 tf1 tf2 tf3 tf4 tf5 tn0 tn1 tn2 tn3 tn4 tn5;obtain⟨t0,t1,t2,t3,t4,t5⟩:=hb2.m6
     try simp only[Exit.inBlock,Exit.then]
     refine bodyPost_ret (v:=.tuple #[iU,.int .i64 32]) (by simp[results,results23,iU,go_sem,t0,t1,t2,t3,t4,t5]) rfl ?_;unfold kH;rw[hres]
     exact⟨rfl,(HN.out.2.2.2.then HWC.out).trans g2 (by simp;omega)⟩
    | false =>
     have hgood:=of_decide_eq_false hgb
     have HAS:=Hd (show vP (ps.map PF.i) (j+1)from λk hk=>by
      rcases Nat.lt_or_eq_of_le (Nat.le_of_lt_succ hk)with h|rfl
      ·exact HF.out.2.2.2.2 k h
      ·rcases Nat.eq_zero_or_pos k with h|h
       ·exact .inl h
       ·exact .inr (by have:=not_and.1 hgood h;omega))
     obtain⟨v5,hv5⟩:=eR (wc);rw[hv5]at hwc ⊢;have n5:=HN4.out.1.fr hwc (by simp);have HV5:=Hd (An (HN4.out.2.2.2.then hwc) (An (HN4.out.2.2.1.then hwc) n5));clear hgb hgood hwc hv5;obtain⟨p0,p1,p2,p3⟩:=n5.m4;have HRT:=Hd (fH (eS HRW.out HV5.out.1 (by simp)) hr32);have hvv:=HVC.out v5 (HN.out.2.2.2.then HV5.out.1);have HVv:=Hd hvv;obtain⟨ti,hti⟩:=eR (a.k.rnd);obtain⟨ph,hph⟩:=eR (a.k.phase);obtain⟨ix,hix⟩:=eR (a.k.idx);obtain⟨nr,hnr⟩:=eR (a.r.length);obtain⟨nw,hnw⟩:=eR (a.w.length);have hvl:∀x:AX,x.a=a->x.v=.agg #[.int .i64 ti,.int .i64 ph,.int .i64 ix,.string x.sl,.slice x.A nr x.c,.slice x.B nw x.d]/\x.cs=[.int .i64 ti,.int .i64 ph,.int .i64 ix,.string x.sl,.slice x.A nr x.c,.slice x.B nw x.d]:=λx hx=>by unfold AX.v AG.val AX.cs;rw[hx,hti,hph,hix,hnr,hnw];exact⟨rfl,rfl⟩
     have hkc:∀sx,ft a.k.lin=.string sx->lo a=[.int .i64 ti,.int .i64 ph,.int .i64 ix,.string sx]:=λsx hx=>by unfold lo;rw[hti,hph,hix,hx]
     have HVL:=Hd (An hvl hkc);clear n5 hvv hvl hkc hti hph hix hnr hnw HVC HCL
     go_upto_region 24 with(first
      | (refine fF (by rfl) ?_;(with_reducible refine wp_load_mid 57 (.tmp 2) rfl w.heap.size 0 rfl (eP rt) (.array 32 5) HRT.out (by kernel_rfl) rfl (by rw[hcr];kernel_rfl) ?_))
      | (go_at_call 66;(with_reducible refine HVv.out.mono ?_);rintro e v6 ⟨x,hxa,rfl,hxo,hf6,_,_⟩;have HX6:=Hd (An hxa (An hxo (An hf6 (HVL.out.1 x hxa).2)));rw[(HVL.out.1 x hxa).1];clear hxo hf6))
     clear p0 p1 p2 p3;obtain⟨sl,hsl⟩:=eR (x.sl);obtain⟨XA,hXA⟩:=eR (x.A);obtain⟨XB,hXB⟩:=eR (x.B);obtain⟨xc,hxc⟩:=eR (x.c);obtain⟨xd,hxd⟩:=eR (x.d);have hcs:=HX6.out.2.2.2;have hkk:=HVL.out.2 x.sl (by rw[<-hxa];exact HX6.out.2.1.s);rw[hsl,hXA,hXB,hxc,hxd]at hcs ⊢;rw[hsl]at hkk;obtain⟨v7,hw7,hz7,n7,f7⟩:=il v6 #[.int .i64 ti,.int .i64 ph,.int .i64 ix,.string sl,.slice XA nr xc,.slice XB nw xd] 91 v6.heap.size
     try rw[hw7]
     obtain⟨XN,hXN⟩:=eR (v6.heap.size);rw[hXN]at n7 ⊢;obtain⟨q0,q1,q2,q3,q4,q5⟩:=n7.m6;have h37:Fr [] wr v7:=(HV5.out.2.1.then HX6.out.2.2.1).then f7;have HCS:=Hd (An hcs hkk);have HO7:=Hd (An (HF.out.1.own.fr h37 (by simp)) (An h37 (An f7 (An n7 (HV5.out.2.2.fr (HX6.out.2.2.1.then f7) (by simp))))));have hPX:PB<XN:=by rw[<-hXN];exact(HV5.out.2.2.fr HX6.out.2.2.1 (by simp)).lt
     clear hcs hkk hw7 hz7 n7 f7 h37 hsl hXA hXB hxc hxd hxa;obtain⟨ii,hii,iz0,iz1,iz2⟩:∃i,(prog).info? 91=some i/\i.zero=some (.agg rG)/\i.size=6/\i.bytes=88:=info_parts (by kernel_rfl)
     go_upto_region 25 with(at_builtin;(with_reducible refine fp (w:=v7) rfl (.tmp 104) (.tmp 106) 22 rfl 91 ii _ 6 88 underlying22 hii iz0 iz1 iz2 rfl (by decide) A' j c' (ys.flatMap AX.cs) rfl HO7.out.1 1 1 [.int .i64 ti,.int .i64 ph,.int .i64 ix,.string sl,.slice XA nr xc,.slice XB nw xd] 91 rfl rfl (by simp[Value.oneCell']) (by unfold maxLen;omega) (by omega) ?_);intro A2 c2 v8 ho hf hs;have H8:=Hd (An ho (An hf hs));clear ho hf hs)
     clear q0 q1 q2 q3 q4 q5 hii iz0 iz1 iz2;have hnt7:NoT ([3,89,64]++[53]) v7 (eV A'):=NoT.own HO7.out.1 (by decide);have hnA:NoT [91] v7 (eV A')->True:=λ_=>trivial;have HV8:=Hd ((HF.out.2.2.1.fr0 HO7.out.2.1).frT H8.out.2.1 (hnt7.sub (by simp)) HF.out.2.2.2.1);have hPB8:BoxN v8 PB 53 #[.int .i64 (pi:Int),.int .i64 (n:Int),.string s,.slice PA pd pc]:=HO7.out.2.2.2.2.frT H8.out.2.1 hnt7 (by simp)
     have hXN8:BoxN v8 XN 91 #[.int .i64 ti,.int .i64 ph,.int .i64 ix,.string sl,.slice XA nr xc,.slice XB nw xd]:=HO7.out.2.2.2.1.fr H8.out.2.1 (λhm=>by
      have h1:=HF.out.1.own.lt XN hm;have h2:=(HV5.out.2.1.then HX6.out.2.2.1).size;omega)
     clear hnt7 hnA hPX;have hBX:=An HV8.out.box (An hPB8 hXN8);have hC:C25 CB PB XN #[.int .u8 0,.int .i64 0,.slice IA j ic,.slice KA j kc,.slice none 0 0,.slice none 0 0] #[.int .i64 (pi:Int),.int .i64 (n:Int),.string s,.slice PA pd pc] #[.int .i64 ti,.int .i64 ph,.int .i64 ix,.string sl,.slice XA nr xc,.slice XB nw xd] v8.drew:=⟨hBX.1.drew,hBX.2.1.drew,hBX.2.2.drew⟩;have hC0:C25 CB PB XN #[.int .u8 0,.int .i64 0,.slice IA j ic,.slice KA j kc,.slice none 0 0,.slice none 0 0] #[.int .i64 (pi:Int),.int .i64 (n:Int),.string s,.slice PA pd pc] #[.int .i64 ti,.int .i64 ph,.int .i64 ix,.string sl,.slice XA nr xc,.slice XB nw xd] v8:=hBX;have HSS:=Hd (λ(W:World) (hW:C25 CB PB XN #[.int .u8 0,.int .i64 0,.slice IA j ic,.slice KA j kc,.slice none 0 0,.slice none 0 0] #[.int .i64 (pi:Int),.int .i64 (n:Int),.string s,.slice PA pd pc] #[.int .i64 ti,.int .i64 ph,.int .i64 ix,.string sl,.slice XA nr xc,.slice XB nw xd] W)=>(⟨hW.1.c 2,hW.1.c 3,hW.2.1.c 0,hW.2.2.c 0,hW.2.2.c 1,hW.2.2.c 2,hW.2.2.c 3⟩:W.cell? ⟨CB,2,none⟩=some (.slice IA j ic)/\W.cell? ⟨CB,3,none⟩=some (.slice KA j kc)/\W.cell? ⟨PB,0,none⟩=some (.int .i64 (pi:Int))/\W.cell? ⟨XN,0,none⟩=some (.int .i64 ti)/\W.cell? ⟨XN,1,none⟩=some (.int .i64 ph)/\W.cell? ⟨XN,2,none⟩=some (.int .i64 ix)/\W.cell? ⟨XN,3,none⟩=some (.string sl)));clear hPB8 hXN8 hBX hXN;refine xb (a:=?vb) (λa' W'=>∃(T1 T2:Value) (IB KB:Option Addr) (jc lc2:Nat),a'={ tmps:=((((((((((((((Act.tmps ?vb).setIfInBounds 108 (.pointer (some ⟨CB,2,none⟩))).setIfInBounds 109 (.slice IA j ic)).setIfInBounds 110 (.pointer (some ⟨PB,0,none⟩))).setIfInBounds 111 (.int .i64 (pi:Int))).setIfInBounds 112 (T1)).setIfInBounds 113 (.slice IB (j+1) jc)).setIfInBounds 114 (.pointer (some ⟨CB,3,none⟩))).setIfInBounds 115 (.slice KA j kc)).setIfInBounds 116 (.pointer (some ⟨XN,0,none⟩))).setIfInBounds 117 (.agg #[.int .i64 ti,.int .i64 ph,.int .i64 ix,.string sl])).setIfInBounds 118 (T2)).setIfInBounds 119 (.slice KB (j+1) lc2)).setIfInBounds 120 (.pointer (some ⟨CB,2,none⟩))).setIfInBounds 121 (.pointer (some ⟨CB,3,none⟩)),defers:=[] }/\VIg (.int .u8 0) (.int .i64 0) w5 W' CB (j+1) (j+1) jc lc2 IB KB (jX ((ps.map PF.i).take j)++[.int .i64 (pi:Int)]) ((as_.take j).flatMap lo++[.int .i64 ti,.int .i64 ph,.int .i64 ix,.string sl])/\Fr (CB::(eV IA++eV KA)) v8 W') ?_ ?_
     ·refine eZ (C25 CB PB XN #[.int .u8 0,.int .i64 0,.slice IA j ic,.slice KA j kc,.slice none 0 0,.slice none 0 0] #[.int .i64 (pi:Int),.int .i64 (n:Int),.string s,.slice PA pd pc] #[.int .i64 ti,.int .i64 ph,.int .i64 ix,.string sl,.slice XA nr xc,.slice XB nw xd]) 13 (by kernel_rfl) ?_ (by decide)
      show fb 0 ..
      iterate 4 (refine gB rfl ?_;try simp only[qq])
      show fb 6 ..
      iterate 4 (refine gB rfl ?_;try simp only[qq])
      refine gO (i:=4) (j:=10) (by kernel_rfl) (by decide) (by decide) rfl rfl (λK hK=>?_) (λK hK=>?_)
      ·rw[if_pos (by rfl)]
       go_simp
       obtain⟨Q1,hQ⟩:=eR ((v8.alloc (.cells #[.int .i64 (pi:Int)] 3)).drew);have nI:BoxN Q1 (v8).heap.size 3 #[.int .i64 (pi:Int)]:=by rw[<-hQ];first|exact BoxN.new _ _ _|exact(BoxN.new _ _ _).drew
       have fI:Fr [] (v8) Q1:=by rw[<-hQ];first|exact(Fq [] _).alloc _|exact((Fq [] _).alloc _).drew
       rw[hQ];clear hQ;have f01:Fr [] v8 Q1:=fI;have hC1:=hC0.frT f01 NoT.nil;refine hK _ _ hC1 ?_;clear hK K hC
       try simp only[qq]
       refine gO (i:=5) (j:=10) (by kernel_rfl) (by decide) (by decide) rfl rfl (λK hK=>?_) (λK hK=>?_)
       ·rw[if_pos (by rfl)]
        have hio1:=HV8.out.io.fr f01 (by simp);have hko1:=HV8.out.ko.fr f01 (by simp);obtain⟨ii,hii,iz0,iz1,iz2⟩:=kt;refine gF (.tmp 109) (.tmp 112) 36 rfl 3 ii _ 1 8 underlying36 hii iz0 iz1 iz2 rfl (by decide) IA j ic _ rfl hio1 ⟨v8.heap.size,0,none⟩ 1 1 [.int .i64 (pi:Int)] rfl rfl (λjx u hu=>by rw[fx,nI.c jx];simpa using hu) (by simp[Value.oneCell']) (by unfold maxLen;omega) (by omega) ?_;intro IB jc Q2 hoI hfI hsI;have hC2:=hC1.frT hfI (NoT.own hio1 (by decide));have hko2:=hko1.frT hfI (NoT.own (ts:=[89]) hio1 (by decide)) (by simp);refine hK _ _ hC2 ?_;clear hK K ii hii iz0 iz1 iz2
        try simp only[qq]
        have hC:=hC2
        show fb 12 ..
        refine gB rfl ?_;try simp only[qq];refine hO (i:=10) rfl λK hK=>?_;go_simp
        obtain⟨Q3,hQ⟩:=eR (Q2.alloc (.cells #[.int .i64 ti,.int .i64 ph,.int .i64 ix,.string sl] 89));have nK:BoxN Q3 (Q2).heap.size 89 #[.int .i64 ti,.int .i64 ph,.int .i64 ix,.string sl]:=by rw[<-hQ];first|exact BoxN.new _ _ _|exact(BoxN.new _ _ _).drew
        have fK:Fr [] (Q2) Q3:=by rw[<-hQ];first|exact(Fq [] _).alloc _|exact((Fq [] _).alloc _).drew
        rw[hQ];clear hQ;have hC3:=hC2.frT fK NoT.nil;refine hK _ _ hC3 ?_;clear hK K hC
        try simp only[qq]
        refine hO (i:=11) rfl λK hK=>?_;have hko3:=hko2.fr fK (by simp);obtain⟨ik,hik,kz0,kz1,kz2⟩:=lX;refine gF (.tmp 115) (.tmp 118) 60 rfl 89 ik _ 4 40 underlying60 hik kz0 kz1 kz2 rfl (by decide) KA j kc _ rfl hko3 ⟨Q2.heap.size,0,none⟩ 1 1 [.int .i64 ti,.int .i64 ph,.int .i64 ix,.string sl] rfl rfl (λjx u hu=>by rw[fx,nK.c jx];simpa using hu) (by simp[Value.oneCell']) (by unfold maxLen;omega) (by omega) ?_;intro KB lc2 Q4 hoK hfK hsK;have hC4:=hC3.frT hfK (NoT.own hko3 (by decide));have hoI4:=(hoI.fr fK (by simp)).frT hfK (NoT.own (ts:=[3]) hko3 (by decide)) (by simp);have hfr4:Fr (eV IA++eV KA) v8 Q4:=(((f01.mono (by simp)).trans hfI (λq hq=>.inl (List.mem_append_left _ hq))).trans fK (by simp)).trans hfK (λq hq=>.inl (List.mem_append_right _ hq));refine hK _ _ hC4 ?_;clear hK K ik hik kz0 kz1 kz2
        try simp only[qq]
        refine eW ⟨by kernel_rfl,?_⟩;simp only[qG,qH];have hz1:=f01.size;have hz3:=(f01.then (Fq _ _)).size;have hz2:=hfI.size;have hz4:=fK.size;have e2:=hC4.1.k2;have e3:=hC4.1.k3;have g2:=hC4.1.f 2;have g3:=hC4.1.f 3
        go_wp2_with fail
        have fZ:Fr [CB] (Q4) (((Q4).setCell ⟨CB,2,none⟩ (.slice IB (j+1) jc)).setCell ⟨CB,3,none⟩ (.slice KB (j+1) lc2)):=((Fq [CB] (Q4)).st _).st _;have bZ:=(hC4.1.setAt 2 (.slice IB (j+1) jc)).setAt 3 (.slice KB (j+1) lc2);exact⟨_,_,IB,KB,jc,lc2,rfl,HV8.out.put2 hfr4 hoI4 hoK (λq hq=>(hsI q hq).imp_right (λh=>by omega)) (λq hq=>(hsK q hq).imp_right (λh=>by omega)) fZ bZ,(hfr4.mono (λq hq=>.inl (List.mem_cons_of_mem _ hq))).trans fZ (λq hq=>.inl (by simp at hq;rw[hq];exact List.mem_cons_self))⟩
       ·rw[if_pos (by rfl)]
        go_simp
        obtain⟨Q2,hQ⟩:=eR (Q1.alloc (.cells #[.int .i64 ti,.int .i64 ph,.int .i64 ix,.string sl] 89));have nK:BoxN Q2 (Q1).heap.size 89 #[.int .i64 ti,.int .i64 ph,.int .i64 ix,.string sl]:=by rw[<-hQ];first|exact BoxN.new _ _ _|exact(BoxN.new _ _ _).drew
        have fK:Fr [] (Q1) Q2:=by rw[<-hQ];first|exact(Fq [] _).alloc _|exact((Fq [] _).alloc _).drew
        rw[hQ];clear hQ;have f02:Fr [] v8 Q2:=f01.then fK;have hC2:=hC1.frT fK NoT.nil;have nI2:=nI.fr fK (by simp);refine hK _ _ hC2 ?_;clear hK K
        try simp only[qq]
        have hio2:=HV8.out.io.fr f02 (by simp);have hko2:=HV8.out.ko.fr f02 (by simp);have hC:=hC2;refine hO (i:=5) rfl λK hK=>?_;obtain⟨ii,hii,iz0,iz1,iz2⟩:=kt;refine gF (.tmp 109) (.tmp 112) 36 rfl 3 ii _ 1 8 underlying36 hii iz0 iz1 iz2 rfl (by decide) IA j ic _ rfl hio2 ⟨v8.heap.size,0,none⟩ 1 1 [.int .i64 (pi:Int)] rfl rfl (λjx u hu=>by rw[fx,nI2.c jx];simpa using hu) (by simp[Value.oneCell']) (by unfold maxLen;omega) (by omega) ?_;intro IB jc Q3 hoI hfI hsI;have hC3:=hC2.frT hfI (NoT.own hio2 (by decide));have hko3:=hko2.frT hfI (NoT.own (ts:=[89]) hio2 (by decide)) (by simp);have nK3:=nK.frT hfI (NoT.own (ts:=[89]) hio2 (by decide)) (by simp);refine hK _ _ hC3 ?_;clear hK K ii hii iz0 iz1 iz2 hC
        try simp only[qq]
        have hC:=hC3
        show fb 12 ..
        refine gB rfl ?_;try simp only[qq];refine hO (i:=11) rfl λK hK=>?_;obtain⟨ik,hik,kz0,kz1,kz2⟩:=lX;refine gF (.tmp 115) (.tmp 118) 60 rfl 89 ik _ 4 40 underlying60 hik kz0 kz1 kz2 rfl (by decide) KA j kc _ rfl hko3 ⟨Q1.heap.size,0,none⟩ 1 1 [.int .i64 ti,.int .i64 ph,.int .i64 ix,.string sl] rfl rfl (λjx u hu=>by rw[fx,nK3.c jx];simpa using hu) (by simp[Value.oneCell']) (by unfold maxLen;omega) (by omega) ?_;intro KB lc2 Q4 hoK hfK hsK;have hC4:=hC3.frT hfK (NoT.own hko3 (by decide));have hoI4:=hoI.frT hfK (NoT.own (ts:=[3]) hko3 (by decide)) (by simp);have hfr4:Fr (eV IA++eV KA) v8 Q4:=((f02.mono (by simp)).trans hfI (λq hq=>.inl (List.mem_append_left _ hq))).trans hfK (λq hq=>.inl (List.mem_append_right _ hq));refine hK _ _ hC4 ?_;clear hK K ik hik kz0 kz1 kz2 hC
        try simp only[qq]
        refine eW ⟨by kernel_rfl,?_⟩;simp only[qG,qH];have hz1:=f02.size;have hz2:=hfI.size;have e2:=hC4.1.k2;have e3:=hC4.1.k3;have g2:=hC4.1.f 2;have g3:=hC4.1.f 3
        go_wp2_with fail
        have fZ:Fr [CB] (Q4) (((Q4).setCell ⟨CB,2,none⟩ (.slice IB (j+1) jc)).setCell ⟨CB,3,none⟩ (.slice KB (j+1) lc2)):=((Fq [CB] (Q4)).st _).st _;have bZ:=(hC4.1.setAt 2 (.slice IB (j+1) jc)).setAt 3 (.slice KB (j+1) lc2);exact⟨_,_,IB,KB,jc,lc2,rfl,HV8.out.put2 hfr4 hoI4 hoK (λq hq=>(hsI q hq).imp_right (λh=>by omega)) (λq hq=>(hsK q hq).imp_right (λh=>by omega)) fZ bZ,(hfr4.mono (λq hq=>.inl (List.mem_cons_of_mem _ hq))).trans fZ (λq hq=>.inl (by simp at hq;rw[hq];exact List.mem_cons_self))⟩
      ·rw[if_pos (by rfl)]
       go_simp
       obtain⟨Q1,hQ⟩:=eR ((v8.alloc (.cells #[.int .i64 ti,.int .i64 ph,.int .i64 ix,.string sl] 89)).drew);have nK:BoxN Q1 (v8).heap.size 89 #[.int .i64 ti,.int .i64 ph,.int .i64 ix,.string sl]:=by rw[<-hQ];first|exact BoxN.new _ _ _|exact(BoxN.new _ _ _).drew
       have fK:Fr [] (v8) Q1:=by rw[<-hQ];first|exact(Fq [] _).alloc _|exact((Fq [] _).alloc _).drew
       rw[hQ];clear hQ;have f01:Fr [] v8 Q1:=fK;have hC1:=hC0.frT f01 NoT.nil;refine hK _ _ hC1 ?_;clear hK K hC
       try simp only[qq]
       have hC:=hC1;refine hO (i:=4) rfl λK hK=>?_;go_simp
       obtain⟨Q2,hQ⟩:=eR (Q1.alloc (.cells #[.int .i64 (pi:Int)] 3));have nI:BoxN Q2 (Q1).heap.size 3 #[.int .i64 (pi:Int)]:=by rw[<-hQ];first|exact BoxN.new _ _ _|exact(BoxN.new _ _ _).drew
       have fI:Fr [] (Q1) Q2:=by rw[<-hQ];first|exact(Fq [] _).alloc _|exact((Fq [] _).alloc _).drew
       rw[hQ];clear hQ;have f02:Fr [] v8 Q2:=f01.then fI;have hC2:=hC1.frT fI NoT.nil;have nK2:=nK.fr fI (by simp);refine hK _ _ hC2 ?_;clear hK K hC
       try simp only[qq]
       have hio2:=HV8.out.io.fr f02 (by simp);have hko2:=HV8.out.ko.fr f02 (by simp);have hC:=hC2;refine hO (i:=5) rfl λK hK=>?_;obtain⟨ii,hii,iz0,iz1,iz2⟩:=kt;refine gF (.tmp 109) (.tmp 112) 36 rfl 3 ii _ 1 8 underlying36 hii iz0 iz1 iz2 rfl (by decide) IA j ic _ rfl hio2 ⟨Q1.heap.size,0,none⟩ 1 1 [.int .i64 (pi:Int)] rfl rfl (λjx u hu=>by rw[fx,nI.c jx];simpa using hu) (by simp[Value.oneCell']) (by unfold maxLen;omega) (by omega) ?_;intro IB jc Q3 hoI hfI hsI;have hC3:=hC2.frT hfI (NoT.own hio2 (by decide));have hko3:=hko2.frT hfI (NoT.own (ts:=[89]) hio2 (by decide)) (by simp);have nK3:=nK2.frT hfI (NoT.own (ts:=[89]) hio2 (by decide)) (by simp);refine hK _ _ hC3 ?_;clear hK K ii hii iz0 iz1 iz2 hC
       try simp only[qq]
       have hC:=hC3
       show fb 12 ..
       refine gB rfl ?_;try simp only[qq];refine hO (i:=11) rfl λK hK=>?_;obtain⟨ik,hik,kz0,kz1,kz2⟩:=lX;refine gF (.tmp 115) (.tmp 118) 60 rfl 89 ik _ 4 40 underlying60 hik kz0 kz1 kz2 rfl (by decide) KA j kc _ rfl hko3 ⟨v8.heap.size,0,none⟩ 1 1 [.int .i64 ti,.int .i64 ph,.int .i64 ix,.string sl] rfl rfl (λjx u hu=>by rw[fx,nK3.c jx];simpa using hu) (by simp[Value.oneCell']) (by unfold maxLen;omega) (by omega) ?_;intro KB lc2 Q4 hoK hfK hsK;have hC4:=hC3.frT hfK (NoT.own hko3 (by decide));have hoI4:=hoI.frT hfK (NoT.own (ts:=[3]) hko3 (by decide)) (by simp);have hfr4:Fr (eV IA++eV KA) v8 Q4:=((f02.mono (by simp)).trans hfI (λq hq=>.inl (List.mem_append_left _ hq))).trans hfK (λq hq=>.inl (List.mem_append_right _ hq));refine hK _ _ hC4 ?_;clear hK K ik hik kz0 kz1 kz2 hC
       try simp only[qq]
       refine eW ⟨by kernel_rfl,?_⟩;simp only[qG,qH];have hz1:=f02.size;have hz2:=hfI.size;have e2:=hC4.1.k2;have e3:=hC4.1.k3;have g2:=hC4.1.f 2;have g3:=hC4.1.f 3
       go_wp2_with fail
       have fZ:Fr [CB] (Q4) (((Q4).setCell ⟨CB,2,none⟩ (.slice IB (j+1) jc)).setCell ⟨CB,3,none⟩ (.slice KB (j+1) lc2)):=((Fq [CB] (Q4)).st _).st _;have bZ:=(hC4.1.setAt 2 (.slice IB (j+1) jc)).setAt 3 (.slice KB (j+1) lc2);exact⟨_,_,IB,KB,jc,lc2,rfl,HV8.out.put2 hfr4 hoI4 hoK (λq hq=>(hsI q hq).imp_right (λh=>by omega)) (λq hq=>(hsK q hq).imp_right (λh=>by omega)) fZ bZ,(hfr4.mono (λq hq=>.inl (List.mem_cons_of_mem _ hq))).trans fZ (λq hq=>.inl (by simp at hq;rw[hq];exact List.mem_cons_self))⟩
     rintro a' v9 ⟨T1,T2,IB,KB,jc,lc2,rfl,hv9,hf9⟩;simp only[qA,qB,qC];have HV9:=Hd (An hv9 hf9);clear hv9 hf9 hC hC0 HSS HRT HVv HVL
     go_wp2_with fail
     go_roundw
     case rel =>
      have hnt:NoT sy v7 (eV A'):=NoT.own HO7.out.1 (by decide);have hn8:NoT (91::sy) v8 (CB::(eV IA++eV KA)):=NoT.app (S:=[CB]) (NoT.box HV8.out.box (by decide)) (NoT.app (NoT.own HV8.out.io (by decide)) (NoT.own HV8.out.ko (by decide)));have hn8':=hn8.sub (ts':=sy) (λt ht=>List.mem_cons_of_mem _ ht);refine⟨j+1,c2,jc,lc2,A2,IB,KB,ys++[x],by omega,by go_num,rfl,⟨?_,λy hy=>?_,by simp[HF.out.1.len]⟩,?_,by rw[HX.out.2.2.2.1,HX.out.2.2.2.2,HPI.out,HCS.out.2];exact HV9.out.1,λq hq=>?_,HAS.out⟩
      ·have h:=H8.out.1
       rw[<-HCS.out.1]at h;rw[List.flatMap_append];have h2:=h.frT HV9.out.2 hn8 (by simp);simpa using h2
      ·rcases List.mem_append.1 hy with hy|hy
       ·exact(((HF.out.1.each y hy).fr0 HO7.out.2.1).frT H8.out.2.1 hnt).frT HV9.out.2 hn8'
       ·obtain rfl:y=x:=by simpa using hy
        exact((HX6.out.2.1.fr0 HO7.out.2.2.1).frT H8.out.2.1 hnt).frT HV9.out.2 hn8'
      ·rw[List.map_append,HF.out.2.1,List.take_add_one,HX.out.2.1]
       simp[HX6.out.1]
      ·rcases H8.out.2.2 q hq with h|h
       ·exact HF.out.2.2.2.1 q h
       ·exact Nat.le_trans (HF.out.2.2.1.fr.then HO7.out.2.1).size h
     case measure=>simp[intOf];omega
  ·obtain rfl:j=m:=by omega
   clear hlt;have hasc':nC (ps.map PF.i)=true:=vQ (by rw[List.length_map,HP.out.2.1];exact HF.out.2.2.2.2);have hya':ys.map AX.a=as_:=by rw[HF.out.2.1];exact List.take_of_length_le (by rw[HP.out.2.2.1];exact fV _)
   have hvi:=HF.out.2.2.1;rw[List.take_of_length_le (by rw[List.length_map,HP.out.2.1];exact fV _),List.take_of_length_le (by rw[HP.out.2.2.1];exact fV _)]at hvi;have HA:=Hd (An HF.out.1 (An hya' (An hvi (An hasc' (H5.out.then hvi.fr)))));clear hya' hvi hasc';obtain⟨lq,hlq⟩:∃lq,j=lq+1:=⟨j - 1,by omega⟩;subst hlq;have hl1:((lq+1:Nat):Int) - 1=(lq:Int):=by omega
   go_upto_region 27 with fail
   clear hl1;clear x7;obtain⟨g4,o4,rfl,hbl4,hcl4⟩:=fo jV HA.out.1.own.row (by omega);obtain⟨y,hy⟩:∃y,ys[lq]?=some y:=⟨_,gx (by rw[HA.out.1.len];omega)⟩;have hcy:=hcl4 lq y hy;have hyo:=HA.out.1.each y (iu hy);have hgl:as_.getLast?=some y.a:=by rw[<-HA.out.2.1,List.getLast?_eq_getElem?,List.length_map,HA.out.1.len,List.getElem?_map,show lq+1 - 1=lq from by omega,hy];rfl
   have hwy:=HP.out.2.2.2.1 y.a (List.mem_of_getLast? hgl);obtain⟨ti,hti⟩:=eR (y.a.k.rnd);obtain⟨ph,hph⟩:=eR (y.a.k.phase);obtain⟨kx,hkx⟩:=eR (y.a.k.idx);obtain⟨yr,hyr⟩:=eR (y.a.r.length);obtain⟨yw,hyw⟩:=eR (y.a.w.length);obtain⟨sl,hsl⟩:=eR (y.sl);obtain⟨yA,hyA⟩:=eR (y.A);obtain⟨yB,hyB⟩:=eR (y.B);obtain⟨yc,hyc⟩:=eR (y.c);obtain⟨yd,hyd⟩:=eR (y.d);have hval:y.a.val y.sl y.A y.c y.B y.d=.agg #[.int .i64 ti,.int .i64 ph,.int .i64 kx,.string sl,.slice yA yr yc,.slice yB yw yd]:=by unfold AG.val;rw[hti,hph,hkx,hyr,hyw,hsl,hyA,hyB,hyc,hyd]
   unfold AX.cs at hcy;rw[hti,hph,hkx,hyr,hyw,hsl,hyA,hyB,hyc,hyd]at hcy;obtain⟨k2,so2,cn2,ci2,st2,sv,ab,isb,hTP,hW2⟩:=rU (nA y.a.w nm);obtain⟨e0,e1,e2,e3,e4,e5⟩:=F7 hcy
   have HL4:Hid (∀W,Fr [] wr W->Calls prog 67 #[.agg #[.int .i64 ti,.int .i64 ph,.int .i64 kx,.string sl,.slice yA yr yc,.slice yB yw yd],.agg #[.int .i64 kd,.string so,.int .i64 nu,.int .i64 xx,.string st]] W (fm W (.tuple #[.agg #[.int .i64 k2,.string so2,.int .i64 cn2,.int .i64 ci2,.string st2,.string sv,.bool ab],.bool isb]))):=Hd (λW hW=>by
    have h:=vO y.a y.sl y.A y.B y.c y.d nm W ((hyo.fr0 hW).chw) HP.out.2.2.2.2.1 (λx hx=>(kE hwy.1 x hx).1) (by have:=hwy.2.2;omega);rw[hval,HP.out.2.2.2.2.2.1,hTP]at h;exact h)
   have HY:=Hd (An hgl hW2);have hn4:=HN.out.1.fr HA.out.2.2.2.2 (by simp);have HSS:=Hd (λ(W:World) (hW:Fr [] wr W)=>(show W.cell? ⟨g4,o4+lq*6,none⟩=some (.int .i64 ti)/\W.cell? ⟨g4,o4+lq*6+1,none⟩=some (.int .i64 ph)/\W.cell? ⟨g4,o4+lq*6+2,none⟩=some (.int .i64 kx)/\W.cell? ⟨g4,o4+lq*6+3,none⟩=some (.string sl)/\W.cell? ⟨g4,o4+lq*6+4,none⟩=some (.slice yA yr yc)/\W.cell? ⟨g4,o4+lq*6+5,none⟩=some (.slice yB yw yd)/\W.cell? ⟨w.heap.size+1,0,none⟩=some (.int .i64 kd)/\W.cell? ⟨w.heap.size+1,1,none⟩=some (.string so)/\W.cell? ⟨w.heap.size+1,2,none⟩=some (.int .i64 nu)/\W.cell? ⟨w.heap.size+1,3,none⟩=some (.int .i64 xx)/\W.cell? ⟨w.heap.size+1,4,none⟩=some (.string st)from⟨(hW.cell hbl4 (by simp)).trans e0,(hW.cell hbl4 (by simp)).trans e1,(hW.cell hbl4 (by simp)).trans e2,(hW.cell hbl4 (by simp)).trans e3,(hW.cell hbl4 (by simp)).trans e4,(hW.cell hbl4 (by simp)).trans e5,(hn4.fr hW (by simp)).c 0,(hn4.fr hW (by simp)).c 1,(hn4.fr hW (by simp)).c 2,(hn4.fr hW (by simp)).c 3,(hn4.fr hW (by simp)).c 4⟩));clear hcy hyo hwy hgl hW2 hti hph hkx hyr hyw hsl hyA hyB hyc hyd hval hTP hy hn4 e0 e1 e2 e3 e4 e5;have HG4:=Hd (An hbl4 hcl4);clear hbl4 hcl4;have hl2:(lq:Int)<(lq:Int)+1:=by omega
   have hwl:IntKind.i64.wrap (lq:Int)=(lq:Int):=by simp[IntKind.wrap,IntKind.bits,IntKind.signed];omega
   have hC:Fr [] wr wr.drew:=(Fq _ wr).drew;refine jk (a:=?va) (λa' W'=>∃D,a'={ tmps:=(((((((((((((Act.tmps ?va).setIfInBounds 126 (.slice (some ⟨g4,o4,none⟩) (lq+1) c')).setIfInBounds 127 (.int .i64 (lq:Int))).setIfInBounds 128 (.pointer (some ⟨g4,o4+lq*6,none⟩))).setIfInBounds 129 (.agg #[.int .i64 ti,.int .i64 ph,.int .i64 kx,.string sl,.slice yA yr yc,.slice yB yw yd])).setIfInBounds 130 (.pointer (some ⟨w.heap.size+1,0,none⟩))).setIfInBounds 131 (.pointer (some ⟨w.heap.size+1,0,none⟩))).setIfInBounds 132 (.agg #[.int .i64 kd,.string so,.int .i64 nu,.int .i64 xx,.string st])).setIfInBounds 133 (.tuple #[.agg #[.int .i64 k2,.string so2,.int .i64 cn2,.int .i64 ci2,.string st2,.string sv,.bool ab],.bool isb])).setIfInBounds 125 (.tuple #[.agg #[.int .i64 k2,.string so2,.int .i64 cn2,.int .i64 ci2,.string st2,.string sv,.bool ab],.bool isb])).setIfInBounds 134 (.agg #[.int .i64 k2,.string so2,.int .i64 cn2,.int .i64 ci2,.string st2,.string sv,.bool ab])).setIfInBounds 135 (.bool isb)).setIfInBounds 15 (.pointer (some ⟨D,0,none⟩))).setIfInBounds 16 (.bool isb),defers:=[] }/\BoxN W' D 95 #[.int .i64 k2,.string so2,.int .i64 cn2,.int .i64 ci2,.string st2,.string sv,.bool ab]/\Fr [] wr W'/\wr.heap.size<=D) ?_ ?_
   ·refine eZ (λW=>Fr [] wr W) 13 (by kernel_rfl) ?_ (by decide)
    show fb 0 ..
    iterate 7 (refine gB rfl ?_;try simp only[qq])
    refine gO (i:=7) (j:=11) (by kernel_rfl) (by decide) (by decide) rfl rfl (λK hK=>?_) (λK hK=>?_)
    ·rw[if_pos (by rfl)]
     go_simp
     go_at_call 67
     (with_reducible refine(HL4.out _ hC).mono ?_);rintro e E1 ⟨rfl,hf⟩;have hC1:=hC.then hf;refine hK _ _ hC1 ?_;clear hK K hC hf
     try simp only[qq]
     have hC:=hC1
     show fb 8 ..
     iterate 3 (refine gB rfl ?_;try simp only[qq])
     refine hO (i:=11) rfl λK hK=>?_;go_simp
     obtain⟨E2,hE2⟩:=eR (E1.alloc (.cells #[.int .i64 0,.string ⟨#[]⟩,.int .i64 0,.int .i64 0,.string ⟨#[]⟩,.string ⟨#[]⟩,.bool false] 95));have n2:BoxN E2 E1.heap.size 95 #[.int .i64 0,.string ⟨#[]⟩,.int .i64 0,.int .i64 0,.string ⟨#[]⟩,.string ⟨#[]⟩,.bool false]:=by rw[<-hE2];exact BoxN.new E1 _ _
     have hC2:Fr [] wr E2:=by rw[<-hE2];exact hC1.alloc _
     have hD:wr.heap.size<=E1.heap.size:=hC1.size;rw[hE2];refine hK _ _ hC2 ?_;clear hK K hE2 hC hC1
     try simp only[qq]
     have hC:=hC2;obtain⟨u0,u1,u2,u3,u4,u5,u6⟩:=n2.m7;have v0:=n2.f 0;have v1:=n2.f 1;have v2:=n2.f 2;have v3:=n2.f 3;have v4:=n2.f 4;have v5:=n2.f 5;have v6:=n2.f 6;refine hO (i:=12) rfl λK hK=>?_;go_simp
     obtain⟨E3,hW2,n3,f3⟩:=AP (E2) (E1.heap.size) n2 (.int .i64 k2) (.string so2) (.int .i64 cn2) (.int .i64 ci2) (.string st2) (.string sv) (.bool ab);rw[hW2];clear hW2;have hC3:Fr [] wr E3:=hC2.trans f3 (by simp <;> omega);refine hK _ _ hC3 ?_;clear hK K u0 u1 u2 u3 u4 u5 u6 v0 v1 v2 v3 v4 v5 v6
     try simp only[qq]
     refine eW ⟨by kernel_rfl,?_⟩;simp only[qG,qH]
     go_wp2_with fail
     exact⟨_,rfl,n3,hC3,hD⟩
    ·rw[if_pos (by rfl)]
     go_simp
     obtain⟨E1,hE1,n1,hC1⟩:=sf wr #[.int .i64 0,.string ⟨#[]⟩,.int .i64 0,.int .i64 0,.string ⟨#[]⟩,.string ⟨#[]⟩,.bool false] 95;rw[hE1];refine hK _ _ hC1 ?_;clear hK K hE1 hC
     try simp only[qq]
     refine hO (i:=7) rfl λK hK=>?_;go_simp
     go_at_call 67
     (with_reducible refine(HL4.out _ hC1).mono ?_);rintro e E2 ⟨rfl,hf⟩;have hC2:=hC1.then hf;have n2:=n1.fr hf (by simp);have hD:wr.heap.size<=wr.heap.size:=fV _;refine hK _ _ hC2 ?_;clear hK K hC1 hf n1
     try simp only[qq]
     have hC:=hC2
     show fb 8 ..
     iterate 3 (refine gB rfl ?_;try simp only[qq])
     have hC:=hC2;obtain⟨u0,u1,u2,u3,u4,u5,u6⟩:=n2.m7;have v0:=n2.f 0;have v1:=n2.f 1;have v2:=n2.f 2;have v3:=n2.f 3;have v4:=n2.f 4;have v5:=n2.f 5;have v6:=n2.f 6;refine hO (i:=12) rfl λK hK=>?_;go_simp
     obtain⟨E3,hW2,n3,f3⟩:=AP (E2) (wr.heap.size) n2 (.int .i64 k2) (.string so2) (.int .i64 cn2) (.int .i64 ci2) (.string st2) (.string sv) (.bool ab);rw[hW2];clear hW2;have hC3:Fr [] wr E3:=hC2.trans f3 (by simp <;> omega);refine hK _ _ hC3 ?_;clear hK K u0 u1 u2 u3 u4 u5 u6 v0 v1 v2 v3 v4 v5 v6
     try simp only[qq]
     refine eW ⟨by kernel_rfl,?_⟩;simp only[qG,qH]
     go_wp2_with fail
     exact⟨_,rfl,n3,hC3,hD⟩
   rintro a' w7 ⟨D,rfl,hDb,hf7,hDs⟩;simp only[qA,qB,qC];have HF7:=Hd (HA.out.2.2.2.2.then hf7);have HD7:=Hd hDb;have HDS:=Hd hDs;have HF47:=Hd hf7;clear hf7 hDs HL4 HSS hC
   cases isb with
   | false =>
    have hres:ju nm P (ps.map PF.i) as_=.error 8:=by
     rcases HY.out.2 with⟨_,h⟩|⟨h,_⟩
     ·unfold ju;rw[if_neg (by rw[HA.out.2.2.2.1];decide),HY.out.1];show (match nA y.a.w nm with|none=>_|some c=>_)=_;rw[h]
     ·cases h
    clear hDb;have hb4:=HN.out.2.1.fr HF7.out (by simp);have hb6:=HN.out.2.2.1.fr HF7.out (by simp);obtain⟨tn0,tn1,tn2,tn3,tn4,tn5⟩:=hb6.m6;obtain⟨t0,t1,t2,t3,t4,t5⟩:=hb4.m6;have tf0:=hb4.f 0;have tf1:=hb4.f 1;have tf2:=hb4.f 2;have tf3:=hb4.f 3;have tf4:=hb4.f 4;have tf5:=hb4.f 5
    go_wp2_with fail
    obtain⟨u2,hW2,hb2,g2⟩:=qN (w7) (w.heap.size+1+1) hb4 (.int .u8 0) (.int .i64 0) (.slice none 0 0) (.slice none 0 0) (.slice none 0 0) (.slice none 0 0);rw[hW2];clear hW2;clear t0 t1 t2 t3 t4 t5 tf0 tf1 tf2 tf3 tf4 tf5 tn0 tn1 tn2 tn3 tn4 tn5;obtain⟨t0,t1,t2,t3,t4,t5⟩:=hb2.m6
    try simp only[Exit.inBlock,Exit.then]
    refine bodyPost_ret (v:=.tuple #[iU,.int .i64 8]) (by simp[results,results23,iU,go_sem,t0,t1,t2,t3,t4,t5]) rfl ?_;unfold kH;rw[hres]
    exact⟨rfl,(HN.out.2.2.2.then HF7.out).trans g2 (by simp;omega)⟩
   | true =>
    obtain⟨x,hx,hxa,hxv⟩:∃x,nA y.a.w nm=some x/\x.a=ab/\sv.data.toList=x.v:=by
     rcases HY.out.2 with⟨h,_⟩|⟨_,h⟩
     ·cases h
     ·exact h
    obtain⟨d0,d1,d2,d3,d4,d5,d6⟩:=hDb.m7;have hvz:sv.size=x.v.length:=by rw[<-hxv,Array.length_toList,ByteArray.size_data]
    cases ab with
    | true =>
     have hres:ju nm P (ps.map PF.i) as_=.error 8:=oQ HA.out.2.2.2.1 HY.out.1 hx (.inl hxa);clear hvz hxa hxv hx hDb d0 d1 d2 d3 d4 d5;have hb4:=HN.out.2.1.fr HF7.out (by simp);have hb6:=HN.out.2.2.1.fr HF7.out (by simp);obtain⟨tn0,tn1,tn2,tn3,tn4,tn5⟩:=hb6.m6;obtain⟨t0,t1,t2,t3,t4,t5⟩:=hb4.m6;have tf0:=hb4.f 0;have tf1:=hb4.f 1;have tf2:=hb4.f 2;have tf3:=hb4.f 3;have tf4:=hb4.f 4;have tf5:=hb4.f 5
     go_wp2_with fail
     obtain⟨u2,hW2,hb2,g2⟩:=qN (w7) (w.heap.size+1+1) hb4 (.int .u8 0) (.int .i64 0) (.slice none 0 0) (.slice none 0 0) (.slice none 0 0) (.slice none 0 0);rw[hW2];clear hW2;clear t0 t1 t2 t3 t4 t5 tf0 tf1 tf2 tf3 tf4 tf5 tn0 tn1 tn2 tn3 tn4 tn5;obtain⟨t0,t1,t2,t3,t4,t5⟩:=hb2.m6
     try simp only[Exit.inBlock,Exit.then]
     refine bodyPost_ret (v:=.tuple #[iU,.int .i64 8]) (by simp[results,results23,iU,go_sem,t0,t1,t2,t3,t4,t5]) rfl ?_;unfold kH;rw[hres]
     exact⟨rfl,(HN.out.2.2.2.then HF7.out).trans g2 (by simp;omega)⟩
    | false =>
     have x5:w7.cell? ⟨w.heap.size+1,5,none⟩=some (.int .i64 (P:Int)):=(HN.out.1.fr HF7.out (by simp)).c 5
     by_cases hle:x.v.length<=P
     ·have hres:ju nm P (ps.map PF.i) as_=.error 8:=oQ HA.out.2.2.2.1 HY.out.1 hx (.inr hle)
      have hdl:((sv.size:Int)<=(P:Int)):=by omega
      clear hvz hxa hxv hx hDb d0 d1 d2 d3 d4 hle;have hb4:=HN.out.2.1.fr HF7.out (by simp);have hb6:=HN.out.2.2.1.fr HF7.out (by simp);obtain⟨tn0,tn1,tn2,tn3,tn4,tn5⟩:=hb6.m6;obtain⟨t0,t1,t2,t3,t4,t5⟩:=hb4.m6;have tf0:=hb4.f 0;have tf1:=hb4.f 1;have tf2:=hb4.f 2;have tf3:=hb4.f 3;have tf4:=hb4.f 4;have tf5:=hb4.f 5
      go_wp2_with fail
      obtain⟨u2,hW2,hb2,g2⟩:=qN (w7) (w.heap.size+1+1) hb4 (.int .u8 0) (.int .i64 0) (.slice none 0 0) (.slice none 0 0) (.slice none 0 0) (.slice none 0 0);rw[hW2];clear hW2;clear t0 t1 t2 t3 t4 t5 tf0 tf1 tf2 tf3 tf4 tf5 tn0 tn1 tn2 tn3 tn4 tn5;obtain⟨t0,t1,t2,t3,t4,t5⟩:=hb2.m6
      try simp only[Exit.inBlock,Exit.then]
      refine bodyPost_ret (v:=.tuple #[iU,.int .i64 8]) (by simp[results,results23,iU,go_sem,t0,t1,t2,t3,t4,t5]) rfl ?_;unfold kH;rw[hres];exact⟨rfl,(HN.out.2.2.2.then HF7.out).trans g2 (by simp;omega)⟩
     ·have hdl:¬((sv.size:Int)<=(P:Int)):=by omega
      have HVR:=Hd (rV (P:=P) HA.out.2.2.2.1 HY.out.1 hx (by rw[hxa];exact λh=>h.elim (λh=>nomatch h) hle));have hsx:=Ct hxv 9 underlying9 P (by omega);obtain⟨bv,hbv⟩:=eR (x.v.getD P 0);rw[hbv]at hsx;have HBV:=Hd hbv;clear hvz hxa hxv hx hDb hle hbv
      go_upto_region 30 with fail
      clear d0 d1 d2 d3 d4 d5 d6 x5 hdl;obtain⟨ib,hib,hix⟩:=Cs.of_own HA.out.2.2.1.io (by omega);subst hib;obtain⟨p,hp⟩:∃p,ps[lq]?=some p:=⟨_,gx (by rw[HP.out.2.1];omega)⟩;have HLA:Hid ((ps.map PF.i).getLastD 0=p.i):=Hd (by rw[List.getLastD_eq_getLast?,List.getLast?_eq_getElem?,List.length_map,HP.out.2.1,List.getElem?_map,show lq+1 - 1=lq from by omega,hp];rfl);have hii:(jX (ps.map PF.i))[lq]?=some (.int .i64 (p.i:Int)):=by unfold jX;rw[List.getElem?_map,List.getElem?_map,hp];rfl
      obtain⟨pl,hpl⟩:=eR (p.i);rw[hpl]at hii HLA;have HIX:=Hd (An hix hii);have HV7:=Hd (HA.out.2.2.1.fr0 HF47.out);have hbx:=HN.out.1.fr HF7.out (by simp);have hne:ib≠CB:=by have:=HV7.out.d.1;simpa [eV,eq_comm]using this
      have hDC:D≠CB/\w.heap.size+1≠CB:=by
       have h1:=HD7.out.lt;have h2:=HDS.out;have h3:=HA.out.2.2.1.box.lt;have h4:=HN.out.1.lt;have h5:=HA.out.2.2.1.d.2.2;have h6:=H5.out.size;exact⟨by omega,by omega⟩
      have hc7:(λW:World=>W.cell? ⟨D,5,none⟩=some (.string sv)/\W.cell? ⟨w.heap.size+1,5,none⟩=some (.int .i64 (P:Int))/\W.cell? ⟨CB,2,none⟩=some (.slice (some ⟨ib,0,none⟩) (lq+1) ic)/\W.cell? ⟨ib,lq,none⟩=some (.int .i64 (pl:Int))) w7.drew:=⟨HD7.out.c 5,hbx.c 5,HV7.out.box.c 2,(HIX.out.1.fr0 HF47.out).2 lq _ HIX.out.2⟩;have HSS:=Hd (λ(W:World) (hW:W.cell? ⟨D,5,none⟩=some (.string sv)/\W.cell? ⟨w.heap.size+1,5,none⟩=some (.int .i64 (P:Int))/\W.cell? ⟨CB,2,none⟩=some (.slice (some ⟨ib,0,none⟩) (lq+1) ic)/\W.cell? ⟨ib,lq,none⟩=some (.int .i64 (pl:Int)))=>hW);have HC7:=Hd (λ(W:World) (hW:Fr [CB] w7 W) (hb:W.cell? ⟨CB,2,none⟩=some (.slice (some ⟨ib,0,none⟩) (lq+1) ic))=>(show W.cell? ⟨D,5,none⟩=some (.string sv)/\W.cell? ⟨w.heap.size+1,5,none⟩=some (.int .i64 (P:Int))/\W.cell? ⟨CB,2,none⟩=some (.slice (some ⟨ib,0,none⟩) (lq+1) ic)/\W.cell? ⟨ib,lq,none⟩=some (.int .i64 (pl:Int))from⟨(HD7.out.fr hW (by simp;exact hDC.1)).c 5,(hbx.fr hW (by simp;exact hDC.2)).c 5,hb,((HIX.out.1.fr0 HF47.out).fr hW (by simp;exact hne)).2 lq _ HIX.out.2⟩));have hb7:BoxN w7.drew CB 64 #[.int .u8 0,.int .i64 0,.slice (some ⟨ib,0,none⟩) (lq+1) ic,.slice KA (lq+1) kc,.slice none 0 0,.slice none 0 0]:=HV7.out.box.drew;have f7d:Fr [CB] w7 w7.drew:=(Fq [CB] w7).drew;clear hix hii hpl hbx hp p hne hDC;refine jk (a:=?vr) (λa' W'=>a'={ tmps:=(((((((((((((Act.tmps ?vr).setIfInBounds 152 (.pointer (some ⟨D,5,none⟩))).setIfInBounds 153 (.string sv)).setIfInBounds 154 (.pointer (some ⟨w.heap.size+1,0,none⟩))).setIfInBounds 155 (.pointer (some ⟨w.heap.size+1,5,none⟩))).setIfInBounds 156 (.int .i64 (P:Int))).setIfInBounds 157 (.int .u8 (bv.toNat:Int))).setIfInBounds 158 (.pointer (some ⟨CB,2,none⟩))).setIfInBounds 159 (.slice (some ⟨ib,0,none⟩) (lq+1) ic)).setIfInBounds 160 (.int .i64 (lq:Int))).setIfInBounds 161 (.pointer (some ⟨ib,lq,none⟩))).setIfInBounds 162 (.int .i64 (pl:Int))).setIfInBounds 163 (.pointer (some ⟨CB,0,none⟩))).setIfInBounds 164 (.pointer (some ⟨CB,1,none⟩)),defers:=[] }/\BoxN W' CB 64 #[.int .u8 (bv.toNat:Int),.int .i64 (pl:Int),.slice (some ⟨ib,0,none⟩) (lq+1) ic,.slice KA (lq+1) kc,.slice none 0 0,.slice none 0 0]/\Fr [CB] w7 W') ?_ ?_
      ·refine eZ (λW:World=>W.cell? ⟨D,5,none⟩=some (.string sv)/\W.cell? ⟨w.heap.size+1,5,none⟩=some (.int .i64 (P:Int))/\W.cell? ⟨CB,2,none⟩=some (.slice (some ⟨ib,0,none⟩) (lq+1) ic)/\W.cell? ⟨ib,lq,none⟩=some (.int .i64 (pl:Int))) 13 (by kernel_rfl) ?_ (by decide)
       obtain⟨z7,hz7⟩:=eR (w7.drew);rw[hz7]at hc7 hb7 f7d ⊢;have hC:=hc7
       show fb 0 ..
       iterate 10 (refine gB rfl ?_;try simp only[qq])
       show fb 11 ..
       refine gB rfl ?_;try simp only[qq];refine gO (i:=10) (j:=12) (by kernel_rfl) (by decide) (by decide) rfl rfl (λK hK=>?_) (λK hK=>?_)
       ·rw[if_pos (by rfl)]
        obtain⟨d5',x5',c2',i1'⟩:=HSS.out z7 hC;go_simp
        refine hK _ _ hC ?_;clear hK K
        try simp only[qq]
        refine hO (i:=12) rfl λK hK=>?_;have e0:=hb7.k0;have g0:=hb7.f 0;go_simp
        obtain⟨z8,hz8⟩:=eR ((z7).setCell ⟨CB,0,none⟩ (.int .u8 (bv.toNat:Int)));have b8:=hb7.setAt 0 (.int .u8 (bv.toNat:Int));have f8:Fr [CB] w7 z8:=by rw[<-hz8];exact f7d.st _
        rw[hz8]at b8 ⊢;have hC8:=HC7.out z8 f8 (b8.c 2);refine hK _ _ hC8 ?_;clear hK K e0 g0 hz8
        try simp only[qq]
        refine eW ⟨by kernel_rfl,?_⟩;simp only[qG,qH];have e1:=b8.k1;have g1:=b8.f 1
        go_wp2_with fail
        exact⟨b8.setAt 1 (.int .i64 (pl:Int)),f8.st _⟩
       ·rw[if_pos (by rfl)]
        have e0:=hb7.k0;have g0:=hb7.f 0;go_simp
        obtain⟨z8,hz8⟩:=eR ((z7).setCell ⟨CB,0,none⟩ (.int .u8 (bv.toNat:Int)));have b8:=hb7.setAt 0 (.int .u8 (bv.toNat:Int));have f8:Fr [CB] w7 z8:=by rw[<-hz8];exact f7d.st _
        rw[hz8]at b8 ⊢;have hC8:=HC7.out z8 f8 (b8.c 2);refine hK _ _ hC8 ?_;clear hK K e0 g0 hz8
        try simp only[qq]
        have hC:=hC8;refine hO (i:=10) rfl λK hK=>?_;obtain⟨d5',x5',c2',i1'⟩:=HSS.out z8 hC;go_simp
        refine hK _ _ hC ?_;clear hK K
        try simp only[qq]
        refine eW ⟨by kernel_rfl,?_⟩;simp only[qG,qH];have e1:=b8.k1;have g1:=b8.f 1
        go_wp2_with fail
        exact⟨b8.setAt 1 (.int .i64 (pl:Int)),f8.st _⟩
      rintro a' w8 ⟨rfl,n8,f8⟩;simp only[qA,qB,qC];clear hc7 HSS HC7 hb7 f7d;have hc8:=HV7.out;have hv8:VIg (.int .u8 (bv.toNat:Int)) (.int .i64 (pl:Int)) w5 w8 CB (lq+1) (lq+1) ic kc (some ⟨ib,0,none⟩) KA (jX (ps.map PF.i)) (as_.flatMap lo):=⟨n8,hc8.io.fr f8 (by intro k hk;simp only[gI];rintro rfl;exact hc8.d.1 hk),hc8.ko.fr f8 (by intro k hk;simp only[gI];rintro rfl;exact hc8.d.2.1 hk),hc8.d,hc8.e,hc8.hi,hc8.hk,hc8.fr.trans f8 (λk hk=>.inr (by simp at hk;rw[hk];exact hc8.d.2.2))⟩
      have hact8:ActO w8 (some ⟨g4,o4,none⟩) (lq+1) c' ys:=by
       have h0:=HA.out.1.fr0 HF47.out;have hnt:NoT (91::sy) w7 [CB]:=NoT.box hc8.box (by decide);exact⟨h0.own.frT f8 hnt (by simp),λy hy=>(h0.each y hy).frT f8 (hnt.sub (λt ht=>List.mem_cons_of_mem _ ht)),h0.len⟩
      rename_i hk31;refine hk31 _ _ ?_;exact EI nm P (lq+1) ps as_ ys w w4 w5 w8 CB ib ic kc g4 o4 lq c' pl bv KA hm12 HN.out.2 HP.out.2.1 HP.out.2.2.1 HP.out.2.2.2.1 H5.out HCB.out (by rw[<-HBV.out];exact HVR.out) HLA.out HA.out.2.1 hv8 hact8 _ _ _ _ _ _ _ _ _ _ _ _ _ _ _ _ _ _ _ _ _ _ _ _ _ _ _ _ _ _ _ _ _ _ _ _ _ _ _ _ _ _ _ _ _ _ _ _ _ _ _ _ _ _ _ _ _ _ _ _ _ _ _ _ _ _ _ _ _ _ _ _ _ _ _ _ _ _ _ _ _ _ _ _ _ _ _ _ _ _ _ _ _ _ _ _ _ _ _ _ _ _ _ _ _ _ _ _ _ _ _ _ _ _ _ _ _ _ _ _ _ _ _ _ _ _ _ _ _ _ _ _ _ _ _ _ _ _ _ _ _ _ _ _ _ _ _ _ _ _ _ _ _ _ _ _ _ _ _ _ _ _ _ _ _ _ _ _ _ _ _ _ _ _ _ _ _ _ _ _ _ _ _ _ _ _ _ _ _ _ _ _ _ _ _ _ _ _ _ _ _ _ _ _ _ _ _ _ _ _ _ _ _ _ _ _ _ _ _ _ _ _ _ _ _ _ _ _ _ _ _ _ _ _ _ _ _ _ _ _ _ _ _ _ _ _ _ _ _ _ _ _ _ _ _ _ _ _ _ _ _ _ _ _ _ _ _ _ _ _ _ _ _ _ _ _ _ _ _ _ _ _ _ _ _ _ _ _ _ _ _ _ _ _ _ _ _
def VQ(k:Int)(is:List Nat)(l:List AG)(b:UInt8)(s:LS)(w:World)(e:Ending)(w':World):Prop:=∃v,e=.returned (.tuple #[v,.int .i64 k])/\ConV w' is l b s v/\Fr [] w w'
theorem o7(w:World):ConV w [] [] 0 xH iU:=⟨none,none,none,none,0,0,0,0,[],rfl,nH,nH,nH,nH,List.Pairwise.nil,qs,λn=>rfl,qs⟩
theorem zv{l:List AG}{f:List Nat}{m:Nat}{s:LS}{b:List CH}(e:i6 l f m=some s)(d:∀a∈l,a.r.length<=10)(h:kP s.asm b):b.length<=10*l.length:=by
 have c:=uv (es:=b.map λx=>(x.n,x)) e d (λn=>by
  rw[<-h.2.2.1 n];unfold iM nA;rw[List.find?_map]
  show ((b.find? λx=>decide (x.n=n)).map _).map _=_
  cases b.find? λx=>decide (x.n=n) <;> rfl) (by rw[List.map_map];exact h.2.1)
 rwa [List.length_map]at c
structure VqB(is:List Nat)(l:List AG)(s:LS):Prop where
 i:is.length<=1000
 l:l.length<=1000
 k:s.lks.length<=1000
 a:∀asm,kP s.asm asm->asm.length<=1000
theorem xU:VqB [] [] xH:=⟨qs,qs,by simp[xH],λa h=>by
 cases a with
 | nil=>simp
 | cons x r =>
  have:=h.2.2.1 x.n;simp[xH,nA]at this⟩
theorem Df(nm:ON)(P:Nat)(is:List Nat)(l:List AG)(q:l.length<=12)(o:is.length=l.length)(d:∀a∈l,a.r.length<=10):∃k g i b s,VqB g i s/\∀w e w',kH nm P is l w e w'->VQ k g i b s w e w':=by
 cases c:ju nm P is l with
 | error k =>
  refine⟨k,[],[],0,xH,xU,λw e w' h=>?_⟩;unfold kH at h;rw[c]at h
  exact⟨iU,h.1,o7 w',h.2⟩
 | ok p =>
  obtain⟨b,s⟩:=p
  have f:i6 l is l.length=some s:=by
   unfold ju at c;split at c
   ·cases c
   ·split at c
    ·cases c
    ·split at c
     ·cases c
     ·split at c
      ·cases c
      ·split at c
       ·rename_i m n
        injection c with c
        injection c with _ c
        rw[<-c]
        assumption
       ·cases c
  refine⟨0,is,l,b,s,⟨qo,qo,by have:=mi d f;omega,λj h=>by have:=zv f d h;omega⟩,λw e w' h=>?_⟩;unfold kH at h;rw[c]at h;exact h
theorem EJ(xs:List AX)(I:Run xs)(nm:ON)(t u:ByteArray)(P n m:Nat)(g:Option Addr)(c:Nat)(f:List PF)(R:eX nm=0)(O:fg nm=.agg #[.int .i64 nm.kind,.string t,.int .i64 nm.number,.int .i64 nm.index,.string u])(K:P<65536)(Z:n<=xs.length)(z:f.length=m)(Q:m<=12)(w:World)(G:Ok w)(H:PrL w n g c f)
 (U:∀p∈f,p.i<n/\∃y,xs[p.i]?=some y/\p.s=fL y.a/\p.d=iz xs p.i n) :
 ∃k is l b s,VqB is l s/\(∀W,Fr [] w W->Calls prog 22 #[fu (jQ xs n),yS nm.kind t nm.number nm.index u (P:Int) (n:Int) (.slice g m c)] W (VQ k is l b s W))/\∀W,Fr [] w W->Calls prog 23 #[fu (jQ xs n),yS nm.kind t nm.number nm.index u (P:Int) (n:Int) (.slice g m c)] W (VQ k is l b s W):=by
 have hl:=I.len
 have C:(jQ xs n).length=32:=by
  unfold jQ;exact jW (nj xs) (n+1) 0 qo (by rw[lx];omega) qo
 rcases Nat.eq_zero_or_pos m with q|q
 ·rw[q]
  exact⟨1,[],[],0,xH,xU,λW _=>(un _ C _ _ _ _ _ t u g c W).mono λe w' h=>⟨iU,h.1,o7 w',h.2⟩,λW _=>(uo _ C _ _ _ _ _ t u g c W).mono λe w' h=>⟨iU,h.1,o7 w',h.2⟩⟩
 ·obtain⟨o,F⟩:∃o:List AG,(f.map λp=>(match xs[p.i]? with|some y=>y.a|none=>⟨⟨0,0,0,[]⟩,[],[]⟩))=o:=⟨_,rfl⟩
  have E:o.length=m:=by rw[<-F,List.length_map,z]
  have J:∀a∈o,mN a=true/\a.r.length<=10/\a.w.length<=10:=λa v=>by
   rw[<-F]at v;obtain⟨p,B,rfl⟩:=List.mem_map.1 v;obtain⟨_,y,x,_⟩:=U p B;rw[x];obtain⟨w1,_,w3,w4⟩:=I.wf y (iu x);exact⟨w1,w3,w4⟩
  have L:∀D,Fr [] w D->∀(j:Nat) (p:PF) (a:AG),f[j]?=some p->o[j]?=some a->∀W,Fr [] D W->Calls prog 66 #[fu (jQ xs n),.agg (p.cs n).toArray] W (km W a):=λD q j p a T M W hW=>by
   have B:=iu T;obtain⟨Y,y,x,hs,N⟩:=U p B
   have v:a=y.a:=by
    rw[<-F,List.getElem?_map,T]at M;have h:=Option.some.inj M;simp only[x]at h;exact h.symm
   have S:=(H.ds p B).fr (q.then hW) qs;rw[N]at S;have h:=te xs I p.i n y x Y Z p.A p.c W (G.fr0 (q.then hW)) S;rw[v]
   have e:Value.agg (p.cs n).toArray=.agg #[p.i,n,ft (fL y.a),.slice p.A (iz xs p.i n).length p.c]:=by
    unfold PF.cs;rw[hs,N]
   rw[e];exact h
  obtain⟨k,ab,l',b,s,aa,X⟩:=Df nm P (f.map PF.i) o qo (by rw[List.length_map,z,E]) (λa v=>(J a v).2.1);have V:∀W,Fr [] w W->PrL W n g c f:=λW hW=>⟨H.own.fr hW qs,λp h=>(H.ds p h).fr hW qs⟩;exact⟨k,ab,l',b,s,aa,λW hW=>(tv _ C nm t u P n m g c f o W (G.fr0 hW) R O K (V W hW) z q Q E J (L W hW)).mono λe w' h=>X W e w' h,λW hW=>(xe _ C nm t u P n m g c f o W (G.fr0 hW) R O K (V W hW) z q Q E J (L W hW)).mono λe w' h=>X W e w' h⟩
end Go.Proofs.YtlpmiimgacfmkaaGreatDoor
