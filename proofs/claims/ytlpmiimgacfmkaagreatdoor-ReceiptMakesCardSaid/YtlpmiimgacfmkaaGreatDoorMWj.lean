/- law 55: makeReceipt of any history. -/
import Derived.LoopN
import Derived.Laws.StructEq
import Derived.Test.YtlpmiimgacfmkaaGreatDoorMWi
import Derived.Test.YtlpmiimgacfmkaaGreatDoorMPf3
import Derived.Test.YtlpmiimgacfmkaaGreatDoorMOpm
import Derived.Test.YtlpmiimgacfmkaaGreatDoorMSp1
import Derived.Test.YtlpmiimgacfmkaaGreatDoorMKn3
set_option linter.all false
namespace Go.Proofs.YtlpmiimgacfmkaaGreatDoor
open Go.Proofs.Tryz
open Go.RowKit
set_option maxRecDepth 100000
set_option maxHeartbeats 8000000
theorem MakeR_g (b:Nat) (xs:List AX) (M:List Nat) (nm:ON) (so st:ByteArray) (P:Nat) (kk:Int) (w:World) (h:HG w b xs M) (hok:Ok w) (hn:checkO nm=0) (he:encO nm=.agg #[.int .i64 nm.kind,.string so,.int .i64 nm.number,.int .i64 nm.index,.string st]) (hP:P<=1000000) :
 Calls prog 14 #[.pointer (some ⟨b,0,none⟩),.agg #[.int .i64 nm.kind,.string so,.int .i64 nm.number,.int .i64 nm.index,.string st,.int .i64 (P:Int)],.int .i64 kk] w (MakePost w xs nm so st P kk):=by
 obtain⟨k,hk⟩:=nmd (nm.kind);obtain⟨nu,hnu⟩:=nmd (nm.number);obtain⟨ix,hix⟩:=nmd (nm.index);have HKN:=Hd (An he (An hk (An hnu hix)));rw[hk,hnu,hix];have hl12:=h.len12;obtain⟨m,hm⟩:=nmd (xs.length);rw[hm] at hl12;obtain⟨w1,hw1,hz1,n1,f1⟩:=bxz w #[.int .i64 k,.string so,.int .i64 nu,.int .i64 ix,.string st,.int .i64 (P:Int)] 33 w.heap.size;obtain⟨w2,hw2,hz2,n2,f2⟩:=bxz w1 #[.int .i64 0,.string ⟨#[]⟩,.int .i64 0,.int .i64 0,.string ⟨#[]⟩,.int .i64 0,.int .i64 0,.slice none 0 0] 39 (w.heap.size+1);have HF2:=Hd (f1.then f2);obtain⟨RB,hRB⟩:=nmd (w.heap.size+1);obtain⟨PB,hPB⟩:=nmd (w.heap.size);have hz2:w.heap.size+1<w2.heap.size:=n2.lt;have HZ:=Hd (An hRB hz2);rw[hRB] at n2;have HN:=Hd (An (n1.fr f2 (by simp)) n2);have HW:=Hd (An hw1 (An hw2 (An hz1 hRB)));have HH:=Hd (h.fr0 HF2.out);have HOK:=Hd (hok.fr0 HF2.out);have HC:=Hd (An hn hP);have HM:=Hd hm;have hln:=Len_h b xs M w2 HH.out;rw[hm] at hln;have HL:=Hd hln;have HA:=Hd (Actions_h b xs M w2 HH.out);clear hw1 hw2 n1 n2 f1 f2 hz1 hz2 h hok he hk hnu hix hn hP hln hm hPB
 go_enter func14,ntmps14
 go_upto_region 1 with fail
 rw[HW.out.1,HW.out.2.1]
 try rw[HW.out.2.2.1]
 try rw[hRB]
 obtain hneg | hpos:kk<0 \/ 0<=kk:=by omega
 ·have hd1:decide (kk<0)=true:=by simpa using hneg
  have HMM:=Hd (show makeM xs nm P kk=.inl 2 by unfold makeM;rw[if_pos (.inl hneg)]);clear hRB
  go_upto_region 4 with ((go_at_call 19;(with_reducible refine HL.out.mono ?_);rintro e w3 ⟨rfl,rfl⟩))
  have hrz:=HN.out.2.fr (Fq [] w2) (by simp);have u0:=hrz.k0;have v0:=hrz.f 0;have u1:=hrz.k1;have v1:=hrz.f 1;have u2:=hrz.k2;have v2:=hrz.f 2;have u3:=hrz.k3;have v3:=hrz.f 3;have u4:=hrz.k4;have v4:=hrz.f 4;have u5:=hrz.k5;have v5:=hrz.f 5;have u6:=hrz.k6;have v6:=hrz.f 6;have u7:=hrz.k7;have v7:=hrz.f 7;have HRZ:=Hd (An hrz (Fq [] w2));clear hrz
  go_wp2_with fail
  obtain⟨wz,hwz⟩:=nmd (((((((((w2.setCell ⟨RB,0,none⟩ (.int .i64 0)).setCell ⟨RB,1,none⟩ (.string ⟨#[]⟩)).setCell ⟨RB,2,none⟩ (.int .i64 0)).setCell ⟨RB,3,none⟩ (.int .i64 0)).setCell ⟨RB,4,none⟩ (.string ⟨#[]⟩)).setCell ⟨RB,5,none⟩ (.int .i64 0)).setCell ⟨RB,6,none⟩ (.int .i64 0)).setCell ⟨RB,7,none⟩ (.slice none 0 0)));have hbz:BoxN wz RB 39 #[.int .i64 0,.string ⟨#[]⟩,.int .i64 0,.int .i64 0,.string ⟨#[]⟩,.int .i64 0,.int .i64 0,.slice none 0 0]:=by rw[<-hwz];exact (((((((HRZ.out.1.setAt 0 _).setAt 1 _).setAt 2 _).setAt 3 _).setAt 4 _).setAt 5 _).setAt 6 _).setAt 7 _
  have fz:Fr [RB] w2 wz:=by rw[<-hwz];exact (((((((((Fq [RB] w2).set (.inl (by simp)) _).set (.inl (by simp)) _).set (.inl (by simp)) _).set (.inl (by simp)) _).set (.inl (by simp)) _).set (.inl (by simp)) _).set (.inl (by simp)) _).set (.inl (by simp)) _)
  try rw[hwz]
  obtain⟨t0,t1,t2,t3,t4,t5,t6,t7⟩:=hbz.m8;refine bodyPost_ret (v:=.tuple #[rcZ,.int .i64 2]) (by simp[results,results14,rcZ,go_sem,t0,t1,t2,t3,t4,t5,t6,t7]) rfl ?_;have hmm:=HMM.out;unfold MakePost;rw[hmm];exact⟨rfl,(HF2.out.then (Fq [] w2)).trans fz (by simp;have:=HZ.out;omega)⟩
 obtain⟨n,rfl⟩:∃ n:Nat,kk=(n:Int):=⟨kk.toNat,by omega⟩
 rcases Nat.lt_or_ge m n with hgt | hle
 ·have hd1:decide (m<n)=true:=by simpa using hgt
  have HMM:=Hd (show makeM xs nm P (n:Int)=.inl 2 by unfold makeM;rw[if_pos (.inr (by rw[HM.out];omega))]);clear hRB
  go_upto_region 4 with ((go_at_call 19;(with_reducible refine HL.out.mono ?_);rintro e w3 ⟨rfl,rfl⟩))
  have hrz:=HN.out.2.fr (Fq [] w2) (by simp);have u0:=hrz.k0;have v0:=hrz.f 0;have u1:=hrz.k1;have v1:=hrz.f 1;have u2:=hrz.k2;have v2:=hrz.f 2;have u3:=hrz.k3;have v3:=hrz.f 3;have u4:=hrz.k4;have v4:=hrz.f 4;have u5:=hrz.k5;have v5:=hrz.f 5;have u6:=hrz.k6;have v6:=hrz.f 6;have u7:=hrz.k7;have v7:=hrz.f 7;have HRZ:=Hd (An hrz (Fq [] w2));clear hrz
  go_wp2_with fail
  obtain⟨wz,hwz⟩:=nmd (((((((((w2.setCell ⟨RB,0,none⟩ (.int .i64 0)).setCell ⟨RB,1,none⟩ (.string ⟨#[]⟩)).setCell ⟨RB,2,none⟩ (.int .i64 0)).setCell ⟨RB,3,none⟩ (.int .i64 0)).setCell ⟨RB,4,none⟩ (.string ⟨#[]⟩)).setCell ⟨RB,5,none⟩ (.int .i64 0)).setCell ⟨RB,6,none⟩ (.int .i64 0)).setCell ⟨RB,7,none⟩ (.slice none 0 0)));have hbz:BoxN wz RB 39 #[.int .i64 0,.string ⟨#[]⟩,.int .i64 0,.int .i64 0,.string ⟨#[]⟩,.int .i64 0,.int .i64 0,.slice none 0 0]:=by rw[<-hwz];exact (((((((HRZ.out.1.setAt 0 _).setAt 1 _).setAt 2 _).setAt 3 _).setAt 4 _).setAt 5 _).setAt 6 _).setAt 7 _
  have fz:Fr [RB] w2 wz:=by rw[<-hwz];exact (((((((((Fq [RB] w2).set (.inl (by simp)) _).set (.inl (by simp)) _).set (.inl (by simp)) _).set (.inl (by simp)) _).set (.inl (by simp)) _).set (.inl (by simp)) _).set (.inl (by simp)) _).set (.inl (by simp)) _)
  try rw[hwz]
  obtain⟨t0,t1,t2,t3,t4,t5,t6,t7⟩:=hbz.m8;refine bodyPost_ret (v:=.tuple #[rcZ,.int .i64 2]) (by simp[results,results14,rcZ,go_sem,t0,t1,t2,t3,t4,t5,t6,t7]) rfl ?_;have hmm:=HMM.out;unfold MakePost;rw[hmm];exact⟨rfl,(HF2.out.then (Fq [] w2)).trans fz (by simp;have:=HZ.out;omega)⟩
 obtain⟨l,hl⟩:=nmd ((xs.map AX.a).take n);have hd1:decide (m<n)=false:=by simp;omega
 have hle1:(n:Int)<=(m:Int):=by omega
 have hA2:=HA.out;unfold ActsPost at hA2;rw[HM.out] at hA2;have HA2:=Hd hA2;clear hA2 hRB
 have hrun:Run xs:=by
  obtain⟨pb,pl,bt,A,c,F,ns,ds,kvs,h,_⟩:=HH.out;exact h.run
 have hlnl:l.length=n:=by rw[<-hl,List.length_take,List.length_map,HM.out];omega
 have HBV:=Hd (fun (p L:Nat) (ys:List AX) (w3:World) (hst:SG w2 p []) (hya:ys.map AX.a=xs.map AX.a) (hL:ActL w3 L (m*6) ys) (hf3:Fr [] w2 w3)=>(show Calls prog 42 #[.pointer (some ⟨p,0,none⟩),.slice (some ⟨L,0,none⟩) n m] w3 (VBPost w3 l) from by
  have hyl:ys.length=m:=by
   have:=congrArg List.length hya;simpa [HM.out] using this
  have hv0:=VBuild_g p L m _ (ys.take n) w3 (HOK.out.fr0 hf3) (hst.fr0 hf3) (hL.take n) ((Run.congr hya.symm hrun).take n);rw[List.length_take,Nat.min_eq_left (by omega),List.map_take,hya,hl] at hv0;exact hv0))
 have HBD:=Hd (fun (L:Nat) (ys:List AX) (w3:World) (hya:ys.map AX.a=xs.map AX.a) (hL:ActL w3 L (m*6) ys)=>(show Calls prog 45 #[.slice (some ⟨L,0,none⟩) n m] w3 (fun e w'=>∃ g mw Lk Us K kc ks Rl Ru er,e=.returned (.tuple #[.pointer (some ⟨g,0,none⟩),.int .i64 0])/\GG w' g mw Lk Us n n l K kc ks Rl Ru er/\Fr [] w3 w') from by
  have hyl:ys.length=m:=by
   have:=congrArg List.length hya;simpa [HM.out] using this
  have hv0:=DBuild_g L m _ (ys.take n) w3 (hL.take n) ((Run.congr hya.symm hrun).take n);rw[List.length_take,Nat.min_eq_left (by omega),List.map_take,hya,hl] at hv0;exact hv0))
 have HR10:=Hd (show ∀ a∈l,a.r.length<=10 from fun a ha=>by
  rw[<-hl] at ha;obtain⟨y,hy,rfl⟩:=List.mem_map.1 (List.mem_of_mem_take ha);exact (hrun.wf y hy).2.2.1)
 have HB:=Hd (Base_h b xs M w2 HH.out);have HLL:=Hd hlnl;clear hrun hlnl
 go_upto_region 8 with (first
  | (go_at_call 19;(with_reducible refine HL.out.mono ?_);rintro e w' ⟨rfl,rfl⟩)
  | (go_at_call 43;(with_reducible refine HB.out.mono ?_);rintro e w' ⟨p,rfl,hst,rfl⟩;have HST:=Hd hst;clear hst)
  | (go_at_call 41;(with_reducible refine HA2.out.mono ?_);rintro e w3 ⟨L,ys,rfl,hya,hL,hf3,hLs⟩;have HV:=Hd (HBV.out p L ys w3 HST.out hya hL hf3);have HF3:=Hd hf3;clear hya hL hf3 hLs)
  | (go_at_call 42;(with_reducible refine HV.out.mono ?_);rintro e w4 ⟨vb,VM,zs,rfl,hza,hvg,hf4,hvm⟩;have HVD:=Hd (An hza (An hvg hf4));clear hza hvg hf4 hvm))
 clear hd1;have hf4:Fr [] w2 w4:=HF3.out.then HVD.out.2.2;have hp4:=HN.out.1.fr hf4 (by simp);obtain⟨x0,x1,x2,x3,x4,x5⟩:=hp4.m6
 have hzl:zs.length=n:=by
  have:=congrArg List.length HVD.out.1;rw[List.length_map,HLL.out] at this;exact this
 have hO:=Origin_g vb zs VM nm P HC.out.2 w4 HVD.out.2.1 HC.out.1 so st HKN.out.1;rw[HVD.out.1,hzl,HKN.out.2.1,HKN.out.2.2.1,HKN.out.2.2.2] at hO;have hln:l.length=n:=HLL.out;obtain⟨s,hs⟩:=nmd (oRes l nm P)
 have hcase:(s.fd=false \/ s.og=-1) \/ (s.fd=true/\∃ v:Nat,v<n/\s.og=(v:Int)):=by
  cases hfd:s.fd with
  | false=>exact .inl (.inl rfl)
  | true =>
   rcases oRes_nat l nm P (by rw[hs];exact hfd) with h1 | ⟨v,hv,h1⟩
   ·exact .inl (.inr (by rw[<-hs];exact h1))
   ·exact .inr ⟨rfl,v,by omega,by rw[<-hs];exact h1⟩
 have hmk:makeM xs nm P (n:Int)=if s.fd=false \/ s.og=-1 then .inl 8 else .inr (causL (lkA l) n s.og.toNat):=by
  unfold makeM;rw[if_neg (by rw[HM.out];omega),Int.toNat_natCast,hl,hs]
 rw[hs] at hO;obtain⟨og,fd,vl⟩:=s;have HMK:=Hd hmk;have HF4:=Hd hf4;have HLN:=Hd hln;have HO:=Hd hO;clear hO hf4 hp4 hzl hs hmk hl hln;simp only at hcase
 rcases hcase with hbad | ⟨hfd,v,hvn,hvo⟩
 ·have HMM:=Hd (show makeM xs nm P (n:Int)=.inl 8 by rw[HMK.out,if_pos hbad])
  cases fd with
  | false =>
   simp only[Bool.false_eq_true,if_false] at HO
   go_upto_region 10 with (go_at_call 44;(with_reducible refine HO.out.mono ?_);rintro e w5 ⟨rfl,hf5⟩;have HF5:=Hd (HF4.out.then hf5);clear hf5)
   clear x0 x1 x2 x3 x4 x5;have hrz:=HN.out.2.fr HF5.out (by simp);have u0:=hrz.k0;have v0:=hrz.f 0;have u1:=hrz.k1;have v1:=hrz.f 1;have u2:=hrz.k2;have v2:=hrz.f 2;have u3:=hrz.k3;have v3:=hrz.f 3;have u4:=hrz.k4;have v4:=hrz.f 4;have u5:=hrz.k5;have v5:=hrz.f 5;have u6:=hrz.k6;have v6:=hrz.f 6;have u7:=hrz.k7;have v7:=hrz.f 7;have HRZ:=Hd (An hrz HF5.out);clear hrz
   go_wp2_with fail
   obtain⟨wz,hwz⟩:=nmd (((((((((w5.setCell ⟨RB,0,none⟩ (.int .i64 0)).setCell ⟨RB,1,none⟩ (.string ⟨#[]⟩)).setCell ⟨RB,2,none⟩ (.int .i64 0)).setCell ⟨RB,3,none⟩ (.int .i64 0)).setCell ⟨RB,4,none⟩ (.string ⟨#[]⟩)).setCell ⟨RB,5,none⟩ (.int .i64 0)).setCell ⟨RB,6,none⟩ (.int .i64 0)).setCell ⟨RB,7,none⟩ (.slice none 0 0)));have hbz:BoxN wz RB 39 #[.int .i64 0,.string ⟨#[]⟩,.int .i64 0,.int .i64 0,.string ⟨#[]⟩,.int .i64 0,.int .i64 0,.slice none 0 0]:=by rw[<-hwz];exact (((((((HRZ.out.1.setAt 0 _).setAt 1 _).setAt 2 _).setAt 3 _).setAt 4 _).setAt 5 _).setAt 6 _).setAt 7 _
   have fz:Fr [RB] w5 wz:=by rw[<-hwz];exact (((((((((Fq [RB] w5).set (.inl (by simp)) _).set (.inl (by simp)) _).set (.inl (by simp)) _).set (.inl (by simp)) _).set (.inl (by simp)) _).set (.inl (by simp)) _).set (.inl (by simp)) _).set (.inl (by simp)) _)
   try rw[hwz]
   obtain⟨t0,t1,t2,t3,t4,t5,t6,t7⟩:=hbz.m8;refine bodyPost_ret (v:=.tuple #[rcZ,.int .i64 8]) (by simp[results,results14,rcZ,go_sem,t0,t1,t2,t3,t4,t5,t6,t7]) rfl ?_;have hmm:=HMM.out;unfold MakePost;rw[hmm]
   exact⟨rfl,(HF2.out.then HF5.out).trans fz (by simp;have:=HZ.out;omega)⟩
  | true =>
   have hog:og=-1:=by rcases hbad with h | h;cases h;exact h
   subst hog;simp only[if_true] at HO
   go_upto_region 12 with (go_at_call 44;(with_reducible refine HO.out.mono ?_);rintro e w5 ⟨rfl,hf5⟩;have HF5:=Hd (HF4.out.then hf5);clear hf5)
   clear x0 x1 x2 x3 x4 x5;have hrz:=HN.out.2.fr HF5.out (by simp);have u0:=hrz.k0;have v0:=hrz.f 0;have u1:=hrz.k1;have v1:=hrz.f 1;have u2:=hrz.k2;have v2:=hrz.f 2;have u3:=hrz.k3;have v3:=hrz.f 3;have u4:=hrz.k4;have v4:=hrz.f 4;have u5:=hrz.k5;have v5:=hrz.f 5;have u6:=hrz.k6;have v6:=hrz.f 6;have u7:=hrz.k7;have v7:=hrz.f 7;have HRZ:=Hd (An hrz HF5.out);clear hrz
   go_wp2_with fail
   obtain⟨wz,hwz⟩:=nmd (((((((((w5.setCell ⟨RB,0,none⟩ (.int .i64 0)).setCell ⟨RB,1,none⟩ (.string ⟨#[]⟩)).setCell ⟨RB,2,none⟩ (.int .i64 0)).setCell ⟨RB,3,none⟩ (.int .i64 0)).setCell ⟨RB,4,none⟩ (.string ⟨#[]⟩)).setCell ⟨RB,5,none⟩ (.int .i64 0)).setCell ⟨RB,6,none⟩ (.int .i64 0)).setCell ⟨RB,7,none⟩ (.slice none 0 0)));have hbz:BoxN wz RB 39 #[.int .i64 0,.string ⟨#[]⟩,.int .i64 0,.int .i64 0,.string ⟨#[]⟩,.int .i64 0,.int .i64 0,.slice none 0 0]:=by rw[<-hwz];exact (((((((HRZ.out.1.setAt 0 _).setAt 1 _).setAt 2 _).setAt 3 _).setAt 4 _).setAt 5 _).setAt 6 _).setAt 7 _
   have fz:Fr [RB] w5 wz:=by rw[<-hwz];exact (((((((((Fq [RB] w5).set (.inl (by simp)) _).set (.inl (by simp)) _).set (.inl (by simp)) _).set (.inl (by simp)) _).set (.inl (by simp)) _).set (.inl (by simp)) _).set (.inl (by simp)) _).set (.inl (by simp)) _)
   try rw[hwz]
   obtain⟨t0,t1,t2,t3,t4,t5,t6,t7⟩:=hbz.m8;refine bodyPost_ret (v:=.tuple #[rcZ,.int .i64 8]) (by simp[results,results14,rcZ,go_sem,t0,t1,t2,t3,t4,t5,t6,t7]) rfl ?_;have hmm:=HMM.out;unfold MakePost;rw[hmm];exact⟨rfl,(HF2.out.then HF5.out).trans fz (by simp;have:=HZ.out;omega)⟩
 subst hfd;subst hvo;have hne1:((v:Int) == -1)=false:=by simp
 simp only[if_true] at HO
 go_upto_region 13 with (go_at_call 44;(with_reducible refine HO.out.mono ?_);rintro e w5 ⟨rfl,hf5⟩;have HF5:=Hd (HF4.out.then hf5);have HVF:=Hd (HVD.out.2.2.then hf5);clear hf5)
 clear x0 x1 x2 x3 x4 x5 HO HV HB HA HL;have hA5:=Actions_h b xs M w5 (HH.out.fr0 HF5.out);unfold ActsPost at hA5;rw[HM.out] at hA5;have HA5:=Hd hA5;clear hA5
 go_upto_region 16 with (first
  | (go_at_call 41;(with_reducible refine HA5.out.mono ?_);rintro e w55 ⟨L2,ys2,rfl,hya,hL,hf3,hLs⟩;have HD:=Hd (HBD.out L2 ys2 w55 hya hL);have HF55:=Hd hf3;clear hya hL hf3 hLs)
  | (go_at_call 45;(with_reducible refine HD.out.mono ?_);rintro e w6 ⟨g,mw,Lk,Us,KO,kc,ks,Rl,Ru,er,rfl,hgg,hf6⟩;have HF6:=Hd ((HF5.out.then HF55.out).then hf6);have HGG:=Hd hgg;clear hgg hf6))
 have hr10:=HR10.out
 have hlk:∀ (i:Nat) (r:LR),Rl[i]?=some r->r.xs=lkA l i:=fun i r hr=>by
  have h1:=HGG.out.lk i r hr
  have h2:i<n:=by
   have h3:=(lgs.1 hr).1;rw[HGG.out.s.ln.1] at h3;exact h3
  rw[if_pos h2] at h1;exact h1
 have hcs0:=Causes_g w6.heap.size 1 g n v n (lkA l) mw Lk Us kc KO ks Rl Ru er (by omega) (lkA_len hr10) (lkA_down l) hlk hvn (w6.alloc (.cells #[.int .i64 (v:Int)] 3)) (Cs.of_box (BoxN.new w6 3 #[.int .i64 (v:Int)])) (HGG.out.s.fr0 ((Fq [] w6).alloc _)) rfl;obtain⟨cl,hcl⟩:=nmd (causL (lkA l) n v);obtain⟨nc,hnc⟩:=nmd (cl.length);have hci:=causL_idx (lkA_down l) hvn;rw[hcl] at hcs0 hci;rw[hnc] at hcs0 hci
 have hmk2:makeM xs nm P (n:Int)=.inr cl:=by
  rw[HMK.out,if_neg (by simp only[Bool.true_eq_false,false_or];omega)];simp only[Int.toNat_natCast];rw[hcl]
 have HMM:=Hd hmk2;have HCI:=Hd (An hci (An hnc hcl));have HCS:=Hd hcs0;have hnc12:nc<=12:=by have:=hci.1;omega
 have hbig:decide (4096<nc)=false:=by simp;omega
 have hbig2:decide ((4096:Int)<(nc:Int))=false:=by simp;omega
 clear hcs0 hci hmk2 hcl hnc hlk hr10 HD
 go_upto_region 19 with (go_at_call 46;(with_reducible refine HCS.out.mono ?_);rintro e w7 ⟨r,rc,rfl,hr,hf7⟩;have HF7:Hid (Fr [] w2 w7):=Hd ((HF6.out.alloc _).then hf7);have HR:=Hd hr;clear hr hf7)
 clear hbig hbig2 HCS;have hp4:=HN.out.1.fr HF7.out (by simp);obtain⟨x0,x1,x2,x3,x4,x5⟩:=hp4.m6
 go_upto_region 20 with fail
 obtain⟨w8,hw8,n8,f8⟩:=bxn w7 #[.int .i64 k,.string so,.int .i64 nu,.int .i64 ix,.string st,.int .i64 (P:Int),.int .i64 (n:Int),.slice none 0 0] 39;rw[hw8];have hF8:Fr [] w2 w8:=HF7.out.then f8;have hz7:=HF7.out.size;obtain⟨D,hD⟩:=nmd (w7.heap.size);rw[hD] at n8 hz7 ⊢;have HDz:=Hd (An hD hz7);have H8:=Hd (An n8 (An hF8 (HR.out.fr0 f8)));clear hw8 x0 x1 x2 x3 x4 x5 hp4 hD hz7 n8 f8 hF8
 go_wp2_with fail
 go_loopw [14] (fun jx W=>∃ (j:Nat) (PA:Option Addr) (pc:Nat) (ps:List PF),j<=nc/\jx=.int .i64 (j:Int)/\BoxN W D 39 #[.int .i64 k,.string so,.int .i64 nu,.int .i64 ix,.string st,.int .i64 (P:Int),.int .i64 (n:Int),.slice PA j pc]/\PrL W n PA pc ps/\ps.length=j/\(ps.map fun p=>(p.i,p.s,p.d))=(cl.take j).map (pfOf xs n)/\Fr [] w2 W/\(∀ q∈blk PA,D<q)/\Cs W r (intsC cl)) (fun j _=>nc - (intOf j).toNat)
 case atStart=>exact⟨0,none,0,[],Nat.zero_le _,rfl,H8.out.1,⟨Own.nil _ _ _,by simp⟩,rfl,rfl,H8.out.2.1,by simp[blk],H8.out.2.2⟩
 case round =>
  obtain⟨j,PA,pc,ps,hj,rfl,hb,hpr,hpl,hpm,hfr,hpD,hrc⟩:=hrel
  by_cases hjl:j<nc
  ·have hlt3:(j:Int)<(nc:Int):=by omega
   have hwj:IntKind.i64.wrap (j:Int)=(j:Int):=by simp only[IntKind.wrap_i64];omega
   obtain⟨i,hi⟩:∃ y,cl[j]?=some y:=⟨_,lge (by rw[HCI.out.2.1];exact hjl)⟩;have hin:i<n:=HCI.out.1.2 i (lmg hi);obtain⟨y,hy⟩:∃ y,xs[i]?=some y:=⟨_,lge (by rw[HM.out];omega)⟩;have hP:=Prove_h b xs M i n y wr (HH.out.fr0 hfr) (HOK.out.fr0 hfr) hy hin (by rw[HM.out];omega);have hpf:pfOf xs n i=(i,encAG y.a,pathX xs i n):=by unfold pfOf;rw[hy]
   obtain⟨sv,hsv,_,_⟩:=str_of (encAG y.a);obtain⟨d,hd⟩:=nmd (pathX xs i n);obtain⟨nd,hnd⟩:=nmd (d.length);unfold ProvePost at hP;rw[hd,hnd,hsv] at hP;rw[hd] at hpf;have HP:=Hd hP;have zr:wr.cell? ⟨r,j,none⟩=some (.int .i64 (i:Int)):=hrc.2 j _ (by rw[intsC_map,List.getElem?_map,hi];rfl);have HJ:=Hd (An hb (An hpr (An hpl (An hpm (An hfr (An hpD hrc))))));have HI:=Hd (An hi (An hpf (An hsv hnd)));clear hb hpr hpl hpm hfr hpD hrc hi hy hP hpf hsv hd hnd
   go_upto_region 26 with (go_at_call 20;(with_reducible refine HP.out.mono ?_);rintro e v9 ⟨AP,cP,rfl,ho9,hf9,hk9⟩;have HO9:=Hd (An ho9 (An hf9 hk9));clear ho9 hf9 hk9)
   clear zr HP;obtain⟨v10,hv10,n10,f10⟩:=bxn v9 #[.int .i64 (i:Int),.int .i64 (n:Int),.string sv,.slice AP nd cP] 53;rw[hv10];have fX10:=HO9.out.2.1.then f10;have hd10:=HJ.out.1.fr fX10 (by simp);obtain⟨y0,y1,y2,y3⟩:=n10.m4;have y7:=hd10.k7;have hown:=HJ.out.2.1.own;rw[HJ.out.2.2.1] at hown;have HO10:=Hd (hown.fr fX10 (by simp));have hDn:D ∉ blk PA:=fun hm=>by have:=HJ.out.2.2.2.2.2.1 D hm;omega
   have HD10:=Hd (An hd10 (An hDn fX10));have HQ:=Hd (HO9.out.1.fr f10 (by simp));clear hv10 n10 f10 fX10 hd10 hown hDn;obtain⟨ii,hii,iz0,iz1,iz2⟩:=info_proof
   go_upto_region 22 with (at_builtin;(with_reducible refine wpList_app_tmp (w:=v10) rfl (.tmp 104) (.tmp 106) 37 rfl 53 ii _ 4 56 underlying37 hii iz0 iz1 iz2 rfl (by decide) PA j pc _ rfl HO10.out 1 1 [.int .i64 (i:Int),.int .i64 (n:Int),.string sv,.slice AP nd cP] 53 rfl rfl (by simp[Value.oneCell']) (by unfold maxLen;omega) (by omega) ?_);intro AN cN v11 ho hf hs;have hb11:=HD10.out.1.fr hf HD10.out.2.1;have e0:v11.cell? ⟨D,7,none⟩=some (.slice PA j pc):=hb11.c 7;have e1:=hb11.f 7;have H11:=Hd (An ho (An hf (An hs hb11)));clear ho hf hs hb11)
   obtain⟨Y,hY⟩:=nmd (v11.setCell ⟨D,7,none⟩ (.slice AN (j+1) cN));have hbY:BoxN Y D 39 #[.int .i64 k,.string so,.int .i64 nu,.int .i64 ix,.string st,.int .i64 (P:Int),.int .i64 (n:Int),.slice AN (j+1) cN]:=by rw[<-hY];exact H11.out.2.2.2.setAt 7 _
   have fY:Fr [D] v11 Y:=by rw[<-hY];exact (Fq [D] v11).set (.inl (by simp)) _
   try rw[hY]
   clear y0 y1 y2 y3 y7 e0 e1 hY iz0 iz1 iz2 hii
   have hAN:∀ q∈blk AN,D<q:=fun q hq=>by
    rcases H11.out.2.2.1 q hq with h1 | h1
    ·exact HJ.out.2.2.2.2.2.1 q h1
    ·have:=HD10.out.1.lt;omega
   have hNp:NoT [57] v10 (blk PA):=NoT.own HO10.out (by decide);have hND:NoT [57] v11 [D]:=NoT.box H11.out.2.2.2 (by decide);have hcsn:PF.cs n ⟨i,encAG y.a,AP,cP,d⟩=[.int .i64 (i:Int),.int .i64 (n:Int),.string sv,.slice AP nd cP]:=by unfold PF.cs;simp only[HI.out.2.2.1,HI.out.2.2.2]
   have hpr2:PrL Y n AN cN (ps++[⟨i,encAG y.a,AP,cP,d⟩]):=by
    refine⟨?_,fun p hp=>?_⟩
    ·rw[lla,List.flatMap_append,HJ.out.2.2.1]
     have h1:[PF.mk i (encAG y.a) AP cP d].flatMap (PF.cs n)=[.int .i64 (i:Int),.int .i64 (n:Int),.string sv,.slice AP nd cP]:=by rw[<-hcsn];simp
     rw[h1];exact H11.out.1.fr fY (by intro q hq;simp only[lms];rintro rfl;exact absurd (hAN _ hq) (Nat.lt_irrefl _))
    ·rcases List.mem_append.1 hp with hp | hp
     ·exact Own.frT (Own.frT ((HJ.out.2.1.ds p hp).fr HD10.out.2.2 (by simp)) H11.out.2.1 hNp (by simp)) fY hND (by simp)
     ·rw[lms] at hp
      subst hp;have h1:=HQ.out
      show Own Y 57 32 AP d.length cP (d.flatMap dCells)
      rw[HI.out.2.2.2];exact Own.frT (Own.frT h1 H11.out.2.1 hNp (by simp)) fY hND (by simp)
   have hpl2:(ps++[PF.mk i (encAG y.a) AP cP d]).length=j+1:=by rw[lla,HJ.out.2.2.1];rfl
   have hpm2:((ps++[PF.mk i (encAG y.a) AP cP d]).map fun p=>(p.i,p.s,p.d))=(cl.take (j+1)).map (pfOf xs n):=by
    rw[List.map_append,HJ.out.2.2.2.1,List.take_add_one,HI.out.1,List.map_append];simp[HI.out.2.1]
   have hf2Y:Fr [] w2 Y:=((HJ.out.2.2.2.2.1.then HD10.out.2.2).trans H11.out.2.1 (fun q hq=>.inr (by have h1:=HJ.out.2.2.2.2.2.1 q hq;have h2:=HDz.out.2;omega))).trans fY (by simp;have h2:=HDz.out.2;omega);have hrD:r<D:=by have h1:=HR.out.1;have h2:=HDz.out.1;omega
   have hrcY:Cs Y r (intsC cl):=((HJ.out.2.2.2.2.2.2.fr0 HD10.out.2.2).fr H11.out.2.1 (fun hm=>by have:=HJ.out.2.2.2.2.2.1 r hm;omega)).fr fY (by simp;omega);have HFIN:=Hd (An hbY (An hpr2 (An hpl2 (An hpm2 (An hf2Y (An hAN hrcY))))));clear hbY hpr2 hpl2 hpm2 hf2Y hAN hrcY hrD fY hNp hND hcsn H11 HQ HD10 HO10
   go_wp2_with fail
   go_roundw
   case rel=>exact⟨j+1,AN,cN,_,by omega,by go_num,HFIN.out.1,HFIN.out.2.1,HFIN.out.2.2.1,HFIN.out.2.2.2.1,HFIN.out.2.2.2.2.1,HFIN.out.2.2.2.2.2.1,HFIN.out.2.2.2.2.2.2⟩
   case measure=>simp[intOf];omega
  ·obtain rfl:j=nc:=by omega
   have hrz:=HN.out.2.fr hfr (by simp);obtain⟨g0,g1,g2,g3,g4,g5,g6,g7⟩:=hb.m8;have u0:=hrz.k0;have v0:=hrz.f 0;have u1:=hrz.k1;have v1:=hrz.f 1;have u2:=hrz.k2;have v2:=hrz.f 2;have u3:=hrz.k3;have v3:=hrz.f 3;have u4:=hrz.k4;have v4:=hrz.f 4;have u5:=hrz.k5;have v5:=hrz.f 5;have u6:=hrz.k6;have v6:=hrz.f 6;have u7:=hrz.k7;have v7:=hrz.f 7;have HU:=Hd (An hrz (An hpr (An hpm hfr)));clear hrz hb hpr hpm hfr hpD hrc
   go_wp2_with fail
   obtain⟨wz,hwz⟩:=nmd ((((((((((wr.setCell ⟨RB,0,none⟩ (.int .i64 k)).setCell ⟨RB,1,none⟩ (.string so)).setCell ⟨RB,2,none⟩ (.int .i64 nu)).setCell ⟨RB,3,none⟩ (.int .i64 ix)).setCell ⟨RB,4,none⟩ (.string st)).setCell ⟨RB,5,none⟩ (.int .i64 (P:Int))).setCell ⟨RB,6,none⟩ (.int .i64 (n:Int))).setCell ⟨RB,7,none⟩ (.slice PA j pc))));have hbz:BoxN wz RB 39 #[.int .i64 k,.string so,.int .i64 nu,.int .i64 ix,.string st,.int .i64 (P:Int),.int .i64 (n:Int),.slice PA j pc]:=by rw[<-hwz];exact (((((((HU.out.1.setAt 0 _).setAt 1 _).setAt 2 _).setAt 3 _).setAt 4 _).setAt 5 _).setAt 6 _).setAt 7 _
   have fz:Fr [RB] wr wz:=by rw[<-hwz];exact (((((((((Fq [RB] wr).set (.inl (by simp)) _).set (.inl (by simp)) _).set (.inl (by simp)) _).set (.inl (by simp)) _).set (.inl (by simp)) _).set (.inl (by simp)) _).set (.inl (by simp)) _).set (.inl (by simp)) _)
   try rw[hwz]
   obtain⟨t0,t1,t2,t3,t4,t5,t6,t7⟩:=hbz.m8;have hNo:NoT [53,57] wr [RB]:=NoT.box HU.out.1 (by decide);refine bodyPost_ret (v:=.tuple #[rcV k so nu ix st (P:Int) (n:Int) (.slice PA j pc),.int .i64 0]) (by simp[results,results14,rcV,go_sem,t0,t1,t2,t3,t4,t5,t6,t7]) rfl ?_;have hmm:=HMM.out;unfold MakePost;rw[hmm];have htk:cl.take j=cl:=List.take_of_length_le (by rw[HCI.out.2.1];exact nlr _);have hpm:=HU.out.2.2.1;rw[htk] at hpm;exact⟨PA,pc,ps,by rw[HCI.out.2.1,HKN.out.2.1,HKN.out.2.2.1,HKN.out.2.2.2],⟨Own.frT HU.out.2.1.own fz hNo (by simp),fun p hp=>Own.frT (HU.out.2.1.ds p hp) fz hNo (by simp)⟩,hpm,(HF2.out.then HU.out.2.2.2).trans fz (by simp;have:=HZ.out;omega)⟩
theorem flat_at32:∀ {xs:List Nm} {j:Nat} {x:Nm} {o:Nat},(∀ y∈xs,y.length=32)->xs[j]?=some x->o<32->(xs.flatMap dCells)[j*32+o]?=(dCells x)[o]?
 | [],j,x,o,_,h,_=>by simp at h
 | y::r,0,x,o,hl,h,ho=>by
  simp at h;subst h
  rw[List.flatMap_cons,Nat.zero_mul,Nat.zero_add,List.getElem?_append_left (by rw[dcells_len,hl y (by simp)];exact ho)]
 | y::r,j+1,x,o,hl,h,ho=>by
  rw[List.flatMap_cons,List.getElem?_append_right (by rw[dcells_len,hl y (by simp),Nat.add_mul];omega),dcells_len,hl y (by simp),show (j+1)*32+o - 32=j*32+o by rw[Nat.add_mul];omega];exact flat_at32 (fun z hz=>hl z (by simp[hz])) (by simpa using h) ho
theorem run_ne_dig (W:World) {d:Nm} (hd:d.length=32):(binOp .neq 57 (.agg (dCells d).toArray) (.agg (dCells d).toArray)).run prog W=.ok (.bool false) W:=by
 rw[run_neq_struct,run_eq_dig W hd];rfl
theorem Equal_g (w:World) (k nu ix:Int) (so st:ByteArray) (P n np c1 c2:Nat) (A1 A2:Option Addr) (p1 p2:List PF) (h1:PrL w n A1 c1 p1) (h2:PrL w n A2 c2 p2) (l1:p1.length=np) (heq:(p1.map fun p=>(p.i,p.s,p.d))=p2.map fun p=>(p.i,p.s,p.d)) (hl:np<=12) (hd:∀ p∈p1,p.d.length<=1000/\∀ e∈p.d,e.length=32) :
 Calls prog 15 #[rcV k so nu ix st (P:Int) (n:Int) (.slice A1 np c1),rcV k so nu ix st (P:Int) (n:Int) (.slice A2 np c2)] w (RetPost w (.bool true)):=by
 unfold rcV;obtain⟨w1,hw1,hz1,n1,f1⟩:=bxz w #[.int .i64 k,.string so,.int .i64 nu,.int .i64 ix,.string st,.int .i64 (P:Int),.int .i64 (n:Int),.slice A1 np c1] 39 w.heap.size;obtain⟨w2,hw2,hz2,n2,f2⟩:=bxz w1 #[.int .i64 k,.string so,.int .i64 nu,.int .i64 ix,.string st,.int .i64 (P:Int),.int .i64 (n:Int),.slice A2 np c2] 39 (w.heap.size+1);have HW1:=Hd hw1;have HW2:=Hd hw2;have HF:=Hd (f1.then f2);have n3:=n1.fr f2 (by simp);obtain⟨x0,x1,x2,x3,x4,x5,x6,x7⟩:=n3.m8;obtain⟨y0,y1,y2,y3,y4,y5,y6,y7⟩:=n2.m8;have HB:=Hd (An n3 n2);have HP:=Hd (An h1 (An h2 (An l1 (An heq hd))));clear hw1 hw2 f1 f2 n1 n2 n3 hz1 hz2 h1 h2 l1 heq hd
 go_enter func15,ntmps15
 go_upto_region 1 with fail
 rw[HW1.out,HW2.out]
 go_upto_region 3 with fail
 clear x0 x1 x2 x3 x4 x5 x6 x7 y0 y1 y2 y3 y4 y5 y6 y7;obtain⟨RA,hRA⟩:=nmd (w.heap.size);have HB2:=HB.out;rw[hRA] at HB2;obtain⟨RC,hRC⟩:=nmd (RA+1);rw[hRC] at HB2;clear HB;have HB:=Hd HB2;clear HB2;simp only[hRA,hRC];clear hRA hRC
 go_wp2_with fail
 go_loopw [5] (fun ixv W=>∃ j:Nat,j<=np/\ixv=.int .i64 (j:Int)/\Fr [] w2 W) (fun j _=>np - (intOf j).toNat)
 case atStart=>exact⟨0,Nat.zero_le _,rfl,Fq _ _⟩
 case round =>
  obtain⟨j,hj,rfl,hfr⟩:=hrel;have hb1:=HB.out.1.fr hfr (by simp);have hb2:=HB.out.2.fr hfr (by simp);have x7:=hb1.k7;have y7:=hb2.k7
  by_cases hjl:j<np
  ·have hlt3:(j:Int)<(np:Int):=by omega
   have hwj:IntKind.i64.wrap (j:Int)=(j:Int):=by simp only[IntKind.wrap_i64];omega
   obtain⟨p,hp⟩:∃ y,p1[j]?=some y:=⟨_,lge (by rw[HP.out.2.2.1];exact hjl)⟩;have hpq:(p2.map fun p=>(p.i,p.s,p.d))[j]?=some (p.i,p.s,p.d):=by rw[<-HP.out.2.2.2.1,List.getElem?_map,hp];rfl
   rw[List.getElem?_map] at hpq
   obtain⟨q,hq⟩:∃ y,p2[j]?=some y:=by
    cases h:p2[j]? with
    | none=>rw[h] at hpq;simp at hpq
    | some y=>exact⟨y,rfl⟩
   rw[hq] at hpq;simp only[Option.map_some,Option.some.injEq,Prod.mk.injEq] at hpq
   have l2:p2.length=np:=by
    have:=congrArg List.length HP.out.2.2.2.1;simp only[List.length_map] at this;rw[<-this];exact HP.out.2.2.1
   have o1:=HP.out.1.own;have o2:=HP.out.2.1.own;rw[HP.out.2.2.1] at o1;rw[l2] at o2;obtain⟨b1,rfl,g1⟩:=Cs.of_own o1 (by omega);obtain⟨b2,rfl,g2⟩:=Cs.of_own o2 (by omega);have hfw:=HF.out.then hfr;have e1:=fun o (ho:o<4)=>flat_at (pf_len n) hp ho;have e2:=fun o (ho:o<4)=>flat_at (pf_len n) hq ho;obtain⟨sv,hsv,_,_⟩:=str_of p.s;obtain⟨nd,hnd⟩:=nmd (p.d.length);unfold PF.cs at e1 e2;rw[hpq.1,hpq.2.1,hpq.2.2,hsv,hnd] at e2;rw[hsv,hnd] at e1;have hsz:RC<wr.heap.size:=hb2.lt;have hsz0:RA<wr.heap.size:=hb1.lt;have hb1l:b1<wr.heap.size:=(g1.fr0 hfw).1;have hb2l:b2<wr.heap.size:=(g2.fr0 hfw).1
   have HSS:=Hd (fun (W:World) (hW:Fr [] wr W)=>(show W.cell? ⟨RA,7,none⟩=some (.slice (some ⟨b1,0,none⟩) np c1)/\W.cell? ⟨RC,7,none⟩=some (.slice (some ⟨b2,0,none⟩) np c2)/\W.cell? ⟨b1,j*4,none⟩=some (.int .i64 (p.i:Int))/\W.cell? ⟨b1,j*4+1,none⟩=some (.int .i64 (n:Int))/\W.cell? ⟨b1,j*4+2,none⟩=some (.string sv)/\W.cell? ⟨b1,j*4+3,none⟩=some (.slice p.A nd p.c)/\W.cell? ⟨b2,j*4,none⟩=some (.int .i64 (p.i:Int))/\W.cell? ⟨b2,j*4+1,none⟩=some (.int .i64 (n:Int))/\W.cell? ⟨b2,j*4+2,none⟩=some (.string sv)/\W.cell? ⟨b2,j*4+3,none⟩=some (.slice q.A nd q.c) from by
    have k1:=(g1.fr0 hfw).fr0 hW;have k2:=(g2.fr0 hfw).fr0 hW;exact⟨(hb1.fr hW (by simp)).c 7,(hb2.fr hW (by simp)).c 7,k1.2 _ _ (e1 0 (by omega)),k1.2 _ _ (e1 1 (by omega)),k1.2 _ _ (e1 2 (by omega)),k1.2 _ _ (e1 3 (by omega)),k2.2 _ _ (e2 0 (by omega)),k2.2 _ _ (e2 1 (by omega)),k2.2 _ _ (e2 2 (by omega)),k2.2 _ _ (e2 3 (by omega))⟩))
   have HQ:=Hd (An hp (An hq (An hpq hnd)));have HFR:=Hd (An hfr hfw);clear hp hq hpq hnd hsv e1 e2 g1 g2 o1 o2 hb1 hb2 hfr hfw l2
   go_upto_region 6 with fail
   clear x7 y7;obtain⟨a7,b7,z0,z1,z2,z3,u0,u1,u2,u3⟩:=HSS.out wr (Fq _ _)
   go_region
   ·obtain⟨W1,hW1⟩:=nmd (((wr.alloc (.cells #[.int .i64 (p.i:Int),.int .i64 (n:Int),.string sv,.slice p.A nd p.c] 53)).alloc (.cells #[.int .i64 (p.i:Int),.int .i64 (n:Int),.string sv,.slice q.A nd q.c] 53)).drew)
    have nA:BoxN W1 wr.heap.size 53 #[.int .i64 (p.i:Int),.int .i64 (n:Int),.string sv,.slice p.A nd p.c]:=by rw[<-hW1];exact ((BoxN.new wr _ _).alloc _).drew
    have nB:BoxN W1 (wr.heap.size+1) 53 #[.int .i64 (p.i:Int),.int .i64 (n:Int),.string sv,.slice q.A nd q.c]:=by
     have h:=BoxN.new (wr.alloc (.cells #[.int .i64 (p.i:Int),.int .i64 (n:Int),.string sv,.slice p.A nd p.c] 53)) 53 #[.int .i64 (p.i:Int),.int .i64 (n:Int),.string sv,.slice q.A nd q.c];rw[wsA] at h;rw[<-hW1];exact h.drew
    have fA:Fr [] wr W1:=by rw[<-hW1];exact (((Fq [] wr).alloc _).alloc _).drew
    rw[hW1];obtain⟨S0,hS0⟩:=nmd (wr.heap.size);rw[hS0] at nA nB ⊢;obtain⟨d0,d1,d2,d3⟩:=nA.m4;obtain⟨d4,d5,d6,d7⟩:=nB.m4;clear hW1 a7 b7 z0 z1 z2 z3 u0 u1 u2 u3
    go_wp2_with fail
    have HN:=Hd (An nA (An nB (HFR.out.2.then fA)));have hpd:=HP.out.2.2.2.2 p (lmg HQ.out.1);have HPD:=Hd hpd;have hnd1:nd<=1000:=by rw[<-HQ.out.2.2.2];exact hpd.1
    clear d0 d1 d2 d3 d4 d5 d6 d7 nA nB hpd
    go_loopw [8] (fun ixv W=>∃ t:Nat,t<=nd/\ixv=.int .i64 (t:Int)/\Fr [] W1 W) (fun j _=>nd - (intOf j).toNat)
    case atStart=>exact⟨0,Nat.zero_le _,rfl,Fq _ _⟩
    case round =>
     obtain⟨t,ht,rfl,hft⟩:=hrel;have g6:=HN.out.1.fr hft (by simp);have g7:=HN.out.2.1.fr hft (by simp)
     by_cases htl:t<nd
     ·have hlt5:(t:Int)<(nd:Int):=by omega
      have hwt:IntKind.i64.wrap (t:Int)=(t:Int):=by simp only[IntKind.wrap_i64];omega
      obtain⟨e,he⟩:∃ y,p.d[t]?=some y:=⟨_,lge (by rw[HQ.out.2.2.2];exact htl)⟩;have he32:=HPD.out.2 e (lmg he);have o1:=HP.out.1.ds p (lmg HQ.out.1);have o2:=HP.out.2.1.ds q (lmg HQ.out.2.1);rw[HQ.out.2.2.1.2.2] at o2;rw[HQ.out.2.2.2] at o1 o2;obtain⟨ba,hba,ga⟩:=Cs.of_own o1 (by omega);obtain⟨bq,hbq,gq⟩:=Cs.of_own o2 (by omega);have hfw2:=HN.out.2.2.then hft;have ga2:=ga.fr0 hfw2;have gq2:=gq.fr0 hfw2;have hce:(dCells e).length=32:=by rw[dcells_len,he32]
      have hrgA:∀ X,Fr [] wr X->X.rangeAt ba (t*32) (dCells e):=fun X hX j v hv=>by
       have hj:j<32:=by have:=(lgs.1 hv).1;omega
       exact (ga2.fr0 hX).2 _ _ ((flat_at32 HPD.out.2 he hj).trans hv)
      have hrgQ:∀ X,Fr [] wr X->X.rangeAt bq (t*32) (dCells e):=fun X hX j v hv=>by
       have hj:j<32:=by have:=(lgs.1 hv).1;omega
       exact (gq2.fr0 hX).2 _ _ ((flat_at32 HPD.out.2 he hj).trans hv)
      have h63:wr.cell? ⟨S0,3,none⟩=some (.slice (some ⟨ba,0,none⟩) nd p.c):=by rw[<-hba];exact g6.c 3
      have HSS:=Hd (fun (X:World) (hX:Fr [] wr X)=>(show X.cell? ⟨S0,3,none⟩=some (.slice (some ⟨ba,0,none⟩) nd p.c)/\X.cell? ⟨S0+1,3,none⟩=some (.slice (some ⟨bq,0,none⟩) nd q.c) from ⟨by rw[<-hba];exact (g6.fr hX (by simp)).c 3,by rw[<-hbq];exact (g7.fr hX (by simp)).c 3⟩));have HE:=Hd he32;have HFT:=Hd hft;clear g6 g7 o1 o2 ga gq ga2 gq2 hfw2 he he32 hft
      go_upto_region 12 with fail
      clear h63;have hC:Fr [] wr wr.drew:=(Fq [] wr).drew;refine wp_region_head (fun W:World=>Fr [] wr W) 10 (by kernel_rfl) ?_ (by decide)
      show headJ 0 _ _ _ _ _ _ _ _ _ _ _
      iterate 4
       refine hdJ (v:=?_) rfl (Or.inl ⟨by rfl,?_⟩) ?_
       rotate_left
       ·intro W hW;obtain⟨s6,s7⟩:=HSS.out W hW;go_simp;try with_reducible rfl
       try simp only[Act.put,qA,qB,qC,qD,qE,qF]
      refine headI_take (i:=4) (v:=.agg (dCells e).toArray) (by kernel_rfl) head_done rfl (by decide) (by kernel_rfl) (fun _ _ _ h=>h) (yieldsIf_load_mid (by rfl) 57 (.tmp 85) rfl ba (t*32) rfl (dCells e) (.array 32 5) (hrgA) (by kernel_rfl) rfl (by rw[hce];kernel_rfl)) (by assumption) ?_
      try simp only[Act.put,qA,qB,qC,qD,qE,qF]
      show headJ 5 _ _ _ _ _ _ _ _ _ _ _
      iterate 4
       refine hdJ (v:=?_) rfl (Or.inl ⟨by rfl,?_⟩) ?_
       rotate_left
       ·intro W hW;obtain⟨s6,s7⟩:=HSS.out W hW;go_simp;try with_reducible rfl
       try simp only[Act.put,qA,qB,qC,qD,qE,qF]
      refine headI_take (i:=9) (v:=.agg (dCells e).toArray) (by kernel_rfl) head_done rfl (by decide) (by kernel_rfl) (fun _ _ _ h=>h) (yieldsIf_load_mid (by rfl) 57 (.tmp 90) rfl bq (t*32) rfl (dCells e) (.array 32 5) (hrgQ) (by kernel_rfl) rfl (by rw[hce];kernel_rfl)) (by assumption) ?_
      try simp only[Act.put,qA,qB,qC,qD,qE,qF]
      refine headI_done ⟨by kernel_rfl,?_⟩;simp only[qG,qH];have hne:=fun W=>run_ne_dig W HE.out
      go_wp2_with fail
      go_roundw
      case rel=>exact⟨t+1,by omega,by go_num,HFT.out.drew⟩
      case measure=>simp[intOf];omega
     ·obtain rfl:t=nd:=by omega
      have h63:=g6.k3
      go_wp2_with fail
      go_roundw
      case rel=>exact⟨j+1,by omega,by go_num,(HFR.out.1.then fA).then hft⟩
      case measure=>simp[intOf];omega
   ·obtain⟨W1,hW1⟩:=nmd (((wr.alloc (.cells #[.int .i64 (p.i:Int),.int .i64 (n:Int),.string sv,.slice q.A nd q.c] 53)).alloc (.cells #[.int .i64 (p.i:Int),.int .i64 (n:Int),.string sv,.slice p.A nd p.c] 53)).drew)
    have nA:BoxN W1 wr.heap.size 53 #[.int .i64 (p.i:Int),.int .i64 (n:Int),.string sv,.slice q.A nd q.c]:=by rw[<-hW1];exact ((BoxN.new wr _ _).alloc _).drew
    have nB:BoxN W1 (wr.heap.size+1) 53 #[.int .i64 (p.i:Int),.int .i64 (n:Int),.string sv,.slice p.A nd p.c]:=by
     have h:=BoxN.new (wr.alloc (.cells #[.int .i64 (p.i:Int),.int .i64 (n:Int),.string sv,.slice q.A nd q.c] 53)) 53 #[.int .i64 (p.i:Int),.int .i64 (n:Int),.string sv,.slice p.A nd p.c];rw[wsA] at h;rw[<-hW1];exact h.drew
    have fA:Fr [] wr W1:=by rw[<-hW1];exact (((Fq [] wr).alloc _).alloc _).drew
    rw[hW1];obtain⟨S0,hS0⟩:=nmd (wr.heap.size);rw[hS0] at nA nB ⊢;obtain⟨d0,d1,d2,d3⟩:=nB.m4;obtain⟨d4,d5,d6,d7⟩:=nA.m4;clear hW1 a7 b7 z0 z1 z2 z3 u0 u1 u2 u3
    go_wp2_with fail
    have HN:=Hd (An nB (An nA (HFR.out.2.then fA)));have hpd:=HP.out.2.2.2.2 p (lmg HQ.out.1);have HPD:=Hd hpd;have hnd1:nd<=1000:=by rw[<-HQ.out.2.2.2];exact hpd.1
    clear d0 d1 d2 d3 d4 d5 d6 d7 nA nB hpd
    go_loopw [8] (fun ixv W=>∃ t:Nat,t<=nd/\ixv=.int .i64 (t:Int)/\Fr [] W1 W) (fun j _=>nd - (intOf j).toNat)
    case atStart=>exact⟨0,Nat.zero_le _,rfl,Fq _ _⟩
    case round =>
     obtain⟨t,ht,rfl,hft⟩:=hrel;have g6:=HN.out.1.fr hft (by simp);have g7:=HN.out.2.1.fr hft (by simp)
     by_cases htl:t<nd
     ·have hlt5:(t:Int)<(nd:Int):=by omega
      have hwt:IntKind.i64.wrap (t:Int)=(t:Int):=by simp only[IntKind.wrap_i64];omega
      obtain⟨e,he⟩:∃ y,p.d[t]?=some y:=⟨_,lge (by rw[HQ.out.2.2.2];exact htl)⟩;have he32:=HPD.out.2 e (lmg he);have o1:=HP.out.1.ds p (lmg HQ.out.1);have o2:=HP.out.2.1.ds q (lmg HQ.out.2.1);rw[HQ.out.2.2.1.2.2] at o2;rw[HQ.out.2.2.2] at o1 o2;obtain⟨ba,hba,ga⟩:=Cs.of_own o1 (by omega);obtain⟨bq,hbq,gq⟩:=Cs.of_own o2 (by omega);have hfw2:=HN.out.2.2.then hft;have ga2:=ga.fr0 hfw2;have gq2:=gq.fr0 hfw2;have hce:(dCells e).length=32:=by rw[dcells_len,he32]
      have hrgA:∀ X,Fr [] wr X->X.rangeAt ba (t*32) (dCells e):=fun X hX j v hv=>by
       have hj:j<32:=by have:=(lgs.1 hv).1;omega
       exact (ga2.fr0 hX).2 _ _ ((flat_at32 HPD.out.2 he hj).trans hv)
      have hrgQ:∀ X,Fr [] wr X->X.rangeAt bq (t*32) (dCells e):=fun X hX j v hv=>by
       have hj:j<32:=by have:=(lgs.1 hv).1;omega
       exact (gq2.fr0 hX).2 _ _ ((flat_at32 HPD.out.2 he hj).trans hv)
      have h63:wr.cell? ⟨S0+1,3,none⟩=some (.slice (some ⟨ba,0,none⟩) nd p.c):=by rw[<-hba];exact g6.c 3
      have HSS:=Hd (fun (X:World) (hX:Fr [] wr X)=>(show X.cell? ⟨S0+1,3,none⟩=some (.slice (some ⟨ba,0,none⟩) nd p.c)/\X.cell? ⟨S0,3,none⟩=some (.slice (some ⟨bq,0,none⟩) nd q.c) from ⟨by rw[<-hba];exact (g6.fr hX (by simp)).c 3,by rw[<-hbq];exact (g7.fr hX (by simp)).c 3⟩));have HE:=Hd he32;have HFT:=Hd hft;clear g6 g7 o1 o2 ga gq ga2 gq2 hfw2 he he32 hft
      go_upto_region 12 with fail
      clear h63;have hC:Fr [] wr wr.drew:=(Fq [] wr).drew;refine wp_region_head (fun W:World=>Fr [] wr W) 10 (by kernel_rfl) ?_ (by decide)
      show headJ 0 _ _ _ _ _ _ _ _ _ _ _
      iterate 4
       refine hdJ (v:=?_) rfl (Or.inl ⟨by rfl,?_⟩) ?_
       rotate_left
       ·intro W hW;obtain⟨s6,s7⟩:=HSS.out W hW;go_simp;try with_reducible rfl
       try simp only[Act.put,qA,qB,qC,qD,qE,qF]
      refine headI_take (i:=4) (v:=.agg (dCells e).toArray) (by kernel_rfl) head_done rfl (by decide) (by kernel_rfl) (fun _ _ _ h=>h) (yieldsIf_load_mid (by rfl) 57 (.tmp 85) rfl ba (t*32) rfl (dCells e) (.array 32 5) (hrgA) (by kernel_rfl) rfl (by rw[hce];kernel_rfl)) (by assumption) ?_
      try simp only[Act.put,qA,qB,qC,qD,qE,qF]
      show headJ 5 _ _ _ _ _ _ _ _ _ _ _
      iterate 4
       refine hdJ (v:=?_) rfl (Or.inl ⟨by rfl,?_⟩) ?_
       rotate_left
       ·intro W hW;obtain⟨s6,s7⟩:=HSS.out W hW;go_simp;try with_reducible rfl
       try simp only[Act.put,qA,qB,qC,qD,qE,qF]
      refine headI_take (i:=9) (v:=.agg (dCells e).toArray) (by kernel_rfl) head_done rfl (by decide) (by kernel_rfl) (fun _ _ _ h=>h) (yieldsIf_load_mid (by rfl) 57 (.tmp 90) rfl bq (t*32) rfl (dCells e) (.array 32 5) (hrgQ) (by kernel_rfl) rfl (by rw[hce];kernel_rfl)) (by assumption) ?_
      try simp only[Act.put,qA,qB,qC,qD,qE,qF]
      refine headI_done ⟨by kernel_rfl,?_⟩;simp only[qG,qH];have hne:=fun W=>run_ne_dig W HE.out
      go_wp2_with fail
      go_roundw
      case rel=>exact⟨t+1,by omega,by go_num,HFT.out.drew⟩
      case measure=>simp[intOf];omega
     ·obtain rfl:t=nd:=by omega
      have h63:=g6.k3
      go_wp2_with fail
      go_roundw
      case rel=>exact⟨j+1,by omega,by go_num,(HFR.out.1.then fA).then hft⟩
      case measure=>simp[intOf];omega
  ·obtain rfl:j=np:=by omega
   go_wp2_with fail
   go_ret
   exact⟨rfl,HF.out.then hfr⟩
theorem PrL.fr0 {w w':World} {n:Nat} {A:Option Addr} {c:Nat} {ps:List PF} (h:PrL w n A c ps) (hf:Fr [] w w'):PrL w' n A c ps:=⟨h.own.fr hf (by simp),fun p hp=>(h.ds p hp).fr hf (by simp)⟩
theorem makeM_inr {xs:List AX} {nm:ON} {P:Nat} {kk:Int} {L:List Nat} (h:makeM xs nm P kk=.inr L):0<=kk/\kk.toNat<=xs.length/\L.length<=kk.toNat:=by
 unfold makeM at h;split at h
 ·cases h
 ·rename_i h1
  split at h
  ·cases h
  ·rename_i h2
   injection h with h
   have hl:((xs.map AX.a).take kk.toNat).length<=kk.toNat:=by rw[List.length_take];omega
   rcases oRes_nat ((xs.map AX.a).take kk.toNat) nm P (by simpa using (not_or.1 h2).1) with h3 | ⟨v,hv,h3⟩
   ·exact absurd h3 (not_or.1 h2).2
   ·rw[h3,Int.toNat_natCast] at h
    have h4:=(causL_idx (n:=kk.toNat) (i:=v) (lkA_down ((xs.map AX.a).take kk.toNat)) (by omega)).1;rw[h] at h4;exact⟨by omega,by omega,h4⟩
theorem pf_ok {xs:List AX} {n:Nat} {L:List Nat} {ps:List PF} (hn:n<=xs.length) (h12:xs.length<=12) (h:(ps.map fun p=>(p.i,p.s,p.d))=L.map (pfOf xs n)):∀ p∈ps,p.d.length<=1000/\∀ e∈p.d,e.length=32:=by
 intro p hp;have h1:(p.i,p.s,p.d)∈L.map (pfOf xs n):=by rw[<-h];exact List.mem_map.2 ⟨p,hp,rfl⟩
 obtain⟨i,_,h2⟩:=List.mem_map.1 h1;unfold pfOf at h2;simp only[Prod.mk.injEq] at h2;rw[<-h2.2.2];unfold pathX;have hd:=dsX_len xs;exact⟨by have:=pth_len (dsX xs) (n+1) (i+1) 0 (by omega) (by omega);omega,pth_32 (dsX_32 xs) (n+1) (i+1) 0 (by omega) (by omega) (by omega)⟩
theorem Equal_zero (w:World):Calls prog 15 #[rcZ,rcZ] w (RetPost w (.bool true)):=by
 unfold rcZ;obtain⟨w1,hw1,hz1,n1,f1⟩:=bxz w #[.int .i64 0,.string ⟨#[]⟩,.int .i64 0,.int .i64 0,.string ⟨#[]⟩,.int .i64 0,.int .i64 0,.slice none 0 0] 39 w.heap.size;obtain⟨w2,hw2,hz2,n2,f2⟩:=bxz w1 #[.int .i64 0,.string ⟨#[]⟩,.int .i64 0,.int .i64 0,.string ⟨#[]⟩,.int .i64 0,.int .i64 0,.slice none 0 0] 39 (w.heap.size+1);have HW1:=Hd hw1;have HW2:=Hd hw2;have HF:=Hd (f1.then f2);have n3:=n1.fr f2 (by simp);obtain⟨x0,x1,x2,x3,x4,x5,x6,x7⟩:=n3.m8;obtain⟨y0,y1,y2,y3,y4,y5,y6,y7⟩:=n2.m8;clear hw1 hw2 f1 f2 n1 n2 n3 hz1 hz2
 go_enter func15,ntmps15
 go_upto_region 1 with fail
 rw[HW1.out,HW2.out]
 go_wp2_with fail
 refine wp_loop_rounds 1 ?_;rw[rounds_succ]
 go_wp2_with fail
 go_ret
 exact⟨rfl,HF.out⟩
theorem Makes_any (A:Option Addr) (c:Nat) (l:List AX) (af nmi at_ k0:Int) (h1:0<=af/\af<256) (h2:0<=nmi/\nmi<256) (h3:0<=at_/\at_<256) (w:World) (hok:Ok w) (h:AIns w A l) :
 Calls prog 3 #[.slice A l.length c,.agg #[.int .u8 af,.int .u8 nmi,.int .u8 at_],.int .i64 k0] w (RetPost w (.bool true)):=by
 obtain⟨w1,hw1,hz1,n1,f1⟩:=bxz w #[.int .u8 af,.int .u8 nmi,.int .u8 at_] 24 w.heap.size;have HS:=Hd (Small_g A c l w1 (hok.fr0 f1) (h.fr0 f1));have HN1:=Hd (An n1 f1);have HW1:=Hd hw1;have HOK:=Hd hok;have HAF:=Hd (An h1 (An h2 h3));obtain⟨n,hn⟩:=nmd (l.length);rw[hn] at HS ⊢;clear hn hw1 n1 f1 hz1 hok h h1 h2 h3
 go_enter func3,ntmps3
 go_upto_region 1 with fail
 rw[HW1.out]
 go_upto_region 4 with (first
  | (go_at_call 10;(with_reducible refine HS.out.mono ?_);rintro e w2 ⟨b,xs,M,rfl,hh,hf,hM⟩;have H2:=Hd (An hh (HN1.out.2.then hf));have HF2:=Hd hf;clear hh hf hM)
  | (go_at_call 11;(with_reducible refine (Known_g w2 (HOK.out.fr0 H2.out.2)).mono ?_);rintro e w3 ⟨rfl,hf⟩;have H3:=Hd (An (H2.out.1.fr0 hf) (An (H2.out.2.then hf) (HN1.out.1.fr (HF2.out.then hf) (by simp))));clear hf))
 obtain⟨x0,x1,x2⟩:=H3.out.2.2.m3;have HP:=Hd (Place_g af nmi at_ HAF.out.1 HAF.out.2.1 HAF.out.2.2 b xs M w3 (HOK.out.fr0 H3.out.2.1) H3.out.1)
 go_upto_region 5 with (go_at_call 12;(with_reducible refine HP.out.mono ?_);rintro e w4 ⟨nm,so,st,P,m,rfl,⟨hck,hen⟩,hP,hm,hf4⟩;unfold plV;have H4:=Hd (An hck (An hen hP));have HF4:=Hd (An (H3.out.1.fr0 hf4) (H3.out.2.1.then hf4));clear hck hen hP hm hf4)
 obtain⟨w5,hw5,hz5,n5,f5⟩:=bxz w4 #[.int .i64 nm.kind,.string so,.int .i64 nm.number,.int .i64 nm.index,.string st,.int .i64 (P:Int)] 33 w4.heap.size;rw[hw5];clear x0 x1 x2 hw5 hz5
 go_upto_region 6 with fail
 obtain⟨w6,hw6,hz6,n6,f6⟩:=bxz w5 #[.int .i64 (m:Int),.int .i64 k0] 3 w5.heap.size;rw[hw6];obtain⟨D,hD⟩:=nmd (w4.heap.size);obtain⟨L,hL⟩:=nmd (w5.heap.size);rw[hD] at n5 ⊢;rw[hL] at n6 ⊢;have H6:=Hd (An (n5.fr f6 (by simp)) (An n6 (An (HF4.out.1.fr0 (f5.then f6)) (HF4.out.2.then (f5.then f6)))));clear n5 n6 hw6 f5 f6 hz6 hD hL
 go_loopw [38] (fun i W=>∃ (j:Nat),j<=2/\i=.int .i64 (j:Int)/\Fr [] w6 W) (fun i _=>2 - (intOf i).toNat)
 case atStart=>exact⟨0,Nat.zero_le _,rfl,Fq _ _⟩
 case round =>
  obtain⟨j,hj,rfl,hfr⟩:=hrel;have HF:=Hd hfr;clear hfr
  by_cases hlt:j<2
  ·have hlt3:(j:Int)<2:=by omega
   obtain⟨kk,hkk⟩:∃ kk,wr.cell? ⟨L,j,none⟩=some (.int .i64 kk):=by
    have h:=H6.out.2.1.fr HF.out (by simp)
    rcases (show j=0 \/ j=1 by omega) with rfl | rfl
    ·exact⟨_,h.c 0⟩
    ·exact⟨_,h.c 1⟩
   have hb:=H6.out.1.fr HF.out (by simp);obtain⟨z0,z1,z2,z3,z4,z5⟩:=hb.m6;have hm1:∀ W,Fr [] w6 W->Calls prog 13 #[.pointer (some ⟨b,0,none⟩),.agg #[.int .i64 nm.kind,.string so,.int .i64 nm.number,.int .i64 nm.index,.string st,.int .i64 (P:Int)],.int .i64 kk] W (MakePost W xs nm so st P kk):=fun W hW=>Make_g b xs M nm so st P kk W (H6.out.2.2.1.fr0 hW) (HOK.out.fr0 (H6.out.2.2.2.then hW)) H4.out.1 H4.out.2.1 (by have:=H4.out.2.2;omega);have hm2:∀ W,Fr [] w6 W->Calls prog 14 #[.pointer (some ⟨b,0,none⟩),.agg #[.int .i64 nm.kind,.string so,.int .i64 nm.number,.int .i64 nm.index,.string st,.int .i64 (P:Int)],.int .i64 kk] W (MakePost W xs nm so st P kk):=fun W hW=>MakeR_g b xs M nm so st P kk W (H6.out.2.2.1.fr0 hW) (HOK.out.fr0 (H6.out.2.2.2.then hW)) H4.out.1 H4.out.2.1 (by have:=H4.out.2.2;omega);unfold MakePost at hm1 hm2;obtain⟨r,hr⟩:=nmd (makeM xs nm P kk);rw[hr] at hm1 hm2
   cases r with
   | inl q =>
    simp only at hm1 hm2;unfold rcZ at hm1 hm2;have HM1:=Hd hm1;have HM2:=Hd hm2;clear hm1 hm2 hr hb
    go_upto_region 9 with (go_at_call 13;(with_reducible refine (HM1.out _ HF.out).mono ?_);rintro e w7 ⟨rfl,hf⟩;have H7:=Hd (HF.out.then hf);clear hf)
    obtain⟨wa,hw9,hz9,na,fa⟩:=bxz w7 #[.int .i64 0,.string ⟨#[]⟩,.int .i64 0,.int .i64 0,.string ⟨#[]⟩,.int .i64 0,.int .i64 0,.slice none 0 0] 39 w7.heap.size;rw[hw9];obtain⟨RA,hR9⟩:=nmd (w7.heap.size);rw[hR9] at na ⊢;clear hw9 hz9 hR9;have HA:=Hd (An na (H7.out.then fa));clear na fa z0 z1 z2 z3 z4 z5;have hb:=H6.out.1.fr HA.out.2 (by simp);obtain⟨z0,z1,z2,z3,z4,z5⟩:=hb.m6;clear hb
    go_upto_region 10 with (go_at_call 14;(with_reducible refine (HM2.out _ HA.out.2).mono ?_);rintro e w8 ⟨rfl,hf⟩;have H8:=Hd (An (HA.out.1.fr hf (by simp)) (HA.out.2.then hf));clear hf)
    obtain⟨wb,hw9,hz9,nb,fb⟩:=bxz w8 #[.int .i64 0,.string ⟨#[]⟩,.int .i64 0,.int .i64 0,.string ⟨#[]⟩,.int .i64 0,.int .i64 0,.slice none 0 0] 39 w8.heap.size;rw[hw9];obtain⟨RB,hR9⟩:=nmd (w8.heap.size);rw[hR9] at nb ⊢;clear hw9 hz9 hR9;have na:=H8.out.1.fr fb (by simp);obtain⟨x0,x1,x2,x3,x4,x5,x6,x7⟩:=na.m8;obtain⟨y0,y1,y2,y3,y4,y5,y6,y7⟩:=nb.m8;have HB:=Hd (H8.out.2.then fb);have heq:=Equal_zero wb;unfold rcZ at heq;have HE:=Hd heq;clear na nb fb heq z0 z1 z2 z3 z4 z5
    go_wp2_with (go_at_call 15;(with_reducible refine HE.out.mono ?_);rintro e w9 ⟨rfl,hf⟩;have H9:=Hd (HB.out.then hf);clear hf)
    go_roundw
    case rel=>exact⟨j+1,by omega,by go_num,H9.out⟩
    case measure=>simp[intOf];omega
   | inr C =>
    simp only at hm1 hm2;unfold rcV at hm1 hm2;obtain⟨hk0,hkn,hkl⟩:=makeM_inr hr;have h12:=H6.out.2.2.1.len12;obtain⟨kn,rfl⟩:∃ kn:Nat,kk=(kn:Int):=⟨kk.toNat,by omega⟩;rw[Int.toNat_natCast] at hkn hkl hm1 hm2;obtain⟨cl,hcl⟩:=nmd (C.length);rw[hcl] at hm1 hm2 hkl;have HM1:=Hd hm1;have HM2:=Hd hm2;have HKN:=Hd (An hkn (An h12 (An hcl hkl)));clear hm1 hm2 hr hb hk0 hkn hkl h12 hcl
    go_upto_region 9 with (go_at_call 13;(with_reducible refine (HM1.out _ HF.out).mono ?_);rintro e w7 ⟨A1,c1,p1,rfl,hp,hpm,hf⟩;have H7:=Hd (HF.out.then hf);have HP1:=Hd (An hp hpm);clear hf hp hpm)
    obtain⟨wa,hw9,hz9,na,fa⟩:=bxz w7 #[.int .i64 nm.kind,.string so,.int .i64 nm.number,.int .i64 nm.index,.string st,.int .i64 (P:Int),.int .i64 (kn:Int),.slice A1 cl c1] 39 w7.heap.size;rw[hw9];obtain⟨RA,hR9⟩:=nmd (w7.heap.size);rw[hR9] at na ⊢;clear hw9 hz9 hR9;have HA:=Hd (An na (An (H7.out.then fa) (HP1.out.1.fr0 fa)));clear na fa z0 z1 z2 z3 z4 z5;have hb:=H6.out.1.fr HA.out.2.1 (by simp);obtain⟨z0,z1,z2,z3,z4,z5⟩:=hb.m6;clear hb
    go_upto_region 10 with (go_at_call 14;(with_reducible refine (HM2.out _ HA.out.2.1).mono ?_);rintro e w8 ⟨A2,c2,p2,rfl,hp,hpm,hf⟩;have H8:=Hd (An (HA.out.1.fr hf (by simp)) (An (HA.out.2.1.then hf) (HA.out.2.2.fr0 hf)));have HP2:=Hd (An hp hpm);clear hf hp hpm)
    obtain⟨wb,hw9,hz9,nb,fb⟩:=bxz w8 #[.int .i64 nm.kind,.string so,.int .i64 nm.number,.int .i64 nm.index,.string st,.int .i64 (P:Int),.int .i64 (kn:Int),.slice A2 cl c2] 39 w8.heap.size;rw[hw9];obtain⟨RB,hR9⟩:=nmd (w8.heap.size);rw[hR9] at nb ⊢;clear hw9 hz9 hR9;have na:=H8.out.1.fr fb (by simp);obtain⟨x0,x1,x2,x3,x4,x5,x6,x7⟩:=na.m8;obtain⟨y0,y1,y2,y3,y4,y5,y6,y7⟩:=nb.m8;have HB:=Hd (H8.out.2.1.then fb)
    have hpl:p1.length=cl:=by
     have h:=congrArg List.length HP1.out.2;rw[List.length_map,List.length_map,HKN.out.2.2.1] at h;exact h
    have heq:=Equal_g wb nm.kind nm.number nm.index so st P kn cl c1 c2 A1 A2 p1 p2 (H8.out.2.2.fr0 fb) (HP2.out.1.fr0 fb) hpl (HP1.out.2.trans HP2.out.2.symm) (by have:=HKN.out;omega) (pf_ok HKN.out.1 HKN.out.2.1 HP1.out.2);unfold rcV at heq;have HE:=Hd heq;clear na nb fb heq z0 z1 z2 z3 z4 z5 hpl
    go_wp2_with (go_at_call 15;(with_reducible refine HE.out.mono ?_);rintro e w9 ⟨rfl,hf⟩;have H9:=Hd (HB.out.then hf);clear hf)
    go_roundw
    case rel=>exact⟨j+1,by omega,by go_num,H9.out⟩
    case measure=>simp[intOf];omega
  ·obtain rfl:j=2:=by omega
   go_wp2_with fail
   go_ret
   exact⟨rfl,H6.out.2.2.2.then HF.out⟩
end Go.Proofs.YtlpmiimgacfmkaaGreatDoor
