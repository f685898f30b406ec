/- receipt: Make of any history. -/
import Derived.Laws.IdiomRangeMap
import Derived.Test.YtlpmiimgacfmkaaGreatDoorMCa1
import Derived.Test.YtlpmiimgacfmkaaGreatDoorMWc
import Derived.Test.YtlpmiimgacfmkaaGreatDoorMTr5
set_option linter.all false
namespace Go.Proofs.YtlpmiimgacfmkaaGreatDoor
open Go.Proofs.Tryz
open Go.RowKit
set_option maxRecDepth 100000
set_option maxHeartbeats 8000000
theorem lkA_down (l:List AG):Down (lkA l):=fun i x hx=>by
 unfold lkA at hx
 cases h:l[i]? with
 | none=>rw[h] at hx;simp at hx
 | some a =>
  rw[h] at hx;obtain⟨c,_,rfl⟩:=List.mem_map.1 hx;simp only
  rcases lastI_cases (wrL (l.take i) c.n) with h1 | ⟨v,hv,h1⟩
  ·rw[h1];omega
  ·rw[h1]
   have:=wrL_lt c.n v hv;rw[List.length_take] at this;omega
theorem lkA_len {l:List AG} (h:∀ a∈l,a.r.length<=10) (i:Nat):(lkA l i).length<=10:=by
 unfold lkA
 cases hi:l[i]? with
 | none=>simp
 | some a=>rw[List.length_map];exact h a (lmg hi)
structure PF where
 i:Nat
 s:Nm
 A:Option Addr
 c:Nat
 d:List Nm
def PF.cs (n:Nat) (p:PF):List Value:=[.int .i64 (p.i:Int),.int .i64 (n:Int),encN p.s,.slice p.A p.d.length p.c]
theorem pf_len (n:Nat) (p:PF):(p.cs n).length=4:=rfl
def pfOf (xs:List AX) (n i:Nat):Nat × Nm × List Nm:=(i,(match xs[i]? with | some y=>encAG y.a | none=>[]),pathX xs i n)
structure PrL (w:World) (n:Nat) (A:Option Addr) (c:Nat) (ps:List PF):Prop where
 own:Own w 53 4 A ps.length c (ps.flatMap (PF.cs n))
 ds:∀ p∈ps,Own w 57 32 p.A p.d.length p.c (p.d.flatMap dCells)
def makeM (xs:List AX) (nm:ON) (P:Nat) (kk:Int):Int ⊕ List Nat :=
 if kk<0 \/ (xs.length:Int)<kk then .inl 2
 else if (oRes ((xs.map AX.a).take kk.toNat) nm P).fd=false \/ (oRes ((xs.map AX.a).take kk.toNat) nm P).og=-1 then .inl 8
 else .inr (causL (lkA ((xs.map AX.a).take kk.toNat)) kk.toNat (oRes ((xs.map AX.a).take kk.toNat) nm P).og.toNat)
def rcZ:Value:=.agg #[.int .i64 0,.string ⟨#[]⟩,.int .i64 0,.int .i64 0,.string ⟨#[]⟩,.int .i64 0,.int .i64 0,.slice none 0 0]
def rcV (k:Int) (so:ByteArray) (nu ix:Int) (st:ByteArray) (P n:Int) (v:Value):Value:=.agg #[.int .i64 k,.string so,.int .i64 nu,.int .i64 ix,.string st,.int .i64 P,.int .i64 n,v]
def MakePost (w:World) (xs:List AX) (nm:ON) (so st:ByteArray) (P:Nat) (kk:Int) (e:Ending) (w':World):Prop :=
 match makeM xs nm P kk with
 | .inl q=>e=.returned (.tuple #[rcZ,.int .i64 q])/\Fr [] w w'
 | .inr L=>∃ A c ps,e=.returned (.tuple #[rcV nm.kind so nm.number nm.index st (P:Int) kk (.slice A L.length c),.int .i64 0])/\PrL w' kk.toNat A c ps/\(ps.map fun p=>(p.i,p.s,p.d))=L.map (pfOf xs kk.toNat)/\Fr [] w w'
theorem os_og (P:Nat):∀ (R:List VZ) (s:OS),s.fd=true->(OS.walk P R s).fd=true/\((OS.walk P R s).og=s.og \/ ∃ z∈R,(OS.walk P R s).og=z.i)
 | [],s,h=>⟨h,.inl rfl⟩
 | z::r,s,h=>by
  rw[OS.walk];split
  ·exact⟨h,.inl rfl⟩
  ·obtain⟨h1,h2⟩:=os_og P r (OS.next P z) rfl
   refine⟨h1,.inr ?_⟩
   rcases h2 with h2 | ⟨y,hy,h2⟩
   ·exact⟨z,by simp,h2⟩
   ·exact⟨y,by simp[hy],h2⟩
theorem verL_nat {l:List AG} {n:ON} {z:VZ} (h:z∈ofL l n):z.i=-1 \/ ∃ v:Nat,v<l.length/\z.i=(v:Int):=by
 rcases List.mem_cons.1 h with rfl | h
 ·exact .inl rfl
 ·obtain⟨x,hx,rfl⟩:=List.mem_map.1 h
  have:=verF_lt n l 0 x hx;exact .inr ⟨x.i,by omega,rfl⟩
theorem oRes_nat (l:List AG) (n:ON) (P:Nat) (h:(oRes l n P).fd=true):(oRes l n P).og=-1 \/ ∃ v:Nat,v<l.length/\(oRes l n P).og=(v:Int):=by
 unfold oRes at h ⊢
 cases hR:(ofL l n).reverse with
 | nil=>rw[hR] at h;simp[OS.walk,os0] at h
 | cons z r =>
  rw[hR] at h;have hm:∀ y∈z::r,y∈ofL l n:=fun y hy=>by rw[<-List.mem_reverse,hR];exact hy
  rw[OS.walk] at h ⊢;split at h
  ·simp[os0] at h
  ·rename_i hs
   rw[if_neg hs]
   rcases (os_og P r (OS.next P z) rfl).2 with h2 | ⟨y,hy,h2⟩
   ·rw[h2];exact verL_nat (hm z (by simp))
   ·rw[h2];exact verL_nat (hm y (by simp[hy]))
theorem Make_g (b:Nat) (xs:List AX) (M:List Nat) (nm:ON) (so st:ByteArray) (P:Nat) (kk:Int) (w:World) (h:HG w b xs M) (hok:Ok w) (hn:checkO nm=0) (he:encO nm=.agg #[.int .i64 nm.kind,.string so,.int .i64 nm.number,.int .i64 nm.index,.string st]) (hP:P<=1000000) :
 Calls prog 13 #[.pointer (some ⟨b,0,none⟩),.agg #[.int .i64 nm.kind,.string so,.int .i64 nm.number,.int .i64 nm.index,.string st,.int .i64 (P:Int)],.int .i64 kk] w (MakePost w xs nm so st P kk):=by
 obtain⟨k,hk⟩:=nmd (nm.kind);obtain⟨nu,hnu⟩:=nmd (nm.number);obtain⟨ix,hix⟩:=nmd (nm.index);have HKN:=Hd (An he (An hk (An hnu hix)));rw[hk,hnu,hix];have hl12:=h.len12;obtain⟨m,hm⟩:=nmd (xs.length);rw[hm] at hl12;obtain⟨w1,hw1,hz1,n1,f1⟩:=bxz w #[.int .i64 k,.string so,.int .i64 nu,.int .i64 ix,.string st,.int .i64 (P:Int)] 33 w.heap.size;obtain⟨w2,hw2,hz2,n2,f2⟩:=bxz w1 #[.int .i64 0,.string ⟨#[]⟩,.int .i64 0,.int .i64 0,.string ⟨#[]⟩,.int .i64 0,.int .i64 0,.slice none 0 0] 39 (w.heap.size+1);have HF2:=Hd (f1.then f2);obtain⟨RB,hRB⟩:=nmd (w.heap.size+1);obtain⟨PB,hPB⟩:=nmd (w.heap.size);have hz2:w.heap.size+1<w2.heap.size:=n2.lt;have HZ:=Hd (An hRB hz2);rw[hRB] at n2;have HN:=Hd (An (n1.fr f2 (by simp)) n2);have HW:=Hd (An hw1 (An hw2 (An hz1 hRB)));have HH:=Hd (h.fr0 HF2.out);have HOK:=Hd (hok.fr0 HF2.out);have HC:=Hd (An hn hP);have HM:=Hd hm;have hln:=Len_h b xs M w2 HH.out;rw[hm] at hln;have HL:=Hd hln;have HA:=Hd (Actions_h b xs M w2 HH.out);clear hw1 hw2 n1 n2 f1 f2 hz1 hz2 h hok he hk hnu hix hn hP hln hm hPB
 go_enter func13,ntmps13
 go_upto_region 1 with fail
 rw[HW.out.1,HW.out.2.1]
 try rw[HW.out.2.2.1]
 try rw[hRB]
 obtain hneg | hpos:kk<0 \/ 0<=kk:=by omega
 ·have hd1:decide (kk<0)=true:=by simpa using hneg
  have HMM:=Hd (show makeM xs nm P kk=.inl 2 by unfold makeM;rw[if_pos (.inl hneg)]);clear hRB
  go_upto_region 4 with ((go_at_call 19;(with_reducible refine HL.out.mono ?_);rintro e w3 ⟨rfl,rfl⟩))
  have hrz:=HN.out.2.fr (Fq [] w2) (by simp);have u0:=hrz.k0;have v0:=hrz.f 0;have u1:=hrz.k1;have v1:=hrz.f 1;have u2:=hrz.k2;have v2:=hrz.f 2;have u3:=hrz.k3;have v3:=hrz.f 3;have u4:=hrz.k4;have v4:=hrz.f 4;have u5:=hrz.k5;have v5:=hrz.f 5;have u6:=hrz.k6;have v6:=hrz.f 6;have u7:=hrz.k7;have v7:=hrz.f 7;have HRZ:=Hd (An hrz (Fq [] w2));clear hrz
  go_wp2_with fail
  obtain⟨wz,hwz⟩:=nmd (((((((((w2.setCell ⟨RB,0,none⟩ (.int .i64 0)).setCell ⟨RB,1,none⟩ (.string ⟨#[]⟩)).setCell ⟨RB,2,none⟩ (.int .i64 0)).setCell ⟨RB,3,none⟩ (.int .i64 0)).setCell ⟨RB,4,none⟩ (.string ⟨#[]⟩)).setCell ⟨RB,5,none⟩ (.int .i64 0)).setCell ⟨RB,6,none⟩ (.int .i64 0)).setCell ⟨RB,7,none⟩ (.slice none 0 0)));have hbz:BoxN wz RB 39 #[.int .i64 0,.string ⟨#[]⟩,.int .i64 0,.int .i64 0,.string ⟨#[]⟩,.int .i64 0,.int .i64 0,.slice none 0 0]:=by rw[<-hwz];exact (((((((HRZ.out.1.setAt 0 _).setAt 1 _).setAt 2 _).setAt 3 _).setAt 4 _).setAt 5 _).setAt 6 _).setAt 7 _
  have fz:Fr [RB] w2 wz:=by rw[<-hwz];exact (((((((((Fq [RB] w2).set (.inl (by simp)) _).set (.inl (by simp)) _).set (.inl (by simp)) _).set (.inl (by simp)) _).set (.inl (by simp)) _).set (.inl (by simp)) _).set (.inl (by simp)) _).set (.inl (by simp)) _)
  try rw[hwz]
  obtain⟨t0,t1,t2,t3,t4,t5,t6,t7⟩:=hbz.m8;refine bodyPost_ret (v:=.tuple #[rcZ,.int .i64 2]) (by simp[results,results13,rcZ,go_sem,t0,t1,t2,t3,t4,t5,t6,t7]) rfl ?_;have hmm:=HMM.out;unfold MakePost;rw[hmm];exact⟨rfl,(HF2.out.then (Fq [] w2)).trans fz (by simp;have:=HZ.out;omega)⟩
 obtain⟨n,rfl⟩:∃ n:Nat,kk=(n:Int):=⟨kk.toNat,by omega⟩
 rcases Nat.lt_or_ge m n with hgt | hle
 ·have hd1:decide (m<n)=true:=by simpa using hgt
  have HMM:=Hd (show makeM xs nm P (n:Int)=.inl 2 by unfold makeM;rw[if_pos (.inr (by rw[HM.out];omega))]);clear hRB
  go_upto_region 4 with ((go_at_call 19;(with_reducible refine HL.out.mono ?_);rintro e w3 ⟨rfl,rfl⟩))
  have hrz:=HN.out.2.fr (Fq [] w2) (by simp);have u0:=hrz.k0;have v0:=hrz.f 0;have u1:=hrz.k1;have v1:=hrz.f 1;have u2:=hrz.k2;have v2:=hrz.f 2;have u3:=hrz.k3;have v3:=hrz.f 3;have u4:=hrz.k4;have v4:=hrz.f 4;have u5:=hrz.k5;have v5:=hrz.f 5;have u6:=hrz.k6;have v6:=hrz.f 6;have u7:=hrz.k7;have v7:=hrz.f 7;have HRZ:=Hd (An hrz (Fq [] w2));clear hrz
  go_wp2_with fail
  obtain⟨wz,hwz⟩:=nmd (((((((((w2.setCell ⟨RB,0,none⟩ (.int .i64 0)).setCell ⟨RB,1,none⟩ (.string ⟨#[]⟩)).setCell ⟨RB,2,none⟩ (.int .i64 0)).setCell ⟨RB,3,none⟩ (.int .i64 0)).setCell ⟨RB,4,none⟩ (.string ⟨#[]⟩)).setCell ⟨RB,5,none⟩ (.int .i64 0)).setCell ⟨RB,6,none⟩ (.int .i64 0)).setCell ⟨RB,7,none⟩ (.slice none 0 0)));have hbz:BoxN wz RB 39 #[.int .i64 0,.string ⟨#[]⟩,.int .i64 0,.int .i64 0,.string ⟨#[]⟩,.int .i64 0,.int .i64 0,.slice none 0 0]:=by rw[<-hwz];exact (((((((HRZ.out.1.setAt 0 _).setAt 1 _).setAt 2 _).setAt 3 _).setAt 4 _).setAt 5 _).setAt 6 _).setAt 7 _
  have fz:Fr [RB] w2 wz:=by rw[<-hwz];exact (((((((((Fq [RB] w2).set (.inl (by simp)) _).set (.inl (by simp)) _).set (.inl (by simp)) _).set (.inl (by simp)) _).set (.inl (by simp)) _).set (.inl (by simp)) _).set (.inl (by simp)) _).set (.inl (by simp)) _)
  try rw[hwz]
  obtain⟨t0,t1,t2,t3,t4,t5,t6,t7⟩:=hbz.m8;refine bodyPost_ret (v:=.tuple #[rcZ,.int .i64 2]) (by simp[results,results13,rcZ,go_sem,t0,t1,t2,t3,t4,t5,t6,t7]) rfl ?_;have hmm:=HMM.out;unfold MakePost;rw[hmm];exact⟨rfl,(HF2.out.then (Fq [] w2)).trans fz (by simp;have:=HZ.out;omega)⟩
 obtain⟨l,hl⟩:=nmd ((xs.map AX.a).take n);have hd1:decide (m<n)=false:=by simp;omega
 have hle1:(n:Int)<=(m:Int):=by omega
 have hA2:=HA.out;unfold ActsPost at hA2;rw[HM.out] at hA2;have HA2:=Hd hA2;clear hA2 hRB
 go_upto_region 6 with (first
  | (go_at_call 19;(with_reducible refine HL.out.mono ?_);rintro e w' ⟨rfl,rfl⟩)
  | (go_at_call 41;(with_reducible refine HA2.out.mono ?_);rintro e w3 ⟨L,ys,rfl,hya,hL,hf3,hLs⟩;have HY:=Hd (An hya (An hL hLs));have HF3:=Hd hf3;clear hya hL hf3 hLs))
 clear hd1
 have hyl:ys.length=m:=by
  have:=congrArg List.length HY.out.1;simpa [HM.out] using this
 have hrun:Run xs:=by
  obtain⟨pb,pl,bt,A,c,F,ns,ds,kvs,h,_⟩:=HH.out;exact h.run
 have hryn:Run (ys.take n):=(Run.congr HY.out.1.symm hrun).take n;obtain⟨zs0,hzs0⟩:=nmd (ys.take n);have hz0l:zs0.length=n:=by rw[<-hzs0,List.length_take];omega
 have hz0a:zs0.map AX.a=l:=by rw[<-hzs0,List.map_take,HY.out.1,hl]
 have hLn:=HY.out.2.1.take n;rw[hzs0] at hLn hryn;have HZ0:=Hd (An hz0l (An hz0a (An hLn hryn)));have HB:=Hd (Base_h b xs M w3 (HH.out.fr0 HF3.out));clear hyl hrun hryn hzs0 hz0l hz0a hLn
 go_upto_region 9 with (first
  | (go_at_call 43;(with_reducible refine HB.out.mono ?_);rintro e w' ⟨p,rfl,hst,rfl⟩;have hv0:=VBuild_g p L m _ zs0 w3 (HOK.out.fr0 HF3.out) hst HZ0.out.2.2.1 HZ0.out.2.2.2;rw[HZ0.out.1] at hv0;have HV:=Hd hv0;clear hst hv0)
  | (go_at_call 42;(with_reducible refine HV.out.mono ?_);rintro e w4 ⟨vb,VM,zs,rfl,hza,hvg,hf4,hvm⟩;have HVD:=Hd (An hza (An hvg hf4));clear hza hvg hf4 hvm))
 have hf4:Fr [] w2 w4:=HF3.out.then HVD.out.2.2;have hp4:=HN.out.1.fr hf4 (by simp);obtain⟨x0,x1,x2,x3,x4,x5⟩:=hp4.m6
 have hzl:zs.length=n:=by
  have:=congrArg List.length HVD.out.1;rw[List.length_map,List.length_map,HZ0.out.1] at this;exact this
 have hO:=Origin_g vb zs VM nm P HC.out.2 w4 HVD.out.2.1 HC.out.1 so st HKN.out.1;rw[HVD.out.1,HZ0.out.2.1,hzl,HKN.out.2.1,HKN.out.2.2.1,HKN.out.2.2.2] at hO;have hln:l.length=n:=by rw[<-HZ0.out.2.1,List.length_map,HZ0.out.1]
 obtain⟨s,hs⟩:=nmd (oRes l nm P)
 have hcase:(s.fd=false \/ s.og=-1) \/ (s.fd=true/\∃ v:Nat,v<n/\s.og=(v:Int)):=by
  cases hfd:s.fd with
  | false=>exact .inl (.inl rfl)
  | true =>
   rcases oRes_nat l nm P (by rw[hs];exact hfd) with h1 | ⟨v,hv,h1⟩
   ·exact .inl (.inr (by rw[<-hs];exact h1))
   ·exact .inr ⟨rfl,v,by omega,by rw[<-hs];exact h1⟩
 have hmk:makeM xs nm P (n:Int)=if s.fd=false \/ s.og=-1 then .inl 8 else .inr (causL (lkA l) n s.og.toNat):=by
  unfold makeM;rw[if_neg (by rw[HM.out];omega),Int.toNat_natCast,hl,hs]
 rw[hs] at hO;obtain⟨og,fd,vl⟩:=s;have HMK:=Hd hmk;have HF4:=Hd hf4;have HLN:=Hd hln;have HO:=Hd hO;clear hO hf4 hp4 hzl hs hmk hl hln;simp only at hcase
 rcases hcase with hbad | ⟨hfd,v,hvn,hvo⟩
 ·have HMM:=Hd (show makeM xs nm P (n:Int)=.inl 8 by rw[HMK.out,if_pos hbad])
  cases fd with
  | false =>
   simp only[Bool.false_eq_true,if_false] at HO
   go_upto_region 11 with (go_at_call 44;(with_reducible refine HO.out.mono ?_);rintro e w5 ⟨rfl,hf5⟩;have HF5:=Hd (HF4.out.then hf5);clear hf5)
   clear x0 x1 x2 x3 x4 x5;have hrz:=HN.out.2.fr HF5.out (by simp);have u0:=hrz.k0;have v0:=hrz.f 0;have u1:=hrz.k1;have v1:=hrz.f 1;have u2:=hrz.k2;have v2:=hrz.f 2;have u3:=hrz.k3;have v3:=hrz.f 3;have u4:=hrz.k4;have v4:=hrz.f 4;have u5:=hrz.k5;have v5:=hrz.f 5;have u6:=hrz.k6;have v6:=hrz.f 6;have u7:=hrz.k7;have v7:=hrz.f 7;have HRZ:=Hd (An hrz HF5.out);clear hrz
   go_wp2_with fail
   obtain⟨wz,hwz⟩:=nmd (((((((((w5.setCell ⟨RB,0,none⟩ (.int .i64 0)).setCell ⟨RB,1,none⟩ (.string ⟨#[]⟩)).setCell ⟨RB,2,none⟩ (.int .i64 0)).setCell ⟨RB,3,none⟩ (.int .i64 0)).setCell ⟨RB,4,none⟩ (.string ⟨#[]⟩)).setCell ⟨RB,5,none⟩ (.int .i64 0)).setCell ⟨RB,6,none⟩ (.int .i64 0)).setCell ⟨RB,7,none⟩ (.slice none 0 0)));have hbz:BoxN wz RB 39 #[.int .i64 0,.string ⟨#[]⟩,.int .i64 0,.int .i64 0,.string ⟨#[]⟩,.int .i64 0,.int .i64 0,.slice none 0 0]:=by rw[<-hwz];exact (((((((HRZ.out.1.setAt 0 _).setAt 1 _).setAt 2 _).setAt 3 _).setAt 4 _).setAt 5 _).setAt 6 _).setAt 7 _
   have fz:Fr [RB] w5 wz:=by rw[<-hwz];exact (((((((((Fq [RB] w5).set (.inl (by simp)) _).set (.inl (by simp)) _).set (.inl (by simp)) _).set (.inl (by simp)) _).set (.inl (by simp)) _).set (.inl (by simp)) _).set (.inl (by simp)) _).set (.inl (by simp)) _)
   try rw[hwz]
   obtain⟨t0,t1,t2,t3,t4,t5,t6,t7⟩:=hbz.m8;refine bodyPost_ret (v:=.tuple #[rcZ,.int .i64 8]) (by simp[results,results13,rcZ,go_sem,t0,t1,t2,t3,t4,t5,t6,t7]) rfl ?_;have hmm:=HMM.out;unfold MakePost;rw[hmm]
   exact⟨rfl,(HF2.out.then HF5.out).trans fz (by simp;have:=HZ.out;omega)⟩
  | true =>
   have hog:og=-1:=by rcases hbad with h | h;cases h;exact h
   subst hog;simp only[if_true] at HO
   go_upto_region 13 with (go_at_call 44;(with_reducible refine HO.out.mono ?_);rintro e w5 ⟨rfl,hf5⟩;have HF5:=Hd (HF4.out.then hf5);clear hf5)
   clear x0 x1 x2 x3 x4 x5;have hrz:=HN.out.2.fr HF5.out (by simp);have u0:=hrz.k0;have v0:=hrz.f 0;have u1:=hrz.k1;have v1:=hrz.f 1;have u2:=hrz.k2;have v2:=hrz.f 2;have u3:=hrz.k3;have v3:=hrz.f 3;have u4:=hrz.k4;have v4:=hrz.f 4;have u5:=hrz.k5;have v5:=hrz.f 5;have u6:=hrz.k6;have v6:=hrz.f 6;have u7:=hrz.k7;have v7:=hrz.f 7;have HRZ:=Hd (An hrz HF5.out);clear hrz
   go_wp2_with fail
   obtain⟨wz,hwz⟩:=nmd (((((((((w5.setCell ⟨RB,0,none⟩ (.int .i64 0)).setCell ⟨RB,1,none⟩ (.string ⟨#[]⟩)).setCell ⟨RB,2,none⟩ (.int .i64 0)).setCell ⟨RB,3,none⟩ (.int .i64 0)).setCell ⟨RB,4,none⟩ (.string ⟨#[]⟩)).setCell ⟨RB,5,none⟩ (.int .i64 0)).setCell ⟨RB,6,none⟩ (.int .i64 0)).setCell ⟨RB,7,none⟩ (.slice none 0 0)));have hbz:BoxN wz RB 39 #[.int .i64 0,.string ⟨#[]⟩,.int .i64 0,.int .i64 0,.string ⟨#[]⟩,.int .i64 0,.int .i64 0,.slice none 0 0]:=by rw[<-hwz];exact (((((((HRZ.out.1.setAt 0 _).setAt 1 _).setAt 2 _).setAt 3 _).setAt 4 _).setAt 5 _).setAt 6 _).setAt 7 _
   have fz:Fr [RB] w5 wz:=by rw[<-hwz];exact (((((((((Fq [RB] w5).set (.inl (by simp)) _).set (.inl (by simp)) _).set (.inl (by simp)) _).set (.inl (by simp)) _).set (.inl (by simp)) _).set (.inl (by simp)) _).set (.inl (by simp)) _).set (.inl (by simp)) _)
   try rw[hwz]
   obtain⟨t0,t1,t2,t3,t4,t5,t6,t7⟩:=hbz.m8;refine bodyPost_ret (v:=.tuple #[rcZ,.int .i64 8]) (by simp[results,results13,rcZ,go_sem,t0,t1,t2,t3,t4,t5,t6,t7]) rfl ?_;have hmm:=HMM.out;unfold MakePost;rw[hmm];exact⟨rfl,(HF2.out.then HF5.out).trans fz (by simp;have:=HZ.out;omega)⟩
 subst hfd;subst hvo;have hne1:((v:Int) == -1)=false:=by simp
 simp only[if_true] at HO
 go_upto_region 14 with (go_at_call 44;(with_reducible refine HO.out.mono ?_);rintro e w5 ⟨rfl,hf5⟩;have HF5:=Hd (HF4.out.then hf5);have HVF:=Hd (HVD.out.2.2.then hf5);clear hf5)
 clear x0 x1 x2 x3 x4 x5 HO HV HB HA HL;have hd0:=DBuild_g L m _ zs0 w5 (HZ0.out.2.2.1.fr0 HVF.out) HZ0.out.2.2.2;rw[HZ0.out.1,HZ0.out.2.1] at hd0;have HD:=Hd hd0;clear hd0
 go_upto_region 17 with (go_at_call 45;(with_reducible refine HD.out.mono ?_);rintro e w6 ⟨g,mw,Lk,Us,KO,kc,ks,Rl,Ru,er,rfl,hgg,hf6⟩;have HF6:=Hd (HF5.out.then hf6);have HGG:=Hd hgg;clear hgg hf6)
 have hr10:∀ a∈l,a.r.length<=10:=fun a ha=>by
  rw[<-HZ0.out.2.1] at ha;obtain⟨y,hy,rfl⟩:=List.mem_map.1 ha;exact (HZ0.out.2.2.2.wf y hy).2.2.1
 have hlk:∀ (i:Nat) (r:LR),Rl[i]?=some r->r.xs=lkA l i:=fun i r hr=>by
  have h1:=HGG.out.lk i r hr
  have h2:i<n:=by
   have h3:=(lgs.1 hr).1;rw[HGG.out.s.ln.1] at h3;exact h3
  rw[if_pos h2] at h1;exact h1
 have hcs0:=Causes_g w6.heap.size 1 g n v n (lkA l) mw Lk Us kc KO ks Rl Ru er (by omega) (lkA_len hr10) (lkA_down l) hlk hvn (w6.alloc (.cells #[.int .i64 (v:Int)] 3)) (Cs.of_box (BoxN.new w6 3 #[.int .i64 (v:Int)])) (HGG.out.s.fr0 ((Fq [] w6).alloc _)) rfl;obtain⟨cl,hcl⟩:=nmd (causL (lkA l) n v);obtain⟨nc,hnc⟩:=nmd (cl.length);have hci:=causL_idx (lkA_down l) hvn;rw[hcl] at hcs0 hci;rw[hnc] at hcs0 hci
 have hmk2:makeM xs nm P (n:Int)=.inr cl:=by
  rw[HMK.out,if_neg (by simp only[Bool.true_eq_false,false_or];omega)];simp only[Int.toNat_natCast];rw[hcl]
 have HMM:=Hd hmk2;have HCI:=Hd (An hci (An hnc hcl));have HCS:=Hd hcs0;have hnc12:nc<=12:=by have:=hci.1;omega
 have hbig:decide (4096<nc)=false:=by simp;omega
 have hbig2:decide ((4096:Int)<(nc:Int))=false:=by simp;omega
 clear hcs0 hci hmk2 hcl hnc hlk hr10 HD
 go_upto_region 22 with (go_at_call 46;(with_reducible refine HCS.out.mono ?_);rintro e w7 ⟨r,rc,rfl,hr,hf7⟩;have HF7:Hid (Fr [] w2 w7):=Hd ((HF6.out.alloc _).then hf7);have HR:=Hd hr;clear hr hf7)
 clear hbig hbig2 HCS;have hp4:=HN.out.1.fr HF7.out (by simp);obtain⟨x0,x1,x2,x3,x4,x5⟩:=hp4.m6
 go_upto_region 23 with fail
 obtain⟨w8,hw8,n8,f8⟩:=bxn w7 #[.int .i64 k,.string so,.int .i64 nu,.int .i64 ix,.string st,.int .i64 (P:Int),.int .i64 (n:Int),.slice none 0 0] 39;rw[hw8];have hF8:Fr [] w2 w8:=HF7.out.then f8;have hz7:=HF7.out.size;obtain⟨D,hD⟩:=nmd (w7.heap.size);rw[hD] at n8 hz7 ⊢;have HDz:=Hd (An hD hz7);have H8:=Hd (An n8 (An hF8 (HR.out.fr0 f8)));clear hw8 x0 x1 x2 x3 x4 x5 hp4 hD hz7 n8 f8 hF8
 go_wp2_with fail
 go_loopw [89] (fun jx W=>∃ (j:Nat) (PA:Option Addr) (pc:Nat) (ps:List PF),j<=nc/\jx=.int .i64 (j:Int)/\BoxN W D 39 #[.int .i64 k,.string so,.int .i64 nu,.int .i64 ix,.string st,.int .i64 (P:Int),.int .i64 (n:Int),.slice PA j pc]/\PrL W n PA pc ps/\ps.length=j/\(ps.map fun p=>(p.i,p.s,p.d))=(cl.take j).map (pfOf xs n)/\Fr [] w2 W/\(∀ q∈blk PA,D<q)/\Cs W r (intsC cl)) (fun j _=>nc - (intOf j).toNat)
 case atStart=>exact⟨0,none,0,[],Nat.zero_le _,rfl,H8.out.1,⟨Own.nil _ _ _,by simp⟩,rfl,rfl,H8.out.2.1,by simp[blk],H8.out.2.2⟩
 case round =>
  obtain⟨j,PA,pc,ps,hj,rfl,hb,hpr,hpl,hpm,hfr,hpD,hrc⟩:=hrel
  by_cases hjl:j<nc
  ·have hlt3:(j:Int)<(nc:Int):=by omega
   have hwj:IntKind.i64.wrap (j:Int)=(j:Int):=by simp only[IntKind.wrap_i64];omega
   obtain⟨i,hi⟩:∃ y,cl[j]?=some y:=⟨_,lge (by rw[HCI.out.2.1];exact hjl)⟩;have hin:i<n:=HCI.out.1.2 i (lmg hi);obtain⟨y,hy⟩:∃ y,xs[i]?=some y:=⟨_,lge (by rw[HM.out];omega)⟩;have hP:=Prove_h b xs M i n y wr (HH.out.fr0 hfr) (HOK.out.fr0 hfr) hy hin (by rw[HM.out];omega);have hpf:pfOf xs n i=(i,encAG y.a,pathX xs i n):=by unfold pfOf;rw[hy]
   obtain⟨sv,hsv,_,_⟩:=str_of (encAG y.a);obtain⟨d,hd⟩:=nmd (pathX xs i n);obtain⟨nd,hnd⟩:=nmd (d.length);unfold ProvePost at hP;rw[hd,hnd,hsv] at hP;rw[hd] at hpf;have HP:=Hd hP;have zr:wr.cell? ⟨r,j,none⟩=some (.int .i64 (i:Int)):=hrc.2 j _ (by rw[intsC_map,List.getElem?_map,hi];rfl);have HJ:=Hd (An hb (An hpr (An hpl (An hpm (An hfr (An hpD hrc))))));have HI:=Hd (An hi (An hpf (An hsv hnd)));clear hb hpr hpl hpm hfr hpD hrc hi hy hP hpf hsv hd hnd
   go_upto_region 29 with (go_at_call 20;(with_reducible refine HP.out.mono ?_);rintro e v9 ⟨AP,cP,rfl,ho9,hf9,hk9⟩;have HO9:=Hd (An ho9 (An hf9 hk9));clear ho9 hf9 hk9)
   clear zr HP;obtain⟨v10,hv10,n10,f10⟩:=bxn v9 #[.int .i64 (i:Int),.int .i64 (n:Int),.string sv,.slice AP nd cP] 53;rw[hv10];have fX10:=HO9.out.2.1.then f10;have hd10:=HJ.out.1.fr fX10 (by simp);obtain⟨y0,y1,y2,y3⟩:=n10.m4;have y7:=hd10.k7;have hown:=HJ.out.2.1.own;rw[HJ.out.2.2.1] at hown;have HO10:=Hd (hown.fr fX10 (by simp));have hDn:D ∉ blk PA:=fun hm=>by have:=HJ.out.2.2.2.2.2.1 D hm;omega
   have HD10:=Hd (An hd10 (An hDn fX10));have HQ:=Hd (HO9.out.1.fr f10 (by simp));clear hv10 n10 f10 fX10 hd10 hown hDn;obtain⟨ii,hii,iz0,iz1,iz2⟩:=info_proof
   go_upto_region 30 with (at_builtin;(with_reducible refine wpList_app_tmp (w:=v10) rfl (.tmp 105) (.tmp 107) 37 rfl 53 ii _ 4 56 underlying37 hii iz0 iz1 iz2 rfl (by decide) PA j pc _ rfl HO10.out 1 1 [.int .i64 (i:Int),.int .i64 (n:Int),.string sv,.slice AP nd cP] 53 rfl rfl (by simp[Value.oneCell']) (by unfold maxLen;omega) (by omega) ?_);intro AN cN v11 ho hf hs;have hb11:=HD10.out.1.fr hf HD10.out.2.1;have e0:v11.cell? ⟨D,7,none⟩=some (.slice PA j pc):=hb11.c 7;have e1:=hb11.f 7;have H11:=Hd (An ho (An hf (An hs hb11)));clear ho hf hs hb11)
   obtain⟨Y,hY⟩:=nmd (v11.setCell ⟨D,7,none⟩ (.slice AN (j+1) cN));have hbY:BoxN Y D 39 #[.int .i64 k,.string so,.int .i64 nu,.int .i64 ix,.string st,.int .i64 (P:Int),.int .i64 (n:Int),.slice AN (j+1) cN]:=by rw[<-hY];exact H11.out.2.2.2.setAt 7 _
   have fY:Fr [D] v11 Y:=by rw[<-hY];exact (Fq [D] v11).set (.inl (by simp)) _
   try rw[hY]
   clear y0 y1 y2 y3 y7 e0 e1 hY iz0 iz1 iz2 hii
   have hAN:∀ q∈blk AN,D<q:=fun q hq=>by
    rcases H11.out.2.2.1 q hq with h1 | h1
    ·exact HJ.out.2.2.2.2.2.1 q h1
    ·have:=HD10.out.1.lt;omega
   have hNp:NoT [57] v10 (blk PA):=NoT.own HO10.out (by decide);have hND:NoT [57] v11 [D]:=NoT.box H11.out.2.2.2 (by decide);have hcsn:PF.cs n ⟨i,encAG y.a,AP,cP,d⟩=[.int .i64 (i:Int),.int .i64 (n:Int),.string sv,.slice AP nd cP]:=by unfold PF.cs;simp only[HI.out.2.2.1,HI.out.2.2.2]
   have hpr2:PrL Y n AN cN (ps++[⟨i,encAG y.a,AP,cP,d⟩]):=by
    refine⟨?_,fun p hp=>?_⟩
    ·rw[lla,List.flatMap_append,HJ.out.2.2.1]
     have h1:[PF.mk i (encAG y.a) AP cP d].flatMap (PF.cs n)=[.int .i64 (i:Int),.int .i64 (n:Int),.string sv,.slice AP nd cP]:=by rw[<-hcsn];simp
     rw[h1];exact H11.out.1.fr fY (by intro q hq;simp only[lms];rintro rfl;exact absurd (hAN _ hq) (Nat.lt_irrefl _))
    ·rcases List.mem_append.1 hp with hp | hp
     ·exact Own.frT (Own.frT ((HJ.out.2.1.ds p hp).fr HD10.out.2.2 (by simp)) H11.out.2.1 hNp (by simp)) fY hND (by simp)
     ·rw[lms] at hp
      subst hp;have h1:=HQ.out
      show Own Y 57 32 AP d.length cP (d.flatMap dCells)
      rw[HI.out.2.2.2];exact Own.frT (Own.frT h1 H11.out.2.1 hNp (by simp)) fY hND (by simp)
   have hpl2:(ps++[PF.mk i (encAG y.a) AP cP d]).length=j+1:=by rw[lla,HJ.out.2.2.1];rfl
   have hpm2:((ps++[PF.mk i (encAG y.a) AP cP d]).map fun p=>(p.i,p.s,p.d))=(cl.take (j+1)).map (pfOf xs n):=by
    rw[List.map_append,HJ.out.2.2.2.1,List.take_add_one,HI.out.1,List.map_append];simp[HI.out.2.1]
   have hf2Y:Fr [] w2 Y:=((HJ.out.2.2.2.2.1.then HD10.out.2.2).trans H11.out.2.1 (fun q hq=>.inr (by have h1:=HJ.out.2.2.2.2.2.1 q hq;have h2:=HDz.out.2;omega))).trans fY (by simp;have h2:=HDz.out.2;omega);have hrD:r<D:=by have h1:=HR.out.1;have h2:=HDz.out.1;omega
   have hrcY:Cs Y r (intsC cl):=((HJ.out.2.2.2.2.2.2.fr0 HD10.out.2.2).fr H11.out.2.1 (fun hm=>by have:=HJ.out.2.2.2.2.2.1 r hm;omega)).fr fY (by simp;omega);have HFIN:=Hd (An hbY (An hpr2 (An hpl2 (An hpm2 (An hf2Y (An hAN hrcY))))));clear hbY hpr2 hpl2 hpm2 hf2Y hAN hrcY hrD fY hNp hND hcsn H11 HQ HD10 HO10
   go_wp2_with fail
   go_roundw
   case rel=>exact⟨j+1,AN,cN,_,by omega,by go_num,HFIN.out.1,HFIN.out.2.1,HFIN.out.2.2.1,HFIN.out.2.2.2.1,HFIN.out.2.2.2.2.1,HFIN.out.2.2.2.2.2.1,HFIN.out.2.2.2.2.2.2⟩
   case measure=>simp[intOf];omega
  ·obtain rfl:j=nc:=by omega
   have hrz:=HN.out.2.fr hfr (by simp);obtain⟨g0,g1,g2,g3,g4,g5,g6,g7⟩:=hb.m8;have u0:=hrz.k0;have v0:=hrz.f 0;have u1:=hrz.k1;have v1:=hrz.f 1;have u2:=hrz.k2;have v2:=hrz.f 2;have u3:=hrz.k3;have v3:=hrz.f 3;have u4:=hrz.k4;have v4:=hrz.f 4;have u5:=hrz.k5;have v5:=hrz.f 5;have u6:=hrz.k6;have v6:=hrz.f 6;have u7:=hrz.k7;have v7:=hrz.f 7;have HU:=Hd (An hrz (An hpr (An hpm hfr)));clear hrz hb hpr hpm hfr hpD hrc
   go_wp2_with fail
   obtain⟨wz,hwz⟩:=nmd ((((((((((wr.setCell ⟨RB,0,none⟩ (.int .i64 k)).setCell ⟨RB,1,none⟩ (.string so)).setCell ⟨RB,2,none⟩ (.int .i64 nu)).setCell ⟨RB,3,none⟩ (.int .i64 ix)).setCell ⟨RB,4,none⟩ (.string st)).setCell ⟨RB,5,none⟩ (.int .i64 (P:Int))).setCell ⟨RB,6,none⟩ (.int .i64 (n:Int))).setCell ⟨RB,7,none⟩ (.slice PA j pc))));have hbz:BoxN wz RB 39 #[.int .i64 k,.string so,.int .i64 nu,.int .i64 ix,.string st,.int .i64 (P:Int),.int .i64 (n:Int),.slice PA j pc]:=by rw[<-hwz];exact (((((((HU.out.1.setAt 0 _).setAt 1 _).setAt 2 _).setAt 3 _).setAt 4 _).setAt 5 _).setAt 6 _).setAt 7 _
   have fz:Fr [RB] wr wz:=by rw[<-hwz];exact (((((((((Fq [RB] wr).set (.inl (by simp)) _).set (.inl (by simp)) _).set (.inl (by simp)) _).set (.inl (by simp)) _).set (.inl (by simp)) _).set (.inl (by simp)) _).set (.inl (by simp)) _).set (.inl (by simp)) _)
   try rw[hwz]
   obtain⟨t0,t1,t2,t3,t4,t5,t6,t7⟩:=hbz.m8;have hNo:NoT [53,57] wr [RB]:=NoT.box HU.out.1 (by decide);refine bodyPost_ret (v:=.tuple #[rcV k so nu ix st (P:Int) (n:Int) (.slice PA j pc),.int .i64 0]) (by simp[results,results13,rcV,go_sem,t0,t1,t2,t3,t4,t5,t6,t7]) rfl ?_;have hmm:=HMM.out;unfold MakePost;rw[hmm];have htk:cl.take j=cl:=List.take_of_length_le (by rw[HCI.out.2.1];exact nlr _);have hpm:=HU.out.2.2.1;rw[htk] at hpm;exact⟨PA,pc,ps,by rw[HCI.out.2.1,HKN.out.2.1,HKN.out.2.2.1,HKN.out.2.2.2],⟨Own.frT HU.out.2.1.own fz hNo (by simp),fun p hp=>Own.frT (HU.out.2.1.ds p hp) fz hNo (by simp)⟩,hpm,(HF2.out.then HU.out.2.2.2).trans fz (by simp;have:=HZ.out;omega)⟩
def conC (ix ic:Nat) (KA:Option Addr) (kc:Nat) (l:Value):Array Value:=#[.int .u8 122,.int .i64 1,.slice (some ⟨ix,0,none⟩) 2 ic,.slice KA 2 kc,l,.slice none 0 0]
def actsC (RA:Option Addr) (rc cb0 rd ca1 rc1 cb1 rd1:Nat):List Value:=[.int .i64 1,.int .i64 0,.int .i64 1,.string ⟨#[]⟩,.slice RA 0 rc,.slice (some ⟨cb0,0,none⟩) 1 rd,.int .i64 2,.int .i64 0,.int .i64 2,.string ⟨#[]⟩,.slice (some ⟨ca1,0,none⟩) 1 rc1,.slice (some ⟨cb1,0,none⟩) 1 rd1]
structure LIs (w W:World) (c mu ms ma:Nat) (C:Array Value) (ku ks:List (Value × Value)):Prop where
 box:BoxN W c 64 C
 um:MapIs prog 3 W mu ku
 sm:MapIs prog 31 W ms ks
 am:MapIs prog 31 W ma []
 d:c<w.heap.size/\w.heap.size<=mu/\mu<ms/\ms<ma
 fr:Fr [c] w W
section
variable {w X Y:World} {c mu ms ma:Nat} {C C':Array Value} {ku ks ku' ks':List (Value × Value)}
theorem LIs.fr0 (h:LIs w X c mu ms ma C ku ks) (hf:Fr [] X Y):LIs w Y c mu ms ma C ku ks :=
 ⟨h.box.fr hf (by simp),h.um.fr hf (by simp),h.sm.fr hf (by simp),h.am.fr hf (by simp),h.d,h.fr.trans hf (by simp)⟩
theorem LIs.putU (h:LIs w X c mu ms ma C ku ks) (hf:Fr [mu] X Y) (hm:MapIs prog 3 Y mu ku'):LIs w Y c mu ms ma C ku' ks :=
 have hd:=h.d
 ⟨h.box.fr hf (by simp;omega),hm,h.sm.fr hf (by simp;omega),h.am.fr hf (by simp;omega),h.d,h.fr.trans hf (fun x hx=>.inr (by simp at hx;omega))⟩
theorem LIs.putS (h:LIs w X c mu ms ma C ku ks) (hf:Fr [ms] X Y) (hm:MapIs prog 31 Y ms ks'):LIs w Y c mu ms ma C ku ks' :=
 have hd:=h.d
 ⟨h.box.fr hf (by simp;omega),h.um.fr hf (by simp;omega),hm,h.am.fr hf (by simp;omega),h.d,h.fr.trans hf (fun x hx=>.inr (by simp at hx;omega))⟩
theorem LIs.putC (h:LIs w X c mu ms ma C ku ks) (hf:Fr [c] X Y) (hb:BoxN Y c 64 C'):LIs w Y c mu ms ma C' ku ks :=
 have hd:=h.d
 ⟨hb,h.um.fr hf (by simp;omega),h.sm.fr hf (by simp;omega),h.am.fr hf (by simp;omega),h.d,h.fr.trans hf (fun x hx=>.inl hx)⟩
theorem LIs.putB {b:Nat} (h:LIs w X c mu ms ma C ku ks) (hf:Fr [b] X Y) (hb:ma<b):LIs w Y c mu ms ma C ku ks :=
 have hd:=h.d
 ⟨h.box.fr hf (by simp;omega),h.um.fr hf (by simp;omega),h.sm.fr hf (by simp;omega),h.am.fr hf (by simp;omega),h.d,h.fr.trans hf (fun x hx=>.inr (by simp at hx;omega))⟩
theorem LIs.young (h:LIs w X c mu ms ma C ku ks):c<X.heap.size/\mu<X.heap.size/\ms<X.heap.size/\ma<X.heap.size:=⟨h.box.lt,h.um.lt,h.sm.lt,h.am.lt⟩
end
theorem zero_chg (u:World):(zeroValue 95).run prog u=.ok (.agg #[.int .i64 0,.string ⟨#[]⟩,.int .i64 0,.int .i64 0,.string ⟨#[]⟩,.string ⟨#[]⟩,.bool false]) u:=by simp[go_sem]
theorem run_range_empty {P:Program} {w:World} {t k e:TypeId} {bm:Nat} (ht:P.underlying t=some (.map k e)) (h:MapIs P k w bm []) :
 ∃ w',(Instr.range t (.map (some bm))).run P w=.ok (.pointer (some ⟨w.heap.size,0,none⟩)) w'/\Fr [] w w'/\∀ ty:TypeId,(Instr.next (.pointer (some ⟨w.heap.size,0,none⟩)) false ty).run P w'=.ok (.tuple #[.bool false]) w':=by
 obtain⟨es,clock,h1,h2,h3,h4⟩:=h
 have he:es=#[]:=by
  have:es.toList=[]:=by simpa using h4
  exact Array.toList_eq_nil_iff.1 this
 subst he;refine⟨_,run_range_map w t k e bm #[] clock ht h1,(Fq [] w).alloc _,fun ty=>?_⟩
 rcases run_next_map (P:=P) w ty bm clock clock #[] #[] clock h1 (by simp) (nlr _) with h | ⟨e0,h0,_⟩
 ·exact h.2
 ·simp[leftOf] at h0
set_option maxHeartbeats 4000000
theorem Link_any (c ix ic kc L lc rc cb0 rd ca1 rc1 cb1 rd1:Nat) (KA RA:Option Addr) (w:World) (hc:BoxN w c 64 (conC ix ic KA kc (.slice none 0 0))) (hix:Cs w ix [.int .i64 0,.int .i64 1]) (hL:Cs w L (actsC RA rc cb0 rd ca1 rc1 cb1 rd1)) (h0:Cs w cb0 (chC 1 ⟨#[120]⟩ false)) (h1:Cs w ca1 (chC 1 ⟨#[120]⟩ false)) (h2:Cs w cb1 (chC 2 ⟨#[121,122]⟩ false)) (hd:c≠ix/\c≠L/\c≠cb0/\c≠ca1/\c≠cb1) :
 Calls prog 65 #[.pointer (some ⟨c,0,none⟩),.slice (some ⟨L,0,none⟩) 2 lc] w fun e w'=>∃ m lb lcap,e=.returned (.tuple #[.map (some m),.int .i64 0])/\BoxN w' c 64 (conC ix ic KA kc (.slice (some ⟨lb,0,none⟩) 1 lcap))/\Cs w' lb [.int .i64 0,.int .i64 1,.int .i64 16,.string ⟨#[]⟩,.int .i64 1,.int .i64 0,.string ⟨#[]⟩]/\MapIs prog 3 w' m [(.int .i64 0,.bool true)]/\Fr [c] w w'/\w.heap.size<=lb:=by
 have HST:=Hd (fun (W:World) (hW:Fr [c] w W)=>(⟨hix.fr hW (by simpa using Ne.symm hd.1),hL.fr hW (by simpa using Ne.symm hd.2.1),h0.fr hW (by simpa using Ne.symm hd.2.2.1),h1.fr hW (by simpa using Ne.symm hd.2.2.2.1),h2.fr hW (by simpa using Ne.symm hd.2.2.2.2)⟩:Cs W ix [.int .i64 0,.int .i64 1]/\Cs W L (actsC RA rc cb0 rd ca1 rc1 cb1 rd1)/\Cs W cb0 (chC 1 ⟨#[120]⟩ false)/\Cs W ca1 (chC 1 ⟨#[120]⟩ false)/\Cs W cb1 (chC 2 ⟨#[121,122]⟩ false)));have hmk:=run_makeMap w 143;obtain⟨w1,hw1⟩:=nmd (w.alloc (.map #[] 0));have hm1:MapIs prog 3 w1 w.heap.size []:=by rw[<-hw1];exact MapIs.new w
 have hf1:Fr [] w w1:=by rw[<-hw1];exact (Fq [] w).alloc _
 have hz1:w1.heap.size=w.heap.size+1:=by rw[<-hw1];simp
 rw[hw1] at hmk;have hmk2:=run_makeMap w1 241;obtain⟨w2,hw2⟩:=nmd (w1.alloc (.map #[] 0));have hm2:MapIs prog 31 w2 w1.heap.size []:=by rw[<-hw2];exact MapIs.new w1
 have hf2:Fr [] w1 w2:=by rw[<-hw2];exact (Fq [] w1).alloc _
 have hz2:w2.heap.size=w1.heap.size+1:=by rw[<-hw2];simp
 rw[hw2] at hmk2;have hmk3:=run_makeMap w2 149;obtain⟨w3,hw3⟩:=nmd (w2.alloc (.map #[] 0));have hm3:MapIs prog 31 w3 w2.heap.size []:=by rw[<-hw3];exact MapIs.new w2
 have hf3:Fr [] w2 w3:=by rw[<-hw3];exact (Fq [] w2).alloc _
 have hz3:w3.heap.size=w2.heap.size+1:=by rw[<-hw3];simp
 rw[hw3] at hmk3;have hf03:=(hf1.then hf2).then hf3;have HL0:Hid (LIs w w3 c w.heap.size w1.heap.size w2.heap.size (conC ix ic KA kc (.slice none 0 0)) [] []):=Hd ⟨hc.fr hf03 (by simp),(hm1.fr hf2 (by simp)).fr hf3 (by simp),hm2.fr hf3 (by simp),hm3,⟨hc.lt,nlr _,by omega,by omega⟩,hf03.mono (by simp)⟩;clear hw1 hw2 hw3 hm1 hm2 hm3 hf1 hf2 hf3 hz1 hz2 hz3 hc hix hL h0 h1 h2 hf03 hd
 go_enter func65,ntmps65
 go_upto_region 4 with fail
 clear hmk hmk2 hmk3;obtain⟨mu,hmu⟩:=nmd (w.heap.size);obtain⟨ms,hms⟩:=nmd (w1.heap.size);obtain⟨ma,hma⟩:=nmd (w2.heap.size);rw[hmu,hms,hma] at HL0 ⊢;clear hmu hms hma
 go_wp2_with fail
 refine wp_loop_rounds 3 ?_;rw[rounds_succ];have hcs:=(HST.out _ HL0.out.fr).2.1;unfold actsC at hcs;obtain⟨z0,z1,z2,z3,z4,z5⟩:=hcs.m6;clear hcs
 go_upto_region 7 with fail
 obtain⟨Y0,hY,nY,fY⟩:=bxn w3 #[.int .i64 1,.int .i64 0,.int .i64 1,.string ⟨#[]⟩,.slice RA 0 rc,.slice (some ⟨cb0,0,none⟩) 1 rd] 91;rw[hY];have HY0:=Hd (HL0.out.fr0 fY);have hRl:=HL0.out.young;obtain⟨R0,hR⟩:=nmd ((w3).heap.size);rw[hR] at nY hRl ⊢;have HR0:=Hd (An nY hRl);clear hY nY fY z0 z1 z2 z3 z4 z5 hRl hR;have r4:=HR0.out.1.k4;have r5:=HR0.out.1.k5
 go_wp2_with fail
 refine wp_loop_rounds 1 ?_;rw[rounds_succ]
 go_wp2_with fail
 refine wp_loop_rounds 2 ?_;clear r4 r5;rw[rounds_succ];have hcc:Cs Y0 cb0 (chC 1 ⟨#[120]⟩ false):=(HST.out _ HY0.out.fr).2.2.1;obtain⟨z0,z1,z2,z3,z4,z5,z6⟩:=hcc.m7;clear hcc
 go_upto_region 25 with fail
 obtain⟨U0,hU0,n0,f0⟩:=bxn Y0 #[.int .i64 16,.string ⟨#[]⟩,.int .i64 1,.int .i64 0,.string ⟨#[]⟩,.string ⟨#[120]⟩,.bool false] 95;rw[hU0];have HU0:=Hd (HY0.out.fr0 f0);obtain⟨T,hTe⟩:=nmd ((Y0).heap.size);rw[hTe] at n0 ⊢;obtain⟨d0,d1,d2,d3,d4,d5,d6⟩:=n0.m7;obtain⟨kl,hkl⟩:=keyOf_port1;obtain⟨X1,hput,fX,mX⟩:=MapIs.put_new (v:=.agg #[.int .i64 0,.int .i64 16,.string ⟨#[]⟩,.int .i64 1,.int .i64 0,.string ⟨#[]⟩,.string ⟨#[120]⟩,.bool false]) key_name underlying241 HU0.out.sm hkl (by simp)
 try rw[List.nil_append] at mX
 have HX1:=Hd (HU0.out.putS fX mX);have HFX1:Hid (Fr [ms] Y0 X1):=Hd ((f0.mono (by simp)).then fX);unfold portV at hput;clear hU0 n0 f0 hTe z0 z1 z2 z3 z4 z5 z6 hkl fX mX HU0
 go_wp2_with fail
 clear hput d0 d1 d2 d3 d4 d5 d6;rw[rounds_succ]
 go_wp2_with fail
 rw[rounds_succ];have hcs:=(HST.out _ HX1.out.fr).2.1;unfold actsC at hcs;have z0:=hcs.k6;have z1:=hcs.k7;have z2:=hcs.k8;have z3:=hcs.k9;have z4:=hcs.k10;have z5:=hcs.k11;clear hcs
 go_upto_region 7 with fail
 obtain⟨Y1,hY,nY,fY⟩:=bxn X1 #[.int .i64 2,.int .i64 0,.int .i64 2,.string ⟨#[]⟩,.slice (some ⟨ca1,0,none⟩) 1 rc1,.slice (some ⟨cb1,0,none⟩) 1 rd1] 91;rw[hY];have HY1:=Hd (HX1.out.fr0 fY);have hRl:=HX1.out.young;obtain⟨R,hR⟩:=nmd ((X1).heap.size);rw[hR] at nY hRl ⊢;have HR:=Hd (An nY hRl);clear hY nY fY z0 z1 z2 z3 z4 z5 hRl hR;have r4:=HR.out.1.k4
 go_wp2_with fail
 refine wp_loop_rounds 2 ?_;clear r4;have HRMU:Hid (R≠mu/\R≠ms/\R≠c):=Hd (by have h:=HR.out.2;omega);rw[rounds_succ];have hcc:Cs Y1 ca1 (chC 1 ⟨#[120]⟩ false):=(HST.out _ HY1.out.fr).2.2.2.1;obtain⟨z0,z1,z2,z3,z4,z5,z6⟩:=hcc.m7;clear hcc
 go_upto_region 10 with fail
 obtain⟨D0,hD0,n0,f0⟩:=bxn Y1 #[.int .i64 16,.string ⟨#[]⟩,.int .i64 1,.int .i64 0,.string ⟨#[]⟩,.string ⟨#[120]⟩,.bool false] 95;rw[hD0];have hy:=HY1.out.young;have HD0:=Hd (HY1.out.fr0 f0);have HRD:=Hd (An (HR.out.1.fr f0 (by simp)) HR.out.1.lt);obtain⟨D,hD⟩:=nmd (Y1.heap.size);rw[hD] at n0 hy HRD ⊢;have HDD:=Hd (An n0 hy);clear hD0 n0 f0 hy hD z0 z1 z2 z3 z4 z5 z6 HR;have HSS:=Hd (fun (W:World) (hW:Fr [] D0 W)=>(⟨(HD0.out.box.fr hW (by simp)).c 2,((HST.out _ (HD0.out.fr0 hW).fr).1).2 1 _ rfl,(HDD.out.1.fr hW (by simp)).c 0,(HDD.out.1.fr hW (by simp)).c 1,(HDD.out.1.fr hW (by simp)).c 2,(HDD.out.1.fr hW (by simp)).c 3,(HDD.out.1.fr hW (by simp)).c 4⟩:W.cell? ⟨c,2,none⟩=some (.slice (some ⟨ix,0,none⟩) 2 ic)/\W.cell? ⟨ix,1,none⟩=some (.int .i64 1)/\W.cell? ⟨D,0,none⟩=some (.int .i64 16)/\W.cell? ⟨D,1,none⟩=some (.string ⟨#[]⟩)/\W.cell? ⟨D,2,none⟩=some (.int .i64 1)/\W.cell? ⟨D,3,none⟩=some (.int .i64 0)/\W.cell? ⟨D,4,none⟩=some (.string ⟨#[]⟩)));have hC:Fr [] D0 D0.drew:=(Fq _ D0).drew;refine wp_region_head (fun W=>Fr [] D0 W) 11 (by kernel_rfl) ?_ (by decide)
 show headJ 0 _ _ _ _ _ _ _ _ _ _ _
 iterate 10
  refine hdJ (v:=?_) rfl (Or.inl ⟨by rfl,?_⟩) ?_
  rotate_left
  ·intro W hW;obtain⟨c2,i1,d0,d1,d2,d3,d4⟩:=HSS.out W hW;go_simp;try with_reducible rfl
  try simp only[Act.put,qA,qB,qC,qD,qE,qF]
 refine hO (i:=10) rfl fun K hK=>?_;go_simp
 obtain⟨D1,hD1,n1,f1⟩:=bxd D0 #[.int .i64 0,.int .i64 0,.int .i64 0,.string ⟨#[]⟩,.int .i64 0,.int .i64 0,.string ⟨#[]⟩] 98;rw[hD1];refine hK _ _ f1 ?_;clear hK K hC hD1 HSS
 try simp only[Act.put,qA,qB,qC,qD,qE,qF]
 refine headI_done ⟨by kernel_rfl,?_⟩;simp only[qG,qH];have HL1:=Hd (HD0.out.fr0 f1);have HD1:=Hd (An (HDD.out.1.fr f1 (by simp)) HDD.out.1.lt);have HR1:=Hd (HRD.out.1.fr f1 (by simp));obtain⟨XB,hXB⟩:=nmd (D0.heap.size);rw[hXB] at n1 HD1 ⊢;have HX1:=Hd n1;obtain⟨u0,u1,u2,u3,u4,u5,u6⟩:=n1.m7;have v0:=n1.f 0;have v1:=n1.f 1;have v2:=n1.f 2;have v3:=n1.f 3;have v4:=n1.f 4;have v5:=n1.f 5;have v6:=n1.f 6;clear n1 f1 hXB
 go_upto_region 11 with fail
 obtain⟨D2,hW2⟩:=nmd ((((((((((D1).setCell ⟨XB,0,none⟩ (.int .i64 (-1))).setCell ⟨XB,1,none⟩ (.int .i64 1)).setCell ⟨XB,2,none⟩ (.int .i64 16)).setCell ⟨XB,3,none⟩ (.string ⟨#[]⟩)).setCell ⟨XB,4,none⟩ (.int .i64 1)).setCell ⟨XB,5,none⟩ (.int .i64 0))).setCell ⟨XB,6,none⟩ (.string ⟨#[]⟩)));have n2:BoxN D2 (XB) 98 #[.int .i64 (-1),.int .i64 1,.int .i64 16,.string ⟨#[]⟩,.int .i64 1,.int .i64 0,.string ⟨#[]⟩]:=by rw[<-hW2];exact (((((((HX1.out.setAt 0 _).setAt 1 _).setAt 2 _).setAt 3 _).setAt 4 _).setAt 5 _).setAt 6 _)
 have f2:Fr [XB] (D1) D2:=by rw[<-hW2];exact (((((((Fq [XB] (D1)).set (.inl (by simp)) _).set (.inl (by simp)) _).set (.inl (by simp)) _).set (.inl (by simp)) _).set (.inl (by simp)) _).set (.inl (by simp)) _).set (.inl (by simp)) _
 rw[hW2];clear hW2;clear u0 u1 u2 u3 u4 u5 u6 v0 v1 v2 v3 v4 v5 v6;have HO:Hid (ma<D/\D<XB/\R<D):=Hd ⟨HDD.out.2.2.2.2,HD1.out.2,HRD.out.2⟩;have HL2:=Hd (HL1.out.putB f2 (by have:=HO.out;omega));have hd2:BoxN D2 D 95 _:=HD1.out.1.fr f2 (by have:=HO.out;simp;omega);have HD2:=Hd hd2;have hr2:BoxN D2 R 91 _:=HR1.out.fr f2 (by have:=HO.out;simp;omega);have HR2:=Hd hr2;have HX2:=Hd n2;obtain⟨d0,d1,d2,d3,d4,d5,d6⟩:=hd2.m7;obtain⟨kl,hkl⟩:=keyOf_port1;have hlk:=MapIs.look_none key_name underlying149 HL2.out.am hkl (by simp) (zero_chg D2) true;unfold portV at hlk;simp only[if_true] at hlk;clear n2 f2 hd2 hr2 HD1 HL1 HR1 HX1 HD0 HDD HRD
 go_upto_region 12 with fail
 obtain⟨D3,hD3,hz3,n3,f3⟩:=bxz D2 #[.int .i64 0,.string ⟨#[]⟩,.int .i64 0,.int .i64 0,.string ⟨#[]⟩,.string ⟨#[]⟩,.bool false] 95 D2.heap.size;rw[hD3];have HL3:=Hd (HL2.out.fr0 f3);have hd3:=HD2.out.fr f3 (by simp);have HD3:=Hd hd3;have HR3:=Hd (HR2.out.fr f3 (by simp));have HX3:=Hd (HX2.out.fr f3 (by simp));have hXl:XB<D2.heap.size:=HX2.out.lt;obtain⟨RB,hRB⟩:=nmd (D2.heap.size);rw[hRB] at n3 hXl ⊢;have HRB:=Hd (An n3 hXl);clear d0 d1 d2 d3 d4 d5 d6 hlk;obtain⟨d0,d1,d2,d3,d4,d5,d6⟩:=hd3.m7;have hlk:=MapIs.look_some key_name underlying241 HL3.out.sm hkl (v:=.agg #[.int .i64 0,.int .i64 16,.string ⟨#[]⟩,.int .i64 1,.int .i64 0,.string ⟨#[]⟩,.string ⟨#[120]⟩,.bool false]) (by simp) true;unfold portV at hlk;simp only[if_true] at hlk;clear n3 f3 hd3 hXl hRB hD3 HD2 HL2 HR2 HX2 hz3
 go_upto_region 13 with fail
 obtain⟨D4,hD4,hz4,n4,f4⟩:=bxz D3 #[.int .i64 0,.int .i64 16,.string ⟨#[]⟩,.int .i64 1,.int .i64 0,.string ⟨#[]⟩,.string ⟨#[120]⟩,.bool false] 243 D3.heap.size;rw[hD4];have HL4:=Hd (HL3.out.fr0 f4);have HD4:=Hd (HD3.out.fr f4 (by simp));have HR4:=Hd (HR3.out.fr f4 (by simp));have HX4:=Hd (HX3.out.fr f4 (by simp));have HB4:=Hd (HRB.out.1.fr f4 (by simp));have hRl:RB<D3.heap.size:=HRB.out.1.lt;obtain⟨SB,hSB⟩:=nmd (D3.heap.size);rw[hSB] at n4 hRl ⊢;have HSB:=Hd n4;have HP:Hid (ma<D/\D<XB/\R<D/\XB<RB/\RB<SB):=Hd ⟨HO.out.1,HO.out.2.1,HO.out.2.2,HRB.out.2,hRl⟩;have s0:=n4.k0;obtain⟨kj,hkj⟩:=keyOf_int0;obtain⟨D5,hput,f5,m5⟩:=MapIs.put_new (v:=.bool true) key_int underlying143 HL4.out.um hkj (by simp);rw[List.nil_append] at m5;clear d0 d1 d2 d3 d4 d5 d6 hlk hkl hkj n4 f4 hRl hSB hD4 HD3 HL3 HR3 HX3 hz4 HRB HO
 go_upto_region 15 with fail
 have HL5:=Hd (HL4.out.putU f5 m5)
 have HE5:Hid (BoxN D5 D 95 #[.int .i64 16,.string ⟨#[]⟩,.int .i64 1,.int .i64 0,.string ⟨#[]⟩,.string ⟨#[120]⟩,.bool false]/\BoxN D5 R 91 #[.int .i64 2,.int .i64 0,.int .i64 2,.string ⟨#[]⟩,.slice (some ⟨ca1,0,none⟩) 1 rc1,.slice (some ⟨cb1,0,none⟩) 1 rd1]/\BoxN D5 XB 98 #[.int .i64 (-1),.int .i64 1,.int .i64 16,.string ⟨#[]⟩,.int .i64 1,.int .i64 0,.string ⟨#[]⟩]/\BoxN D5 RB 95 #[.int .i64 0,.string ⟨#[]⟩,.int .i64 0,.int .i64 0,.string ⟨#[]⟩,.string ⟨#[]⟩,.bool false]/\BoxN D5 SB 243 #[.int .i64 0,.int .i64 16,.string ⟨#[]⟩,.int .i64 1,.int .i64 0,.string ⟨#[]⟩,.string ⟨#[120]⟩,.bool false]):=by
  have hp:=HP.out;have hd:=HL4.out.d;have hR:R≠mu:=HRMU.out.1;exact Hd ⟨HD4.out.fr f5 (by simp;omega),HR4.out.fr f5 (by simpa using hR),HX4.out.fr f5 (by simp;omega),HB4.out.fr f5 (by simp;omega),HSB.out.fr f5 (by simp;omega)⟩
 clear f5 m5 hput s0 HL4 HD4 HR4 HX4 HB4 HSB;have c2:=HL5.out.box.k2;have i0:D5.cell? ⟨ix,0,none⟩=some (.int .i64 0):=((HST.out _ HL5.out.fr).1).2 0 _ rfl;have s0:=HE5.out.2.2.2.2.k0;have x0:=HE5.out.2.2.1.k0;have xf:=HE5.out.2.2.1.f 0;have hwr:IntKind.i64.wrap 0=0:=by decide
 go_still_tail 8,(by kernel_rfl)
 go_upto_region 16 with fail
 obtain⟨D6,hD6⟩:=nmd ((D5.setCell ⟨XB,0,none⟩ (.int .i64 0)).drew);have n6:BoxN D6 XB 98 #[.int .i64 0,.int .i64 1,.int .i64 16,.string ⟨#[]⟩,.int .i64 1,.int .i64 0,.string ⟨#[]⟩]:=by rw[<-hD6];exact (HE5.out.2.2.1.setAt 0 _).drew
 have f6:Fr [XB] D5 D6:=by rw[<-hD6];exact ((Fq [XB] D5).set (.inl (by simp)) _).drew
 rw[hD6];have HL6:=Hd (HL5.out.putB f6 (by have:=HP.out;omega))
 have HE6:Hid (BoxN D6 D 95 #[.int .i64 16,.string ⟨#[]⟩,.int .i64 1,.int .i64 0,.string ⟨#[]⟩,.string ⟨#[120]⟩,.bool false]/\BoxN D6 R 91 #[.int .i64 2,.int .i64 0,.int .i64 2,.string ⟨#[]⟩,.slice (some ⟨ca1,0,none⟩) 1 rc1,.slice (some ⟨cb1,0,none⟩) 1 rd1]/\BoxN D6 XB 98 #[.int .i64 0,.int .i64 1,.int .i64 16,.string ⟨#[]⟩,.int .i64 1,.int .i64 0,.string ⟨#[]⟩]/\BoxN D6 RB 95 #[.int .i64 0,.string ⟨#[]⟩,.int .i64 0,.int .i64 0,.string ⟨#[]⟩,.string ⟨#[]⟩,.bool false]/\BoxN D6 SB 243 #[.int .i64 0,.int .i64 16,.string ⟨#[]⟩,.int .i64 1,.int .i64 0,.string ⟨#[]⟩,.string ⟨#[120]⟩,.bool false]):=by
  have hp:=HP.out;exact Hd ⟨HE5.out.1.fr f6 (by simp;omega),HE5.out.2.1.fr f6 (by simp;omega),n6,HE5.out.2.2.2.1.fr f6 (by simp;omega),HE5.out.2.2.2.2.fr f6 (by simp;omega)⟩
 clear n6 f6 hD6 c2 i0 s0 x0 xf hwr HE5 HL5;have s0:=HE6.out.2.2.2.2.k1;have s1:=HE6.out.2.2.2.2.k2;have s2:=HE6.out.2.2.2.2.k3;have s3:=HE6.out.2.2.2.2.k4;have s4:=HE6.out.2.2.2.2.k5;have s5:=HE6.out.2.2.2.2.k6;have s6:=HE6.out.2.2.2.2.k7;obtain⟨q0,q1,q2,q3,q4,q5,q6⟩:=HE6.out.2.2.2.1.m7;have v0:=HE6.out.2.2.2.1.f 0;have v1:=HE6.out.2.2.2.1.f 1;have v2:=HE6.out.2.2.2.1.f 2;have v3:=HE6.out.2.2.2.1.f 3;have v4:=HE6.out.2.2.2.1.f 4;have v5:=HE6.out.2.2.2.1.f 5;have v6:=HE6.out.2.2.2.1.f 6
 go_upto_region 18 with fail
 obtain⟨D7,hW2⟩:=nmd ((((((((((D6).setCell ⟨RB,0,none⟩ (.int .i64 16)).setCell ⟨RB,1,none⟩ (.string ⟨#[]⟩)).setCell ⟨RB,2,none⟩ (.int .i64 1)).setCell ⟨RB,3,none⟩ (.int .i64 0)).setCell ⟨RB,4,none⟩ (.string ⟨#[]⟩)).setCell ⟨RB,5,none⟩ (.string ⟨#[120]⟩))).setCell ⟨RB,6,none⟩ (.bool false)));have n7:BoxN D7 (RB) 95 #[.int .i64 16,.string ⟨#[]⟩,.int .i64 1,.int .i64 0,.string ⟨#[]⟩,.string ⟨#[120]⟩,.bool false]:=by rw[<-hW2];exact (((((((HE6.out.2.2.2.1.setAt 0 _).setAt 1 _).setAt 2 _).setAt 3 _).setAt 4 _).setAt 5 _).setAt 6 _)
 have f7:Fr [RB] (D6) D7:=by rw[<-hW2];exact (((((((Fq [RB] (D6)).set (.inl (by simp)) _).set (.inl (by simp)) _).set (.inl (by simp)) _).set (.inl (by simp)) _).set (.inl (by simp)) _).set (.inl (by simp)) _).set (.inl (by simp)) _
 rw[hW2];clear hW2;have HL7:=Hd (HL6.out.putB f7 (by have:=HP.out;omega))
 have HE7:Hid (BoxN D7 D 95 #[.int .i64 16,.string ⟨#[]⟩,.int .i64 1,.int .i64 0,.string ⟨#[]⟩,.string ⟨#[120]⟩,.bool false]/\BoxN D7 R 91 #[.int .i64 2,.int .i64 0,.int .i64 2,.string ⟨#[]⟩,.slice (some ⟨ca1,0,none⟩) 1 rc1,.slice (some ⟨cb1,0,none⟩) 1 rd1]/\BoxN D7 XB 98 #[.int .i64 0,.int .i64 1,.int .i64 16,.string ⟨#[]⟩,.int .i64 1,.int .i64 0,.string ⟨#[]⟩]):=by
  have hp:=HP.out;exact Hd ⟨HE6.out.1.fr f7 (by simp;omega),HE6.out.2.1.fr f7 (by simp;omega),HE6.out.2.2.1.fr f7 (by simp;omega)⟩
 clear q0 q1 q2 q3 q4 q5 q6 v0 v1 v2 v3 v4 v5 v6 s0 s1 s2 s3 s4 s5 s6 f7 HL6 HE6;obtain⟨q0,q1,q2,q3,q4,q5,q6⟩:=n7.m7;obtain⟨d0,d1,d2,d3,d4,d5,d6⟩:=HE7.out.1.m7
 go_upto_region 20 with fail
 clear q0 q1 q2 q3 q4 q5 q6 d0 d1 d2 d3 d4 d5 d6 n7;have HSS:=Hd (fun (W:World) (hW:Fr [] D7 W)=>(⟨(HL7.out.box.fr hW (by simp)).c 4,(HE7.out.2.2.fr hW (by simp)).c 0,(HE7.out.2.2.fr hW (by simp)).c 1,(HE7.out.2.2.fr hW (by simp)).c 2,(HE7.out.2.2.fr hW (by simp)).c 3,(HE7.out.2.2.fr hW (by simp)).c 4,(HE7.out.2.2.fr hW (by simp)).c 5,(HE7.out.2.2.fr hW (by simp)).c 6⟩:W.cell? ⟨c,4,none⟩=some (.slice none 0 0)/\W.cell? ⟨XB,0,none⟩=some (.int .i64 0)/\W.cell? ⟨XB,1,none⟩=some (.int .i64 1)/\W.cell? ⟨XB,2,none⟩=some (.int .i64 16)/\W.cell? ⟨XB,3,none⟩=some (.string ⟨#[]⟩)/\W.cell? ⟨XB,4,none⟩=some (.int .i64 1)/\W.cell? ⟨XB,5,none⟩=some (.int .i64 0)/\W.cell? ⟨XB,6,none⟩=some (.string ⟨#[]⟩)));have hC:Fr [] D7 D7.drew:=(Fq _ D7).drew;refine wp_region_head (fun W=>Fr [] D7 W) 8 (by kernel_rfl) ?_ (by decide)
 show headJ 0 _ _ _ _ _ _ _ _ _ _ _
 iterate 6
  refine hdJ (v:=?_) rfl (Or.inl ⟨by rfl,?_⟩) ?_
  rotate_left
  ·intro W hW;obtain⟨c4,l0,l1,l2,l3,l4,l5,l6⟩:=HSS.out W hW;go_simp;try with_reducible rfl
  try simp only[Act.put,qA,qB,qC,qD,qE,qF]
 refine hO (i:=6) rfl fun K hK=>?_;go_simp
 obtain⟨G1,hG1,n1,hC1⟩:=bxd D7 #[.int .i64 0,.int .i64 1,.int .i64 16,.string ⟨#[]⟩,.int .i64 1,.int .i64 0,.string ⟨#[]⟩] 98;rw[hG1];refine hK _ _ hC1 ?_;clear hK K hG1 hC
 try simp only[Act.put,qA,qB,qC,qD,qE,qF]
 refine hO (i:=7) rfl fun K hK=>?_;obtain⟨ii,hii,iz0,iz1,iz2⟩:=info_link;refine wp_app (.tmp 92) (.tmp 94) 61 rfl 98 ii _ 7 72 underlying61 hii iz0 iz1 iz2 rfl (by decide) none 0 0 [] rfl (Own.nil _ _ _) ⟨D7.heap.size,0,none⟩ 1 1 [.int .i64 0,.int .i64 1,.int .i64 16,.string ⟨#[]⟩,.int .i64 1,.int .i64 0,.string ⟨#[]⟩] rfl rfl (fun j u hu=>by rw[add_mid',n1.c j];simpa using hu) (by simp[Value.oneCell']) (by unfold maxLen;omega) (by omega) ?_;intro LA lcap G2 ho2 hf2 hA2;rw[show (0+1:Nat)=1 from rfl] at ho2 ⊢;obtain⟨lb,rfl,hlb⟩:=Cs.of_own ho2 (by omega)
 have hlN:G1.heap.size<=lb:=by
  rcases hA2 lb (by simp[blk]) with h | h
  ·simp[blk] at h
  ·exact h
 have hC:Fr [] D7 G2:=hC1.then (hf2.mono (by simp[blk]));refine hK _ _ hC ?_;clear hK K
 try simp only[Act.put,qA,qB,qC,qD,qE,qF]
 refine headI_done ⟨by kernel_rfl,?_⟩;simp only[qG,qH];have HL8:=Hd (HL7.out.fr0 hC);have HR8:=Hd (HE7.out.2.1.fr hC (by simp));have q0:=HL8.out.box.k4;have q1:=HL8.out.box.f 4;have hsz:D7.heap.size<=lb:=Nat.le_trans hC1.size hlN;have hcl:c<D7.heap.size:=HL7.out.box.lt;have HLB:=Hd (An hlb (An (show c≠lb from by omega) (show ms≠lb/\w.heap.size<=lb from ⟨by have h:=HL7.out.sm.lt;omega,Nat.le_trans HL7.out.fr.size hsz⟩)));clear hC hC1 n1 hlb hlN hsz hcl hf2 hA2 ho2 HSS HL7 HE7 iz0 iz1 iz2 hii
 go_upto_region 21 with fail
 obtain⟨G3,hG3⟩:=nmd (G2.setCell ⟨c,4,none⟩ (.slice (some ⟨lb,0,none⟩) 1 lcap));have n3:BoxN G3 c 64 (conC ix ic KA kc (.slice (some ⟨lb,0,none⟩) 1 lcap)):=by rw[<-hG3];exact HL8.out.box.setAt 4 _
 have f3:Fr [c] G2 G3:=by rw[<-hG3];exact (Fq [c] G2).set (.inl (by simp)) _
 try rw[hG3]
 have HL9:=Hd (HL8.out.putC f3 n3);have hr9:BoxN G3 R 91 _:=HR8.out.fr f3 (by have h:=HRMU.out;simpa using h.2.2);have HLB3:=Hd (An (HLB.out.1.fr f3 (by simpa using Ne.symm HLB.out.2.1)) HLB.out.2.2);have r5:=hr9.k5;clear q0 q1 hG3 n3 f3 hr9 HL8 HR8 HLB
 go_wp2_with fail
 rw[rounds_succ]
 go_wp2_with fail
 refine wp_loop_rounds 2 ?_;clear r5;rw[rounds_succ];have hcc:Cs G3 cb1 (chC 2 ⟨#[121,122]⟩ false):=(HST.out _ HL9.out.fr).2.2.2.2;obtain⟨z0,z1,z2,z3,z4,z5,z6⟩:=hcc.m7;clear hcc
 go_upto_region 25 with fail
 obtain⟨U0,hU0,n0,f0⟩:=bxn G3 #[.int .i64 16,.string ⟨#[]⟩,.int .i64 2,.int .i64 0,.string ⟨#[]⟩,.string ⟨#[121,122]⟩,.bool false] 95;rw[hU0];have HU0:=Hd (HL9.out.fr0 f0);obtain⟨T,hTe⟩:=nmd ((G3).heap.size);rw[hTe] at n0 ⊢;obtain⟨d0,d1,d2,d3,d4,d5,d6⟩:=n0.m7;obtain⟨kl,hkl⟩:=keyOf_port2;obtain⟨X2,hput,fX,mX⟩:=MapIs.put_new (v:=.agg #[.int .i64 1,.int .i64 16,.string ⟨#[]⟩,.int .i64 2,.int .i64 0,.string ⟨#[]⟩,.string ⟨#[121,122]⟩,.bool false]) key_name underlying241 HU0.out.sm hkl (by simp[portV])
 try rw[List.nil_append] at mX
 have HX2:=Hd (HU0.out.putS fX mX);have HFX2:Hid (Fr [ms] G3 X2):=Hd ((f0.mono (by simp)).then fX);unfold portV at hput;clear hU0 n0 f0 hTe z0 z1 z2 z3 z4 z5 z6 hkl fX mX HU0
 go_wp2_with fail
 clear hput d0 d1 d2 d3 d4 d5 d6;rw[rounds_succ]
 go_wp2_with fail
 rw[rounds_succ];obtain⟨X3,hrg,fX3,hnx⟩:=run_range_empty underlying149 HX2.out.am;have HX3:=Hd (HX2.out.fr0 fX3);have HB3:=Hd ((HLB3.out.1.fr HFX2.out (by simpa using Ne.symm HLB3.out.2.1)).fr0 fX3);clear fX3
 go_wp2_with fail
 refine wp_loop_rounds 1 ?_;rw[rounds_succ];clear hrg;have c5:=HX3.out.box.k5;have c4:=HX3.out.box.k4
 go_wp2_with (first
  | (go_at_call 128;(with_reducible refine (SortC none 0 0 _ (by omega) X3).mono ?_);rintro e w' ⟨rfl,rfl⟩)
  | (go_at_call 130;(with_reducible refine (SortL (some ⟨lb,0,none⟩) 1 lcap _ (by omega) X3).mono ?_);rintro e w' ⟨rfl,rfl⟩))
 go_ret2
 exact⟨mu,lb,lcap,rfl,HX3.out.box,HB3.out,HX3.out.um,HX3.out.fr,HLB3.out.2.2⟩
theorem LastW_any (ca xc cb xd:Nat) (w:World) (hc:Cs w cb (chC 2 ⟨#[121,122]⟩ false)) :
 Calls prog 64 #[.agg #[.int .i64 2,.int .i64 0,.int .i64 2,.string ⟨#[]⟩,.slice (some ⟨ca,0,none⟩) 1 xc,.slice (some ⟨cb,0,none⟩) 1 xd],portV 2] w (RetPost w (.tuple #[.agg #[.int .i64 16,.string ⟨#[]⟩,.int .i64 2,.int .i64 0,.string ⟨#[]⟩,.string ⟨#[121,122]⟩,.bool false],.bool true])):=by
 obtain⟨w1,hw1,n1,f1⟩:=bxn w #[.int .i64 2,.int .i64 0,.int .i64 2,.string ⟨#[]⟩,.slice (some ⟨ca,0,none⟩) 1 xc,.slice (some ⟨cb,0,none⟩) 1 xd] 91;have hz1:w1.heap.size=w.heap.size+1:=by rw[<-hw1];simp
 obtain⟨w2,hw2⟩:=nmd (w1.alloc (.cells #[.int .i64 16,.string ⟨#[]⟩,.int .i64 2,.int .i64 0,.string ⟨#[]⟩] 31));have hz2:w2.heap.size=w.heap.size+1+1:=by rw[<-hw2,wsA,hz1]
 have n2:BoxN w2 (w.heap.size+1) 31 #[.int .i64 16,.string ⟨#[]⟩,.int .i64 2,.int .i64 0,.string ⟨#[]⟩]:=by rw[<-hw2,<-hz1];exact BoxN.new w1 _ _
 have f2:Fr [] w1 w2:=by rw[<-hw2];exact (Fq [] w1).alloc _
 obtain⟨w3,hw3⟩:=nmd (w2.alloc (.cells #[.int .i64 0,.string ⟨#[]⟩,.int .i64 0,.int .i64 0,.string ⟨#[]⟩,.string ⟨#[]⟩,.bool false] 95));have n3:BoxN w3 (w.heap.size+1+1) 95 #[.int .i64 0,.string ⟨#[]⟩,.int .i64 0,.int .i64 0,.string ⟨#[]⟩,.string ⟨#[]⟩,.bool false]:=by rw[<-hw3,<-hz2];exact BoxN.new w2 _ _
 have f3:Fr [] w2 w3:=by rw[<-hw3];exact (Fq [] w2).alloc _
 have hf3:=(f1.then f2).then f3;have m1:=(n1.fr f2 (by simp)).fr f3 (by simp);have x5:=m1.k5;have hc3:=hc.fr0 hf3;unfold chC at hc3;obtain⟨z0,z1,z2,z3,z4,z5,z6⟩:=hc3.m7;have HW:=Hd (An hw1 (An hw2 hw3));have HN:=Hd (An (n2.fr f3 (by simp)) (An n3 hf3));clear hw1 hw2 hw3 n1 n2 n3 f1 f2 f3 hf3 m1 hc3 hz1 hz2 hc;unfold portV
 go_enter func64,ntmps64
 go_upto_region 1 with fail
 rw[HW.out.1,HW.out.2.1,HW.out.2.2]
 go_wp2_with fail
 refine wp_loop_rounds 2 ?_;rw[rounds_succ]
 go_upto_region 4 with fail
 obtain⟨w4,hw4,n4,f4⟩:=bxn w3 #[.int .i64 16,.string ⟨#[]⟩,.int .i64 2,.int .i64 0,.string ⟨#[]⟩,.string ⟨#[121,122]⟩,.bool false] 95;rw[hw4];have m2:=HN.out.1.fr f4 (by simp);obtain⟨y0,y1,y2,y3,y4⟩:=m2.m5;obtain⟨k0,k1,k2,k3,k4,k5,k6⟩:=n4.m7;have hr:=HN.out.2.1.fr f4 (by simp);obtain⟨u0,u1,u2,u3,u4,u5,u6⟩:=hr.m7;have v0:=hr.f 0;have v1:=hr.f 1;have v2:=hr.f 2;have v3:=hr.f 3;have v4:=hr.f 4;have v5:=hr.f 5;have v6:=hr.f 6;have HR:=Hd (An hr (HN.out.2.2.then f4));clear hr
 go_wp2_with fail
 obtain⟨w5,hw5⟩:=nmd ((((((((w4.setCell ⟨w.heap.size+1+1,0,none⟩ (.int .i64 16)).setCell ⟨w.heap.size+1+1,1,none⟩ (.string ⟨#[]⟩)).setCell ⟨w.heap.size+1+1,2,none⟩ (.int .i64 2)).setCell ⟨w.heap.size+1+1,3,none⟩ (.int .i64 0)).setCell ⟨w.heap.size+1+1,4,none⟩ (.string ⟨#[]⟩)).setCell ⟨w.heap.size+1+1,5,none⟩ (.string ⟨#[121,122]⟩)).setCell ⟨w.heap.size+1+1,6,none⟩ (.bool false)));have hb5:BoxN w5 (w.heap.size+1+1) 95 #[.int .i64 16,.string ⟨#[]⟩,.int .i64 2,.int .i64 0,.string ⟨#[]⟩,.string ⟨#[121,122]⟩,.bool false]:=by rw[<-hw5];exact (((((((HR.out.1.setAt 0 _).setAt 1 _).setAt 2 _).setAt 3 _).setAt 4 _).setAt 5 _).setAt 6 _)
 have f5:Fr [w.heap.size+1+1] w4 w5:=by rw[<-hw5];exact ((((((((Fq [w.heap.size+1+1] w4).set (.inl (by simp)) _).set (.inl (by simp)) _).set (.inl (by simp)) _).set (.inl (by simp)) _).set (.inl (by simp)) _).set (.inl (by simp)) _).set (.inl (by simp)) _)
 rw[hw5];obtain⟨t0,t1,t2,t3,t4,t5,t6⟩:=hb5.m7;refine bodyPost_ret (v:=.tuple #[.agg #[.int .i64 16,.string ⟨#[]⟩,.int .i64 2,.int .i64 0,.string ⟨#[]⟩,.string ⟨#[121,122]⟩,.bool false],.bool true]) (by simp[results,results64,go_sem,t0,t1,t2,t3,t4,t5,t6]) rfl ?_;exact⟨rfl,HR.out.2.trans f5 (by simp;omega)⟩
def pairC (l r:Nm):List Value:=dCells l++dCells r
theorem pairC_len {l r:Nm} (hl:l.length=32) (hr:r.length=32):(pairC l r).length=64:=by
 unfold pairC;rw[lla,dcells_len,dcells_len,hl,hr]
theorem pairC_one (l r:Nm):∀ u∈pairC l r,u.oneCell'=true:=by
 intro u hu
 rcases List.mem_append.1 hu with h | h
 ·exact dcells_one l u h
 ·exact dcells_one r u h
theorem foldk_set (off:Nat) (l:List Value):∀ (k:Nat) (z:Array Value),off+k+l.length<=z.size->∀ i,((l.zipIdx k).foldl (fun cs x=>cs.setIfInBounds (off+x.2) x.1) z)[i]?=if off+k<=i/\i<off+k+l.length then l[i - (off+k)]? else z[i]?:=by
 induction l with
 | nil =>
  intro k z _ i;simp only[List.zipIdx_nil,List.foldl_nil,List.length_nil]
  rw[if_neg (by omega)]
 | cons x l ih =>
  intro k z hz i;simp only[List.length_cons] at hz;rw[List.zipIdx_cons,List.foldl_cons,ih (k+1) _ (by simp;omega)];simp only[List.length_cons]
  by_cases h1:off+(k+1)<=i/\i<off+(k+1)+l.length
  ·rw[if_pos h1,if_pos (by omega),show i - (off+k)=(i - (off+(k+1)))+1 by omega,List.getElem?_cons_succ]
  ·rw[if_neg h1]
   by_cases h2:i=off+k
   ·subst h2
    rw[if_pos (by omega),Nat.sub_self,List.getElem?_cons_zero,Array.getElem?_setIfInBounds_self_of_lt (by omega)]
   ·rw[if_neg (by omega),Array.getElem?_setIfInBounds_ne (by omega)]
theorem foldz_size (l:List Value):∀ (k:Nat) (z:Array Value),((l.zipIdx k).foldl (fun cs x=>cs.setIfInBounds x.2 x.1) z).size=z.size:=by
 induction l with
 | nil=>intro k z;rfl
 | cons x l ih=>intro k z;rw[List.zipIdx_cons,List.foldl_cons,ih];simp
theorem fold_pair {l r:Nm} (hl:l.length=32) (hr:r.length=32) (z:Array Value) (hz:z.size=64) :
 ((dCells r).zipIdx).foldl (fun cs x=>cs.setIfInBounds (32+x.2) x.1) (((dCells l).zipIdx).foldl (fun cs x=>cs.setIfInBounds x.2 x.1) z)=(pairC l r).toArray:=by
 have cl:(dCells l).length=32:=by rw[dcells_len,hl]
 have cr:(dCells r).length=32:=by rw[dcells_len,hr]
 have s1:=foldz_size (dCells l) 0 z
 apply Array.ext_getElem?
 intro i;rw[foldk_set 32 (dCells r) 0 _ (by omega) i,fold_set (dCells l) 0 z (by omega) i,cl,cr];simp only[pairC,List.getElem?_toArray,List.getElem?_append,cl,Nat.add_zero,Nat.zero_add,Nat.sub_zero,Nat.zero_le,true_and]
 by_cases h1:i<32
 ·rw[if_neg (by omega),if_pos h1,if_pos h1]
 ·rw[if_neg h1]
  by_cases h2:i<64
  ·rw[if_pos (by omega),if_neg h1]
  ·rw[if_neg (by omega),if_neg h1,Array.getElem?_eq_none (by omega),List.getElem?_eq_none (by omega)]
theorem run_build_pair (W:World) {l r:Nm} (hl:l.length=32) (hr:r.length=32):(Instr.build 308 #[(0,.agg (dCells l).toArray),(1,.agg (dCells r).toArray)]).run prog W=.ok (.agg (pairC l r).toArray) W:=by
 have cl:(dCells l).length=32:=by rw[dcells_len,hl]
 have cr:(dCells r).length=32:=by rw[dcells_len,hr]
 simp[Instr.build,go_sem,cl,cr,foldz_size];exact fold_pair hl hr _ rfl
theorem pair_left {W:World} {B:Nat} {l r:Nm} (h:BoxN W B 308 (pairC l r).toArray):W.rangeAt B 0 (dCells l):=fun j v hv=>by
 rw[Nat.zero_add,h.c j];have hj:=(lgs.1 hv).1;simp only[pairC,List.getElem?_toArray];rw[List.getElem?_append_left hj];exact hv
theorem pair_right {W:World} {B:Nat} {l r:Nm} (hl:l.length=32) (h:BoxN W B 308 (pairC l r).toArray):W.rangeAt B 32 (dCells r):=fun j v hv=>by
 have cl:(dCells l).length=32:=by rw[dcells_len,hl]
 rw[h.c (32+j)];simp only[pairC,List.getElem?_toArray];rw[List.getElem?_append_right (by omega),cl,Nat.add_sub_cancel_left];exact hv
theorem PairDigest_any (l r:Nm) (w:World) (hok:Ok w) (hl:l.length=32) (hr:r.length=32):Calls prog 219 #[.agg (pairC l r).toArray] w (SumPost w (nodeN l r)):=by
 obtain⟨w1,hw1,hb1,hf1⟩:=bxn w (pairC l r).toArray 308;obtain⟨w2,hw2⟩:=nmd (w1.alloc (.cells (z32) 57));have hf2:Fr [] w1 w2:=by rw[<-hw2];exact (Fq [] w1).alloc _
 obtain⟨fR,hR⟩:∃ f,w2.rowIs w1.heap.size 57 32 f:=by rw[<-hw2];exact⟨_,row_new w1 _ _⟩
 have hs1:w1.heap.size=w.heap.size+1:=by rw[<-hw1];exact wsA _ _
 have hb2:=hb1.fr hf2 (by simp);have hN:=Node_any l r w2 (hok.fr0 (hf1.then hf2)) hl hr;obtain⟨d,hd⟩:=nmd (nodeN l r);have hd32:d.length=32:=by rw[<-hd];exact shaN_len _
 rw[hd] at hN ⊢;have hcl:(dCells d).length=32:=by rw[dcells_len,hd32]
 have c1:(dCells l).length=32:=by rw[dcells_len,hl]
 have c2:(dCells r).length=32:=by rw[dcells_len,hr]
 have HP1:=Hd (pair_left hb2);have HP2:=Hd (pair_right hl hb2);have HN:=Hd hN;have HR2:=Hd hR;have HF2:=Hd (hf1.then hf2);have HW1:=Hd hw1;have HW2:=Hd hw2;obtain⟨R,hRR⟩:=nmd (w1.heap.size);rw[hRR] at HR2;have HRR:=Hd hRR;have HZ:=Hd hs1;clear hN hR hf1 hf2 hw1 hw2 hb1 hb2 hd hs1 hRR;unfold encD at HN
 go_enter func219,ntmps219
 go_upto_region 1 with fail
 rw[HW1.out,HW2.out,<-HZ.out,HRR.out]
 go_wp2_with (first
  | (with_reducible refine wpList_load_mid rfl 57 (.tmp 3) rfl w.heap.size 0 rfl (dCells l) (.array 32 5) HP1.out (by kernel_rfl) rfl (by rw[c1];kernel_rfl) ?_)
  | (with_reducible refine wpList_load_mid rfl 57 (.tmp 5) rfl w.heap.size 32 rfl (dCells r) (.array 32 5) HP2.out (by kernel_rfl) rfl (by rw[c2];kernel_rfl) ?_)
  | (go_at_call 150;(with_reducible refine HN.out.mono ?_);rintro e w3 ⟨rfl,hf3⟩;unfold encD;have hR3:=rowIs_fr HR2.out hf3 (by simp);have hst:=store_digest (d:=d) hR3 hd32;have hrd:=row_digest (d:=d) hR3 hd32;obtain⟨w4,hw4⟩:∃ X,w3.setCells R 0 (dCells d)=X:=⟨_,rfl⟩;have hf4:Fr [] w w4:=(by rw[<-hw4];exact ((HF2.out.then hf3).setCells (.inr (by have:=HRR.out;have:=HZ.out;omega)) _ _));rw[hw4] at hst hrd;have HRD:=Hd hrd.1;have HF4:=Hd hf4;clear hw4 hrd hf4 hR3 hf3))
 exact bodyPost_ret (v:=encD d) (results_cell_mid (d:=.array 32 5) (p:=2) (ty:=57) (b:=R) (o:=0) rfl rfl HRD.out (by kernel_rfl) rfl (by rw[hcl];rfl)) rfl ⟨rfl,HF4.out⟩
end Go.Proofs.YtlpmiimgacfmkaaGreatDoor
