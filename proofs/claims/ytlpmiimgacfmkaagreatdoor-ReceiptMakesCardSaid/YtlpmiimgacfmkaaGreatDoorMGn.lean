/- Actions in memory: Clone of changes, copied. -/
import Derived.Lib.ItoaNum
import Derived.Test.YtlpmiimgacfmkaaGreatDoorMTr5
import Derived.Test.YtlpmiimgacfmkaaGreatDoorMSt3
import Derived.Test.YtlpmiimgacfmkaaGreatDoorMDrawn
import Derived.Test.YtlpmiimgacfmkaaGreatDoorMLt2
set_option linter.all false
namespace Go.Proofs.YtlpmiimgacfmkaaGreatDoor
open Go.Proofs.Tryz
open Go.RowKit
set_option maxRecDepth 100000
set_option maxHeartbeats 4000000
theorem CloneC_g (n c:Nat) (A:Option Addr) (xs:List Value) (w:World) (h:Rd w 7 A n xs) (h1:∀ u∈xs,u.oneCell'=true) (hn:n<=1000000):Calls prog 154 #[.slice A n c] w fun e w'=>∃ A' c',e=.returned (.slice A' n c')/\Own w' 95 7 A' n c' xs/\Fr [] w w'/\∀ k∈blk A',w.heap.size<=k:=by
 have hq:=Lib.run_eql_slice_nil (P:=prog) w 62 95 A n c 0 0 underlying62
 cases A with
 | none =>
  have hn0:n=0:=by
   rcases Nat.eq_zero_or_pos n with h0 | h0
   ·exact h0
   ·obtain⟨b,off,e,_⟩:=h.2 h0
    cases e
  subst hn0;have hx:xs=[]:=by have:=h.1;simpa using this
  subst hx;simp only[Option.isNone_none] at hq
  go_enter func154,ntmps154
  go_wp2_with fail
  go_ret
  exact⟨none,0,rfl,Own.nil _ _ _,Fq _ _,by simp[blk]⟩
 | some a =>
  simp only[Option.isNone_some] at hq;obtain⟨ii,hii,iz0,iz1,iz2⟩:=info_chg
  have hcell:∀ j u,xs[j]?=some u->w.cell? (a.add j)=some u:=by
   intro j u hu
   rcases Nat.eq_zero_or_pos n with h0 | h0
   ·have:=h.1;rw[h0] at this;have hx:xs=[]:=by simpa using this
    subst hx;simp at hu
   ·obtain⟨b,off,e,hb,hc⟩:=h.2 h0
    cases e
    rw[Addr.add_mid];exact hc j u hu
  have hlen:xs.length=n*7:=h.1;have HC:=Hd (An hcell (An h1 hlen));clear hcell h1 hlen h
  go_enter func154,ntmps154
  go_wp2_with (at_builtin;(with_reducible refine wpList_app (w:=w.alloc (.cells #[] 95)) rfl (.tmp 5) (.tmp 6) 62 rfl 95 ii _ 7 80 underlying62 hii iz0 iz1 iz2 rfl (by decide) (some ⟨w.heap.size,0,none⟩) 0 0 [] rfl (Own.empty w _ _) a n c xs rfl HC.out.2.2 (fun j u hu=>Lib.cell?_alloc_some _ (HC.out.1 j u hu)) HC.out.2.1 (by unfold maxLen;omega) (by omega) ?_);intro A2 c2 w2 ho hf hs;have HO:=Hd ho;have HF:=Hd hf;have HS:=Hd hs;clear ho hf hs)
  go_ret
  have ho:=HO.out;rw[List.nil_append] at ho;have hz:=HF.out.size;refine⟨A2,c2,rfl,by rw[Nat.zero_add] at ho;exact ho,((Fq [] w).alloc _).trans HF.out (fun x hx=>.inr (by simp[blk] at hx;omega)),fun k hk=>?_⟩
  rcases HS.out k hk with h | h
  ·simp[blk] at h;omega
  ·rw[wsA] at h;omega
def NoT (ts:List TypeId) (w:World) (S:List Nat):Prop:=∀ k∈S,∀ cur e z,w.heap[k]?=some (.cells cur e z)->e ∉ ts
section
variable {ts:List TypeId} {w w':World} {S T:List Nat}
theorem NoT.app (h:NoT ts w S) (h2:NoT ts w T):NoT ts w (S++T):=fun k hk=>by
 rcases List.mem_append.1 hk with hk | hk
 ·exact h k hk
 ·exact h2 k hk
theorem NoT.box {b:Nat} {t:TypeId} {cs:Array Value} (h:BoxN w b t cs) (ht:t ∉ ts):NoT ts w [b]:=fun k hk cur e z he=>by
 rw[lms] at hk;subst hk;rw[show w.heap[k]?=_ from h] at he
 cases he
 exact ht
theorem NoT.own {e:TypeId} {size n c:Nat} {A:Option Addr} {xs:List Value} (h:Own w e size A n c xs) (ht:e ∉ ts):NoT ts w (blk A):=fun k hk cur e2 z he=>by
 rcases h.2 with ⟨hv,_⟩ | ⟨g,cap,cur,hv,_,hg,_⟩
 ·injection hv with hv;subst hv;simp[blk] at hk
 ·injection hv with hv
  subst hv;simp only[blk,Option.map_some,Option.toList_some,lms] at hk;subst hk;rw[hg] at he
  cases he
  exact ht
theorem NoT.map {P:Program} {k:TypeId} {r:Nat} {kvs:List (Value × Value)} (h:MapIs P k w r kvs):NoT ts w [r]:=fun k hk cur e z he=>by
 rw[lms] at hk;subst hk;obtain⟨es,clock,h1,_⟩:=h;rw[h1] at he
 cases he
theorem NoT.mem (h:NoT ts w S) (h2:∀ k∈T,k∈S):NoT ts w T:=fun k hk=>h k (h2 k hk)
theorem BoxN.frT {b:Nat} {t:TypeId} {cs:Array Value} (h:BoxN w b t cs) (hf:Fr S w w') (hS:NoT ts w S) (ht:t∈ts):BoxN w' b t cs:=h.fr hf fun hm=>hS b hm _ _ _ h ht
theorem Own.frT {e:TypeId} {size n c:Nat} {A:Option Addr} {xs:List Value} (h:Own w e size A n c xs) (hf:Fr S w w') (hS:NoT ts w S) (ht:e∈ts):Own w' e size A n c xs:=h.fr hf fun k hk hm=>by
 rcases h.2 with ⟨hv,_⟩ | ⟨g,cap,cur,hv,_,hg,_⟩
 ·injection hv with hv;subst hv;simp[blk] at hk
 ·injection hv with hv
  subst hv;simp only[blk,Option.map_some,Option.toList_some,lms] at hk;subst hk;exact hS k hm _ _ _ hg ht
theorem TGat.frT (hf:Fr S w w') (hS:NoT ts w S) (ht:191∈ts):∀ {t:TG},TGat w t->TGat w' t
 | .nil,_=>trivial
 | .node _ _ _ _ _ _ _ _,h=>⟨h.1.frT hf hS ht,TGat.frT hf hS ht h.2.1,TGat.frT hf hS ht h.2.2⟩
end
def tyS:List TypeId:=[191,184,95]
theorem SG.frT {w w':World} {S:List Nat} {b:Nat} {ns:List ON} (h:SG w b ns) (hf:Fr S w w') (hS:NoT tyS w S):SG w' b ns:=by
 obtain⟨rp,k,h1,⟨t,h2,h3,h4⟩,h5⟩:=h;exact⟨rp,k,h1.frT hf hS (by simp[tyS]),⟨t,h2,h3.frT hf hS (by simp[tyS]),h4⟩,h5⟩
structure AX where
 a:AG
 sl:ByteArray
 A:Option Addr
 c:Nat
 B:Option Addr
 d:Nat
def AX.cs (x:AX):List Value:=[.int .i64 x.a.k.rnd,.int .i64 x.a.k.phase,.int .i64 x.a.k.idx,.string x.sl,.slice x.A x.a.r.length x.c,.slice x.B x.a.w.length x.d]
theorem ax_len (x:AX):x.cs.length=6:=rfl
def AX.v (x:AX):Value:=x.a.val x.sl x.A x.c x.B x.d
structure AX.ok (w:World) (x:AX):Prop where
 s:encN x.a.k.lin=.string x.sl
 r:Own w 95 7 x.A x.a.r.length x.c (x.a.r.flatMap CH.cs)
 w:Own w 95 7 x.B x.a.w.length x.d (x.a.w.flatMap CH.cs)
theorem AX.ok.fr0 {w w':World} {x:AX} (h:x.ok w) (hf:Fr [] w w'):x.ok w':=⟨h.s,h.r.fr hf (by simp),h.w.fr hf (by simp)⟩
theorem AX.ok.frT {w w':World} {S:List Nat} {x:AX} (h:x.ok w) (hf:Fr S w w') (hS:NoT tyS w S):x.ok w':=⟨h.s,h.r.frT hf hS (by simp[tyS]),h.w.frT hf hS (by simp[tyS])⟩
theorem AX.ok.chr {w:World} {x:AX} (h:x.ok w):Chs w x.A x.a.r:=h.r.rd
theorem AX.ok.chw {w:World} {x:AX} (h:x.ok w):Chs w x.B x.a.w:=h.w.rd
theorem ch_one (l:List CH):∀ u∈l.flatMap CH.cs,u.oneCell'=true:=by
 intro u hu;obtain⟨c,_,hc⟩:=List.mem_flatMap.1 hu;simp only[CH.cs,List.mem_cons,List.not_mem_nil,or_false] at hc
 rcases hc with rfl | rfl | rfl | rfl | rfl | rfl | rfl <;> first | rfl | exact encN_one _
def CopyG (w:World) (a:AG) (e:Ending) (w':World):Prop:=∃ x:AX,x.a=a/\e=.returned x.v/\x.ok w'/\Fr [] w w'
theorem copiedH_g (a:AG) (sl:ByteArray) (A B:Option Addr) (c d:Nat) (w:World) (hsl:encN a.k.lin=.string sl) (hA:Chs w A a.r) (hB:Chs w B a.w) (hf:a.fit):Calls prog 94 #[a.val sl A c B d] w (CopyG w a):=by
 have HSL:=Hd hsl;have hfr:=hf.rl;have hfw:=hf.wl;obtain⟨ti,hti⟩:=nmd (a.k.rnd);obtain⟨ph,hph⟩:=nmd (a.k.phase);obtain⟨ix,hix⟩:=nmd (a.k.idx);obtain⟨nr,hnr⟩:=nmd (a.r.length);obtain⟨nw,hnw⟩:=nmd (a.w.length);have HEQ:=Hd (An hti (An hph (An hix (An hnr hnw))));unfold Chs at hA hB;unfold AG.val;rw[hti,hph,hix,hnr,hnw];rw[hnr] at hA hfr;rw[hnw] at hB hfw;obtain⟨w1,hw1,hz1,n1,f1⟩:=bxz w #[.int .i64 ti,.int .i64 ph,.int .i64 ix,.string sl,.slice A nr c,.slice B nw d] 91 w.heap.size;obtain⟨w2,hw2,hz2,n2,f2⟩:=bxz w1 #[.int .i64 0,.int .i64 0,.int .i64 0,.string ⟨#[]⟩,.slice none 0 0,.slice none 0 0] 91 (w.heap.size+1);have hf02:=f1.then f2;have hCA:∀ W,Fr [] w2 W->Calls prog 154 #[.slice A nr c] W _:=fun W hW=>CloneC_g nr c A _ W (hA.fr0 (hf02.then hW)) (ch_one a.r) (by omega);have hCB:∀ W,Fr [] w2 W->Calls prog 154 #[.slice B nw d] W _:=fun W hW=>CloneC_g nw d B _ W (hB.fr0 (hf02.then hW)) (ch_one a.w) (by omega);have HCA:=Hd hCA;have HCB:=Hd hCB
 have HSS:=Hd (fun (W:World) (hW:Fr [] w2 W)=>(show W.cell? ⟨w.heap.size,0,none⟩=some (.int .i64 ti)/\W.cell? ⟨w.heap.size,1,none⟩=some (.int .i64 ph)/\W.cell? ⟨w.heap.size,2,none⟩=some (.int .i64 ix)/\W.cell? ⟨w.heap.size,3,none⟩=some (.string sl)/\W.cell? ⟨w.heap.size,4,none⟩=some (.slice A nr c)/\W.cell? ⟨w.heap.size,5,none⟩=some (.slice B nw d) from by
  have h:=(n1.fr f2 (by simp)).fr hW (by simp);exact⟨h.c 0,h.c 1,h.c 2,h.c 3,h.c 4,h.c 5⟩))
 have HB2:=Hd n2;have HF:=Hd hf02;have HW1:=Hd hw1;have HW2:=Hd hw2;obtain⟨R1,hR1⟩:=nmd (w.heap.size+1);have HR1:=Hd hR1;clear hCA hCB hw1 hw2 n1 n2 f1 f2 hf02 hA hB hf hsl hti hph hix hnr hnw
 go_enter func94,ntmps94
 go_upto_region 1 with fail
 rw[HW1.out,HW2.out];rw[hR1] at HB2
 try rw[hR1]
 clear hR1 hz1;have hC:Fr [] w2 w2.drew:=(Fq [] w2).drew;refine wp_region_head (fun W:World=>Fr [] w2 W) 8 (by kernel_rfl) ?_ (by decide)
 show headJ 0 _ _ _ _ _ _ _ _ _ _ _
 iterate 4
  refine hdJ (v:=?_) rfl (Or.inl ⟨by rfl,?_⟩) ?_
  rotate_left
  ·intro W hW;obtain⟨s0,s1,s2,s3,s4,s5⟩:=HSS.out W hW;go_simp;try with_reducible rfl
  try simp only[Act.put,qA,qB,qC,qD,qE,qF]
 show headJ 5 _ _ _ _ _ _ _ _ _ _ _
 iterate 2
  refine hdJ (v:=?_) rfl (Or.inl ⟨by rfl,?_⟩) ?_
  rotate_left
  ·intro W hW;obtain⟨s0,s1,s2,s3,s4,s5⟩:=HSS.out W hW;go_simp;try with_reducible rfl
  try simp only[Act.put,qA,qB,qC,qD,qE,qF]
 refine hO (i:=4) rfl fun K hK=>?_;go_simp
 go_at_call 154
 (with_reducible refine (HCA.out _ hC).mono ?_);rintro e y1 ⟨A1,c1,rfl,hA1,hf3,hs3⟩;have hy1:=hC.then hf3;refine hK _ _ hy1 ?_;clear hK K
 try simp only[Act.put,qA,qB,qC,qD,qE,qF]
 refine hO (i:=7) rfl fun K hK=>?_;go_simp
 go_at_call 154
 (with_reducible refine (HCB.out _ hy1).mono ?_);rintro e y2 ⟨B1,d1,rfl,hB1,hf4,hs4⟩;have hy2:=hy1.then hf4;refine hK _ _ hy2 ?_;clear hK K hC
 try simp only[Act.put,qA,qB,qC,qD,qE,qF]
 refine headI_done ⟨by kernel_rfl,?_⟩;simp only[qG,qH];have hb9:=HB2.out.fr hy2 (by simp);obtain⟨z0,z1,z2,z3,z4,z5⟩:=hb9.m6;have g0:=hb9.f 0;have g1:=hb9.f 1;have g2:=hb9.f 2;have g3:=hb9.f 3;have g4:=hb9.f 4;have g5:=hb9.f 5;have HY:=Hd (An (hA1.fr hf4 (by simp)) (An hB1 (An hy2 hb9)));have HSA:=Hd (An hs3 hs4);have hz3:=hf3.size;have hz4:=hf4.size;clear hA1 hB1 hf3 hf4 hs3 hs4 hy1 hy2 hb9 HCA HCB HSS
 go_wp2_with fail
 obtain⟨w12,hW2⟩:=nmd (((((((((y2).setCell ⟨R1,0,none⟩ (.int .i64 ti)).setCell ⟨R1,1,none⟩ (.int .i64 ph)).setCell ⟨R1,2,none⟩ (.int .i64 ix)).setCell ⟨R1,3,none⟩ (.string sl)).setCell ⟨R1,4,none⟩ (.slice A1 nr c1)).setCell ⟨R1,5,none⟩ (.slice B1 nw d1))));have h12:BoxN w12 (R1) 91 #[.int .i64 ti,.int .i64 ph,.int .i64 ix,.string sl,.slice A1 nr c1,.slice B1 nw d1]:=by rw[<-hW2];exact ((((((HY.out.2.2.2.setAt 0 _).setAt 1 _).setAt 2 _).setAt 3 _).setAt 4 _).setAt 5 _)
 have f12:Fr [R1] (y2) w12:=by rw[<-hW2];exact ((((((Fq [R1] (y2)).set (.inl (by simp)) _).set (.inl (by simp)) _).set (.inl (by simp)) _).set (.inl (by simp)) _).set (.inl (by simp)) _).set (.inl (by simp)) _
 rw[hW2];clear hW2;obtain⟨t0,t1,t2,t3,t4,t5⟩:=h12.m6;have hR:=HR1.out;have e1:w2.drew.heap.size=w2.heap.size:=rfl;have hA12:=HY.out.1.fr f12 (fun k hk=>by have:=HSA.out.1 k hk;rw[e1] at this;simp only[lms];omega);have hB12:=HY.out.2.1.fr f12 (fun k hk=>by have:=HSA.out.2 k hk;rw[e1] at hz3;simp only[lms];omega);have hfin:Fr [] w w12:=(HF.out.then HY.out.2.2.1).trans f12 (by simp;omega);obtain⟨ha1,ha2,ha3,ha4,ha5⟩:=HEQ.out;refine bodyPost_ret (v:=.agg #[.int .i64 ti,.int .i64 ph,.int .i64 ix,.string sl,.slice A1 nr c1,.slice B1 nw d1]) (by simp[results,results94,go_sem,t0,t1,t2,t3,t4,t5]) rfl ⟨⟨a,sl,A1,c1,B1,d1⟩,rfl,?_,⟨HSL.out,?_,?_⟩,hfin⟩
 ·unfold AX.v AG.val;simp only;rw[ha1,ha2,ha3,ha4,ha5]
 ·show Own w12 _ 7 A1 a.r.length c1 _;rw[ha4];exact hA12
 ·show Own w12 _ 7 B1 a.w.length d1 _;rw[ha5];exact hB12
theorem copiedV_g (a:AG) (sl:ByteArray) (A B:Option Addr) (c d:Nat) (w:World) (hsl:encN a.k.lin=.string sl) (hA:Chs w A a.r) (hB:Chs w B a.w) (hf:a.fit):Calls prog 159 #[a.val sl A c B d] w (CopyG w a):=by
 have HSL:=Hd hsl;have hfr:=hf.rl;have hfw:=hf.wl;obtain⟨ti,hti⟩:=nmd (a.k.rnd);obtain⟨ph,hph⟩:=nmd (a.k.phase);obtain⟨ix,hix⟩:=nmd (a.k.idx);obtain⟨nr,hnr⟩:=nmd (a.r.length);obtain⟨nw,hnw⟩:=nmd (a.w.length);have HEQ:=Hd (An hti (An hph (An hix (An hnr hnw))));unfold Chs at hA hB;unfold AG.val;rw[hti,hph,hix,hnr,hnw];rw[hnr] at hA hfr;rw[hnw] at hB hfw;obtain⟨w1,hw1,hz1,n1,f1⟩:=bxz w #[.int .i64 ti,.int .i64 ph,.int .i64 ix,.string sl,.slice A nr c,.slice B nw d] 91 w.heap.size;obtain⟨w2,hw2,hz2,n2,f2⟩:=bxz w1 #[.int .i64 0,.int .i64 0,.int .i64 0,.string ⟨#[]⟩,.slice none 0 0,.slice none 0 0] 91 (w.heap.size+1);have hf02:=f1.then f2;have hCA:∀ W,Fr [] w2 W->Calls prog 154 #[.slice A nr c] W _:=fun W hW=>CloneC_g nr c A _ W (hA.fr0 (hf02.then hW)) (ch_one a.r) (by omega);have hCB:∀ W,Fr [] w2 W->Calls prog 154 #[.slice B nw d] W _:=fun W hW=>CloneC_g nw d B _ W (hB.fr0 (hf02.then hW)) (ch_one a.w) (by omega);have HCA:=Hd hCA;have HCB:=Hd hCB
 have HSS:=Hd (fun (W:World) (hW:Fr [] w2 W)=>(show W.cell? ⟨w.heap.size,0,none⟩=some (.int .i64 ti)/\W.cell? ⟨w.heap.size,1,none⟩=some (.int .i64 ph)/\W.cell? ⟨w.heap.size,2,none⟩=some (.int .i64 ix)/\W.cell? ⟨w.heap.size,3,none⟩=some (.string sl)/\W.cell? ⟨w.heap.size,4,none⟩=some (.slice A nr c)/\W.cell? ⟨w.heap.size,5,none⟩=some (.slice B nw d) from by
  have h:=(n1.fr f2 (by simp)).fr hW (by simp);exact⟨h.c 0,h.c 1,h.c 2,h.c 3,h.c 4,h.c 5⟩))
 have HB2:=Hd n2;have HF:=Hd hf02;have HW1:=Hd hw1;have HW2:=Hd hw2;obtain⟨R1,hR1⟩:=nmd (w.heap.size+1);have HR1:=Hd hR1;clear hCA hCB hw1 hw2 n1 n2 f1 f2 hf02 hA hB hf hsl hti hph hix hnr hnw
 go_enter func159,ntmps159
 go_upto_region 1 with fail
 rw[HW1.out,HW2.out];rw[hR1] at HB2
 try rw[hR1]
 clear hR1 hz1;have hC:Fr [] w2 w2.drew:=(Fq [] w2).drew;refine wp_region_head (fun W:World=>Fr [] w2 W) 8 (by kernel_rfl) ?_ (by decide)
 show headJ 0 _ _ _ _ _ _ _ _ _ _ _
 iterate 4
  refine hdJ (v:=?_) rfl (Or.inl ⟨by rfl,?_⟩) ?_
  rotate_left
  ·intro W hW;obtain⟨s0,s1,s2,s3,s4,s5⟩:=HSS.out W hW;go_simp;try with_reducible rfl
  try simp only[Act.put,qA,qB,qC,qD,qE,qF]
 show headJ 5 _ _ _ _ _ _ _ _ _ _ _
 iterate 2
  refine hdJ (v:=?_) rfl (Or.inl ⟨by rfl,?_⟩) ?_
  rotate_left
  ·intro W hW;obtain⟨s0,s1,s2,s3,s4,s5⟩:=HSS.out W hW;go_simp;try with_reducible rfl
  try simp only[Act.put,qA,qB,qC,qD,qE,qF]
 refine hO (i:=4) rfl fun K hK=>?_;go_simp
 go_at_call 154
 (with_reducible refine (HCA.out _ hC).mono ?_);rintro e y1 ⟨A1,c1,rfl,hA1,hf3,hs3⟩;have hy1:=hC.then hf3;refine hK _ _ hy1 ?_;clear hK K
 try simp only[Act.put,qA,qB,qC,qD,qE,qF]
 refine hO (i:=7) rfl fun K hK=>?_;go_simp
 go_at_call 154
 (with_reducible refine (HCB.out _ hy1).mono ?_);rintro e y2 ⟨B1,d1,rfl,hB1,hf4,hs4⟩;have hy2:=hy1.then hf4;refine hK _ _ hy2 ?_;clear hK K hC
 try simp only[Act.put,qA,qB,qC,qD,qE,qF]
 refine headI_done ⟨by kernel_rfl,?_⟩;simp only[qG,qH];have hb9:=HB2.out.fr hy2 (by simp);obtain⟨z0,z1,z2,z3,z4,z5⟩:=hb9.m6;have g0:=hb9.f 0;have g1:=hb9.f 1;have g2:=hb9.f 2;have g3:=hb9.f 3;have g4:=hb9.f 4;have g5:=hb9.f 5;have HY:=Hd (An (hA1.fr hf4 (by simp)) (An hB1 (An hy2 hb9)));have HSA:=Hd (An hs3 hs4);have hz3:=hf3.size;have hz4:=hf4.size;clear hA1 hB1 hf3 hf4 hs3 hs4 hy1 hy2 hb9 HCA HCB HSS
 go_wp2_with fail
 obtain⟨w12,hW2⟩:=nmd (((((((((y2).setCell ⟨R1,0,none⟩ (.int .i64 ti)).setCell ⟨R1,1,none⟩ (.int .i64 ph)).setCell ⟨R1,2,none⟩ (.int .i64 ix)).setCell ⟨R1,3,none⟩ (.string sl)).setCell ⟨R1,4,none⟩ (.slice A1 nr c1)).setCell ⟨R1,5,none⟩ (.slice B1 nw d1))));have h12:BoxN w12 (R1) 91 #[.int .i64 ti,.int .i64 ph,.int .i64 ix,.string sl,.slice A1 nr c1,.slice B1 nw d1]:=by rw[<-hW2];exact ((((((HY.out.2.2.2.setAt 0 _).setAt 1 _).setAt 2 _).setAt 3 _).setAt 4 _).setAt 5 _)
 have f12:Fr [R1] (y2) w12:=by rw[<-hW2];exact ((((((Fq [R1] (y2)).set (.inl (by simp)) _).set (.inl (by simp)) _).set (.inl (by simp)) _).set (.inl (by simp)) _).set (.inl (by simp)) _).set (.inl (by simp)) _
 rw[hW2];clear hW2;obtain⟨t0,t1,t2,t3,t4,t5⟩:=h12.m6;have hR:=HR1.out;have e1:w2.drew.heap.size=w2.heap.size:=rfl;have hA12:=HY.out.1.fr f12 (fun k hk=>by have:=HSA.out.1 k hk;rw[e1] at this;simp only[lms];omega);have hB12:=HY.out.2.1.fr f12 (fun k hk=>by have:=HSA.out.2 k hk;rw[e1] at hz3;simp only[lms];omega);have hfin:Fr [] w w12:=(HF.out.then HY.out.2.2.1).trans f12 (by simp;omega);obtain⟨ha1,ha2,ha3,ha4,ha5⟩:=HEQ.out;refine bodyPost_ret (v:=.agg #[.int .i64 ti,.int .i64 ph,.int .i64 ix,.string sl,.slice A1 nr c1,.slice B1 nw d1]) (by simp[results,results159,go_sem,t0,t1,t2,t3,t4,t5]) rfl ⟨⟨a,sl,A1,c1,B1,d1⟩,rfl,?_,⟨HSL.out,?_,?_⟩,hfin⟩
 ·unfold AX.v AG.val;simp only;rw[ha1,ha2,ha3,ha4,ha5]
 ·show Own w12 _ 7 A1 a.r.length c1 _;rw[ha4];exact hA12
 ·show Own w12 _ 7 B1 a.w.length d1 _;rw[ha5];exact hB12
theorem field_int {P:Program} {d:Nat} {t:TypeId} {i:Int} (h:P.underlying t=some (.int .i64)) (hd:0<d) (hw:(Lit.int .i64 i).wf=true):P.keyLits d t [.int .i64 i]=some [.int .i64 i]:=by
 obtain⟨d,rfl⟩:∃ e,d=e+1:=⟨d - 1,by omega⟩;unfold Program.keyLits;rw[h];simp[hw]
theorem field_str {P:Program} {d:Nat} {t:TypeId} {s:ByteArray} (h:P.underlying t=some .string) (hd:0<d) (hs:s.size<=maxLen):P.keyLits d t [.string s]=some [.string s.data.toList]:=by
 obtain⟨d,rfl⟩:∃ e,d=e+1:=⟨d - 1,by omega⟩;unfold Program.keyLits;rw[h];simp[hs]
theorem keyOf_agg {P : Program} {k : TypeId} {fs : Array Field} {cs : Array Value} (h : P.underlying k = some (.struct fs)) (hk : P.keyType k = true) (hc : cs.toList.length = P.cellsOf k) (hn : fs.all (·.name != "_") = true)
 (hs:(P.types.size == 0)=false) (hx:∀ d,0<d->∃ ls,(fs.toList.mapM fun f=>P.keyLits d f.type ((cs.toList.drop f.offset).take (P.cellsOf f.type)))=some ls):∃ l,keyOf P k (.agg cs)=some l:=by
 obtain⟨ls,hls⟩:=hx P.types.size (Nat.pos_of_ne_zero (by simpa using hs));unfold keyOf;rw[h];simp only[hk,Value.formed,h,Bool.true_and,show (Value.agg cs).cells=cs from rfl];rw[if_pos (by simpa using hc)];unfold Program.keyLits;rw[h];simp only;rw[if_pos ⟨hc,hn⟩,hls];exact⟨_,rfl⟩
theorem wf_int {i:Int} (h1:-9223372036854775808<=i) (h2:i<=9223372036854775807):(Lit.int .i64 i).wf=true:=by
 have a:IntKind.i64.min=-9223372036854775808:=by decide
 have b:IntKind.i64.max=9223372036854775807:=by decide
 show (decide (IntKind.i64.min<=i) && decide (i<=IntKind.i64.max))=true
 rw[a,b];simp[h1,h2]
theorem keyOf_part {i j:Int} (hi:(Lit.int .i64 i).wf=true) (hj:(Lit.int .i64 j).wf=true):∃ l,keyOf prog 270 (partV i j)=some l:=by
 have hu:=underlying270;refine keyOf_agg hu (by kernel_rfl) (by kernel_rfl) (by kernel_rfl) (by kernel_rfl) (fun d hd=>?_);have hc:(prog).cellsOf 3=1:=by kernel_rfl
 have hui:=underlying3;simp only[List.mapM_cons,List.mapM_nil,hc,qG,qH,List.take_succ_cons,List.take_zero,field_int hui hd hi,field_int hui hd hj];exact⟨_,rfl⟩
theorem keyOf_name {n:ON} (h1:(Lit.int .i64 n.kind).wf=true) (h2:(Lit.int .i64 n.number).wf=true) (h3:(Lit.int .i64 n.index).wf=true) (h4:n.owner.length<=maxLen) (h5:n.text.length<=maxLen):∃ l,keyOf prog 31 (encO n)=some l:=by
 have hu:=underlying31;obtain⟨so,hso,_,hso2⟩:=str_of n.owner;obtain⟨st,hst,_,hst2⟩:=str_of n.text;unfold encO;rw[hso,hst];refine keyOf_agg hu (by kernel_rfl) (by kernel_rfl) (by kernel_rfl) (by kernel_rfl) (fun d hd=>?_);have hc:(prog).cellsOf 3=1:=by kernel_rfl
 have hui:=underlying3;have hl:so.size<=maxLen:=by omega
 have ht:st.size<=maxLen:=by omega
 have hcl:(prog).cellsOf 29=1:=by kernel_rfl
 have hcs:(prog).cellsOf 9=1:=by kernel_rfl
 simp only[List.mapM_cons,List.mapM_nil,hc,hcl,hcs,qG,qH,List.take_succ_cons,List.take_zero,field_int hui hd h1,field_int hui hd h2,field_int hui hd h3,field_str underlying29 hd hl,field_str underlying9 hd ht];exact⟨_,rfl⟩
theorem keyOf_i64 {i:Int} (h:(Lit.int .i64 i).wf=true):∃ l,keyOf prog 3 (.int .i64 i)=some l:=by
 unfold keyOf mapKey;rw[underlying3];simp[h]
theorem bl_spec {x:Nat} (h0:1<=x) (h:x<=1048576):1<=Lib.bitLen x/\2 ^ (Lib.bitLen x - 1)<=x/\x<2 ^ Lib.bitLen x :=
 Lib.bitLenAux_bounds 64 x (by omega) (by omega)
theorem leftS_spec {n:Nat} (h1:2<=n) (h2:n<=1048576):1<=leftS n/\leftS n<n/\n<=2*leftS n:=by
 obtain⟨a,b,c⟩:=bl_spec (x:=n - 1) (by omega) (by omega);unfold leftS;obtain⟨m,hm⟩:∃ m,Lib.bitLen (n - 1)=m+1:=⟨Lib.bitLen (n - 1) - 1,by omega⟩;rw[hm] at b c ⊢;rw[Nat.pow_succ] at c;simp only[Nat.add_sub_cancel] at b ⊢;have:=Nat.one_le_two_pow (n:=m);omega
theorem pow_pin {b k x:Nat} (h1:2 ^ b<=x) (h2:x<2 ^ (b+1)) (h3:2 ^ k<=x) (h4:x<2 ^ (k+1)):b=k:=by
 rcases Nat.lt_trichotomy b k with h | h | h
 ·have:2 ^ (b+1)<=2 ^ k:=Nat.pow_le_pow_right (by omega) h
  omega
 ·exact h
 ·have:2 ^ (k+1)<=2 ^ b:=Nat.pow_le_pow_right (by omega) h
  omega
theorem leftS_pow {l:Nat} (h:2 ^ (l+1)<=1048576):leftS (2 ^ (l+1))=2 ^ l:=by
 have h0:=Nat.one_le_two_pow (n:=l);have e:=Nat.pow_succ (n:=2) (m:=l);obtain⟨a,b,c⟩:=bl_spec (x:=2 ^ (l+1) - 1) (by omega) (by omega);unfold leftS;obtain⟨m,hm⟩:∃ m,Lib.bitLen (2 ^ (l+1) - 1)=m+1:=⟨Lib.bitLen (2 ^ (l+1) - 1) - 1,by omega⟩;rw[hm] at b c ⊢;simp only[Nat.add_sub_cancel] at b ⊢;rw[pow_pin (k:=l) b c (by omega) (by omega)]
theorem leftS_mid {n lv:Nat} (h1:2 ^ lv<n) (h2:n<2 ^ (lv+1)) (hn:n<=1048576):leftS n=2 ^ lv:=by
 have hp:=Nat.one_le_two_pow (n:=lv);obtain⟨u1,u2,u3⟩:=bl_spec (x:=n - 1) (by omega) (by omega);unfold leftS;obtain⟨m,hm⟩:∃ m,Lib.bitLen (n - 1)=m+1:=⟨Lib.bitLen (n - 1) - 1,by omega⟩;rw[hm] at u2 u3 ⊢;simp only[Nat.add_sub_cancel] at u2 ⊢;rw[pow_pin (b:=m) (k:=lv) u2 u3 (by omega) (by omega)]
def rt (ds:List Nm) (f n:Nat):Nm :=
 if _h:n<=1 \/ 1048576<n then ds.getD f [] else nodeN (rt ds f (leftS n)) (rt ds (f+leftS n) (n - leftS n))
termination_by n
decreasing_by
 ·exact (leftS_spec (by omega) (by omega)).2.1
 ·have:=leftS_spec (n:=n) (by omega) (by omega);omega
theorem rt_one (ds:List Nm) (f:Nat):rt ds f 1=ds.getD f []:=by rw[rt,dif_pos (by omega)]
theorem rt_two (ds:List Nm) (f n:Nat) (h1:2<=n) (h2:n<=1048576):rt ds f n=nodeN (rt ds f (leftS n)) (rt ds (f+leftS n) (n - leftS n)):=by rw[rt,dif_neg (by omega)]
theorem rt_pow (ds:List Nm) (f l:Nat) (h:2 ^ (l+1)<=1048576):rt ds f (2 ^ (l+1))=nodeN (rt ds f (2 ^ l)) (rt ds (f+2 ^ l) (2 ^ l)):=by
 have h0:=Nat.one_le_two_pow (n:=l);have e:=Nat.pow_succ (n:=2) (m:=l);rw[rt_two _ _ _ (by omega) h,leftS_pow h,show 2 ^ (l+1) - 2 ^ l=2 ^ l by omega]
theorem rt_more (ds es:List Nm):∀ (n f:Nat),1<=n->f+n<=ds.length->n<=1048576->rt (ds++es) f n=rt ds f n:=by
 intro n
 induction n using Nat.strongRecOn with
 | _ n ih =>
  intro f h1 h2 h3
  by_cases hn:n=1
  ·subst hn
   rw[rt_one,rt_one,List.getD_eq_getElem?_getD,List.getD_eq_getElem?_getD,List.getElem?_append_left (by omega)]
  ·have hs:=leftS_spec (n:=n) (by omega) h3
   rw[rt_two _ _ _ (by omega) h3,rt_two _ _ _ (by omega) h3,ih (leftS n) (by omega) f (by omega) (by omega) (by omega),ih (n - leftS n) (by omega) (f+leftS n) (by omega) (by omega) (by omega)]
theorem rt_len {ds:List Nm} (hl:∀ d∈ds,d.length=32):∀ (n f:Nat),1<=n->f+n<=ds.length->n<=1048576->(rt ds f n).length=32:=by
 intro n f h1 h2 h3
 by_cases hn:n=1
 ·subst hn
  rw[rt_one,List.getD_eq_getElem?_getD,lge (by omega)];exact hl _ (List.getElem_mem _)
 ·rw[rt_two _ _ _ (by omega) h3];exact shaN_len _
def Parts (ds:List Nm) (kvs:List (Value × Value)):Prop:=∀ l i:Nat,(i+1)*2 ^ l<=ds.length->PartIs ds kvs l i (rt ds (i*2 ^ l) (2 ^ l))
theorem shl_nat {l:Nat} (h:2 ^ l<=1048576):wrap64 (2 ^ l)=((2 ^ l:Nat):Int):=by
 have h4:((2:Int) ^ l)=((2 ^ l:Nat):Int):=by simp
 rw[h4];generalize (2:Nat) ^ l=z at h ⊢;simp only[wrap64];omega
theorem root_g (b:Nat) (ds:List Nm) (kvs:List (Value × Value)) (F:List Nat) (hP:Parts ds kvs) (hds:∀ d∈ds,d.length=32) (hlen:ds.length<=1048576):∀ (n f:Nat) (w:World),TreeAt w b ds kvs F->Ok w->1<=n->f+n<=ds.length->(∃ e,n<=2 ^ e/\2 ^ e ∣ f) ->
 Calls prog 127 #[.pointer (some ⟨b,0,none⟩),.int .i64 (f:Int),.int .i64 (n:Int)] w (SumPost w (rt ds f n)):=by
 intro n
 induction n using Nat.strongRecOn with
 | _ n ih =>
 intro f w h hok h1 h2 he;obtain⟨e,he1,he2⟩:=he;obtain⟨b1,b2,b3⟩:=bl_spec (x:=n) h1 (by omega);obtain⟨lv,hlv⟩:∃ m,Lib.bitLen n=m+1:=⟨Lib.bitLen n - 1,by omega⟩;rw[hlv] at b2 b3;simp only[Nat.add_sub_cancel] at b2;have hb:=fun W=>Tryz.bits_Len (n:Int) W (by omega) (by omega);rw[Int.toNat_natCast,hlv] at hb;have hsh:=shl_nat (l:=lv) (by omega)
 have hlv2:lv<=20:=by
  have:2 ^ lv<2 ^ 21:=by omega
  exact Nat.le_of_lt_succ ((Nat.pow_lt_pow_iff_right (by omega)).1 this)
 have hlvw:IntKind.i64.wrap (((lv+1:Nat):Int) - 1)=(lv:Int):=by simp only[IntKind.wrap_i64];omega
 obtain⟨w1,hw1⟩:=nmd (w.alloc (.cells (z32) 57));have hf1:Fr [] w w1:=by rw[<-hw1];exact (Fq [] w).alloc _
 obtain⟨fR,hR⟩:∃ f,w1.rowIs w.heap.size 57 32 f:=by rw[<-hw1];exact⟨_,row_new w _ _⟩
 have HB:=Hd hb;have HR:=Hd hR;have HF1:=Hd hf1;have HW1:=Hd hw1
 by_cases hn:n=2 ^ lv
 ·have hdv:2 ^ lv ∣ f:=Nat.dvd_trans (Nat.pow_dvd_pow 2 (by
   have:2 ^ lv<=2 ^ e:=by omega
   exact (Nat.pow_le_pow_iff_right (by omega)).1 this)) he2
  obtain⟨i,hi⟩:=hdv;rw[Nat.mul_comm] at hi;have hp:=hP lv i (by rw[Nat.add_mul];omega);rw[<-hi,<-hn] at hp;have hC:=complete_any b lv i ds kvs F _ w1 (h.fr0 hf1) hp;obtain⟨d,hd⟩:=nmd (rt ds f n);rw[hd] at hC hp ⊢;have hd32:=hp.1;have hcl:(dCells d).length=32:=by rw[dcells_len,hd32]
  unfold partV at hC;have HC:=Hd hC;have hsh2:wrap64 (2 ^ lv)=(n:Int):=by rw[hsh,<-hn]
  have hsr:(f:Int) / 2 ^ lv=(i:Int):=by
   have h4:((2:Int) ^ lv)=((2 ^ lv:Nat):Int):=by simp
   have h5:=Nat.one_le_two_pow (n:=lv);rw[h4,hi,<-Int.natCast_ediv,Nat.mul_div_cancel _ (by omega)]
  clear hb hR hf1 hw1 hC hp hn hi hsh ih he1 he2 b1 b2 b3 hlv h hd
  go_enter func127,ntmps127
  go_upto_region 1 with fail
  rw[HW1.out]
  go_upto_region 2 with (first
  | (go_at_call 172;(with_reducible refine (HB.out _).mono ?_);rintro e w1 ⟨rfl,rfl⟩))
  go_wp2_with (first
  | (go_at_call 149;(with_reducible refine HC.out.mono ?_);rintro e w3 ⟨rfl,hf3⟩;unfold encD;have hR3:=rowIs_fr HR.out hf3 (by simp);have hst:=store_digest (d:=d) hR3 hd32;have hrd:=row_digest (d:=d) hR3 hd32;obtain⟨w4,hw4⟩:∃ X,w3.setCells w.heap.size 0 (dCells d)=X:=⟨_,rfl⟩;have hf4:Fr [] w w4:=(by rw[<-hw4];exact ((HF1.out.then hf3).setCells (.inr (nlr _)) _ _));rw[hw4] at hst hrd;have HRD:=Hd hrd.1;have HF4:=Hd hf4;clear hw4 hrd hf4 hR3 hf3))
  exact bodyPost_ret (v:=encD d) (results_cell_mid (d:=.array 32 5) (p:=6) (ty:=57) (b:=w.heap.size) (o:=0) rfl rfl HRD.out (by kernel_rfl) rfl (by rw[hcl];rfl)) rfl ⟨rfl,HF4.out⟩
 ·obtain⟨p,hp⟩:=nmd (2 ^ lv)
  rw[hp] at hsh b2 hn;have hp1:1<=p:=by rw[<-hp];exact Nat.one_le_two_pow
  have hn2:2<=n:=by clear hsh hlvw hlv2 he1 he2 b3 hp;omega
  obtain⟨c1,c2,c3⟩:=leftS_spec (n:=n) hn2 (by omega);have hpn:p<n:=by clear hsh hlvw hlv2 he1 he2 b3 hp;omega
  have hkp:leftS n=p:=by rw[<-hp];exact leftS_mid (by rw[hp];exact hpn) b3 (by clear hsh hlvw hlv2 he1 he2 b3 hp;omega)
  have hL:=fun W=>leftSize_any n hn2 (by omega) W;obtain⟨k,hk⟩:=nmd (leftS n);have hrt:=rt_two ds f n hn2 (by omega);rw[hk] at c1 c2 c3 hL hkp hrt;have hle:2 ^ lv<=2 ^ e:=by rw[hp];exact Nat.le_trans (Nat.le_of_lt hpn) he1
  have hdf:2 ^ lv ∣ f:=Nat.dvd_trans (Nat.pow_dvd_pow 2 ((Nat.pow_le_pow_iff_right (by decide)).1 hle)) he2;rw[hp] at hdf;have hfk3:f+k+(n - k)<=ds.length:=by clear hsh hlvw hlv2 he1 he2 b3 hp hle;omega
  have hfk4:n - k<=p:=by clear hsh hlvw hlv2 he1 he2 b3 hp hle;omega
  have hfk5:k<=2 ^ e:=by rw[hkp,<-hp];exact hle
  have hfk6:f+k<=ds.length/\1<=n - k/\n - k<n/\k<=1048576/\n - k<=1048576/\n<=1048576/\k<=n:=by clear hsh hlvw hlv2 he1 he2 b3 hp hle;omega
  have hA:∀ W,Fr [] w W->Calls prog 127 #[.pointer (some ⟨b,0,none⟩),.int .i64 (f:Int),.int .i64 (k:Int)] W (SumPost W (rt ds f k)):=fun W hW=>ih k c2 f W (h.fr0 hW) (hok.fr0 hW) c1 hfk6.1 ⟨e,hfk5,he2⟩
  have hB:∀ W,Fr [] w W->Calls prog 127 #[.pointer (some ⟨b,0,none⟩),.int .i64 ((f:Int)+(k:Int)),.int .i64 ((n:Int) - (k:Int))] W (SumPost W (rt ds (f+k) (n - k))):=fun W hW=>by
   have:=ih (n - k) hfk6.2.2.1 (f+k) W (h.fr0 hW) (hok.fr0 hW) hfk6.2.1 hfk3 ⟨lv,by rw[hp];exact hfk4,by rw[hp,hkp];exact Nat.dvd_add hdf (Nat.dvd_refl p)⟩;rw[Int.natCast_add,Int.natCast_sub hfk6.2.2.2.2.2.2] at this;exact this
  have hND:∀ W,Fr [] w W->Calls prog 150 #[encD (rt ds f k),encD (rt ds (f+k) (n - k))] W (SumPost W (nodeN (rt ds f k) (rt ds (f+k) (n - k)))):=fun W hW=>Node_any _ _ W (hok.fr0 hW) (rt_len hds k f c1 hfk6.1 hfk6.2.2.2.1) (rt_len hds (n - k) (f+k) hfk6.2.1 hfk3 hfk6.2.2.2.2.1);rw[<-hrt] at hND;obtain⟨d,hd⟩:=nmd (rt ds f n);have hd32:d.length=32:=by rw[<-hd];exact rt_len hds n f h1 h2 hfk6.2.2.2.2.2.1
  have hcl:(dCells d).length=32:=by rw[dcells_len,hd32]
  rw[hd] at hND ⊢
  have hne:((n:Int) == (p:Int))=false:=by
   clear hsh hlvw hlv2 he1 he2 b3 hp hle;simp;omega
  have HL:=Hd hL;have HA:=Hd hA;have HBB:=Hd hB;have HND:=Hd hND;have hfk1:0<=(f:Int)+k/\(f:Int)+k<=1048576:=by clear hsh hlvw hlv2 he1 he2 b3 hp hle;omega
  have hfk2:0<=(n:Int) - k/\(n:Int) - k<=1048576:=by clear hsh hlvw hlv2 he1 he2 b3 hp hle;omega
  clear hb hR hf1 hw1 hlv hp b3 he1 hL hA hB hND hd hrt hdf hkp he2 c1 c2 c3 ih h hP
  go_enter func127,ntmps127
  go_upto_region 1 with fail
  rw[HW1.out]
  go_upto_region 2 with (first
  | (go_at_call 172;(with_reducible refine (HB.out _).mono ?_);rintro e w1 ⟨rfl,rfl⟩))
  go_upto_region 4 with fail
  go_upto_region 5 with (first
  | (go_at_call 171;(with_reducible refine (HL.out _).mono ?_);rintro e w1 ⟨rfl,rfl⟩))
  go_wp2_with (first
  | (go_at_call 127;(with_reducible refine (HA.out _ HF1.out).mono ?_);rintro e w2 ⟨rfl,hf2⟩;have HF2:=Hd (HF1.out.then hf2);have HF12:=Hd hf2;clear hf2)
  | (go_at_call 127;(with_reducible refine (HBB.out _ HF2.out).mono ?_);rintro e w3 ⟨rfl,hf3⟩;have HF3:=Hd (HF2.out.then hf3);have HF13:=Hd (HF12.out.then hf3);clear hf3)
  | (go_at_call 150;(with_reducible refine (HND.out _ HF3.out).mono ?_);rintro e w5 ⟨rfl,hf5⟩;unfold encD;have hR5:=rowIs_fr HR.out (HF13.out.then hf5) (by simp);have hst:=store_digest (d:=d) hR5 hd32;have hrd:=row_digest (d:=d) hR5 hd32;obtain⟨w6,hw6⟩:∃ X,w5.setCells w.heap.size 0 (dCells d)=X:=⟨_,rfl⟩;have hf6:Fr [] w w6:=(by rw[<-hw6];exact ((HF3.out.then hf5).setCells (.inr (nlr _)) _ _));rw[hw6] at hst hrd;have HRD:=Hd hrd.1;have HF6:=Hd hf6;clear hw6 hrd hf6 hR5 hf5))
  exact bodyPost_ret (v:=encD d) (results_cell_mid (d:=.array 32 5) (p:=6) (ty:=57) (b:=w.heap.size) (o:=0) rfl rfl HRD.out (by kernel_rfl) rfl (by rw[hcl];rfl)) rfl ⟨rfl,HF6.out⟩
end Go.Proofs.YtlpmiimgacfmkaaGreatDoor
