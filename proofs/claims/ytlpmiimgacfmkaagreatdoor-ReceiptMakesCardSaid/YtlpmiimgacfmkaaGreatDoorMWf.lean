/- depend: Build at any actions. -/
import Derived.Test.YtlpmiimgacfmkaaGreatDoorMWc
set_option linter.all false
namespace Go.Proofs.YtlpmiimgacfmkaaGreatDoor
open Go.Proofs.Tryz
open Go.RowKit
set_option maxRecDepth 100000
set_option maxHeartbeats 16000000
def zeroL (n:Nat):Array Value:=((List.replicate n (LR.mk none 0 [])).map LR.v).toArray
theorem run_makeLG (w:World) (n:Nat) (hn:n<=1000):(Instr.makeSlice 203 (.int .i64 (n:Int)) (.int .i64 (n:Int))).run prog w=.ok (.slice (some ⟨w.heap.size,0,none⟩) n n) (w.alloc (.cells (zeroL n) 61)):=by
 obtain⟨i,hi,hz,hs,hb⟩:=info_linkS;have h:=run_makeSlice (P:=prog) (w:=w) 203 61 i (.slice none 0 0) underlying203 hi hz .i64 .i64 n n (by omega) (by omega) (by rw[hs];omega) (by rw[hb];omega) (by omega)
 have hm:madeCells (Value.slice none 0 0).cells ((n:Int).toNat*1)=(zeroL n):=by
  rw[Nat.mul_one,Int.toNat_natCast];unfold zeroL
  apply Array.ext
  ·simp[madeCells]
  ·intro j h1 h2
   simp[madeCells,LR.v,Nat.mod_one,Value.cells]
 rw[h,hs,hm,Int.toNat_natCast]
theorem rl_zero {w:World} {B n:Nat} (h:BoxN w B 61 (zeroL n)):RL w B (List.replicate n (LR.mk none 0 [])) :=
 ⟨h,fun r hr=>by rw[List.eq_of_mem_replicate hr];exact Own.nil _ _ _,by
  rw[List.pairwise_replicate];exact .inr (by simp[blk])⟩
theorem blsR_zero (n:Nat):blsR (List.replicate n (LR.mk none 0 []))=[]:=by
 unfold blsR;rw[List.flatMap_eq_nil_iff];intro r hr;rw[List.eq_of_mem_replicate hr];rfl
theorem ordB_ok {p:Option ON}:∀ {l:List CH},ordB p l=true->∀ x∈l.map CH.n,checkO x=0:=fun h x hx=>by
 obtain⟨c,hc,rfl⟩:=List.mem_map.1 hx;exact (oneB_of (ordB_all h c hc)).1
theorem ordB_asc:∀ {l:List CH} {p:Option ON},ordB p l=true->AscN (l.map CH.n)
 | [],p,_=>fun i x y hx _=>by simp at hx
 | [c],p,_=>fun i x y hx hy=>by simp at hy
 | c::d::l,p,h=>fun i x y hx hy=>by
  rw[ordB] at h;simp only[Bool.and_eq_true] at h
  rcases i with _ | i
  ·simp only[List.map_cons,List.getElem?_cons_zero,List.getElem?_cons_succ,Option.some.injEq] at hx hy
   subst hx;subst hy;have h2:=h.2.2;rw[ordB] at h2;simp only[Bool.and_eq_true,nextB,decide_eq_true_eq] at h2;have:=tot_cmpO.anti c.n d.n;omega
  ·exact ordB_asc h.2.2 i x y (by simpa using hx) (by simpa using hy)
def wrL (l:List AG) (n:ON):List Nat:=(verL l n).map VX.i
def lkA (l:List AG) (k:Nat):List LK:=match l[k]? with
 | none=>[]
 | some a=>a.r.map fun c=>⟨lastI (wrL (l.take k) c.n),k,c.n⟩
theorem row_split {rs:List LR} {k:Nat} (h:k<rs.length):∃ l1 r l2,rs=l1++r::l2/\l1.length=k/\rs[k]?=some r:=by
 refine⟨rs.take k,rs[k],rs.drop (k+1),?_,by rw[List.length_take];omega,lge h⟩;rw[List.getElem_cons_drop,List.take_append_drop]
theorem row_mid {l1 l2:List LR} {r r' s:LR} {k:Nat} (h:(l1++r'::l2)[k]?=some s):(k=l1.length/\s=r') \/ (k≠l1.length/\(l1++r::l2)[k]?=some s):=by
 rcases Nat.lt_trichotomy k l1.length with hk | hk | hk
 ·rw[List.getElem?_append_left hk] at h ⊢
  exact .inr ⟨by omega,h⟩
 ·subst hk
  simp at h;exact .inl ⟨rfl,h.symm⟩
 ·obtain⟨j,hj⟩:∃ j,k - l1.length=j+1:=⟨k - l1.length - 1,by omega⟩
  rw[List.getElem?_append_right (by omega),hj] at h ⊢;exact .inr ⟨by omega,by simpa using h⟩
theorem rlb_c {w:World} {B k:Nat} {rs:List LR} {r:LR} (h:BoxN w B 61 (rs.map LR.v).toArray) (hr:rs[k]?=some r):w.cell? ⟨B,k,none⟩=some (.slice r.A r.xs.length r.c):=by
 rw[h.c k];simp[hr,LR.v]
theorem verF_len (n:ON):∀ (l:List AG) (i:Nat),(∀ a∈l,a.w.length<=10)->(verF i l n).length<=10*l.length
 | [],i,_=>by simp[verF]
 | a::r,i,h=>by
  rw[verF,lla];have h1:=verF_len n r (i+1) (fun a ha=>h a (by simp[ha]));have h2:=h a (by simp)
  have h3:(verOf i n a.w).length<=a.w.length:=by
   unfold verOf;rw[List.length_map];exact List.length_filter_le _ _
  simp only[List.length_cons];omega
theorem wrL_len {l:List AG} (n:ON) (h:∀ a∈l,a.w.length<=10):(wrL l n).length<=10*l.length:=by
 unfold wrL verL;rw[List.length_map];exact verF_len n l 0 h
theorem wrL_lt {l:List AG} (n:ON):∀ v∈wrL l n,v<l.length:=fun v hv=>by
 unfold wrL verL at hv;obtain⟨x,hx,rfl⟩:=List.mem_map.1 hv;have:=verF_lt n l 0 x hx;omega
theorem lastI_cases (l:List Nat):lastI l=-1 \/ ∃ v∈l,lastI l=(v:Int):=by
 unfold lastI
 cases h:l.getLast? with
 | none=>exact .inl rfl
 | some v=>exact .inr ⟨v,List.mem_of_getLast? h,rfl⟩
structure GG (w:World) (g mw Lk Us n i:Nat) (l:List AG) (K:Option Addr) (kc:Nat) (ks:List Value) (Rl Ru:List LR) (er:List (NE ON Nat)):Prop where
 s:GS w g mw Lk Us n K i kc ks Rl Ru er
 wr:∀ m,getL er m=wrL (l.take i) m
 lk:∀ (k:Nat) (r:LR),Rl[k]?=some r->r.xs=if k<i then lkA l k else []
 us:∀ r∈Ru,r.xs.length<=10*i
theorem DBuild_g (L cL N:Nat) (ys:List AX) (w:World) (hL:ActL w L N ys) (hr:Run ys) :
 Calls prog 45 #[.slice (some ⟨L,0,none⟩) ys.length cL] w fun e w'=>∃ g mw Lk Us K kc ks Rl Ru er,e=.returned (.tuple #[.pointer (some ⟨g,0,none⟩),.int .i64 0])/\GG w' g mw Lk Us ys.length ys.length (ys.map AX.a) K kc ks Rl Ru er/\Fr [] w w':=by
 have HI:=Hd (Increasing_g L cL N ys w hL hr);obtain⟨n,hn⟩:=nmd (ys.length);have hl12:=hr.len;rw[hn] at HI hl12 ⊢;have HP0:=Hd (An hL (An hr hn));have hn1000:n<=1000:=by omega
 have hbig:decide ((65536:Int)<(n:Int))=false:=by simp;omega
 have hbig2:decide (65536<n)=false:=by simp;omega
 clear hL hr hn
 go_enter func45,ntmps45
 go_upto_region 5 with ((go_at_call 101;(with_reducible refine HI.out.mono ?_);rintro e w1 ⟨rfl,hf1⟩;have HF1:=Hd hf1;clear hf1))
 clear hbig hbig2;have hC:Fr [] w w1.drew:=HF1.out.drew;have HSS:=Hd (fun (W:World) (_:Fr [] w W)=>True.intro)
 refine wp_then_via (a:=?aa) (fun a' w'=>∃ A B m gb,a'={ tmps:=(((((((((((Act.tmps ?aa).setIfInBounds 21 (.slice (some ⟨L,0,none⟩) n cL)).setIfInBounds 22 (.int .i64 (n:Int))).setIfInBounds 24 (.slice (some ⟨L,0,none⟩) n cL)).setIfInBounds 25 (.int .i64 (n:Int))).setIfInBounds 23 (.slice (some ⟨A,0,none⟩) n n)).setIfInBounds 26 (.slice (some ⟨B,0,none⟩) n n)).setIfInBounds 27 (.map (some m))).setIfInBounds 28 (.agg #[.slice none 0 0,.slice (some ⟨A,0,none⟩) n n,.slice (some ⟨B,0,none⟩) n n,.map (some m)])).setIfInBounds 29 (.pointer (some ⟨gb,0,none⟩))).setIfInBounds 4 (.pointer (some ⟨gb,0,none⟩))),defers:=[] } /\
  BoxN w' gb 205 #[.slice none 0 0,.slice (some ⟨A,0,none⟩) n n,.slice (some ⟨B,0,none⟩) n n,.map (some m)]/\BoxN w' A 61 (zeroL n)/\BoxN w' B 61 (zeroL n)/\MapIs prog 31 w' m []/\Fr [] w w'/\A≠B/\A≠m/\B≠m/\A<gb/\B<gb/\m<gb/\w.heap.size<=A/\w.heap.size<=B/\w.heap.size<=m) ?_ ?_
 ·skip
  refine wp_region_head (fun W=>Fr [] w W) 9 (by kernel_rfl) ?_ (by decide)
  show headJ 0 _ _ _ _ _ _ _ _ _ _ _
  iterate 2
   refine hdJ (v:=?_) rfl (Or.inl ⟨by rfl,?_⟩) ?_
   rotate_left
   ·intro W hW;obtain _:=HSS.out W hW;go_simp;try with_reducible rfl
   try simp only[Act.put,qA,qB,qC,qD,qE,qF]
  show headJ 3 _ _ _ _ _ _ _ _ _ _ _
  iterate 2
   refine hdJ (v:=?_) rfl (Or.inl ⟨by rfl,?_⟩) ?_
   rotate_left
   ·intro W hW;obtain _:=HSS.out W hW;go_simp;try with_reducible rfl
   try simp only[Act.put,qA,qB,qC,qD,qE,qF]
  have hwz:w.heap.size<=w1.drew.heap.size:=hC.size;obtain⟨V0,hV0⟩:=nmd (w1.drew);rw[hV0] at hC hwz ⊢;clear hV0;refine headI_three (i:=2) (j:=5) (m:=6) (by kernel_rfl) (by decide) (by decide) (by decide) rfl rfl rfl (fun K hK=>?_) (fun K hK=>?_) (fun K hK=>?_)
  ·rw[if_pos (by rfl)]
   have hmk:=run_makeLG V0 n hn1000;go_simp
   obtain⟨V1,hW1,nA,fA⟩:=bxn V0 (zeroL n) 61;have zA:(V1).heap.size=(V0).heap.size+1:=by rw[<-hW1];simp
   rw[hW1];clear hW1 hmk;refine hK _ _ (hC.then fA) ?_;have hC:=hC.then fA;clear hK K
   try simp only[Act.put,qA,qB,qC,qD,qE,qF]
   refine headI_two (i:=5) (j:=6) (by kernel_rfl) (by decide) (by decide) rfl rfl (fun K hK=>?_) (fun K hK=>?_)
   ·rw[if_pos (by rfl)]
    have hmk:=run_makeLG V1 n hn1000;go_simp
    obtain⟨V2,hW1,nB,fB⟩:=bxn V1 (zeroL n) 61;have zB:(V2).heap.size=(V1).heap.size+1:=by rw[<-hW1];simp
    rw[hW1];clear hW1 hmk;refine hK _ _ (hC.then fB) ?_;have hC:=hC.then fB;clear hK K
    try simp only[Act.put,qA,qB,qC,qD,qE,qF]
    refine hO (i:=6) rfl fun K hK=>?_;have hmk:=run_makeMap (V2) 194;go_simp
    obtain⟨V3,hW1⟩:=nmd ((V2).alloc (.map #[] 0));have nM:MapIs prog 31 V3 (V2).heap.size []:=by rw[<-hW1];exact MapIs.new (V2)
    have fM:Fr [] (V2) V3:=by rw[<-hW1];exact (Fq [] (V2)).alloc _
    have zM:(V3).heap.size=(V2).heap.size+1:=by rw[<-hW1];simp
    rw[hW1];clear hW1 hmk;refine hK _ _ (hC.then fM) ?_;have hC:=hC.then fM;clear hK K
    try simp only[Act.put,qA,qB,qC,qD,qE,qF]
    have nA3:BoxN V3 (V0).heap.size 61 (zeroL n):=by first | exact nA | exact nA.fr fB (by simp) | exact nA.fr fM (by simp) | exact (nA.fr fB (by simp)).fr fM (by simp) | exact (nA.fr fM (by simp)).fr fB (by simp)
    have nB3:BoxN V3 (V1).heap.size 61 (zeroL n):=by first | exact nB | exact nB.fr fA (by simp) | exact nB.fr fM (by simp) | exact (nB.fr fA (by simp)).fr fM (by simp) | exact (nB.fr fM (by simp)).fr fA (by simp)
    have nM3:MapIs prog 31 V3 (V2).heap.size []:=by first | exact nM | exact nM.fr fA (by simp) | exact nM.fr fB (by simp) | exact (nM.fr fA (by simp)).fr fB (by simp) | exact (nM.fr fB (by simp)).fr fA (by simp)
    clear nA nB nM
    show headJ 7 _ _ _ _ _ _ _ _ _ _ _
    refine hdJ (v:=?_) rfl (Or.inl ⟨by rfl,?_⟩) ?_
    rotate_left
    ·intro W hW;obtain _:=HSS.out W hW;go_simp;try with_reducible rfl
    try simp only[Act.put,qA,qB,qC,qD,qE,qF]
    refine hO (i:=8) rfl fun K hK=>?_;go_simp
    obtain⟨V4,hV4⟩:=nmd (V3.alloc (.cells #[.slice none 0 0,.slice (some ⟨V0.heap.size,0,none⟩) n n,.slice (some ⟨V0.heap.size+1,0,none⟩) n n,.map (some (V0.heap.size+1+1))] 205));have hz3:V3.heap.size=V0.heap.size+1+1+1:=by omega
    have nG:BoxN V4 (V0.heap.size+1+1+1) 205 #[.slice none 0 0,.slice (some ⟨V0.heap.size,0,none⟩) n n,.slice (some ⟨V0.heap.size+1,0,none⟩) n n,.map (some (V0.heap.size+1+1))]:=by rw[<-hV4,<-hz3];exact BoxN.new V3 _ _
    have f4:Fr [] V3 V4:=by rw[<-hV4];exact (Fq [] V3).alloc _
    rw[hV4];have hC4:=hC.then f4;refine hK _ _ hC4 ?_;clear hK K hV4 hC
    try simp only[Act.put,qA,qB,qC,qD,qE,qF]
    refine headI_done ⟨by kernel_rfl,?_⟩;simp only[qG,qH]
    try simp only[zA,zB,zM] at nA3 nB3 nM3
    go_wp2_with fail
    exact⟨V0.heap.size,V0.heap.size+1,V0.heap.size+1+1,_,rfl,nG,nA3.fr f4 (by simp),nB3.fr f4 (by simp),nM3.fr f4 (by simp),hC4,by omega,by omega,by omega,by omega,by omega,by omega,by omega,by omega,by omega⟩
   ·rw[if_pos (by rfl)]
    have hmk:=run_makeMap (V1) 194;go_simp
    obtain⟨V2,hW1⟩:=nmd ((V1).alloc (.map #[] 0));have nM:MapIs prog 31 V2 (V1).heap.size []:=by rw[<-hW1];exact MapIs.new (V1)
    have fM:Fr [] (V1) V2:=by rw[<-hW1];exact (Fq [] (V1)).alloc _
    have zM:(V2).heap.size=(V1).heap.size+1:=by rw[<-hW1];simp
    rw[hW1];clear hW1 hmk;refine hK _ _ (hC.then fM) ?_;have hC:=hC.then fM;clear hK K
    try simp only[Act.put,qA,qB,qC,qD,qE,qF]
    refine hO (i:=5) rfl fun K hK=>?_;have hmk:=run_makeLG V2 n hn1000;go_simp
    obtain⟨V3,hW1,nB,fB⟩:=bxn V2 (zeroL n) 61;have zB:(V3).heap.size=(V2).heap.size+1:=by rw[<-hW1];simp
    rw[hW1];clear hW1 hmk;refine hK _ _ (hC.then fB) ?_;have hC:=hC.then fB;clear hK K
    try simp only[Act.put,qA,qB,qC,qD,qE,qF]
    have nA3:BoxN V3 (V0).heap.size 61 (zeroL n):=by first | exact nA | exact nA.fr fB (by simp) | exact nA.fr fM (by simp) | exact (nA.fr fB (by simp)).fr fM (by simp) | exact (nA.fr fM (by simp)).fr fB (by simp)
    have nB3:BoxN V3 (V2).heap.size 61 (zeroL n):=by first | exact nB | exact nB.fr fA (by simp) | exact nB.fr fM (by simp) | exact (nB.fr fA (by simp)).fr fM (by simp) | exact (nB.fr fM (by simp)).fr fA (by simp)
    have nM3:MapIs prog 31 V3 (V1).heap.size []:=by first | exact nM | exact nM.fr fA (by simp) | exact nM.fr fB (by simp) | exact (nM.fr fA (by simp)).fr fB (by simp) | exact (nM.fr fB (by simp)).fr fA (by simp)
    clear nA nB nM
    show headJ 7 _ _ _ _ _ _ _ _ _ _ _
    refine hdJ (v:=?_) rfl (Or.inl ⟨by rfl,?_⟩) ?_
    rotate_left
    ·intro W hW;obtain _:=HSS.out W hW;go_simp;try with_reducible rfl
    try simp only[Act.put,qA,qB,qC,qD,qE,qF]
    refine hO (i:=8) rfl fun K hK=>?_;go_simp
    obtain⟨V4,hV4⟩:=nmd (V3.alloc (.cells #[.slice none 0 0,.slice (some ⟨V0.heap.size,0,none⟩) n n,.slice (some ⟨V0.heap.size+1+1,0,none⟩) n n,.map (some (V0.heap.size+1))] 205));have hz3:V3.heap.size=V0.heap.size+1+1+1:=by omega
    have nG:BoxN V4 (V0.heap.size+1+1+1) 205 #[.slice none 0 0,.slice (some ⟨V0.heap.size,0,none⟩) n n,.slice (some ⟨V0.heap.size+1+1,0,none⟩) n n,.map (some (V0.heap.size+1))]:=by rw[<-hV4,<-hz3];exact BoxN.new V3 _ _
    have f4:Fr [] V3 V4:=by rw[<-hV4];exact (Fq [] V3).alloc _
    rw[hV4];have hC4:=hC.then f4;refine hK _ _ hC4 ?_;clear hK K hV4 hC
    try simp only[Act.put,qA,qB,qC,qD,qE,qF]
    refine headI_done ⟨by kernel_rfl,?_⟩;simp only[qG,qH]
    try simp only[zA,zB,zM] at nA3 nB3 nM3
    go_wp2_with fail
    exact⟨V0.heap.size,V0.heap.size+1+1,V0.heap.size+1,_,rfl,nG,nA3.fr f4 (by simp),nB3.fr f4 (by simp),nM3.fr f4 (by simp),hC4,by omega,by omega,by omega,by omega,by omega,by omega,by omega,by omega,by omega⟩
  ·rw[if_pos (by rfl)]
   have hmk:=run_makeLG V0 n hn1000;go_simp
   obtain⟨V1,hW1,nB,fB⟩:=bxn V0 (zeroL n) 61;have zB:(V1).heap.size=(V0).heap.size+1:=by rw[<-hW1];simp
   rw[hW1];clear hW1 hmk;refine hK _ _ (hC.then fB) ?_;have hC:=hC.then fB;clear hK K
   try simp only[Act.put,qA,qB,qC,qD,qE,qF]
   refine headI_two (i:=2) (j:=6) (by kernel_rfl) (by decide) (by decide) rfl rfl (fun K hK=>?_) (fun K hK=>?_)
   ·rw[if_pos (by rfl)]
    have hmk:=run_makeLG V1 n hn1000;go_simp
    obtain⟨V2,hW1,nA,fA⟩:=bxn V1 (zeroL n) 61;have zA:(V2).heap.size=(V1).heap.size+1:=by rw[<-hW1];simp
    rw[hW1];clear hW1 hmk;refine hK _ _ (hC.then fA) ?_;have hC:=hC.then fA;clear hK K
    try simp only[Act.put,qA,qB,qC,qD,qE,qF]
    refine hO (i:=6) rfl fun K hK=>?_;have hmk:=run_makeMap (V2) 194;go_simp
    obtain⟨V3,hW1⟩:=nmd ((V2).alloc (.map #[] 0));have nM:MapIs prog 31 V3 (V2).heap.size []:=by rw[<-hW1];exact MapIs.new (V2)
    have fM:Fr [] (V2) V3:=by rw[<-hW1];exact (Fq [] (V2)).alloc _
    have zM:(V3).heap.size=(V2).heap.size+1:=by rw[<-hW1];simp
    rw[hW1];clear hW1 hmk;refine hK _ _ (hC.then fM) ?_;have hC:=hC.then fM;clear hK K
    try simp only[Act.put,qA,qB,qC,qD,qE,qF]
    have nA3:BoxN V3 (V1).heap.size 61 (zeroL n):=by first | exact nA | exact nA.fr fB (by simp) | exact nA.fr fM (by simp) | exact (nA.fr fB (by simp)).fr fM (by simp) | exact (nA.fr fM (by simp)).fr fB (by simp)
    have nB3:BoxN V3 (V0).heap.size 61 (zeroL n):=by first | exact nB | exact nB.fr fA (by simp) | exact nB.fr fM (by simp) | exact (nB.fr fA (by simp)).fr fM (by simp) | exact (nB.fr fM (by simp)).fr fA (by simp)
    have nM3:MapIs prog 31 V3 (V2).heap.size []:=by first | exact nM | exact nM.fr fA (by simp) | exact nM.fr fB (by simp) | exact (nM.fr fA (by simp)).fr fB (by simp) | exact (nM.fr fB (by simp)).fr fA (by simp)
    clear nA nB nM
    show headJ 7 _ _ _ _ _ _ _ _ _ _ _
    refine hdJ (v:=?_) rfl (Or.inl ⟨by rfl,?_⟩) ?_
    rotate_left
    ·intro W hW;obtain _:=HSS.out W hW;go_simp;try with_reducible rfl
    try simp only[Act.put,qA,qB,qC,qD,qE,qF]
    refine hO (i:=8) rfl fun K hK=>?_;go_simp
    obtain⟨V4,hV4⟩:=nmd (V3.alloc (.cells #[.slice none 0 0,.slice (some ⟨V0.heap.size+1,0,none⟩) n n,.slice (some ⟨V0.heap.size,0,none⟩) n n,.map (some (V0.heap.size+1+1))] 205));have hz3:V3.heap.size=V0.heap.size+1+1+1:=by omega
    have nG:BoxN V4 (V0.heap.size+1+1+1) 205 #[.slice none 0 0,.slice (some ⟨V0.heap.size+1,0,none⟩) n n,.slice (some ⟨V0.heap.size,0,none⟩) n n,.map (some (V0.heap.size+1+1))]:=by rw[<-hV4,<-hz3];exact BoxN.new V3 _ _
    have f4:Fr [] V3 V4:=by rw[<-hV4];exact (Fq [] V3).alloc _
    rw[hV4];have hC4:=hC.then f4;refine hK _ _ hC4 ?_;clear hK K hV4 hC
    try simp only[Act.put,qA,qB,qC,qD,qE,qF]
    refine headI_done ⟨by kernel_rfl,?_⟩;simp only[qG,qH]
    try simp only[zA,zB,zM] at nA3 nB3 nM3
    go_wp2_with fail
    exact⟨V0.heap.size+1,V0.heap.size,V0.heap.size+1+1,_,rfl,nG,nA3.fr f4 (by simp),nB3.fr f4 (by simp),nM3.fr f4 (by simp),hC4,by omega,by omega,by omega,by omega,by omega,by omega,by omega,by omega,by omega⟩
   ·rw[if_pos (by rfl)]
    have hmk:=run_makeMap (V1) 194;go_simp
    obtain⟨V2,hW1⟩:=nmd ((V1).alloc (.map #[] 0));have nM:MapIs prog 31 V2 (V1).heap.size []:=by rw[<-hW1];exact MapIs.new (V1)
    have fM:Fr [] (V1) V2:=by rw[<-hW1];exact (Fq [] (V1)).alloc _
    have zM:(V2).heap.size=(V1).heap.size+1:=by rw[<-hW1];simp
    rw[hW1];clear hW1 hmk;refine hK _ _ (hC.then fM) ?_;have hC:=hC.then fM;clear hK K
    try simp only[Act.put,qA,qB,qC,qD,qE,qF]
    refine hO (i:=2) rfl fun K hK=>?_;have hmk:=run_makeLG V2 n hn1000;go_simp
    obtain⟨V3,hW1,nA,fA⟩:=bxn V2 (zeroL n) 61;have zA:(V3).heap.size=(V2).heap.size+1:=by rw[<-hW1];simp
    rw[hW1];clear hW1 hmk;refine hK _ _ (hC.then fA) ?_;have hC:=hC.then fA;clear hK K
    try simp only[Act.put,qA,qB,qC,qD,qE,qF]
    have nA3:BoxN V3 (V2).heap.size 61 (zeroL n):=by first | exact nA | exact nA.fr fB (by simp) | exact nA.fr fM (by simp) | exact (nA.fr fB (by simp)).fr fM (by simp) | exact (nA.fr fM (by simp)).fr fB (by simp)
    have nB3:BoxN V3 (V0).heap.size 61 (zeroL n):=by first | exact nB | exact nB.fr fA (by simp) | exact nB.fr fM (by simp) | exact (nB.fr fA (by simp)).fr fM (by simp) | exact (nB.fr fM (by simp)).fr fA (by simp)
    have nM3:MapIs prog 31 V3 (V1).heap.size []:=by first | exact nM | exact nM.fr fA (by simp) | exact nM.fr fB (by simp) | exact (nM.fr fA (by simp)).fr fB (by simp) | exact (nM.fr fB (by simp)).fr fA (by simp)
    clear nA nB nM
    show headJ 7 _ _ _ _ _ _ _ _ _ _ _
    refine hdJ (v:=?_) rfl (Or.inl ⟨by rfl,?_⟩) ?_
    rotate_left
    ·intro W hW;obtain _:=HSS.out W hW;go_simp;try with_reducible rfl
    try simp only[Act.put,qA,qB,qC,qD,qE,qF]
    refine hO (i:=8) rfl fun K hK=>?_;go_simp
    obtain⟨V4,hV4⟩:=nmd (V3.alloc (.cells #[.slice none 0 0,.slice (some ⟨V0.heap.size+1+1,0,none⟩) n n,.slice (some ⟨V0.heap.size,0,none⟩) n n,.map (some (V0.heap.size+1))] 205));have hz3:V3.heap.size=V0.heap.size+1+1+1:=by omega
    have nG:BoxN V4 (V0.heap.size+1+1+1) 205 #[.slice none 0 0,.slice (some ⟨V0.heap.size+1+1,0,none⟩) n n,.slice (some ⟨V0.heap.size,0,none⟩) n n,.map (some (V0.heap.size+1))]:=by rw[<-hV4,<-hz3];exact BoxN.new V3 _ _
    have f4:Fr [] V3 V4:=by rw[<-hV4];exact (Fq [] V3).alloc _
    rw[hV4];have hC4:=hC.then f4;refine hK _ _ hC4 ?_;clear hK K hV4 hC
    try simp only[Act.put,qA,qB,qC,qD,qE,qF]
    refine headI_done ⟨by kernel_rfl,?_⟩;simp only[qG,qH]
    try simp only[zA,zB,zM] at nA3 nB3 nM3
    go_wp2_with fail
    exact⟨V0.heap.size+1+1,V0.heap.size,V0.heap.size+1,_,rfl,nG,nA3.fr f4 (by simp),nB3.fr f4 (by simp),nM3.fr f4 (by simp),hC4,by omega,by omega,by omega,by omega,by omega,by omega,by omega,by omega,by omega⟩
  ·rw[if_pos (by rfl)]
   have hmk:=run_makeMap (V0) 194;go_simp
   obtain⟨V1,hW1⟩:=nmd ((V0).alloc (.map #[] 0));have nM:MapIs prog 31 V1 (V0).heap.size []:=by rw[<-hW1];exact MapIs.new (V0)
   have fM:Fr [] (V0) V1:=by rw[<-hW1];exact (Fq [] (V0)).alloc _
   have zM:(V1).heap.size=(V0).heap.size+1:=by rw[<-hW1];simp
   rw[hW1];clear hW1 hmk;refine hK _ _ (hC.then fM) ?_;have hC:=hC.then fM;clear hK K
   try simp only[Act.put,qA,qB,qC,qD,qE,qF]
   refine headI_two (i:=2) (j:=5) (by kernel_rfl) (by decide) (by decide) rfl rfl (fun K hK=>?_) (fun K hK=>?_)
   ·rw[if_pos (by rfl)]
    have hmk:=run_makeLG V1 n hn1000;go_simp
    obtain⟨V2,hW1,nA,fA⟩:=bxn V1 (zeroL n) 61;have zA:(V2).heap.size=(V1).heap.size+1:=by rw[<-hW1];simp
    rw[hW1];clear hW1 hmk;refine hK _ _ (hC.then fA) ?_;have hC:=hC.then fA;clear hK K
    try simp only[Act.put,qA,qB,qC,qD,qE,qF]
    refine hO (i:=5) rfl fun K hK=>?_;have hmk:=run_makeLG V2 n hn1000;go_simp
    obtain⟨V3,hW1,nB,fB⟩:=bxn V2 (zeroL n) 61;have zB:(V3).heap.size=(V2).heap.size+1:=by rw[<-hW1];simp
    rw[hW1];clear hW1 hmk;refine hK _ _ (hC.then fB) ?_;have hC:=hC.then fB;clear hK K
    try simp only[Act.put,qA,qB,qC,qD,qE,qF]
    have nA3:BoxN V3 (V1).heap.size 61 (zeroL n):=by first | exact nA | exact nA.fr fB (by simp) | exact nA.fr fM (by simp) | exact (nA.fr fB (by simp)).fr fM (by simp) | exact (nA.fr fM (by simp)).fr fB (by simp)
    have nB3:BoxN V3 (V2).heap.size 61 (zeroL n):=by first | exact nB | exact nB.fr fA (by simp) | exact nB.fr fM (by simp) | exact (nB.fr fA (by simp)).fr fM (by simp) | exact (nB.fr fM (by simp)).fr fA (by simp)
    have nM3:MapIs prog 31 V3 (V0).heap.size []:=by first | exact nM | exact nM.fr fA (by simp) | exact nM.fr fB (by simp) | exact (nM.fr fA (by simp)).fr fB (by simp) | exact (nM.fr fB (by simp)).fr fA (by simp)
    clear nA nB nM
    show headJ 7 _ _ _ _ _ _ _ _ _ _ _
    refine hdJ (v:=?_) rfl (Or.inl ⟨by rfl,?_⟩) ?_
    rotate_left
    ·intro W hW;obtain _:=HSS.out W hW;go_simp;try with_reducible rfl
    try simp only[Act.put,qA,qB,qC,qD,qE,qF]
    refine hO (i:=8) rfl fun K hK=>?_;go_simp
    obtain⟨V4,hV4⟩:=nmd (V3.alloc (.cells #[.slice none 0 0,.slice (some ⟨V0.heap.size+1,0,none⟩) n n,.slice (some ⟨V0.heap.size+1+1,0,none⟩) n n,.map (some (V0.heap.size))] 205));have hz3:V3.heap.size=V0.heap.size+1+1+1:=by omega
    have nG:BoxN V4 (V0.heap.size+1+1+1) 205 #[.slice none 0 0,.slice (some ⟨V0.heap.size+1,0,none⟩) n n,.slice (some ⟨V0.heap.size+1+1,0,none⟩) n n,.map (some (V0.heap.size))]:=by rw[<-hV4,<-hz3];exact BoxN.new V3 _ _
    have f4:Fr [] V3 V4:=by rw[<-hV4];exact (Fq [] V3).alloc _
    rw[hV4];have hC4:=hC.then f4;refine hK _ _ hC4 ?_;clear hK K hV4 hC
    try simp only[Act.put,qA,qB,qC,qD,qE,qF]
    refine headI_done ⟨by kernel_rfl,?_⟩;simp only[qG,qH]
    try simp only[zA,zB,zM] at nA3 nB3 nM3
    go_wp2_with fail
    exact⟨V0.heap.size+1,V0.heap.size+1+1,V0.heap.size,_,rfl,nG,nA3.fr f4 (by simp),nB3.fr f4 (by simp),nM3.fr f4 (by simp),hC4,by omega,by omega,by omega,by omega,by omega,by omega,by omega,by omega,by omega⟩
   ·rw[if_pos (by rfl)]
    have hmk:=run_makeLG V1 n hn1000;go_simp
    obtain⟨V2,hW1,nB,fB⟩:=bxn V1 (zeroL n) 61;have zB:(V2).heap.size=(V1).heap.size+1:=by rw[<-hW1];simp
    rw[hW1];clear hW1 hmk;refine hK _ _ (hC.then fB) ?_;have hC:=hC.then fB;clear hK K
    try simp only[Act.put,qA,qB,qC,qD,qE,qF]
    refine hO (i:=2) rfl fun K hK=>?_;have hmk:=run_makeLG V2 n hn1000;go_simp
    obtain⟨V3,hW1,nA,fA⟩:=bxn V2 (zeroL n) 61;have zA:(V3).heap.size=(V2).heap.size+1:=by rw[<-hW1];simp
    rw[hW1];clear hW1 hmk;refine hK _ _ (hC.then fA) ?_;have hC:=hC.then fA;clear hK K
    try simp only[Act.put,qA,qB,qC,qD,qE,qF]
    have nA3:BoxN V3 (V2).heap.size 61 (zeroL n):=by first | exact nA | exact nA.fr fB (by simp) | exact nA.fr fM (by simp) | exact (nA.fr fB (by simp)).fr fM (by simp) | exact (nA.fr fM (by simp)).fr fB (by simp)
    have nB3:BoxN V3 (V1).heap.size 61 (zeroL n):=by first | exact nB | exact nB.fr fA (by simp) | exact nB.fr fM (by simp) | exact (nB.fr fA (by simp)).fr fM (by simp) | exact (nB.fr fM (by simp)).fr fA (by simp)
    have nM3:MapIs prog 31 V3 (V0).heap.size []:=by first | exact nM | exact nM.fr fA (by simp) | exact nM.fr fB (by simp) | exact (nM.fr fA (by simp)).fr fB (by simp) | exact (nM.fr fB (by simp)).fr fA (by simp)
    clear nA nB nM
    show headJ 7 _ _ _ _ _ _ _ _ _ _ _
    refine hdJ (v:=?_) rfl (Or.inl ⟨by rfl,?_⟩) ?_
    rotate_left
    ·intro W hW;obtain _:=HSS.out W hW;go_simp;try with_reducible rfl
    try simp only[Act.put,qA,qB,qC,qD,qE,qF]
    refine hO (i:=8) rfl fun K hK=>?_;go_simp
    obtain⟨V4,hV4⟩:=nmd (V3.alloc (.cells #[.slice none 0 0,.slice (some ⟨V0.heap.size+1+1,0,none⟩) n n,.slice (some ⟨V0.heap.size+1,0,none⟩) n n,.map (some (V0.heap.size))] 205));have hz3:V3.heap.size=V0.heap.size+1+1+1:=by omega
    have nG:BoxN V4 (V0.heap.size+1+1+1) 205 #[.slice none 0 0,.slice (some ⟨V0.heap.size+1+1,0,none⟩) n n,.slice (some ⟨V0.heap.size+1,0,none⟩) n n,.map (some (V0.heap.size))]:=by rw[<-hV4,<-hz3];exact BoxN.new V3 _ _
    have f4:Fr [] V3 V4:=by rw[<-hV4];exact (Fq [] V3).alloc _
    rw[hV4];have hC4:=hC.then f4;refine hK _ _ hC4 ?_;clear hK K hV4 hC
    try simp only[Act.put,qA,qB,qC,qD,qE,qF]
    refine headI_done ⟨by kernel_rfl,?_⟩;simp only[qG,qH]
    try simp only[zA,zB,zM] at nA3 nB3 nM3
    go_wp2_with fail
    exact⟨V0.heap.size+1+1,V0.heap.size+1,V0.heap.size,_,rfl,nG,nA3.fr f4 (by simp),nB3.fr f4 (by simp),nM3.fr f4 (by simp),hC4,by omega,by omega,by omega,by omega,by omega,by omega,by omega,by omega,by omega⟩
 rintro a' w2 ⟨A,B,m,g,rfl,hbg,hbA,hbB,hm0,hf2,d1,d2,d3,d4,d5,d6,d7,d8,d9⟩;simp only[qA,qB,qC]
 have hgg:GG w2 g m A B n 0 (ys.map AX.a) none 0 [] (List.replicate n (LR.mk none 0 [])) (List.replicate n (LR.mk none 0 [])) []:=⟨⟨hbg,Own.nil _ _ _,rl_zero hbA,rl_zero hbB,ML.nil hm0,d1,by rw[blsR_zero];simp,by simp⟩,fun k=>by simp[getL,wrL,verL,verF],fun k r hr=>by
  rw[List.eq_of_mem_replicate (lmg hr)];simp,fun r hr=>by
  rw[List.eq_of_mem_replicate hr];simp⟩
 have HG0:=Hd (An hgg (An hf2 (show ∀ k∈GB g m A B none (List.replicate n (LR.mk none 0 [])) (List.replicate n (LR.mk none 0 [])) [],w.heap.size<=k from fun k hk=>by
  simp only[GB,blsR_zero,blk,blsL,List.flatMap_nil,Option.map_none,Option.toList_none,List.append_nil,List.nil_append,List.mem_cons,List.not_mem_nil,or_false] at hk;omega)))
 clear hbg hbA hbB hm0 hf2 d1 d2 d3 d4 d5 d6 d7 d8 d9 HF1 HI HSS hC hgg
 go_wp2_with fail
 go_loopw [32] (fun ix W=>∃ (i:Nat) (KO:Option Addr) (kc:Nat) (ks:List Value) (Rl Ru:List LR) (er:List (NE ON Nat)),i<=n/\ix=.int .i64 (i:Int)/\GG W g m A B n i (ys.map AX.a) KO kc ks Rl Ru er/\Fr [] w W/\∀ k∈GB g m A B KO Rl Ru er,w.heap.size<=k) (fun i _=>n - (intOf i).toNat)
 case atStart=>exact⟨0,none,0,[],_,_,[],Nat.zero_le _,rfl,HG0.out.1,HG0.out.2.1,HG0.out.2.2⟩
 case round =>
  obtain⟨i,KO,kc,ks,Rl,Ru,er,hi,rfl,hgg,hfr,hbk⟩:=hrel;have HG:=Hd (An hgg (An hfr hbk));clear hgg hfr hbk
  by_cases hil:i<n
  ·have hlt3:(i:Int)<(n:Int):=by omega
   obtain⟨x,hx⟩:∃ x,ys[i]?=some x:=⟨_,lge (by rw[HP0.out.2.2];omega)⟩;have hxw:=HP0.out.2.1.wf x (lmg hx);have hLr:=HP0.out.1.fr0 HG.out.2.1;obtain⟨nr,hnr⟩:=nmd (x.a.r.length);obtain⟨nw,hnw⟩:=nmd (x.a.w.length);have y0:wr.cell? ⟨L,i*6,none⟩=some (.int .i64 x.a.k.rnd):=hLr.c hx 0 _ rfl;have y1:wr.cell? ⟨L,i*6+1,none⟩=some (.int .i64 x.a.k.phase):=hLr.c hx 1 _ rfl;have y2:wr.cell? ⟨L,i*6+2,none⟩=some (.int .i64 x.a.k.idx):=hLr.c hx 2 _ rfl;have y3:wr.cell? ⟨L,i*6+3,none⟩=some (.string x.sl):=hLr.c hx 3 _ rfl;have y4:wr.cell? ⟨L,i*6+4,none⟩=some (.slice x.A nr x.c):=by rw[<-hnr];exact hLr.c hx 4 _ rfl
   have y5:wr.cell? ⟨L,i*6+5,none⟩=some (.slice x.B nw x.d):=by rw[<-hnw];exact hLr.c hx 5 _ rfl
   have hnr10:nr<=10:=by omega
   have hnw10:nw<=10:=by omega
   have hwi:IntKind.i64.wrap (i:Int)=(i:Int):=by simp only[IntKind.wrap_i64];omega
   obtain⟨Y0,hY0,hzY,nR,fY⟩:=bxz wr #[.int .i64 x.a.k.rnd,.int .i64 x.a.k.phase,.int .i64 x.a.k.idx,.string x.sl,.slice x.A nr x.c,.slice x.B nw x.d] 91 wr.heap.size;have hgY:=HG.out.1.s.fr0 fY;have HX:=Hd (An hx (An hxw (An (hLr.ok x (lmg hx)) (An hnr hnw))))
   go_upto_region 9 with fail
   try rw[hY0]
   obtain⟨R,hR⟩:=nmd (wr.heap.size);have hRlt:∀ k∈GB g m A B KO Rl Ru er,k<R:=by rw[<-hR];exact HG.out.1.s.lt
   rw[hR] at nR hzY ⊢;have HRX:=Hd nR;have HRL:=Hd hRlt;have HVY:=Hd hgY;have HFY:=Hd (An fY (An hzY hR));clear y0 y1 y2 y3 y4 y5 hY0 nR fY hzY hgY hRlt hR hx hxw hLr hnr hnw;have HSS:=Hd (fun (W:World) (hW:W.cell? ⟨g,0,none⟩=some (.slice KO i kc)/\W.cell? ⟨R,0,none⟩=some (.int .i64 x.a.k.rnd)/\W.cell? ⟨R,1,none⟩=some (.int .i64 x.a.k.phase)/\W.cell? ⟨R,2,none⟩=some (.int .i64 x.a.k.idx)/\W.cell? ⟨R,3,none⟩=some (.string x.sl))=>hW);have hbx:=HVY.out.box;have hrx:=HRX.out;have hC:(fun W:World=>W.cell? ⟨g,0,none⟩=some (.slice KO i kc)/\W.cell? ⟨R,0,none⟩=some (.int .i64 x.a.k.rnd)/\W.cell? ⟨R,1,none⟩=some (.int .i64 x.a.k.phase)/\W.cell? ⟨R,2,none⟩=some (.int .i64 x.a.k.idx)/\W.cell? ⟨R,3,none⟩=some (.string x.sl)) Y0.drew:=⟨hbx.c 0,hrx.c 0,hrx.c 1,hrx.c 2,hrx.c 3⟩;refine wp_region_head (fun W:World=>W.cell? ⟨g,0,none⟩=some (.slice KO i kc)/\W.cell? ⟨R,0,none⟩=some (.int .i64 x.a.k.rnd)/\W.cell? ⟨R,1,none⟩=some (.int .i64 x.a.k.phase)/\W.cell? ⟨R,2,none⟩=some (.int .i64 x.a.k.idx)/\W.cell? ⟨R,3,none⟩=some (.string x.sl)) 11 (by kernel_rfl) ?_ (by decide)
   show headJ 0 _ _ _ _ _ _ _ _ _ _ _
   iterate 7
    refine hdJ (v:=?_) rfl (Or.inl ⟨by rfl,?_⟩) ?_
    rotate_left
    ·intro W hW;obtain⟨x0,k0,k1,k2,k3⟩:=HSS.out W hW;go_simp;try with_reducible rfl
    try simp only[Act.put,qA,qB,qC,qD,qE,qF]
   refine hO (i:=7) rfl fun K hK=>?_;go_simp
   obtain⟨Z1,hZ1,n1,f1⟩:=bxd Y0 #[.int .i64 x.a.k.rnd,.int .i64 x.a.k.phase,.int .i64 x.a.k.idx,.string x.sl] 89;rw[hZ1];have hb1:=hbx.fr f1 (by simp);have hr1:=hrx.fr f1 (by simp);refine hK _ _ ⟨hb1.c 0,hr1.c 0,hr1.c 1,hr1.c 2,hr1.c 3⟩ ?_;clear hK K hZ1 hC
   try simp only[Act.put,qA,qB,qC,qD,qE,qF]
   refine hO (i:=8) rfl fun K hK=>?_;obtain⟨ii,hii,iz0,iz1,iz2⟩:=info_key;have hO1:=HVY.out.own.fr f1 (by simp);refine wp_app (.tmp 41) (.tmp 44) 60 rfl 89 ii _ 4 40 underlying60 hii iz0 iz1 iz2 rfl (by decide) KO i kc ks rfl hO1 ⟨Y0.heap.size,0,none⟩ 1 1 [.int .i64 x.a.k.rnd,.int .i64 x.a.k.phase,.int .i64 x.a.k.idx,.string x.sl] rfl rfl (fun j u hu=>by rw[add_mid',n1.c j];simpa using hu) (by simp[Value.oneCell']) (by unfold maxLen;omega) (by omega) ?_;intro KN cN Z2 ho2 hf2 hK2
   have hgK:g ∉ blk KO:=fun hm=>by
    have:=NoT.own (ts:=[205]) HVY.out.own (by decide) g hm _ _ _ HVY.out.box;simp at this
   have hRK:R ∉ blk KO:=fun hm=>by have h1:=HRL.out R (by simp[GB,hm]);omega
   have hb2:=hb1.fr hf2 hgK;have hr2:=hr1.fr hf2 hRK;have hC:(fun W:World=>W.cell? ⟨g,0,none⟩=some (.slice KO i kc)/\W.cell? ⟨R,0,none⟩=some (.int .i64 x.a.k.rnd)/\W.cell? ⟨R,1,none⟩=some (.int .i64 x.a.k.phase)/\W.cell? ⟨R,2,none⟩=some (.int .i64 x.a.k.idx)/\W.cell? ⟨R,3,none⟩=some (.string x.sl)) Z2:=⟨hb2.c 0,hr2.c 0,hr2.c 1,hr2.c 2,hr2.c 3⟩;refine hK _ _ hC ?_;clear hK K
   try simp only[Act.put,qA,qB,qC,qD,qE,qF]
   show headJ 9 _ _ _ _ _ _ _ _ _ _ _
   iterate 2
    refine hdJ (v:=?_) rfl (Or.inl ⟨by rfl,?_⟩) ?_
    rotate_left
    ·intro W hW;obtain⟨x0,k0,k1,k2,k3⟩:=HSS.out W hW;go_simp;try with_reducible rfl
    try simp only[Act.put,qA,qB,qC,qD,qE,qF]
   refine headI_done ⟨by kernel_rfl,?_⟩;simp only[qG,qH];have q0:=hb2.k0;have q1:=hb2.f 0;have HZ2:=Hd (An ho2 (An hf2 (An hK2 (An hb2 (An hr2 f1)))));clear ho2 hf2 hK2 hb2 hr2 f1 hgK hRK hbx hrx hb1 hr1 n1 hO1 hC HSS iz0 iz1 iz2 hii
   go_upto_region 10 with fail
   obtain⟨Z,hZ⟩:=nmd (Z2.setCell ⟨g,0,none⟩ (.slice KN (i+1) cN));have hbZ:BoxN Z g 205 #[.slice KN (i+1) cN,.slice (some ⟨A,0,none⟩) n n,.slice (some ⟨B,0,none⟩) n n,.map (some m)]:=by rw[<-hZ];exact HZ2.out.2.2.2.1.setAt 0 _
   have fZ:Fr [g] Z2 Z:=by rw[<-hZ];exact (Fq [g] Z2).set (.inl (by simp)) _
   try rw[hZ]
   have hgR:R≠g:=fun h=>by have h1:=HRL.out g (by simp[GB]);omega
   have hrZ:BoxN Z R 91 #[.int .i64 x.a.k.rnd,.int .i64 x.a.k.phase,.int .i64 x.a.k.idx,.string x.sl,.slice x.A nr x.c,.slice x.B nw x.d]:=HZ2.out.2.2.2.2.1.fr fZ (by simpa using hgR);have hGZ:=(HVY.out.fr0 HZ2.out.2.2.2.2.2).putK HZ2.out.2.1 HZ2.out.1 HZ2.out.2.2.1 fZ hbZ;have hYs:=HFY.out.1.size;have hZs:=HZ2.out.2.2.2.2.2.size;have hws:=HG.out.2.1.size;have hfwZ:Fr [] w Z:=((HG.out.2.1.then HFY.out.1).then HZ2.out.2.2.2.2.2).trans (S:=[]) ((HZ2.out.2.1.mono (T:=GB g m A B KO Rl Ru er) (fun k hk=>.inl (by simp[GB,hk]))).trans fZ (by simp[GB])) (fun k hk=>.inr (HG.out.2.2 k hk))
   have hbkZ:∀ k∈GB g m A B KN Rl Ru er,w.heap.size<=k:=fun k hk=>by
    simp only[GB,List.mem_cons,List.mem_append] at hk
    rcases hk with h | h | h | h | h | h
    ·exact HG.out.2.2 k (by simp[GB,h])
    ·exact HG.out.2.2 k (by simp[GB,h])
    ·exact HG.out.2.2 k (by simp[GB,h])
    ·exact HG.out.2.2 k (by simp[GB,h])
    ·rcases HZ2.out.2.2.1 k h with h | h
     ·exact HG.out.2.2 k (by simp[GB,h])
     ·omega
    ·exact HG.out.2.2 k (by simp[GB,h])
   obtain⟨ks2,hks2⟩:=nmd (ks++[.int .i64 x.a.k.rnd,.int .i64 x.a.k.phase,.int .i64 x.a.k.idx,.string x.sl]);rw[hks2] at hGZ;have HVZ:=Hd (An hGZ (An hrZ (An hfwZ hbkZ)));clear hbZ fZ hgR hrZ hGZ hZ q0 q1 HZ2 hYs hZs hws hfwZ hbkZ hks2;have r4:=HVZ.out.2.1.k4
   go_wp2_with fail
   clear r4
   go_loopw [7,51] (fun s ix W=>∃ (j:Nat) (NA:Option Addr) (nc:Nat),j<=nr/\ix=.int .i64 (j:Int)/\s=.slice NA j nc/\Own W 31 5 NA j nc (((x.a.r.take j).map CH.n).flatMap ON.cs)/\Fr [] Z W/\∀ k∈blk NA,Z.heap.size<=k) (fun _ i _=>nr - (intOf i).toNat)
   case atStart=>exact⟨0,none,0,Nat.zero_le _,rfl,rfl,Own.nil _ _ _,Fq _ _,by simp[blk]⟩
   case round =>
    obtain⟨j,NA,nc,hj,rfl,rfl,hno,hfr,hnb⟩:=hrel;have hxw:=(HP0.out.1.ok x (lmg HX.out.1)).fr0 (HVZ.out.2.2.1.then hfr);have HJ:=Hd (An hno (An hfr hnb));clear hno hfr hnb
    by_cases hjl:j<nr
    ·have hlt4:(j:Int)<(nr:Int):=by omega
     have hrow:=hxw.chr;unfold Chs Rd at hrow;rw[HX.out.2.2.2.1] at hrow;obtain⟨bb,off,hB,hbl,hcl⟩:=row_get ch_len hrow (by omega);obtain⟨d,hd⟩:∃ d,x.a.r[j]?=some d:=⟨_,lge (by rw[HX.out.2.2.2.1];exact hjl)⟩;have hcx:=hcl j d hd;obtain⟨so,hso,_,_⟩:=str_of d.n.owner;obtain⟨st,hst,_,_⟩:=str_of d.n.text;obtain⟨sv,hsv,_,_⟩:=str_of d.v;have hnd:d.n.cs=[.int .i64 d.n.kind,.string so,.int .i64 d.n.number,.int .i64 d.n.index,.string st]:=by unfold ON.cs;rw[hso,hst]
     unfold CH.cs at hcx;rw[hso,hst,hsv] at hcx;generalize d.n.kind=k at hcx hnd;generalize d.n.number=nu at hcx hnd;generalize d.n.index=ix at hcx hnd;generalize d.a=ab at hcx;have y0:wr.cell? ⟨bb,off+j*7,none⟩=some (.int .i64 k):=hcx 0 (by omega);have y1:wr.cell? ⟨bb,off+j*7+1,none⟩=some (.string so):=hcx 1 (by omega);have y2:wr.cell? ⟨bb,off+j*7+2,none⟩=some (.int .i64 nu):=hcx 2 (by omega);have y3:wr.cell? ⟨bb,off+j*7+3,none⟩=some (.int .i64 ix):=hcx 3 (by omega);have y4:wr.cell? ⟨bb,off+j*7+4,none⟩=some (.string st):=hcx 4 (by omega);have y5:wr.cell? ⟨bb,off+j*7+5,none⟩=some (.string sv):=hcx 5 (by omega);have y6:wr.cell? ⟨bb,off+j*7+6,none⟩=some (.bool ab):=hcx 6 (by omega);rw[hB];obtain⟨V0,hV0,hz0,n0,f0⟩:=bxz wr #[.int .i64 k,.string so,.int .i64 nu,.int .i64 ix,.string st,.string sv,.bool ab] 95 wr.heap.size;have HF0:=Hd f0;have HND:=Hd (An hd hnd);obtain⟨d0,d1,d2,d3,d4⟩:=n0.m5;clear hcx hcl hrow hxw hd hB hso hst hsv hnd hbl f0 hz0 n0
     go_upto_region 14 with fail
     try rw[hV0]
     clear y0 y1 y2 y3 y4 y5 y6 hV0;obtain⟨ii,hii,iz0,iz1,iz2⟩:=info_name
     go_upto_region 15 with (at_builtin;(with_reducible refine wpList_app_tmp (w:=V0) rfl (.tmp 55) (.tmp 58) 101 rfl 31 ii _ 5 56 underlying101 hii iz0 iz1 iz2 rfl (by decide) NA j nc _ rfl (HJ.out.1.fr HF0.out (by simp)) 1 1 [.int .i64 k,.string so,.int .i64 nu,.int .i64 ix,.string st] 31 rfl rfl (by simp[Value.oneCell']) (by unfold maxLen;omega) (by omega) ?_);intro A2 c2 V2 ho hf hs;have HO:=Hd (An ho (An hf hs));clear ho hf hs)
     clear d0 d1 d2 d3 d4 iz0 iz1 iz2 hii
     go_wp2_with fail
     go_roundw
     case rel =>
      have htk:((x.a.r.take (j+1)).map CH.n).flatMap ON.cs=((x.a.r.take j).map CH.n).flatMap ON.cs++[.int .i64 k,.string so,.int .i64 nu,.int .i64 ix,.string st]:=by
       rw[List.take_add_one,HND.out.1,List.map_append,List.flatMap_append,<-HND.out.2];simp
      have hb:=HF0.out.size;have hb2:=HJ.out.2.1.size;refine⟨j+1,A2,c2,by omega,by go_num,rfl,by rw[htk];exact HO.out.1,(HJ.out.2.1.then HF0.out).trans HO.out.2.1 (fun q hq=>.inr (HJ.out.2.2 q hq)),fun q hq=>?_⟩
      rcases HO.out.2.2 q hq with h | h
      ·exact HJ.out.2.2 q h
      ·omega
     case measure=>simp[intOf];omega
    ·obtain rfl:j=nr:=by omega
     have hls:=wfB_lists HX.out.2.1.1;have hno:=HJ.out.1;rw[List.take_of_length_le (by rw[HX.out.2.2.2.1];omega)] at hno;have HS:=Hd (SortedN_g j nc NA (x.a.r.map CH.n) wr (by rw[List.length_map,HX.out.2.2.2.1]) hno.rd (ordB_ok hls.1) (ordB_asc hls.1) (by omega));clear hls hno
     go_upto_region 17 with ((go_at_call 102;(with_reducible refine HS.out.mono ?_);rintro e Z2 ⟨SA,sc,rfl,hso,hsf,hsb⟩;have HSO:=Hd (An hso (An hsf hsb));clear hso hsf hsb))
     go_loopw [64] (fun ixv W=>∃ (q:Nat) (R1 R2:List LR),q<=j/\ixv=.int .i64 (q:Int)/\GS W g m A B n KN (i+1) cN ks2 R1 R2 er/\BoxN W R 91 #[.int .i64 x.a.k.rnd,.int .i64 x.a.k.phase,.int .i64 x.a.k.idx,.string x.sl,.slice x.A j x.c,.slice x.B nw x.d]/\Fr [] w W/\(∀ k∈GB g m A B KN R1 R2 er,w.heap.size<=k)/\Own W 31 5 SA j sc ((x.a.r.map CH.n).flatMap ON.cs)/\(∀ k r,R1[k]?=some r->r.xs=if k<i then lkA (ys.map AX.a) k else if k=i then (lkA (ys.map AX.a) i).take q else [])/\∀ r∈R2,r.xs.length<=10*i+q) (fun i _=>j - (intOf i).toNat)
     case atStart =>
      have f0:=HJ.out.2.1.then HSO.out.2.1
      exact⟨0,Rl,Ru,Nat.zero_le _,rfl,HVZ.out.1.fr0 f0,HVZ.out.2.1.fr f0 (by simp),HVZ.out.2.2.1.then f0,HVZ.out.2.2.2,HSO.out.1,fun k r hr=>by
       rw[HG.out.1.lk k r hr]
       by_cases hk:k<i
       ·simp[hk]
       ·simp[hk],fun r hr=>by have:=HG.out.1.us r hr;omega⟩
     case round =>
      obtain⟨q,R1,R2,hq,rfl,hgs,hrR,hfw,hgb,hso,hlk,hus⟩:=hrel
      by_cases hql:q<j
      ·have hlt5:(q:Int)<(j:Int):=by omega
       have hwq:IntKind.i64.wrap (q:Int)=(q:Int):=by simp only[IntKind.wrap_i64];omega
       obtain⟨sg,rfl,hsg⟩:=Cs.of_own hso (by omega);obtain⟨d,hd⟩:∃ d,x.a.r[q]?=some d:=⟨_,lge (by rw[HX.out.2.2.2.1];exact hql)⟩;have hdn:(x.a.r.map CH.n)[q]?=some d.n:=by rw[List.getElem?_map,hd];rfl
       have hdo:=ordB_ok (wfB_lists HX.out.2.1.1).1 d.n (lmg hdn);obtain⟨nq,hnq⟩:=nmd (d.n);rw[hnq] at hdn hdo;have hcx:=fun o (ho:o<5)=>flat_at on_len hdn ho;obtain⟨so,hsoo,_,_⟩:=str_of nq.owner;obtain⟨st,hst,_,_⟩:=str_of nq.text;unfold ON.cs at hcx;rw[hsoo,hst] at hcx;have hen:=encO_str hsoo hst;have hlc:∀ f:Int,(LK.mk f i nq).cs=[.int .i64 f,.int .i64 (i:Int),.int .i64 nq.kind,.string so,.int .i64 nq.number,.int .i64 nq.index,.string st]:=fun f=>by unfold LK.cs;rw[hsoo,hst]
       obtain⟨k,hk⟩:=nmd (nq.kind);obtain⟨nu,hnu⟩:=nmd (nq.number);obtain⟨ix,hix⟩:=nmd (nq.index);rw[hk,hnu,hix] at hcx hen;simp only[hk,hnu,hix] at hlc;have y0:wr.cell? ⟨sg,q*5,none⟩=some (.int .i64 k):=hsg.2 _ _ (hcx 0 (by omega));have y1:wr.cell? ⟨sg,q*5+1,none⟩=some (.string so):=hsg.2 _ _ (hcx 1 (by omega));have y2:wr.cell? ⟨sg,q*5+2,none⟩=some (.int .i64 nu):=hsg.2 _ _ (hcx 2 (by omega));have y3:wr.cell? ⟨sg,q*5+3,none⟩=some (.int .i64 ix):=hsg.2 _ _ (hcx 3 (by omega));have y4:wr.cell? ⟨sg,q*5+4,none⟩=some (.string st):=hsg.2 _ _ (hcx 4 (by omega));have HQ:=Hd (An hd (An hnq (An hdo hen)));have HLCS:=Hd hlc;have HR:=Hd (An hgs (An hrR (An hfw (An hgb (An hso (An hlk hus))))));clear hd hdn hdo hnq hcx hsoo hst hen hlc hk hnu hix hgs hrR hfw hgb hso hlk hus hsg;obtain⟨D4,hD4,hz4,n4,f4⟩:=bxz wr #[.int .i64 k,.string so,.int .i64 nu,.int .i64 ix,.string st] 31 wr.heap.size
       go_upto_region 19 with fail
       try rw[hD4]
       obtain⟨NB,hNB⟩:=nmd (wr.heap.size);rw[hNB] at n4 hz4 ⊢;have HN4:=Hd n4;have HF4:=Hd (An f4 (An hz4 hNB));have HG4:=Hd (HR.out.1.fr0 f4);clear y0 y1 y2 y3 y4 n4 f4 hz4 hD4 hNB;obtain⟨fq,hfq⟩:=nmd (lastI (wrL ((ys.map AX.a).take i) nq))
       have hwl10:∀ a∈(ys.map AX.a).take i,a.w.length<=10:=fun a ha=>by
        obtain⟨y,hy,rfl⟩:=List.mem_map.1 (List.mem_of_mem_take ha);exact (HP0.out.2.1.wf y hy).2.2.2
       have htl:((ys.map AX.a).take i).length<=i:=by rw[List.length_take];omega
       have hWr:∀ W,Fr [] D4 W->Calls prog 104 #[.pointer (some ⟨g,0,none⟩),.agg #[.int .i64 k,.string so,.int .i64 nu,.int .i64 ix,.string st],.int .i64 (i:Int)] W (RetPost W (.int .i64 fq)):=fun W hW=>by
        have h:=Writer_g g m _ _ _ er nq (i:Int) W (HG4.out.fr0 hW).box (HG4.out.fr0 hW).wm HQ.out.2.2.1 (fun v hv=>by rw[HG.out.1.wr] at hv;have:=wrL_lt nq v hv;omega) (by rw[HG.out.1.wr];have:=wrL_len nq hwl10;omega);rw[HG.out.1.wr,hfq,HQ.out.2.2.2] at h;exact h
       have hfc:fq=-1 \/ ∃ v:Nat,v<i/\fq=(v:Int):=by
        rcases lastI_cases (wrL ((ys.map AX.a).take i) nq) with h | ⟨v,hv,h⟩
        ·exact .inl (by rw[<-hfq];exact h)
        ·exact .inr ⟨v,by have:=wrL_lt nq v hv;omega,by rw[<-hfq];exact h⟩
       have HWR:=Hd hWr;have HFQ:=Hd hfq;have HSS:=Hd (fun (W:World) (hW:Fr [] D4 W)=>(show W.cell? ⟨NB,0,none⟩=some (.int .i64 k)/\W.cell? ⟨NB,1,none⟩=some (.string so)/\W.cell? ⟨NB,2,none⟩=some (.int .i64 nu)/\W.cell? ⟨NB,3,none⟩=some (.int .i64 ix)/\W.cell? ⟨NB,4,none⟩=some (.string st) from ⟨(HN4.out.fr hW (by simp)).c 0,(HN4.out.fr hW (by simp)).c 1,(HN4.out.fr hW (by simp)).c 2,(HN4.out.fr hW (by simp)).c 3,(HN4.out.fr hW (by simp)).c 4⟩));clear hWr hfq hwl10 htl;have hC:Fr [] D4 D4.drew:=(Fq _ D4).drew;refine wp_then_via (a:=?bb) (fun a' W'=>∃ D,a'={ tmps:=((((((((Act.tmps ?bb).setIfInBounds 68 (.pointer (some ⟨g,0,none⟩))).setIfInBounds 69 (.agg #[.int .i64 k,.string so,.int .i64 nu,.int .i64 ix,.string st])).setIfInBounds 70 (.int .i64 (i:Int))).setIfInBounds 71 (.int .i64 fq)).setIfInBounds 72 (.int .i64 (i:Int))).setIfInBounds 73 (.agg #[.int .i64 k,.string so,.int .i64 nu,.int .i64 ix,.string st])).setIfInBounds 74 (.agg #[.int .i64 fq,.int .i64 (i:Int),.int .i64 k,.string so,.int .i64 nu,.int .i64 ix,.string st])).setIfInBounds 12 (.pointer (some ⟨D,0,none⟩)),defers:=[] }/\BoxN W' D 98 #[.int .i64 fq,.int .i64 (i:Int),.int .i64 k,.string so,.int .i64 nu,.int .i64 ix,.string st]/\Fr [] D4 W'/\D4.heap.size<=D) ?_ ?_
       ·refine wp_region_head (fun W=>Fr [] D4 W) 8 (by kernel_rfl) ?_ (by decide)
        show headJ 0 _ _ _ _ _ _ _ _ _ _ _
        iterate 3
         refine hdJ (v:=?_) rfl (Or.inl ⟨by rfl,?_⟩) ?_
         rotate_left
         ·intro W hW;obtain⟨y0,y1,y2,y3,y4⟩:=HSS.out W hW;go_simp;try with_reducible rfl
         try simp only[Act.put,qA,qB,qC,qD,qE,qF]
        show headJ 4 _ _ _ _ _ _ _ _ _ _ _
        iterate 2
         refine hdJ (v:=?_) rfl (Or.inl ⟨by rfl,?_⟩) ?_
         rotate_left
         ·intro W hW;obtain⟨y0,y1,y2,y3,y4⟩:=HSS.out W hW;go_simp;try with_reducible rfl
         try simp only[Act.put,qA,qB,qC,qD,qE,qF]
        refine headI_two (i:=3) (j:=7) (by kernel_rfl) (by decide) (by decide) rfl rfl (fun K hK=>?_) (fun K hK=>?_)
        ·rw[if_pos (by rfl)]
         go_simp
         go_at_call 104
         (with_reducible refine (HWR.out _ hC).mono ?_);rintro e E1 ⟨rfl,hf⟩;have hC1:=hC.then hf;refine hK _ _ hC1 ?_;clear hK K hC hf
         try simp only[Act.put,qA,qB,qC,qD,qE,qF]
         have hC:=hC1
         show headJ 6 _ _ _ _ _ _ _ _ _ _ _
         refine hdJ (v:=?_) rfl (Or.inl ⟨by rfl,?_⟩) ?_
         rotate_left
         ·intro W hW;obtain⟨y0,y1,y2,y3,y4⟩:=HSS.out W hW;go_simp;try with_reducible rfl
         try simp only[Act.put,qA,qB,qC,qD,qE,qF]
         refine hO (i:=7) rfl fun K hK=>?_;go_simp
         obtain⟨E2,hE2,n2,f2⟩:=bxn E1 #[.int .i64 0,.int .i64 0,.int .i64 0,.string ⟨#[]⟩,.int .i64 0,.int .i64 0,.string ⟨#[]⟩] 98;have hC2:=hC1.then f2;have hD:D4.heap.size<=E1.heap.size:=hC1.size;rw[hE2];refine hK _ _ hC2 ?_;clear hK K hE2 hC hC1 f2
         try simp only[Act.put,qA,qB,qC,qD,qE,qF]
         refine headI_done ⟨by kernel_rfl,?_⟩;simp only[qG,qH];obtain⟨u0,u1,u2,u3,u4,u5,u6⟩:=n2.m7;have v0:=n2.f 0;have v1:=n2.f 1;have v2:=n2.f 2;have v3:=n2.f 3;have v4:=n2.f 4;have v5:=n2.f 5;have v6:=n2.f 6
         go_wp2_with fail
         exact⟨_,rfl,((((((n2.setAt 0 _).setAt 1 _).setAt 2 _).setAt 3 _).setAt 4 _).setAt 5 _).setAt 6 _,((((((hC2.set (.inr hD) _).set (.inr hD) _).set (.inr hD) _).set (.inr hD) _).set (.inr hD) _).set (.inr hD) _).set (.inr hD) _,hD⟩
        ·rw[if_pos (by rfl)]
         go_simp
         obtain⟨E1,hE1,n1,hC1⟩:=bxd D4 #[.int .i64 0,.int .i64 0,.int .i64 0,.string ⟨#[]⟩,.int .i64 0,.int .i64 0,.string ⟨#[]⟩] 98;rw[hE1];refine hK _ _ hC1 ?_;clear hK K hE1 hC
         try simp only[Act.put,qA,qB,qC,qD,qE,qF]
         refine hO (i:=3) rfl fun K hK=>?_;go_simp
         go_at_call 104
         (with_reducible refine (HWR.out _ hC1).mono ?_);rintro e E2 ⟨rfl,hf⟩;have hC2:=hC1.then hf;have n2:=n1.fr hf (by simp);have hD:D4.heap.size<=D4.heap.size:=nlr _;refine hK _ _ hC2 ?_;clear hK K hC1 hf n1
         try simp only[Act.put,qA,qB,qC,qD,qE,qF]
         have hC:=hC2
         show headJ 6 _ _ _ _ _ _ _ _ _ _ _
         refine hdJ (v:=?_) rfl (Or.inl ⟨by rfl,?_⟩) ?_
         rotate_left
         ·intro W hW;obtain⟨y0,y1,y2,y3,y4⟩:=HSS.out W hW;go_simp;try with_reducible rfl
         try simp only[Act.put,qA,qB,qC,qD,qE,qF]
         refine headI_done ⟨by kernel_rfl,?_⟩;simp only[qG,qH];obtain⟨u0,u1,u2,u3,u4,u5,u6⟩:=n2.m7;have v0:=n2.f 0;have v1:=n2.f 1;have v2:=n2.f 2;have v3:=n2.f 3;have v4:=n2.f 4;have v5:=n2.f 5;have v6:=n2.f 6
         go_wp2_with fail
         exact⟨_,rfl,((((((n2.setAt 0 _).setAt 1 _).setAt 2 _).setAt 3 _).setAt 4 _).setAt 5 _).setAt 6 _,((((((hC2.set (.inr hD) _).set (.inr hD) _).set (.inr hD) _).set (.inr hD) _).set (.inr hD) _).set (.inr hD) _).set (.inr hD) _,hD⟩
       rintro a' E ⟨D,rfl,hDb,hfE,hDs⟩;simp only[qA,qB,qC];have HGE:=Hd (HG4.out.fr0 hfE);have hlt4:=HG4.out.lt;have HDE:=Hd (An hDb (show ∀ y∈GB g m A B KN R1 R2 er,y≠D from fun y hy e=>by have:=hlt4 y hy;omega));have HFE:=Hd (HF4.out.1.then hfE);have HLC:=Hd (HLCS.out fq);clear hC HSS HWR HG4 HN4 hDb hfE hDs hlt4
       go_upto_region 20 with fail
       obtain⟨la1,ra,la2,hR1,hlla1,hri⟩:=row_split (rs:=R1) (k:=i) (by rw[HGE.out.ln.1];omega);have hrr:ra∈R1:=lmg hri;have hrx:Own E 98 7 ra.A ra.xs.length ra.c (ra.xs.flatMap LK.cs):=HGE.out.rl.own ra hrr;have hbx:=HGE.out.box;have hrb:=HGE.out.rl.box;have hdx:=HDE.out.1;have hln:ra.xs.length<=1000:=by rw[HR.out.2.2.2.2.2.1 i ra hri,if_neg (Nat.lt_irrefl i),if_pos rfl,List.length_take];omega
       have hgr:g ∉ blk ra.A:=fun hm=>by
        have:=NoT.own (ts:=[205]) hrx (by decide) g hm _ _ _ hbx;simp at this
       have hBr:A ∉ blk ra.A:=fun hm=>HGE.out.rl.nB (List.mem_flatMap.2 ⟨ra,hrr,hm⟩);have hDr:D ∉ blk ra.A:=fun hm=>HDE.out.2 D (by simp only[GB,List.mem_cons,List.mem_append];exact .inr (.inr (.inr (.inr (.inr (.inl (List.mem_flatMap.2 ⟨ra,hrr,hm⟩))))))) rfl;have HRI:=Hd (An hri (An hR1 (An hlla1 hrr)));have HSS:=Hd (fun (W:World) (hW:W.cell? ⟨g,1,none⟩=some (.slice (some ⟨A,0,none⟩) n n)/\W.cell? ⟨A,i,none⟩=some (.slice ra.A ra.xs.length ra.c)/\W.cell? ⟨D,0,none⟩=some (.int .i64 fq)/\W.cell? ⟨D,1,none⟩=some (.int .i64 (i:Int))/\W.cell? ⟨D,2,none⟩=some (.int .i64 k)/\W.cell? ⟨D,3,none⟩=some (.string so)/\W.cell? ⟨D,4,none⟩=some (.int .i64 nu)/\W.cell? ⟨D,5,none⟩=some (.int .i64 ix)/\W.cell? ⟨D,6,none⟩=some (.string st))=>hW);have hC:(fun W:World=>W.cell? ⟨g,1,none⟩=some (.slice (some ⟨A,0,none⟩) n n)/\W.cell? ⟨A,i,none⟩=some (.slice ra.A ra.xs.length ra.c)/\W.cell? ⟨D,0,none⟩=some (.int .i64 fq)/\W.cell? ⟨D,1,none⟩=some (.int .i64 (i:Int))/\W.cell? ⟨D,2,none⟩=some (.int .i64 k)/\W.cell? ⟨D,3,none⟩=some (.string so)/\W.cell? ⟨D,4,none⟩=some (.int .i64 nu)/\W.cell? ⟨D,5,none⟩=some (.int .i64 ix)/\W.cell? ⟨D,6,none⟩=some (.string st)) E.drew:=⟨hbx.c 1,rlb_c hrb hri,hdx.c 0,hdx.c 1,hdx.c 2,hdx.c 3,hdx.c 4,hdx.c 5,hdx.c 6⟩;refine wp_region_head (fun W:World=>W.cell? ⟨g,1,none⟩=some (.slice (some ⟨A,0,none⟩) n n)/\W.cell? ⟨A,i,none⟩=some (.slice ra.A ra.xs.length ra.c)/\W.cell? ⟨D,0,none⟩=some (.int .i64 fq)/\W.cell? ⟨D,1,none⟩=some (.int .i64 (i:Int))/\W.cell? ⟨D,2,none⟩=some (.int .i64 k)/\W.cell? ⟨D,3,none⟩=some (.string so)/\W.cell? ⟨D,4,none⟩=some (.int .i64 nu)/\W.cell? ⟨D,5,none⟩=some (.int .i64 ix)/\W.cell? ⟨D,6,none⟩=some (.string st)) 16 (by kernel_rfl) ?_ (by decide)
       show headJ 0 _ _ _ _ _ _ _ _ _ _ _
       iterate 13
        refine hdJ (v:=?_) rfl (Or.inl ⟨by rfl,?_⟩) ?_
        rotate_left
        ·intro W hW;obtain⟨gf,al,e0,e1,e2,e3,e4,e5,e6⟩:=HSS.out W hW;go_simp;try with_reducible rfl
        try simp only[Act.put,qA,qB,qC,qD,qE,qF]
       refine hO (i:=13) rfl fun K hK=>?_;go_simp
       obtain⟨G1,hG1,n1,f1⟩:=bxd E #[.int .i64 fq,.int .i64 (i:Int),.int .i64 k,.string so,.int .i64 nu,.int .i64 ix,.string st] 98;rw[hG1];have hbx1:=hbx.fr f1 (by simp);have hrb1:=hrb.fr f1 (by simp);have hdx1:=hdx.fr f1 (by simp);refine hK _ _ ⟨hbx1.c 1,rlb_c hrb1 hri,hdx1.c 0,hdx1.c 1,hdx1.c 2,hdx1.c 3,hdx1.c 4,hdx1.c 5,hdx1.c 6⟩ ?_;clear hK K hG1 hC
       try simp only[Act.put,qA,qB,qC,qD,qE,qF]
       refine hO (i:=14) rfl fun K hK=>?_;obtain⟨ii,hii,iz0,iz1,iz2⟩:=info_link;refine wp_app (.tmp 86) (.tmp 88) 61 rfl 98 ii _ 7 72 underlying61 hii iz0 iz1 iz2 rfl (by decide) ra.A ra.xs.length ra.c (ra.xs.flatMap LK.cs) rfl (hrx.fr f1 (by simp)) ⟨E.heap.size,0,none⟩ 1 1 [.int .i64 fq,.int .i64 (i:Int),.int .i64 k,.string so,.int .i64 nu,.int .i64 ix,.string st] rfl rfl (fun j u hu=>by rw[add_mid',n1.c j];simpa using hu) (by simp[Value.oneCell']) (by unfold maxLen;omega) (by omega) ?_;intro LA lc G2 ho2 hf2 hA2;have hbx2:=hbx1.fr hf2 hgr;have hrb2:=hrb1.fr hf2 hBr;have hdx2:=hdx1.fr hf2 hDr;have hC:(fun W:World=>W.cell? ⟨g,1,none⟩=some (.slice (some ⟨A,0,none⟩) n n)/\W.cell? ⟨A,i,none⟩=some (.slice ra.A ra.xs.length ra.c)/\W.cell? ⟨D,0,none⟩=some (.int .i64 fq)/\W.cell? ⟨D,1,none⟩=some (.int .i64 (i:Int))/\W.cell? ⟨D,2,none⟩=some (.int .i64 k)/\W.cell? ⟨D,3,none⟩=some (.string so)/\W.cell? ⟨D,4,none⟩=some (.int .i64 nu)/\W.cell? ⟨D,5,none⟩=some (.int .i64 ix)/\W.cell? ⟨D,6,none⟩=some (.string st)) G2:=⟨hbx2.c 1,rlb_c hrb2 hri,hdx2.c 0,hdx2.c 1,hdx2.c 2,hdx2.c 3,hdx2.c 4,hdx2.c 5,hdx2.c 6⟩;refine hK _ _ hC ?_;clear hK K
       try simp only[Act.put,qA,qB,qC,qD,qE,qF]
       show headJ 15 _ _ _ _ _ _ _ _ _ _ _
       refine hdJ (v:=?_) rfl (Or.inl ⟨by rfl,?_⟩) ?_
       rotate_left
       ·intro W hW;obtain⟨gf,al,e0,e1,e2,e3,e4,e5,e6⟩:=HSS.out W hW;go_simp;try with_reducible rfl
       try simp only[Act.put,qA,qB,qC,qD,qE,qF]
       refine headI_done ⟨by kernel_rfl,?_⟩;simp only[qG,qH];have q0:G2.cell? ⟨A,i,none⟩=some (.slice ra.A ra.xs.length ra.c):=rlb_c hrb2 hri;have q1:=hrb2.f i;have hA3:∀ y∈blk LA,y∈blk ra.A \/ E.heap.size<=y:=fun y hy=>(hA2 y hy).imp id (fun h=>Nat.le_trans f1.size h);have HPP:=Hd (An ho2 (An hA3 (An ((f1.mono (by simp)).then hf2:Fr (blk ra.A) E G2) hdx2)));have HDR:=Hd hDr;clear hri hrr hrx hbx hrb hdx hln hgr hBr hDr hR1 hlla1 hC n1 f1 hbx1 hrb1 hdx1 ho2 hf2 hA2 hA3 hbx2 hrb2 hdx2 HSS iz0 iz1 iz2 hii
       go_upto_region 21 with fail
       obtain⟨E2,hEN⟩:=nmd (G2.setCell ⟨A,i,none⟩ (.slice LA (ra.xs.length+1) lc));have hl0:=HGE.out.rl;rw[HRI.out.2.1] at hl0;have ho3:=HPP.out.1;rw[<-HLC.out] at ho3;have hput:=RL.put (w2:=E2) (x:=LK.mk fq i nq) hl0 HPP.out.2.2.1 ho3 HPP.out.2.1 (by simp only[HRI.out.2.2.1];exact hEN);obtain⟨R3,hR3⟩:=nmd (la1++LR.mk LA lc (ra.xs++[LK.mk fq i nq])::la2);rw[hR3] at hput
       have hlen:R3.length=n:=by
        have h1:=HGE.out.ln.1;rw[HRI.out.2.1] at h1;rw[<-hR3];simpa using h1
       have hgs:=HGE.out.putL hput.2.1 HRI.out.2.2.2 hput.1 (by rw[<-HRI.out.2.1] at hput;exact hput.2.2) hlen;have hDB:D≠A:=fun e=>HDE.out.2 D (by simp[GB,e]) rfl;have hDN:BoxN E2 D 98 #[.int .i64 fq,.int .i64 (i:Int),.int .i64 k,.string so,.int .i64 nu,.int .i64 ix,.string st]:=HDE.out.1.fr hput.2.1 (by simp only[List.mem_cons,not_or];exact⟨hDB,HDR.out⟩);have hsz:=hput.2.1.size;have HGF:=Hd (An hgs (An hput.2.1 (An hput.2.2 (An hR3 hDN))));have HRIla1:=Hd (An HRI.out HPP.out.2.1)
       try rw[hEN]
       clear hEN hl0 ho3 hput hlen hgs hDB hDN hsz hR3 HPP HRI HDR q0 q1;have HGG:=Hd HGF.out.1;have hDl:=HDE.out.1.lt
       have hD3:∀ y∈GB g m A B KN R3 R2 er,y≠D:=fun y hy e=>by
        simp only[GB,List.mem_cons,List.mem_append] at hy
        rcases hy with h | h | h | h | h | h | h | h
        ·exact HDE.out.2 y (by simp[GB,h]) e
        ·exact HDE.out.2 y (by simp[GB,h]) e
        ·exact HDE.out.2 y (by simp[GB,h]) e
        ·exact HDE.out.2 y (by simp[GB,h]) e
        ·exact HDE.out.2 y (by simp[GB,h]) e
        ·rcases HGF.out.2.2.1 y h with h2 | h2
         ·rw[<-HRIla1.out.1.2.1] at h2
          exact HDE.out.2 y (by simp[GB,h2]) e
         ·omega
        ·exact HDE.out.2 y (by simp[GB,h]) e
        ·exact HDE.out.2 y (by simp[GB,h]) e
       have hgb3:∀ y∈GB g m A B KN R3 R2 er,w.heap.size<=y:=fun y hy=>by
        simp only[GB,List.mem_cons,List.mem_append] at hy;have hs1:=HR.out.2.2.1.size;have hs2:=HFE.out.size
        rcases hy with h | h | h | h | h | h | h | h
        ·exact HR.out.2.2.2.1 y (by simp[GB,h])
        ·exact HR.out.2.2.2.1 y (by simp[GB,h])
        ·exact HR.out.2.2.2.1 y (by simp[GB,h])
        ·exact HR.out.2.2.2.1 y (by simp[GB,h])
        ·exact HR.out.2.2.2.1 y (by simp[GB,h])
        ·rcases HGF.out.2.2.1 y h with h2 | h2
         ·rw[<-HRIla1.out.1.2.1] at h2
          exact HR.out.2.2.2.1 y (by simp[GB,h2])
         ·omega
        ·exact HR.out.2.2.2.1 y (by simp[GB,h])
        ·exact HR.out.2.2.2.1 y (by simp[GB,h])
       have hfr3:Fr (GB g m A B KN R1 R2 er) wr E2:=(HFE.out.mono (by simp)).trans HGF.out.2.1 (fun y hy=>.inl (by
        rcases List.mem_cons.1 hy with h | h
        ·simp[GB,h]
        ·have:y∈blsR R1:=List.mem_flatMap.2 ⟨ra,HRIla1.out.1.2.2.2,h⟩
         simp[GB,this]))
       have hrR3:=HR.out.2.1.frT hfr3 HR.out.1.noS (by simp);have hso3:=Own.frT HR.out.2.2.2.2.1 hfr3 (HR.out.1.noT (ts:=[31]) (by decide) (by decide) (by decide) (by decide) (by decide)) (by simp);have hfw3:Fr [] w E2:=HR.out.2.2.1.trans hfr3 (fun y hy=>.inr (HR.out.2.2.2.1 y hy))
       have hli:(lkA (ys.map AX.a) i).take (q+1)=(lkA (ys.map AX.a) i).take q++[LK.mk fq i nq]:=by
        have h1:(ys.map AX.a)[i]?=some x.a:=by rw[List.getElem?_map,HX.out.1];rfl
        have h2:lkA (ys.map AX.a) i=x.a.r.map fun c=>⟨lastI (wrL ((ys.map AX.a).take i) c.n),i,c.n⟩:=by unfold lkA;rw[h1]
        rw[List.take_add_one,h2,List.getElem?_map,HQ.out.1];simp[HQ.out.2.1,HFQ.out]
       have hlk3:∀ k r,R3[k]?=some r->r.xs=if k<i then lkA (ys.map AX.a) k else if k=i then (lkA (ys.map AX.a) i).take (q+1) else []:=fun k r hr=>by
        rw[<-HGF.out.2.2.2.1] at hr
        rcases row_mid (r:=ra) hr with ⟨hk,hr⟩ | ⟨hk,hr⟩
        ·rw[HRIla1.out.1.2.2.1] at hk
         subst hk;rw[hr,if_neg (Nat.lt_irrefl k),if_pos rfl,hli,HR.out.2.2.2.2.2.1 k ra HRIla1.out.1.1,if_neg (Nat.lt_irrefl k),if_pos rfl]
        ·rw[HRIla1.out.1.2.2.1] at hk
         rw[<-HRIla1.out.1.2.1] at hr;rw[HR.out.2.2.2.2.2.1 k r hr,if_neg hk,if_neg hk]
       have H3:=Hd (An hrR3 (An hfw3 (An hgb3 (An hso3 (An hlk3 hD3)))));clear hrR3 hfw3 hgb3 hso3 hlk3 hli hfr3 hDl hD3;have l0:=HGF.out.2.2.2.2.k0
       rcases hfc with rfl | ⟨v,hvi,rfl⟩
       ·go_wp2_with fail
        go_roundw
        case rel=>exact⟨q+1,R3,R2,by omega,by go_num,HGF.out.1,H3.out.1,H3.out.2.1,H3.out.2.2.1,H3.out.2.2.2.1,H3.out.2.2.2.2.1,fun r hr=>by have:=HR.out.2.2.2.2.2.2 r hr;omega⟩
        case measure=>simp[intOf];omega
       ·have hv0:(0:Int)<=(v:Int):=by omega
        have hwv:IntKind.i64.wrap (v:Int)=(v:Int):=by simp only[IntKind.wrap_i64];omega
        have hlt6:(v:Int)<(n:Int):=by omega
        clear HDE;have HDE:=Hd (An HGF.out.2.2.2.2 H3.out.2.2.2.2.2)
        go_upto_region 22 with fail
        clear l0;obtain⟨lb1,rb,lb2,hR2,hllb1,hri⟩:=row_split (rs:=R2) (k:=v) (by rw[HGG.out.ln.2];omega);have hrr:rb∈R2:=lmg hri;have hrx:Own E2 98 7 rb.A rb.xs.length rb.c (rb.xs.flatMap LK.cs):=HGG.out.ru.own rb hrr;have hbx:=HGG.out.box;have hrb:=HGG.out.ru.box;have hdx:=HDE.out.1;have hln:rb.xs.length<=1000:=by have:=HR.out.2.2.2.2.2.2 rb hrr;omega
        have hgr:g ∉ blk rb.A:=fun hm=>by
         have:=NoT.own (ts:=[205]) hrx (by decide) g hm _ _ _ hbx;simp at this
        have hBr:B ∉ blk rb.A:=fun hm=>HGG.out.ru.nB (List.mem_flatMap.2 ⟨rb,hrr,hm⟩);have hDr:D ∉ blk rb.A:=fun hm=>HDE.out.2 D (by simp only[GB,List.mem_cons,List.mem_append];exact .inr (.inr (.inr (.inr (.inr (.inr (.inl (List.mem_flatMap.2 ⟨rb,hrr,hm⟩)))))))) rfl;have HRI:=Hd (An hri (An hR2 (An hllb1 hrr)));have HSS:=Hd (fun (W:World) (hW:W.cell? ⟨g,2,none⟩=some (.slice (some ⟨B,0,none⟩) n n)/\W.cell? ⟨B,v,none⟩=some (.slice rb.A rb.xs.length rb.c)/\W.cell? ⟨D,0,none⟩=some (.int .i64 (v:Int))/\W.cell? ⟨D,1,none⟩=some (.int .i64 (i:Int))/\W.cell? ⟨D,2,none⟩=some (.int .i64 k)/\W.cell? ⟨D,3,none⟩=some (.string so)/\W.cell? ⟨D,4,none⟩=some (.int .i64 nu)/\W.cell? ⟨D,5,none⟩=some (.int .i64 ix)/\W.cell? ⟨D,6,none⟩=some (.string st))=>hW);have hC:(fun W:World=>W.cell? ⟨g,2,none⟩=some (.slice (some ⟨B,0,none⟩) n n)/\W.cell? ⟨B,v,none⟩=some (.slice rb.A rb.xs.length rb.c)/\W.cell? ⟨D,0,none⟩=some (.int .i64 (v:Int))/\W.cell? ⟨D,1,none⟩=some (.int .i64 (i:Int))/\W.cell? ⟨D,2,none⟩=some (.int .i64 k)/\W.cell? ⟨D,3,none⟩=some (.string so)/\W.cell? ⟨D,4,none⟩=some (.int .i64 nu)/\W.cell? ⟨D,5,none⟩=some (.int .i64 ix)/\W.cell? ⟨D,6,none⟩=some (.string st)) E2.drew:=⟨hbx.c 2,rlb_c hrb hri,hdx.c 0,hdx.c 1,hdx.c 2,hdx.c 3,hdx.c 4,hdx.c 5,hdx.c 6⟩;refine wp_region_head (fun W:World=>W.cell? ⟨g,2,none⟩=some (.slice (some ⟨B,0,none⟩) n n)/\W.cell? ⟨B,v,none⟩=some (.slice rb.A rb.xs.length rb.c)/\W.cell? ⟨D,0,none⟩=some (.int .i64 (v:Int))/\W.cell? ⟨D,1,none⟩=some (.int .i64 (i:Int))/\W.cell? ⟨D,2,none⟩=some (.int .i64 k)/\W.cell? ⟨D,3,none⟩=some (.string so)/\W.cell? ⟨D,4,none⟩=some (.int .i64 nu)/\W.cell? ⟨D,5,none⟩=some (.int .i64 ix)/\W.cell? ⟨D,6,none⟩=some (.string st)) 18 (by kernel_rfl) ?_ (by decide)
        show headJ 0 _ _ _ _ _ _ _ _ _ _ _
        iterate 15
         refine hdJ (v:=?_) rfl (Or.inl ⟨by rfl,?_⟩) ?_
         rotate_left
         ·intro W hW;obtain⟨gf,al,e0,e1,e2,e3,e4,e5,e6⟩:=HSS.out W hW;go_simp;try with_reducible rfl
         try simp only[Act.put,qA,qB,qC,qD,qE,qF]
        refine hO (i:=15) rfl fun K hK=>?_;go_simp
        obtain⟨G1,hG1,n1,f1⟩:=bxd E2 #[.int .i64 (v:Int),.int .i64 (i:Int),.int .i64 k,.string so,.int .i64 nu,.int .i64 ix,.string st] 98;rw[hG1];have hbx1:=hbx.fr f1 (by simp);have hrb1:=hrb.fr f1 (by simp);have hdx1:=hdx.fr f1 (by simp);refine hK _ _ ⟨hbx1.c 2,rlb_c hrb1 hri,hdx1.c 0,hdx1.c 1,hdx1.c 2,hdx1.c 3,hdx1.c 4,hdx1.c 5,hdx1.c 6⟩ ?_;clear hK K hG1 hC
        try simp only[Act.put,qA,qB,qC,qD,qE,qF]
        refine hO (i:=16) rfl fun K hK=>?_;obtain⟨ii,hii,iz0,iz1,iz2⟩:=info_link;refine wp_app (.tmp 107) (.tmp 109) 61 rfl 98 ii _ 7 72 underlying61 hii iz0 iz1 iz2 rfl (by decide) rb.A rb.xs.length rb.c (rb.xs.flatMap LK.cs) rfl (hrx.fr f1 (by simp)) ⟨E2.heap.size,0,none⟩ 1 1 [.int .i64 (v:Int),.int .i64 (i:Int),.int .i64 k,.string so,.int .i64 nu,.int .i64 ix,.string st] rfl rfl (fun j u hu=>by rw[add_mid',n1.c j];simpa using hu) (by simp[Value.oneCell']) (by unfold maxLen;omega) (by omega) ?_;intro LA lc G2 ho2 hf2 hA2;have hbx2:=hbx1.fr hf2 hgr;have hrb2:=hrb1.fr hf2 hBr;have hdx2:=hdx1.fr hf2 hDr;have hC:(fun W:World=>W.cell? ⟨g,2,none⟩=some (.slice (some ⟨B,0,none⟩) n n)/\W.cell? ⟨B,v,none⟩=some (.slice rb.A rb.xs.length rb.c)/\W.cell? ⟨D,0,none⟩=some (.int .i64 (v:Int))/\W.cell? ⟨D,1,none⟩=some (.int .i64 (i:Int))/\W.cell? ⟨D,2,none⟩=some (.int .i64 k)/\W.cell? ⟨D,3,none⟩=some (.string so)/\W.cell? ⟨D,4,none⟩=some (.int .i64 nu)/\W.cell? ⟨D,5,none⟩=some (.int .i64 ix)/\W.cell? ⟨D,6,none⟩=some (.string st)) G2:=⟨hbx2.c 2,rlb_c hrb2 hri,hdx2.c 0,hdx2.c 1,hdx2.c 2,hdx2.c 3,hdx2.c 4,hdx2.c 5,hdx2.c 6⟩;refine hK _ _ hC ?_;clear hK K
        try simp only[Act.put,qA,qB,qC,qD,qE,qF]
        show headJ 17 _ _ _ _ _ _ _ _ _ _ _
        refine hdJ (v:=?_) rfl (Or.inl ⟨by rfl,?_⟩) ?_
        rotate_left
        ·intro W hW;obtain⟨gf,al,e0,e1,e2,e3,e4,e5,e6⟩:=HSS.out W hW;go_simp;try with_reducible rfl
        try simp only[Act.put,qA,qB,qC,qD,qE,qF]
        refine headI_done ⟨by kernel_rfl,?_⟩;simp only[qG,qH];have q0:G2.cell? ⟨B,v,none⟩=some (.slice rb.A rb.xs.length rb.c):=rlb_c hrb2 hri;have q1:=hrb2.f v;have hA3:∀ y∈blk LA,y∈blk rb.A \/ E2.heap.size<=y:=fun y hy=>(hA2 y hy).imp id (fun h=>Nat.le_trans f1.size h);have HPP:=Hd (An ho2 (An hA3 (An ((f1.mono (by simp)).then hf2:Fr (blk rb.A) E2 G2) hdx2)));have HDR:=Hd hDr;clear hri hrr hrx hbx hrb hdx hln hgr hBr hDr hR2 hllb1 hC n1 f1 hbx1 hrb1 hdx1 ho2 hf2 hA2 hA3 hbx2 hrb2 hdx2 HSS iz0 iz1 iz2 hii
        go_upto_region 23 with fail
        obtain⟨E3,hEN⟩:=nmd (G2.setCell ⟨B,v,none⟩ (.slice LA (rb.xs.length+1) lc));have hl0:=HGG.out.ru;rw[HRI.out.2.1] at hl0;have ho3:=HPP.out.1;rw[<-HLC.out] at ho3;have hput:=RL.put (w2:=E3) (x:=LK.mk (v:Int) i nq) hl0 HPP.out.2.2.1 ho3 HPP.out.2.1 (by simp only[HRI.out.2.2.1];exact hEN);obtain⟨R4,hR4⟩:=nmd (lb1++LR.mk LA lc (rb.xs++[LK.mk (v:Int) i nq])::lb2);rw[hR4] at hput
        have hlen:R4.length=n:=by
         have h1:=HGG.out.ln.2;rw[HRI.out.2.1] at h1;rw[<-hR4];simpa using h1
        have hgs:=HGG.out.putU hput.2.1 HRI.out.2.2.2 hput.1 (by rw[<-HRI.out.2.1] at hput;exact hput.2.2) hlen;have hDB:D≠B:=fun e=>HDE.out.2 D (by simp[GB,e]) rfl;have hDN:BoxN E3 D 98 #[.int .i64 (v:Int),.int .i64 (i:Int),.int .i64 k,.string so,.int .i64 nu,.int .i64 ix,.string st]:=HDE.out.1.fr hput.2.1 (by simp only[List.mem_cons,not_or];exact⟨hDB,HDR.out⟩);have hsz:=hput.2.1.size;have HGH:=Hd (An hgs (An hput.2.1 (An hput.2.2 (An hR4 hDN))));have HRIlb1:=Hd (An HRI.out HPP.out.2.1)
        try rw[hEN]
        clear hEN hl0 ho3 hput hlen hgs hDB hDN hsz hR4 HPP HRI HDR q0 q1
        have hgb4:∀ y∈GB g m A B KN R3 R4 er,w.heap.size<=y:=fun y hy=>by
         simp only[GB,List.mem_cons,List.mem_append] at hy;have hs1:=H3.out.2.1.size
         rcases hy with h | h | h | h | h | h | h | h
         ·exact H3.out.2.2.1 y (by simp[GB,h])
         ·exact H3.out.2.2.1 y (by simp[GB,h])
         ·exact H3.out.2.2.1 y (by simp[GB,h])
         ·exact H3.out.2.2.1 y (by simp[GB,h])
         ·exact H3.out.2.2.1 y (by simp[GB,h])
         ·exact H3.out.2.2.1 y (by simp[GB,h])
         ·rcases HGH.out.2.2.1 y h with h2 | h2
          ·rw[<-HRIlb1.out.1.2.1] at h2
           exact H3.out.2.2.1 y (by simp[GB,h2])
          ·omega
         ·exact H3.out.2.2.1 y (by simp[GB,h])
        have hfr4:Fr (GB g m A B KN R3 R2 er) E2 E3:=HGH.out.2.1.mono (fun y hy=>.inl (by
         rcases List.mem_cons.1 hy with h | h
         ·simp[GB,h]
         ·have:y∈blsR R2:=List.mem_flatMap.2 ⟨rb,HRIlb1.out.1.2.2.2,h⟩
          simp[GB,this]))
        have hrR4:=H3.out.1.frT hfr4 HGF.out.1.noS (by simp);have hso4:=Own.frT H3.out.2.2.2.1 hfr4 (HGF.out.1.noT (ts:=[31]) (by decide) (by decide) (by decide) (by decide) (by decide)) (by simp);have hfw4:Fr [] w E3:=H3.out.2.1.trans hfr4 (fun y hy=>.inr (H3.out.2.2.1 y hy))
        have hus4:∀ r∈R4,r.xs.length<=10*i+(q+1):=fun r hr=>by
         rw[<-HGH.out.2.2.2.1] at hr;have hb:=HR.out.2.2.2.2.2.2 rb HRIlb1.out.1.2.2.2
         rcases List.mem_append.1 hr with h | h
         ·have:=HR.out.2.2.2.2.2.2 r (by rw[HRIlb1.out.1.2.1];simp[h]);omega
         ·rcases List.mem_cons.1 h with rfl | h
          ·simp only[lla,List.length_cons,List.length_nil]
           omega
          ·have:=HR.out.2.2.2.2.2.2 r (by rw[HRIlb1.out.1.2.1];simp[h]);omega
        have H4:=Hd (An hrR4 (An hfw4 (An hgb4 (An hso4 hus4))));clear hrR4 hfw4 hgb4 hso4 hus4 hfr4
        go_wp2_with fail
        go_roundw
        case rel=>exact⟨q+1,R3,R4,by omega,by go_num,HGH.out.1,H4.out.1,H4.out.2.1,H4.out.2.2.1,H4.out.2.2.2.1,H3.out.2.2.2.2.1,H4.out.2.2.2.2⟩
        case measure=>simp[intOf];omega
      ·obtain rfl:q=j:=by omega
       have HR:=Hd (An hgs (An hrR (An hfw (An hgb (An hlk hus)))));have r5:=hrR.k5;clear hgs hrR hfw hgb hso hlk hus
       go_wp2_with fail
       clear r5
       go_loopw [116] (fun ixv W=>∃ (p:Nat) (e2:List (NE ON Nat)),p<=nw/\ixv=.int .i64 (p:Int)/\GS W g m A B n KN (i+1) cN ks2 R1 R2 e2/\Fr [] w W/\(∀ k∈GB g m A B KN R1 R2 e2,w.heap.size<=k)/\∀ y,getL e2 y=wrL ((ys.map AX.a).take i) y++(verOf i y (x.a.w.take p)).map VX.i) (fun i _=>nw - (intOf i).toNat)
       case atStart=>exact⟨0,er,Nat.zero_le _,rfl,HR.out.1,HR.out.2.2.1,HR.out.2.2.2.1,fun y=>by rw[HG.out.1.wr];simp[verOf]⟩
       case round =>
        obtain⟨p,e2,hp,rfl,hgs,hfw,hgb,hgl⟩:=hrel
        by_cases hpl:p<nw
        ·have hlt6:(p:Int)<(nw:Int):=by omega
         have hxw:=(HP0.out.1.ok x (lmg HX.out.1)).fr0 hfw;have hrow:=hxw.chw;unfold Chs Rd at hrow;rw[HX.out.2.2.2.2] at hrow;obtain⟨bb,off,hB,hbl,hcl⟩:=row_get ch_len hrow (by omega);obtain⟨d,hd⟩:∃ d,x.a.w[p]?=some d:=⟨_,lge (by rw[HX.out.2.2.2.2];exact hpl)⟩;have hdo:=oneB_of (ordB_all (wfB_lists HX.out.2.1.1).2 d (lmg hd));obtain⟨kl,hkl⟩:=keyOf_check hdo.1;have hcx:=hcl p d hd;obtain⟨so,hso,_,_⟩:=str_of d.n.owner;obtain⟨st,hst,_,_⟩:=str_of d.n.text;obtain⟨sv,hsv,_,_⟩:=str_of d.v;obtain⟨k,hk⟩:=nmd (d.n.kind);obtain⟨nu,hnu⟩:=nmd (d.n.number);obtain⟨ix,hix⟩:=nmd (d.n.index);obtain⟨ab,hab⟩:=nmd (d.a);have hen:encO d.n=.agg #[.int .i64 k,.string so,.int .i64 nu,.int .i64 ix,.string st]:=by rw[encO_str hso hst,hk,hnu,hix]
         unfold CH.cs at hcx;rw[hso,hst,hsv,hk,hnu,hix,hab] at hcx;have y0:wr.cell? ⟨bb,off+p*7,none⟩=some (.int .i64 k):=hcx 0 (by omega);have y1:wr.cell? ⟨bb,off+p*7+1,none⟩=some (.string so):=hcx 1 (by omega);have y2:wr.cell? ⟨bb,off+p*7+2,none⟩=some (.int .i64 nu):=hcx 2 (by omega);have y3:wr.cell? ⟨bb,off+p*7+3,none⟩=some (.int .i64 ix):=hcx 3 (by omega);have y4:wr.cell? ⟨bb,off+p*7+4,none⟩=some (.string st):=hcx 4 (by omega);have y5:wr.cell? ⟨bb,off+p*7+5,none⟩=some (.string sv):=hcx 5 (by omega);have y6:wr.cell? ⟨bb,off+p*7+6,none⟩=some (.bool ab):=hcx 6 (by omega);rw[hB];have HJ2:=Hd (An hgs (An hfw (An hgb hgl)));have HD:=Hd hd;clear hgs hfw hgb hgl;obtain⟨V0,hV0,hz0,n0,f0⟩:=bxz wr #[.int .i64 k,.string so,.int .i64 nu,.int .i64 ix,.string st,.string sv,.bool ab] 95 wr.heap.size;obtain⟨B9,hB9⟩:=nmd (wr.heap.size);rw[hB9] at n0;have hvb:=HJ2.out.1.box.fr f0 (by simp);have HB9:=Hd hB9;have HK:=Hd hen;have HM0:=Hd (show IML V0 m e2 from ML.fr0 HJ2.out.1.wm f0);have HF0:=Hd f0;clear hcx hcl hrow hxw hd hdo hB hso hst hsv hk hnu hix hab hen hB9 hbl
         go_upto_region 27 with fail
         try rw[hV0]
         try rw[HB9.out]
         clear y0 y1 y2 y3 y4 y5 y6 hV0 hz0
         have hln:(getL e2 d.n).length<=200:=by
          rw[HJ2.out.2.2.2,lla,List.length_map]
          have h1:=wrL_len (l:=(ys.map AX.a).take i) d.n (fun a ha=>by
           obtain⟨y,hy,rfl⟩:=List.mem_map.1 (List.mem_of_mem_take ha);exact (HP0.out.2.1.wf y hy).2.2.2)
          have h2:(verOf i d.n (x.a.w.take p)).length<=p:=by
           unfold verOf;rw[List.length_map];have:=List.length_filter_le (fun c=>decide (CH.n c=d.n)) (x.a.w.take p);rw[List.length_take] at this;omega
          rw[List.length_take] at h1;omega
         have hz9:=HJ2.out.1.lt;have hbz:∀ q∈GB g m A B KN R1 R2 e2,q≠B9:=fun q hq he=>by have:=hz9 q hq;have:=HB9.out;omega
         have hbm:g≠m:=fun he=>by
          obtain⟨es2,clock,h3,_⟩:=HJ2.out.1.wm.map;rw[<-he,show wr.heap[g]?=_ from HJ2.out.1.box] at h3
          cases h3
         have HBZ:=Hd (An (hbz m (by simp[GB])) (An hbm (fun q (hq:q∈blsL e2)=>hbz q (by simp[GB,hq]))))
         have hbe2:g ∉ blsL e2:=fun hm=>by
          have:=ML.noT (ts:=[205]) HJ2.out.1.wm (by decide) g hm _ _ _ HJ2.out.1.box;simp at this
         have HBE2:=Hd hbe2
         have hCell:∀ W,Fr (m::blsL e2) V0 W->W.cell? ⟨g,3,none⟩=some (.map (some m))/\W.cell? ⟨B9,0,none⟩=some (.int .i64 k)/\W.cell? ⟨B9,1,none⟩=some (.string so)/\W.cell? ⟨B9,2,none⟩=some (.int .i64 nu)/\W.cell? ⟨B9,3,none⟩=some (.int .i64 ix)/\W.cell? ⟨B9,4,none⟩=some (.string st):=fun W hW=>by
          have h1:=hvb.fr hW (by simp only[List.mem_cons,not_or];exact⟨HBZ.out.2.1,HBE2.out⟩);have h2:=n0.fr hW (by simp only[List.mem_cons,not_or];exact⟨Ne.symm HBZ.out.1,fun hm=>HBZ.out.2.2 _ hm rfl⟩);exact⟨h1.c 3,h2.c 0,h2.c 1,h2.c 2,h2.c 3,h2.c 4⟩
         have hC:Fr (m::blsL e2) V0 V0.drew:=(Fq _ V0).drew;have HSS:=Hd hCell;clear hCell hz9 hbz hbm hbe2 n0 f0 hvb;refine wp_region_head (fun W:World=>Fr (m::blsL e2) V0 W) 12 (by kernel_rfl) ?_ (by decide)
         show headJ 0 _ _ _ _ _ _ _ _ _ _ _
         iterate 7
          refine hdJ (v:=?_) rfl (Or.inl ⟨by rfl,?_⟩) ?_
          rotate_left
          ·intro W hW;obtain⟨m4,z0,z1,z2,z3,z4⟩:=HSS.out W hW;go_simp;try with_reducible rfl
          try simp only[Act.put,qA,qB,qC,qD,qE,qF]
         refine hO (i:=7) rfl fun K hK=>?_;go_simp
         obtain⟨V1,hV1,n1,f1⟩:=bxd V0 #[.int .i64 (i:Int)] 3;rw[hV1];refine hK _ _ (f1.mono (by simp)) ?_;clear hK K hC hV1
         try simp only[Act.put,qA,qB,qC,qD,qE,qF]
         refine hO (i:=8) rfl fun K hK=>?_;obtain⟨sm,Ae,ce,V2,hme,f2,hoe,hbe,hstep⟩:=ML.step encO_inj key_name underlying194 zero_ints (ML.fr0 HM0.out f1) d.n hkl;rw[HK.out] at hme;go_simp
         have f02:Fr (m::blsL e2) V0 V2:=(f1.mono (by simp)).trans f2 (by simp);refine hK _ _ f02 ?_;clear hK K hme;have hC:=f02
         try simp only[Act.put,qA,qB,qC,qD,qE,qF]
         show headJ 9 _ _ _ _ _ _ _ _ _ _ _
         refine hdJ (v:=?_) rfl (Or.inl ⟨by rfl,?_⟩) ?_
         rotate_left
         ·intro W hW;obtain⟨m4,z0,z1,z2,z3,z4⟩:=HSS.out W hW;go_simp;try with_reducible rfl
         try simp only[Act.put,qA,qB,qC,qD,qE,qF]
         show headJ 11 _ _ _ _ _ _ _ _ _ _ _
         refine hdJ (v:=?_) rfl (Or.inl ⟨by rfl,?_⟩) ?_
         rotate_left
         ·intro W hW;obtain⟨m4,z0,z1,z2,z3,z4⟩:=HSS.out W hW;go_simp;try with_reducible rfl
         try simp only[Act.put,qA,qB,qC,qD,qE,qF]
         refine hO (i:=10) rfl fun K hK=>?_;obtain⟨jj,hjj,jz0,jz1,jz2⟩:=info_int;have n2:=n1.fr f2 (by have:=HM0.out.map.lt;simp;omega);refine wp_app (.tmp 126) (.tmp 128) 36 rfl 3 jj _ 1 8 underlying36 hjj jz0 jz1 jz2 rfl (by decide) Ae _ ce _ rfl hoe ⟨V0.heap.size,0,none⟩ 1 1 [.int .i64 (i:Int)] rfl rfl (fun j u hu=>by rw[add_mid',n2.c j];simpa using hu) (by simp[Value.oneCell']) (by unfold maxLen;omega) (by omega) ?_;intro AA cc V3 ho3 hf3 hA3;have f03:Fr (m::blsL e2) V0 V3:=f02.trans hf3 (fun q hq=>.inl (by simp[hbe q hq]));refine hK _ _ f03 ?_;clear hK K hC
         try simp only[Act.put,qA,qB,qC,qD,qE,qF]
         refine headI_done ⟨by kernel_rfl,?_⟩;simp only[qG,qH];obtain⟨V4,e3,hes,f4,hm4,hgl4,hbl4⟩:=hstep i V3 AA cc hf3 ho3 hA3;have f04:Fr (m::blsL e2) V0 V4:=f03.trans f4 (by simp);have hvs4:=(HJ2.out.1.fr0 HF0.out).putW f04 hm4;have hsz:=HF0.out.size
         have hfw4:Fr [] w V4:=(HJ2.out.2.1.then HF0.out).trans f04 (fun y hy=>.inr (HJ2.out.2.2.1 y (by
          rcases List.mem_cons.1 hy with h | h <;> simp[GB,h])))
         have hz1:=HJ2.out.2.1.size;have hz1':=f1.size
         have hgb4:∀ y∈GB g m A B KN R1 R2 e3,w.heap.size<=y:=fun y hy=>by
          simp only[GB,List.mem_cons,List.mem_append] at hy
          rcases hy with h | h | h | h | h | h | h | h
          ·exact HJ2.out.2.2.1 y (by simp[GB,h])
          ·exact HJ2.out.2.2.1 y (by simp[GB,h])
          ·exact HJ2.out.2.2.1 y (by simp[GB,h])
          ·exact HJ2.out.2.2.1 y (by simp[GB,h])
          ·exact HJ2.out.2.2.1 y (by simp[GB,h])
          ·exact HJ2.out.2.2.1 y (by simp[GB,h])
          ·exact HJ2.out.2.2.1 y (by simp[GB,h])
          ·rcases hbl4 y h with h2 | h2
           ·exact HJ2.out.2.2.1 y (by simp[GB,h2])
           ·omega
         have hgl5:∀ y,getL e3 y=wrL ((ys.map AX.a).take i) y++(verOf i y (x.a.w.take (p+1))).map VX.i:=fun y=>by
          rw[hgl4,List.take_add_one,HD.out]
          show _=_++(verOf i y (x.a.w.take p++[d])).map VX.i
          rw[verOf_snoc]
          by_cases hmm:y=d.n
          ·subst hmm
           rw[if_pos rfl,if_pos rfl,HJ2.out.2.2.2,List.append_assoc,List.map_append];rfl
          ·rw[if_neg hmm,if_neg (fun e=>hmm e.symm),HJ2.out.2.2.2,List.append_nil]
         have HFIN:=Hd (An hvs4 (An hfw4 (An hgb4 hgl5)));clear hvs4 hfw4 hgb4 hgl5 f04 f03 f02 f4 hm4 hgl4 hbl4 ho3 hf3 hA3 hstep hoe hbe n1 n2 f1 f2 HSS hsz hz1 hz1'
         go_wp2_with fail
         go_roundw
         case rel=>exact⟨p+1,e3,by omega,by go_num,HFIN.out.1,HFIN.out.2.1,HFIN.out.2.2.1,HFIN.out.2.2.2⟩
         case measure=>simp[intOf];omega
        ·obtain rfl:p=nw:=by omega
         have hli:(ys.map AX.a)[i]?=some x.a:=by rw[List.getElem?_map,HX.out.1];rfl
         have htl:((ys.map AX.a).take i).length=i:=by rw[List.length_take,List.length_map,HP0.out.2.2];omega
         have htw:x.a.w.take p=x.a.w:=List.take_of_length_le (by rw[HX.out.2.2.2.2];exact nlr _)
         have HFIN:=Hd (GG.mk hgs (fun y=>by
          rw[hgl,htw];unfold wrL verL;rw[List.take_add_one,hli]
          show _=(verF 0 ((ys.map AX.a).take i++[x.a]) y).map VX.i
          rw[verF_snoc,List.map_append,htl,Nat.zero_add]) (fun k r hr=>by
          rw[HR.out.2.2.2.2.1 k r hr]
          by_cases hk:k<i
          ·rw[if_pos hk,if_pos (by omega)]
          ·by_cases hk2:k=i
           ·subst hk2
            rw[if_neg hk,if_pos rfl,if_pos (by omega),List.take_of_length_le];unfold lkA;rw[hli,List.length_map,HX.out.2.2.2.1];omega
           ·rw[if_neg hk,if_neg hk2,if_neg (by omega)]) (fun r hr=>by have:=HR.out.2.2.2.2.2 r hr;omega))
         have HFW:=Hd (An hfw hgb);clear hgs hgl hfw hgb hli htl htw
         go_wp2_with fail
         go_roundw
         case rel=>exact⟨i+1,KN,cN,ks2,R1,R2,e2,by omega,by go_num,HFIN.out,HFW.out.1,HFW.out.2⟩
         case measure=>simp[intOf];omega
  ·obtain rfl:i=n:=by omega
   go_wp2_with fail
   go_ret2
   exact⟨g,m,A,B,KO,kc,ks,Rl,Ru,er,rfl,HG.out.1,HG.out.2.1⟩
end Go.Proofs.YtlpmiimgacfmkaaGreatDoor
