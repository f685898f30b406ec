/- logtree: nodes: the root that a proof leads to. -/
import Derived.Stop.BytesEq
import Derived.Test.YtlpmiimgacfmkaaGreatDoorMWi
import Derived.Test.YtlpmiimgacfmkaaGreatDoorMHi1
set_option linter.all false
namespace Go.Proofs.YtlpmiimgacfmkaaGreatDoor
open Go.Proofs.Tryz
open Go.RowKit Go.Shelf
set_option maxRecDepth 100000
set_option maxHeartbeats 4000000
attribute [local go_sem] Oper.semAt_some
theorem results_cells3 {P:Program} {fn:Func} {p q u:Tmp} {t1 t2 t3:TypeId} {tmps:Array Value} {w:World} {A1 A2 A3:Addr} {v1 v2 v3:Value} (h:fn.results=#[.cell p t1,.cell q t2,.cell u t3]) (hp:tmps.getD p undef=.pointer (some A1)) (hq:tmps.getD q undef=.pointer (some A2)) (hu:tmps.getD u undef=.pointer (some A3))
 (h1:(loadVar t1 A1).run P w=.ok v1 w) (h2:(loadVar t2 A2).run P w=.ok v2 w) (h3:(loadVar t3 A3).run P w=.ok v3 w):(results fn tmps).run P w=.ok (.tuple #[v1,v2,v3]) w:=by
 have hp':tmps[p]?.getD undef=.pointer (some A1):=by rw[<-Array.getD_eq_getD_getElem?];exact hp
 have hq':tmps[q]?.getD undef=.pointer (some A2):=by rw[<-Array.getD_eq_getD_getElem?];exact hq
 have hu':tmps[u]?.getD undef=.pointer (some A3):=by rw[<-Array.getD_eq_getD_getElem?];exact hu
 simp only[results,h];simp[Sem.run_bind,Result.andThen,hp',hq',hu',asAddr,h1,h2,h3]
section
variable {P:Program} {r m:Nat} {Q:Exit->Act->World->Prop} {ops:Array Oper}
theorem wpListIn_one {o:Oper} {rest:List Oper} {a:Act} {w:World} (hg:o.guard=none) (hd:Oper.plainB o=true) (h:o.wp P a w (wpListIn (Fence.wide.inRound r) m P ops Q rest) Q):wpListIn (Fence.wide.inRound r) m P ops Q (o::rest) a w:=by
 unfold wpListIn;have hw:Region.wanted o (yielded ops a.tmps)=true:=by simp[Region.wanted,hg]
 rw[if_pos hw];exact oper_lift hd h
end
theorem fold_full (l:List Value) (z:Array Value) (h:z.size=l.length):(l.zipIdx).foldl (fun cs x=>cs.setIfInBounds x.2 x.1) z=l.toArray:=by
 apply Array.ext_getElem?
 intro i;rw[fold_set l 0 z (by omega) i];simp only[Nat.zero_add,Nat.zero_le,true_and,Nat.sub_zero,List.getElem?_toArray];split
 ·rfl
 ·rw[Array.getElem?_eq_none (by omega),List.getElem?_eq_none (by omega)]
theorem info_pair:∃ i,(prog).info? 308=some i/\i.zero=some (.agg ((List.toArray (.int .u8 0::.int .u8 0::.int .u8 0::.int .u8 0::.int .u8 0::.int .u8 0::.int .u8 0::.int .u8 0::.int .u8 0::.int .u8 0::.int .u8 0::.int .u8 0::.int .u8 0::.int .u8 0::.int .u8 0::.int .u8 0::.int .u8 0::.int .u8 0::.int .u8 0::.int .u8 0::.int .u8 0::.int .u8 0::.int .u8 0::.int .u8 0::.int .u8 0::.int .u8 0::.int .u8 0::.int .u8 0::.int .u8 0::.int .u8 0::.int .u8 0::.int .u8 0::.int .u8 0::.int .u8 0::.int .u8 0::.int .u8 0::.int .u8 0::.int .u8 0::.int .u8 0::.int .u8 0::.int .u8 0::.int .u8 0::.int .u8 0::.int .u8 0::.int .u8 0::.int .u8 0::.int .u8 0::.int .u8 0::.int .u8 0::.int .u8 0::.int .u8 0::.int .u8 0::.int .u8 0::.int .u8 0::.int .u8 0::.int .u8 0::.int .u8 0::.int .u8 0::.int .u8 0::.int .u8 0::.int .u8 0::.int .u8 0::.int .u8 0::.int .u8 0::[]):Array Value)))/\i.size=64/\i.bytes=64:=info_parts (by kernel_rfl)
theorem wp_then_mono {P:Program} {c:Code} {K:Act->World->Prop} {Q:Exit->Act->World->Prop} {a:Act} {w:World} (h:c.wp P (Exit.then K (fun _ _ _=>False)) a w):c.wp P (Exit.then K Q) a w :=
 wp_mono h fun e a w h=>by cases e <;> first | exact h | exact h.elim
structure PairAt (X:World) (B:Nat) (l r:Nm):Prop where
 rng:X.rangeAt B 0 (pairC l r)
 there:X.there B 0 64
 lt:B<X.heap.size
theorem PairAt.fr {X Y:World} {B:Nat} {l r:Nm} {S:List Nat} (h:PairAt X B l r) (hf:Fr S X Y) (hB:B ∉ S):PairAt Y B l r :=
 ⟨fun j v hv=>(hf.cell h.lt hB).trans (h.rng j v hv),fun j hj=>⟨by rw[hf.cell h.lt hB];exact (h.there j hj).1,by rw[hf.frozen h.lt hB];exact (h.there j hj).2⟩,Nat.lt_of_lt_of_le h.lt hf.size⟩
theorem there_new (X:World) {z:Array Value} (hz:z.size=64):(X.alloc (.cells z 308)).there X.heap.size 0 64:=fun j hj=>by
 have hb:=BoxN.new X 308 z;rw[Nat.zero_add];refine⟨?_,hb.f j⟩;rw[hb.c j,Array.getElem?_eq_getElem (by omega)];rfl
theorem PairAt.put {X:World} {B:Nat} {l r:Nm} (ht:X.there B 0 64) (hlt:B<X.heap.size) (hl:l.length=32) (hr:r.length=32):PairAt (X.setCells B 0 (pairC l r)) B l r:=by
 have hc:=pairC_len hl hr;have ht':X.there B 0 (pairC l r).length:=by rw[hc];exact ht
 refine⟨World.rangeAt_setCells_same X B 0 _ ht',?_,by rw[size_setCells];exact hlt⟩;exact World.there_setCells ht B 0 (pairC l r)
def NodesPost (w:World) (r:Nm) (e:Ending) (w':World):Prop:=∃ v,e=.returned (.tuple #[encD r,v,.int .i64 0])/\Fr [] w w'
end Go.Proofs.YtlpmiimgacfmkaaGreatDoor
namespace Go.Proofs.YtlpmiimgacfmkaaGreatDoor
open Go.Proofs.Tryz
open Go.RowKit
set_option maxRecDepth 100000
set_option maxHeartbeats 4000000
theorem run_eq_dig (W:World) {d:Nm} (hd:d.length=32):(Op.equalIn 10000 57 (.agg (dCells d).toArray) (.agg (dCells d).toArray)).run prog W=.ok true W:=by
 have h:=run_equalIn_bytes (P:=prog) W 9998 57 5 32 underlying57 underlying5 (fun w=>by simp[go_sem]) d d hd hd;have h2:(Op.equalIn 10000 57 (.agg (dCells d).toArray) (.agg (dCells d).toArray)).run prog W=.ok (d == d) W:=h;rw[h2];simp
section
variable {P:Program} {ops:Array Oper} {rest:List Oper} {o:Oper} {a:Act} {Q:Exit->Act->World->Prop} {w:World}
theorem wpList_wanted (hw:Region.wanted o (yielded ops a.tmps)=true) (h:o.wp P a w (wpList P ops Q rest) Q):wpList P ops Q (o::rest) a w:=by
 unfold wpList;rw[if_pos hw];exact .inl h
end
def Ver0 (w:World) (e:Ending) (w':World):Prop:=∃ RA rc cb rd,e=.returned (.tuple #[.agg #[.int .i64 1,.int .i64 0,.int .i64 1,.string ⟨#[]⟩,.slice RA 0 rc,.slice (some ⟨cb,0,none⟩) 1 rd],.int .i64 0])/\Fr [] w w'/\Cs w' cb (chC 1 ⟨#[120]⟩ false)
def Ver1 (w:World) (e:Ending) (w':World):Prop:=∃ ca rc cb rd,e=.returned (.tuple #[.agg #[.int .i64 2,.int .i64 0,.int .i64 2,.string ⟨#[]⟩,.slice (some ⟨ca,0,none⟩) 1 rc,.slice (some ⟨cb,0,none⟩) 1 rd],.int .i64 0])/\Fr [] w w'/\(Cs w' ca (chC 1 ⟨#[120]⟩ false)/\Cs w' cb (chC 2 ⟨#[121,122]⟩ false))/\w.heap.size<=ca/\w.heap.size<=cb
theorem Verified_any (rt:Nm) (hr32:rt.length=32) (g pc c0 c1:Nat) (A0 A1:Option Addr) (s0 s1:ByteArray) (w:World) (hok:Ok w) (hg:Cs w g [.int .i64 0,.int .i64 3,.string s0,.slice A0 2 c0,.int .i64 1,.int .i64 3,.string s1,.slice A1 2 c1])
 (hV0:∀ W,Fr [] w W->Calls prog 66 #[encD rt,.agg #[.int .i64 0,.int .i64 3,.string s0,.slice A0 2 c0]] W (Ver0 W))
 (hV1:∀ W,Fr [] w W->Calls prog 66 #[encD rt,.agg #[.int .i64 1,.int .i64 3,.string s1,.slice A1 2 c1]] W (Ver1 W)) :
 Calls prog 63 #[rcpt (.slice (some ⟨g,0,none⟩) 2 pc),encD rt] w fun e w'=>∃ L lc RA rc cb0 rd ca1 rc1 cb1 rd1,e=.returned (.tuple #[.slice (some ⟨L,0,none⟩) 2 lc,.int .i64 0])/\Cs w' L [.int .i64 1,.int .i64 0,.int .i64 1,.string ⟨#[]⟩,.slice RA 0 rc,.slice (some ⟨cb0,0,none⟩) 1 rd,.int .i64 2,.int .i64 0,.int .i64 2,.string ⟨#[]⟩,.slice (some ⟨ca1,0,none⟩) 1 rc1,.slice (some ⟨cb1,0,none⟩) 1 rd1]/\Cs w' cb0 (chC 1 ⟨#[120]⟩ false)/\Cs w' ca1 (chC 1 ⟨#[120]⟩ false)/\Cs w' cb1 (chC 2 ⟨#[121,122]⟩ false)/\Fr [] w w':=by
 have hcr:(dCells rt).length=32:=by rw[dcells_len,hr32]
 obtain⟨w1,hw1,n1,f1⟩:=bxn w #[.int .i64 16,.string ⟨#[]⟩,.int .i64 2,.int .i64 0,.string ⟨#[]⟩,.int .i64 1,.int .i64 3,.slice (some ⟨g,0,none⟩) 2 pc] 39;have hz1:w1.heap.size=w.heap.size+1:=by rw[<-hw1];simp
 obtain⟨w2,hw2⟩:=nmd (w1.alloc (.cells (dCells rt).toArray 57));have hL2:w2.rowIs (w.heap.size+1) 57 32 (fun j=>.int .u8 ((rt.getD j 0).toNat:Int)):=by rw[<-hw2,<-hz1];exact row_cells w1 hcr
 have f2:Fr [] w1 w2:=by rw[<-hw2];exact (Fq [] w1).alloc _
 have n2:=n1.fr f2 (by simp);obtain⟨x0,x1,x2,x3,x4,x5,x6,x7⟩:=n2.m8;have HW:=Hd (An hw1 hw2);have HN:=Hd (An n2 (An hL2 (f1.then f2)));have HOK:=Hd hok;have HG:=Hd (An hg (An hV0 hV1));clear hw1 hw2 n1 n2 f1 f2 hL2 hz1 hok hg hV0 hV1;unfold rcpt encD
 go_enter func63,ntmps63
 go_upto_region 1 with fail
 rw[HW.out.1,HW.out.2]
 go_upto_region 5 with fail
 have HC:Hid (Calls prog 53 #[.agg #[.int .i64 16,.string ⟨#[]⟩,.int .i64 2,.int .i64 0,.string ⟨#[]⟩]] w2 (ChkPost w2 0)):=Hd (by
  have h:=Check_any (portN 2) w2 (HOK.out.fr0 HN.out.2.2) (by simp[portN]) (by simp[portN]);rw[good2.ck] at h;exact h)
 go_upto_region 8 with (go_at_call 53;(with_reducible refine HC.out.mono ?_);rintro e w3 ⟨rfl,hf3⟩;have HF3:=Hd (HN.out.2.2.then hf3);have m3:=HN.out.1.fr hf3 (by simp);have y5:w3.cell? ⟨w.heap.size,5,none⟩=some (.int .i64 1):=m3.c 5;have y7:w3.cell? ⟨w.heap.size,7,none⟩=some (.slice (some ⟨g,0,none⟩) 2 pc):=m3.c 7;have H3:=Hd (An m3 hf3);clear hf3 m3)
 go_wp2_with fail
 refine wp_loop_rounds 3 ?_;rw[rounds_succ];have hg3:=HG.out.1.fr0 HF3.out;obtain⟨z0,z1,z2,z3⟩:=hg3.m4;clear hg3
 go_upto_region 14 with fail
 have HX2:=Hd H3.out.2;obtain⟨v4,hv4,n4,f4⟩:=bxn w3 #[.int .i64 0,.int .i64 3,.string s0,.slice A0 2 c0] 53;rw[hv4];have hF4:=(HF3.out).then f4;have hXv4:=f4;have hm4:=HN.out.1.fr (show Fr [] w2 v4 from HX2.out.then f4) (by simp);have p1:=n4.k1;have r6:=hm4.k6;have HF4:=Hd hF4;have HN4:=Hd n4;have HM4:=Hd hm4;have HX4:=Hd (HX2.out.then f4);clear hv4 n4 f4 hF4 hm4
 go_upto_region 16 with fail
 have HSS:=Hd (fun (W:World) (hW:Fr [] v4 W)=>(⟨(HN4.out.fr hW (by simp)).c 0,(HM4.out.fr hW (by simp)).c 7,(HG.out.1.fr0 (HF4.out.then hW)).2 0 _ rfl⟩:W.cell? ⟨(w3).heap.size,0,none⟩=some (.int .i64 0)/\W.cell? ⟨w.heap.size,7,none⟩=some (.slice (some ⟨g,0,none⟩) 2 pc)/\W.cell? ⟨g,0,none⟩=some (.int .i64 0)));have hwr:IntKind.i64.wrap 0=0:=by decide
 refine wp_region_qall (fun W=>Fr [] v4 W) (by kernel_rfl) (by kernel_rfl) ((Fq _ v4).drew) ?_
 repeat (
  first
  | go_big_quiet_skip
  | (go_big_quiet_want
     first
     | (go_big_quiet_op
        go_big_quiet_on)
     | (apply Exists.intro
        refine⟨fun W hW=>?_,?_⟩
        ·(obtain⟨a0',a7',g0'⟩:=HSS.out W hW
          go_simp
          first
          | done
          | (with_reducible exact rfl)
          | (with_reducible exact⟨rfl,rfl⟩)
          | (fail))
        simp only[Act.put,qA,qB,qC]
        go_big_quiet_on))
  )
 refine wpQuiet_nil ?_;intro v5 hv5;clear HSS hwr p1 r6;have n5:=HN4.out.fr hv5 (by simp);obtain⟨p0,p1,p2,p3⟩:=n5.m4;have hF5:=HF4.out.then hv5;have HRT:=Hd (row_range (rowIs_fr HN.out.2.1 (HX4.out.then hv5) (by simp)) hr32);have hVc:=HG.out.2.1 v5 hF5;unfold encD at hVc;have HVc:=Hd hVc;have HF5:=Hd hF5;have HX5:=Hd (HX4.out.then hv5);have HX5w:Hid (Fr [] w3 v5):=Hd (hXv4.then hv5);clear n5 hVc hF5 hv5
 go_upto_region 19 with (first
  | (refine wpList_wanted (by rfl) ?_;(with_reducible refine wp_load_mid 57 (.tmp 3) rfl (w.heap.size+1) 0 rfl (dCells rt) (.array 32 5) HRT.out (by kernel_rfl) rfl (by rw[hcr];kernel_rfl) ?_))
  | (go_at_call 66;(with_reducible refine HVc.out.mono ?_);rintro e v6 ⟨ra0,rc0,rb0,rd0,rfl,hf6,hra⟩;have H6:=Hd (An hf6 hra);clear hf6 hra))
 obtain⟨v7,hv7,n7,f7⟩:=bxn v6 #[.int .i64 1,.int .i64 0,.int .i64 1,.string ⟨#[]⟩,.slice ra0 0 rc0,.slice (some ⟨rb0,0,none⟩) 1 rd0] 91;rw[hv7];obtain⟨q0,q1,q2,q3,q4,q5⟩:=n7.m6
 try simp only[List.getElem?_toArray,List.getElem?_cons_zero,List.getElem?_cons_succ] at q0 q1 q2 q3 q4 q5
 have HF7:=Hd f7;have HO7:=Hd (Own.nil v7 91 6);clear hv7 n7 f7;obtain⟨ii,hii,iz0,iz1,iz2⟩:∃ i,(prog).info? 91=some i/\i.zero=some (.agg actZ)/\i.size=6/\i.bytes=88:=info_parts (by kernel_rfl)
 go_upto_region 22 with (at_builtin;(with_reducible refine wpList_app_tmp (w:=v7) rfl (.tmp 73) (.tmp 75) 22 rfl 91 ii _ 6 88 underlying22 hii iz0 iz1 iz2 rfl (by decide) none 0 0 [] rfl HO7.out 1 1 [.int .i64 1,.int .i64 0,.int .i64 1,.string ⟨#[]⟩,.slice ra0 0 rc0,.slice (some ⟨rb0,0,none⟩) 1 rd0] 91 rfl rfl (by simp[Value.oneCell']) (by unfold maxLen;omega) (by omega) ?_);intro LA1 lc1 x8 ho hf hs;rw[show (0+1:Nat)=1 from rfl] at ho ⊢;have H8:=Hd (An ho (An hf hs));clear ho hf hs)
 clear q0 q1 q2 q3 q4 q5;have hX8:Fr [] w2 x8:=((HX5.out.then H6.out.1).then HF7.out).trans H8.out.2.1 (by simp[blk]);have hF8:Fr [] w x8:=((HF5.out.then H6.out.1).then HF7.out).trans H8.out.2.1 (by simp[blk]);have hB8:=(H6.out.2.fr0 HF7.out).fr H8.out.2.1 (by simp[blk]);have HX2:=Hd hX8
 have hLz:∀ k∈blk LA1,v7.heap.size<=k:=fun k hk=>by
  rcases H8.out.2.2 k hk with h | h
  ·simp[blk] at h
  ·exact h
 have hLr:rb0 ∉ blk LA1:=fun hm=>by have h1:=hLz rb0 hm;have h2:=(H6.out.2.fr0 HF7.out).1;omega
 have hLw:∀ k∈blk LA1,w.heap.size<=k:=fun k hk=>Nat.le_trans (((HF5.out.then H6.out.1).then HF7.out).size) (hLz k hk);have hLx:∀ k∈blk LA1,k<x8.heap.size:=H8.out.1.lt;have HLZ:=Hd (An hLr (An hLw hLx));have HFW:=Hd hF8;have HO8:=Hd H8.out.1;have HB8:=Hd hB8;have hg8:=HG.out.1.fr0 hF8;have z0:=hg8.k4;have z1:=hg8.k5;have z2:=hg8.k6;have z3:=hg8.k7;clear hLx hLz hLr hLw hX8 hF8 hB8 hg8 HX5 HF5 H6 HF7 H8 HVc HRT HX4 HM4 HN4 HF4 HO7 p0 p1 p2 p3 iz0 iz1 iz2 hii
 go_wp2_with fail
 rw[rounds_succ]
 go_upto_region 14 with fail
 obtain⟨v4,hv4,n4,f4⟩:=bxn x8 #[.int .i64 1,.int .i64 3,.string s1,.slice A1 2 c1] 53;rw[hv4];have hF4:=(HFW.out).then f4;have hXv4:=f4;have hm4:=HN.out.1.fr (show Fr [] w2 v4 from HX2.out.then f4) (by simp);have p1:=n4.k1;have r6:=hm4.k6;have HF4:=Hd hF4;have HN4:=Hd n4;have HM4:=Hd hm4;have HX4:=Hd (HX2.out.then f4);clear hv4 n4 f4 hF4 hm4
 go_upto_region 16 with fail
 have HSS:=Hd (fun (W:World) (hW:Fr [] v4 W)=>(⟨(HN4.out.fr hW (by simp)).c 0,(HM4.out.fr hW (by simp)).c 7,(HG.out.1.fr0 (HF4.out.then hW)).2 0 _ rfl⟩:W.cell? ⟨(x8).heap.size,0,none⟩=some (.int .i64 1)/\W.cell? ⟨w.heap.size,7,none⟩=some (.slice (some ⟨g,0,none⟩) 2 pc)/\W.cell? ⟨g,0,none⟩=some (.int .i64 0)));have hwr:IntKind.i64.wrap 0=0:=by decide
 refine wp_region_qall (fun W=>Fr [] v4 W) (by kernel_rfl) (by kernel_rfl) ((Fq _ v4).drew) ?_
 repeat (
  first
  | go_big_quiet_skip
  | (go_big_quiet_want
     first
     | (go_big_quiet_op
        go_big_quiet_on)
     | (apply Exists.intro
        refine⟨fun W hW=>?_,?_⟩
        ·(obtain⟨a0',a7',g0'⟩:=HSS.out W hW
          go_simp
          first
          | done
          | (with_reducible exact rfl)
          | (with_reducible exact⟨rfl,rfl⟩)
          | (fail))
        simp only[Act.put,qA,qB,qC]
        go_big_quiet_on))
  )
 refine wpQuiet_nil ?_;intro v5 hv5;clear HSS hwr p1 r6;have n5:=HN4.out.fr hv5 (by simp);obtain⟨p0,p1,p2,p3⟩:=n5.m4;have hF5:=HF4.out.then hv5;have HRT:=Hd (row_range (rowIs_fr HN.out.2.1 (HX4.out.then hv5) (by simp)) hr32);have hVc:=HG.out.2.2 v5 hF5;unfold encD at hVc;have HVc:=Hd hVc;have HF5:=Hd hF5;have HX5:=Hd (HX4.out.then hv5);have HX5w:Hid (Fr [] x8 v5):=Hd (hXv4.then hv5);clear n5 hVc hF5 hv5
 go_upto_region 19 with (first
  | (refine wpList_wanted (by rfl) ?_;(with_reducible refine wp_load_mid 57 (.tmp 3) rfl (w.heap.size+1) 0 rfl (dCells rt) (.array 32 5) HRT.out (by kernel_rfl) rfl (by rw[hcr];kernel_rfl) ?_))
  | (go_at_call 66;(with_reducible refine HVc.out.mono ?_);rintro e v6 ⟨ra1,rc1,rb1,rd1,rfl,hf6,hra⟩;have H6:=Hd (An hf6 hra);clear hf6 hra))
 obtain⟨v7,hv7,n7,f7⟩:=bxn v6 #[.int .i64 2,.int .i64 0,.int .i64 2,.string ⟨#[]⟩,.slice (some ⟨ra1,0,none⟩) 1 rc1,.slice (some ⟨rb1,0,none⟩) 1 rd1] 91;rw[hv7];obtain⟨q0,q1,q2,q3,q4,q5⟩:=n7.m6
 try simp only[List.getElem?_toArray,List.getElem?_cons_zero,List.getElem?_cons_succ] at q0 q1 q2 q3 q4 q5
 have HF7:=Hd f7;have HO7:=Hd (HO8.out.fr ((HX5w.out.then H6.out.1).then f7) (by simp));clear hv7 n7 f7;obtain⟨ii,hii,iz0,iz1,iz2⟩:∃ i,(prog).info? 91=some i/\i.zero=some (.agg actZ)/\i.size=6/\i.bytes=88:=info_parts (by kernel_rfl)
 go_upto_region 22 with (at_builtin;(with_reducible refine wpList_app_tmp (w:=v7) rfl (.tmp 73) (.tmp 75) 22 rfl 91 ii _ 6 88 underlying22 hii iz0 iz1 iz2 rfl (by decide) LA1 1 lc1 _ rfl HO7.out 1 1 [.int .i64 2,.int .i64 0,.int .i64 2,.string ⟨#[]⟩,.slice (some ⟨ra1,0,none⟩) 1 rc1,.slice (some ⟨rb1,0,none⟩) 1 rd1] 91 rfl rfl (by simp[Value.oneCell']) (by unfold maxLen;omega) (by omega) ?_);intro LA2 lc2 x9 ho hf hs;rw[show (1+1:Nat)=2 from rfl] at ho ⊢;have H8:=Hd (An ho (An hf hs));clear ho hf hs)
 clear q0 q1 q2 q3 q4 q5
 go_wp2_with fail
 rw[rounds_succ]
 go_wp2_with fail
 go_ret2
 obtain⟨pl,rfl,hpl⟩:=Cs.of_own H8.out.1 (by omega);have f67:Fr [] v6 v7:=HF7.out;have hF9:Fr [] w x9:=((HF5.out.then H6.out.1).then f67).trans H8.out.2.1 (fun k hk=>.inr (HLZ.out.2.1 k hk));have h80:=(HB8.out.fr0 ((HX5w.out.then H6.out.1).then f67)).fr H8.out.2.1 HLZ.out.1;have hnot:∀ k,v5.heap.size<=k->k ∉ blk LA1:=fun k hk hm=>by have h1:=HLZ.out.2.2 k hm;have h2:=HX5w.out.size;omega
 have ha:=(H6.out.2.1.1.fr0 f67).fr H8.out.2.1 (hnot _ H6.out.2.2.1);have hb:=(H6.out.2.1.2.fr0 f67).fr H8.out.2.1 (hnot _ H6.out.2.2.2);exact⟨pl,lc2,ra0,rc0,rb0,rd0,ra1,rc1,rb1,rd1,rfl,hpl,h80,ha,hb,hF9⟩
end Go.Proofs.YtlpmiimgacfmkaaGreatDoor
