/- SHA-256: (Hash).Sum. -/
import Derived.Deep.RegionHeld3
import Derived.Deep.CutBlock
import Derived.Lib.AppendStr
import Derived.OwnWalk
import Derived.Laws.BytesArg
import Derived.LoopTactic
import Derived.Test.YtlpmiimgacfmkaaGreatDoorRCmp6
set_option linter.all false
namespace Go.Proofs.YtlpmiimgacfmkaaGreatDoor
open Go.RowKit
set_option maxRecDepth 100000
set_option maxHeartbeats 4000000
def stL (h:HS):List Value:=(List.range 8).map fun j=>.int .u32 (h.st j)
def restL (h:HS):List Value:=(List.range 64).map fun j=>.int .u8 (h.rest j)
theorem stL_len (h:HS):(stL h).length=8:=by simp[stL]
theorem stL_size (h:HS):(stL h).toArray.size=8:=by simp[stL]
theorem restL_size (h:HS):(restL h).toArray.size=64:=by simp[restL]
theorem restL_len (h:HS):(restL h).length=64:=by simp[restL]
theorem HashAt.st {w:World} {b:Nat} {h:HS} (hH:HashAt w b h):w.rangeAt b 1 (stL h):=by
 intro j v hv
 have hj:j<8:=by have:=(List.getElem?_eq_some_iff.1 hv).1;rwa [stL_len] at this
 rw[hH.cell (by omega),←hv]
 unfold stL hcell
 rw[if_neg (by omega),if_pos (by omega),List.getElem?_map,List.getElem?_range hj,Option.map_some,show 1+j - 1=j by omega]
theorem HashAt.rest {w:World} {b:Nat} {h:HS} (hH:HashAt w b h):w.rangeAt b 9 (restL h):=by
 intro j v hv
 have hj:j<64:=by have:=(List.getElem?_eq_some_iff.1 hv).1;rwa [restL_len] at this
 rw[hH.cell (by omega),←hv]
 unfold restL hcell
 rw[if_neg (by omega),if_neg (by omega),List.getElem?_map,List.getElem?_range hj,Option.map_some,show 9+j - 9=j by omega]
theorem HashAt.len {w:World} {b:Nat} {h:HS} (hH:HashAt w b h):w.cell? ⟨b,0,none⟩=some (.int .i64 (h.len:Int)):=World.rowIs.cell hH (by omega)
theorem HashAt.alloc {w:World} {b:Nat} {h:HS} (hH:HashAt w b h) (o:Obj):HashAt (w.alloc o) b h:=World.rowIs.alloc hH o
theorem HashAt.fr {S:List Nat} {w w':World} {b:Nat} {h:HS} (hH:HashAt w b h) (hf:Fr S w w') (hb:b ∉ S):HashAt w' b h:=rowIs_fr hH hf hb
theorem row_new (w:World) (c:Array Value) (t:TypeId):(w.alloc (.cells c t)).rowIs w.heap.size t c.size (fun i=>c[i]?.getD default):=World.rowIs_alloc w c t _ (fun i hi=>by rw[Array.getElem?_eq_getElem hi];rfl)
def hb1 (h:HS) (j:Nat):Int:=if j<h.len % 64 then h.rest j else if j=h.len % 64 then 128 else 0
def hs0 (h:HS):Nat→Int:=if h.len=0 then iv else h.st
def hs1 (h:HS):Nat→Int:=if 56≤h.len % 64 then comp (hs0 h) (hb1 h) else hs0 h
def hbl (h:HS):Nat→Int:=if 56≤h.len % 64 then fun _=>0 else hb1 h
def hsum (h:HS):Nm:=dig (comp (hs1 h) (fun j=>if 56≤j then lenB (8*(h.len:Int)) j else hbl h j))
theorem hb1_63 {h:HS} {m j:Nat} (hm:h.len % 64=m) (h63:m=63) (hj:j<64):Value.int .u8 (if j=m then 128 else h.rest j)=.int .u8 (hb1 h j):=by
 unfold hb1
 rw[hm]
 by_cases e:j=m
 ·rw[if_pos e,if_neg (by omega),if_pos e]
 ·rw[if_neg e,if_pos (by omega)]
theorem hb1_clear {h:HS} {m j:Nat} (hm:h.len % 64=m) (h63:m<63) (hj:j<64):(if m+1≤j∧j<m+1+(List.replicate (63 - m) (Value.int .u8 0)).length then (List.replicate (63 - m) (Value.int .u8 0))[j - (m+1)]?.getD default else Value.int .u8 (if j=m then 128 else h.rest j))=.int .u8 (hb1 h j):=by
 unfold hb1
 rw[hm]
 simp only[List.length_replicate]
 by_cases e:m+1≤j∧j<m+1+(63 - m)
 ·rw[if_pos e,if_neg (by omega),if_neg (by omega),List.getElem?_replicate,if_pos (by omega)]
  rfl
 ·rw[if_neg e]
  by_cases e2:j=m
  ·rw[if_pos e2,if_neg (by omega),if_pos e2]
  ·rw[if_neg e2,if_pos (by omega)]
theorem iv_get {j:Nat} (hj:j<8):(ivL.map (Value.int .u32))[j]?=some (.int .u32 (iv j)):=by
 rw[List.getElem?_map,List.getElem?_eq_getElem (show j<ivL.length from hj)]
 unfold iv
 rw[List.getD_eq_getElem?_getD,List.getElem?_eq_getElem (show j<ivL.length from hj)]
 rfl
theorem iv_range {w:World} (hok:Ok w):w.rangeAt 1 0 (ivL.map (Value.int .u32)):=by
 intro j v hv
 have hj:j<8:=by have:=(List.getElem?_eq_some_iff.1 hv).1;simpa [ivL] using this
 rw[Nat.zero_add,hok.ivs j hj,←hv,iv_get hj]
def Cut3 (w:World) (b:Nat) (h:HS) (s3 s4 s5:Value) (W:World):Prop :=
 ∃ P Q,s3=.pointer (some ⟨P,0,none⟩)∧s4=.pointer (some ⟨Q,0,none⟩)∧s5=.int .i64 ((h.len % 64:Nat):Int)∧P≠Q∧w.heap.size≤P∧w.heap.size≤Q∧W.rowIs P 162 8 (fun j=>.int .u32 (h.st j))∧W.rowIs Q 163 64 (fun j=>.int .u8 (h.rest j))∧Fr [] w W
theorem Sum_any (b:Nat) (h:HS) (w:World) (hok:Ok w) (hb:6≤b) (hlen:h.len≤1152921504606846976) (hH:HashAt w b h) :
 Calls Tryz.prog 80 #[.pointer (some ⟨b,0,none⟩)] w (SumPost w (hsum h)):=by
 have HH:=Hd hH
 clear hH
 go_enter Tryz.func80,Tryz.ntmps80
 go_upto_region 3 with fail
 obtain⟨W0,hW0⟩:=nmd (w.alloc (.cells (z32) 57))
 have hbw:b<W0.heap.size:=by rw[←hW0,World.size_alloc];have:=World.rowIs.lt HH.out;omega
 have HB:=Hd hbw
 clear hbw
 rw[hW0]
 go_cut [3,4,5] from 14 to 26 (fun s3 s4 s5 W=>Cut3 W0 b h s3 s4 s5 W)
 case first =>
  refine wp_region_held_drew (S:=fun W=>HashAt W b h) (by kernel_rfl) ?_ (fun hHeld=>?_)
  ·rw[←hW0];exact HH.out.alloc _
  refine wpAnyH_take (i:=0) (v:=?_) rfl (by kernel_rfl) (by kernel_rfl) (by kernel_rfl) (fun _ _ _ h=>h) (Or.inl ⟨by rfl,?_⟩) (by assumption) ?_
  rotate_left
  ·intro wS hSw
   have hlen:=hSw.len
   go_simp
   try with_reducible rfl
  try simp only[Act.put,qD,qE,qF,qA,qB,qC]
  refine wpAnyH_take (i:=1) (v:=?_) rfl (by kernel_rfl) (by kernel_rfl) (by kernel_rfl) (fun _ _ _ h=>h) (Or.inl ⟨by rfl,?_⟩) (by assumption) ?_
  rotate_left
  ·intro wS hSw
   have hlen:=hSw.len
   go_simp
   try with_reducible rfl
  try simp only[Act.put,qD,qE,qF,qA,qB,qC]
  refine wpAnyH_take (i:=2) (v:=?_) rfl (by kernel_rfl) (by kernel_rfl) (by kernel_rfl) (fun _ _ _ h=>h) (Or.inl ⟨by rfl,?_⟩) (by assumption) ?_
  rotate_left
  ·intro wS hSw
   have hlen:=hSw.len
   go_simp
   try with_reducible rfl
  try simp only[Act.put,qD,qE,qF,qA,qB,qC]
  refine wpAnyH_take (i:=3) rfl (by kernel_rfl) (by kernel_rfl) (by kernel_rfl) (fun _ _ _ h=>h) (yieldsIf_load_mid (by rfl) 162 (.tmp 16) rfl b 1 rfl (stL h) (.array 8 161) (fun _ hS=>hS.st) (by kernel_rfl) rfl (by rfl)) (by assumption) ?_
  try simp only[Act.put,qD,qE,qF,qA,qB,qC]
  refine wpAnyH_take (i:=4) (v:=?_) rfl (by kernel_rfl) (by kernel_rfl) (by kernel_rfl) (fun _ _ _ h=>h) (Or.inl ⟨by rfl,?_⟩) (by assumption) ?_
  rotate_left
  ·intro wS hSw
   have hlen:=hSw.len
   go_simp
   try with_reducible rfl
  try simp only[Act.put,qD,qE,qF,qA,qB,qC]
  refine wpAnyH_take (i:=5) (v:=?_) rfl (by kernel_rfl) (by kernel_rfl) (by kernel_rfl) (fun _ _ _ h=>h) (Or.inl ⟨by rfl,?_⟩) (by assumption) ?_
  rotate_left
  ·intro wS hSw
   have hlen:=hSw.len
   go_simp
   try with_reducible rfl
  try simp only[Act.put,qD,qE,qF,qA,qB,qC]
  refine wpAnyH_take (i:=6) (v:=?_) rfl (by kernel_rfl) (by kernel_rfl) (by kernel_rfl) (fun _ _ _ h=>h) (Or.inl ⟨by rfl,?_⟩) (by assumption) ?_
  rotate_left
  ·intro wS hSw
   have hlen:=hSw.len
   go_simp
   try with_reducible rfl
  try simp only[Act.put,qD,qE,qF,qA,qB,qC]
  refine wpAnyH_take (i:=7) rfl (by kernel_rfl) (by kernel_rfl) (by kernel_rfl) (fun _ _ _ h=>h) (yieldsIf_load_mid (by rfl) 163 (.tmp 20) rfl b 9 rfl (restL h) (.array 64 5) (fun _ hS=>hS.rest) (by kernel_rfl) rfl (by rfl)) (by assumption) ?_
  try simp only[Act.put,qD,qE,qF,qA,qB,qC]
  refine wpAnyH_take (i:=8) (v:=?_) rfl (by kernel_rfl) (by kernel_rfl) (by kernel_rfl) (fun _ _ _ h=>h) (Or.inl ⟨by rfl,?_⟩) (by assumption) ?_
  rotate_left
  ·intro wS hSw
   have hlen:=hSw.len
   go_simp
   try with_reducible rfl
  try simp only[Act.put,qD,qE,qF,qA,qB,qC]
  refine wpAnyH_take (i:=9) (v:=?_) rfl (by kernel_rfl) (by kernel_rfl) (by kernel_rfl) (fun _ _ _ h=>h) (Or.inl ⟨by rfl,?_⟩) (by assumption) ?_
  rotate_left
  ·intro wS hSw
   have hlen:=hSw.len
   go_simp
   try with_reducible rfl
  try simp only[Act.put,qD,qE,qF,qA,qB,qC]
  refine wpAnyH_take (i:=10) (v:=?_) rfl (by kernel_rfl) (by kernel_rfl) (by kernel_rfl) (fun _ _ _ h=>h) (Or.inl ⟨by rfl,?_⟩) (by assumption) ?_
  rotate_left
  ·intro wS hSw
   have hlen:=hSw.len
   go_simp
   try with_reducible rfl
  try simp only[Act.put,qD,qE,qF,qA,qB,qC]
  refine wpAnyH_take (i:=11) (v:=?_) rfl (by kernel_rfl) (by kernel_rfl) (by kernel_rfl) (fun _ _ _ h=>h) (Or.inl ⟨by rfl,?_⟩) (by assumption) ?_
  rotate_left
  ·intro wS hSw
   have hlen:=hSw.len
   go_simp
   try with_reducible rfl
  try simp only[Act.put,qD,qE,qF,qA,qB,qC]
  refine wpAnyH_take (i:=12) (v:=?_) rfl (by kernel_rfl) (by kernel_rfl) (by kernel_rfl) (fun _ _ _ h=>h) (Or.inl ⟨by rfl,?_⟩) (by assumption) ?_
  rotate_left
  ·intro wS hSw
   have hlen:=hSw.len
   go_simp
   try with_reducible rfl
  try simp only[Act.put,qD,qE,qF,qA,qB,qC]
  refine wpAnyH_ready (rs:=[13,14]) (by kernel_rfl) (by simp) ?_
  refine AllReadyH.cons rfl (fun K hK=>?_) (AllReadyH.cons rfl (fun K hK=>?_) AllReadyH.nil)
  ·go_simp
   refine hK.out _ _ ?_ (fun hHeld=>?_)
   ·exact HashAt.alloc hHeld _
   clear hK K
   try simp only[Act.put,qD,qE,qF,qA,qB,qC]
   refine wpAnyH_ready (rs:=[14]) (by kernel_rfl) (by simp) ?_
   refine AllReadyH.cons rfl (fun K hK=>?_) AllReadyH.nil
   go_simp
   refine hK.out _ _ ?_ (fun hHeld=>?_)
   ·exact HashAt.alloc hHeld _
   clear hK K
   try simp only[Act.put,qD,qE,qF,qA,qB,qC]
   obtain⟨W1,hW1⟩:=nmd (((W0.alloc (.cells (#[.int .u32 0,.int .u32 0,.int .u32 0,.int .u32 0,.int .u32 0,.int .u32 0,.int .u32 0,.int .u32 0]) 162)).alloc (.cells (#[.int .u8 0,.int .u8 0,.int .u8 0,.int .u8 0,.int .u8 0,.int .u8 0,.int .u8 0,.int .u8 0,.int .u8 0,.int .u8 0,.int .u8 0,.int .u8 0,.int .u8 0,.int .u8 0,.int .u8 0,.int .u8 0,.int .u8 0,.int .u8 0,.int .u8 0,.int .u8 0,.int .u8 0,.int .u8 0,.int .u8 0,.int .u8 0,.int .u8 0,.int .u8 0,.int .u8 0,.int .u8 0,.int .u8 0,.int .u8 0,.int .u8 0,.int .u8 0,.int .u8 0,.int .u8 0,.int .u8 0,.int .u8 0,.int .u8 0,.int .u8 0,.int .u8 0,.int .u8 0,.int .u8 0,.int .u8 0,.int .u8 0,.int .u8 0,.int .u8 0,.int .u8 0,.int .u8 0,.int .u8 0,.int .u8 0,.int .u8 0,.int .u8 0,.int .u8 0,.int .u8 0,.int .u8 0,.int .u8 0,.int .u8 0,.int .u8 0,.int .u8 0,.int .u8 0,.int .u8 0,.int .u8 0,.int .u8 0,.int .u8 0,.int .u8 0]) 163)).drew)
   obtain⟨fP,hP⟩:∃ f,W1.rowIs W0.heap.size 162 8 f:=by rw[←hW1];exact⟨_,((row_new W0 _ _).alloc _).drew⟩
   obtain⟨fQ,hQ⟩:∃ f,W1.rowIs (W0.heap.size+1) 163 64 f:=by rw[←hW1];have:=row_new (W0.alloc (.cells (#[.int .u32 0,.int .u32 0,.int .u32 0,.int .u32 0,.int .u32 0,.int .u32 0,.int .u32 0,.int .u32 0]) 162)) (#[.int .u8 0,.int .u8 0,.int .u8 0,.int .u8 0,.int .u8 0,.int .u8 0,.int .u8 0,.int .u8 0,.int .u8 0,.int .u8 0,.int .u8 0,.int .u8 0,.int .u8 0,.int .u8 0,.int .u8 0,.int .u8 0,.int .u8 0,.int .u8 0,.int .u8 0,.int .u8 0,.int .u8 0,.int .u8 0,.int .u8 0,.int .u8 0,.int .u8 0,.int .u8 0,.int .u8 0,.int .u8 0,.int .u8 0,.int .u8 0,.int .u8 0,.int .u8 0,.int .u8 0,.int .u8 0,.int .u8 0,.int .u8 0,.int .u8 0,.int .u8 0,.int .u8 0,.int .u8 0,.int .u8 0,.int .u8 0,.int .u8 0,.int .u8 0,.int .u8 0,.int .u8 0,.int .u8 0,.int .u8 0,.int .u8 0,.int .u8 0,.int .u8 0,.int .u8 0,.int .u8 0,.int .u8 0,.int .u8 0,.int .u8 0,.int .u8 0,.int .u8 0,.int .u8 0,.int .u8 0,.int .u8 0,.int .u8 0,.int .u8 0,.int .u8 0]) 163;rw[World.size_alloc] at this;exact⟨_,this.drew⟩
   have hF:Fr [] W0 W1:=by rw[←hW1];exact (((Fr.refl [] W0).alloc _).alloc _).drew
   rw[hW1] at hHeld ⊢
   clear hW1
   have hbP:b≠W0.heap.size:=by have:=HB.out;omega
   have hbQ:b≠W0.heap.size+1:=by have:=HB.out;omega
   have hPQ:W0.heap.size≠W0.heap.size+1:=by omega
   have hP1:=rowIs_whole hP (stL_len h) (g:=fun j=>.int .u32 (h.st j)) (fun j hj=>by unfold stL;rw[List.getElem?_map,List.getElem?_range hj,Option.map_some])
   have hQ1:=rowIs_setCells_other (b:=W0.heap.size) (b':=W0.heap.size+1) hPQ.symm (stL h) 0 _ hQ
   have hH1:=hHeld.fr ((Fr.refl [W0.heap.size] W1).setCells (p:=W0.heap.size) (by simp) (stL h) 0) (by simpa using hbP)
   have hF1:=hF.setCells (p:=W0.heap.size) (.inr (by omega)) (stL h) 0
   obtain⟨W2,hW2⟩:=nmd (W1.setCells (W0.heap.size) 0 (stL h))
   rw[hW2] at hP1 hQ1 hH1 hF1
   refine wpAnyH_ready (rs:=[15]) (by kernel_rfl) (by simp) ?_
   refine AllReadyH.cons rfl (fun K hK=>?_) AllReadyH.nil
   rw[if_pos (by rfl)]
   refine wp_store_mid 162 (.tmp 3) (.tmp 17) rfl (W0.heap.size) 0 (stL h).toArray rfl rfl (by rw[stL_size];exact there_row hP (by omega)) (by rw[stL_size];kernel_rfl) (all_oneCell_toArray (by intro v hv;obtain⟨x,_,rfl⟩:=List.mem_map.1 hv;rfl)) ?_
   rw[show (stL h).toArray.toList=stL h from rfl,hW2]
   clear hHeld
   refine hK.out _ _ hH1 (fun hHeld=>?_)
   clear hK K hW2
   have hP2:=rowIs_setCells_other (b:=W0.heap.size+1) (b':=W0.heap.size) hPQ (restL h) 0 _ hP1
   have hQ2:=rowIs_whole hQ1 (restL_len h) (g:=fun j=>.int .u8 (h.rest j)) (fun j hj=>by unfold restL;rw[List.getElem?_map,List.getElem?_range hj,Option.map_some])
   have hH2:=hH1.fr ((Fr.refl [W0.heap.size+1] _).setCells (p:=W0.heap.size+1) (by simp) (restL h) 0) (by simpa using hbQ)
   have hF2:=hF1.setCells (p:=W0.heap.size+1) (.inr (by omega)) (restL h) 0
   obtain⟨W3,hW3⟩:=nmd (W2.setCells (W0.heap.size+1) 0 (restL h))
   rw[hW3] at hP2 hQ2 hH2 hF2
   try simp only[Act.put,qD,qE,qF,qA,qB,qC]
   refine wpAnyH_ready (rs:=[16]) (by kernel_rfl) (by simp) ?_
   refine AllReadyH.cons rfl (fun K hK=>?_) AllReadyH.nil
   rw[if_pos (by rfl)]
   refine wp_store_mid 163 (.tmp 4) (.tmp 21) rfl (W0.heap.size+1) 0 (restL h).toArray rfl rfl (by rw[restL_size];exact there_row hQ1 (by omega)) (by rw[restL_size];kernel_rfl) (all_oneCell_toArray (by intro v hv;obtain⟨x,_,rfl⟩:=List.mem_map.1 hv;rfl)) ?_
   rw[show (restL h).toArray.toList=restL h from rfl,hW3]
   clear hHeld
   refine hK.out _ _ hH2 (fun hHeld=>?_)
   clear hK K hW3
   try simp only[Act.put,qD,qE,qF,qA,qB,qC]
   refine wpAnyH_take (i:=17) (v:=?_) rfl (by kernel_rfl) (by kernel_rfl) (by kernel_rfl) (fun _ _ _ h=>h) (Or.inl ⟨by rfl,?_⟩) (by assumption) ?_
   rotate_left
   ·intro wS hSw
    have hlen:=hSw.len
    go_simp
    try with_reducible rfl
   try simp only[Act.put,qD,qE,qF,qA,qB,qC]
   refine wpAnyH_done (by kernel_rfl) ?_ _
   go_wp2_with fail
   go_meet
   exact⟨_,_,rfl,rfl,rfl,hPQ,by omega,by omega,hP2,hQ2,hF2⟩
  ·go_simp
   refine hK.out _ _ ?_ (fun hHeld=>?_)
   ·exact HashAt.alloc hHeld _
   clear hK K
   try simp only[Act.put,qD,qE,qF,qA,qB,qC]
   refine wpAnyH_ready (rs:=[13]) (by kernel_rfl) (by simp) ?_
   refine AllReadyH.cons rfl (fun K hK=>?_) AllReadyH.nil
   go_simp
   refine hK.out _ _ ?_ (fun hHeld=>?_)
   ·exact HashAt.alloc hHeld _
   clear hK K
   try simp only[Act.put,qD,qE,qF,qA,qB,qC]
   obtain⟨W1,hW1⟩:=nmd (((W0.alloc (.cells (#[.int .u8 0,.int .u8 0,.int .u8 0,.int .u8 0,.int .u8 0,.int .u8 0,.int .u8 0,.int .u8 0,.int .u8 0,.int .u8 0,.int .u8 0,.int .u8 0,.int .u8 0,.int .u8 0,.int .u8 0,.int .u8 0,.int .u8 0,.int .u8 0,.int .u8 0,.int .u8 0,.int .u8 0,.int .u8 0,.int .u8 0,.int .u8 0,.int .u8 0,.int .u8 0,.int .u8 0,.int .u8 0,.int .u8 0,.int .u8 0,.int .u8 0,.int .u8 0,.int .u8 0,.int .u8 0,.int .u8 0,.int .u8 0,.int .u8 0,.int .u8 0,.int .u8 0,.int .u8 0,.int .u8 0,.int .u8 0,.int .u8 0,.int .u8 0,.int .u8 0,.int .u8 0,.int .u8 0,.int .u8 0,.int .u8 0,.int .u8 0,.int .u8 0,.int .u8 0,.int .u8 0,.int .u8 0,.int .u8 0,.int .u8 0,.int .u8 0,.int .u8 0,.int .u8 0,.int .u8 0,.int .u8 0,.int .u8 0,.int .u8 0,.int .u8 0]) 163)).alloc (.cells (#[.int .u32 0,.int .u32 0,.int .u32 0,.int .u32 0,.int .u32 0,.int .u32 0,.int .u32 0,.int .u32 0]) 162)).drew)
   obtain⟨fQ,hQ⟩:∃ f,W1.rowIs W0.heap.size 163 64 f:=by rw[←hW1];exact⟨_,((row_new W0 _ _).alloc _).drew⟩
   obtain⟨fP,hP⟩:∃ f,W1.rowIs (W0.heap.size+1) 162 8 f:=by rw[←hW1];have:=row_new (W0.alloc (.cells (#[.int .u8 0,.int .u8 0,.int .u8 0,.int .u8 0,.int .u8 0,.int .u8 0,.int .u8 0,.int .u8 0,.int .u8 0,.int .u8 0,.int .u8 0,.int .u8 0,.int .u8 0,.int .u8 0,.int .u8 0,.int .u8 0,.int .u8 0,.int .u8 0,.int .u8 0,.int .u8 0,.int .u8 0,.int .u8 0,.int .u8 0,.int .u8 0,.int .u8 0,.int .u8 0,.int .u8 0,.int .u8 0,.int .u8 0,.int .u8 0,.int .u8 0,.int .u8 0,.int .u8 0,.int .u8 0,.int .u8 0,.int .u8 0,.int .u8 0,.int .u8 0,.int .u8 0,.int .u8 0,.int .u8 0,.int .u8 0,.int .u8 0,.int .u8 0,.int .u8 0,.int .u8 0,.int .u8 0,.int .u8 0,.int .u8 0,.int .u8 0,.int .u8 0,.int .u8 0,.int .u8 0,.int .u8 0,.int .u8 0,.int .u8 0,.int .u8 0,.int .u8 0,.int .u8 0,.int .u8 0,.int .u8 0,.int .u8 0,.int .u8 0,.int .u8 0]) 163)) (#[.int .u32 0,.int .u32 0,.int .u32 0,.int .u32 0,.int .u32 0,.int .u32 0,.int .u32 0,.int .u32 0]) 162;rw[World.size_alloc] at this;exact⟨_,this.drew⟩
   have hF:Fr [] W0 W1:=by rw[←hW1];exact (((Fr.refl [] W0).alloc _).alloc _).drew
   rw[hW1] at hHeld ⊢
   clear hW1
   have hbP:b≠W0.heap.size+1:=by have:=HB.out;omega
   have hbQ:b≠W0.heap.size:=by have:=HB.out;omega
   have hPQ:W0.heap.size+1≠W0.heap.size:=by omega
   have hP1:=rowIs_whole hP (stL_len h) (g:=fun j=>.int .u32 (h.st j)) (fun j hj=>by unfold stL;rw[List.getElem?_map,List.getElem?_range hj,Option.map_some])
   have hQ1:=rowIs_setCells_other (b:=W0.heap.size+1) (b':=W0.heap.size) hPQ.symm (stL h) 0 _ hQ
   have hH1:=hHeld.fr ((Fr.refl [W0.heap.size+1] W1).setCells (p:=W0.heap.size+1) (by simp) (stL h) 0) (by simpa using hbP)
   have hF1:=hF.setCells (p:=W0.heap.size+1) (.inr (by omega)) (stL h) 0
   obtain⟨W2,hW2⟩:=nmd (W1.setCells (W0.heap.size+1) 0 (stL h))
   rw[hW2] at hP1 hQ1 hH1 hF1
   refine wpAnyH_ready (rs:=[15]) (by kernel_rfl) (by simp) ?_
   refine AllReadyH.cons rfl (fun K hK=>?_) AllReadyH.nil
   rw[if_pos (by rfl)]
   refine wp_store_mid 162 (.tmp 3) (.tmp 17) rfl (W0.heap.size+1) 0 (stL h).toArray rfl rfl (by rw[stL_size];exact there_row hP (by omega)) (by rw[stL_size];kernel_rfl) (all_oneCell_toArray (by intro v hv;obtain⟨x,_,rfl⟩:=List.mem_map.1 hv;rfl)) ?_
   rw[show (stL h).toArray.toList=stL h from rfl,hW2]
   clear hHeld
   refine hK.out _ _ hH1 (fun hHeld=>?_)
   clear hK K hW2
   have hP2:=rowIs_setCells_other (b:=W0.heap.size) (b':=W0.heap.size+1) hPQ (restL h) 0 _ hP1
   have hQ2:=rowIs_whole hQ1 (restL_len h) (g:=fun j=>.int .u8 (h.rest j)) (fun j hj=>by unfold restL;rw[List.getElem?_map,List.getElem?_range hj,Option.map_some])
   have hH2:=hH1.fr ((Fr.refl [W0.heap.size] _).setCells (p:=W0.heap.size) (by simp) (restL h) 0) (by simpa using hbQ)
   have hF2:=hF1.setCells (p:=W0.heap.size) (.inr (by omega)) (restL h) 0
   obtain⟨W3,hW3⟩:=nmd (W2.setCells (W0.heap.size) 0 (restL h))
   rw[hW3] at hP2 hQ2 hH2 hF2
   try simp only[Act.put,qD,qE,qF,qA,qB,qC]
   refine wpAnyH_ready (rs:=[16]) (by kernel_rfl) (by simp) ?_
   refine AllReadyH.cons rfl (fun K hK=>?_) AllReadyH.nil
   rw[if_pos (by rfl)]
   refine wp_store_mid 163 (.tmp 4) (.tmp 21) rfl (W0.heap.size) 0 (restL h).toArray rfl rfl (by rw[restL_size];exact there_row hQ1 (by omega)) (by rw[restL_size];kernel_rfl) (all_oneCell_toArray (by intro v hv;obtain⟨x,_,rfl⟩:=List.mem_map.1 hv;rfl)) ?_
   rw[show (restL h).toArray.toList=restL h from rfl,hW3]
   clear hHeld
   refine hK.out _ _ hH2 (fun hHeld=>?_)
   clear hK K hW3
   try simp only[Act.put,qD,qE,qF,qA,qB,qC]
   refine wpAnyH_take (i:=17) (v:=?_) rfl (by kernel_rfl) (by kernel_rfl) (by kernel_rfl) (fun _ _ _ h=>h) (Or.inl ⟨by rfl,?_⟩) (by assumption) ?_
   rotate_left
   ·intro wS hSw
    have hlen:=hSw.len
    go_simp
    try with_reducible rfl
   try simp only[Act.put,qD,qE,qF,qA,qB,qC]
   refine wpAnyH_done (by kernel_rfl) ?_ _
   go_wp2_with fail
   go_meet
   exact⟨_,_,rfl,rfl,rfl,hPQ,by omega,by omega,hP2,hQ2,hF2⟩
 case rest =>
  obtain⟨P,Q,rfl,rfl,rfl,hPQ,gP,gQ,hP,hQ,hf⟩:=hcut
  have hW0f:Fr [] w W0:=by rw[←hW0];exact (Fr.refl [] w).alloc _
  have hRr:∃ fR,W0.rowIs w.heap.size 57 32 fR:=by rw[←hW0];exact⟨_,row_new w _ _⟩
  have hs0:w.heap.size<W0.heap.size:=by rw[←hW0,World.size_alloc];omega
  obtain⟨fR,hR0⟩:=hRr
  have hRc:=rowIs_fr hR0 hf (by simp)
  have hFc:Fr [] w wc:=hW0f.trans hf (by simp)
  have hHc:HashAt wc b h:=HH.out.fr hFc (by simp)
  have hb0:b<w.heap.size:=World.rowIs.lt HH.out
  have hbP:b≠P:=by omega
  have hbQ:b≠Q:=by omega
  have hPR:P≠w.heap.size:=by omega
  have hQR:Q≠w.heap.size:=by omega
  have gP2:w.heap.size≤P:=by omega
  have gQ2:w.heap.size≤Q:=by omega
  have hw6:=hok.low
  clear hW0 hW0f hR0 hf hs0 HB
  obtain⟨m,hm⟩:=nmd (h.len % 64)
  have hm64:m<64:=by omega
  rw[hm]
  by_cases h0:h.len=0
  ·have c0:wc.cell? ⟨b,0,none⟩=some (.int .i64 0):=by have:=hHc.len;rwa [h0] at this
   have hth:=there_row hP (Nat.le_refl 8)
   have hst:=run_storeCells_cells (P:=Tryz.prog) P 0 (ivL.map (Value.int .u32)) 0 wc (fun j hj=>(hth j hj).1) (fun j hj=>(hth j hj).2) (by intro v hv;obtain⟨x,_,rfl⟩:=List.mem_map.1 hv;rfl)
   simp only[Nat.add_zero] at hst
   have hir:wc.rangeAt 1 0 (ivL.map (Value.int .u32)):=iv_range (hok.fr0 hFc)
   obtain⟨W5,hW5⟩:=nmd (wc.setCells P 0 (ivL.map (Value.int .u32)))
   have hiv8:ivL.length=8:=rfl
   have hP5:W5.rowIs P 162 8 (fun j=>.int .u32 (hs0 h j)):=by
    rw[←hW5]
    exact rowIs_whole hP rfl (fun j hj=>by unfold hs0;rw[if_pos h0];exact iv_get hj)
   have hf5:Fr [P] wc W5:=by rw[←hW5];exact (Fr.refl [P] _).setCells (by simp) _ _
   rw[hW5] at hst
   have HIR:=Hd hir
   have HFc:=Hd (hFc.trans hf5 (by simpa using gP2))
   have HRc:=Hd (rowIs_fr hRc hf5 (by simpa using fun e=>hPR e.symm))
   have HP0:=Hd hP5
   have HQ:=Hd (rowIs_fr hQ hf5 (by simpa using fun e=>hPQ e.symm))
   have H0:=Hd h0
   clear hHc hFc hRc hP hQ hth hir hP5 hf5 hW5 h0
   go_upto_region 6 with ((with_reducible refine wpList_load_mid rfl 162 (.global 1) rfl 1 0 rfl _ _ HIR.out rfl rfl rfl ?_))
   clear hst c0
   have xk:(W5).cell? ⟨Q,m,none⟩=some _:=HQ.out.cell (by omega)
   have xf:=HQ.out.frozen m
   have hmi:(m:Int)<64:=by omega
   go_upto_region 7 with fail
   obtain⟨W6,hW6⟩:=nmd ((W5).setCell ⟨Q,m,none⟩ (.int .u8 128))
   have q6:W6.rowIs Q 163 64 (fun j=>.int .u8 (if j=m then 128 else h.rest j)):=by
    rw[←hW6]
    exact (HQ.out.set m (.int .u8 128)).congr (fun j hj=>by by_cases e:j=m <;> simp[e])
   have f6:Fr [Q] (W5) W6:=by rw[←hW6];exact (Fr.refl [Q] _).set (p:=⟨Q,m,none⟩) (by simp) _
   rw[hW6]
   clear hW6 xk xf
   by_cases hm63:m=63
   ·have q7:W6.rowIs Q 163 64 (fun j=>.int .u8 (hb1 h j)):=q6.congr (fun j hj=>hb1_63 hm hm63 hj)
    have hcl:∀ (A:Option Addr) (c:Nat) (ty:TypeId),(Builtin.clear_ #[49] ty #[.slice A 0 c]).run Tryz.prog W6=.ok (.tuple #[]) W6:=fun A c ty=>by cases A <;> simp[Builtin.clear_,run_underlying (P:=Tryz.prog) (t:=49) (d:=.slice 5) (by kernel_rfl)]
    subst hm63
    have Q7:=Hd q7
    have F7:=Hd f6
    clear q6 q7 f6
    go_upto_region 8 with fail
    clear hcl
    have hge':(56:Int)≤((63:Nat):Int):=by omega
    have F8:=Hd (HFc.out.trans F7.out (by simpa using gQ2))
    have OK8:=Hd (hok.fr0 F8.out)
    have P8:=Hd (rowIs_fr HP0.out F7.out (by simpa using hPQ))
    have R8:=Hd (rowIs_fr HRc.out F7.out (by simpa using fun e=>hQR e.symm))
    go_upto_region 9 with fail
    go_upto_region 10 with ((go_at_call 144;refine (compress_two P Q _ _ (W6) OK8.out P8.out Q7.out).mono ?_;rintro e W8 ⟨rfl,hp8,hf8⟩))
    have P9':=Hd hp8
    have q8:=rowIs_fr Q7.out hf8 (by simpa using fun e=>hPQ e.symm)
    have r8:=rowIs_fr R8.out hf8 (by simpa using fun e=>hPR e.symm)
    have f8:=F8.out.trans hf8 (by simpa using gP2)
    have hcl:∀ (c:Nat) (ty:TypeId),(Builtin.clear_ #[49] ty #[.slice (some ⟨Q,0,none⟩) 64 c]).run Tryz.prog W8=.ok (.tuple #[]) (W8.setCells Q 0 (List.replicate 64 (.int .u8 0))):=fun c ty =>
     Lib.run_clear_slice W8 49 5 ty (.int .u8 0) (by kernel_rfl) (fun _=>by rfl) rfl rfl Q 0 64 c (by omega) (fun j hj=>by rw[q8.cell (by omega)];rfl) (fun j hj=>q8.frozen _)
    obtain⟨W9,hW9⟩:=nmd (W8.setCells Q 0 (List.replicate 64 (.int .u8 0)))
    have q9:W9.rowIs Q 163 64 (fun j=>.int .u8 (hbl h j)):=by
     rw[←hW9]
     exact rowIs_whole q8 (by simp) (fun j hj=>by unfold hbl;rw[if_pos (by omega),List.getElem?_replicate,if_pos hj])
    have hg9:Fr [Q] W8 W9:=by rw[←hW9];exact (Fr.refl [Q] _).setCells (by simp) _ _
    rw[hW9] at hcl
    have F9:=Hd (f8.trans hg9 (by simpa using gQ2))
    have OK9:=Hd (hok.fr0 F9.out)
    have P9:Hid (W9.rowIs P 162 8 (fun j=>.int .u32 (hs1 h j))):=Hd ((rowIs_fr P9'.out hg9 (by simpa using hPQ)).congr (fun j hj=>by unfold hs1;rw[if_pos (by omega)]))
    have Q9:=Hd q9
    have R9:=Hd (rowIs_fr r8 hg9 (by simpa using fun e=>hQR e.symm))
    have c9:=(HH.out.fr F9.out (by simp)).len
    clear hp8 q8 r8 f8 q9 hg9 hW9 hf8
    go_upto_block 0 with fail
    refine sum12_any _ w (W9) w.heap.size P Q (8*(h.len:Int)) (hs1 h) (hbl h) fR OK9.out P9.out Q9.out R9.out hPQ hPR hQR hw6 gP2 gQ2 (Nat.le_refl _) F9.out (by omega) (by omega) _ _ rfl rfl (by assumption) _ _ _ _ _ _ _ _ _ _ _ _ _ _ _ _ _ _ _ _ _ _ _ _ _ _ _ _ _ _ _ _ _ _ _ _ _ _ _ _ _ _ _ _ _ _ _ _ _ _ _ _ _ _ _ _ _ _ _ _ _ _ _ _ _ _ _ _ _ _ _ _ _ _ _ _ _ _ _ _ _ _ _ _ _ _ _ _ _
   ·have hcl:∀ (c:Nat) (ty:TypeId),(Builtin.clear_ #[49] ty #[.slice (some ⟨Q,m+1,none⟩) (63 - m) c]).run Tryz.prog W6=.ok (.tuple #[]) (W6.setCells Q (m+1) (List.replicate (63 - m) (.int .u8 0))):=fun c ty =>
     Lib.run_clear_slice W6 49 5 ty (.int .u8 0) (by kernel_rfl) (fun _=>by rfl) rfl rfl Q (m+1) (63 - m) c (by omega) (fun j hj=>by rw[q6.cell (by omega)];rfl) (fun j hj=>q6.frozen _)
    obtain⟨W7,hW7⟩:=nmd (W6.setCells Q (m+1) (List.replicate (63 - m) (.int .u8 0)))
    have q7:W7.rowIs Q 163 64 (fun j=>.int .u8 (hb1 h j)):=by
     rw[←hW7]
     exact (rowIs_setCells _ _ _ _ q6).congr (fun j hj=>hb1_clear hm (by omega) hj)
    have f7:Fr [Q] (W5) W7:=by rw[←hW7];exact f6.setCells (by simp) _ _
    rw[hW7] at hcl
    have Q7:=Hd q7
    have F7:=Hd f7
    clear q6 q7 f6 f7 hW7
    have i1:(m:Int)+1≤64:=by omega
    have i2:(0:Int)≤(m:Int)+1:=by omega
    have i3:((m:Int)+1).toNat=m+1:=by omega
    have i4:¬ (64=m+1):=by omega
    have i5:¬ (m=63):=by omega
    go_upto_region 8 with fail
    clear i1 i2 i3 i4 i5
    clear hcl
    by_cases hge:56≤m
    ·have hge':(56:Int)≤((m:Nat):Int):=by omega
     have F8:=Hd (HFc.out.trans F7.out (by simpa using gQ2))
     have OK8:=Hd (hok.fr0 F8.out)
     have P8:=Hd (rowIs_fr HP0.out F7.out (by simpa using hPQ))
     have R8:=Hd (rowIs_fr HRc.out F7.out (by simpa using fun e=>hQR e.symm))
     go_upto_region 9 with fail
     go_upto_region 10 with ((go_at_call 144;refine (compress_two P Q _ _ (W7) OK8.out P8.out Q7.out).mono ?_;rintro e W8 ⟨rfl,hp8,hf8⟩))
     have P9':=Hd hp8
     have q8:=rowIs_fr Q7.out hf8 (by simpa using fun e=>hPQ e.symm)
     have r8:=rowIs_fr R8.out hf8 (by simpa using fun e=>hPR e.symm)
     have f8:=F8.out.trans hf8 (by simpa using gP2)
     have hcl:∀ (c:Nat) (ty:TypeId),(Builtin.clear_ #[49] ty #[.slice (some ⟨Q,0,none⟩) 64 c]).run Tryz.prog W8=.ok (.tuple #[]) (W8.setCells Q 0 (List.replicate 64 (.int .u8 0))):=fun c ty =>
      Lib.run_clear_slice W8 49 5 ty (.int .u8 0) (by kernel_rfl) (fun _=>by rfl) rfl rfl Q 0 64 c (by omega) (fun j hj=>by rw[q8.cell (by omega)];rfl) (fun j hj=>q8.frozen _)
     obtain⟨W9,hW9⟩:=nmd (W8.setCells Q 0 (List.replicate 64 (.int .u8 0)))
     have q9:W9.rowIs Q 163 64 (fun j=>.int .u8 (hbl h j)):=by
      rw[←hW9]
      exact rowIs_whole q8 (by simp) (fun j hj=>by unfold hbl;rw[if_pos (by omega),List.getElem?_replicate,if_pos hj])
     have hg9:Fr [Q] W8 W9:=by rw[←hW9];exact (Fr.refl [Q] _).setCells (by simp) _ _
     rw[hW9] at hcl
     have F9:=Hd (f8.trans hg9 (by simpa using gQ2))
     have OK9:=Hd (hok.fr0 F9.out)
     have P9:Hid (W9.rowIs P 162 8 (fun j=>.int .u32 (hs1 h j))):=Hd ((rowIs_fr P9'.out hg9 (by simpa using hPQ)).congr (fun j hj=>by unfold hs1;rw[if_pos (by omega)]))
     have Q9:=Hd q9
     have R9:=Hd (rowIs_fr r8 hg9 (by simpa using fun e=>hQR e.symm))
     have c9:=(HH.out.fr F9.out (by simp)).len
     clear hp8 q8 r8 f8 q9 hg9 hW9 hf8
     go_upto_block 0 with fail
     refine sum12_any _ w (W9) w.heap.size P Q (8*(h.len:Int)) (hs1 h) (hbl h) fR OK9.out P9.out Q9.out R9.out hPQ hPR hQR hw6 gP2 gQ2 (Nat.le_refl _) F9.out (by omega) (by omega) _ _ rfl rfl (by assumption) _ _ _ _ _ _ _ _ _ _ _ _ _ _ _ _ _ _ _ _ _ _ _ _ _ _ _ _ _ _ _ _ _ _ _ _ _ _ _ _ _ _ _ _ _ _ _ _ _ _ _ _ _ _ _ _ _ _ _ _ _ _ _ _ _ _ _ _ _ _ _ _ _ _ _ _ _ _ _ _ _ _ _ _ _ _ _ _ _
    ·have hlt:¬ (56:Int)≤((m:Nat):Int):=by omega
     have F9:=Hd (HFc.out.trans F7.out (by simpa using gQ2))
     have OK9:=Hd (hok.fr0 F9.out)
     have P9:Hid (((W7):World).rowIs P 162 8 (fun j=>.int .u32 (hs1 h j))):=Hd ((rowIs_fr HP0.out F7.out (by simpa using hPQ)).congr (fun j hj=>by unfold hs1;rw[if_neg (by omega)]))
     have Q9:Hid (((W7):World).rowIs Q 163 64 (fun j=>.int .u8 (hbl h j))):=Hd (Q7.out.congr (fun j hj=>by unfold hbl;rw[if_neg (by omega)]))
     have R9:=Hd (rowIs_fr HRc.out F7.out (by simpa using fun e=>hQR e.symm))
     have c9:=(HH.out.fr F9.out (by simp)).len
     go_upto_block 0 with fail
     refine sum12_any _ w (W7) w.heap.size P Q (8*(h.len:Int)) (hs1 h) (hbl h) fR OK9.out P9.out Q9.out R9.out hPQ hPR hQR hw6 gP2 gQ2 (Nat.le_refl _) F9.out (by omega) (by omega) _ _ rfl rfl (by assumption) _ _ _ _ _ _ _ _ _ _ _ _ _ _ _ _ _ _ _ _ _ _ _ _ _ _ _ _ _ _ _ _ _ _ _ _ _ _ _ _ _ _ _ _ _ _ _ _ _ _ _ _ _ _ _ _ _ _ _ _ _ _ _ _ _ _ _ _ _ _ _ _ _ _ _ _ _ _ _ _ _ _ _ _ _ _ _ _ _
  ·have c0:=hHc.len
   have hne:((h.len:Int) == 0)=false:=by simp;omega
   have HHc:=Hd hHc
   have HFc:=Hd hFc
   have HRc:=Hd hRc
   have HP:=Hd hP
   have HQ:=Hd hQ
   clear hHc hFc hRc hP hQ
   have hsx:hs0 h=h.st:=by unfold hs0;rw[if_neg h0]
   have hP0:wc.rowIs P 162 8 (fun j=>.int .u32 (hs0 h j)):=by rw[hsx];exact HP.out
   have HP0:=Hd hP0
   clear HP hP0 hsx
   go_upto_region 6 with fail
   have xk:(wc).cell? ⟨Q,m,none⟩=some _:=HQ.out.cell (by omega)
   have xf:=HQ.out.frozen m
   have hmi:(m:Int)<64:=by omega
   go_upto_region 7 with fail
   obtain⟨W6,hW6⟩:=nmd ((wc).setCell ⟨Q,m,none⟩ (.int .u8 128))
   have q6:W6.rowIs Q 163 64 (fun j=>.int .u8 (if j=m then 128 else h.rest j)):=by
    rw[←hW6]
    exact (HQ.out.set m (.int .u8 128)).congr (fun j hj=>by by_cases e:j=m <;> simp[e])
   have f6:Fr [Q] (wc) W6:=by rw[←hW6];exact (Fr.refl [Q] _).set (p:=⟨Q,m,none⟩) (by simp) _
   rw[hW6]
   clear hW6 xk xf
   by_cases hm63:m=63
   ·have q7:W6.rowIs Q 163 64 (fun j=>.int .u8 (hb1 h j)):=q6.congr (fun j hj=>hb1_63 hm hm63 hj)
    have hcl:∀ (A:Option Addr) (c:Nat) (ty:TypeId),(Builtin.clear_ #[49] ty #[.slice A 0 c]).run Tryz.prog W6=.ok (.tuple #[]) W6:=fun A c ty=>by cases A <;> simp[Builtin.clear_,run_underlying (P:=Tryz.prog) (t:=49) (d:=.slice 5) (by kernel_rfl)]
    subst hm63
    have Q7:=Hd q7
    have F7:=Hd f6
    clear q6 q7 f6
    go_upto_region 8 with fail
    clear hcl
    have hge':(56:Int)≤((63:Nat):Int):=by omega
    have F8:=Hd (HFc.out.trans F7.out (by simpa using gQ2))
    have OK8:=Hd (hok.fr0 F8.out)
    have P8:=Hd (rowIs_fr HP0.out F7.out (by simpa using hPQ))
    have R8:=Hd (rowIs_fr HRc.out F7.out (by simpa using fun e=>hQR e.symm))
    go_upto_region 9 with fail
    go_upto_region 10 with ((go_at_call 144;refine (compress_two P Q _ _ (W6) OK8.out P8.out Q7.out).mono ?_;rintro e W8 ⟨rfl,hp8,hf8⟩))
    have P9':=Hd hp8
    have q8:=rowIs_fr Q7.out hf8 (by simpa using fun e=>hPQ e.symm)
    have r8:=rowIs_fr R8.out hf8 (by simpa using fun e=>hPR e.symm)
    have f8:=F8.out.trans hf8 (by simpa using gP2)
    have hcl:∀ (c:Nat) (ty:TypeId),(Builtin.clear_ #[49] ty #[.slice (some ⟨Q,0,none⟩) 64 c]).run Tryz.prog W8=.ok (.tuple #[]) (W8.setCells Q 0 (List.replicate 64 (.int .u8 0))):=fun c ty =>
     Lib.run_clear_slice W8 49 5 ty (.int .u8 0) (by kernel_rfl) (fun _=>by rfl) rfl rfl Q 0 64 c (by omega) (fun j hj=>by rw[q8.cell (by omega)];rfl) (fun j hj=>q8.frozen _)
    obtain⟨W9,hW9⟩:=nmd (W8.setCells Q 0 (List.replicate 64 (.int .u8 0)))
    have q9:W9.rowIs Q 163 64 (fun j=>.int .u8 (hbl h j)):=by
     rw[←hW9]
     exact rowIs_whole q8 (by simp) (fun j hj=>by unfold hbl;rw[if_pos (by omega),List.getElem?_replicate,if_pos hj])
    have hg9:Fr [Q] W8 W9:=by rw[←hW9];exact (Fr.refl [Q] _).setCells (by simp) _ _
    rw[hW9] at hcl
    have F9:=Hd (f8.trans hg9 (by simpa using gQ2))
    have OK9:=Hd (hok.fr0 F9.out)
    have P9:Hid (W9.rowIs P 162 8 (fun j=>.int .u32 (hs1 h j))):=Hd ((rowIs_fr P9'.out hg9 (by simpa using hPQ)).congr (fun j hj=>by unfold hs1;rw[if_pos (by omega)]))
    have Q9:=Hd q9
    have R9:=Hd (rowIs_fr r8 hg9 (by simpa using fun e=>hQR e.symm))
    have c9:=(HH.out.fr F9.out (by simp)).len
    clear hp8 q8 r8 f8 q9 hg9 hW9 hf8
    go_upto_block 0 with fail
    refine sum12_any _ w (W9) w.heap.size P Q (8*(h.len:Int)) (hs1 h) (hbl h) fR OK9.out P9.out Q9.out R9.out hPQ hPR hQR hw6 gP2 gQ2 (Nat.le_refl _) F9.out (by omega) (by omega) _ _ rfl rfl (by assumption) _ _ _ _ _ _ _ _ _ _ _ _ _ _ _ _ _ _ _ _ _ _ _ _ _ _ _ _ _ _ _ _ _ _ _ _ _ _ _ _ _ _ _ _ _ _ _ _ _ _ _ _ _ _ _ _ _ _ _ _ _ _ _ _ _ _ _ _ _ _ _ _ _ _ _ _ _ _ _ _ _ _ _ _ _ _ _ _ _
   ·have hcl:∀ (c:Nat) (ty:TypeId),(Builtin.clear_ #[49] ty #[.slice (some ⟨Q,m+1,none⟩) (63 - m) c]).run Tryz.prog W6=.ok (.tuple #[]) (W6.setCells Q (m+1) (List.replicate (63 - m) (.int .u8 0))):=fun c ty =>
     Lib.run_clear_slice W6 49 5 ty (.int .u8 0) (by kernel_rfl) (fun _=>by rfl) rfl rfl Q (m+1) (63 - m) c (by omega) (fun j hj=>by rw[q6.cell (by omega)];rfl) (fun j hj=>q6.frozen _)
    obtain⟨W7,hW7⟩:=nmd (W6.setCells Q (m+1) (List.replicate (63 - m) (.int .u8 0)))
    have q7:W7.rowIs Q 163 64 (fun j=>.int .u8 (hb1 h j)):=by
     rw[←hW7]
     exact (rowIs_setCells _ _ _ _ q6).congr (fun j hj=>hb1_clear hm (by omega) hj)
    have f7:Fr [Q] (wc) W7:=by rw[←hW7];exact f6.setCells (by simp) _ _
    rw[hW7] at hcl
    have Q7:=Hd q7
    have F7:=Hd f7
    clear q6 q7 f6 f7 hW7
    have i1:(m:Int)+1≤64:=by omega
    have i2:(0:Int)≤(m:Int)+1:=by omega
    have i3:((m:Int)+1).toNat=m+1:=by omega
    have i4:¬ (64=m+1):=by omega
    have i5:¬ (m=63):=by omega
    go_upto_region 8 with fail
    clear i1 i2 i3 i4 i5
    clear hcl
    by_cases hge:56≤m
    ·have hge':(56:Int)≤((m:Nat):Int):=by omega
     have F8:=Hd (HFc.out.trans F7.out (by simpa using gQ2))
     have OK8:=Hd (hok.fr0 F8.out)
     have P8:=Hd (rowIs_fr HP0.out F7.out (by simpa using hPQ))
     have R8:=Hd (rowIs_fr HRc.out F7.out (by simpa using fun e=>hQR e.symm))
     go_upto_region 9 with fail
     go_upto_region 10 with ((go_at_call 144;refine (compress_two P Q _ _ (W7) OK8.out P8.out Q7.out).mono ?_;rintro e W8 ⟨rfl,hp8,hf8⟩))
     have P9':=Hd hp8
     have q8:=rowIs_fr Q7.out hf8 (by simpa using fun e=>hPQ e.symm)
     have r8:=rowIs_fr R8.out hf8 (by simpa using fun e=>hPR e.symm)
     have f8:=F8.out.trans hf8 (by simpa using gP2)
     have hcl:∀ (c:Nat) (ty:TypeId),(Builtin.clear_ #[49] ty #[.slice (some ⟨Q,0,none⟩) 64 c]).run Tryz.prog W8=.ok (.tuple #[]) (W8.setCells Q 0 (List.replicate 64 (.int .u8 0))):=fun c ty =>
      Lib.run_clear_slice W8 49 5 ty (.int .u8 0) (by kernel_rfl) (fun _=>by rfl) rfl rfl Q 0 64 c (by omega) (fun j hj=>by rw[q8.cell (by omega)];rfl) (fun j hj=>q8.frozen _)
     obtain⟨W9,hW9⟩:=nmd (W8.setCells Q 0 (List.replicate 64 (.int .u8 0)))
     have q9:W9.rowIs Q 163 64 (fun j=>.int .u8 (hbl h j)):=by
      rw[←hW9]
      exact rowIs_whole q8 (by simp) (fun j hj=>by unfold hbl;rw[if_pos (by omega),List.getElem?_replicate,if_pos hj])
     have hg9:Fr [Q] W8 W9:=by rw[←hW9];exact (Fr.refl [Q] _).setCells (by simp) _ _
     rw[hW9] at hcl
     have F9:=Hd (f8.trans hg9 (by simpa using gQ2))
     have OK9:=Hd (hok.fr0 F9.out)
     have P9:Hid (W9.rowIs P 162 8 (fun j=>.int .u32 (hs1 h j))):=Hd ((rowIs_fr P9'.out hg9 (by simpa using hPQ)).congr (fun j hj=>by unfold hs1;rw[if_pos (by omega)]))
     have Q9:=Hd q9
     have R9:=Hd (rowIs_fr r8 hg9 (by simpa using fun e=>hQR e.symm))
     have c9:=(HH.out.fr F9.out (by simp)).len
     clear hp8 q8 r8 f8 q9 hg9 hW9 hf8
     go_upto_block 0 with fail
     refine sum12_any _ w (W9) w.heap.size P Q (8*(h.len:Int)) (hs1 h) (hbl h) fR OK9.out P9.out Q9.out R9.out hPQ hPR hQR hw6 gP2 gQ2 (Nat.le_refl _) F9.out (by omega) (by omega) _ _ rfl rfl (by assumption) _ _ _ _ _ _ _ _ _ _ _ _ _ _ _ _ _ _ _ _ _ _ _ _ _ _ _ _ _ _ _ _ _ _ _ _ _ _ _ _ _ _ _ _ _ _ _ _ _ _ _ _ _ _ _ _ _ _ _ _ _ _ _ _ _ _ _ _ _ _ _ _ _ _ _ _ _ _ _ _ _ _ _ _ _ _ _ _ _
    ·have hlt:¬ (56:Int)≤((m:Nat):Int):=by omega
     have F9:=Hd (HFc.out.trans F7.out (by simpa using gQ2))
     have OK9:=Hd (hok.fr0 F9.out)
     have P9:Hid (((W7):World).rowIs P 162 8 (fun j=>.int .u32 (hs1 h j))):=Hd ((rowIs_fr HP0.out F7.out (by simpa using hPQ)).congr (fun j hj=>by unfold hs1;rw[if_neg (by omega)]))
     have Q9:Hid (((W7):World).rowIs Q 163 64 (fun j=>.int .u8 (hbl h j))):=Hd (Q7.out.congr (fun j hj=>by unfold hbl;rw[if_neg (by omega)]))
     have R9:=Hd (rowIs_fr HRc.out F7.out (by simpa using fun e=>hQR e.symm))
     have c9:=(HH.out.fr F9.out (by simp)).len
     go_upto_block 0 with fail
     refine sum12_any _ w (W7) w.heap.size P Q (8*(h.len:Int)) (hs1 h) (hbl h) fR OK9.out P9.out Q9.out R9.out hPQ hPR hQR hw6 gP2 gQ2 (Nat.le_refl _) F9.out (by omega) (by omega) _ _ rfl rfl (by assumption) _ _ _ _ _ _ _ _ _ _ _ _ _ _ _ _ _ _ _ _ _ _ _ _ _ _ _ _ _ _ _ _ _ _ _ _ _ _ _ _ _ _ _ _ _ _ _ _ _ _ _ _ _ _ _ _ _ _ _ _ _ _ _ _ _ _ _ _ _ _ _ _ _ _ _ _ _ _ _ _ _ _ _ _ _ _ _ _ _
theorem lit_row {c:Array Value} {n:Nat} {f:Nat→Value} (h:c=((List.range n).map f).toArray):c.size=n∧∀ i,i<n→c[i]?=some (f i):=by
 subst h
 refine⟨by simp,fun i hi=>?_⟩
 simp[hi]
def hash0:HS:=⟨0,fun _=>0,fun _=>0⟩
theorem hash_new (w:World):HashAt (w.alloc (.cells Tryz.zeroCells165 165)) w.heap.size hash0:=by
 have h:=lit_row (c:=Tryz.zeroCells165) (n:=73) (f:=hcell hash0) (by kernel_rfl)
 exact World.rowIs_alloc w _ _ _ h.2
def shaN (l:Nm):Nm:=hsum (if l.length=0 then hash0 else hwrite ⟨0,iv,fun _=>0⟩ l)
theorem hwrite_len (h:HS) (l:List UInt8):(hwrite h l).len=h.len+l.length:=by
 generalize hn':l.length=n
 induction n using Nat.strongRecOn generalizing h l with
 | _ n ih =>
  by_cases h0:l.length=0
  ·rw[List.eq_nil_of_length_eq_zero h0,hwrite_nil]
   omega
  ·have hb:=hn_bounds h l
   rw[hwrite_step h0,ih (l.drop (hn h l)).length (by rw[List.length_drop];omega) _ _ rfl,List.length_drop]
   unfold hchunk
   simp only
   omega
theorem dcells_size (d:Nm):(dCells d).toArray.size=d.length:=by simp[dCells]
theorem shaN_len (l:Nm):(shaN l).length=32:=by simp[shaN,hsum,dig]
theorem dcells_len (d:Nm):(dCells d).length=d.length:=by simp[dCells]
theorem dcells_one (d:Nm):∀ v∈dCells d,v.oneCell'=true:=by
 intro v hv
 obtain⟨x,_,rfl⟩:=List.mem_map.1 hv
 rfl
theorem dcells_get {d:Nm} {j:Nat} (hj:j<d.length):(dCells d)[j]?=some (.int .u8 ((d.getD j 0).toNat:Int)):=by
 unfold dCells
 rw[List.getElem?_map,List.getElem?_eq_getElem hj,Option.map_some,List.getD_eq_getElem?_getD,List.getElem?_eq_getElem hj]
 rfl
theorem row_digest {w:World} {b:Nat} {t:TypeId} {f:Nat→Value} {d:Nm} (h:w.rowIs b t 32 f) (hd:d.length=32):(w.setCells b 0 (dCells d)).rangeAt b 0 (dCells d)∧(w.setCells b 0 (dCells d)).rowIs b t 32 (fun j=>.int .u8 ((d.getD j 0).toNat:Int)):=by
 have h2:=rowIs_whole h (vs:=dCells d) (g:=fun j=>.int .u8 ((d.getD j 0).toNat:Int)) (by simp[dCells,hd]) (fun j hj=>dcells_get (by omega))
 refine⟨fun j v hv=>?_,h2⟩
 have hj:j<32:=by have:=(List.getElem?_eq_some_iff.1 hv).1;simpa [dCells,hd] using this
 rw[Nat.zero_add,h2.cell hj,←hv,dcells_get (by omega)]
theorem store_digest {w:World} {b:Nat} {t:TypeId} {f:Nat→Value} {d:Nm} (h:w.rowIs b t 32 f) (hd:d.length=32):(storeCells ⟨b,0,none⟩ (dCells d)).run Tryz.prog w=.ok () (w.setCells b 0 (dCells d)):=by
 have hth:=there_row h (Nat.le_refl 32)
 have hl:(dCells d).length=32:=by simp[dCells,hd]
 have hst:=run_storeCells_cells (P:=Tryz.prog) b 0 (dCells d) 0 w (by rw[hl];exact fun j hj=>(hth j hj).1) (by rw[hl];exact fun j hj=>(hth j hj).2) (dcells_one d)
 simp only[Nat.add_zero] at hst
 exact hst
theorem SumS_any (l:Nm) (w:World) (hok:Ok w) (hl:l.length≤1152921504606846976):Calls Tryz.prog 29 #[encN l] w (SumPost w (shaN l)):=by
 obtain⟨w1,hw1⟩:=nmd (w.alloc (.cells z32 57))
 obtain⟨w2,hw2⟩:=nmd (w1.alloc (.cells Tryz.zeroCells165 165))
 have hR:∃ f,w1.rowIs w.heap.size 57 32 f:=by rw[←hw1];exact⟨_,row_new w _ _⟩
 obtain⟨fR,hR⟩:=hR
 have hs1:w1.heap.size=w.heap.size+1:=by rw[←hw1,World.size_alloc]
 have hH:HashAt w2 w1.heap.size hash0:=by rw[←hw2];exact hash_new w1
 have hR2:w2.rowIs w.heap.size 57 32 fR:=by rw[←hw2];exact hR.alloc _
 have hF2:Fr [] w w2:=by rw[←hw2,←hw1];exact ((Fr.refl [] w).alloc _).alloc _
 rw[hs1] at hH
 have hw6:=hok.low
 have HW1:=Hd hw1
 have HW2:=Hd hw2
 have HH:=Hd hH
 have HR:=Hd hR2
 have HF:=Hd hF2
 have HS1:=Hd hs1
 clear hw1 hw2 hR hH hR2 hF2 hs1
 go_enter Tryz.func29,Tryz.ntmps29
 go_wp2_with fail
 rw[HW1.out,HW2.out]
 refine (Write_any (w.heap.size+1) l hash0 w2 (hok.fr0 HF.out) (by omega) hl HH.out rfl).mono ?_
 rintro e w3 ⟨rfl,hH3,hF3⟩
 have hR3:=rowIs_fr HR.out hF3 (by simp)
 have hF3':Fr [] w w3:=HF.out.trans hF3 (by simp)
 have hlen:(if l.length=0 then hash0 else hwrite ⟨0,iv,hash0.rest⟩ l).len=l.length:=by
  by_cases h0:l.length=0
  ·rw[if_pos h0,h0];rfl
  ·rw[if_neg h0,hwrite_len];simp
 have HH3:=Hd hH3
 have HR3:=Hd hR3
 have HF3:=Hd hF3'
 have HLEN:=Hd hlen
 clear hH3 hR3 hF3 hF3' hlen
 go_wp2_with fail
 refine (Sum_any (w.heap.size+1) _ w3 (hok.fr0 HF3.out) (by omega) (by rw[HLEN.out];exact hl) HH3.out).mono ?_
 rintro e w4 ⟨rfl,hF4⟩
 have hsh:hsum (if l.length=0 then hash0 else hwrite ⟨0,iv,hash0.rest⟩ l)=shaN l:=rfl
 rw[hsh]
 have hR4:=rowIs_fr HR3.out hF4 (by simp)
 have hst:=store_digest hR4 (shaN_len l)
 have hrd:=row_digest hR4 (shaN_len l)
 obtain⟨w5,hw5⟩:=nmd (w4.setCells w.heap.size 0 (dCells (shaN l)))
 have hF5:Fr [] w w5:=by rw[←hw5];exact (HF3.out.then hF4).setCells (.inr (Nat.le_refl _)) _ _
 rw[hw5] at hst hrd
 have HRD:=Hd hrd.1
 have HF5:=Hd hF5
 have hlen:=dcells_size (shaN l)
 rw[shaN_len] at hlen
 clear hR4 hrd hF5 hw5 hF4
 unfold encD
 go_wp2_with fail
 exact bodyPost_ret (v:=encD (shaN l)) (results_cell_mid (d:=.array 32 5) (p:=2) (ty:=57) (b:=w.heap.size) (o:=0) rfl rfl HRD.out (by kernel_rfl) rfl (by rw[dcells_len,shaN_len];rfl)) rfl ⟨rfl,HF5.out⟩
theorem strOfNums_map (l:Nm):strOfNums (l.map fun c=>(c.toNat:Int))=⟨l.toArray⟩:=by
 unfold strOfNums
 congr 1
 rw[List.map_map]
 congr 1
 conv=>rhs;rw[←List.map_id l]
 apply List.map_congr_left
 intro c _
 simp
theorem run_row_str {P:Program} {w:World} {B n:Nat} {A:Option Addr} {l:Nm} (h:Row w B 1 A n (dCells l)) (src e:TypeId) (hs:P.underlying src=some (.slice e)) (he:P.underlying e=some (.int .u8)) (dst:TypeId) (hd:P.underlying dst=some .string) (c:Nat) :
 (convert src dst (.slice A n c)).run P w=.ok (encN l) w:=by
 have hl:l.length=n:=by have:=h.1;rw[dcells_len] at this;omega
 by_cases hn:n=0
 ·obtain rfl:l=[]:=List.eq_nil_of_length_eq_zero (by omega)
  subst hn
  cases A with
  | none=>exact run_convert_bytes_nil w src e hs he 0 c dst hd
  | some a =>
   rw[run_convert_bytes_string w src dst e _ 0 c hs he hd,run_bytesToString w a 0 c [] (by simpa using run_loadCells_list (P:=P) w a [] (by simp))]
   rfl
 ·obtain⟨b,off,rfl,_,hc⟩:=h.2 (by omega)
  rw[run_convert_bytes_arg w src e hs he b off n c (l.map fun x=>(x.toNat:Int)) (by simpa using hl) (fun i hi=>?_) dst hd,strOfNums_map]
  ·rfl
  ·rw[hc i _ (dcells_get (by omega))]
   rw[List.getD_eq_getElem?_getD,List.getD_eq_getElem?_getD,List.getElem?_map,List.getElem?_eq_getElem (by omega)]
   rfl
theorem dcells_append (a b:Nm):dCells (a++b)=dCells a++dCells b:=by simp[dCells]
def be4 (n:Nat):Nm:=[UInt8.ofNat (n / 16777216),UInt8.ofNat (n / 65536),UInt8.ofNat (n / 256),UInt8.ofNat n]
def joinP (ps:List Nm):Nm:=ps.flatMap fun p=>be4 p.length++p
def joinN (tag:UInt8) (ps:List Nm):Nm:=[tag,UInt8.ofNat ps.length]++joinP ps
def joinL (ps:List Nm):Nat:=(ps.map fun p=>4+p.length).sum
theorem joinP_len (ps:List Nm):(joinP ps).length=joinL ps:=by
 induction ps with
 | nil=>rfl
 | cons p r ih =>
  unfold joinP joinL at *
  rw[List.flatMap_cons,List.length_append,ih,List.map_cons,List.sum_cons,List.length_append]
  simp[be4]
theorem joinL_snoc (ps:List Nm) (p:Nm):joinL (ps++[p])=joinL ps+(4+p.length):=by simp[joinL]
theorem joinP_snoc (ps:List Nm) (p:Nm):joinP (ps++[p])=joinP ps++(be4 p.length++p):=by simp[joinP]
theorem take_snoc' {α:Type} {l:List α} {k:Nat} {x:α} (h:l[k]?=some x):l.take (k+1)=l.take k++[x]:=by
 rw[List.take_succ,h]
 rfl
theorem joinL_take {ps:List Nm} {k:Nat} {p:Nm} (h:ps[k]?=some p):joinL (ps.take (k+1))=joinL (ps.take k)+(4+p.length):=by rw[take_snoc' h,joinL_snoc]
theorem joinP_take {ps:List Nm} {k:Nat} {p:Nm} (h:ps[k]?=some p):joinP (ps.take (k+1))=joinP (ps.take k)++(be4 p.length++p):=by rw[take_snoc' h,joinP_snoc]
theorem joinL_mono (ps:List Nm) (k:Nat):joinL (ps.take k)≤joinL ps:=by
 conv=>rhs;rw[←List.take_append_drop k ps]
 unfold joinL
 rw[List.map_append,List.sum_append]
 omega
theorem be4_cells (n:Nat):dCells (be4 n)=[.int .u8 ((n:Int) / 16777216 % 256),.int .u8 ((n:Int) / 65536 % 256),.int .u8 ((n:Int) / 256 % 256),.int .u8 ((n:Int) % 256)]:=by
 unfold be4 dCells
 simp only[List.map_cons,List.map_nil,UInt8.toNat_ofNat']
 congr 2
theorem Row.str {w:World} {B n k:Nat} {A:Option Addr} {ps:List Nm} (h:Row w B 1 A n (ps.map encN)) (hk:k<n):∃ b off p s,A=some ⟨b,off,none⟩∧b<B∧ps[k]?=some p∧encN p=.string s∧s.data.toList=p∧s.size=p.length∧w.cell? ⟨b,off+k,none⟩=some (.string s):=by
 obtain⟨b,off,u,hA,hb,hu,hc⟩:=h.at1 hk
 rw[List.getElem?_map] at hu
 cases hp:ps[k]? with
 | none=>rw[hp] at hu;simp at hu
 | some p =>
  rw[hp] at hu
  simp only[Option.map_some,Option.some.injEq] at hu
  obtain⟨s,h1,h2,h3⟩:=str_of p
  exact⟨b,off,p,s,hA,hb,rfl,h1,h2,h3,by rw[hc,←hu,h1]⟩
def blk (A:Option Addr):List Nat:=(A.map Addr.block).toList
theorem mem_blk {A:Option Addr} {n c k:Nat}:(Value.slice A n c).ownBlock=some k ↔ k∈blk A:=by
 cases A with
 | none=>simp[blk,Value.ownBlock]
 | some a=>simp[blk,Value.ownBlock];exact eq_comm
def Own (w:World) (e:TypeId) (size:Nat) (A:Option Addr) (n c:Nat) (xs:List Value):Prop:=w.ownsRow 0 e size (.slice A n c) n xs
section
variable {w w':World} {e:TypeId} {size n c:Nat} {A A':Option Addr} {xs:List Value} {S:List Nat}
theorem Own.nil (w:World) (e:TypeId) (size:Nat):Own w e size none 0 0 []:=World.ownsRow_nil w 0 e size
theorem Own.fr (h:Own w e size A n c xs) (hf:Fr S w w') (hd:∀ k∈blk A,k ∉ S):Own w' e size A n c xs:=own_fr h hf (by
 intro k hk
 exact hd k (mem_blk.1 hk))
theorem Own.alloc (h:Own w e size A n c xs) (o:Obj):Own (w.alloc o) e size A n c xs:=World.ownsRow.alloc h o
theorem Own.len (h:Own w e size A n c xs):xs.length=n*size:=h.1
theorem Own.row (h:Own w e size A n c xs):Row w w.heap.size size A n xs:=Row.of_own (base:=0) h
theorem Own.lt (h:Own w e size A n c xs):∀ k∈blk A,k<w.heap.size:=by
 intro k hk
 exact (World.ownsRow.lt h k (mem_blk.2 hk)).2
theorem Own.le_cap (h:Own w e size A n c xs):n≤c:=by
 rcases h.2 with ⟨h1,h2⟩ | ⟨g,cap,cur,h1,_,_,h2,_⟩
 ·injection h1;omega
 ·injection h1;omega
end
theorem Fr.of_grown {w w':World} {A:Option Addr} {n c:Nat} (h:w.grownBy w' (Value.slice A n c).ownBlock):Fr (blk A) w w' :=
 ⟨h.os,h.tape,h.output,h.size,fun k hk hn=>h.block k hk (fun e=>hn (mem_blk.1 e.symm))⟩
section
variable {P:Program} (w:World)
theorem run_app (t ty e:TypeId) (i:TypeInfo) (z:Value) (size bytes:Nat) (ht:P.underlying t=some (.slice e)) (hi:P.info? e=some i) (hz:i.zero=some z)
 (hsize:i.size=size) (hby:i.bytes=bytes) (hzs:z.cells.size=size) (hsz:0<size)
 (A:Option Addr) (n c:Nat) (xs:List Value) (hown:Own w e size A n c xs)
 (a:Addr) (m c2:Nat) (news:List Value) (hl:news.length=m*size) (hnews:∀ j u,news[j]?=some u→w.cell? (a.add j)=some u) (h1:∀ u∈news,u.oneCell'=true)
 (h63:n+m≤maxLen) (hbytes:(n+m)*bytes≤140737488355328) :
 ∃ A' c' w',(Builtin.append_ #[t,t] ty #[.slice A n c,.slice (some a) m c2]).run P w=.ok (.slice A' (n+m) c') w'∧Own w' e size A' (n+m) c' (xs++news)∧Fr (blk A) w w'∧∀ k∈blk A',k∈blk A ∨ w.heap.size≤k:=by
 obtain⟨v',w',hr,h2,h3,h4⟩:=run_append_own (P:=P) w 0 t ty e i z size bytes ht hi hz hsize hby hzs hsz (.slice A n c) n xs hown a m c2 news hl hnews h1 h63 hbytes (Nat.zero_le _)
 obtain⟨A',c',rfl,hrow⟩:=own_form h2
 refine⟨A',c',w',hr,h2,Fr.of_grown h3,?_⟩
 rcases hown.2 with ⟨hv,hn0⟩ | ⟨g,cap,cur,hv,_,hg,hnc,_,hcs,_⟩
 ·injection hv with hA _ hc
  subst hA hn0 hc
  obtain⟨v2,w2,hr2,h22,_,_⟩:=run_append_own (P:=P) w w.heap.size t ty e i z size bytes ht hi hz hsize hby hzs hsz (.slice none 0 0) 0 xs ⟨hown.1,.inl ⟨rfl,rfl⟩⟩ a m c2 news hl hnews h1 h63 hbytes (Nat.le_refl _)
  rw[hr] at hr2
  injection hr2 with e1 e2
  subst e1 e2
  intro k hk
  exact .inr (own_block_le h22 k (mem_blk.2 hk))
 ·injection hv with hA _ hc
  subst hA hc
  subst hsize
  by_cases hroom:n+m≤c
  ·have hr2:=run_append_room (P:=P) w t ty e i ht hi g n c cur hg a m c2 news hl hnews h1 hroom (by rw[hl,hcs,←Nat.add_mul];exact Nat.mul_le_mul_right _ hroom)
   rw[hr] at hr2
   injection hr2 with e1 e2
   injection e1 with e1
   subst e1
   intro k hk
   exact .inl hk
  ·have hr2:=run_append_grow (P:=P) w t ty e i z ht hi hz ⟨g,0,none⟩ n c xs hown.1 (hown.cells (g:=g) rfl) a m c2 news hl hnews (by omega) (by simp only[maxLen] at h63;omega) (growslice_fits (by omega) (by rw[hby];exact hbytes))
   rw[hr] at hr2
   injection hr2 with e1 e2
   injection e1 with e1
   subst e1
   intro k hk
   simp only[blk,Option.map_some,Option.toList_some,List.mem_singleton] at hk
   exact .inr (by omega)
theorem run_app_str (t u ty e:TypeId) (i:TypeInfo) (ht:P.underlying t=some (.slice e)) (hu:P.underlying u=some .string) (hi:P.info? e=some i) (hz:i.zero=some (.int .u8 0))
 (hsize:i.size=1) (hby:i.bytes=1)
 (A:Option Addr) (n c:Nat) (xs:List Value) (hown:Own w e 1 A n c xs) (s:ByteArray)
 (h63:n+s.size≤maxLen) (hbytes:n+s.size≤140737488355328) :
 ∃ A' c' w',(Builtin.append_ #[t,u] ty #[.slice A n c,.string s]).run P w=.ok (.slice A' (n+s.size) c') w'∧Own w' e 1 A' (n+s.size) c' (xs++dCells s.data.toList)∧Fr (blk A) w w'∧∀ k∈blk A',k∈blk A ∨ w.heap.size≤k:=by
 obtain⟨v',w',hr,h2,h3,h4⟩:=Lib.run_append_own_string (P:=P) w 0 t u ty e i ht hu hi hz hsize hby (.slice A n c) n xs hown s h63 hbytes (Nat.zero_le _)
 obtain⟨A',c',rfl,hrow⟩:=own_form h2
 refine⟨A',c',w',hr,h2,Fr.of_grown h3,?_⟩
 rcases hown.2 with ⟨hv,hn0⟩ | ⟨g,cap,cur,hv,_,hg,hnc,_,hcs,_⟩
 ·injection hv with hA _ hc
  subst hA hn0 hc
  obtain⟨v2,w2,hr2,h22,_,_⟩:=Lib.run_append_own_string (P:=P) w w.heap.size t u ty e i ht hu hi hz hsize hby (.slice none 0 0) 0 xs ⟨hown.1,.inl ⟨rfl,rfl⟩⟩ s h63 hbytes (Nat.le_refl _)
  rw[hr] at hr2
  injection hr2 with e1 e2
  subst e1 e2
  intro k hk
  exact .inr (own_block_le h22 k (mem_blk.2 hk))
 ·injection hv with hA _ hc
  subst hA hc
  by_cases hroom:n+s.size≤c
  ·have hr2:=Lib.run_append_room_string (P:=P) w t u ty e i ht hu hi hsize g n c cur hg s hroom (by omega)
   rw[hr] at hr2
   injection hr2 with e1 e2
   injection e1 with e1
   subst e1
   intro k hk
   exact .inl hk
  ·have hr2:=Lib.run_append_grow_string (P:=P) w t u ty e i _ ht hu hi hz ⟨g,0,none⟩ n c xs (by rw[hsize];exact hown.1) (hown.cells (g:=g) rfl) s (by omega) (by simp only[maxLen] at h63;omega) (growslice_fits (by omega) (by rw[hby];omega))
   rw[hr] at hr2
   injection hr2 with e1 e2
   injection e1 with e1
   subst e1
   intro k hk
   simp only[blk,Option.map_some,Option.toList_some,List.mem_singleton] at hk
   exact .inr (by omega)
end
section
variable {P:Program} {ops:Array Oper} {rest:List Oper} {o:Oper} {a:Act} {Q:Exit→Act→World→Prop}
theorem wp_app {w:World} {K:Act→World→Prop} (s x:Operand) (t:TypeId) (ho:o.op=.call { callee:=.builtin .append,args:=#[s,x],argTypes:=#[t,t] })
 (e:TypeId) (i:TypeInfo) (z:Value) (size bytes:Nat) (ht:P.underlying t=some (.slice e)) (hi:P.info? e=some i) (hz:i.zero=some z) (hsize:i.size=size) (hby:i.bytes=bytes) (hzs:z.cells.size=size) (hsz:0<size)
 (A:Option Addr) (n c:Nat) (xs:List Value) (hs:a.eval s=.slice A n c) (hown:Own w e size A n c xs)
 (ad:Addr) (m c2:Nat) (news:List Value) (hx:a.eval x=.slice (some ad) m c2) (hl:news.length=m*size) (hnews:∀ j u,news[j]?=some u→w.cell? (ad.add j)=some u) (h1:∀ u∈news,u.oneCell'=true)
 (h63:n+m≤maxLen) (hbytes:(n+m)*bytes≤140737488355328)
 (h:∀ A' c' w',Own w' e size A' (n+m) c' (xs++news)→Fr (blk A) w w'→(∀ k∈blk A',k∈blk A ∨ w.heap.size≤k)→K (a.put o.dst (.slice A' (n+m) c')) w'):o.wp P a w K Q:=by
 obtain⟨A',c',w',hr,h2,h3,h4⟩:=run_app (P:=P) w t o.type e i z size bytes ht hi hz hsize hby hzs hsz A n c xs hown ad m c2 news hl hnews h1 h63 hbytes
 unfold Oper.wp execOp
 simp only[ho,resolve,invoke,builtin,Sem.run_bind,Sem.run_pure,Result.andThen_ok,List.map_toArray,List.map_cons,List.map_nil,hs,hx,hr]
 exact h A' c' w' h2 h3 h4
theorem add_mid' (b j:Nat):(⟨b,0,none⟩:Addr).add j=⟨b,j,none⟩:=by rw[Addr.add_mid,Nat.zero_add]
theorem new_cells (w:World) (cs:List Value) (t:TypeId):∀ j u,cs[j]?=some u→(w.alloc (.cells cs.toArray t)).cell? ((⟨w.heap.size,0,none⟩:Addr).add j)=some u:=by
 intro j u hu
 rw[add_mid',(BoxN.new w t cs.toArray).c j]
 simpa using hu
theorem wp_app_tmp {w:World} {K:Act→World→Prop} (s x:Operand) (t:TypeId) (ho:o.op=.call { callee:=.builtin .append,args:=#[s,x],argTypes:=#[t,t] })
 (e:TypeId) (i:TypeInfo) (z:Value) (size bytes:Nat) (ht:P.underlying t=some (.slice e)) (hi:P.info? e=some i) (hz:i.zero=some z) (hsize:i.size=size) (hby:i.bytes=bytes) (hzs:z.cells.size=size) (hsz:0<size)
 (A:Option Addr) (n c:Nat) (xs:List Value) (hs:a.eval s=.slice A n c) (hown:Own w e size A n c xs)
 (m c2:Nat) (news:List Value) (tt:TypeId) (hx:a.eval x=.slice (some ⟨w.heap.size,0,none⟩) m c2) (hl:news.length=m*size) (h1:∀ u∈news,u.oneCell'=true)
 (h63:n+m≤maxLen) (hbytes:(n+m)*bytes≤140737488355328)
 (h:∀ A' c' w',Own w' e size A' (n+m) c' (xs++news)→Fr (blk A) w w'→(∀ k∈blk A',k∈blk A ∨ w.heap.size≤k)→K (a.put o.dst (.slice A' (n+m) c')) w'):o.wp P a (w.alloc (.cells news.toArray tt)) K Q :=
 wp_app (w:=w.alloc (.cells news.toArray tt)) s x t ho e i z size bytes ht hi hz hsize hby hzs hsz A n c xs hs (hown.alloc _) ⟨w.heap.size,0,none⟩ m c2 news hx hl (new_cells w news tt) h1 h63 hbytes fun A' c' w' h2 h3 h4 =>
  h A' c' w' h2 (((Fr.refl (blk A) w).alloc _).then h3) fun k hk=>(h4 k hk).imp id fun h5=>by rw[World.size_alloc] at h5;omega
theorem wp_app_str {w:World} {K:Act→World→Prop} (s x:Operand) (t u:TypeId) (ho:o.op=.call { callee:=.builtin .append,args:=#[s,x],argTypes:=#[t,u] })
 (e:TypeId) (i:TypeInfo) (ht:P.underlying t=some (.slice e)) (hu:P.underlying u=some .string) (hi:P.info? e=some i) (hz:i.zero=some (.int .u8 0)) (hsize:i.size=1) (hby:i.bytes=1)
 (A:Option Addr) (n c:Nat) (xs:List Value) (hs:a.eval s=.slice A n c) (hown:Own w e 1 A n c xs) (str:ByteArray) (hx:a.eval x=.string str)
 (h63:n+str.size≤maxLen) (hbytes:n+str.size≤140737488355328)
 (h:∀ A' c' w',Own w' e 1 A' (n+str.size) c' (xs++dCells str.data.toList)→Fr (blk A) w w'→(∀ k∈blk A',k∈blk A ∨ w.heap.size≤k)→K (a.put o.dst (.slice A' (n+str.size) c')) w'):o.wp P a w K Q:=by
 obtain⟨A',c',w',hr,h2,h3,h4⟩:=run_app_str (P:=P) w t u o.type e i ht hu hi hz hsize hby A n c xs hown str h63 hbytes
 unfold Oper.wp execOp
 simp only[ho,resolve,invoke,builtin,Sem.run_bind,Sem.run_pure,Result.andThen_ok,List.map_toArray,List.map_cons,List.map_nil,hs,hx,hr]
 exact h A' c' w' h2 h3 h4
theorem wpList_app_tmp {w:World} (hgd:o.guard=none) (s x:Operand) (t:TypeId) (ho:o.op=.call { callee:=.builtin .append,args:=#[s,x],argTypes:=#[t,t] })
 (e:TypeId) (i:TypeInfo) (z:Value) (size bytes:Nat) (ht:P.underlying t=some (.slice e)) (hi:P.info? e=some i) (hz:i.zero=some z) (hsize:i.size=size) (hby:i.bytes=bytes) (hzs:z.cells.size=size) (hsz:0<size)
 (A:Option Addr) (n c:Nat) (xs:List Value) (hs:a.eval s=.slice A n c) (hown:Own w e size A n c xs)
 (m c2:Nat) (news:List Value) (tt:TypeId) (hx:a.eval x=.slice (some ⟨w.heap.size,0,none⟩) m c2) (hl:news.length=m*size) (h1:∀ u∈news,u.oneCell'=true)
 (h63:n+m≤maxLen) (hbytes:(n+m)*bytes≤140737488355328)
 (h:∀ A' c' w',Own w' e size A' (n+m) c' (xs++news)→Fr (blk A) w w'→(∀ k∈blk A',k∈blk A ∨ w.heap.size≤k)→wpList P ops Q rest (a.put o.dst (.slice A' (n+m) c')) w'):wpList P ops Q (o::rest) a (w.alloc (.cells news.toArray tt)) :=
 wpList_plain hgd fun _ hK=>wp_app_tmp s x t ho e i z size bytes ht hi hz hsize hby hzs hsz A n c xs hs hown m c2 news tt hx hl h1 h63 hbytes fun A' c' w' h2 h3 h4=>hK _ _ (h A' c' w' h2 h3 h4)
theorem wpList_app_str {w:World} (hgd:o.guard=none) (s x:Operand) (t u:TypeId) (ho:o.op=.call { callee:=.builtin .append,args:=#[s,x],argTypes:=#[t,u] })
 (e:TypeId) (i:TypeInfo) (ht:P.underlying t=some (.slice e)) (hu:P.underlying u=some .string) (hi:P.info? e=some i) (hz:i.zero=some (.int .u8 0)) (hsize:i.size=1) (hby:i.bytes=1)
 (A:Option Addr) (n c:Nat) (xs:List Value) (hs:a.eval s=.slice A n c) (hown:Own w e 1 A n c xs) (str:ByteArray) (hx:a.eval x=.string str)
 (h63:n+str.size≤maxLen) (hbytes:n+str.size≤140737488355328)
 (h:∀ A' c' w',Own w' e 1 A' (n+str.size) c' (xs++dCells str.data.toList)→Fr (blk A) w w'→(∀ k∈blk A',k∈blk A ∨ w.heap.size≤k)→wpList P ops Q rest (a.put o.dst (.slice A' (n+str.size) c')) w'):wpList P ops Q (o::rest) a w :=
 wpList_plain hgd fun _ hK=>wp_app_str s x t u ho e i ht hu hi hz hsize hby A n c xs hs hown str hx h63 hbytes fun A' c' w' h2 h3 h4=>hK _ _ (h A' c' w' h2 h3 h4)
end
theorem info_u8:∃ i,(Tryz.prog).info? 5=some i∧i.zero=some (.int .u8 0)∧i.size=1∧i.bytes=1:=info_parts (by kernel_rfl)
def Sub (w:World) (A A':Option Addr):Prop:=∀ k∈blk A',k∈blk A ∨ w.heap.size≤k
theorem Sub.refl (w:World) (A:Option Addr):Sub w A A:=fun _ h=>.inl h
theorem Sub.trans {w w' : World} {A A' A'' : Option Addr} (h : Sub w A A') (h' : Sub w' A' A'') (hs : w.heap.size ≤ w'.heap.size) : Sub w A A'' := fun k hk => by
 rcases h' k hk with h1 | h1
 ·exact h k h1
 ·exact .inr (by omega)
theorem Fr.sub {w w' w'' : World} {A A' : Option Addr} (h : Fr (blk A) w w') (h' : Fr (blk A') w' w'') (hs : Sub w A A') : Fr (blk A) w w'' := h.trans h' hs
def encU (u:Nat):Nm:=if _h:u<128 then [UInt8.ofNat u] else UInt8.ofNat (u % 128+128)::encU (u / 128)
termination_by u
theorem encU_lo {u:Nat} (h:u<128):encU u=[UInt8.ofNat u]:=by rw[encU,dif_pos h]
theorem encU_hi {u:Nat} (h:¬ u<128):encU u=UInt8.ofNat (u % 128+128)::encU (u / 128):=by rw[encU,dif_neg h]
theorem encU_pos (u:Nat):0<(encU u).length:=by
 by_cases h:u<128
 ·rw[encU_lo h];simp
 ·rw[encU_hi h];simp
theorem or128 (u:Nat):bits BinOp.or IntKind.u8 ((u:Int) % 256) 128=(u:Int) % 128+128:=by
 have key:∀ y:Fin 256,bits BinOp.or IntKind.u8 ((y.val:Nat):Int) 128=((y.val % 128+128:Nat):Int):=by decide +kernel
 have:=key ⟨u % 256,by omega⟩
 rw[show ((u:Int) % 256)=((u % 256:Nat):Int) by omega,this]
 simp only
 omega
theorem ret_sl {A:Option Addr} {n m c:Nat} (h:n=m):Ending.returned (.slice A n c)=.returned (.slice A m c):=by rw[h]
def AppRes (w:World) (A:Option Addr) (l:Nm) (e:Ending) (w':World):Prop :=
 ∃ A' c',e=.returned (.slice A' l.length c')∧Own w' 5 1 A' l.length c' (dCells l)∧Fr (blk A) w w'∧Sub w A A'
def NatR (w:World) (A:Option Addr) (t:Nm) (v i:Value) (W:World):Prop :=
 ∃ A' c' l u,v=.slice A' l.length c'∧i=.int .u64 ((u:Nat):Int)∧Own W 5 1 A' l.length c' (dCells l)∧l++encU u=t∧u<18446744073709551616∧Fr (blk A) w W∧Sub w A A'
theorem appendNatural_any (A:Option Addr) (c:Nat) (l:Nm) (u:Nat) (w:World) (hu:u<18446744073709551616) (hL:(l++encU u).length≤70368744177664) (hown:Own w 5 1 A l.length c (dCells l)) :
 Calls Tryz.prog 119 #[.slice A l.length c,.int .u64 (u:Int)] w (AppRes w A (l++encU u)):=by
 obtain⟨ii,hii,iz0,iz1,iz2⟩:=info_u8
 obtain⟨t,ht⟩:=nmd (l++encU u)
 rw[ht] at hL ⊢
 have H0:Hid (NatR w A t (.slice A l.length c) (.int .u64 (u:Int)) w):=Hd ⟨A,c,l,u,rfl,rfl,hown,ht,hu,Fr.refl _ _,Sub.refl _ _⟩
 clear hown ht hu
 go_enter Tryz.func119,Tryz.ntmps119
 go_wp2_with fail
 go_loopw [0,1] (NatR w A t) (fun _ i _=>(intOf i).toNat)
 case atStart=>exact H0.out
 case round =>
  obtain⟨A1,c1,l1,u1,rfl,rfl,hown,ht,hu,hf,hs⟩:=hrel
  have hp:=encU_pos u1
  have hlen:l1.length+(encU u1).length=t.length:=by rw[←ht,List.length_append]
  have hl1:l1.length<70368744177664:=by omega
  have HOW:=Hd hown
  have HF:=Hd hf
  have HS:=Hd hs
  have HT:=Hd ht
  clear hown hf hs ht hlen hp
  by_cases hge:128≤u1
  ·have hge':(128:Int)≤(u1:Int):=by omega
   have hor:=or128 u1
   go_wp2_with (at_builtin;(with_reducible refine wpList_app_tmp (w:=wr) rfl (.tmp 7) (.tmp 11) 49 rfl 5 ii (.int .u8 0) 1 1 Tryz.underlying49 hii iz0 iz1 iz2 rfl (by decide) A1 l1.length c1 _ rfl HOW.out 1 1 [.int .u8 ((u1:Int) % 128+128)] 5 rfl rfl (by simp[Value.oneCell']) (by unfold maxLen;omega) (by omega) ?_);intro A2 c2 W2 h2 f2 s2;have HO2:=Hd h2;have HF2:=Hd (HF.out.sub f2 HS.out);have HS2:=Hd (HS.out.trans s2 HF.out.size);clear h2 f2 s2)
   go_roundw
   case rel =>
    have e1:dCells l1++[Value.int .u8 ((u1:Int) % 128+128)]=dCells (l1++[UInt8.ofNat (u1 % 128+128)]):=by
     rw[dcells_append]
     simp[dCells]
     omega
    have h2:=HO2.out
    rw[e1] at h2
    refine⟨A2,c2,l1++[UInt8.ofNat (u1 % 128+128)],u1 / 128,by simp,by go_num,by simpa using h2,?_,by omega,HF2.out,HS2.out⟩
    rw[←HT.out,encU_hi (u:=u1) (by omega),List.append_assoc]
    rfl
   case measure=>simp[intOf];omega
  ·have hge':¬ (128:Int)≤(u1:Int):=by omega
   go_wp2_with (at_builtin;(with_reducible refine wpList_app_tmp (w:=wr) rfl (.tmp 15) (.tmp 18) 49 rfl 5 ii (.int .u8 0) 1 1 Tryz.underlying49 hii iz0 iz1 iz2 rfl (by decide) A1 l1.length c1 _ rfl HOW.out 1 1 [.int .u8 (u1:Int)] 5 rfl rfl (by simp[Value.oneCell']) (by unfold maxLen;omega) (by omega) ?_);intro A2 c2 W2 h2 f2 s2;have HO2:=Hd h2;have HF2:=Hd (HF.out.sub f2 HS.out);have HS2:=Hd (HS.out.trans s2 HF.out.size);clear h2 f2 s2)
   go_ret
   have e1:dCells l1++[Value.int .u8 (u1:Int)]=dCells (l1++[UInt8.ofNat u1]):=by
    rw[dcells_append]
    simp[dCells]
    omega
   have h2:=HO2.out
   rw[e1] at h2
   have ht:=HT.out
   rw[encU_lo (by omega)] at ht
   have hl:l1.length+1=t.length:=by rw[←ht];simp
   rw[ht,hl] at h2
   exact⟨A2,c2,ret_sl hl,h2,HF2.out,HS2.out⟩
end Go.Proofs.YtlpmiimgacfmkaaGreatDoor
