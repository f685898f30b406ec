/- SHA-256: (Hash).Sum. -/
import Derived.Deep.RegionHeld3
import Derived.Deep.CutBlock
import Derived.Test.YtlpmiimgacfmkaaGreatDoorMHsh3
set_option linter.all false
namespace Go.Proofs.YtlpmiimgacfmkaaGreatDoor
open Go.Proofs.Tryz
open Go.RowKit
set_option maxRecDepth 100000
set_option maxHeartbeats 4000000
def stL (h:HS):List Value:=(List.range 8).map fun j=>.int .u32 (h.st j)
def restL (h:HS):List Value:=(List.range 64).map fun j=>.int .u8 (h.rest j)
theorem stL_len (h:HS):(stL h).length=8:=by simp[stL]
theorem stL_size (h:HS):(stL h).toArray.size=8:=by simp[stL]
theorem restL_size (h:HS):(restL h).toArray.size=64:=by simp[restL]
theorem restL_len (h:HS):(restL h).length=64:=by simp[restL]
theorem HashAt.st {w:World} {b:Nat} {h:HS} (hH:HashAt w b h):w.rangeAt b 1 (stL h):=by
 intro j v hv;have hj:j<8:=by have:=(lgs.1 hv).1;rwa [stL_len] at this
 rw[hH.cell (by omega),<-hv];unfold stL hcell;rw[if_neg (by omega),if_pos (by omega),List.getElem?_map,List.getElem?_range hj,Option.map_some,show 1+j - 1=j by omega]
theorem HashAt.rest {w:World} {b:Nat} {h:HS} (hH:HashAt w b h):w.rangeAt b 9 (restL h):=by
 intro j v hv;have hj:j<64:=by have:=(lgs.1 hv).1;rwa [restL_len] at this
 rw[hH.cell (by omega),<-hv];unfold restL hcell;rw[if_neg (by omega),if_neg (by omega),List.getElem?_map,List.getElem?_range hj,Option.map_some,show 9+j - 9=j by omega]
theorem HashAt.len {w:World} {b:Nat} {h:HS} (hH:HashAt w b h):w.cell? ⟨b,0,none⟩=some (.int .i64 (h.len:Int)):=World.rowIs.cell hH (by omega)
theorem HashAt.alloc {w:World} {b:Nat} {h:HS} (hH:HashAt w b h) (o:Obj):HashAt (w.alloc o) b h:=World.rowIs.alloc hH o
theorem HashAt.fr {S:List Nat} {w w':World} {b:Nat} {h:HS} (hH:HashAt w b h) (hf:Fr S w w') (hb:b ∉ S):HashAt w' b h:=rowIs_fr hH hf hb
theorem row_new (w:World) (c:Array Value) (t:TypeId):(w.alloc (.cells c t)).rowIs w.heap.size t c.size (fun i=>c[i]?.getD default):=World.rowIs_alloc w c t _ (fun i hi=>by rw[Array.getElem?_eq_getElem hi];rfl)
def hb1 (h:HS) (j:Nat):Int:=if j<h.len % 64 then h.rest j else if j=h.len % 64 then 128 else 0
def hs0 (h:HS):Nat->Int:=if h.len=0 then iv else h.st
def hs1 (h:HS):Nat->Int:=if 56<=h.len % 64 then comp (hs0 h) (hb1 h) else hs0 h
def hbl (h:HS):Nat->Int:=if 56<=h.len % 64 then fun _=>0 else hb1 h
def hsum (h:HS):Nm:=dig (comp (hs1 h) (fun j=>if 56<=j then lenB (8*(h.len:Int)) j else hbl h j))
theorem hb1_63 {h:HS} {m j:Nat} (hm:h.len % 64=m) (h63:m=63) (hj:j<64):Value.int .u8 (if j=m then 128 else h.rest j)=.int .u8 (hb1 h j):=by
 unfold hb1;rw[hm]
 by_cases e:j=m
 ·rw[if_pos e,if_neg (by omega),if_pos e]
 ·rw[if_neg e,if_pos (by omega)]
theorem hb1_clear {h:HS} {m j:Nat} (hm:h.len % 64=m) (h63:m<63) (hj:j<64):(if m+1<=j/\j<m+1+(List.replicate (63 - m) (Value.int .u8 0)).length then (List.replicate (63 - m) (Value.int .u8 0))[j - (m+1)]?.getD default else Value.int .u8 (if j=m then 128 else h.rest j))=.int .u8 (hb1 h j):=by
 unfold hb1;rw[hm];simp only[List.length_replicate]
 by_cases e:m+1<=j/\j<m+1+(63 - m)
 ·rw[if_pos e,if_neg (by omega),if_neg (by omega),List.getElem?_replicate,if_pos (by omega)]
  rfl
 ·rw[if_neg e]
  by_cases e2:j=m
  ·rw[if_pos e2,if_neg (by omega),if_pos e2]
  ·rw[if_neg e2,if_pos (by omega)]
theorem iv_get {j:Nat} (hj:j<8):(ivL.map (Value.int .u32))[j]?=some (.int .u32 (iv j)):=by
 rw[List.getElem?_map,lge (show j<ivL.length from hj)];unfold iv;rw[List.getD_eq_getElem?_getD,lge (show j<ivL.length from hj)];rfl
theorem iv_range {w:World} (hok:Ok w):w.rangeAt 1 0 (ivL.map (Value.int .u32)):=by
 intro j v hv;have hj:j<8:=by have:=(lgs.1 hv).1;simpa [ivL] using this
 rw[Nat.zero_add,hok.ivs j hj,<-hv,iv_get hj]
def Cut3 (w:World) (b:Nat) (h:HS) (s3 s4 s5:Value) (W:World):Prop :=
 ∃ P Q,s3=.pointer (some ⟨P,0,none⟩)/\s4=.pointer (some ⟨Q,0,none⟩)/\s5=.int .i64 ((h.len % 64:Nat):Int)/\P≠Q/\w.heap.size<=P/\w.heap.size<=Q/\W.rowIs P 162 8 (fun j=>.int .u32 (h.st j))/\W.rowIs Q 163 64 (fun j=>.int .u8 (h.rest j))/\Fr [] w W
theorem Sum_any (b:Nat) (h:HS) (w:World) (hok:Ok w) (hb:6<=b) (hlen:h.len<=1152921504606846976) (hH:HashAt w b h) :
 Calls prog 80 #[.pointer (some ⟨b,0,none⟩)] w (SumPost w (hsum h)):=by
 have HH:=Hd hH;clear hH
 go_enter func80,ntmps80
 go_upto_region 3 with fail
 obtain⟨W0,hW0⟩:=nmd (w.alloc (.cells (z32) 57));have hbw:b<W0.heap.size:=by rw[<-hW0,wsA];have:=World.rowIs.lt HH.out;omega
 have HB:=Hd hbw;clear hbw;rw[hW0]
 go_cut [3,4,5] from 14 to 26 (fun s3 s4 s5 W=>Cut3 W0 b h s3 s4 s5 W)
 case first =>
  refine wp_region_held_drew (S:=fun W=>HashAt W b h) (by kernel_rfl) ?_ (fun hHeld=>?_)
  ·rw[<-hW0];exact HH.out.alloc _
  refine wpAnyH_take (i:=0) (v:=?_) rfl (by kernel_rfl) (by kernel_rfl) (by kernel_rfl) (fun _ _ _ h=>h) (Or.inl ⟨by rfl,?_⟩) (by assumption) ?_
  rotate_left
  ·intro wS hSw
   have hlen:=hSw.len;go_simp
   try with_reducible rfl
  try simp only[Act.put,qD,qE,qF,qA,qB,qC]
  refine wpAnyH_take (i:=1) (v:=?_) rfl (by kernel_rfl) (by kernel_rfl) (by kernel_rfl) (fun _ _ _ h=>h) (Or.inl ⟨by rfl,?_⟩) (by assumption) ?_
  rotate_left
  ·intro wS hSw
   have hlen:=hSw.len;go_simp
   try with_reducible rfl
  try simp only[Act.put,qD,qE,qF,qA,qB,qC]
  refine wpAnyH_take (i:=2) (v:=?_) rfl (by kernel_rfl) (by kernel_rfl) (by kernel_rfl) (fun _ _ _ h=>h) (Or.inl ⟨by rfl,?_⟩) (by assumption) ?_
  rotate_left
  ·intro wS hSw
   have hlen:=hSw.len;go_simp
   try with_reducible rfl
  try simp only[Act.put,qD,qE,qF,qA,qB,qC]
  refine wpAnyH_take (i:=3) rfl (by kernel_rfl) (by kernel_rfl) (by kernel_rfl) (fun _ _ _ h=>h) (yieldsIf_load_mid (by rfl) 162 (.tmp 16) rfl b 1 rfl (stL h) (.array 8 161) (fun _ hS=>hS.st) (by kernel_rfl) rfl (by rfl)) (by assumption) ?_
  try simp only[Act.put,qD,qE,qF,qA,qB,qC]
  refine wpAnyH_take (i:=4) (v:=?_) rfl (by kernel_rfl) (by kernel_rfl) (by kernel_rfl) (fun _ _ _ h=>h) (Or.inl ⟨by rfl,?_⟩) (by assumption) ?_
  rotate_left
  ·intro wS hSw
   have hlen:=hSw.len;go_simp
   try with_reducible rfl
  try simp only[Act.put,qD,qE,qF,qA,qB,qC]
  refine wpAnyH_take (i:=5) (v:=?_) rfl (by kernel_rfl) (by kernel_rfl) (by kernel_rfl) (fun _ _ _ h=>h) (Or.inl ⟨by rfl,?_⟩) (by assumption) ?_
  rotate_left
  ·intro wS hSw
   have hlen:=hSw.len;go_simp
   try with_reducible rfl
  try simp only[Act.put,qD,qE,qF,qA,qB,qC]
  refine wpAnyH_take (i:=6) (v:=?_) rfl (by kernel_rfl) (by kernel_rfl) (by kernel_rfl) (fun _ _ _ h=>h) (Or.inl ⟨by rfl,?_⟩) (by assumption) ?_
  rotate_left
  ·intro wS hSw
   have hlen:=hSw.len;go_simp
   try with_reducible rfl
  try simp only[Act.put,qD,qE,qF,qA,qB,qC]
  refine wpAnyH_take (i:=7) rfl (by kernel_rfl) (by kernel_rfl) (by kernel_rfl) (fun _ _ _ h=>h) (yieldsIf_load_mid (by rfl) 163 (.tmp 20) rfl b 9 rfl (restL h) (.array 64 5) (fun _ hS=>hS.rest) (by kernel_rfl) rfl (by rfl)) (by assumption) ?_
  try simp only[Act.put,qD,qE,qF,qA,qB,qC]
  refine wpAnyH_take (i:=8) (v:=?_) rfl (by kernel_rfl) (by kernel_rfl) (by kernel_rfl) (fun _ _ _ h=>h) (Or.inl ⟨by rfl,?_⟩) (by assumption) ?_
  rotate_left
  ·intro wS hSw
   have hlen:=hSw.len;go_simp
   try with_reducible rfl
  try simp only[Act.put,qD,qE,qF,qA,qB,qC]
  refine wpAnyH_take (i:=9) (v:=?_) rfl (by kernel_rfl) (by kernel_rfl) (by kernel_rfl) (fun _ _ _ h=>h) (Or.inl ⟨by rfl,?_⟩) (by assumption) ?_
  rotate_left
  ·intro wS hSw
   have hlen:=hSw.len;go_simp
   try with_reducible rfl
  try simp only[Act.put,qD,qE,qF,qA,qB,qC]
  refine wpAnyH_take (i:=10) (v:=?_) rfl (by kernel_rfl) (by kernel_rfl) (by kernel_rfl) (fun _ _ _ h=>h) (Or.inl ⟨by rfl,?_⟩) (by assumption) ?_
  rotate_left
  ·intro wS hSw
   have hlen:=hSw.len;go_simp
   try with_reducible rfl
  try simp only[Act.put,qD,qE,qF,qA,qB,qC]
  refine wpAnyH_take (i:=11) (v:=?_) rfl (by kernel_rfl) (by kernel_rfl) (by kernel_rfl) (fun _ _ _ h=>h) (Or.inl ⟨by rfl,?_⟩) (by assumption) ?_
  rotate_left
  ·intro wS hSw
   have hlen:=hSw.len;go_simp
   try with_reducible rfl
  try simp only[Act.put,qD,qE,qF,qA,qB,qC]
  refine wpAnyH_take (i:=12) (v:=?_) rfl (by kernel_rfl) (by kernel_rfl) (by kernel_rfl) (fun _ _ _ h=>h) (Or.inl ⟨by rfl,?_⟩) (by assumption) ?_
  rotate_left
  ·intro wS hSw
   have hlen:=hSw.len;go_simp
   try with_reducible rfl
  try simp only[Act.put,qD,qE,qF,qA,qB,qC]
  refine wpAnyH_ready (rs:=[13,14]) (by kernel_rfl) (by simp) ?_;refine AllReadyH.cons rfl (fun K hK=>?_) (AllReadyH.cons rfl (fun K hK=>?_) AllReadyH.nil)
  ·go_simp
   refine hK.out _ _ ?_ (fun hHeld=>?_)
   ·exact HashAt.alloc hHeld _
   clear hK K
   try simp only[Act.put,qD,qE,qF,qA,qB,qC]
   refine wpAnyH_ready (rs:=[14]) (by kernel_rfl) (by simp) ?_;refine AllReadyH.cons rfl (fun K hK=>?_) AllReadyH.nil;go_simp
   refine hK.out _ _ ?_ (fun hHeld=>?_)
   ·exact HashAt.alloc hHeld _
   clear hK K
   try simp only[Act.put,qD,qE,qF,qA,qB,qC]
   obtain⟨W1,hW1⟩:=nmd (((W0.alloc (.cells (#[.int .u32 0,.int .u32 0,.int .u32 0,.int .u32 0,.int .u32 0,.int .u32 0,.int .u32 0,.int .u32 0]) 162)).alloc (.cells (#[.int .u8 0,.int .u8 0,.int .u8 0,.int .u8 0,.int .u8 0,.int .u8 0,.int .u8 0,.int .u8 0,.int .u8 0,.int .u8 0,.int .u8 0,.int .u8 0,.int .u8 0,.int .u8 0,.int .u8 0,.int .u8 0,.int .u8 0,.int .u8 0,.int .u8 0,.int .u8 0,.int .u8 0,.int .u8 0,.int .u8 0,.int .u8 0,.int .u8 0,.int .u8 0,.int .u8 0,.int .u8 0,.int .u8 0,.int .u8 0,.int .u8 0,.int .u8 0,.int .u8 0,.int .u8 0,.int .u8 0,.int .u8 0,.int .u8 0,.int .u8 0,.int .u8 0,.int .u8 0,.int .u8 0,.int .u8 0,.int .u8 0,.int .u8 0,.int .u8 0,.int .u8 0,.int .u8 0,.int .u8 0,.int .u8 0,.int .u8 0,.int .u8 0,.int .u8 0,.int .u8 0,.int .u8 0,.int .u8 0,.int .u8 0,.int .u8 0,.int .u8 0,.int .u8 0,.int .u8 0,.int .u8 0,.int .u8 0,.int .u8 0,.int .u8 0]) 163)).drew);obtain⟨fP,hP⟩:∃ f,W1.rowIs W0.heap.size 162 8 f:=by rw[<-hW1];exact⟨_,((row_new W0 _ _).alloc _).drew⟩
   obtain⟨fQ,hQ⟩:∃ f,W1.rowIs (W0.heap.size+1) 163 64 f:=by rw[<-hW1];have:=row_new (W0.alloc (.cells (#[.int .u32 0,.int .u32 0,.int .u32 0,.int .u32 0,.int .u32 0,.int .u32 0,.int .u32 0,.int .u32 0]) 162)) (#[.int .u8 0,.int .u8 0,.int .u8 0,.int .u8 0,.int .u8 0,.int .u8 0,.int .u8 0,.int .u8 0,.int .u8 0,.int .u8 0,.int .u8 0,.int .u8 0,.int .u8 0,.int .u8 0,.int .u8 0,.int .u8 0,.int .u8 0,.int .u8 0,.int .u8 0,.int .u8 0,.int .u8 0,.int .u8 0,.int .u8 0,.int .u8 0,.int .u8 0,.int .u8 0,.int .u8 0,.int .u8 0,.int .u8 0,.int .u8 0,.int .u8 0,.int .u8 0,.int .u8 0,.int .u8 0,.int .u8 0,.int .u8 0,.int .u8 0,.int .u8 0,.int .u8 0,.int .u8 0,.int .u8 0,.int .u8 0,.int .u8 0,.int .u8 0,.int .u8 0,.int .u8 0,.int .u8 0,.int .u8 0,.int .u8 0,.int .u8 0,.int .u8 0,.int .u8 0,.int .u8 0,.int .u8 0,.int .u8 0,.int .u8 0,.int .u8 0,.int .u8 0,.int .u8 0,.int .u8 0,.int .u8 0,.int .u8 0,.int .u8 0,.int .u8 0]) 163;rw[wsA] at this;exact⟨_,this.drew⟩
   have hF:Fr [] W0 W1:=by rw[<-hW1];exact (((Fq [] W0).alloc _).alloc _).drew
   rw[hW1] at hHeld ⊢;clear hW1;have hbP:b≠W0.heap.size:=by have:=HB.out;omega
   have hbQ:b≠W0.heap.size+1:=by have:=HB.out;omega
   have hPQ:W0.heap.size≠W0.heap.size+1:=by omega
   have hP1:=rowIs_whole hP (stL_len h) (g:=fun j=>.int .u32 (h.st j)) (fun j hj=>by unfold stL;rw[List.getElem?_map,List.getElem?_range hj,Option.map_some]);have hQ1:=rowIs_setCells_other (b:=W0.heap.size) (b':=W0.heap.size+1) hPQ.symm (stL h) 0 _ hQ;have hH1:=hHeld.fr ((Fq [W0.heap.size] W1).setCells (p:=W0.heap.size) (by simp) (stL h) 0) (by simpa using hbP);have hF1:=hF.setCells (p:=W0.heap.size) (.inr (by omega)) (stL h) 0;obtain⟨W2,hW2⟩:=nmd (W1.setCells (W0.heap.size) 0 (stL h));rw[hW2] at hP1 hQ1 hH1 hF1;refine wpAnyH_ready (rs:=[15]) (by kernel_rfl) (by simp) ?_;refine AllReadyH.cons rfl (fun K hK=>?_) AllReadyH.nil;rw[if_pos (by rfl)];refine wp_store_mid 162 (.tmp 3) (.tmp 17) rfl (W0.heap.size) 0 (stL h).toArray rfl rfl (by rw[stL_size];exact there_row hP (by omega)) (by rw[stL_size];kernel_rfl) (all_oneCell_toArray (by intro v hv;obtain⟨x,_,rfl⟩:=List.mem_map.1 hv;rfl)) ?_;rw[show (stL h).toArray.toList=stL h from rfl,hW2];clear hHeld;refine hK.out _ _ hH1 (fun hHeld=>?_);clear hK K hW2;have hP2:=rowIs_setCells_other (b:=W0.heap.size+1) (b':=W0.heap.size) hPQ (restL h) 0 _ hP1;have hQ2:=rowIs_whole hQ1 (restL_len h) (g:=fun j=>.int .u8 (h.rest j)) (fun j hj=>by unfold restL;rw[List.getElem?_map,List.getElem?_range hj,Option.map_some]);have hH2:=hH1.fr ((Fq [W0.heap.size+1] _).setCells (p:=W0.heap.size+1) (by simp) (restL h) 0) (by simpa using hbQ);have hF2:=hF1.setCells (p:=W0.heap.size+1) (.inr (by omega)) (restL h) 0;obtain⟨W3,hW3⟩:=nmd (W2.setCells (W0.heap.size+1) 0 (restL h));rw[hW3] at hP2 hQ2 hH2 hF2
   try simp only[Act.put,qD,qE,qF,qA,qB,qC]
   refine wpAnyH_ready (rs:=[16]) (by kernel_rfl) (by simp) ?_;refine AllReadyH.cons rfl (fun K hK=>?_) AllReadyH.nil;rw[if_pos (by rfl)];refine wp_store_mid 163 (.tmp 4) (.tmp 21) rfl (W0.heap.size+1) 0 (restL h).toArray rfl rfl (by rw[restL_size];exact there_row hQ1 (by omega)) (by rw[restL_size];kernel_rfl) (all_oneCell_toArray (by intro v hv;obtain⟨x,_,rfl⟩:=List.mem_map.1 hv;rfl)) ?_;rw[show (restL h).toArray.toList=restL h from rfl,hW3];clear hHeld;refine hK.out _ _ hH2 (fun hHeld=>?_);clear hK K hW3
   try simp only[Act.put,qD,qE,qF,qA,qB,qC]
   refine wpAnyH_take (i:=17) (v:=?_) rfl (by kernel_rfl) (by kernel_rfl) (by kernel_rfl) (fun _ _ _ h=>h) (Or.inl ⟨by rfl,?_⟩) (by assumption) ?_
   rotate_left
   ·intro wS hSw
    have hlen:=hSw.len;go_simp
    try with_reducible rfl
   try simp only[Act.put,qD,qE,qF,qA,qB,qC]
   refine wpAnyH_done (by kernel_rfl) ?_ _
   go_wp2_with fail
   go_meet
   exact⟨_,_,rfl,rfl,rfl,hPQ,by omega,by omega,hP2,hQ2,hF2⟩
  ·go_simp
   refine hK.out _ _ ?_ (fun hHeld=>?_)
   ·exact HashAt.alloc hHeld _
   clear hK K
   try simp only[Act.put,qD,qE,qF,qA,qB,qC]
   refine wpAnyH_ready (rs:=[13]) (by kernel_rfl) (by simp) ?_;refine AllReadyH.cons rfl (fun K hK=>?_) AllReadyH.nil;go_simp
   refine hK.out _ _ ?_ (fun hHeld=>?_)
   ·exact HashAt.alloc hHeld _
   clear hK K
   try simp only[Act.put,qD,qE,qF,qA,qB,qC]
   obtain⟨W1,hW1⟩:=nmd (((W0.alloc (.cells (#[.int .u8 0,.int .u8 0,.int .u8 0,.int .u8 0,.int .u8 0,.int .u8 0,.int .u8 0,.int .u8 0,.int .u8 0,.int .u8 0,.int .u8 0,.int .u8 0,.int .u8 0,.int .u8 0,.int .u8 0,.int .u8 0,.int .u8 0,.int .u8 0,.int .u8 0,.int .u8 0,.int .u8 0,.int .u8 0,.int .u8 0,.int .u8 0,.int .u8 0,.int .u8 0,.int .u8 0,.int .u8 0,.int .u8 0,.int .u8 0,.int .u8 0,.int .u8 0,.int .u8 0,.int .u8 0,.int .u8 0,.int .u8 0,.int .u8 0,.int .u8 0,.int .u8 0,.int .u8 0,.int .u8 0,.int .u8 0,.int .u8 0,.int .u8 0,.int .u8 0,.int .u8 0,.int .u8 0,.int .u8 0,.int .u8 0,.int .u8 0,.int .u8 0,.int .u8 0,.int .u8 0,.int .u8 0,.int .u8 0,.int .u8 0,.int .u8 0,.int .u8 0,.int .u8 0,.int .u8 0,.int .u8 0,.int .u8 0,.int .u8 0,.int .u8 0]) 163)).alloc (.cells (#[.int .u32 0,.int .u32 0,.int .u32 0,.int .u32 0,.int .u32 0,.int .u32 0,.int .u32 0,.int .u32 0]) 162)).drew);obtain⟨fQ,hQ⟩:∃ f,W1.rowIs W0.heap.size 163 64 f:=by rw[<-hW1];exact⟨_,((row_new W0 _ _).alloc _).drew⟩
   obtain⟨fP,hP⟩:∃ f,W1.rowIs (W0.heap.size+1) 162 8 f:=by rw[<-hW1];have:=row_new (W0.alloc (.cells (#[.int .u8 0,.int .u8 0,.int .u8 0,.int .u8 0,.int .u8 0,.int .u8 0,.int .u8 0,.int .u8 0,.int .u8 0,.int .u8 0,.int .u8 0,.int .u8 0,.int .u8 0,.int .u8 0,.int .u8 0,.int .u8 0,.int .u8 0,.int .u8 0,.int .u8 0,.int .u8 0,.int .u8 0,.int .u8 0,.int .u8 0,.int .u8 0,.int .u8 0,.int .u8 0,.int .u8 0,.int .u8 0,.int .u8 0,.int .u8 0,.int .u8 0,.int .u8 0,.int .u8 0,.int .u8 0,.int .u8 0,.int .u8 0,.int .u8 0,.int .u8 0,.int .u8 0,.int .u8 0,.int .u8 0,.int .u8 0,.int .u8 0,.int .u8 0,.int .u8 0,.int .u8 0,.int .u8 0,.int .u8 0,.int .u8 0,.int .u8 0,.int .u8 0,.int .u8 0,.int .u8 0,.int .u8 0,.int .u8 0,.int .u8 0,.int .u8 0,.int .u8 0,.int .u8 0,.int .u8 0,.int .u8 0,.int .u8 0,.int .u8 0,.int .u8 0]) 163)) (#[.int .u32 0,.int .u32 0,.int .u32 0,.int .u32 0,.int .u32 0,.int .u32 0,.int .u32 0,.int .u32 0]) 162;rw[wsA] at this;exact⟨_,this.drew⟩
   have hF:Fr [] W0 W1:=by rw[<-hW1];exact (((Fq [] W0).alloc _).alloc _).drew
   rw[hW1] at hHeld ⊢;clear hW1;have hbP:b≠W0.heap.size+1:=by have:=HB.out;omega
   have hbQ:b≠W0.heap.size:=by have:=HB.out;omega
   have hPQ:W0.heap.size+1≠W0.heap.size:=by omega
   have hP1:=rowIs_whole hP (stL_len h) (g:=fun j=>.int .u32 (h.st j)) (fun j hj=>by unfold stL;rw[List.getElem?_map,List.getElem?_range hj,Option.map_some]);have hQ1:=rowIs_setCells_other (b:=W0.heap.size+1) (b':=W0.heap.size) hPQ.symm (stL h) 0 _ hQ;have hH1:=hHeld.fr ((Fq [W0.heap.size+1] W1).setCells (p:=W0.heap.size+1) (by simp) (stL h) 0) (by simpa using hbP);have hF1:=hF.setCells (p:=W0.heap.size+1) (.inr (by omega)) (stL h) 0;obtain⟨W2,hW2⟩:=nmd (W1.setCells (W0.heap.size+1) 0 (stL h));rw[hW2] at hP1 hQ1 hH1 hF1;refine wpAnyH_ready (rs:=[15]) (by kernel_rfl) (by simp) ?_;refine AllReadyH.cons rfl (fun K hK=>?_) AllReadyH.nil;rw[if_pos (by rfl)];refine wp_store_mid 162 (.tmp 3) (.tmp 17) rfl (W0.heap.size+1) 0 (stL h).toArray rfl rfl (by rw[stL_size];exact there_row hP (by omega)) (by rw[stL_size];kernel_rfl) (all_oneCell_toArray (by intro v hv;obtain⟨x,_,rfl⟩:=List.mem_map.1 hv;rfl)) ?_;rw[show (stL h).toArray.toList=stL h from rfl,hW2];clear hHeld;refine hK.out _ _ hH1 (fun hHeld=>?_);clear hK K hW2;have hP2:=rowIs_setCells_other (b:=W0.heap.size) (b':=W0.heap.size+1) hPQ (restL h) 0 _ hP1;have hQ2:=rowIs_whole hQ1 (restL_len h) (g:=fun j=>.int .u8 (h.rest j)) (fun j hj=>by unfold restL;rw[List.getElem?_map,List.getElem?_range hj,Option.map_some]);have hH2:=hH1.fr ((Fq [W0.heap.size] _).setCells (p:=W0.heap.size) (by simp) (restL h) 0) (by simpa using hbQ);have hF2:=hF1.setCells (p:=W0.heap.size) (.inr (by omega)) (restL h) 0;obtain⟨W3,hW3⟩:=nmd (W2.setCells (W0.heap.size) 0 (restL h));rw[hW3] at hP2 hQ2 hH2 hF2
   try simp only[Act.put,qD,qE,qF,qA,qB,qC]
   refine wpAnyH_ready (rs:=[16]) (by kernel_rfl) (by simp) ?_;refine AllReadyH.cons rfl (fun K hK=>?_) AllReadyH.nil;rw[if_pos (by rfl)];refine wp_store_mid 163 (.tmp 4) (.tmp 21) rfl (W0.heap.size) 0 (restL h).toArray rfl rfl (by rw[restL_size];exact there_row hQ1 (by omega)) (by rw[restL_size];kernel_rfl) (all_oneCell_toArray (by intro v hv;obtain⟨x,_,rfl⟩:=List.mem_map.1 hv;rfl)) ?_;rw[show (restL h).toArray.toList=restL h from rfl,hW3];clear hHeld;refine hK.out _ _ hH2 (fun hHeld=>?_);clear hK K hW3
   try simp only[Act.put,qD,qE,qF,qA,qB,qC]
   refine wpAnyH_take (i:=17) (v:=?_) rfl (by kernel_rfl) (by kernel_rfl) (by kernel_rfl) (fun _ _ _ h=>h) (Or.inl ⟨by rfl,?_⟩) (by assumption) ?_
   rotate_left
   ·intro wS hSw
    have hlen:=hSw.len;go_simp
    try with_reducible rfl
   try simp only[Act.put,qD,qE,qF,qA,qB,qC]
   refine wpAnyH_done (by kernel_rfl) ?_ _
   go_wp2_with fail
   go_meet
   exact⟨_,_,rfl,rfl,rfl,hPQ,by omega,by omega,hP2,hQ2,hF2⟩
 case rest =>
  obtain⟨P,Q,rfl,rfl,rfl,hPQ,gP,gQ,hP,hQ,hf⟩:=hcut;have hW0f:Fr [] w W0:=by rw[<-hW0];exact (Fq [] w).alloc _
  have hRr:∃ fR,W0.rowIs w.heap.size 57 32 fR:=by rw[<-hW0];exact⟨_,row_new w _ _⟩
  have hs0:w.heap.size<W0.heap.size:=by rw[<-hW0,wsA];omega
  obtain⟨fR,hR0⟩:=hRr;have hRc:=rowIs_fr hR0 hf (by simp);have hFc:Fr [] w wc:=hW0f.trans hf (by simp);have hHc:HashAt wc b h:=HH.out.fr hFc (by simp);have hb0:b<w.heap.size:=World.rowIs.lt HH.out;have hbP:b≠P:=by omega
  have hbQ:b≠Q:=by omega
  have hPR:P≠w.heap.size:=by omega
  have hQR:Q≠w.heap.size:=by omega
  have gP2:w.heap.size<=P:=by omega
  have gQ2:w.heap.size<=Q:=by omega
  have hw6:=hok.low;clear hW0 hW0f hR0 hf hs0 HB;obtain⟨m,hm⟩:=nmd (h.len % 64);have hm64:m<64:=by omega
  rw[hm]
  by_cases h0:h.len=0
  ·have c0:wc.cell? ⟨b,0,none⟩=some (.int .i64 0):=by have:=hHc.len;rwa [h0] at this
   have hth:=there_row hP (nlr 8);have hst:=run_storeCells_cells (P:=prog) P 0 (ivL.map (Value.int .u32)) 0 wc (fun j hj=>(hth j hj).1) (fun j hj=>(hth j hj).2) (by intro v hv;obtain⟨x,_,rfl⟩:=List.mem_map.1 hv;rfl);simp only[Nat.add_zero] at hst;have hir:wc.rangeAt 1 0 (ivL.map (Value.int .u32)):=iv_range (hok.fr0 hFc);obtain⟨W5,hW5⟩:=nmd (wc.setCells P 0 (ivL.map (Value.int .u32)));have hiv8:ivL.length=8:=rfl
   have hP5:W5.rowIs P 162 8 (fun j=>.int .u32 (hs0 h j)):=by
    rw[<-hW5];exact rowIs_whole hP rfl (fun j hj=>by unfold hs0;rw[if_pos h0];exact iv_get hj)
   have hf5:Fr [P] wc W5:=by rw[<-hW5];exact (Fq [P] _).setCells (by simp) _ _
   rw[hW5] at hst;have HIR:=Hd hir;have HFc:=Hd (hFc.trans hf5 (by simpa using gP2));have HRc:=Hd (rowIs_fr hRc hf5 (by simpa using fun e=>hPR e.symm));have HP0:=Hd hP5;have HQ:=Hd (rowIs_fr hQ hf5 (by simpa using fun e=>hPQ e.symm));have H0:=Hd h0;clear hHc hFc hRc hP hQ hth hir hP5 hf5 hW5 h0
   go_upto_region 6 with ((with_reducible refine wpList_load_mid rfl 162 (.global 1) rfl 1 0 rfl _ _ HIR.out rfl rfl rfl ?_))
   clear hst c0;have xk:(W5).cell? ⟨Q,m,none⟩=some _:=HQ.out.cell (by omega);have xf:=HQ.out.frozen m;have hmi:(m:Int)<64:=by omega
   go_upto_region 7 with fail
   obtain⟨W6,hW6⟩:=nmd ((W5).setCell ⟨Q,m,none⟩ (.int .u8 128))
   have q6:W6.rowIs Q 163 64 (fun j=>.int .u8 (if j=m then 128 else h.rest j)):=by
    rw[<-hW6];exact (HQ.out.set m (.int .u8 128)).congr (fun j hj=>by by_cases e:j=m <;> simp[e])
   have f6:Fr [Q] (W5) W6:=by rw[<-hW6];exact (Fq [Q] _).set (p:=⟨Q,m,none⟩) (by simp) _
   rw[hW6];clear hW6 xk xf
   by_cases hm63:m=63
   ·have q7:W6.rowIs Q 163 64 (fun j=>.int .u8 (hb1 h j)):=q6.congr (fun j hj=>hb1_63 hm hm63 hj)
    have hcl:∀ (A:Option Addr) (c:Nat) (ty:TypeId),(Builtin.clear_ #[49] ty #[.slice A 0 c]).run prog W6=.ok (.tuple #[]) W6:=fun A c ty=>by cases A <;> simp[Builtin.clear_,run_underlying (P:=prog) (t:=49) (d:=.slice 5) (by kernel_rfl)]
    subst hm63;have Q7:=Hd q7;have F7:=Hd f6;clear q6 q7 f6
    go_upto_region 8 with fail
    clear hcl;have hge':(56:Int)<=((63:Nat):Int):=by omega
    have F8:=Hd (HFc.out.trans F7.out (by simpa using gQ2));have OK8:=Hd (hok.fr0 F8.out);have P8:=Hd (rowIs_fr HP0.out F7.out (by simpa using hPQ));have R8:=Hd (rowIs_fr HRc.out F7.out (by simpa using fun e=>hQR e.symm))
    go_upto_region 9 with fail
    go_upto_region 10 with ((go_at_call 144;refine (compress_two P Q _ _ (W6) OK8.out P8.out Q7.out).mono ?_;rintro e W8 ⟨rfl,hp8,hf8⟩))
    have P9':=Hd hp8;have q8:=rowIs_fr Q7.out hf8 (by simpa using fun e=>hPQ e.symm);have r8:=rowIs_fr R8.out hf8 (by simpa using fun e=>hPR e.symm);have f8:=F8.out.trans hf8 (by simpa using gP2)
    have hcl:∀ (c:Nat) (ty:TypeId),(Builtin.clear_ #[49] ty #[.slice (some ⟨Q,0,none⟩) 64 c]).run prog W8=.ok (.tuple #[]) (W8.setCells Q 0 (List.replicate 64 (.int .u8 0))):=fun c ty =>
     Lib.run_clear_slice W8 49 5 ty (.int .u8 0) (by kernel_rfl) (fun _=>by rfl) rfl rfl Q 0 64 c (by omega) (fun j hj=>by rw[q8.cell (by omega)];rfl) (fun j hj=>q8.frozen _)
    obtain⟨W9,hW9⟩:=nmd (W8.setCells Q 0 (List.replicate 64 (.int .u8 0)))
    have q9:W9.rowIs Q 163 64 (fun j=>.int .u8 (hbl h j)):=by
     rw[<-hW9];exact rowIs_whole q8 (by simp) (fun j hj=>by unfold hbl;rw[if_pos (by omega),List.getElem?_replicate,if_pos hj])
    have hg9:Fr [Q] W8 W9:=by rw[<-hW9];exact (Fq [Q] _).setCells (by simp) _ _
    rw[hW9] at hcl;have F9:=Hd (f8.trans hg9 (by simpa using gQ2));have OK9:=Hd (hok.fr0 F9.out);have P9:Hid (W9.rowIs P 162 8 (fun j=>.int .u32 (hs1 h j))):=Hd ((rowIs_fr P9'.out hg9 (by simpa using hPQ)).congr (fun j hj=>by unfold hs1;rw[if_pos (by omega)]));have Q9:=Hd q9;have R9:=Hd (rowIs_fr r8 hg9 (by simpa using fun e=>hQR e.symm));have c9:=(HH.out.fr F9.out (by simp)).len;clear hp8 q8 r8 f8 q9 hg9 hW9 hf8
    go_upto_block 0 with fail
    refine sum12_any _ w (W9) w.heap.size P Q (8*(h.len:Int)) (hs1 h) (hbl h) fR OK9.out P9.out Q9.out R9.out hPQ hPR hQR hw6 gP2 gQ2 (nlr _) F9.out (by omega) (by omega) _ _ rfl rfl (by assumption) _ _ _ _ _ _ _ _ _ _ _ _ _ _ _ _ _ _ _ _ _ _ _ _ _ _ _ _ _ _ _ _ _ _ _ _ _ _ _ _ _ _ _ _ _ _ _ _ _ _ _ _ _ _ _ _ _ _ _ _ _ _ _ _ _ _ _ _ _ _ _ _ _ _ _ _ _ _ _ _ _ _ _ _ _ _ _ _ _
   ·have hcl:∀ (c:Nat) (ty:TypeId),(Builtin.clear_ #[49] ty #[.slice (some ⟨Q,m+1,none⟩) (63 - m) c]).run prog W6=.ok (.tuple #[]) (W6.setCells Q (m+1) (List.replicate (63 - m) (.int .u8 0))):=fun c ty =>
     Lib.run_clear_slice W6 49 5 ty (.int .u8 0) (by kernel_rfl) (fun _=>by rfl) rfl rfl Q (m+1) (63 - m) c (by omega) (fun j hj=>by rw[q6.cell (by omega)];rfl) (fun j hj=>q6.frozen _)
    obtain⟨W7,hW7⟩:=nmd (W6.setCells Q (m+1) (List.replicate (63 - m) (.int .u8 0)))
    have q7:W7.rowIs Q 163 64 (fun j=>.int .u8 (hb1 h j)):=by
     rw[<-hW7];exact (rowIs_setCells _ _ _ _ q6).congr (fun j hj=>hb1_clear hm (by omega) hj)
    have f7:Fr [Q] (W5) W7:=by rw[<-hW7];exact f6.setCells (by simp) _ _
    rw[hW7] at hcl;have Q7:=Hd q7;have F7:=Hd f7;clear q6 q7 f6 f7 hW7;have i1:(m:Int)+1<=64:=by omega
    have i2:(0:Int)<=(m:Int)+1:=by omega
    have i3:((m:Int)+1).toNat=m+1:=by omega
    have i4:¬ (64=m+1):=by omega
    have i5:¬ (m=63):=by omega
    go_upto_region 8 with fail
    clear i1 i2 i3 i4 i5;clear hcl
    by_cases hge:56<=m
    ·have hge':(56:Int)<=((m:Nat):Int):=by omega
     have F8:=Hd (HFc.out.trans F7.out (by simpa using gQ2));have OK8:=Hd (hok.fr0 F8.out);have P8:=Hd (rowIs_fr HP0.out F7.out (by simpa using hPQ));have R8:=Hd (rowIs_fr HRc.out F7.out (by simpa using fun e=>hQR e.symm))
     go_upto_region 9 with fail
     go_upto_region 10 with ((go_at_call 144;refine (compress_two P Q _ _ (W7) OK8.out P8.out Q7.out).mono ?_;rintro e W8 ⟨rfl,hp8,hf8⟩))
     have P9':=Hd hp8;have q8:=rowIs_fr Q7.out hf8 (by simpa using fun e=>hPQ e.symm);have r8:=rowIs_fr R8.out hf8 (by simpa using fun e=>hPR e.symm);have f8:=F8.out.trans hf8 (by simpa using gP2)
     have hcl:∀ (c:Nat) (ty:TypeId),(Builtin.clear_ #[49] ty #[.slice (some ⟨Q,0,none⟩) 64 c]).run prog W8=.ok (.tuple #[]) (W8.setCells Q 0 (List.replicate 64 (.int .u8 0))):=fun c ty =>
      Lib.run_clear_slice W8 49 5 ty (.int .u8 0) (by kernel_rfl) (fun _=>by rfl) rfl rfl Q 0 64 c (by omega) (fun j hj=>by rw[q8.cell (by omega)];rfl) (fun j hj=>q8.frozen _)
     obtain⟨W9,hW9⟩:=nmd (W8.setCells Q 0 (List.replicate 64 (.int .u8 0)))
     have q9:W9.rowIs Q 163 64 (fun j=>.int .u8 (hbl h j)):=by
      rw[<-hW9];exact rowIs_whole q8 (by simp) (fun j hj=>by unfold hbl;rw[if_pos (by omega),List.getElem?_replicate,if_pos hj])
     have hg9:Fr [Q] W8 W9:=by rw[<-hW9];exact (Fq [Q] _).setCells (by simp) _ _
     rw[hW9] at hcl;have F9:=Hd (f8.trans hg9 (by simpa using gQ2));have OK9:=Hd (hok.fr0 F9.out);have P9:Hid (W9.rowIs P 162 8 (fun j=>.int .u32 (hs1 h j))):=Hd ((rowIs_fr P9'.out hg9 (by simpa using hPQ)).congr (fun j hj=>by unfold hs1;rw[if_pos (by omega)]));have Q9:=Hd q9;have R9:=Hd (rowIs_fr r8 hg9 (by simpa using fun e=>hQR e.symm));have c9:=(HH.out.fr F9.out (by simp)).len;clear hp8 q8 r8 f8 q9 hg9 hW9 hf8
     go_upto_block 0 with fail
     refine sum12_any _ w (W9) w.heap.size P Q (8*(h.len:Int)) (hs1 h) (hbl h) fR OK9.out P9.out Q9.out R9.out hPQ hPR hQR hw6 gP2 gQ2 (nlr _) F9.out (by omega) (by omega) _ _ rfl rfl (by assumption) _ _ _ _ _ _ _ _ _ _ _ _ _ _ _ _ _ _ _ _ _ _ _ _ _ _ _ _ _ _ _ _ _ _ _ _ _ _ _ _ _ _ _ _ _ _ _ _ _ _ _ _ _ _ _ _ _ _ _ _ _ _ _ _ _ _ _ _ _ _ _ _ _ _ _ _ _ _ _ _ _ _ _ _ _ _ _ _ _
    ·have hlt:¬ (56:Int)<=((m:Nat):Int):=by omega
     have F9:=Hd (HFc.out.trans F7.out (by simpa using gQ2));have OK9:=Hd (hok.fr0 F9.out);have P9:Hid (((W7):World).rowIs P 162 8 (fun j=>.int .u32 (hs1 h j))):=Hd ((rowIs_fr HP0.out F7.out (by simpa using hPQ)).congr (fun j hj=>by unfold hs1;rw[if_neg (by omega)]));have Q9:Hid (((W7):World).rowIs Q 163 64 (fun j=>.int .u8 (hbl h j))):=Hd (Q7.out.congr (fun j hj=>by unfold hbl;rw[if_neg (by omega)]));have R9:=Hd (rowIs_fr HRc.out F7.out (by simpa using fun e=>hQR e.symm));have c9:=(HH.out.fr F9.out (by simp)).len
     go_upto_block 0 with fail
     refine sum12_any _ w (W7) w.heap.size P Q (8*(h.len:Int)) (hs1 h) (hbl h) fR OK9.out P9.out Q9.out R9.out hPQ hPR hQR hw6 gP2 gQ2 (nlr _) F9.out (by omega) (by omega) _ _ rfl rfl (by assumption) _ _ _ _ _ _ _ _ _ _ _ _ _ _ _ _ _ _ _ _ _ _ _ _ _ _ _ _ _ _ _ _ _ _ _ _ _ _ _ _ _ _ _ _ _ _ _ _ _ _ _ _ _ _ _ _ _ _ _ _ _ _ _ _ _ _ _ _ _ _ _ _ _ _ _ _ _ _ _ _ _ _ _ _ _ _ _ _ _
  ·have c0:=hHc.len
   have hne:((h.len:Int) == 0)=false:=by simp;omega
   have HHc:=Hd hHc;have HFc:=Hd hFc;have HRc:=Hd hRc;have HP:=Hd hP;have HQ:=Hd hQ;clear hHc hFc hRc hP hQ;have hsx:hs0 h=h.st:=by unfold hs0;rw[if_neg h0]
   have hP0:wc.rowIs P 162 8 (fun j=>.int .u32 (hs0 h j)):=by rw[hsx];exact HP.out
   have HP0:=Hd hP0;clear HP hP0 hsx
   go_upto_region 6 with fail
   have xk:(wc).cell? ⟨Q,m,none⟩=some _:=HQ.out.cell (by omega);have xf:=HQ.out.frozen m;have hmi:(m:Int)<64:=by omega
   go_upto_region 7 with fail
   obtain⟨W6,hW6⟩:=nmd ((wc).setCell ⟨Q,m,none⟩ (.int .u8 128))
   have q6:W6.rowIs Q 163 64 (fun j=>.int .u8 (if j=m then 128 else h.rest j)):=by
    rw[<-hW6];exact (HQ.out.set m (.int .u8 128)).congr (fun j hj=>by by_cases e:j=m <;> simp[e])
   have f6:Fr [Q] (wc) W6:=by rw[<-hW6];exact (Fq [Q] _).set (p:=⟨Q,m,none⟩) (by simp) _
   rw[hW6];clear hW6 xk xf
   by_cases hm63:m=63
   ·have q7:W6.rowIs Q 163 64 (fun j=>.int .u8 (hb1 h j)):=q6.congr (fun j hj=>hb1_63 hm hm63 hj)
    have hcl:∀ (A:Option Addr) (c:Nat) (ty:TypeId),(Builtin.clear_ #[49] ty #[.slice A 0 c]).run prog W6=.ok (.tuple #[]) W6:=fun A c ty=>by cases A <;> simp[Builtin.clear_,run_underlying (P:=prog) (t:=49) (d:=.slice 5) (by kernel_rfl)]
    subst hm63;have Q7:=Hd q7;have F7:=Hd f6;clear q6 q7 f6
    go_upto_region 8 with fail
    clear hcl;have hge':(56:Int)<=((63:Nat):Int):=by omega
    have F8:=Hd (HFc.out.trans F7.out (by simpa using gQ2));have OK8:=Hd (hok.fr0 F8.out);have P8:=Hd (rowIs_fr HP0.out F7.out (by simpa using hPQ));have R8:=Hd (rowIs_fr HRc.out F7.out (by simpa using fun e=>hQR e.symm))
    go_upto_region 9 with fail
    go_upto_region 10 with ((go_at_call 144;refine (compress_two P Q _ _ (W6) OK8.out P8.out Q7.out).mono ?_;rintro e W8 ⟨rfl,hp8,hf8⟩))
    have P9':=Hd hp8;have q8:=rowIs_fr Q7.out hf8 (by simpa using fun e=>hPQ e.symm);have r8:=rowIs_fr R8.out hf8 (by simpa using fun e=>hPR e.symm);have f8:=F8.out.trans hf8 (by simpa using gP2)
    have hcl:∀ (c:Nat) (ty:TypeId),(Builtin.clear_ #[49] ty #[.slice (some ⟨Q,0,none⟩) 64 c]).run prog W8=.ok (.tuple #[]) (W8.setCells Q 0 (List.replicate 64 (.int .u8 0))):=fun c ty =>
     Lib.run_clear_slice W8 49 5 ty (.int .u8 0) (by kernel_rfl) (fun _=>by rfl) rfl rfl Q 0 64 c (by omega) (fun j hj=>by rw[q8.cell (by omega)];rfl) (fun j hj=>q8.frozen _)
    obtain⟨W9,hW9⟩:=nmd (W8.setCells Q 0 (List.replicate 64 (.int .u8 0)))
    have q9:W9.rowIs Q 163 64 (fun j=>.int .u8 (hbl h j)):=by
     rw[<-hW9];exact rowIs_whole q8 (by simp) (fun j hj=>by unfold hbl;rw[if_pos (by omega),List.getElem?_replicate,if_pos hj])
    have hg9:Fr [Q] W8 W9:=by rw[<-hW9];exact (Fq [Q] _).setCells (by simp) _ _
    rw[hW9] at hcl;have F9:=Hd (f8.trans hg9 (by simpa using gQ2));have OK9:=Hd (hok.fr0 F9.out);have P9:Hid (W9.rowIs P 162 8 (fun j=>.int .u32 (hs1 h j))):=Hd ((rowIs_fr P9'.out hg9 (by simpa using hPQ)).congr (fun j hj=>by unfold hs1;rw[if_pos (by omega)]));have Q9:=Hd q9;have R9:=Hd (rowIs_fr r8 hg9 (by simpa using fun e=>hQR e.symm));have c9:=(HH.out.fr F9.out (by simp)).len;clear hp8 q8 r8 f8 q9 hg9 hW9 hf8
    go_upto_block 0 with fail
    refine sum12_any _ w (W9) w.heap.size P Q (8*(h.len:Int)) (hs1 h) (hbl h) fR OK9.out P9.out Q9.out R9.out hPQ hPR hQR hw6 gP2 gQ2 (nlr _) F9.out (by omega) (by omega) _ _ rfl rfl (by assumption) _ _ _ _ _ _ _ _ _ _ _ _ _ _ _ _ _ _ _ _ _ _ _ _ _ _ _ _ _ _ _ _ _ _ _ _ _ _ _ _ _ _ _ _ _ _ _ _ _ _ _ _ _ _ _ _ _ _ _ _ _ _ _ _ _ _ _ _ _ _ _ _ _ _ _ _ _ _ _ _ _ _ _ _ _ _ _ _ _
   ·have hcl:∀ (c:Nat) (ty:TypeId),(Builtin.clear_ #[49] ty #[.slice (some ⟨Q,m+1,none⟩) (63 - m) c]).run prog W6=.ok (.tuple #[]) (W6.setCells Q (m+1) (List.replicate (63 - m) (.int .u8 0))):=fun c ty =>
     Lib.run_clear_slice W6 49 5 ty (.int .u8 0) (by kernel_rfl) (fun _=>by rfl) rfl rfl Q (m+1) (63 - m) c (by omega) (fun j hj=>by rw[q6.cell (by omega)];rfl) (fun j hj=>q6.frozen _)
    obtain⟨W7,hW7⟩:=nmd (W6.setCells Q (m+1) (List.replicate (63 - m) (.int .u8 0)))
    have q7:W7.rowIs Q 163 64 (fun j=>.int .u8 (hb1 h j)):=by
     rw[<-hW7];exact (rowIs_setCells _ _ _ _ q6).congr (fun j hj=>hb1_clear hm (by omega) hj)
    have f7:Fr [Q] (wc) W7:=by rw[<-hW7];exact f6.setCells (by simp) _ _
    rw[hW7] at hcl;have Q7:=Hd q7;have F7:=Hd f7;clear q6 q7 f6 f7 hW7;have i1:(m:Int)+1<=64:=by omega
    have i2:(0:Int)<=(m:Int)+1:=by omega
    have i3:((m:Int)+1).toNat=m+1:=by omega
    have i4:¬ (64=m+1):=by omega
    have i5:¬ (m=63):=by omega
    go_upto_region 8 with fail
    clear i1 i2 i3 i4 i5;clear hcl
    by_cases hge:56<=m
    ·have hge':(56:Int)<=((m:Nat):Int):=by omega
     have F8:=Hd (HFc.out.trans F7.out (by simpa using gQ2));have OK8:=Hd (hok.fr0 F8.out);have P8:=Hd (rowIs_fr HP0.out F7.out (by simpa using hPQ));have R8:=Hd (rowIs_fr HRc.out F7.out (by simpa using fun e=>hQR e.symm))
     go_upto_region 9 with fail
     go_upto_region 10 with ((go_at_call 144;refine (compress_two P Q _ _ (W7) OK8.out P8.out Q7.out).mono ?_;rintro e W8 ⟨rfl,hp8,hf8⟩))
     have P9':=Hd hp8;have q8:=rowIs_fr Q7.out hf8 (by simpa using fun e=>hPQ e.symm);have r8:=rowIs_fr R8.out hf8 (by simpa using fun e=>hPR e.symm);have f8:=F8.out.trans hf8 (by simpa using gP2)
     have hcl:∀ (c:Nat) (ty:TypeId),(Builtin.clear_ #[49] ty #[.slice (some ⟨Q,0,none⟩) 64 c]).run prog W8=.ok (.tuple #[]) (W8.setCells Q 0 (List.replicate 64 (.int .u8 0))):=fun c ty =>
      Lib.run_clear_slice W8 49 5 ty (.int .u8 0) (by kernel_rfl) (fun _=>by rfl) rfl rfl Q 0 64 c (by omega) (fun j hj=>by rw[q8.cell (by omega)];rfl) (fun j hj=>q8.frozen _)
     obtain⟨W9,hW9⟩:=nmd (W8.setCells Q 0 (List.replicate 64 (.int .u8 0)))
     have q9:W9.rowIs Q 163 64 (fun j=>.int .u8 (hbl h j)):=by
      rw[<-hW9];exact rowIs_whole q8 (by simp) (fun j hj=>by unfold hbl;rw[if_pos (by omega),List.getElem?_replicate,if_pos hj])
     have hg9:Fr [Q] W8 W9:=by rw[<-hW9];exact (Fq [Q] _).setCells (by simp) _ _
     rw[hW9] at hcl;have F9:=Hd (f8.trans hg9 (by simpa using gQ2));have OK9:=Hd (hok.fr0 F9.out);have P9:Hid (W9.rowIs P 162 8 (fun j=>.int .u32 (hs1 h j))):=Hd ((rowIs_fr P9'.out hg9 (by simpa using hPQ)).congr (fun j hj=>by unfold hs1;rw[if_pos (by omega)]));have Q9:=Hd q9;have R9:=Hd (rowIs_fr r8 hg9 (by simpa using fun e=>hQR e.symm));have c9:=(HH.out.fr F9.out (by simp)).len;clear hp8 q8 r8 f8 q9 hg9 hW9 hf8
     go_upto_block 0 with fail
     refine sum12_any _ w (W9) w.heap.size P Q (8*(h.len:Int)) (hs1 h) (hbl h) fR OK9.out P9.out Q9.out R9.out hPQ hPR hQR hw6 gP2 gQ2 (nlr _) F9.out (by omega) (by omega) _ _ rfl rfl (by assumption) _ _ _ _ _ _ _ _ _ _ _ _ _ _ _ _ _ _ _ _ _ _ _ _ _ _ _ _ _ _ _ _ _ _ _ _ _ _ _ _ _ _ _ _ _ _ _ _ _ _ _ _ _ _ _ _ _ _ _ _ _ _ _ _ _ _ _ _ _ _ _ _ _ _ _ _ _ _ _ _ _ _ _ _ _ _ _ _ _
    ·have hlt:¬ (56:Int)<=((m:Nat):Int):=by omega
     have F9:=Hd (HFc.out.trans F7.out (by simpa using gQ2));have OK9:=Hd (hok.fr0 F9.out);have P9:Hid (((W7):World).rowIs P 162 8 (fun j=>.int .u32 (hs1 h j))):=Hd ((rowIs_fr HP0.out F7.out (by simpa using hPQ)).congr (fun j hj=>by unfold hs1;rw[if_neg (by omega)]));have Q9:Hid (((W7):World).rowIs Q 163 64 (fun j=>.int .u8 (hbl h j))):=Hd (Q7.out.congr (fun j hj=>by unfold hbl;rw[if_neg (by omega)]));have R9:=Hd (rowIs_fr HRc.out F7.out (by simpa using fun e=>hQR e.symm));have c9:=(HH.out.fr F9.out (by simp)).len
     go_upto_block 0 with fail
     refine sum12_any _ w (W7) w.heap.size P Q (8*(h.len:Int)) (hs1 h) (hbl h) fR OK9.out P9.out Q9.out R9.out hPQ hPR hQR hw6 gP2 gQ2 (nlr _) F9.out (by omega) (by omega) _ _ rfl rfl (by assumption) _ _ _ _ _ _ _ _ _ _ _ _ _ _ _ _ _ _ _ _ _ _ _ _ _ _ _ _ _ _ _ _ _ _ _ _ _ _ _ _ _ _ _ _ _ _ _ _ _ _ _ _ _ _ _ _ _ _ _ _ _ _ _ _ _ _ _ _ _ _ _ _ _ _ _ _ _ _ _ _ _ _ _ _ _ _ _ _ _
end Go.Proofs.YtlpmiimgacfmkaaGreatDoor
