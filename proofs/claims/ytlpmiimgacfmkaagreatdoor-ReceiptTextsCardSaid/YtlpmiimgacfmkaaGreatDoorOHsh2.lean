/- SHA-256: (Hash).Sum. -/
import Derived.Deep.RegionHeld3
import Derived.Deep.CutBlock
import Derived.Lib.AppendStr
import Derived.OwnWalk
import Derived.Laws.BytesArg
import Derived.Test.YtlpmiimgacfmkaaGreatDoorOCmp6
set_option linter.all false
namespace Go.Proofs.YtlpmiimgacfmkaaGreatDoor
set_option maxRecDepth 100000
set_option maxHeartbeats 4000000
open Go.Proofs.Tryz
open Go.RowKit
def stL (h:HS):List Value:=(List.range 8).map fun j=>.int .u32 (h.st j)
def restL (h:HS):List Value:=(List.range 64).map fun j=>.int .u8 (h.rest j)
theorem stL_len (h:HS):(stL h).length=8:=by simp[stL]
theorem stL_size (h:HS):(stL h).toArray.size=8:=by simp[stL]
theorem restL_size (h:HS):(restL h).toArray.size=64:=by simp[restL]
theorem restL_len (h:HS):(restL h).length=64:=by simp[restL]
theorem HashAt.st {w:World} {b:Nat} {h:HS} (c:HashAt w b h):w.rangeAt b 1 (stL h):=by
 intro j v a;have d:j<8:=by have:=(lgs.1 a).1;rwa [stL_len] at this
 rw[c.cell qo,<-a];unfold stL hcell;rw[if_neg qo,if_pos qo,List.getElem?_map,List.getElem?_range d,Option.map_some,show 1+j - 1=j by omega]
theorem HashAt.rest {w:World} {b:Nat} {h:HS} (c:HashAt w b h):w.rangeAt b 9 (restL h):=by
 intro j v a;have d:j<64:=by have:=(lgs.1 a).1;rwa [restL_len] at this
 rw[c.cell qo,<-a];unfold restL hcell;rw[if_neg qo,if_neg qo,List.getElem?_map,List.getElem?_range d,Option.map_some,show 9+j - 9=j by omega]
theorem HashAt.len {w:World} {b:Nat} {h:HS} (a:HashAt w b h):w.cell? ⟨b,0,none⟩=some (.int .i64 (h.len:Int)):=World.rowIs.cell a qo
theorem HashAt.alloc {w:World} {b:Nat} {h:HS} (a:HashAt w b h) (o:Obj):HashAt (w.alloc o) b h:=World.rowIs.alloc a o
theorem HashAt.fr {S:List Nat} {w w':World} {b:Nat} {h:HS} (a:HashAt w b h) (d:Fr S w w') (c:b ∉ S):HashAt w' b h:=rowIs_fr a d c
theorem row_new (w:World) (c:Array Value) (t:TypeId):(w.alloc (.cells c t)).rowIs w.heap.size t c.size (fun i=>c[i]?.getD default):=World.rowIs_alloc w c t _ (fun i a=>by rw[Array.getElem?_eq_getElem a];rfl)
def hb1 (h:HS) (j:Nat):Int:=if j<h.len % 64 then h.rest j else if j=h.len % 64 then 128 else 0
def hs0 (h:HS):Nat->Int:=if h.len=0 then iv else h.st
def hs1 (h:HS):Nat->Int:=if 56<=h.len % 64 then comp (hs0 h) (hb1 h) else hs0 h
def hbl (h:HS):Nat->Int:=if 56<=h.len % 64 then fun _=>0 else hb1 h
def hsum (h:HS):Nm:=dig (comp (hs1 h) (fun j=>if 56<=j then lenB (8*(h.len:Int)) j else hbl h j))
theorem hb1_63 {h:HS} {m j:Nat} (a:h.len % 64=m) (b:m=63) (c:j<64):Value.int .u8 (if j=m then 128 else h.rest j)=.int .u8 (hb1 h j):=by
 unfold hb1;rw[a]
 by_cases e:j=m
 ·rw[if_pos e,if_neg qo,if_pos e]
 ·rw[if_neg e,if_pos qo]
theorem hb1_clear {h:HS} {m j:Nat} (b:h.len % 64=m) (c:m<63) (d:j<64):(if m+1<=j/\j<m+1+(List.replicate (63 - m) (Value.int .u8 0)).length then (List.replicate (63 - m) (Value.int .u8 0))[j - (m+1)]?.getD default else Value.int .u8 (if j=m then 128 else h.rest j))=.int .u8 (hb1 h j):=by
 unfold hb1;rw[b];simp only[List.length_replicate]
 by_cases e:m+1<=j/\j<m+1+(63 - m)
 ·rw[if_pos e,if_neg qo,if_neg qo,List.getElem?_replicate,if_pos qo]
  rfl
 ·rw[if_neg e]
  by_cases a:j=m
  ·rw[if_pos a,if_neg qo,if_pos a]
  ·rw[if_neg a,if_pos qo]
theorem iv_get {j:Nat} (a:j<8):(ivL.map (Value.int .u32))[j]?=some (.int .u32 (iv j)):=by
 rw[List.getElem?_map,lge (show j<ivL.length from a)];unfold iv;rw[List.getD_eq_getElem?_getD,lge (show j<ivL.length from a)];rfl
theorem iv_range {w:World} (c:Ok w):w.rangeAt 1 0 (ivL.map (Value.int .u32)):=by
 intro j v b;have a:j<8:=by have:=(lgs.1 b).1;simpa [ivL] using this
 rw[Nat.zero_add,c.ivs j a,<-b,iv_get a]
def Cut3 (w:World) (b:Nat) (h:HS) (a c d:Value) (W:World):Prop :=
 ∃ P Q,a=.pointer (some ⟨P,0,none⟩)/\c=.pointer (some ⟨Q,0,none⟩)/\d=.int .i64 ((h.len % 64:Nat):Int)/\P≠Q/\w.heap.size<=P/\w.heap.size<=Q/\W.rowIs P 162 8 (fun j=>.int .u32 (h.st j))/\W.rowIs Q 163 64 (fun j=>.int .u8 (h.rest j))/\Fr [] w W
theorem Sum_any (b:Nat) (h:HS) (w:World) (L:Ok w) (hb:6<=b) (aU:h.len<=1152921504606846976) (hH:HashAt w b h) :
 Calls prog 80 #[.pointer (some ⟨b,0,none⟩)] w (SumPost w (hsum h)):=by
 have HH:=Hd hH;clear hH
 go_enter func80,ntmps80
 go_upto_region 3 with fail
 obtain⟨a,an⟩:=nmd (w.alloc (.cells (z32) 57));have aN:b<a.heap.size:=by rw[<-an,wsA];have:=World.rowIs.lt HH.out;omega
 have HB:=Hd aN;clear aN;rw[an]
 go_cut [3,4,5] from 14 to 26 (fun s3 s4 s5 W=>Cut3 a b h s3 s4 s5 W)
 case first =>
  refine wp_region_held_drew (S:=fun W=>HashAt W b h) qk ?_ (fun u=>?_)
  ·rw[<-an];exact HH.out.alloc _
  refine wpAnyH_take (i:=0) (v:=?_) rfl qk qk qk (fun _ _ _ h=>h) (Or.inl ⟨qr,?_⟩) (by assumption) ?_
  rotate_left
  ·intro M I
   go_simp
   try with_reducible rfl
  try simp only[qq]
  refine wpAnyH_take (i:=1) (v:=?_) rfl qk qk qk (fun _ _ _ h=>h) (Or.inl ⟨qr,?_⟩) (by assumption) ?_
  rotate_left
  ·intro M I
   go_simp
   try with_reducible rfl
  try simp only[qq]
  refine wpAnyH_take (i:=2) (v:=?_) rfl qk qk qk (fun _ _ _ h=>h) (Or.inl ⟨qr,?_⟩) (by assumption) ?_
  rotate_left
  ·intro M I
   go_simp
   try with_reducible rfl
  try simp only[qq]
  refine wpAnyH_take (i:=3) rfl qk qk qk (fun _ _ _ h=>h) (yieldsIf_load_mid qr 162 (.tmp 16) rfl b 1 rfl (stL h) (.array 8 161) (fun _ hS=>hS.st) qk rfl qr) (by assumption) ?_
  try simp only[qq]
  refine wpAnyH_take (i:=4) (v:=?_) rfl qk qk qk (fun _ _ _ h=>h) (Or.inl ⟨qr,?_⟩) (by assumption) ?_
  rotate_left
  ·intro M I
   go_simp
   try with_reducible rfl
  try simp only[qq]
  refine wpAnyH_take (i:=5) (v:=?_) rfl qk qk qk (fun _ _ _ h=>h) (Or.inl ⟨qr,?_⟩) (by assumption) ?_
  rotate_left
  ·intro M I
   go_simp
   try with_reducible rfl
  try simp only[qq]
  refine wpAnyH_take (i:=6) (v:=?_) rfl qk qk qk (fun _ _ _ h=>h) (Or.inl ⟨qr,?_⟩) (by assumption) ?_
  rotate_left
  ·intro M I
   go_simp
   try with_reducible rfl
  try simp only[qq]
  refine wpAnyH_take (i:=7) rfl qk qk qk (fun _ _ _ h=>h) (yieldsIf_load_mid qr 163 (.tmp 20) rfl b 9 rfl (restL h) (.array 64 5) (fun _ hS=>hS.rest) qk rfl qr) (by assumption) ?_
  try simp only[qq]
  refine wpAnyH_take (i:=8) (v:=?_) rfl qk qk qk (fun _ _ _ h=>h) (Or.inl ⟨qr,?_⟩) (by assumption) ?_
  rotate_left
  ·intro M I
   go_simp
   try with_reducible rfl
  try simp only[qq]
  refine wpAnyH_take (i:=9) (v:=?_) rfl qk qk qk (fun _ _ _ h=>h) (Or.inl ⟨qr,?_⟩) (by assumption) ?_
  rotate_left
  ·intro M I
   go_simp
   try with_reducible rfl
  try simp only[qq]
  refine wpAnyH_take (i:=10) (v:=?_) rfl qk qk qk (fun _ _ _ h=>h) (Or.inl ⟨qr,?_⟩) (by assumption) ?_
  rotate_left
  ·intro M I
   go_simp
   try with_reducible rfl
  try simp only[qq]
  refine wpAnyH_take (i:=11) (v:=?_) rfl qk qk qk (fun _ _ _ h=>h) (Or.inl ⟨qr,?_⟩) (by assumption) ?_
  rotate_left
  ·intro M I
   have aU:=I.len;go_simp
   try with_reducible rfl
  try simp only[qq]
  refine wpAnyH_take (i:=12) (v:=?_) rfl qk qk qk (fun _ _ _ h=>h) (Or.inl ⟨qr,?_⟩) (by assumption) ?_
  rotate_left
  ·intro M I
   go_simp
   try with_reducible rfl
  try simp only[qq]
  refine wpAnyH_ready (rs:=[13,14]) qk qs ?_;refine AllReadyH.cons rfl (fun K q=>?_) (AllReadyH.cons rfl (fun K q=>?_) AllReadyH.nil)
  ·go_simp
   refine q.out _ _ ?_ (fun u=>?_)
   ·exact HashAt.alloc u _
   clear q K
   try simp only[qq]
   refine wpAnyH_ready (rs:=[14]) qk qs ?_;refine AllReadyH.cons rfl (fun K q=>?_) AllReadyH.nil;go_simp
   refine q.out _ _ ?_ (fun u=>?_)
   ·exact HashAt.alloc u _
   clear q K
   try simp only[qq]
   obtain⟨V,ab⟩:=nmd (((a.alloc (.cells (#[.int .u32 0,.int .u32 0,.int .u32 0,.int .u32 0,.int .u32 0,.int .u32 0,.int .u32 0,.int .u32 0]) 162)).alloc (.cells (#[.int .u8 0,.int .u8 0,.int .u8 0,.int .u8 0,.int .u8 0,.int .u8 0,.int .u8 0,.int .u8 0,.int .u8 0,.int .u8 0,.int .u8 0,.int .u8 0,.int .u8 0,.int .u8 0,.int .u8 0,.int .u8 0,.int .u8 0,.int .u8 0,.int .u8 0,.int .u8 0,.int .u8 0,.int .u8 0,.int .u8 0,.int .u8 0,.int .u8 0,.int .u8 0,.int .u8 0,.int .u8 0,.int .u8 0,.int .u8 0,.int .u8 0,.int .u8 0,.int .u8 0,.int .u8 0,.int .u8 0,.int .u8 0,.int .u8 0,.int .u8 0,.int .u8 0,.int .u8 0,.int .u8 0,.int .u8 0,.int .u8 0,.int .u8 0,.int .u8 0,.int .u8 0,.int .u8 0,.int .u8 0,.int .u8 0,.int .u8 0,.int .u8 0,.int .u8 0,.int .u8 0,.int .u8 0,.int .u8 0,.int .u8 0,.int .u8 0,.int .u8 0,.int .u8 0,.int .u8 0,.int .u8 0,.int .u8 0,.int .u8 0,.int .u8 0]) 163)).drew);obtain⟨fP,Z⟩:∃ f,V.rowIs a.heap.size 162 8 f:=by rw[<-ab];exact⟨_,((row_new a _ _).alloc _).drew⟩
   obtain⟨fQ,hQ⟩:∃ f,V.rowIs (a.heap.size+1) 163 64 f:=by rw[<-ab];have:=row_new (a.alloc (.cells (#[.int .u32 0,.int .u32 0,.int .u32 0,.int .u32 0,.int .u32 0,.int .u32 0,.int .u32 0,.int .u32 0]) 162)) (#[.int .u8 0,.int .u8 0,.int .u8 0,.int .u8 0,.int .u8 0,.int .u8 0,.int .u8 0,.int .u8 0,.int .u8 0,.int .u8 0,.int .u8 0,.int .u8 0,.int .u8 0,.int .u8 0,.int .u8 0,.int .u8 0,.int .u8 0,.int .u8 0,.int .u8 0,.int .u8 0,.int .u8 0,.int .u8 0,.int .u8 0,.int .u8 0,.int .u8 0,.int .u8 0,.int .u8 0,.int .u8 0,.int .u8 0,.int .u8 0,.int .u8 0,.int .u8 0,.int .u8 0,.int .u8 0,.int .u8 0,.int .u8 0,.int .u8 0,.int .u8 0,.int .u8 0,.int .u8 0,.int .u8 0,.int .u8 0,.int .u8 0,.int .u8 0,.int .u8 0,.int .u8 0,.int .u8 0,.int .u8 0,.int .u8 0,.int .u8 0,.int .u8 0,.int .u8 0,.int .u8 0,.int .u8 0,.int .u8 0,.int .u8 0,.int .u8 0,.int .u8 0,.int .u8 0,.int .u8 0,.int .u8 0,.int .u8 0,.int .u8 0,.int .u8 0]) 163;rw[wsA] at this;exact⟨_,this.drew⟩
   have hF:Fr [] a V:=by rw[<-ab];exact (((Fq [] a).alloc _).alloc _).drew
   rw[ab] at u ⊢;clear ab;have aF:b≠a.heap.size:=by have:=HB.out;omega
   have aG:b≠a.heap.size+1:=by have:=HB.out;omega
   have l:a.heap.size≠a.heap.size+1:=qo
   have ax:=rowIs_whole Z (stL_len h) (g:=fun j=>.int .u32 (h.st j)) (fun j k=>by unfold stL;rw[List.getElem?_map,List.getElem?_range k,Option.map_some]);have am:=rowIs_setCells_other (b:=a.heap.size) (b':=a.heap.size+1) l.symm (stL h) 0 _ hQ;have al:=u.fr ((Fq [a.heap.size] V).setCells (p:=a.heap.size) qs (stL h) 0) (by simpa using aF);have au:=hF.setCells (p:=a.heap.size) (.inr qo) (stL h) 0;obtain⟨W2,ao⟩:=nmd (V.setCells (a.heap.size) 0 (stL h));rw[ao] at ax am al au;refine wpAnyH_ready (rs:=[15]) qk qs ?_;refine AllReadyH.cons rfl (fun K q=>?_) AllReadyH.nil;rw[if_pos qr];refine wp_store_mid 162 (.tmp 3) (.tmp 17) rfl (a.heap.size) 0 (stL h).toArray rfl rfl (by rw[stL_size];exact there_row Z qo) (by rw[stL_size];kernel_rfl) (all_oneCell_toArray (by intro v hv;obtain⟨x,_,rfl⟩:=List.mem_map.1 hv;rfl)) ?_;rw[show (stL h).toArray.toList=stL h from rfl,ao];clear u;refine q.out _ _ al (fun u=>?_);clear q K ao;have ay:=rowIs_setCells_other (b:=a.heap.size+1) (b':=a.heap.size) l (restL h) 0 _ ax;have az:=rowIs_whole am (restL_len h) (g:=fun j=>.int .u8 (h.rest j)) (fun j k=>by unfold restL;rw[List.getElem?_map,List.getElem?_range k,Option.map_some]);have aw:=al.fr ((Fq [a.heap.size+1] _).setCells (p:=a.heap.size+1) qs (restL h) 0) (by simpa using aG);have av:=au.setCells (p:=a.heap.size+1) (.inr qo) (restL h) 0;obtain⟨W3,ap⟩:=nmd (W2.setCells (a.heap.size+1) 0 (restL h));rw[ap] at ay az aw av
   try simp only[qq]
   refine wpAnyH_ready (rs:=[16]) qk qs ?_;refine AllReadyH.cons rfl (fun K q=>?_) AllReadyH.nil;rw[if_pos qr];refine wp_store_mid 163 (.tmp 4) (.tmp 21) rfl (a.heap.size+1) 0 (restL h).toArray rfl rfl (by rw[restL_size];exact there_row am qo) (by rw[restL_size];kernel_rfl) (all_oneCell_toArray (by intro v hv;obtain⟨x,_,rfl⟩:=List.mem_map.1 hv;rfl)) ?_;rw[show (restL h).toArray.toList=restL h from rfl,ap];clear u;refine q.out _ _ aw (fun u=>?_);clear q K ap
   try simp only[qq]
   refine wpAnyH_take (i:=17) (v:=?_) rfl qk qk qk (fun _ _ _ h=>h) (Or.inl ⟨qr,?_⟩) (by assumption) ?_
   rotate_left
   ·intro M I
    go_simp
    try with_reducible rfl
   try simp only[qq]
   refine wpAnyH_done qk ?_ _
   go_wp2_with fail
   go_meet
   exact⟨_,_,rfl,rfl,rfl,l,qo,qo,ay,az,av⟩
  ·go_simp
   refine q.out _ _ ?_ (fun u=>?_)
   ·exact HashAt.alloc u _
   clear q K
   try simp only[qq]
   refine wpAnyH_ready (rs:=[13]) qk qs ?_;refine AllReadyH.cons rfl (fun K q=>?_) AllReadyH.nil;go_simp
   refine q.out _ _ ?_ (fun u=>?_)
   ·exact HashAt.alloc u _
   clear q K
   try simp only[qq]
   obtain⟨V,ab⟩:=nmd (((a.alloc (.cells (#[.int .u8 0,.int .u8 0,.int .u8 0,.int .u8 0,.int .u8 0,.int .u8 0,.int .u8 0,.int .u8 0,.int .u8 0,.int .u8 0,.int .u8 0,.int .u8 0,.int .u8 0,.int .u8 0,.int .u8 0,.int .u8 0,.int .u8 0,.int .u8 0,.int .u8 0,.int .u8 0,.int .u8 0,.int .u8 0,.int .u8 0,.int .u8 0,.int .u8 0,.int .u8 0,.int .u8 0,.int .u8 0,.int .u8 0,.int .u8 0,.int .u8 0,.int .u8 0,.int .u8 0,.int .u8 0,.int .u8 0,.int .u8 0,.int .u8 0,.int .u8 0,.int .u8 0,.int .u8 0,.int .u8 0,.int .u8 0,.int .u8 0,.int .u8 0,.int .u8 0,.int .u8 0,.int .u8 0,.int .u8 0,.int .u8 0,.int .u8 0,.int .u8 0,.int .u8 0,.int .u8 0,.int .u8 0,.int .u8 0,.int .u8 0,.int .u8 0,.int .u8 0,.int .u8 0,.int .u8 0,.int .u8 0,.int .u8 0,.int .u8 0,.int .u8 0]) 163)).alloc (.cells (#[.int .u32 0,.int .u32 0,.int .u32 0,.int .u32 0,.int .u32 0,.int .u32 0,.int .u32 0,.int .u32 0]) 162)).drew);obtain⟨fQ,hQ⟩:∃ f,V.rowIs a.heap.size 163 64 f:=by rw[<-ab];exact⟨_,((row_new a _ _).alloc _).drew⟩
   obtain⟨fP,Z⟩:∃ f,V.rowIs (a.heap.size+1) 162 8 f:=by rw[<-ab];have:=row_new (a.alloc (.cells (#[.int .u8 0,.int .u8 0,.int .u8 0,.int .u8 0,.int .u8 0,.int .u8 0,.int .u8 0,.int .u8 0,.int .u8 0,.int .u8 0,.int .u8 0,.int .u8 0,.int .u8 0,.int .u8 0,.int .u8 0,.int .u8 0,.int .u8 0,.int .u8 0,.int .u8 0,.int .u8 0,.int .u8 0,.int .u8 0,.int .u8 0,.int .u8 0,.int .u8 0,.int .u8 0,.int .u8 0,.int .u8 0,.int .u8 0,.int .u8 0,.int .u8 0,.int .u8 0,.int .u8 0,.int .u8 0,.int .u8 0,.int .u8 0,.int .u8 0,.int .u8 0,.int .u8 0,.int .u8 0,.int .u8 0,.int .u8 0,.int .u8 0,.int .u8 0,.int .u8 0,.int .u8 0,.int .u8 0,.int .u8 0,.int .u8 0,.int .u8 0,.int .u8 0,.int .u8 0,.int .u8 0,.int .u8 0,.int .u8 0,.int .u8 0,.int .u8 0,.int .u8 0,.int .u8 0,.int .u8 0,.int .u8 0,.int .u8 0,.int .u8 0,.int .u8 0]) 163)) (#[.int .u32 0,.int .u32 0,.int .u32 0,.int .u32 0,.int .u32 0,.int .u32 0,.int .u32 0,.int .u32 0]) 162;rw[wsA] at this;exact⟨_,this.drew⟩
   have hF:Fr [] a V:=by rw[<-ab];exact (((Fq [] a).alloc _).alloc _).drew
   rw[ab] at u ⊢;clear ab;have aF:b≠a.heap.size+1:=by have:=HB.out;omega
   have aG:b≠a.heap.size:=by have:=HB.out;omega
   have l:a.heap.size+1≠a.heap.size:=qo
   have ax:=rowIs_whole Z (stL_len h) (g:=fun j=>.int .u32 (h.st j)) (fun j k=>by unfold stL;rw[List.getElem?_map,List.getElem?_range k,Option.map_some]);have am:=rowIs_setCells_other (b:=a.heap.size+1) (b':=a.heap.size) l.symm (stL h) 0 _ hQ;have al:=u.fr ((Fq [a.heap.size+1] V).setCells (p:=a.heap.size+1) qs (stL h) 0) (by simpa using aF);have au:=hF.setCells (p:=a.heap.size+1) (.inr qo) (stL h) 0;obtain⟨W2,ao⟩:=nmd (V.setCells (a.heap.size+1) 0 (stL h));rw[ao] at ax am al au;refine wpAnyH_ready (rs:=[15]) qk qs ?_;refine AllReadyH.cons rfl (fun K q=>?_) AllReadyH.nil;rw[if_pos qr];refine wp_store_mid 162 (.tmp 3) (.tmp 17) rfl (a.heap.size+1) 0 (stL h).toArray rfl rfl (by rw[stL_size];exact there_row Z qo) (by rw[stL_size];kernel_rfl) (all_oneCell_toArray (by intro v hv;obtain⟨x,_,rfl⟩:=List.mem_map.1 hv;rfl)) ?_;rw[show (stL h).toArray.toList=stL h from rfl,ao];clear u;refine q.out _ _ al (fun u=>?_);clear q K ao;have ay:=rowIs_setCells_other (b:=a.heap.size) (b':=a.heap.size+1) l (restL h) 0 _ ax;have az:=rowIs_whole am (restL_len h) (g:=fun j=>.int .u8 (h.rest j)) (fun j k=>by unfold restL;rw[List.getElem?_map,List.getElem?_range k,Option.map_some]);have aw:=al.fr ((Fq [a.heap.size] _).setCells (p:=a.heap.size) qs (restL h) 0) (by simpa using aG);have av:=au.setCells (p:=a.heap.size) (.inr qo) (restL h) 0;obtain⟨W3,ap⟩:=nmd (W2.setCells (a.heap.size) 0 (restL h));rw[ap] at ay az aw av
   try simp only[qq]
   refine wpAnyH_ready (rs:=[16]) qk qs ?_;refine AllReadyH.cons rfl (fun K q=>?_) AllReadyH.nil;rw[if_pos qr];refine wp_store_mid 163 (.tmp 4) (.tmp 21) rfl (a.heap.size) 0 (restL h).toArray rfl rfl (by rw[restL_size];exact there_row am qo) (by rw[restL_size];kernel_rfl) (all_oneCell_toArray (by intro v hv;obtain⟨x,_,rfl⟩:=List.mem_map.1 hv;rfl)) ?_;rw[show (restL h).toArray.toList=restL h from rfl,ap];clear u;refine q.out _ _ aw (fun u=>?_);clear q K ap
   try simp only[qq]
   refine wpAnyH_take (i:=17) (v:=?_) rfl qk qk qk (fun _ _ _ h=>h) (Or.inl ⟨qr,?_⟩) (by assumption) ?_
   rotate_left
   ·intro M I
    go_simp
    try with_reducible rfl
   try simp only[qq]
   refine wpAnyH_done qk ?_ _
   go_wp2_with fail
   go_meet
   exact⟨_,_,rfl,rfl,rfl,l,qo,qo,ay,az,av⟩
 case rest =>
  obtain⟨P,Q,rfl,rfl,rfl,l,gP,gQ,Z,hQ,hf⟩:=hcut;have aM:Fr [] w a:=by rw[<-an];exact (Fq [] w).alloc _
  have aR:∃ fR,a.rowIs w.heap.size 57 32 fR:=by rw[<-an];exact⟨_,row_new w _ _⟩
  have hs0:w.heap.size<a.heap.size:=by rw[<-an,wsA];omega
  obtain⟨fR,aL⟩:=aR;have aC:=rowIs_fr aL hf qs;have aq:Fr [] w wc:=aM.trans hf qs;have aB:HashAt wc b h:=HH.out.fr aq qs
  have aa:P≠w.heap.size:=qo
  have F:Q≠w.heap.size:=qo
  have Y:w.heap.size<=P:=qo
  have E:w.heap.size<=Q:=qo
  have ar:=L.low;clear an aM aL hf hs0 HB;obtain⟨m,hm⟩:=nmd (h.len % 64);have aY:m<64:=qo
  rw[hm]
  by_cases h0:h.len=0
  ·have c0:wc.cell? ⟨b,0,none⟩=some (.int .i64 0):=by have:=aB.len;rwa [h0] at this
   have aI:=there_row Z (nlr 8);have aH:=run_storeCells_cells (P:=prog) P 0 (ivL.map (Value.int .u32)) 0 wc (fun j k=>(aI j k).1) (fun j k=>(aI j k).2) (by intro v hv;obtain⟨x,_,rfl⟩:=List.mem_map.1 hv;rfl);simp only[Nat.add_zero] at aH;have aO:wc.rangeAt 1 0 (ivL.map (Value.int .u32)):=iv_range (L.fr0 aq);obtain⟨W5,aD⟩:=nmd (wc.setCells P 0 (ivL.map (Value.int .u32)));have aX:ivL.length=8:=rfl
   have aK:W5.rowIs P 162 8 (fun j=>.int .u32 (hs0 h j)):=by
    rw[<-aD];exact rowIs_whole Z rfl (fun j k=>by unfold hs0;rw[if_pos h0];exact iv_get k)
   have aE:Fr [P] wc W5:=by rw[<-aD];exact (Fq [P] _).setCells qs _ _
   rw[aD] at aH;have aQ:=Hd aO;have ag:=Hd (aq.trans aE (by simpa using Y));have ai:=Hd (rowIs_fr aC aE (by simpa using fun e=>aa e.symm));have ah:=Hd aK;have HQ:=Hd (rowIs_fr hQ aE (by simpa using fun e=>l e.symm));clear aB aq aC Z hQ aI aO aK aE aD h0
   go_upto_region 6 with ((with_reducible refine wpList_load_mid rfl 162 (.global 1) rfl 1 0 rfl _ _ aQ.out rfl rfl rfl ?_))
   clear aH c0;have xk:(W5).cell? ⟨Q,m,none⟩=some _:=HQ.out.cell qo;have xf:=HQ.out.frozen m;have aW:(m:Int)<64:=qo
   go_upto_region 7 with fail
   obtain⟨s,ad⟩:=nmd ((W5).setCell ⟨Q,m,none⟩ (.int .u8 128))
   have J:s.rowIs Q 163 64 (fun j=>.int .u8 (if j=m then 128 else h.rest j)):=by
    rw[<-ad];exact (HQ.out.set m (.int .u8 128)).congr (fun j k=>by by_cases e:j=m <;> simp[e])
   have f6:Fr [Q] (W5) s:=by rw[<-ad];exact (Fq [Q] _).set (p:=⟨Q,m,none⟩) qs _
   rw[ad];clear ad xk xf
   by_cases aA:m=63
   ·have q7:s.rowIs Q 163 64 (fun j=>.int .u8 (hb1 h j)):=J.congr (fun j k=>hb1_63 hm aA k)
    have D:∀ (af:Option Addr) (c:Nat) (ty:TypeId),(Builtin.clear_ #[49] ty #[.slice af 0 c]).run prog s=.ok (.tuple #[]) s:=fun af c ty=>by cases af <;> simp[Builtin.clear_,run_underlying (P:=prog) (t:=49) (d:=.slice 5) qk]
    subst aA;have G:=Hd q7;have r:=Hd f6;clear J q7 f6
    go_upto_region 8 with fail
    clear D
    have N:=Hd (ag.out.trans r.out (by simpa using E));have aj:=Hd (L.fr0 N.out);have P8:=Hd (rowIs_fr ah.out r.out (by simpa using l));have R8:=Hd (rowIs_fr ai.out r.out (by simpa using fun e=>F e.symm))
    go_upto_region 9 with fail
    go_upto_region 10 with ((go_at_call 144;refine (compress_two P Q _ _ (s) aj.out P8.out G.out).mono ?_;rintro e o ⟨rfl,ac,A⟩))
    have ak:=Hd ac;have C:=rowIs_fr G.out A (by simpa using fun e=>l e.symm);have r8:=rowIs_fr R8.out A (by simpa using fun e=>aa e.symm);have X:=N.out.trans A (by simpa using Y)
    have D:∀ (c:Nat) (ty:TypeId),(Builtin.clear_ #[49] ty #[.slice (some ⟨Q,0,none⟩) 64 c]).run prog o=.ok (.tuple #[]) (o.setCells Q 0 (List.replicate 64 (.int .u8 0))):=fun c ty =>
     Lib.run_clear_slice o 49 5 ty (.int .u8 0) qk (fun _=>by rfl) rfl rfl Q 0 64 c qo (fun j k=>by rw[C.cell qo];rfl) (fun j k=>C.frozen _)
    obtain⟨y,z⟩:=nmd (o.setCells Q 0 (List.replicate 64 (.int .u8 0)))
    have q9:y.rowIs Q 163 64 (fun j=>.int .u8 (hbl h j)):=by
     rw[<-z];exact rowIs_whole C qs (fun j k=>by unfold hbl;rw[if_pos qo,List.getElem?_replicate,if_pos k])
    have B:Fr [Q] o y:=by rw[<-z];exact (Fq [Q] _).setCells qs _ _
    rw[z] at D;have n:=Hd (X.trans B (by simpa using E));have O:=Hd (L.fr0 n.out);have R:Hid (y.rowIs P 162 8 (fun j=>.int .u32 (hs1 h j))):=Hd ((rowIs_fr ak.out B (by simpa using l)).congr (fun j k=>by unfold hs1;rw[if_pos qo]));have T:=Hd q9;have U:=Hd (rowIs_fr r8 B (by simpa using fun e=>F e.symm));have c9:=(HH.out.fr n.out qs).len;clear ac C r8 X q9 B z A
    go_upto_block 0 with fail
    refine sum12_any _ w (y) w.heap.size P Q (8*(h.len:Int)) (hs1 h) (hbl h) fR O.out R.out T.out U.out l aa F ar Y E (nlr _) n.out qo qo _ _ rfl rfl (by assumption) _ _ _ _ _ _ _ _ _ _ _ _ _ _ _ _ _ _ _ _ _ _ _ _ _ _ _ _ _ _ _ _ _ _ _ _ _ _ _ _ _ _ _ _ _ _ _ _ _ _ _ _ _ _ _ _ _ _ _ _ _ _ _ _ _ _ _ _ _ _ _ _ _ _ _ _ _ _ _ _ _ _ _ _ _ _ _ _ _
   ·have D:∀ (c:Nat) (ty:TypeId),(Builtin.clear_ #[49] ty #[.slice (some ⟨Q,m+1,none⟩) (63 - m) c]).run prog s=.ok (.tuple #[]) (s.setCells Q (m+1) (List.replicate (63 - m) (.int .u8 0))):=fun c ty =>
     Lib.run_clear_slice s 49 5 ty (.int .u8 0) qk (fun _=>by rfl) rfl rfl Q (m+1) (63 - m) c qo (fun j k=>by rw[J.cell qo];rfl) (fun j k=>J.frozen _)
    obtain⟨H,ae⟩:=nmd (s.setCells Q (m+1) (List.replicate (63 - m) (.int .u8 0)))
    have q7:H.rowIs Q 163 64 (fun j=>.int .u8 (hb1 h j)):=by
     rw[<-ae];exact (rowIs_setCells _ _ _ _ J).congr (fun j k=>hb1_clear hm qo k)
    have f7:Fr [Q] (W5) H:=by rw[<-ae];exact f6.setCells qs _ _
    rw[ae] at D;have G:=Hd q7;have r:=Hd f7;clear J q7 f6 f7 ae;have i1:(m:Int)+1<=64:=qo
    have i2:(0:Int)<=(m:Int)+1:=qo
    have i3:((m:Int)+1).toNat=m+1:=qo
    have i4:¬ (64=m+1):=qo
    have i5:¬ (m=63):=qo
    go_upto_region 8 with fail
    clear i1 i2 i3 i4 i5;clear D
    by_cases aS:56<=m
    ·have aT:(56:Int)<=((m:Nat):Int):=qo
     have N:=Hd (ag.out.trans r.out (by simpa using E));have aj:=Hd (L.fr0 N.out);have P8:=Hd (rowIs_fr ah.out r.out (by simpa using l));have R8:=Hd (rowIs_fr ai.out r.out (by simpa using fun e=>F e.symm))
     go_upto_region 9 with fail
     go_upto_region 10 with ((go_at_call 144;refine (compress_two P Q _ _ (H) aj.out P8.out G.out).mono ?_;rintro e o ⟨rfl,ac,A⟩))
     have ak:=Hd ac;have C:=rowIs_fr G.out A (by simpa using fun e=>l e.symm);have r8:=rowIs_fr R8.out A (by simpa using fun e=>aa e.symm);have X:=N.out.trans A (by simpa using Y)
     have D:∀ (c:Nat) (ty:TypeId),(Builtin.clear_ #[49] ty #[.slice (some ⟨Q,0,none⟩) 64 c]).run prog o=.ok (.tuple #[]) (o.setCells Q 0 (List.replicate 64 (.int .u8 0))):=fun c ty =>
      Lib.run_clear_slice o 49 5 ty (.int .u8 0) qk (fun _=>by rfl) rfl rfl Q 0 64 c qo (fun j k=>by rw[C.cell qo];rfl) (fun j k=>C.frozen _)
     obtain⟨y,z⟩:=nmd (o.setCells Q 0 (List.replicate 64 (.int .u8 0)))
     have q9:y.rowIs Q 163 64 (fun j=>.int .u8 (hbl h j)):=by
      rw[<-z];exact rowIs_whole C qs (fun j k=>by unfold hbl;rw[if_pos qo,List.getElem?_replicate,if_pos k])
     have B:Fr [Q] o y:=by rw[<-z];exact (Fq [Q] _).setCells qs _ _
     rw[z] at D;have n:=Hd (X.trans B (by simpa using E));have O:=Hd (L.fr0 n.out);have R:Hid (y.rowIs P 162 8 (fun j=>.int .u32 (hs1 h j))):=Hd ((rowIs_fr ak.out B (by simpa using l)).congr (fun j k=>by unfold hs1;rw[if_pos qo]));have T:=Hd q9;have U:=Hd (rowIs_fr r8 B (by simpa using fun e=>F e.symm));have c9:=(HH.out.fr n.out qs).len;clear ac C r8 X q9 B z A
     go_upto_block 0 with fail
     refine sum12_any _ w (y) w.heap.size P Q (8*(h.len:Int)) (hs1 h) (hbl h) fR O.out R.out T.out U.out l aa F ar Y E (nlr _) n.out qo qo _ _ rfl rfl (by assumption) _ _ _ _ _ _ _ _ _ _ _ _ _ _ _ _ _ _ _ _ _ _ _ _ _ _ _ _ _ _ _ _ _ _ _ _ _ _ _ _ _ _ _ _ _ _ _ _ _ _ _ _ _ _ _ _ _ _ _ _ _ _ _ _ _ _ _ _ _ _ _ _ _ _ _ _ _ _ _ _ _ _ _ _ _ _ _ _ _
    ·have aV:¬ (56:Int)<=((m:Nat):Int):=qo
     have n:=Hd (ag.out.trans r.out (by simpa using E));have O:=Hd (L.fr0 n.out);have R:Hid (((H):World).rowIs P 162 8 (fun j=>.int .u32 (hs1 h j))):=Hd ((rowIs_fr ah.out r.out (by simpa using l)).congr (fun j k=>by unfold hs1;rw[if_neg qo]));have T:Hid (((H):World).rowIs Q 163 64 (fun j=>.int .u8 (hbl h j))):=Hd (G.out.congr (fun j k=>by unfold hbl;rw[if_neg qo]));have U:=Hd (rowIs_fr ai.out r.out (by simpa using fun e=>F e.symm));have c9:=(HH.out.fr n.out qs).len
     go_upto_block 0 with fail
     refine sum12_any _ w (H) w.heap.size P Q (8*(h.len:Int)) (hs1 h) (hbl h) fR O.out R.out T.out U.out l aa F ar Y E (nlr _) n.out qo qo _ _ rfl rfl (by assumption) _ _ _ _ _ _ _ _ _ _ _ _ _ _ _ _ _ _ _ _ _ _ _ _ _ _ _ _ _ _ _ _ _ _ _ _ _ _ _ _ _ _ _ _ _ _ _ _ _ _ _ _ _ _ _ _ _ _ _ _ _ _ _ _ _ _ _ _ _ _ _ _ _ _ _ _ _ _ _ _ _ _ _ _ _ _ _ _ _
  ·have c0:=aB.len
   have aZ:((h.len:Int) == 0)=false:=by simp;omega
   have ag:=Hd aq;have ai:=Hd aC;have HP:=Hd Z;have HQ:=Hd hQ;clear aB aq aC Z hQ;have aP:hs0 h=h.st:=by unfold hs0;rw[if_neg h0]
   have aJ:wc.rowIs P 162 8 (fun j=>.int .u32 (hs0 h j)):=by rw[aP];exact HP.out
   have ah:=Hd aJ;clear HP aJ aP
   go_upto_region 6 with fail
   have xk:(wc).cell? ⟨Q,m,none⟩=some _:=HQ.out.cell qo;have xf:=HQ.out.frozen m;have aW:(m:Int)<64:=qo
   go_upto_region 7 with fail
   obtain⟨s,ad⟩:=nmd ((wc).setCell ⟨Q,m,none⟩ (.int .u8 128))
   have J:s.rowIs Q 163 64 (fun j=>.int .u8 (if j=m then 128 else h.rest j)):=by
    rw[<-ad];exact (HQ.out.set m (.int .u8 128)).congr (fun j k=>by by_cases e:j=m <;> simp[e])
   have f6:Fr [Q] (wc) s:=by rw[<-ad];exact (Fq [Q] _).set (p:=⟨Q,m,none⟩) qs _
   rw[ad];clear ad xk xf
   by_cases aA:m=63
   ·have q7:s.rowIs Q 163 64 (fun j=>.int .u8 (hb1 h j)):=J.congr (fun j k=>hb1_63 hm aA k)
    have D:∀ (af:Option Addr) (c:Nat) (ty:TypeId),(Builtin.clear_ #[49] ty #[.slice af 0 c]).run prog s=.ok (.tuple #[]) s:=fun af c ty=>by cases af <;> simp[Builtin.clear_,run_underlying (P:=prog) (t:=49) (d:=.slice 5) qk]
    subst aA;have G:=Hd q7;have r:=Hd f6;clear J q7 f6
    go_upto_region 8 with fail
    clear D
    have N:=Hd (ag.out.trans r.out (by simpa using E));have aj:=Hd (L.fr0 N.out);have P8:=Hd (rowIs_fr ah.out r.out (by simpa using l));have R8:=Hd (rowIs_fr ai.out r.out (by simpa using fun e=>F e.symm))
    go_upto_region 9 with fail
    go_upto_region 10 with ((go_at_call 144;refine (compress_two P Q _ _ (s) aj.out P8.out G.out).mono ?_;rintro e o ⟨rfl,ac,A⟩))
    have ak:=Hd ac;have C:=rowIs_fr G.out A (by simpa using fun e=>l e.symm);have r8:=rowIs_fr R8.out A (by simpa using fun e=>aa e.symm);have X:=N.out.trans A (by simpa using Y)
    have D:∀ (c:Nat) (ty:TypeId),(Builtin.clear_ #[49] ty #[.slice (some ⟨Q,0,none⟩) 64 c]).run prog o=.ok (.tuple #[]) (o.setCells Q 0 (List.replicate 64 (.int .u8 0))):=fun c ty =>
     Lib.run_clear_slice o 49 5 ty (.int .u8 0) qk (fun _=>by rfl) rfl rfl Q 0 64 c qo (fun j k=>by rw[C.cell qo];rfl) (fun j k=>C.frozen _)
    obtain⟨y,z⟩:=nmd (o.setCells Q 0 (List.replicate 64 (.int .u8 0)))
    have q9:y.rowIs Q 163 64 (fun j=>.int .u8 (hbl h j)):=by
     rw[<-z];exact rowIs_whole C qs (fun j k=>by unfold hbl;rw[if_pos qo,List.getElem?_replicate,if_pos k])
    have B:Fr [Q] o y:=by rw[<-z];exact (Fq [Q] _).setCells qs _ _
    rw[z] at D;have n:=Hd (X.trans B (by simpa using E));have O:=Hd (L.fr0 n.out);have R:Hid (y.rowIs P 162 8 (fun j=>.int .u32 (hs1 h j))):=Hd ((rowIs_fr ak.out B (by simpa using l)).congr (fun j k=>by unfold hs1;rw[if_pos qo]));have T:=Hd q9;have U:=Hd (rowIs_fr r8 B (by simpa using fun e=>F e.symm));have c9:=(HH.out.fr n.out qs).len;clear ac C r8 X q9 B z A
    go_upto_block 0 with fail
    refine sum12_any _ w (y) w.heap.size P Q (8*(h.len:Int)) (hs1 h) (hbl h) fR O.out R.out T.out U.out l aa F ar Y E (nlr _) n.out qo qo _ _ rfl rfl (by assumption) _ _ _ _ _ _ _ _ _ _ _ _ _ _ _ _ _ _ _ _ _ _ _ _ _ _ _ _ _ _ _ _ _ _ _ _ _ _ _ _ _ _ _ _ _ _ _ _ _ _ _ _ _ _ _ _ _ _ _ _ _ _ _ _ _ _ _ _ _ _ _ _ _ _ _ _ _ _ _ _ _ _ _ _ _ _ _ _ _
   ·have D:∀ (c:Nat) (ty:TypeId),(Builtin.clear_ #[49] ty #[.slice (some ⟨Q,m+1,none⟩) (63 - m) c]).run prog s=.ok (.tuple #[]) (s.setCells Q (m+1) (List.replicate (63 - m) (.int .u8 0))):=fun c ty =>
     Lib.run_clear_slice s 49 5 ty (.int .u8 0) qk (fun _=>by rfl) rfl rfl Q (m+1) (63 - m) c qo (fun j k=>by rw[J.cell qo];rfl) (fun j k=>J.frozen _)
    obtain⟨H,ae⟩:=nmd (s.setCells Q (m+1) (List.replicate (63 - m) (.int .u8 0)))
    have q7:H.rowIs Q 163 64 (fun j=>.int .u8 (hb1 h j)):=by
     rw[<-ae];exact (rowIs_setCells _ _ _ _ J).congr (fun j k=>hb1_clear hm qo k)
    have f7:Fr [Q] (wc) H:=by rw[<-ae];exact f6.setCells qs _ _
    rw[ae] at D;have G:=Hd q7;have r:=Hd f7;clear J q7 f6 f7 ae;have i1:(m:Int)+1<=64:=qo
    have i2:(0:Int)<=(m:Int)+1:=qo
    have i3:((m:Int)+1).toNat=m+1:=qo
    have i4:¬ (64=m+1):=qo
    have i5:¬ (m=63):=qo
    go_upto_region 8 with fail
    clear i1 i2 i3 i4 i5;clear D
    by_cases aS:56<=m
    ·have aT:(56:Int)<=((m:Nat):Int):=qo
     have N:=Hd (ag.out.trans r.out (by simpa using E));have aj:=Hd (L.fr0 N.out);have P8:=Hd (rowIs_fr ah.out r.out (by simpa using l));have R8:=Hd (rowIs_fr ai.out r.out (by simpa using fun e=>F e.symm))
     go_upto_region 9 with fail
     go_upto_region 10 with ((go_at_call 144;refine (compress_two P Q _ _ (H) aj.out P8.out G.out).mono ?_;rintro e o ⟨rfl,ac,A⟩))
     have ak:=Hd ac;have C:=rowIs_fr G.out A (by simpa using fun e=>l e.symm);have r8:=rowIs_fr R8.out A (by simpa using fun e=>aa e.symm);have X:=N.out.trans A (by simpa using Y)
     have D:∀ (c:Nat) (ty:TypeId),(Builtin.clear_ #[49] ty #[.slice (some ⟨Q,0,none⟩) 64 c]).run prog o=.ok (.tuple #[]) (o.setCells Q 0 (List.replicate 64 (.int .u8 0))):=fun c ty =>
      Lib.run_clear_slice o 49 5 ty (.int .u8 0) qk (fun _=>by rfl) rfl rfl Q 0 64 c qo (fun j k=>by rw[C.cell qo];rfl) (fun j k=>C.frozen _)
     obtain⟨y,z⟩:=nmd (o.setCells Q 0 (List.replicate 64 (.int .u8 0)))
     have q9:y.rowIs Q 163 64 (fun j=>.int .u8 (hbl h j)):=by
      rw[<-z];exact rowIs_whole C qs (fun j k=>by unfold hbl;rw[if_pos qo,List.getElem?_replicate,if_pos k])
     have B:Fr [Q] o y:=by rw[<-z];exact (Fq [Q] _).setCells qs _ _
     rw[z] at D;have n:=Hd (X.trans B (by simpa using E));have O:=Hd (L.fr0 n.out);have R:Hid (y.rowIs P 162 8 (fun j=>.int .u32 (hs1 h j))):=Hd ((rowIs_fr ak.out B (by simpa using l)).congr (fun j k=>by unfold hs1;rw[if_pos qo]));have T:=Hd q9;have U:=Hd (rowIs_fr r8 B (by simpa using fun e=>F e.symm));have c9:=(HH.out.fr n.out qs).len;clear ac C r8 X q9 B z A
     go_upto_block 0 with fail
     refine sum12_any _ w (y) w.heap.size P Q (8*(h.len:Int)) (hs1 h) (hbl h) fR O.out R.out T.out U.out l aa F ar Y E (nlr _) n.out qo qo _ _ rfl rfl (by assumption) _ _ _ _ _ _ _ _ _ _ _ _ _ _ _ _ _ _ _ _ _ _ _ _ _ _ _ _ _ _ _ _ _ _ _ _ _ _ _ _ _ _ _ _ _ _ _ _ _ _ _ _ _ _ _ _ _ _ _ _ _ _ _ _ _ _ _ _ _ _ _ _ _ _ _ _ _ _ _ _ _ _ _ _ _ _ _ _ _
    ·have aV:¬ (56:Int)<=((m:Nat):Int):=qo
     have n:=Hd (ag.out.trans r.out (by simpa using E));have O:=Hd (L.fr0 n.out);have R:Hid (((H):World).rowIs P 162 8 (fun j=>.int .u32 (hs1 h j))):=Hd ((rowIs_fr ah.out r.out (by simpa using l)).congr (fun j k=>by unfold hs1;rw[if_neg qo]));have T:Hid (((H):World).rowIs Q 163 64 (fun j=>.int .u8 (hbl h j))):=Hd (G.out.congr (fun j k=>by unfold hbl;rw[if_neg qo]));have U:=Hd (rowIs_fr ai.out r.out (by simpa using fun e=>F e.symm));have c9:=(HH.out.fr n.out qs).len
     go_upto_block 0 with fail
     refine sum12_any _ w (H) w.heap.size P Q (8*(h.len:Int)) (hs1 h) (hbl h) fR O.out R.out T.out U.out l aa F ar Y E (nlr _) n.out qo qo _ _ rfl rfl (by assumption) _ _ _ _ _ _ _ _ _ _ _ _ _ _ _ _ _ _ _ _ _ _ _ _ _ _ _ _ _ _ _ _ _ _ _ _ _ _ _ _ _ _ _ _ _ _ _ _ _ _ _ _ _ _ _ _ _ _ _ _ _ _ _ _ _ _ _ _ _ _ _ _ _ _ _ _ _ _ _ _ _ _ _ _ _ _ _ _ _
theorem lit_row {c:Array Value} {n:Nat} {f:Nat->Value} (h:c=((List.range n).map f).toArray):c.size=n/\∀ i,i<n->c[i]?=some (f i):=by
 subst h;refine⟨qs,fun i a=>?_⟩;simp[a]
def hash0:HS:=⟨0,fun _=>0,fun _=>0⟩
theorem hash_new (w:World):HashAt (w.alloc (.cells Tryz.zeroCells165 165)) w.heap.size hash0:=by
 have h:=lit_row (c:=Tryz.zeroCells165) (n:=73) (f:=hcell hash0) qk;exact World.rowIs_alloc w _ _ _ h.2
def shaN (l:Nm):Nm:=hsum (if l.length=0 then hash0 else hwrite ⟨0,iv,fun _=>0⟩ l)
theorem hwrite_len (h:HS) (l:List UInt8):(hwrite h l).len=h.len+l.length:=by
 generalize d:l.length=n
 induction n using Nat.strongRecOn generalizing h l with
 | _ n b =>
  by_cases a:l.length=0
  ·rw[List.eq_nil_of_length_eq_zero a,hwrite_nil]
   omega
  ·have c:=hn_bounds h l
   rw[hwrite_step a,b (l.drop (hn h l)).length (by rw[List.length_drop];omega) _ _ rfl,List.length_drop];unfold hchunk;simp only;omega
theorem dcells_size (d:Nm):(dCells d).toArray.size=d.length:=by simp[dCells]
theorem shaN_len (l:Nm):(shaN l).length=32:=by simp[shaN,hsum,dig]
theorem dcells_len (d:Nm):(dCells d).length=d.length:=by simp[dCells]
theorem dcells_one (d:Nm):∀ v∈dCells d,v.oneCell'=true:=by
 intro v a;obtain⟨x,_,rfl⟩:=List.mem_map.1 a;rfl
theorem dcells_get {d:Nm} {j:Nat} (a:j<d.length):(dCells d)[j]?=some (.int .u8 ((d.getD j 0).toNat:Int)):=by
 unfold dCells;rw[List.getElem?_map,lge a,Option.map_some,List.getD_eq_getElem?_getD,lge a];rfl
theorem row_digest {w:World} {b:Nat} {t:TypeId} {f:Nat->Value} {d:Nm} (i:w.rowIs b t 32 f) (c:d.length=32):(w.setCells b 0 (dCells d)).rangeAt b 0 (dCells d)/\(w.setCells b 0 (dCells d)).rowIs b t 32 (fun j=>.int .u8 ((d.getD j 0).toNat:Int)):=by
 have a:=rowIs_whole i (vs:=dCells d) (g:=fun j=>.int .u8 ((d.getD j 0).toNat:Int)) (by simp[dCells,c]) (fun j e=>dcells_get qo);refine⟨fun j v h=>?_,a⟩;have e:j<32:=by have:=(lgs.1 h).1;simpa [dCells,c] using this
 rw[Nat.zero_add,a.cell e,<-h,dcells_get qo]
theorem store_digest {w:World} {b:Nat} {t:TypeId} {f:Nat->Value} {d:Nm} (h:w.rowIs b t 32 f) (i:d.length=32):(storeCells ⟨b,0,none⟩ (dCells d)).run prog w=.ok () (w.setCells b 0 (dCells d)):=by
 have g:=there_row h (nlr 32);have c:(dCells d).length=32:=by simp[dCells,i]
 have e:=run_storeCells_cells (P:=prog) b 0 (dCells d) 0 w (by rw[c];exact fun j a=>(g j a).1) (by rw[c];exact fun j a=>(g j a).2) (dcells_one d);simp only[Nat.add_zero] at e;exact e
theorem SumS_any (l:Nm) (w:World) (m:Ok w) (y:l.length<=1152921504606846976):Calls prog 29 #[encN l] w (SumPost w (shaN l)):=by
 obtain⟨g,a⟩:=nmd (w.alloc (.cells z32 57));obtain⟨w2,c⟩:=nmd (g.alloc (.cells Tryz.zeroCells165 165));have h:∃ f,g.rowIs w.heap.size 57 32 f:=by rw[<-a];exact⟨_,row_new w _ _⟩
 obtain⟨M,h⟩:=h;have A:g.heap.size=w.heap.size+1:=by rw[<-a,wsA]
 have j:HashAt w2 g.heap.size hash0:=by rw[<-c];exact hash_new g
 have u:w2.rowIs w.heap.size 57 32 M:=by rw[<-c];exact h.alloc _
 have r:Fr [] w w2:=by rw[<-c,<-a];exact ((Fq [] w).alloc _).alloc _
 rw[A] at j;have V:=m.low;have K:=Hd a;have L:=Hd c;have E:=Hd j;have H:=Hd u;have n:=Hd r;clear a c h j u r A
 go_enter func29,ntmps29
 go_wp2_with fail
 rw[K.out,L.out];refine (Write_any (w.heap.size+1) l hash0 w2 (m.fr0 n.out) qo y E.out rfl).mono ?_;rintro e C ⟨rfl,P,s⟩;have Q:=rowIs_fr H.out s qs;have N:Fr [] w C:=n.out.trans s qs
 have k:(if l.length=0 then hash0 else hwrite ⟨0,iv,hash0.rest⟩ l).len=l.length:=by
  by_cases i:l.length=0
  ·rw[if_pos i,i];rfl
  ·rw[if_neg i,hwrite_len];simp
 have F:=Hd P;have I:=Hd Q;have q:=Hd N;have G:=Hd k
 go_wp2_with fail
 refine (Sum_any (w.heap.size+1) _ C (m.fr0 q.out) qo (by rw[G.out];exact y) F.out).mono ?_;rintro e T ⟨rfl,t⟩;have R:hsum (if l.length=0 then hash0 else hwrite ⟨0,iv,hash0.rest⟩ l)=shaN l:=rfl;rw[R];have x:=rowIs_fr I.out t qs;have S:=store_digest x (shaN_len l);have z:=row_digest x (shaN_len l);obtain⟨U,B⟩:=nmd (T.setCells w.heap.size 0 (dCells (shaN l)));have O:Fr [] w U:=by rw[<-B];exact (q.out.then t).setCells (.inr (nlr _)) _ _
 rw[B] at S z;have J:=Hd z.1;have D:=Hd O;have k:=dcells_size (shaN l);rw[shaN_len] at k;unfold encD
 go_wp2_with fail
 exact bodyPost_ret (v:=encD (shaN l)) (results_cell_mid (d:=.array 32 5) (p:=2) (ty:=57) (b:=w.heap.size) (o:=0) rfl rfl J.out qk rfl (by rw[dcells_len,shaN_len];rfl)) rfl ⟨rfl,D.out⟩
set_option maxRecDepth 512
set_option maxHeartbeats 200000
theorem strOfNums_map (l:Nm):strOfNums (l.map fun c=>(c.toNat:Int))=⟨l.toArray⟩:=by
 unfold strOfNums
 congr 1
 rw[List.map_map]
 congr 1
 conv=>rhs;rw[<-List.map_id l]
 apply List.map_congr_left
 intro c _;simp
theorem run_row_str {P:Program} {w:World} {B n:Nat} {A:Option Addr} {l:Nm} (k:Row w B 1 A n (dCells l)) (f e:TypeId) (j:P.underlying f=some (.slice e)) (h:P.underlying e=some (.int .u8)) (d:TypeId) (g:P.underlying d=some .string) (c:Nat) :
 (convert f d (.slice A n c)).run P w=.ok (encN l) w:=by
 have o:l.length=n:=by have:=k.1;rw[dcells_len] at this;omega
 by_cases p:n=0
 ·obtain rfl:l=[]:=List.eq_nil_of_length_eq_zero qo
  subst p
  cases A with
  | none=>exact run_convert_bytes_nil w f e j h 0 c d g
  | some a =>
   rw[run_convert_bytes_string w f d e _ 0 c j h g,run_bytesToString w a 0 c [] (by simpa using run_loadCells_list (P:=P) w a [] qs)];rfl
 ·obtain⟨b,off,rfl,_,m⟩:=k.2 qo
  rw[run_convert_bytes_arg w f e j h b off n c (l.map fun x=>(x.toNat:Int)) (by simpa using o) (fun i q=>?_) d g,strOfNums_map]
  ·rfl
  ·rw[m i _ (dcells_get qo)]
   rw[List.getD_eq_getElem?_getD,List.getD_eq_getElem?_getD,List.getElem?_map,lge qo];rfl
theorem dcells_append (a b:Nm):dCells (a++b)=dCells a++dCells b:=by simp[dCells]
def be4 (n:Nat):Nm:=[UInt8.ofNat (n / 16777216),UInt8.ofNat (n / 65536),UInt8.ofNat (n / 256),UInt8.ofNat n]
def joinP (a:List Nm):Nm:=a.flatMap fun p=>be4 p.length++p
def joinN (b:UInt8) (a:List Nm):Nm:=[b,UInt8.ofNat a.length]++joinP a
def joinL (a:List Nm):Nat:=(a.map fun p=>4+p.length).sum
theorem joinP_len (a:List Nm):(joinP a).length=joinL a:=by
 induction a with
 | nil=>rfl
 | cons p r b =>
  unfold joinP joinL at *;rw[List.flatMap_cons,lla,b,List.map_cons,List.sum_cons,lla];simp[be4]
theorem joinL_snoc (a:List Nm) (p:Nm):joinL (a++[p])=joinL a+(4+p.length):=by simp[joinL]
theorem joinP_snoc (a:List Nm) (p:Nm):joinP (a++[p])=joinP a++(be4 p.length++p):=by simp[joinP]
theorem take_snoc' {α:Type} {l:List α} {k:Nat} {x:α} (h:l[k]?=some x):l.take (k+1)=l.take k++[x]:=by
 rw[List.take_succ,h];rfl
theorem joinL_take {a:List Nm} {k:Nat} {p:Nm} (h:a[k]?=some p):joinL (a.take (k+1))=joinL (a.take k)+(4+p.length):=by rw[take_snoc' h,joinL_snoc]
theorem joinP_take {a:List Nm} {k:Nat} {p:Nm} (h:a[k]?=some p):joinP (a.take (k+1))=joinP (a.take k)++(be4 p.length++p):=by rw[take_snoc' h,joinP_snoc]
theorem joinL_mono (a:List Nm) (k:Nat):joinL (a.take k)<=joinL a:=by
 conv=>rhs;rw[<-List.take_append_drop k a]
 unfold joinL;rw[List.map_append,List.sum_append];omega
theorem be4_cells (n:Nat):dCells (be4 n)=[.int .u8 ((n:Int) / 16777216 % 256),.int .u8 ((n:Int) / 65536 % 256),.int .u8 ((n:Int) / 256 % 256),.int .u8 ((n:Int) % 256)]:=by
 unfold be4 dCells;simp only[List.map_cons,List.map_nil,UInt8.toNat_ofNat']
 congr 2
theorem Row.str {w:World} {B n k:Nat} {A:Option Addr} {c:List Nm} (h:Row w B 1 A n (c.map encN)) (m:k<n):∃ b off p s,A=some ⟨b,off,none⟩/\b<B/\c[k]?=some p/\encN p=.string s/\s.data.toList=p/\s.size=p.length/\w.cell? ⟨b,off+k,none⟩=some (.string s):=by
 obtain⟨b,off,u,i,j,a,l⟩:=h.at1 m;rw[List.getElem?_map] at a
 cases e:c[k]? with
 | none=>rw[e] at a;simp at a
 | some p =>
  rw[e] at a;simp only[Option.map_some,Option.some.injEq] at a;obtain⟨s,d,f,g⟩:=str_of p;exact⟨b,off,p,s,i,j,rfl,d,f,g,by rw[l,<-a,d]⟩
def blk (A:Option Addr):List Nat:=(A.map Addr.block).toList
theorem mem_blk {A:Option Addr} {n c k:Nat}:(Value.slice A n c).ownBlock=some k ↔ k∈blk A:=by
 cases A with
 | none=>simp[blk,Value.ownBlock]
 | some a=>simp[blk,Value.ownBlock];exact eq_comm
def Own (w:World) (e:TypeId) (size:Nat) (A:Option Addr) (n c:Nat) (xs:List Value):Prop:=w.ownsRow 0 e size (.slice A n c) n xs
section
variable {w w':World} {e:TypeId} {size n c:Nat} {A A':Option Addr} {xs:List Value} {S:List Nat}
theorem Own.nil (w:World) (e:TypeId) (size:Nat):Own w e size none 0 0 []:=World.ownsRow_nil w 0 e size
theorem Own.fr (h:Own w e size A n c xs) (d:Fr S w w') (b:∀ k∈blk A,k ∉ S):Own w' e size A n c xs:=own_fr h d (by
 intro k f;exact b k (mem_blk.1 f))
theorem Own.alloc (h:Own w e size A n c xs) (o:Obj):Own (w.alloc o) e size A n c xs:=World.ownsRow.alloc h o
theorem Own.len (h:Own w e size A n c xs):xs.length=n*size:=h.1
theorem Own.row (h:Own w e size A n c xs):Row w w.heap.size size A n xs:=Row.of_own (base:=0) h
theorem Own.lt (h:Own w e size A n c xs):∀ k∈blk A,k<w.heap.size:=by
 intro k b;exact (World.ownsRow.lt h k (mem_blk.2 b)).2
theorem Own.le_cap (h:Own w e size A n c xs):n<=c:=by
 rcases h.2 with ⟨b,d⟩ | ⟨g,f,i,b,_,_,d,_⟩
 ·injection b;omega
 ·injection b;omega
end
theorem Fr.of_grown {w w':World} {A:Option Addr} {n c:Nat} (h:w.grownBy w' (Value.slice A n c).ownBlock):Fr (blk A) w w' :=
 ⟨h.os,h.tape,h.output,h.size,fun k b d=>h.block k b (fun e=>d (mem_blk.1 e.symm))⟩
section
variable {P:Program} (w:World)
theorem run_app (t ty e:TypeId) (i:TypeInfo) (z:Value) (size r:Nat) (y:P.underlying t=some (.slice e)) (s:P.info? e=some i) (K:i.zero=some z)
 (I:i.size=size) (F:i.bytes=r) (O:z.cells.size=size) (N:0<size)
 (A:Option Addr) (n c:Nat) (xs:List Value) (q:Own w e size A n c xs)
 (a:Addr) (m h:Nat) (f:List Value) (p:f.length=m*size) (v:∀ j u,f[j]?=some u->w.cell? (a.add j)=some u) (C:∀ u∈f,u.oneCell'=true)
 (D:n+m<=maxLen) (G:(n+m)*r<=140737488355328) :
 ∃ A' c' w',(Builtin.append_ #[t,t] ty #[.slice A n c,.slice (some a) m h]).run P w=.ok (.slice A' (n+m) c') w'/\Own w' e size A' (n+m) c' (xs++f)/\Fr (blk A) w w'/\∀ k∈blk A',k∈blk A \/ w.heap.size<=k:=by
 obtain⟨v',w',x,L,U,Z⟩:=run_append_own (P:=P) w 0 t ty e i z size r y s K I F O N (.slice A n c) n xs q a m h f p v C D G (Nat.zero_le _);obtain⟨A',c',rfl,ab⟩:=own_form L;refine⟨A',c',w',x,L,Fr.of_grown U,?_⟩
 rcases q.2 with ⟨J,X⟩ | ⟨g,Y,R,J,_,W,aa,_,V,_⟩
 ·injection J with E _ H
  subst E X H;obtain⟨v2,w2,d,T,_,_⟩:=run_append_own (P:=P) w w.heap.size t ty e i z size r y s K I F O N gz 0 xs ⟨q.1,.inl ⟨rfl,rfl⟩⟩ a m h f p v C D G (nlr _);rw[x] at d
  injection d with b B
  subst b B;intro k l;exact .inr (own_block_le T k (mem_blk.2 l))
 ·injection J with E _ H
  subst E H;subst I
  by_cases M:n+m<=c
  ·have d:=run_append_room (P:=P) w t ty e i y s g n c R W a m h f p v C M (by rw[p,V,<-Nat.add_mul];exact Nat.mul_le_mul_right _ M)
   rw[x] at d
   injection d with b B
   injection b with b
   subst b;intro k l;exact .inl l
  ·have d:=run_append_grow (P:=P) w t ty e i z y s K ⟨g,0,none⟩ n c xs q.1 (q.cells (g:=g) rfl) a m h f p v qo (by simp only[maxLen] at D;omega) (growslice_fits qo (by rw[F];exact G))
   rw[x] at d
   injection d with b B
   injection b with b
   subst b;intro k l;simp only[blk,Option.map_some,Option.toList_some,lms] at l;exact .inr qo
theorem run_app_str (t u ty e:TypeId) (i:TypeInfo) (p:P.underlying t=some (.slice e)) (q:P.underlying u=some .string) (j:P.info? e=some i) (C:i.zero=some (.int .u8 0))
 (m:i.size=1) (y:i.bytes=1)
 (A:Option Addr) (n c:Nat) (xs:List Value) (h:Own w e 1 A n c xs) (s:ByteArray)
 (v:n+s.size<=maxLen) (E:n+s.size<=140737488355328) :
 ∃ A' c' w',(Builtin.append_ #[t,u] ty #[.slice A n c,.string s]).run P w=.ok (.slice A' (n+s.size) c') w'/\Own w' e 1 A' (n+s.size) c' (xs++dCells s.data.toList)/\Fr (blk A) w w'/\∀ k∈blk A',k∈blk A \/ w.heap.size<=k:=by
 obtain⟨T,w',l,D,H,M⟩:=Lib.run_append_own_string (P:=P) w 0 t u ty e i p q j C m y (.slice A n c) n xs h s v E (Nat.zero_le _);obtain⟨A',c',rfl,R⟩:=own_form D;refine⟨A',c',w',l,D,Fr.of_grown H,?_⟩
 rcases h.2 with ⟨B,J⟩ | ⟨g,L,F,B,_,I,O,_,N,_⟩
 ·injection B with x _ z
  subst x J z;obtain⟨U,w2,d,G,_,_⟩:=Lib.run_append_own_string (P:=P) w w.heap.size t u ty e i p q j C m y gz 0 xs ⟨h.1,.inl ⟨rfl,rfl⟩⟩ s v E (nlr _);rw[l] at d
  injection d with b r
  subst b r;intro k f;exact .inr (own_block_le G k (mem_blk.2 f))
 ·injection B with x _ z
  subst x z
  by_cases K:n+s.size<=c
  ·have d:=Lib.run_append_room_string (P:=P) w t u ty e i p q j m g n c F I s K qo
   rw[l] at d
   injection d with b r
   injection b with b
   subst b;intro k f;exact .inl f
  ·have d:=Lib.run_append_grow_string (P:=P) w t u ty e i _ p q j C ⟨g,0,none⟩ n c xs (by rw[m];exact h.1) (h.cells (g:=g) rfl) s qo (by simp only[maxLen] at v;omega) (growslice_fits qo (by rw[y];omega))
   rw[l] at d
   injection d with b r
   injection b with b
   subst b;intro k f;simp only[blk,Option.map_some,Option.toList_some,lms] at f;exact .inr qo
end
section
variable {P:Program} {ops:Array Oper} {rest:List Oper} {o:Oper} {a:Act} {Q:Exit->Act->World->Prop}
theorem wp_app {w:World} {K:Act->World->Prop} (s x:Operand) (t:TypeId) (F:o.op=.call { callee:=.builtin .append,args:=#[s,x],argTypes:=#[t,t] })
 (e:TypeId) (i:TypeInfo) (z:Value) (size f:Nat) (M:P.underlying t=some (.slice e)) (C:P.info? e=some i) (O:i.zero=some z) (J:i.size=size) (y:i.bytes=f) (R:z.cells.size=size) (L:0<size)
 (A:Option Addr) (n c:Nat) (xs:List Value) (I:a.eval s=.slice A n c) (G:Own w e size A n c xs)
 (d:Addr) (m g:Nat) (b:List Value) (N:a.eval x=.slice (some d) m g) (D:b.length=m*size) (E:∀ j u,b[j]?=some u->w.cell? (d.add j)=some u) (l:∀ u∈b,u.oneCell'=true)
 (v:n+m<=maxLen) (B:(n+m)*f<=140737488355328)
 (h:∀ A' c' w',Own w' e size A' (n+m) c' (xs++b)->Fr (blk A) w w'->(∀ k∈blk A',k∈blk A \/ w.heap.size<=k)->K (a.put o.dst (.slice A' (n+m) c')) w'):o.wp P a w K Q:=by
 obtain⟨A',c',w',H,p,q,r⟩:=run_app (P:=P) w t o.type e i z size f M C O J y R L A n c xs G d m g b D E l v B;unfold Oper.wp execOp;simp only[F,resolve,invoke,builtin,Sem.run_bind,Sem.run_pure,Result.andThen_ok,List.map_toArray,List.map_cons,List.map_nil,I,N,H];exact h A' c' w' p q r
theorem add_mid' (b j:Nat):(⟨b,0,none⟩:Addr).add j=⟨b,j,none⟩:=by rw[Addr.add_mid,Nat.zero_add]
theorem new_cells (w:World) (cs:List Value) (t:TypeId):∀ j u,cs[j]?=some u->(w.alloc (.cells cs.toArray t)).cell? ((⟨w.heap.size,0,none⟩:Addr).add j)=some u:=by
 intro j u b;rw[add_mid',(BoxN.new w t cs.toArray).c j];simpa using b
theorem wp_app_tmp {w:World} {K:Act->World->Prop} (s x:Operand) (t:TypeId) (F:o.op=.call { callee:=.builtin .append,args:=#[s,x],argTypes:=#[t,t] })
 (e:TypeId) (i:TypeInfo) (z:Value) (size d:Nat) (L:P.underlying t=some (.slice e)) (C:P.info? e=some i) (N:i.zero=some z) (I:i.size=size) (y:i.bytes=d) (O:z.cells.size=size) (J:0<size)
 (A:Option Addr) (n c:Nat) (xs:List Value) (H:a.eval s=.slice A n c) (G:Own w e size A n c xs)
 (m g:Nat) (b:List Value) (f:TypeId) (M:a.eval x=.slice (some ⟨w.heap.size,0,none⟩) m g) (E:b.length=m*size) (j:∀ u∈b,u.oneCell'=true)
 (v:n+m<=maxLen) (B:(n+m)*d<=140737488355328)
 (h:∀ A' c' w',Own w' e size A' (n+m) c' (xs++b)->Fr (blk A) w w'->(∀ k∈blk A',k∈blk A \/ w.heap.size<=k)->K (a.put o.dst (.slice A' (n+m) c')) w'):o.wp P a (w.alloc (.cells b.toArray f)) K Q :=
 wp_app (w:=w.alloc (.cells b.toArray f)) s x t F e i z size d L C N I y O J A n c xs H (G.alloc _) ⟨w.heap.size,0,none⟩ m g b M E (new_cells w b f) j v B fun A' c' w' l p q =>
  h A' c' w' l (((Fq (blk A) w).alloc _).then p) fun k D=>(q k D).imp id fun r=>by rw[wsA] at r;omega
theorem wp_app_str {w:World} {K:Act->World->Prop} (s x:Operand) (t u:TypeId) (q:o.op=.call { callee:=.builtin .append,args:=#[s,x],argTypes:=#[t,u] })
 (e:TypeId) (i:TypeInfo) (B:P.underlying t=some (.slice e)) (C:P.underlying u=some .string) (p:P.info? e=some i) (E:i.zero=some (.int .u8 0)) (z:i.size=1) (l:i.bytes=1)
 (A:Option Addr) (n c:Nat) (xs:List Value) (y:a.eval s=.slice A n c) (r:Own w e 1 A n c xs) (b:ByteArray) (D:a.eval x=.string b)
 (j:n+b.size<=maxLen) (m:n+b.size<=140737488355328)
 (h:∀ A' c' w',Own w' e 1 A' (n+b.size) c' (xs++dCells b.data.toList)->Fr (blk A) w w'->(∀ k∈blk A',k∈blk A \/ w.heap.size<=k)->K (a.put o.dst (.slice A' (n+b.size) c')) w'):o.wp P a w K Q:=by
 obtain⟨A',c',w',v,d,f,g⟩:=run_app_str (P:=P) w t u o.type e i B C p E z l A n c xs r b j m;unfold Oper.wp execOp;simp only[q,resolve,invoke,builtin,Sem.run_bind,Sem.run_pure,Result.andThen_ok,List.map_toArray,List.map_cons,List.map_nil,y,D,v];exact h A' c' w' d f g
theorem wpList_app_tmp {w:World} (C:o.guard=none) (s x:Operand) (t:TypeId) (F:o.op=.call { callee:=.builtin .append,args:=#[s,x],argTypes:=#[t,t] })
 (e:TypeId) (i:TypeInfo) (z:Value) (size d:Nat) (K:P.underlying t=some (.slice e)) (D:P.info? e=some i) (M:i.zero=some z) (I:i.size=size) (y:i.bytes=d) (N:z.cells.size=size) (J:0<size)
 (A:Option Addr) (n c:Nat) (xs:List Value) (H:a.eval s=.slice A n c) (G:Own w e size A n c xs)
 (m f:Nat) (b:List Value) (g:TypeId) (L:a.eval x=.slice (some ⟨w.heap.size,0,none⟩) m f) (E:b.length=m*size) (j:∀ u∈b,u.oneCell'=true)
 (r:n+m<=maxLen) (B:(n+m)*d<=140737488355328)
 (h:∀ A' c' w',Own w' e size A' (n+m) c' (xs++b)->Fr (blk A) w w'->(∀ k∈blk A',k∈blk A \/ w.heap.size<=k)->wpList P ops Q rest (a.put o.dst (.slice A' (n+m) c')) w'):wpList P ops Q (o::rest) a (w.alloc (.cells b.toArray g)) :=
 wpList_plain C fun _ v=>wp_app_tmp s x t F e i z size d K D M I y N J A n c xs H G m f b g L E j r B fun A' c' w' l p q=>v _ _ (h A' c' w' l p q)
theorem wpList_app_str {w:World} (q:o.guard=none) (s x:Operand) (t u:TypeId) (v:o.op=.call { callee:=.builtin .append,args:=#[s,x],argTypes:=#[t,u] })
 (e:TypeId) (i:TypeInfo) (C:P.underlying t=some (.slice e)) (D:P.underlying u=some .string) (r:P.info? e=some i) (F:i.zero=some (.int .u8 0)) (B:i.size=1) (m:i.bytes=1)
 (A:Option Addr) (n c:Nat) (xs:List Value) (z:a.eval s=.slice A n c) (y:Own w e 1 A n c xs) (b:ByteArray) (E:a.eval x=.string b)
 (j:n+b.size<=maxLen) (p:n+b.size<=140737488355328)
 (h:∀ A' c' w',Own w' e 1 A' (n+b.size) c' (xs++dCells b.data.toList)->Fr (blk A) w w'->(∀ k∈blk A',k∈blk A \/ w.heap.size<=k)->wpList P ops Q rest (a.put o.dst (.slice A' (n+b.size) c')) w'):wpList P ops Q (o::rest) a w :=
 wpList_plain q fun _ l=>wp_app_str s x t u v e i C D r F B m A n c xs z y b E j p fun A' c' w' d f g=>l _ _ (h A' c' w' d f g)
end
theorem info_u8:∃ i,(prog).info? 5=some i/\i.zero=some (.int .u8 0)/\i.size=1/\i.bytes=1:=info_parts qk
end Go.Proofs.YtlpmiimgacfmkaaGreatDoor
