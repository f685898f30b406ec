/- SHA-256: (Hash).Sum. -/
import Derived.Test.YtlpmiimgacfmkaaGreatDoorCCmp6
set_option linter.all false
set_option maxHeartbeats 4000000
set_option maxRecDepth 100000
namespace Go.Proofs.YtlpmiimgacfmkaaGreatDoor
open Go.Proofs.Tryz List
open Go.RowKit
def sn(h:HS):List Value:=(List.range 8).map λj=>.int .u32 (h.st j)
def iU(h:HS):List Value:=(List.range 64).map λj=>.int .u8 (h.rest j)
def vg(h:HS):(sn h).length=8:=by simp[sn]
def oy(h:HS):(sn h).toArray.size=8:=by simp[sn]
def lz(h:HS):(iU h).toArray.size=64:=by simp[iU]
def px(h:HS):(iU h).length=64:=by simp[iU]
def HashAt.st{w:World}{b:Nat}{h:HS}(c:HashAt w b h):w.rangeAt b 1 (sn h):=by
 intro j v a;have d:j<8:=by have:=(gV.1 a).1;rwa [vg]at this
 rw[c.cell qo,<-a];unfold sn kN;rw[if_neg qo,if_pos qo,List.getElem?_map,List.getElem?_range d,Option.map_some,show 1+j - 1=j by omega]
def HashAt.rest{w:World}{b:Nat}{h:HS}(c:HashAt w b h):w.rangeAt b 9 (iU h):=by
 intro j v a;have d:j<64:=by have:=(gV.1 a).1;rwa [px]at this
 rw[c.cell qo,<-a];unfold iU kN;rw[if_neg qo,if_neg qo,List.getElem?_map,List.getElem?_range d,Option.map_some,show 9+j - 9=j by omega]
def HashAt.len{w:World}{b:Nat}{h:HS}(a:HashAt w b h):w.cell? ⟨b,0,none⟩=some (.int .i64 (h.len:Int)):=World.rowIs.cell a qo
def HashAt.alloc{w:World}{b:Nat}{h:HS}(a:HashAt w b h)(o:Obj):HashAt (w.alloc o) b h:=World.rowIs.alloc a o
def HashAt.fr{S:List Nat}{w w':World}{b:Nat}{h:HS}(a:HashAt w b h)(d:Fr S w w')(c:b ∉ S):HashAt w' b h:=eT a d c
def gi(w:World)(c:Array Value)(t:TypeId):(w.alloc (.cells c t)).rowIs w.heap.size t c.size (λi=>c[i]?.getD default):=World.rowIs_alloc w c t _ (λi a=>by rw[Array.getElem?_eq_getElem a];rfl)
def G6(h:HS)(j:Nat):Int:=if j<h.len % 64 then h.rest j else if j=h.len % 64 then 128 else 0
def Fi(h:HS):Nat->Int:=if h.len=0 then iv else h.st
def zU(h:HS):Nat->Int:=if 56<=h.len % 64 then uU (Fi h) (G6 h)else Fi h
def Hv(h:HS):Nat->Int:=if 56<=h.len % 64 then λ_=>0 else G6 h
def Fj(h:HS):Nm:=AS (uU (zU h) (λj=>if 56<=j then Dc (8*(h.len:Int)) j else Hv h j))
def G7{h:HS}{m j:Nat}(a:h.len % 64=m)(b:m=63)(c:j<64):Value.int .u8 (if j=m then 128 else h.rest j)=.int .u8 (G6 h j):=by
 unfold G6;rw[a]
 by_cases e:j=m
 ·rw[if_pos e,if_neg qo,if_pos e]
 ·rw[if_neg e,if_pos qo]
def Bm{h:HS}{m j:Nat}(b:h.len % 64=m)(c:m<63)(d:j<64):(if m+1<=j/\j<m+1+(List.replicate (63 - m) (Value.int .u8 0)).length then(List.replicate (63 - m) (Value.int .u8 0))[j - (m+1)]?.getD default else Value.int .u8 (if j=m then 128 else h.rest j))=.int .u8 (G6 h j):=by
 unfold G6;rw[b];simp only[length_replicate]
 by_cases e:m+1<=j/\j<m+1+(63 - m)
 ·rw[if_pos e,if_neg qo,if_neg qo,List.getElem?_replicate,if_pos qo]
  rfl
 ·rw[if_neg e]
  by_cases a:j=m
  ·rw[if_pos a,if_neg qo,if_pos a]
  ·rw[if_neg a,if_pos qo]
def DD{j:Nat}(a:j<8):(ivL.map (Value.int .u32))[j]?=some (.int .u32 (iv j)):=by
 rw[List.getElem?_map,gg (show j<ivL.length from a)];unfold iv;rw[getD_eq_getElem?_getD,gg (show j<ivL.length from a)];rfl
def DE{w:World}(c:Ok w):w.rangeAt 1 0 (ivL.map (Value.int .u32)):=by
 intro j v b;have a:j<8:=by have:=(gV.1 b).1;simpa [ivL]using this
 rw[Nat.zero_add,c.ivs j a,<-b,DD a]
def Jg(w:World)(b:Nat)(h:HS)(a c d:Value)(W:World):Prop :=
 ∃P Q,a=.pointer (some ⟨P,0,none⟩)/\c=.pointer (some ⟨Q,0,none⟩)/\d=.int .i64 ((h.len % 64:Nat):Int)/\P≠Q/\w.heap.size<=P/\w.heap.size<=Q/\W.rowIs P 162 8 (λj=>.int .u32 (h.st j))/\W.rowIs Q 163 64 (λj=>.int .u8 (h.rest j))/\Fr [] w W
def Fk(b:Nat)(h:HS)(w:World)(ab:Ok w)(hb:6<=b)(aH:h.len<=1152921504606846976)(hH:HashAt w b h):
 Calls prog 80 #[.pointer (some ⟨b,0,none⟩)] w (fN w (Fj h)):=by
 have V:=Hd hH;clear hH
 go_enter func80,ntmps80
 go_upto_region 3 with fail
 have⟨a,E⟩:=eR (w.alloc (.cells (qP) 57));have ay:b<a.heap.size:=by rw[<-E,jZ];have:=World.rowIs.lt V.out;omega
 have I:=Hd ay;clear ay;rw[E]
 go_cut [3,4,5]from 14 to 26 (λs3 s4 s5 W=>Jg a b h s3 s4 s5 W)
 case first =>
  refine wp_region_held_drew (S:=λW=>HashAt W b h) qk ?_ (λn=>?_)
  ·rw[<-E];exact V.alloc _
  refine wpAnyH_take (i:=0) (v:=?_) rfl qk qk qk (λ_ _ _ h=>h) (Or.inl ⟨qr,?_⟩) (by assumption) ?_
  rotate_left
  ·intro r q
   go_simp
   try with_reducible rfl
  try simp only[qq]
  refine wpAnyH_take (i:=1) (v:=?_) rfl qk qk qk (λ_ _ _ h=>h) (Or.inl ⟨qr,?_⟩) (by assumption) ?_
  rotate_left
  ·intro r q
   go_simp
   try with_reducible rfl
  try simp only[qq]
  refine wpAnyH_take (i:=2) (v:=?_) rfl qk qk qk (λ_ _ _ h=>h) (Or.inl ⟨qr,?_⟩) (by assumption) ?_
  rotate_left
  ·intro r q
   go_simp
   try with_reducible rfl
  try simp only[qq]
  refine wpAnyH_take (i:=3) rfl qk qk qk (λ_ _ _ h=>h) (yieldsIf_load_mid qr 162 (.tmp 16) rfl b 1 rfl (sn h) (.array 8 161) (λ_ hS=>hS.st) qk rfl qr) (by assumption) ?_
  try simp only[qq]
  refine wpAnyH_take (i:=4) (v:=?_) rfl qk qk qk (λ_ _ _ h=>h) (Or.inl ⟨qr,?_⟩) (by assumption) ?_
  rotate_left
  ·intro r q
   go_simp
   try with_reducible rfl
  try simp only[qq]
  refine wpAnyH_take (i:=5) (v:=?_) rfl qk qk qk (λ_ _ _ h=>h) (Or.inl ⟨qr,?_⟩) (by assumption) ?_
  rotate_left
  ·intro r q
   go_simp
   try with_reducible rfl
  try simp only[qq]
  refine wpAnyH_take (i:=6) (v:=?_) rfl qk qk qk (λ_ _ _ h=>h) (Or.inl ⟨qr,?_⟩) (by assumption) ?_
  rotate_left
  ·intro r q
   go_simp
   try with_reducible rfl
  try simp only[qq]
  refine wpAnyH_take (i:=7) rfl qk qk qk (λ_ _ _ h=>h) (yieldsIf_load_mid qr 163 (.tmp 20) rfl b 9 rfl (iU h) (.array 64 5) (λ_ hS=>hS.rest) qk rfl qr) (by assumption) ?_
  try simp only[qq]
  refine wpAnyH_take (i:=8) (v:=?_) rfl qk qk qk (λ_ _ _ h=>h) (Or.inl ⟨qr,?_⟩) (by assumption) ?_
  rotate_left
  ·intro r q
   go_simp
   try with_reducible rfl
  try simp only[qq]
  refine wpAnyH_take (i:=9) (v:=?_) rfl qk qk qk (λ_ _ _ h=>h) (Or.inl ⟨qr,?_⟩) (by assumption) ?_
  rotate_left
  ·intro r q
   go_simp
   try with_reducible rfl
  try simp only[qq]
  refine wpAnyH_take (i:=10) (v:=?_) rfl qk qk qk (λ_ _ _ h=>h) (Or.inl ⟨qr,?_⟩) (by assumption) ?_
  rotate_left
  ·intro r q
   go_simp
   try with_reducible rfl
  try simp only[qq]
  refine wpAnyH_take (i:=11) (v:=?_) rfl qk qk qk (λ_ _ _ h=>h) (Or.inl ⟨qr,?_⟩) (by assumption) ?_
  rotate_left
  ·intro r q
   have aH:=q.len;go_simp
   try with_reducible rfl
  try simp only[qq]
  refine wpAnyH_take (i:=12) (v:=?_) rfl qk qk qk (λ_ _ _ h=>h) (Or.inl ⟨qr,?_⟩) (by assumption) ?_
  rotate_left
  ·intro r q
   go_simp
   try with_reducible rfl
  try simp only[qq]
  refine wpAnyH_ready (rs:=[13,14]) qk qs ?_;refine AllReadyH.cons rfl (λK l=>?_) (AllReadyH.cons rfl (λK l=>?_) AllReadyH.nil)
  ·go_simp
   refine l.out _ _ ?_ (λn=>?_)
   ·exact HashAt.alloc n _
   clear l K
   try simp only[qq]
   refine wpAnyH_ready (rs:=[14]) qk qs ?_;refine AllReadyH.cons rfl (λK l=>?_) AllReadyH.nil;go_simp
   refine l.out _ _ ?_ (λn=>?_)
   ·exact HashAt.alloc n _
   clear l K
   try simp only[qq]
   have⟨s,u⟩:=eR (((a.alloc (.cells (#[.int .u32 0,.int .u32 0,.int .u32 0,.int .u32 0,.int .u32 0,.int .u32 0,.int .u32 0,.int .u32 0]) 162)).alloc (.cells (#[.int .u8 0,.int .u8 0,.int .u8 0,.int .u8 0,.int .u8 0,.int .u8 0,.int .u8 0,.int .u8 0,.int .u8 0,.int .u8 0,.int .u8 0,.int .u8 0,.int .u8 0,.int .u8 0,.int .u8 0,.int .u8 0,.int .u8 0,.int .u8 0,.int .u8 0,.int .u8 0,.int .u8 0,.int .u8 0,.int .u8 0,.int .u8 0,.int .u8 0,.int .u8 0,.int .u8 0,.int .u8 0,.int .u8 0,.int .u8 0,.int .u8 0,.int .u8 0,.int .u8 0,.int .u8 0,.int .u8 0,.int .u8 0,.int .u8 0,.int .u8 0,.int .u8 0,.int .u8 0,.int .u8 0,.int .u8 0,.int .u8 0,.int .u8 0,.int .u8 0,.int .u8 0,.int .u8 0,.int .u8 0,.int .u8 0,.int .u8 0,.int .u8 0,.int .u8 0,.int .u8 0,.int .u8 0,.int .u8 0,.int .u8 0,.int .u8 0,.int .u8 0,.int .u8 0,.int .u8 0,.int .u8 0,.int .u8 0,.int .u8 0,.int .u8 0]) 163)).drew);obtain⟨fP,z⟩:∃f,s.rowIs a.heap.size 162 8 f:=by rw[<-u];exact⟨_,((gi a _ _).alloc _).drew⟩
   obtain⟨fQ,hQ⟩:∃f,s.rowIs (a.heap.size+1) 163 64 f:=by rw[<-u];have:=gi (a.alloc (.cells (#[.int .u32 0,.int .u32 0,.int .u32 0,.int .u32 0,.int .u32 0,.int .u32 0,.int .u32 0,.int .u32 0]) 162)) (#[.int .u8 0,.int .u8 0,.int .u8 0,.int .u8 0,.int .u8 0,.int .u8 0,.int .u8 0,.int .u8 0,.int .u8 0,.int .u8 0,.int .u8 0,.int .u8 0,.int .u8 0,.int .u8 0,.int .u8 0,.int .u8 0,.int .u8 0,.int .u8 0,.int .u8 0,.int .u8 0,.int .u8 0,.int .u8 0,.int .u8 0,.int .u8 0,.int .u8 0,.int .u8 0,.int .u8 0,.int .u8 0,.int .u8 0,.int .u8 0,.int .u8 0,.int .u8 0,.int .u8 0,.int .u8 0,.int .u8 0,.int .u8 0,.int .u8 0,.int .u8 0,.int .u8 0,.int .u8 0,.int .u8 0,.int .u8 0,.int .u8 0,.int .u8 0,.int .u8 0,.int .u8 0,.int .u8 0,.int .u8 0,.int .u8 0,.int .u8 0,.int .u8 0,.int .u8 0,.int .u8 0,.int .u8 0,.int .u8 0,.int .u8 0,.int .u8 0,.int .u8 0,.int .u8 0,.int .u8 0,.int .u8 0,.int .u8 0,.int .u8 0,.int .u8 0]) 163;rw[jZ]at this;exact⟨_,this.drew⟩
   have hF:Fr [] a s:=by rw[<-u];exact(((Fq [] a).alloc _).alloc _).drew
   rw[u]at n ⊢;clear u;have ag:b≠a.heap.size:=by have:=I.out;omega
   have ah:b≠a.heap.size+1:=by have:=I.out;omega
   have o:a.heap.size≠a.heap.size+1:=qo
   have R:=iB z (vg h) (g:=λj=>.int .u32 (h.st j)) (λj k=>by unfold sn;rw[List.getElem?_map,List.getElem?_range k,Option.map_some]);have D:=rowIs_setCells_other (b:=a.heap.size) (b':=a.heap.size+1) o.symm (sn h) 0 _ hQ;have C:=n.fr ((Fq [a.heap.size] s).setCells (p:=a.heap.size) qs (sn h) 0) (by simpa using ag);have M:=hF.setCells (p:=a.heap.size) (.inr qo) (sn h) 0;have⟨W2,F⟩:=eR (s.setCells (a.heap.size) 0 (sn h));rw[F]at R D C M;refine wpAnyH_ready (rs:=[15]) qk qs ?_;refine AllReadyH.cons rfl (λK l=>?_) AllReadyH.nil;rw[if_pos qr];refine wp_store_mid 162 (.tmp 3) (.tmp 17) rfl (a.heap.size) 0 (sn h).toArray rfl rfl (by rw[oy];exact iJ z qo) (by rw[oy];kernel_rfl) (all_oneCell_toArray (by intro v y;obtain⟨x,_,rfl⟩:=mem_map.1 y;rfl)) ?_;rw[show (sn h).toArray.toList=sn h from rfl,F];clear n;refine l.out _ _ C (λn=>?_);clear l K F;have T:=rowIs_setCells_other (b:=a.heap.size+1) (b':=a.heap.size) o (iU h) 0 _ R;have U:=iB D (px h) (g:=λj=>.int .u8 (h.rest j)) (λj k=>by unfold iU;rw[List.getElem?_map,List.getElem?_range k,Option.map_some]);have O:=C.fr ((Fq [a.heap.size+1] _).setCells (p:=a.heap.size+1) qs (iU h) 0) (by simpa using ah);have N:=M.setCells (p:=a.heap.size+1) (.inr qo) (iU h) 0;have⟨W3,G⟩:=eR (W2.setCells (a.heap.size+1) 0 (iU h));rw[G]at T U O N
   try simp only[qq]
   refine wpAnyH_ready (rs:=[16]) qk qs ?_;refine AllReadyH.cons rfl (λK l=>?_) AllReadyH.nil;rw[if_pos qr];refine wp_store_mid 163 (.tmp 4) (.tmp 21) rfl (a.heap.size+1) 0 (iU h).toArray rfl rfl (by rw[lz];exact iJ D qo) (by rw[lz];kernel_rfl) (all_oneCell_toArray (by intro v y;obtain⟨x,_,rfl⟩:=mem_map.1 y;rfl)) ?_;rw[show (iU h).toArray.toList=iU h from rfl,G];clear n;refine l.out _ _ O (λn=>?_);clear l K G
   try simp only[qq]
   refine wpAnyH_take (i:=17) (v:=?_) rfl qk qk qk (λ_ _ _ h=>h) (Or.inl ⟨qr,?_⟩) (by assumption) ?_
   rotate_left
   ·intro r q
    go_simp
    try with_reducible rfl
   try simp only[qq]
   refine wpAnyH_done qk ?_ _
   go_wp2
   go_meet
   exact⟨_,_,rfl,rfl,rfl,o,qo,qo,T,U,N⟩
  ·go_simp
   refine l.out _ _ ?_ (λn=>?_)
   ·exact HashAt.alloc n _
   clear l K
   try simp only[qq]
   refine wpAnyH_ready (rs:=[13]) qk qs ?_;refine AllReadyH.cons rfl (λK l=>?_) AllReadyH.nil;go_simp
   refine l.out _ _ ?_ (λn=>?_)
   ·exact HashAt.alloc n _
   clear l K
   try simp only[qq]
   have⟨s,u⟩:=eR (((a.alloc (.cells (#[.int .u8 0,.int .u8 0,.int .u8 0,.int .u8 0,.int .u8 0,.int .u8 0,.int .u8 0,.int .u8 0,.int .u8 0,.int .u8 0,.int .u8 0,.int .u8 0,.int .u8 0,.int .u8 0,.int .u8 0,.int .u8 0,.int .u8 0,.int .u8 0,.int .u8 0,.int .u8 0,.int .u8 0,.int .u8 0,.int .u8 0,.int .u8 0,.int .u8 0,.int .u8 0,.int .u8 0,.int .u8 0,.int .u8 0,.int .u8 0,.int .u8 0,.int .u8 0,.int .u8 0,.int .u8 0,.int .u8 0,.int .u8 0,.int .u8 0,.int .u8 0,.int .u8 0,.int .u8 0,.int .u8 0,.int .u8 0,.int .u8 0,.int .u8 0,.int .u8 0,.int .u8 0,.int .u8 0,.int .u8 0,.int .u8 0,.int .u8 0,.int .u8 0,.int .u8 0,.int .u8 0,.int .u8 0,.int .u8 0,.int .u8 0,.int .u8 0,.int .u8 0,.int .u8 0,.int .u8 0,.int .u8 0,.int .u8 0,.int .u8 0,.int .u8 0]) 163)).alloc (.cells (#[.int .u32 0,.int .u32 0,.int .u32 0,.int .u32 0,.int .u32 0,.int .u32 0,.int .u32 0,.int .u32 0]) 162)).drew);obtain⟨fQ,hQ⟩:∃f,s.rowIs a.heap.size 163 64 f:=by rw[<-u];exact⟨_,((gi a _ _).alloc _).drew⟩
   obtain⟨fP,z⟩:∃f,s.rowIs (a.heap.size+1) 162 8 f:=by rw[<-u];have:=gi (a.alloc (.cells (#[.int .u8 0,.int .u8 0,.int .u8 0,.int .u8 0,.int .u8 0,.int .u8 0,.int .u8 0,.int .u8 0,.int .u8 0,.int .u8 0,.int .u8 0,.int .u8 0,.int .u8 0,.int .u8 0,.int .u8 0,.int .u8 0,.int .u8 0,.int .u8 0,.int .u8 0,.int .u8 0,.int .u8 0,.int .u8 0,.int .u8 0,.int .u8 0,.int .u8 0,.int .u8 0,.int .u8 0,.int .u8 0,.int .u8 0,.int .u8 0,.int .u8 0,.int .u8 0,.int .u8 0,.int .u8 0,.int .u8 0,.int .u8 0,.int .u8 0,.int .u8 0,.int .u8 0,.int .u8 0,.int .u8 0,.int .u8 0,.int .u8 0,.int .u8 0,.int .u8 0,.int .u8 0,.int .u8 0,.int .u8 0,.int .u8 0,.int .u8 0,.int .u8 0,.int .u8 0,.int .u8 0,.int .u8 0,.int .u8 0,.int .u8 0,.int .u8 0,.int .u8 0,.int .u8 0,.int .u8 0,.int .u8 0,.int .u8 0,.int .u8 0,.int .u8 0]) 163)) (#[.int .u32 0,.int .u32 0,.int .u32 0,.int .u32 0,.int .u32 0,.int .u32 0,.int .u32 0,.int .u32 0]) 162;rw[jZ]at this;exact⟨_,this.drew⟩
   have hF:Fr [] a s:=by rw[<-u];exact(((Fq [] a).alloc _).alloc _).drew
   rw[u]at n ⊢;clear u;have ag:b≠a.heap.size+1:=by have:=I.out;omega
   have ah:b≠a.heap.size:=by have:=I.out;omega
   have o:a.heap.size+1≠a.heap.size:=qo
   have R:=iB z (vg h) (g:=λj=>.int .u32 (h.st j)) (λj k=>by unfold sn;rw[List.getElem?_map,List.getElem?_range k,Option.map_some]);have D:=rowIs_setCells_other (b:=a.heap.size+1) (b':=a.heap.size) o.symm (sn h) 0 _ hQ;have C:=n.fr ((Fq [a.heap.size+1] s).setCells (p:=a.heap.size+1) qs (sn h) 0) (by simpa using ag);have M:=hF.setCells (p:=a.heap.size+1) (.inr qo) (sn h) 0;have⟨W2,F⟩:=eR (s.setCells (a.heap.size+1) 0 (sn h));rw[F]at R D C M;refine wpAnyH_ready (rs:=[15]) qk qs ?_;refine AllReadyH.cons rfl (λK l=>?_) AllReadyH.nil;rw[if_pos qr];refine wp_store_mid 162 (.tmp 3) (.tmp 17) rfl (a.heap.size+1) 0 (sn h).toArray rfl rfl (by rw[oy];exact iJ z qo) (by rw[oy];kernel_rfl) (all_oneCell_toArray (by intro v y;obtain⟨x,_,rfl⟩:=mem_map.1 y;rfl)) ?_;rw[show (sn h).toArray.toList=sn h from rfl,F];clear n;refine l.out _ _ C (λn=>?_);clear l K F;have T:=rowIs_setCells_other (b:=a.heap.size) (b':=a.heap.size+1) o (iU h) 0 _ R;have U:=iB D (px h) (g:=λj=>.int .u8 (h.rest j)) (λj k=>by unfold iU;rw[List.getElem?_map,List.getElem?_range k,Option.map_some]);have O:=C.fr ((Fq [a.heap.size] _).setCells (p:=a.heap.size) qs (iU h) 0) (by simpa using ah);have N:=M.setCells (p:=a.heap.size) (.inr qo) (iU h) 0;have⟨W3,G⟩:=eR (W2.setCells (a.heap.size) 0 (iU h));rw[G]at T U O N
   try simp only[qq]
   refine wpAnyH_ready (rs:=[16]) qk qs ?_;refine AllReadyH.cons rfl (λK l=>?_) AllReadyH.nil;rw[if_pos qr];refine wp_store_mid 163 (.tmp 4) (.tmp 21) rfl (a.heap.size) 0 (iU h).toArray rfl rfl (by rw[lz];exact iJ D qo) (by rw[lz];kernel_rfl) (all_oneCell_toArray (by intro v y;obtain⟨x,_,rfl⟩:=mem_map.1 y;rfl)) ?_;rw[show (iU h).toArray.toList=iU h from rfl,G];clear n;refine l.out _ _ O (λn=>?_);clear l K G
   try simp only[qq]
   refine wpAnyH_take (i:=17) (v:=?_) rfl qk qk qk (λ_ _ _ h=>h) (Or.inl ⟨qr,?_⟩) (by assumption) ?_
   rotate_left
   ·intro r q
    go_simp
    try with_reducible rfl
   try simp only[qq]
   refine wpAnyH_done qk ?_ _
   go_wp2
   go_meet
   exact⟨_,_,rfl,rfl,rfl,o,qo,qo,T,U,N⟩
 case rest =>
  obtain⟨P,Q,rfl,rfl,rfl,o,gP,gQ,z,hQ,hf⟩:=hcut;have ax:Fr [] w a:=by rw[<-E];exact(Fq [] w).alloc _
  have aG:∃fR,a.rowIs w.heap.size 57 32 fR:=by rw[<-E];exact⟨_,gi w _ _⟩
  have Fi:w.heap.size<a.heap.size:=by rw[<-E,jZ];omega
  obtain⟨fR,av⟩:=aG;have aw:=eT av hf qs;have ad:=ax.trans hf qs;have ao:=V.fr ad qs
  have ae:P≠w.heap.size:=qo
  have af:Q≠w.heap.size:=qo
  have am:w.heap.size<=P:=qo
  have an:w.heap.size<=Q:=qo
  have aK:=ab.low;clear E ax av hf Fi I;have⟨m,hm⟩:=eR (h.len % 64);have aP:m<64:=qo
  rw[hm];have c0:=ao.len;have HP:=Hd z;have HQ:=Hd hQ;have aE:=Hd aw;have al:=Hd ad;clear z hQ aw ad ao;obtain⟨wa,rfl⟩:∃x,x=wc:=⟨_,rfl⟩
  go_upto_if 31 with fail
  clear c0
  go_cut [31]from 31 (λ_ W=>W.rowIs P 162 8 (λj=>.int .u32 (Fi h j))/\Fr [P] wa W)
  case first =>
   by_cases h0:h.len=0
   ·have hz:((h.len:Int) == 0)=true:=by simp;omega
    have ak:=iJ HP.out (fW 8);have aJ:=run_storeCells_cells (P:=prog) P 0 (ivL.map (Value.int .u32)) 0 wa (λj k=>(ak j k).1) (λj k=>(ak j k).2) (by intro v y;obtain⟨x,_,rfl⟩:=mem_map.1 y;rfl);simp only[Nat.add_zero]at aJ;have aD:=Hd (DE (ab.fr0 al.out));have aN:ivL.length=8:=rfl;have H0:=Hd h0;clear ak h0
    go_wp2_with ((with_reducible refine wpList_load_mid rfl 162 (.global 1) rfl 1 0 rfl _ _ aD.out rfl rfl rfl ?_))
    go_meet
    exact⟨iB HP.out rfl (λj k=>by unfold Fi;rw[if_pos H0.out];exact DD k),(Fq [P] _).setCells qs _ _⟩
   ·have aR:((h.len:Int) == 0)=false:=by simp;omega
    go_wp2
    go_meet
    exact⟨by unfold Fi;rw[if_neg h0];exact HP.out,Fq _ _⟩
  obtain⟨wb,rfl⟩:∃x,x=wc:=⟨_,rfl⟩;obtain⟨ap,Z⟩:=hcut;have F5:=Hd (al.trans Z (by simpa using am));have R5:=Hd (eT aE.out Z (by simpa using λe=>ae e.symm));have P5:=Hd ap;have q5:=eT HQ.out Z (by simpa using λe=>o e.symm);clear ap Z;have xk:=q5.cell qo;have xf:=q5.frozen m;have aQ:(m:Int)<64:=qo
  have Q5:=Hd q5;clear q5
  go_upto_region 7 with fail
  have⟨B,Y⟩:=eR (wb.setCell ⟨Q,m,none⟩ (.int .u8 128))
  have H:B.rowIs Q 163 64 (λj=>.int .u8 (if j=m then 128 else h.rest j)):=by
   rw[<-Y];exact(Q5.set m (.int .u8 128)).congr (λj k=>by by_cases e:j=m <;> simp[e])
  have f6:Fr [Q] wb B:=by rw[<-Y];exact(Fq [Q] _).set (p:=⟨Q,m,none⟩) qs _
  rw[Y];have L:=Hd (An H f6);clear Y xk xf H f6
  go_cut [36]from 36 (λ_ W=>W.rowIs Q 163 64 (λj=>.int .u8 (G6 h j))/\Fr [Q] wb W)
  case first =>
   by_cases aB:m=63
   ·have az:∀(A:Option Addr) (c:Nat) (ty:TypeId),(Builtin.clear_ #[49] ty #[.slice A 0 c]).run prog B=.ok (.tuple #[]) B:=λA c ty=>by cases A <;> simp[Builtin.clear_,run_underlying (P:=prog) (t:=49) (d:=.slice 5) qk]
    subst aB
    go_wp2
    go_meet
    exact⟨L.1.congr (λj k=>G7 hm rfl k),L.2⟩
   ·have H:=L.1
    have az:∀(c:Nat) (ty:TypeId),(Builtin.clear_ #[49] ty #[.slice (some ⟨Q,m+1,none⟩) (63 - m) c]).run prog B=.ok (.tuple #[]) (B.setCells Q (m+1) (List.replicate (63 - m) (.int .u8 0))):=λc ty=>  Lib.run_clear_slice B 49 5 ty (.int .u8 0) qk (λ_=>by rfl) rfl rfl Q (m+1) (63 - m) c qo (λj k=>by rw[H.cell qo];rfl) (λj k=>H.frozen _);clear H;have i1:(m:Int)+1<=64:=qo
    have i2:(0:Int)<=(m:Int)+1:=qo
    have i3:((m:Int)+1).toNat=m+1:=qo
    have i4:¬(64=m+1):=qo
    have i5:=aB
    go_wp2
    go_meet
    exact⟨(rowIs_setCells _ _ _ _ L.1).congr (λj k=>Bm hm qo k),L.2.setCells qs _ _⟩
  obtain⟨wd,rfl⟩:∃x,x=wc:=⟨_,rfl⟩;obtain⟨ar,aa⟩:=hcut;have F7:=Hd (F5.trans aa (by simpa using an));have R7:=Hd (eT R5.out aa (by simpa using λe=>af e.symm));have P7:=Hd (eT P5.out aa (by simpa using o));have Q7:=Hd ar;clear ar aa
  go_upto_if 39 with fail
  go_cut [39]from 39 (λ_ W=>W.rowIs P 162 8 (λj=>.int .u32 (zU h j))/\W.rowIs Q 163 64 (λj=>.int .u8 (Hv h j))/\Fr [P,Q] wd W)
  case first =>
   by_cases aL:56<=m
   ·have aM:(56:Int)<=(m:Int):=qo
    have aF:=Hd (ab.fr0 F7.out)
    go_wp2_with ((go_at_call 144;refine(nZ P Q _ _ wd aF.out P7.out Q7.out).mono ?_;rintro e X ⟨rfl,aC,ai⟩;have q8:=eT Q7.out ai (by simpa using λe=>o e.symm);have az:=λ(c:Nat) (ty:TypeId)=>Lib.run_clear_slice (P:=prog) X 49 5 ty (.int .u8 0) qk (λ_=>by rfl) rfl rfl Q 0 64 c qo (λj k=>by rw[q8.cell qo];rfl) (λj k=>q8.frozen _);have ac:=Hd (An aC (An ai q8));clear aC ai q8))
    go_meet
    have aA:Fr [Q] X (X.setCells Q 0 (List.replicate 64 (.int .u8 0))):=(Fq [Q] _).setCells qs _ _;have aI:(X.setCells Q 0 (List.replicate 64 (.int .u8 0))).rowIs Q 163 64 (λj=>.int .u8 (Hv h j)):=iB ac.2.2 qs (λj k=>by unfold Hv;rw[if_pos qo,List.getElem?_replicate,if_pos k]);exact⟨(eT ac.1 aA (by simpa using o)).congr (λj k=>by unfold zU;rw[if_pos qo]),aI,(ac.2.1.mono qs).then (aA.mono qs)⟩
   ·have aO:¬(56:Int)<=(m:Int):=qo
    go_wp2
    go_meet
    exact⟨P7.congr (λj k=>by unfold zU;rw[if_neg qo]),Q7.congr (λj k=>by unfold Hv;rw[if_neg qo]),Fq _ _⟩
  obtain⟨aq,au,aj⟩:=hcut;have F9:=F7.trans aj (λx hx=>.inr (by simp at hx;omega));have R9:=eT R7.out aj (by simp;exact⟨λe=>ae e.symm,λe=>af e.symm⟩);have c9:=(V.fr F9 qs).len;have J:=Hd (An aq (An au (An F9 R9)));clear aq au aj F9 R9
  go_upto_block 0 with fail
  refine AW _ w wc w.heap.size P Q (8*(h.len:Int)) (zU h) (Hv h) fR (ab.fr0 J.2.2.1) J.1 J.2.1 J.2.2.2 o ae af aK am an (fW _) J.2.2.1 qo qo _ _ rfl rfl (by assumption) _ _ _ _ _ _ _ _ _ _ _ _ _ _ _ _ _ _ _ _ _ _ _ _ _ _ _ _ _ _ _ _ _ _ _ _ _ _ _ _ _ _ _ _ _ _ _ _ _ _ _ _ _ _ _ _ _ _ _ _ _ _ _ _ _ _ _ _ _ _ _ _ _ _ _ _ _ _ _ _ _ _ _ _ _ _ _ _ _
def Fl{c:Array Value}{n:Nat}{f:Nat->Value}(h:c=((List.range n).map f).toArray):c.size=n/\∀i,i<n->c[i]?=some (f i):=by
 subst h;refine⟨qs,λi a=>?_⟩;simp[a]
def hash0:HS:=⟨0,λ_=>0,λ_=>0⟩
def DF(w:World):HashAt (w.alloc (.cells Tryz.zeroCells165 165)) w.heap.size hash0:=by
 have h:=Fl (c:=Tryz.zeroCells165) (n:=73) (f:=kN hash0) qk;exact World.rowIs_alloc w _ _ _ h.2
def j7(l:Nm):Nm:=Fj (if l.length=0 then hash0 else jo ⟨0,iv,λ_=>0⟩ l)
def yD(h:HS)(l:List UInt8):(jo h l).len=h.len+l.length:=by
 generalize d:l.length=n
 induction n using Nat.strongRecOn generalizing h l with
 | _ n b =>
  by_cases a:l.length=0
  ·rw[eq_nil_of_length_eq_zero a,lu]
   omega
  ·have c:=mF h l
   rw[jT a,b (l.drop (hn h l)).length (by rw[length_drop];omega) _ _ rfl,length_drop];unfold nj;simp only;omega
def iV(d:Nm):(eO d).toArray.size=d.length:=by simp[eO]
def fy(l:Nm):(j7 l).length=32:=by simp[j7,Fj,AS]
def eP(d:Nm):(eO d).length=d.length:=by simp[eO]
def gN(d:Nm):∀v∈eO d,v.oneCell'=true:=by
 intro v a;obtain⟨x,_,rfl⟩:=mem_map.1 a;rfl
def gO{d:Nm}{j:Nat}(a:j<d.length):(eO d)[j]?=some (.int .u8 ((d.getD j 0).toNat:Int)):=by
 unfold eO;rw[List.getElem?_map,gg a,Option.map_some,getD_eq_getElem?_getD,gg a];rfl
def fp{w:World}{b:Nat}{t:TypeId}{f:Nat->Value}{d:Nm}(i:w.rowIs b t 32 f)(c:d.length=32):(w.setCells b 0 (eO d)).rangeAt b 0 (eO d)/\(w.setCells b 0 (eO d)).rowIs b t 32 (λj=>.int .u8 ((d.getD j 0).toNat:Int)):=by
 have a:=iB i (vs:=eO d) (g:=λj=>.int .u8 ((d.getD j 0).toNat:Int)) (by simp[eO,c]) (λj e=>gO qo);refine⟨λj v h=>?_,a⟩;have e:j<32:=by have:=(gV.1 h).1;simpa [eO,c]using this
 rw[Nat.zero_add,a.cell e,<-h,gO qo]
def fj{w:World}{b:Nat}{t:TypeId}{f:Nat->Value}{d:Nm}(h:w.rowIs b t 32 f)(i:d.length=32):(storeCells ⟨b,0,none⟩ (eO d)).run prog w=.ok () (w.setCells b 0 (eO d)):=by
 have g:=iJ h (fW 32);have c:(eO d).length=32:=by simp[eO,i]
 have e:=run_storeCells_cells (P:=prog) b 0 (eO d) 0 w (by rw[c];exact λj a=>(g j a).1) (by rw[c];exact λj a=>(g j a).2) (gN d);simp only[Nat.add_zero]at e;exact e
def oz(l:Nm)(w:World)(m:Ok w)(y:l.length<=1152921504606846976):Calls prog 29 #[fg l] w (fN w (j7 l)):=by
 have⟨g,a⟩:=eR (w.alloc (.cells qP 57));have⟨w2,c⟩:=eR (g.alloc (.cells Tryz.zeroCells165 165));have h:∃f,g.rowIs w.heap.size 57 32 f:=by rw[<-a];exact⟨_,gi w _ _⟩
 obtain⟨M,h⟩:=h;have A:g.heap.size=w.heap.size+1:=by rw[<-a,jZ]
 have j:HashAt w2 g.heap.size hash0:=by rw[<-c];exact DF g
 have u:w2.rowIs w.heap.size 57 32 M:=by rw[<-c];exact h.alloc _
 have r:Fr [] w w2:=by rw[<-c,<-a];exact((Fq [] w).alloc _).alloc _
 rw[A]at j;have V:=m.low;have K:=Hd a;have L:=Hd c;have E:=Hd j;have H:=Hd u;have n:=Hd r;clear a c h j u r A
 go_enter func29,ntmps29
 go_wp2_with fail
 rw[K.out,L.out];refine(AR (w.heap.size+1) l hash0 w2 (m.fr0 n.out) qo y E.out rfl).mono ?_;rintro e C ⟨rfl,P,s⟩;have Q:=eT H.out s qs;have N:Fr [] w C:=n.out.trans s qs
 have k:(if l.length=0 then hash0 else jo ⟨0,iv,hash0.rest⟩ l).len=l.length:=by
  by_cases i:l.length=0
  ·rw[if_pos i,i];rfl
  ·rw[if_neg i,yD];simp
 have F:=Hd P;have I:=Hd Q;have q:=Hd N;have G:=Hd k
 go_wp2_with fail
 refine(Fk (w.heap.size+1) _ C (m.fr0 q.out) qo (by rw[G.out];exact y) F.out).mono ?_;rintro e T ⟨rfl,t⟩;have R:Fj (if l.length=0 then hash0 else jo ⟨0,iv,hash0.rest⟩ l)=j7 l:=rfl;rw[R];have x:=eT I.out t qs;have S:=fj x (fy l);have z:=fp x (fy l);obtain⟨U,B⟩:=eR (T.setCells w.heap.size 0 (eO (j7 l)));have O:Fr [] w U:=by rw[<-B];exact(q.out.then t).setCells (.inr (fW _)) _ _
 rw[B]at S z;have J:=Hd z.1;have D:=Hd O;have k:=iV (j7 l);rw[fy]at k;unfold fo
 go_wp2_with fail
 exact bodyPost_ret (v:=fo (j7 l)) (fH (d:=.array 32 5) (p:=2) (ty:=57) (b:=w.heap.size) (o:=0) rfl rfl J.out qk rfl (by rw[eP,fy];rfl)) rfl ⟨rfl,D.out⟩
def tk(l:Nm):strOfNums (l.map λc=>(c.toNat:Int))=⟨l.toArray⟩:=by
 unfold strOfNums
 congr 1
 rw[map_map]
 congr 1
 conv=>rhs;rw[<-map_id l]
 apply map_congr_left
 intro c _;simp
def eZ{P:Program}{w:World}{B n:Nat}{A:Option Addr}{l:Nm}(k:Row w B 1 A n (eO l))(f e:TypeId)(j:P.underlying f=some (.slice e))(h:P.underlying e=some (.int .u8))(d:TypeId)(g:P.underlying d=some .string)(c:Nat):
 (convert f d (.slice A n c)).run P w=.ok (fg l) w:=by
 have o:l.length=n:=by have:=k.1;rw[eP]at this;omega
 by_cases p:n=0
 ·obtain rfl:l=[]:=eq_nil_of_length_eq_zero qo
  subst p
  cases A with
  | none=>exact run_convert_bytes_nil w f e j h 0 c d g
  | some a =>
   rw[run_convert_bytes_string w f d e _ 0 c j h g,run_bytesToString w a 0 c [] (by simpa using run_loadCells_list (P:=P) w a [] qs)];rfl
 ·obtain⟨b,off,rfl,_,m⟩:=k.2 qo
  rw[run_convert_bytes_arg w f e j h b off n c (l.map λx=>(x.toNat:Int)) (by simpa using o) (λi q=>?_) d g,tk]
  ·rfl
  ·rw[m i _ (gO qo)]
   rw[getD_eq_getElem?_getD,getD_eq_getElem?_getD,List.getElem?_map,gg qo];rfl
def ij(a b:Nm):eO (a++b)=eO a++eO b:=by simp[eO]
def G8(n:Nat):Nm:=[UInt8.ofNat (n / 16777216),UInt8.ofNat (n / 65536),UInt8.ofNat (n / 256),UInt8.ofNat n]
def kf(a:List Nm):Nm:=a.flatMap λp=>G8 p.length++p
def gB(b:UInt8)(a:List Nm):Nm:=[b,UInt8.ofNat a.length]++kf a
def gS(a:List Nm):Nat:=(a.map λp=>4+p.length).sum
def mJ(a:List Nm):(kf a).length=gS a:=by
 induction a with
 | nil=>rfl
 | cons p r b =>
  unfold kf gS at *;rw[flatMap_cons,gu,b,map_cons,sum_cons,gu];simp[G8]
def yE(a:List Nm)(p:Nm):gS (a++[p])=gS a+(4+p.length):=by simp[gS]
def yF(a:List Nm)(p:Nm):kf (a++[p])=kf a++(G8 p.length++p):=by simp[kf]
def nz{α:Type}{l:List α}{k:Nat}{x:α}(h:l[k]?=some x):l.take (k+1)=l.take k++[x]:=by
 rw[take_succ,h];rfl
def su{a:List Nm}{k:Nat}{p:Nm}(h:a[k]?=some p):gS (a.take (k+1))=gS (a.take k)+(4+p.length):=by rw[nz h,yE]
def yG{a:List Nm}{k:Nat}{p:Nm}(h:a[k]?=some p):kf (a.take (k+1))=kf (a.take k)++(G8 p.length++p):=by rw[nz h,yF]
def sw(a:List Nm)(k:Nat):gS (a.take k)<=gS a:=by
 conv=>rhs;rw[<-take_append_drop k a]
 unfold gS;rw[map_append,sum_append];omega
def Bn(n:Nat):eO (G8 n)=[.int .u8 ((n:Int) / 16777216 % 256),.int .u8 ((n:Int) / 65536 % 256),.int .u8 ((n:Int) / 256 % 256),.int .u8 ((n:Int) % 256)]:=by
 unfold G8 eO;simp only[map_cons,map_nil,UInt8.toNat_ofNat']
 congr 2
def Row.str{w:World}{B n k:Nat}{A:Option Addr}{c:List Nm}(h:Row w B 1 A n (c.map fg))(m:k<n):∃b off p s,A=some ⟨b,off,none⟩/\b<B/\c[k]?=some p/\fg p=.string s/\s.data.toList=p/\s.size=p.length/\w.cell? ⟨b,off+k,none⟩=some (.string s):=by
 have⟨b,off,u,i,j,a,l⟩:=h.at1 m;rw[List.getElem?_map]at a
 cases e:c[k]? with
 | none=>rw[e]at a;simp at a
 | some p =>
  rw[e]at a;simp only[Option.map_some,Option.some.injEq]at a;have⟨s,d,f,g⟩:=eS p;exact⟨b,off,p,s,i,j,rfl,d,f,g,by rw[l,<-a,d]⟩
def eX(A:Option Addr):List Nat:=(A.map Addr.block).toList
def oA{A:Option Addr}{n c k:Nat}:(Value.slice A n c).ownBlock=some k ↔ k∈eX A:=by
 cases A with
 | none=>simp[eX,Value.ownBlock]
 | some a=>simp[eX,Value.ownBlock];exact eq_comm
def Own(w:World)(e:TypeId)(size:Nat)(A:Option Addr)(n c:Nat)(xs:List Value):Prop:=w.ownsRow 0 e size (.slice A n c) n xs
section
variable {w w':World} {e:TypeId} {size n c:Nat} {A A':Option Addr} {xs:List Value} {S:List Nat}
def Own.nil(w:World)(e:TypeId)(size:Nat):Own w e size none 0 0 []:=World.ownsRow_nil w 0 e size
def Own.fr(h:Own w e size A n c xs)(d:Fr S w w')(b:∀k∈eX A,k ∉ S):Own w' e size A n c xs:=GO h d (by
 intro k f;exact b k (oA.1 f))
def Own.alloc(h:Own w e size A n c xs)(o:Obj):Own (w.alloc o) e size A n c xs:=World.ownsRow.alloc h o
def Own.len(h:Own w e size A n c xs):xs.length=n*size:=h.1
def Own.row(h:Own w e size A n c xs):Row w w.heap.size size A n xs:=Row.of_own (base:=0) h
def Own.lt(h:Own w e size A n c xs):∀k∈eX A,k<w.heap.size:=by
 intro k b;exact(World.ownsRow.lt h k (oA.2 b)).2
def Own.le_cap(h:Own w e size A n c xs):n<=c:=by
 rcases h.2 with⟨b,d⟩|⟨g,f,i,b,_,_,d,_⟩
 ·injection b;omega
 ·injection b;omega
end
def Fr.of_grown{w w':World}{A:Option Addr}{n c:Nat}(h:w.grownBy w' (Value.slice A n c).ownBlock):Fr (eX A) w w' :=
 ⟨h.os,h.tape,h.output,h.size,λk b d=>h.block k b (λe=>d (oA.1 e.symm))⟩
section
variable {P:Program} (w:World)
def Fm(t ty e:TypeId)(i:TypeInfo)(z:Value)(size r:Nat)(y:P.underlying t=some (.slice e))(s:P.info? e=some i)(K:i.zero=some z)
 (I:i.size=size) (F:i.bytes=r) (O:z.cells.size=size) (N:0<size)
 (A:Option Addr) (n c:Nat) (xs:List Value) (q:Own w e size A n c xs)
 (a:Addr) (m h:Nat) (f:List Value) (p:f.length=m*size) (v:∀j u,f[j]?=some u->w.cell? (a.add j)=some u) (C:∀u∈f,u.oneCell'=true)
 (D:n+m<=maxLen) (G:(n+m)*r<=140737488355328) :
 ∃A' c' w',(Builtin.append_ #[t,t] ty #[.slice A n c,.slice (some a) m h]).run P w=.ok (.slice A' (n+m) c') w'/\Own w' e size A' (n+m) c' (xs++f)/\Fr (eX A) w w'/\∀k∈eX A',k∈eX A \/ w.heap.size<=k:=by
 have⟨v',w',x,L,U,Z⟩:=run_append_own (P:=P) w 0 t ty e i z size r y s K I F O N (.slice A n c) n xs q a m h f p v C D G (Nat.zero_le _);obtain⟨A',c',rfl,ab⟩:=nJ L;refine⟨A',c',w',x,L,Fr.of_grown U,?_⟩
 rcases q.2 with⟨J,X⟩|⟨g,Y,R,J,_,W,aa,_,V,_⟩
 ·injection J with E _ H
  subst E X H;have⟨v2,w2,d,T,_,_⟩:=run_append_own (P:=P) w w.heap.size t ty e i z size r y s K I F O N gz 0 xs ⟨q.1,.inl ⟨rfl,rfl⟩⟩ a m h f p v C D G (fW _);rw[x]at d
  injection d with b B
  subst b B;intro k l;exact .inr (nK T k (oA.2 l))
 ·injection J with E _ H
  subst E H;subst I
  by_cases M:n+m<=c
  ·have d:=run_append_room (P:=P) w t ty e i y s g n c R W a m h f p v C M (by rw[p,V,<-Nat.add_mul];exact Nat.mul_le_mul_right _ M)
   rw[x]at d
   injection d with b B
   injection b with b
   subst b;intro k l;exact .inl l
  ·have d:=run_append_grow (P:=P) w t ty e i z y s K ⟨g,0,none⟩ n c xs q.1 (q.cells (g:=g) rfl) a m h f p v qo (by simp only[maxLen]at D;omega) (growslice_fits qo (by rw[F];exact G))
   rw[x]at d
   injection d with b B
   injection b with b
   subst b;intro k l;simp only[eX,Option.map_some,Option.toList_some,ip]at l;exact .inr qo
def wK(t u ty e:TypeId)(i:TypeInfo)(p:P.underlying t=some (.slice e))(q:P.underlying u=some .string)(j:P.info? e=some i)(C:i.zero=some (.int .u8 0))
 (m:i.size=1) (y:i.bytes=1)
 (A:Option Addr) (n c:Nat) (xs:List Value) (h:Own w e 1 A n c xs) (s:ByteArray)
 (v:n+s.size<=maxLen) (E:n+s.size<=140737488355328) :
 ∃A' c' w',(Builtin.append_ #[t,u] ty #[.slice A n c,.string s]).run P w=.ok (.slice A' (n+s.size) c') w'/\Own w' e 1 A' (n+s.size) c' (xs++eO s.data.toList)/\Fr (eX A) w w'/\∀k∈eX A',k∈eX A \/ w.heap.size<=k:=by
 have⟨T,w',l,D,H,M⟩:=Lib.run_append_own_string (P:=P) w 0 t u ty e i p q j C m y (.slice A n c) n xs h s v E (Nat.zero_le _);obtain⟨A',c',rfl,R⟩:=nJ D;refine⟨A',c',w',l,D,Fr.of_grown H,?_⟩
 rcases h.2 with⟨B,J⟩|⟨g,L,F,B,_,I,O,_,N,_⟩
 ·injection B with x _ z
  subst x J z;have⟨U,w2,d,G,_,_⟩:=Lib.run_append_own_string (P:=P) w w.heap.size t u ty e i p q j C m y gz 0 xs ⟨h.1,.inl ⟨rfl,rfl⟩⟩ s v E (fW _);rw[l]at d
  injection d with b r
  subst b r;intro k f;exact .inr (nK G k (oA.2 f))
 ·injection B with x _ z
  subst x z
  by_cases K:n+s.size<=c
  ·have d:=Lib.run_append_room_string (P:=P) w t u ty e i p q j m g n c F I s K qo
   rw[l]at d
   injection d with b r
   injection b with b
   subst b;intro k f;exact .inl f
  ·have d:=Lib.run_append_grow_string (P:=P) w t u ty e i _ p q j C ⟨g,0,none⟩ n c xs (by rw[m];exact h.1) (h.cells (g:=g) rfl) s qo (by simp only[maxLen]at v;omega) (growslice_fits qo (by rw[y];omega))
   rw[l]at d
   injection d with b r
   injection b with b
   subst b;intro k f;simp only[eX,Option.map_some,Option.toList_some,ip]at f;exact .inr qo
end
section
variable {P:Program} {ops:Array Oper} {rest:List Oper} {o:Oper} {a:Act} {Q:Exit->Act->World->Prop}
def ja{w:World}{K:Act->World->Prop}(s x:Operand)(t:TypeId)(F:o.op=.call { callee:=.builtin .append,args:=#[s,x],argTypes:=#[t,t] })
 (e:TypeId) (i:TypeInfo) (z:Value) (size f:Nat) (M:P.underlying t=some (.slice e)) (C:P.info? e=some i) (O:i.zero=some z) (J:i.size=size) (y:i.bytes=f) (R:z.cells.size=size) (L:0<size)
 (A:Option Addr) (n c:Nat) (xs:List Value) (I:a.eval s=.slice A n c) (G:Own w e size A n c xs)
 (d:Addr) (m g:Nat) (b:List Value) (N:a.eval x=.slice (some d) m g) (D:b.length=m*size) (E:∀j u,b[j]?=some u->w.cell? (d.add j)=some u) (l:∀u∈b,u.oneCell'=true)
 (v:n+m<=maxLen) (B:(n+m)*f<=140737488355328)
 (h:∀A' c' w',Own w' e size A' (n+m) c' (xs++b)->Fr (eX A) w w'->(∀k∈eX A',k∈eX A \/ w.heap.size<=k)->K (a.put o.dst (.slice A' (n+m) c')) w'):o.wp P a w K Q:=by
 have⟨A',c',w',H,p,q,r⟩:=Fm (P:=P) w t o.type e i z size f M C O J y R L A n c xs G d m g b D E l v B;unfold Oper.wp execOp;simp only[F,resolve,invoke,builtin,Sem.run_bind,Sem.run_pure,Result.andThen_ok,map_toArray,map_cons,map_nil,I,N,H];exact h A' c' w' p q r
def fV(b j:Nat):(⟨b,0,none⟩:Addr).add j=⟨b,j,none⟩:=by rw[Addr.add_mid,Nat.zero_add]
def jK(w:World)(cs:List Value)(t:TypeId):∀j u,cs[j]?=some u->(w.alloc (.cells cs.toArray t)).cell? ((⟨w.heap.size,0,none⟩:Addr).add j)=some u:=by
 intro j u b;rw[fV,(BoxN.new w t cs.toArray).c j];simpa using b
def nA{w:World}{K:Act->World->Prop}(s x:Operand)(t:TypeId)(F:o.op=.call { callee:=.builtin .append,args:=#[s,x],argTypes:=#[t,t] })
 (e:TypeId) (i:TypeInfo) (z:Value) (size d:Nat) (L:P.underlying t=some (.slice e)) (C:P.info? e=some i) (N:i.zero=some z) (I:i.size=size) (y:i.bytes=d) (O:z.cells.size=size) (J:0<size)
 (A:Option Addr) (n c:Nat) (xs:List Value) (H:a.eval s=.slice A n c) (G:Own w e size A n c xs)
 (m g:Nat) (b:List Value) (f:TypeId) (M:a.eval x=.slice (some ⟨w.heap.size,0,none⟩) m g) (E:b.length=m*size) (j:∀u∈b,u.oneCell'=true)
 (v:n+m<=maxLen) (B:(n+m)*d<=140737488355328)
 (h:∀A' c' w',Own w' e size A' (n+m) c' (xs++b)->Fr (eX A) w w'->(∀k∈eX A',k∈eX A \/ w.heap.size<=k)->K (a.put o.dst (.slice A' (n+m) c')) w'):o.wp P a (w.alloc (.cells b.toArray f)) K Q :=
 ja (w:=w.alloc (.cells b.toArray f)) s x t F e i z size d L C N I y O J A n c xs H (G.alloc _) ⟨w.heap.size,0,none⟩ m g b M E (jK w b f) j v B λA' c' w' l p q =>
  h A' c' w' l (((Fq (eX A) w).alloc _).then p) λk D=>(q k D).imp id λr=>by rw[jZ]at r;omega
def yH{w:World}{K:Act->World->Prop}(s x:Operand)(t u:TypeId)(q:o.op=.call { callee:=.builtin .append,args:=#[s,x],argTypes:=#[t,u] })
 (e:TypeId) (i:TypeInfo) (B:P.underlying t=some (.slice e)) (C:P.underlying u=some .string) (p:P.info? e=some i) (E:i.zero=some (.int .u8 0)) (z:i.size=1) (l:i.bytes=1)
 (A:Option Addr) (n c:Nat) (xs:List Value) (y:a.eval s=.slice A n c) (r:Own w e 1 A n c xs) (b:ByteArray) (D:a.eval x=.string b)
 (j:n+b.size<=maxLen) (m:n+b.size<=140737488355328)
 (h:∀A' c' w',Own w' e 1 A' (n+b.size) c' (xs++eO b.data.toList)->Fr (eX A) w w'->(∀k∈eX A',k∈eX A \/ w.heap.size<=k)->K (a.put o.dst (.slice A' (n+b.size) c')) w'):o.wp P a w K Q:=by
 have⟨A',c',w',v,d,f,g⟩:=wK (P:=P) w t u o.type e i B C p E z l A n c xs r b j m;unfold Oper.wp execOp;simp only[q,resolve,invoke,builtin,Sem.run_bind,Sem.run_pure,Result.andThen_ok,map_toArray,map_cons,map_nil,y,D,v];exact h A' c' w' d f g
def fC{w:World}(C:o.guard=none)(s x:Operand)(t:TypeId)(F:o.op=.call { callee:=.builtin .append,args:=#[s,x],argTypes:=#[t,t] })
 (e:TypeId) (i:TypeInfo) (z:Value) (size d:Nat) (K:P.underlying t=some (.slice e)) (D:P.info? e=some i) (M:i.zero=some z) (I:i.size=size) (y:i.bytes=d) (N:z.cells.size=size) (J:0<size)
 (A:Option Addr) (n c:Nat) (xs:List Value) (H:a.eval s=.slice A n c) (G:Own w e size A n c xs)
 (m f:Nat) (b:List Value) (g:TypeId) (L:a.eval x=.slice (some ⟨w.heap.size,0,none⟩) m f) (E:b.length=m*size) (j:∀u∈b,u.oneCell'=true)
 (r:n+m<=maxLen) (B:(n+m)*d<=140737488355328)
 (h:∀A' c' w',Own w' e size A' (n+m) c' (xs++b)->Fr (eX A) w w'->(∀k∈eX A',k∈eX A \/ w.heap.size<=k)->wpList P ops Q rest (a.put o.dst (.slice A' (n+m) c')) w'):wpList P ops Q (o::rest) a (w.alloc (.cells b.toArray g)) :=
 wpList_plain C λ_ v=>nA s x t F e i z size d K D M I y N J A n c xs H G m f b g L E j r B λA' c' w' l p q=>v _ _ (h A' c' w' l p q)
def me{w:World}(q:o.guard=none)(s x:Operand)(t u:TypeId)(v:o.op=.call { callee:=.builtin .append,args:=#[s,x],argTypes:=#[t,u] })
 (e:TypeId) (i:TypeInfo) (C:P.underlying t=some (.slice e)) (D:P.underlying u=some .string) (r:P.info? e=some i) (F:i.zero=some (.int .u8 0)) (B:i.size=1) (m:i.bytes=1)
 (A:Option Addr) (n c:Nat) (xs:List Value) (z:a.eval s=.slice A n c) (y:Own w e 1 A n c xs) (b:ByteArray) (E:a.eval x=.string b)
 (j:n+b.size<=maxLen) (p:n+b.size<=140737488355328)
 (h:∀A' c' w',Own w' e 1 A' (n+b.size) c' (xs++eO b.data.toList)->Fr (eX A) w w'->(∀k∈eX A',k∈eX A \/ w.heap.size<=k)->wpList P ops Q rest (a.put o.dst (.slice A' (n+b.size) c')) w'):wpList P ops Q (o::rest) a w :=
 wpList_plain q λ_ l=>yH s x t u v e i C D r F B m A n c xs z y b E j p λA' c' w' d f g=>l _ _ (h A' c' w' d f g)
end
def oB:∃i,(prog).info? 5=some i/\i.zero=some (.int .u8 0)/\i.size=1/\i.bytes=1:=info_parts qk
end Go.Proofs.YtlpmiimgacfmkaaGreatDoor
