/- SHA-256: (Hash).Sum. -/
import Derived.Test.YtlpmiimgacfmkaaGreatDoorRCmp6
set_option linter.all false
set_option maxHeartbeats 4000000
set_option maxRecDepth 100000
namespace Go.Proofs.YtlpmiimgacfmkaaGreatDoor
open Go.Proofs.Tryz
open Go.RowKit
def ra(h:HS):List Value:=(List.range 8).map λj=>.int .u32 (h.st j)
def iS(h:HS):List Value:=(List.range 64).map λj=>.int .u8 (h.rest j)
theorem tX(h:HS):(ra h).length=8:=by simp[ra]
theorem ou(h:HS):(ra h).toArray.size=8:=by simp[ra]
theorem ly(h:HS):(iS h).toArray.size=64:=by simp[iS]
theorem o6(h:HS):(iS h).length=64:=by simp[iS]
theorem HashAt.st{w:World}{b:Nat}{h:HS}(c:HashAt w b h):w.rangeAt b 1 (ra h):=by
 intro j v a;have d:j<8:=by have:=(i9.1 a).1;rwa [tX]at this
 rw[c.cell qo,<-a];unfold ra j0;rw[if_neg qo,if_pos qo,List.getElem?_map,List.getElem?_range d,Option.map_some,show 1+j - 1=j by omega]
theorem HashAt.rest{w:World}{b:Nat}{h:HS}(c:HashAt w b h):w.rangeAt b 9 (iS h):=by
 intro j v a;have d:j<64:=by have:=(i9.1 a).1;rwa [o6]at this
 rw[c.cell qo,<-a];unfold iS j0;rw[if_neg qo,if_neg qo,List.getElem?_map,List.getElem?_range d,Option.map_some,show 9+j - 9=j by omega]
theorem HashAt.len{w:World}{b:Nat}{h:HS}(a:HashAt w b h):w.cell? ⟨b,0,none⟩=some (.int .i64 (h.len:Int)):=World.rowIs.cell a qo
theorem HashAt.alloc{w:World}{b:Nat}{h:HS}(a:HashAt w b h)(o:Obj):HashAt (w.alloc o) b h:=World.rowIs.alloc a o
theorem HashAt.fr{S:List Nat}{w w':World}{b:Nat}{h:HS}(a:HashAt w b h)(d:Fr S w w')(c:b ∉ S):HashAt w' b h:=eS a d c
theorem gn(w:World)(c:Array Value)(t:TypeId):(w.alloc (.cells c t)).rowIs w.heap.size t c.size (λi=>c[i]?.getD default):=World.rowIs_alloc w c t _ (λi a=>by rw[Array.getElem?_eq_getElem a];rfl)
def CO(h:HS)(j:Nat):Int:=if j<h.len % 64 then h.rest j else if j=h.len % 64 then 128 else 0
def Da(h:HS):Nat->Int:=if h.len=0 then iv else h.st
def tY(h:HS):Nat->Int:=if 56<=h.len % 64 then tJ (Da h) (CO h)else Da h
def kG(h:HS):Nat->Int:=if 56<=h.len % 64 then λ_=>0 else CO h
def Db(h:HS):Nm:=yU (tJ (tY h) (λj=>if 56<=j then Bl (8*(h.len:Int)) j else kG h j))
theorem BC{h:HS}{m j:Nat}(a:h.len % 64=m)(b:m=63)(c:j<64):Value.int .u8 (if j=m then 128 else h.rest j)=.int .u8 (CO h j):=by
 unfold CO;rw[a]
 by_cases e:j=m
 ·rw[if_pos e,if_neg qo,if_pos e]
 ·rw[if_neg e,if_pos qo]
theorem sR{h:HS}{m j:Nat}(b:h.len % 64=m)(c:m<63)(d:j<64):(if m+1<=j/\j<m+1+(List.replicate (63 - m) (Value.int .u8 0)).length then(List.replicate (63 - m) (Value.int .u8 0))[j - (m+1)]?.getD default else Value.int .u8 (if j=m then 128 else h.rest j))=.int .u8 (CO h j):=by
 unfold CO;rw[b];simp only[List.length_replicate]
 by_cases e:m+1<=j/\j<m+1+(63 - m)
 ·rw[if_pos e,if_neg qo,if_neg qo,List.getElem?_replicate,if_pos qo]
  rfl
 ·rw[if_neg e]
  by_cases a:j=m
  ·rw[if_pos a,if_neg qo,if_pos a]
  ·rw[if_neg a,if_pos qo]
theorem BD{j:Nat}(a:j<8):(ivL.map (Value.int .u32))[j]?=some (.int .u32 (iv j)):=by
 rw[List.getElem?_map,gx (show j<ivL.length from a)];unfold iv;rw[List.getD_eq_getElem?_getD,gx (show j<ivL.length from a)];rfl
theorem BE{w:World}(c:Ok w):w.rangeAt 1 0 (ivL.map (Value.int .u32)):=by
 intro j v b;have a:j<8:=by have:=(i9.1 b).1;simpa [ivL]using this
 rw[Nat.zero_add,c.ivs j a,<-b,BD a]
def Gd(w:World)(b:Nat)(h:HS)(a c d:Value)(W:World):Prop :=
 ∃P Q,a=.pointer (some ⟨P,0,none⟩)/\c=.pointer (some ⟨Q,0,none⟩)/\d=.int .i64 ((h.len % 64:Nat):Int)/\P≠Q/\w.heap.size<=P/\w.heap.size<=Q/\W.rowIs P 162 8 (λj=>.int .u32 (h.st j))/\W.rowIs Q 163 64 (λj=>.int .u8 (h.rest j))/\Fr [] w W
theorem Dc(b:Nat)(h:HS)(w:World)(L:Ok w)(hb:6<=b)(aU:h.len<=1152921504606846976)(hH:HashAt w b h):
 Calls prog 80 #[.pointer (some ⟨b,0,none⟩)] w (gh w (Db h)):=by
 have HH:=Hd hH;clear hH
 go_enter func80,ntmps80
 go_upto_region 3 with fail
 obtain⟨a,an⟩:=eR (w.alloc (.cells (qm) 57));have aN:b<a.heap.size:=by rw[<-an,kX];have:=World.rowIs.lt HH.out;omega
 have HB:=Hd aN;clear aN;rw[an]
 go_cut [3,4,5]from 14 to 26 (λs3 s4 s5 W=>Gd a b h s3 s4 s5 W)
 case first =>
  refine wp_region_held_drew (S:=λW=>HashAt W b h) qk ?_ (λu=>?_)
  ·rw[<-an];exact HH.out.alloc _
  refine wpAnyH_take (i:=0) (v:=?_) rfl qk qk qk (λ_ _ _ h=>h) (Or.inl ⟨qr,?_⟩) (by assumption) ?_
  rotate_left
  ·intro M I
   go_simp
   try with_reducible rfl
  try simp only[qq]
  refine wpAnyH_take (i:=1) (v:=?_) rfl qk qk qk (λ_ _ _ h=>h) (Or.inl ⟨qr,?_⟩) (by assumption) ?_
  rotate_left
  ·intro M I
   go_simp
   try with_reducible rfl
  try simp only[qq]
  refine wpAnyH_take (i:=2) (v:=?_) rfl qk qk qk (λ_ _ _ h=>h) (Or.inl ⟨qr,?_⟩) (by assumption) ?_
  rotate_left
  ·intro M I
   go_simp
   try with_reducible rfl
  try simp only[qq]
  refine wpAnyH_take (i:=3) rfl qk qk qk (λ_ _ _ h=>h) (yieldsIf_load_mid qr 162 (.tmp 16) rfl b 1 rfl (ra h) (.array 8 161) (λ_ hS=>hS.st) qk rfl qr) (by assumption) ?_
  try simp only[qq]
  refine wpAnyH_take (i:=4) (v:=?_) rfl qk qk qk (λ_ _ _ h=>h) (Or.inl ⟨qr,?_⟩) (by assumption) ?_
  rotate_left
  ·intro M I
   go_simp
   try with_reducible rfl
  try simp only[qq]
  refine wpAnyH_take (i:=5) (v:=?_) rfl qk qk qk (λ_ _ _ h=>h) (Or.inl ⟨qr,?_⟩) (by assumption) ?_
  rotate_left
  ·intro M I
   go_simp
   try with_reducible rfl
  try simp only[qq]
  refine wpAnyH_take (i:=6) (v:=?_) rfl qk qk qk (λ_ _ _ h=>h) (Or.inl ⟨qr,?_⟩) (by assumption) ?_
  rotate_left
  ·intro M I
   go_simp
   try with_reducible rfl
  try simp only[qq]
  refine wpAnyH_take (i:=7) rfl qk qk qk (λ_ _ _ h=>h) (yieldsIf_load_mid qr 163 (.tmp 20) rfl b 9 rfl (iS h) (.array 64 5) (λ_ hS=>hS.rest) qk rfl qr) (by assumption) ?_
  try simp only[qq]
  refine wpAnyH_take (i:=8) (v:=?_) rfl qk qk qk (λ_ _ _ h=>h) (Or.inl ⟨qr,?_⟩) (by assumption) ?_
  rotate_left
  ·intro M I
   go_simp
   try with_reducible rfl
  try simp only[qq]
  refine wpAnyH_take (i:=9) (v:=?_) rfl qk qk qk (λ_ _ _ h=>h) (Or.inl ⟨qr,?_⟩) (by assumption) ?_
  rotate_left
  ·intro M I
   go_simp
   try with_reducible rfl
  try simp only[qq]
  refine wpAnyH_take (i:=10) (v:=?_) rfl qk qk qk (λ_ _ _ h=>h) (Or.inl ⟨qr,?_⟩) (by assumption) ?_
  rotate_left
  ·intro M I
   go_simp
   try with_reducible rfl
  try simp only[qq]
  refine wpAnyH_take (i:=11) (v:=?_) rfl qk qk qk (λ_ _ _ h=>h) (Or.inl ⟨qr,?_⟩) (by assumption) ?_
  rotate_left
  ·intro M I
   have aU:=I.len;go_simp
   try with_reducible rfl
  try simp only[qq]
  refine wpAnyH_take (i:=12) (v:=?_) rfl qk qk qk (λ_ _ _ h=>h) (Or.inl ⟨qr,?_⟩) (by assumption) ?_
  rotate_left
  ·intro M I
   go_simp
   try with_reducible rfl
  try simp only[qq]
  refine wpAnyH_ready (rs:=[13,14]) qk qs ?_;refine AllReadyH.cons rfl (λK q=>?_) (AllReadyH.cons rfl (λK q=>?_) AllReadyH.nil)
  ·go_simp
   refine q.out _ _ ?_ (λu=>?_)
   ·exact HashAt.alloc u _
   clear q K
   try simp only[qq]
   refine wpAnyH_ready (rs:=[14]) qk qs ?_;refine AllReadyH.cons rfl (λK q=>?_) AllReadyH.nil;go_simp
   refine q.out _ _ ?_ (λu=>?_)
   ·exact HashAt.alloc u _
   clear q K
   try simp only[qq]
   obtain⟨V,ab⟩:=eR (((a.alloc (.cells (#[.int .u32 0,.int .u32 0,.int .u32 0,.int .u32 0,.int .u32 0,.int .u32 0,.int .u32 0,.int .u32 0]) 162)).alloc (.cells (#[.int .u8 0,.int .u8 0,.int .u8 0,.int .u8 0,.int .u8 0,.int .u8 0,.int .u8 0,.int .u8 0,.int .u8 0,.int .u8 0,.int .u8 0,.int .u8 0,.int .u8 0,.int .u8 0,.int .u8 0,.int .u8 0,.int .u8 0,.int .u8 0,.int .u8 0,.int .u8 0,.int .u8 0,.int .u8 0,.int .u8 0,.int .u8 0,.int .u8 0,.int .u8 0,.int .u8 0,.int .u8 0,.int .u8 0,.int .u8 0,.int .u8 0,.int .u8 0,.int .u8 0,.int .u8 0,.int .u8 0,.int .u8 0,.int .u8 0,.int .u8 0,.int .u8 0,.int .u8 0,.int .u8 0,.int .u8 0,.int .u8 0,.int .u8 0,.int .u8 0,.int .u8 0,.int .u8 0,.int .u8 0,.int .u8 0,.int .u8 0,.int .u8 0,.int .u8 0,.int .u8 0,.int .u8 0,.int .u8 0,.int .u8 0,.int .u8 0,.int .u8 0,.int .u8 0,.int .u8 0,.int .u8 0,.int .u8 0,.int .u8 0,.int .u8 0]) 163)).drew);obtain⟨fP,Z⟩:∃f,V.rowIs a.heap.size 162 8 f:=by rw[<-ab];exact⟨_,((gn a _ _).alloc _).drew⟩
   obtain⟨fQ,hQ⟩:∃f,V.rowIs (a.heap.size+1) 163 64 f:=by rw[<-ab];have:=gn (a.alloc (.cells (#[.int .u32 0,.int .u32 0,.int .u32 0,.int .u32 0,.int .u32 0,.int .u32 0,.int .u32 0,.int .u32 0]) 162)) (#[.int .u8 0,.int .u8 0,.int .u8 0,.int .u8 0,.int .u8 0,.int .u8 0,.int .u8 0,.int .u8 0,.int .u8 0,.int .u8 0,.int .u8 0,.int .u8 0,.int .u8 0,.int .u8 0,.int .u8 0,.int .u8 0,.int .u8 0,.int .u8 0,.int .u8 0,.int .u8 0,.int .u8 0,.int .u8 0,.int .u8 0,.int .u8 0,.int .u8 0,.int .u8 0,.int .u8 0,.int .u8 0,.int .u8 0,.int .u8 0,.int .u8 0,.int .u8 0,.int .u8 0,.int .u8 0,.int .u8 0,.int .u8 0,.int .u8 0,.int .u8 0,.int .u8 0,.int .u8 0,.int .u8 0,.int .u8 0,.int .u8 0,.int .u8 0,.int .u8 0,.int .u8 0,.int .u8 0,.int .u8 0,.int .u8 0,.int .u8 0,.int .u8 0,.int .u8 0,.int .u8 0,.int .u8 0,.int .u8 0,.int .u8 0,.int .u8 0,.int .u8 0,.int .u8 0,.int .u8 0,.int .u8 0,.int .u8 0,.int .u8 0,.int .u8 0]) 163;rw[kX]at this;exact⟨_,this.drew⟩
   have hF:Fr [] a V:=by rw[<-ab];exact(((Fq [] a).alloc _).alloc _).drew
   rw[ab]at u ⊢;clear ab;have aF:b≠a.heap.size:=by have:=HB.out;omega
   have aG:b≠a.heap.size+1:=by have:=HB.out;omega
   have l:a.heap.size≠a.heap.size+1:=qo
   have ax:=gy Z (tX h) (g:=λj=>.int .u32 (h.st j)) (λj k=>by unfold ra;rw[List.getElem?_map,List.getElem?_range k,Option.map_some]);have am:=rowIs_setCells_other (b:=a.heap.size) (b':=a.heap.size+1) l.symm (ra h) 0 _ hQ;have al:=u.fr ((Fq [a.heap.size] V).setCells (p:=a.heap.size) qs (ra h) 0) (by simpa using aF);have au:=hF.setCells (p:=a.heap.size) (.inr qo) (ra h) 0;obtain⟨W2,ao⟩:=eR (V.setCells (a.heap.size) 0 (ra h));rw[ao]at ax am al au;refine wpAnyH_ready (rs:=[15]) qk qs ?_;refine AllReadyH.cons rfl (λK q=>?_) AllReadyH.nil;rw[if_pos qr];refine wp_store_mid 162 (.tmp 3) (.tmp 17) rfl (a.heap.size) 0 (ra h).toArray rfl rfl (by rw[ou];exact iE Z qo) (by rw[ou];kernel_rfl) (all_oneCell_toArray (by intro v hv;obtain⟨x,_,rfl⟩:=List.mem_map.1 hv;rfl)) ?_;rw[show (ra h).toArray.toList=ra h from rfl,ao];clear u;refine q.out _ _ al (λu=>?_);clear q K ao;have ay:=rowIs_setCells_other (b:=a.heap.size+1) (b':=a.heap.size) l (iS h) 0 _ ax;have az:=gy am (o6 h) (g:=λj=>.int .u8 (h.rest j)) (λj k=>by unfold iS;rw[List.getElem?_map,List.getElem?_range k,Option.map_some]);have aw:=al.fr ((Fq [a.heap.size+1] _).setCells (p:=a.heap.size+1) qs (iS h) 0) (by simpa using aG);have av:=au.setCells (p:=a.heap.size+1) (.inr qo) (iS h) 0;obtain⟨W3,ap⟩:=eR (W2.setCells (a.heap.size+1) 0 (iS h));rw[ap]at ay az aw av
   try simp only[qq]
   refine wpAnyH_ready (rs:=[16]) qk qs ?_;refine AllReadyH.cons rfl (λK q=>?_) AllReadyH.nil;rw[if_pos qr];refine wp_store_mid 163 (.tmp 4) (.tmp 21) rfl (a.heap.size+1) 0 (iS h).toArray rfl rfl (by rw[ly];exact iE am qo) (by rw[ly];kernel_rfl) (all_oneCell_toArray (by intro v hv;obtain⟨x,_,rfl⟩:=List.mem_map.1 hv;rfl)) ?_;rw[show (iS h).toArray.toList=iS h from rfl,ap];clear u;refine q.out _ _ aw (λu=>?_);clear q K ap
   try simp only[qq]
   refine wpAnyH_take (i:=17) (v:=?_) rfl qk qk qk (λ_ _ _ h=>h) (Or.inl ⟨qr,?_⟩) (by assumption) ?_
   rotate_left
   ·intro M I
    go_simp
    try with_reducible rfl
   try simp only[qq]
   refine wpAnyH_done qk ?_ _
   go_wp2_with fail
   go_meet
   exact⟨_,_,rfl,rfl,rfl,l,qo,qo,ay,az,av⟩
  ·go_simp
   refine q.out _ _ ?_ (λu=>?_)
   ·exact HashAt.alloc u _
   clear q K
   try simp only[qq]
   refine wpAnyH_ready (rs:=[13]) qk qs ?_;refine AllReadyH.cons rfl (λK q=>?_) AllReadyH.nil;go_simp
   refine q.out _ _ ?_ (λu=>?_)
   ·exact HashAt.alloc u _
   clear q K
   try simp only[qq]
   obtain⟨V,ab⟩:=eR (((a.alloc (.cells (#[.int .u8 0,.int .u8 0,.int .u8 0,.int .u8 0,.int .u8 0,.int .u8 0,.int .u8 0,.int .u8 0,.int .u8 0,.int .u8 0,.int .u8 0,.int .u8 0,.int .u8 0,.int .u8 0,.int .u8 0,.int .u8 0,.int .u8 0,.int .u8 0,.int .u8 0,.int .u8 0,.int .u8 0,.int .u8 0,.int .u8 0,.int .u8 0,.int .u8 0,.int .u8 0,.int .u8 0,.int .u8 0,.int .u8 0,.int .u8 0,.int .u8 0,.int .u8 0,.int .u8 0,.int .u8 0,.int .u8 0,.int .u8 0,.int .u8 0,.int .u8 0,.int .u8 0,.int .u8 0,.int .u8 0,.int .u8 0,.int .u8 0,.int .u8 0,.int .u8 0,.int .u8 0,.int .u8 0,.int .u8 0,.int .u8 0,.int .u8 0,.int .u8 0,.int .u8 0,.int .u8 0,.int .u8 0,.int .u8 0,.int .u8 0,.int .u8 0,.int .u8 0,.int .u8 0,.int .u8 0,.int .u8 0,.int .u8 0,.int .u8 0,.int .u8 0]) 163)).alloc (.cells (#[.int .u32 0,.int .u32 0,.int .u32 0,.int .u32 0,.int .u32 0,.int .u32 0,.int .u32 0,.int .u32 0]) 162)).drew);obtain⟨fQ,hQ⟩:∃f,V.rowIs a.heap.size 163 64 f:=by rw[<-ab];exact⟨_,((gn a _ _).alloc _).drew⟩
   obtain⟨fP,Z⟩:∃f,V.rowIs (a.heap.size+1) 162 8 f:=by rw[<-ab];have:=gn (a.alloc (.cells (#[.int .u8 0,.int .u8 0,.int .u8 0,.int .u8 0,.int .u8 0,.int .u8 0,.int .u8 0,.int .u8 0,.int .u8 0,.int .u8 0,.int .u8 0,.int .u8 0,.int .u8 0,.int .u8 0,.int .u8 0,.int .u8 0,.int .u8 0,.int .u8 0,.int .u8 0,.int .u8 0,.int .u8 0,.int .u8 0,.int .u8 0,.int .u8 0,.int .u8 0,.int .u8 0,.int .u8 0,.int .u8 0,.int .u8 0,.int .u8 0,.int .u8 0,.int .u8 0,.int .u8 0,.int .u8 0,.int .u8 0,.int .u8 0,.int .u8 0,.int .u8 0,.int .u8 0,.int .u8 0,.int .u8 0,.int .u8 0,.int .u8 0,.int .u8 0,.int .u8 0,.int .u8 0,.int .u8 0,.int .u8 0,.int .u8 0,.int .u8 0,.int .u8 0,.int .u8 0,.int .u8 0,.int .u8 0,.int .u8 0,.int .u8 0,.int .u8 0,.int .u8 0,.int .u8 0,.int .u8 0,.int .u8 0,.int .u8 0,.int .u8 0,.int .u8 0]) 163)) (#[.int .u32 0,.int .u32 0,.int .u32 0,.int .u32 0,.int .u32 0,.int .u32 0,.int .u32 0,.int .u32 0]) 162;rw[kX]at this;exact⟨_,this.drew⟩
   have hF:Fr [] a V:=by rw[<-ab];exact(((Fq [] a).alloc _).alloc _).drew
   rw[ab]at u ⊢;clear ab;have aF:b≠a.heap.size+1:=by have:=HB.out;omega
   have aG:b≠a.heap.size:=by have:=HB.out;omega
   have l:a.heap.size+1≠a.heap.size:=qo
   have ax:=gy Z (tX h) (g:=λj=>.int .u32 (h.st j)) (λj k=>by unfold ra;rw[List.getElem?_map,List.getElem?_range k,Option.map_some]);have am:=rowIs_setCells_other (b:=a.heap.size+1) (b':=a.heap.size) l.symm (ra h) 0 _ hQ;have al:=u.fr ((Fq [a.heap.size+1] V).setCells (p:=a.heap.size+1) qs (ra h) 0) (by simpa using aF);have au:=hF.setCells (p:=a.heap.size+1) (.inr qo) (ra h) 0;obtain⟨W2,ao⟩:=eR (V.setCells (a.heap.size+1) 0 (ra h));rw[ao]at ax am al au;refine wpAnyH_ready (rs:=[15]) qk qs ?_;refine AllReadyH.cons rfl (λK q=>?_) AllReadyH.nil;rw[if_pos qr];refine wp_store_mid 162 (.tmp 3) (.tmp 17) rfl (a.heap.size+1) 0 (ra h).toArray rfl rfl (by rw[ou];exact iE Z qo) (by rw[ou];kernel_rfl) (all_oneCell_toArray (by intro v hv;obtain⟨x,_,rfl⟩:=List.mem_map.1 hv;rfl)) ?_;rw[show (ra h).toArray.toList=ra h from rfl,ao];clear u;refine q.out _ _ al (λu=>?_);clear q K ao;have ay:=rowIs_setCells_other (b:=a.heap.size) (b':=a.heap.size+1) l (iS h) 0 _ ax;have az:=gy am (o6 h) (g:=λj=>.int .u8 (h.rest j)) (λj k=>by unfold iS;rw[List.getElem?_map,List.getElem?_range k,Option.map_some]);have aw:=al.fr ((Fq [a.heap.size] _).setCells (p:=a.heap.size) qs (iS h) 0) (by simpa using aG);have av:=au.setCells (p:=a.heap.size) (.inr qo) (iS h) 0;obtain⟨W3,ap⟩:=eR (W2.setCells (a.heap.size) 0 (iS h));rw[ap]at ay az aw av
   try simp only[qq]
   refine wpAnyH_ready (rs:=[16]) qk qs ?_;refine AllReadyH.cons rfl (λK q=>?_) AllReadyH.nil;rw[if_pos qr];refine wp_store_mid 163 (.tmp 4) (.tmp 21) rfl (a.heap.size) 0 (iS h).toArray rfl rfl (by rw[ly];exact iE am qo) (by rw[ly];kernel_rfl) (all_oneCell_toArray (by intro v hv;obtain⟨x,_,rfl⟩:=List.mem_map.1 hv;rfl)) ?_;rw[show (iS h).toArray.toList=iS h from rfl,ap];clear u;refine q.out _ _ aw (λu=>?_);clear q K ap
   try simp only[qq]
   refine wpAnyH_take (i:=17) (v:=?_) rfl qk qk qk (λ_ _ _ h=>h) (Or.inl ⟨qr,?_⟩) (by assumption) ?_
   rotate_left
   ·intro M I
    go_simp
    try with_reducible rfl
   try simp only[qq]
   refine wpAnyH_done qk ?_ _
   go_wp2_with fail
   go_meet
   exact⟨_,_,rfl,rfl,rfl,l,qo,qo,ay,az,av⟩
 case rest =>
  obtain⟨P,Q,rfl,rfl,rfl,l,gP,gQ,Z,hQ,hf⟩:=hcut;have aM:Fr [] w a:=by rw[<-an];exact(Fq [] w).alloc _
  have aR:∃fR,a.rowIs w.heap.size 57 32 fR:=by rw[<-an];exact⟨_,gn w _ _⟩
  have Da:w.heap.size<a.heap.size:=by rw[<-an,kX];omega
  obtain⟨fR,aL⟩:=aR;have aC:=eS aL hf qs;have aq:Fr [] w wc:=aM.trans hf qs;have aB:HashAt wc b h:=HH.out.fr aq qs
  have aa:P≠w.heap.size:=qo
  have F:Q≠w.heap.size:=qo
  have Y:w.heap.size<=P:=qo
  have E:w.heap.size<=Q:=qo
  have ar:=L.low;clear an aM aL hf Da HB;obtain⟨m,hm⟩:=eR (h.len % 64);have aY:m<64:=qo
  rw[hm]
  by_cases h0:h.len=0
  ·have c0:wc.cell? ⟨b,0,none⟩=some (.int .i64 0):=by have:=aB.len;rwa [h0]at this
   have aI:=iE Z (fV 8);have aH:=run_storeCells_cells (P:=prog) P 0 (ivL.map (Value.int .u32)) 0 wc (λj k=>(aI j k).1) (λj k=>(aI j k).2) (by intro v hv;obtain⟨x,_,rfl⟩:=List.mem_map.1 hv;rfl);simp only[Nat.add_zero]at aH;have aO:wc.rangeAt 1 0 (ivL.map (Value.int .u32)):=BE (L.fr0 aq);obtain⟨W5,aD⟩:=eR (wc.setCells P 0 (ivL.map (Value.int .u32)));have aX:ivL.length=8:=rfl
   have aK:W5.rowIs P 162 8 (λj=>.int .u32 (Da h j)):=by
    rw[<-aD];exact gy Z rfl (λj k=>by unfold Da;rw[if_pos h0];exact BD k)
   have aE:Fr [P] wc W5:=by rw[<-aD];exact(Fq [P] _).setCells qs _ _
   rw[aD]at aH;have aQ:=Hd aO;have ag:=Hd (aq.trans aE (by simpa using Y));have ai:=Hd (eS aC aE (by simpa using λe=>aa e.symm));have ah:=Hd aK;have HQ:=Hd (eS hQ aE (by simpa using λe=>l e.symm));clear aB aq aC Z hQ aI aO aK aE aD h0
   go_upto_region 6 with((with_reducible refine wpList_load_mid rfl 162 (.global 1) rfl 1 0 rfl _ _ aQ.out rfl rfl rfl ?_))
   clear aH c0;have xk:(W5).cell? ⟨Q,m,none⟩=some _:=HQ.out.cell qo;have xf:=HQ.out.frozen m;have aW:(m:Int)<64:=qo
   go_upto_region 7 with fail
   obtain⟨s,ad⟩:=eR ((W5).setCell ⟨Q,m,none⟩ (.int .u8 128))
   have J:s.rowIs Q 163 64 (λj=>.int .u8 (if j=m then 128 else h.rest j)):=by
    rw[<-ad];exact(HQ.out.set m (.int .u8 128)).congr (λj k=>by by_cases e:j=m <;> simp[e])
   have f6:Fr [Q] (W5) s:=by rw[<-ad];exact(Fq [Q] _).set (p:=⟨Q,m,none⟩) qs _
   rw[ad];clear ad xk xf
   by_cases aA:m=63
   ·have q7:s.rowIs Q 163 64 (λj=>.int .u8 (CO h j)):=J.congr (λj k=>BC hm aA k)
    have D:∀(af:Option Addr) (c:Nat) (ty:TypeId),(Builtin.clear_ #[49] ty #[.slice af 0 c]).run prog s=.ok (.tuple #[]) s:=λaf c ty=>by cases af <;> simp[Builtin.clear_,run_underlying (P:=prog) (t:=49) (d:=.slice 5) qk]
    subst aA;have G:=Hd q7;have r:=Hd f6;clear J q7 f6
    go_upto_region 8 with fail
    clear D
    have N:=Hd (ag.out.trans r.out (by simpa using E));have aj:=Hd (L.fr0 N.out);have P8:=Hd (eS ah.out r.out (by simpa using l));have R8:=Hd (eS ai.out r.out (by simpa using λe=>F e.symm))
    go_upto_region 9 with fail
    go_upto_region 10 with((go_at_call 144;refine(jw P Q _ _ (s) aj.out P8.out G.out).mono ?_;rintro e o ⟨rfl,ac,A⟩))
    have ak:=Hd ac;have C:=eS G.out A (by simpa using λe=>l e.symm);have r8:=eS R8.out A (by simpa using λe=>aa e.symm);have X:=N.out.trans A (by simpa using Y)
    have D:∀(c:Nat) (ty:TypeId),(Builtin.clear_ #[49] ty #[.slice (some ⟨Q,0,none⟩) 64 c]).run prog o=.ok (.tuple #[]) (o.setCells Q 0 (List.replicate 64 (.int .u8 0))):=λc ty =>
     Lib.run_clear_slice o 49 5 ty (.int .u8 0) qk (λ_=>by rfl) rfl rfl Q 0 64 c qo (λj k=>by rw[C.cell qo];rfl) (λj k=>C.frozen _)
    obtain⟨y,z⟩:=eR (o.setCells Q 0 (List.replicate 64 (.int .u8 0)))
    have q9:y.rowIs Q 163 64 (λj=>.int .u8 (kG h j)):=by
     rw[<-z];exact gy C qs (λj k=>by unfold kG;rw[if_pos qo,List.getElem?_replicate,if_pos k])
    have B:Fr [Q] o y:=by rw[<-z];exact(Fq [Q] _).setCells qs _ _
    rw[z]at D;have n:=Hd (X.trans B (by simpa using E));have O:=Hd (L.fr0 n.out);have R:Hid (y.rowIs P 162 8 (λj=>.int .u32 (tY h j))):=Hd ((eS ak.out B (by simpa using l)).congr (λj k=>by unfold tY;rw[if_pos qo]));have T:=Hd q9;have U:=Hd (eS r8 B (by simpa using λe=>F e.symm));have c9:=(HH.out.fr n.out qs).len;clear ac C r8 X q9 B z A
    go_upto_block 0 with fail
    refine j9 _ w (y) w.heap.size P Q (8*(h.len:Int)) (tY h) (kG h) fR O.out R.out T.out U.out l aa F ar Y E (fV _) n.out qo qo _ _ rfl rfl (by assumption) _ _ _ _ _ _ _ _ _ _ _ _ _ _ _ _ _ _ _ _ _ _ _ _ _ _ _ _ _ _ _ _ _ _ _ _ _ _ _ _ _ _ _ _ _ _ _ _ _ _ _ _ _ _ _ _ _ _ _ _ _ _ _ _ _ _ _ _ _ _ _ _ _ _ _ _ _ _ _ _ _ _ _ _ _ _ _ _ _
   ·have D:∀(c:Nat) (ty:TypeId),(Builtin.clear_ #[49] ty #[.slice (some ⟨Q,m+1,none⟩) (63 - m) c]).run prog s=.ok (.tuple #[]) (s.setCells Q (m+1) (List.replicate (63 - m) (.int .u8 0))):=λc ty =>
     Lib.run_clear_slice s 49 5 ty (.int .u8 0) qk (λ_=>by rfl) rfl rfl Q (m+1) (63 - m) c qo (λj k=>by rw[J.cell qo];rfl) (λj k=>J.frozen _)
    obtain⟨H,ae⟩:=eR (s.setCells Q (m+1) (List.replicate (63 - m) (.int .u8 0)))
    have q7:H.rowIs Q 163 64 (λj=>.int .u8 (CO h j)):=by
     rw[<-ae];exact(rowIs_setCells _ _ _ _ J).congr (λj k=>sR hm qo k)
    have f7:Fr [Q] (W5) H:=by rw[<-ae];exact f6.setCells qs _ _
    rw[ae]at D;have G:=Hd q7;have r:=Hd f7;clear J q7 f6 f7 ae;have i1:(m:Int)+1<=64:=qo
    have i2:(0:Int)<=(m:Int)+1:=qo
    have i3:((m:Int)+1).toNat=m+1:=qo
    have i4:¬(64=m+1):=qo
    have i5:¬(m=63):=qo
    go_upto_region 8 with fail
    clear i1 i2 i3 i4 i5;clear D
    by_cases aS:56<=m
    ·have aT:(56:Int)<=((m:Nat):Int):=qo
     have N:=Hd (ag.out.trans r.out (by simpa using E));have aj:=Hd (L.fr0 N.out);have P8:=Hd (eS ah.out r.out (by simpa using l));have R8:=Hd (eS ai.out r.out (by simpa using λe=>F e.symm))
     go_upto_region 9 with fail
     go_upto_region 10 with((go_at_call 144;refine(jw P Q _ _ (H) aj.out P8.out G.out).mono ?_;rintro e o ⟨rfl,ac,A⟩))
     have ak:=Hd ac;have C:=eS G.out A (by simpa using λe=>l e.symm);have r8:=eS R8.out A (by simpa using λe=>aa e.symm);have X:=N.out.trans A (by simpa using Y)
     have D:∀(c:Nat) (ty:TypeId),(Builtin.clear_ #[49] ty #[.slice (some ⟨Q,0,none⟩) 64 c]).run prog o=.ok (.tuple #[]) (o.setCells Q 0 (List.replicate 64 (.int .u8 0))):=λc ty =>
      Lib.run_clear_slice o 49 5 ty (.int .u8 0) qk (λ_=>by rfl) rfl rfl Q 0 64 c qo (λj k=>by rw[C.cell qo];rfl) (λj k=>C.frozen _)
     obtain⟨y,z⟩:=eR (o.setCells Q 0 (List.replicate 64 (.int .u8 0)))
     have q9:y.rowIs Q 163 64 (λj=>.int .u8 (kG h j)):=by
      rw[<-z];exact gy C qs (λj k=>by unfold kG;rw[if_pos qo,List.getElem?_replicate,if_pos k])
     have B:Fr [Q] o y:=by rw[<-z];exact(Fq [Q] _).setCells qs _ _
     rw[z]at D;have n:=Hd (X.trans B (by simpa using E));have O:=Hd (L.fr0 n.out);have R:Hid (y.rowIs P 162 8 (λj=>.int .u32 (tY h j))):=Hd ((eS ak.out B (by simpa using l)).congr (λj k=>by unfold tY;rw[if_pos qo]));have T:=Hd q9;have U:=Hd (eS r8 B (by simpa using λe=>F e.symm));have c9:=(HH.out.fr n.out qs).len;clear ac C r8 X q9 B z A
     go_upto_block 0 with fail
     refine j9 _ w (y) w.heap.size P Q (8*(h.len:Int)) (tY h) (kG h) fR O.out R.out T.out U.out l aa F ar Y E (fV _) n.out qo qo _ _ rfl rfl (by assumption) _ _ _ _ _ _ _ _ _ _ _ _ _ _ _ _ _ _ _ _ _ _ _ _ _ _ _ _ _ _ _ _ _ _ _ _ _ _ _ _ _ _ _ _ _ _ _ _ _ _ _ _ _ _ _ _ _ _ _ _ _ _ _ _ _ _ _ _ _ _ _ _ _ _ _ _ _ _ _ _ _ _ _ _ _ _ _ _ _
    ·have aV:¬(56:Int)<=((m:Nat):Int):=qo
     have n:=Hd (ag.out.trans r.out (by simpa using E));have O:=Hd (L.fr0 n.out);have R:Hid (((H):World).rowIs P 162 8 (λj=>.int .u32 (tY h j))):=Hd ((eS ah.out r.out (by simpa using l)).congr (λj k=>by unfold tY;rw[if_neg qo]));have T:Hid (((H):World).rowIs Q 163 64 (λj=>.int .u8 (kG h j))):=Hd (G.out.congr (λj k=>by unfold kG;rw[if_neg qo]));have U:=Hd (eS ai.out r.out (by simpa using λe=>F e.symm));have c9:=(HH.out.fr n.out qs).len
     go_upto_block 0 with fail
     refine j9 _ w (H) w.heap.size P Q (8*(h.len:Int)) (tY h) (kG h) fR O.out R.out T.out U.out l aa F ar Y E (fV _) n.out qo qo _ _ rfl rfl (by assumption) _ _ _ _ _ _ _ _ _ _ _ _ _ _ _ _ _ _ _ _ _ _ _ _ _ _ _ _ _ _ _ _ _ _ _ _ _ _ _ _ _ _ _ _ _ _ _ _ _ _ _ _ _ _ _ _ _ _ _ _ _ _ _ _ _ _ _ _ _ _ _ _ _ _ _ _ _ _ _ _ _ _ _ _ _ _ _ _ _
  ·have c0:=aB.len
   have aZ:((h.len:Int) == 0)=false:=by simp;omega
   have ag:=Hd aq;have ai:=Hd aC;have HP:=Hd Z;have HQ:=Hd hQ;clear aB aq aC Z hQ;have aP:Da h=h.st:=by unfold Da;rw[if_neg h0]
   have aJ:wc.rowIs P 162 8 (λj=>.int .u32 (Da h j)):=by rw[aP];exact HP.out
   have ah:=Hd aJ;clear HP aJ aP
   go_upto_region 6 with fail
   have xk:(wc).cell? ⟨Q,m,none⟩=some _:=HQ.out.cell qo;have xf:=HQ.out.frozen m;have aW:(m:Int)<64:=qo
   go_upto_region 7 with fail
   obtain⟨s,ad⟩:=eR ((wc).setCell ⟨Q,m,none⟩ (.int .u8 128))
   have J:s.rowIs Q 163 64 (λj=>.int .u8 (if j=m then 128 else h.rest j)):=by
    rw[<-ad];exact(HQ.out.set m (.int .u8 128)).congr (λj k=>by by_cases e:j=m <;> simp[e])
   have f6:Fr [Q] (wc) s:=by rw[<-ad];exact(Fq [Q] _).set (p:=⟨Q,m,none⟩) qs _
   rw[ad];clear ad xk xf
   by_cases aA:m=63
   ·have q7:s.rowIs Q 163 64 (λj=>.int .u8 (CO h j)):=J.congr (λj k=>BC hm aA k)
    have D:∀(af:Option Addr) (c:Nat) (ty:TypeId),(Builtin.clear_ #[49] ty #[.slice af 0 c]).run prog s=.ok (.tuple #[]) s:=λaf c ty=>by cases af <;> simp[Builtin.clear_,run_underlying (P:=prog) (t:=49) (d:=.slice 5) qk]
    subst aA;have G:=Hd q7;have r:=Hd f6;clear J q7 f6
    go_upto_region 8 with fail
    clear D
    have N:=Hd (ag.out.trans r.out (by simpa using E));have aj:=Hd (L.fr0 N.out);have P8:=Hd (eS ah.out r.out (by simpa using l));have R8:=Hd (eS ai.out r.out (by simpa using λe=>F e.symm))
    go_upto_region 9 with fail
    go_upto_region 10 with((go_at_call 144;refine(jw P Q _ _ (s) aj.out P8.out G.out).mono ?_;rintro e o ⟨rfl,ac,A⟩))
    have ak:=Hd ac;have C:=eS G.out A (by simpa using λe=>l e.symm);have r8:=eS R8.out A (by simpa using λe=>aa e.symm);have X:=N.out.trans A (by simpa using Y)
    have D:∀(c:Nat) (ty:TypeId),(Builtin.clear_ #[49] ty #[.slice (some ⟨Q,0,none⟩) 64 c]).run prog o=.ok (.tuple #[]) (o.setCells Q 0 (List.replicate 64 (.int .u8 0))):=λc ty =>
     Lib.run_clear_slice o 49 5 ty (.int .u8 0) qk (λ_=>by rfl) rfl rfl Q 0 64 c qo (λj k=>by rw[C.cell qo];rfl) (λj k=>C.frozen _)
    obtain⟨y,z⟩:=eR (o.setCells Q 0 (List.replicate 64 (.int .u8 0)))
    have q9:y.rowIs Q 163 64 (λj=>.int .u8 (kG h j)):=by
     rw[<-z];exact gy C qs (λj k=>by unfold kG;rw[if_pos qo,List.getElem?_replicate,if_pos k])
    have B:Fr [Q] o y:=by rw[<-z];exact(Fq [Q] _).setCells qs _ _
    rw[z]at D;have n:=Hd (X.trans B (by simpa using E));have O:=Hd (L.fr0 n.out);have R:Hid (y.rowIs P 162 8 (λj=>.int .u32 (tY h j))):=Hd ((eS ak.out B (by simpa using l)).congr (λj k=>by unfold tY;rw[if_pos qo]));have T:=Hd q9;have U:=Hd (eS r8 B (by simpa using λe=>F e.symm));have c9:=(HH.out.fr n.out qs).len;clear ac C r8 X q9 B z A
    go_upto_block 0 with fail
    refine j9 _ w (y) w.heap.size P Q (8*(h.len:Int)) (tY h) (kG h) fR O.out R.out T.out U.out l aa F ar Y E (fV _) n.out qo qo _ _ rfl rfl (by assumption) _ _ _ _ _ _ _ _ _ _ _ _ _ _ _ _ _ _ _ _ _ _ _ _ _ _ _ _ _ _ _ _ _ _ _ _ _ _ _ _ _ _ _ _ _ _ _ _ _ _ _ _ _ _ _ _ _ _ _ _ _ _ _ _ _ _ _ _ _ _ _ _ _ _ _ _ _ _ _ _ _ _ _ _ _ _ _ _ _
   ·have D:∀(c:Nat) (ty:TypeId),(Builtin.clear_ #[49] ty #[.slice (some ⟨Q,m+1,none⟩) (63 - m) c]).run prog s=.ok (.tuple #[]) (s.setCells Q (m+1) (List.replicate (63 - m) (.int .u8 0))):=λc ty =>
     Lib.run_clear_slice s 49 5 ty (.int .u8 0) qk (λ_=>by rfl) rfl rfl Q (m+1) (63 - m) c qo (λj k=>by rw[J.cell qo];rfl) (λj k=>J.frozen _)
    obtain⟨H,ae⟩:=eR (s.setCells Q (m+1) (List.replicate (63 - m) (.int .u8 0)))
    have q7:H.rowIs Q 163 64 (λj=>.int .u8 (CO h j)):=by
     rw[<-ae];exact(rowIs_setCells _ _ _ _ J).congr (λj k=>sR hm qo k)
    have f7:Fr [Q] (wc) H:=by rw[<-ae];exact f6.setCells qs _ _
    rw[ae]at D;have G:=Hd q7;have r:=Hd f7;clear J q7 f6 f7 ae;have i1:(m:Int)+1<=64:=qo
    have i2:(0:Int)<=(m:Int)+1:=qo
    have i3:((m:Int)+1).toNat=m+1:=qo
    have i4:¬(64=m+1):=qo
    have i5:¬(m=63):=qo
    go_upto_region 8 with fail
    clear i1 i2 i3 i4 i5;clear D
    by_cases aS:56<=m
    ·have aT:(56:Int)<=((m:Nat):Int):=qo
     have N:=Hd (ag.out.trans r.out (by simpa using E));have aj:=Hd (L.fr0 N.out);have P8:=Hd (eS ah.out r.out (by simpa using l));have R8:=Hd (eS ai.out r.out (by simpa using λe=>F e.symm))
     go_upto_region 9 with fail
     go_upto_region 10 with((go_at_call 144;refine(jw P Q _ _ (H) aj.out P8.out G.out).mono ?_;rintro e o ⟨rfl,ac,A⟩))
     have ak:=Hd ac;have C:=eS G.out A (by simpa using λe=>l e.symm);have r8:=eS R8.out A (by simpa using λe=>aa e.symm);have X:=N.out.trans A (by simpa using Y)
     have D:∀(c:Nat) (ty:TypeId),(Builtin.clear_ #[49] ty #[.slice (some ⟨Q,0,none⟩) 64 c]).run prog o=.ok (.tuple #[]) (o.setCells Q 0 (List.replicate 64 (.int .u8 0))):=λc ty =>
      Lib.run_clear_slice o 49 5 ty (.int .u8 0) qk (λ_=>by rfl) rfl rfl Q 0 64 c qo (λj k=>by rw[C.cell qo];rfl) (λj k=>C.frozen _)
     obtain⟨y,z⟩:=eR (o.setCells Q 0 (List.replicate 64 (.int .u8 0)))
     have q9:y.rowIs Q 163 64 (λj=>.int .u8 (kG h j)):=by
      rw[<-z];exact gy C qs (λj k=>by unfold kG;rw[if_pos qo,List.getElem?_replicate,if_pos k])
     have B:Fr [Q] o y:=by rw[<-z];exact(Fq [Q] _).setCells qs _ _
     rw[z]at D;have n:=Hd (X.trans B (by simpa using E));have O:=Hd (L.fr0 n.out);have R:Hid (y.rowIs P 162 8 (λj=>.int .u32 (tY h j))):=Hd ((eS ak.out B (by simpa using l)).congr (λj k=>by unfold tY;rw[if_pos qo]));have T:=Hd q9;have U:=Hd (eS r8 B (by simpa using λe=>F e.symm));have c9:=(HH.out.fr n.out qs).len;clear ac C r8 X q9 B z A
     go_upto_block 0 with fail
     refine j9 _ w (y) w.heap.size P Q (8*(h.len:Int)) (tY h) (kG h) fR O.out R.out T.out U.out l aa F ar Y E (fV _) n.out qo qo _ _ rfl rfl (by assumption) _ _ _ _ _ _ _ _ _ _ _ _ _ _ _ _ _ _ _ _ _ _ _ _ _ _ _ _ _ _ _ _ _ _ _ _ _ _ _ _ _ _ _ _ _ _ _ _ _ _ _ _ _ _ _ _ _ _ _ _ _ _ _ _ _ _ _ _ _ _ _ _ _ _ _ _ _ _ _ _ _ _ _ _ _ _ _ _ _
    ·have aV:¬(56:Int)<=((m:Nat):Int):=qo
     have n:=Hd (ag.out.trans r.out (by simpa using E));have O:=Hd (L.fr0 n.out);have R:Hid (((H):World).rowIs P 162 8 (λj=>.int .u32 (tY h j))):=Hd ((eS ah.out r.out (by simpa using l)).congr (λj k=>by unfold tY;rw[if_neg qo]));have T:Hid (((H):World).rowIs Q 163 64 (λj=>.int .u8 (kG h j))):=Hd (G.out.congr (λj k=>by unfold kG;rw[if_neg qo]));have U:=Hd (eS ai.out r.out (by simpa using λe=>F e.symm));have c9:=(HH.out.fr n.out qs).len
     go_upto_block 0 with fail
     refine j9 _ w (H) w.heap.size P Q (8*(h.len:Int)) (tY h) (kG h) fR O.out R.out T.out U.out l aa F ar Y E (fV _) n.out qo qo _ _ rfl rfl (by assumption) _ _ _ _ _ _ _ _ _ _ _ _ _ _ _ _ _ _ _ _ _ _ _ _ _ _ _ _ _ _ _ _ _ _ _ _ _ _ _ _ _ _ _ _ _ _ _ _ _ _ _ _ _ _ _ _ _ _ _ _ _ _ _ _ _ _ _ _ _ _ _ _ _ _ _ _ _ _ _ _ _ _ _ _ _ _ _ _ _
theorem Dd{c:Array Value}{n:Nat}{f:Nat->Value}(h:c=((List.range n).map f).toArray):c.size=n/\∀i,i<n->c[i]?=some (f i):=by
 subst h;refine⟨qs,λi a=>?_⟩;simp[a]
def hash0:HS:=⟨0,λ_=>0,λ_=>0⟩
theorem BF(w:World):HashAt (w.alloc (.cells Tryz.zeroCells165 165)) w.heap.size hash0:=by
 have h:=Dd (c:=Tryz.zeroCells165) (n:=73) (f:=j0 hash0) qk;exact World.rowIs_alloc w _ _ _ h.2
def lS(l:Nm):Nm:=Db (if l.length=0 then hash0 else ji ⟨0,iv,λ_=>0⟩ l)
theorem wV(h:HS)(l:List UInt8):(ji h l).len=h.len+l.length:=by
 generalize d:l.length=n
 induction n using Nat.strongRecOn generalizing h l with
 | _ n b =>
  by_cases a:l.length=0
  ·rw[List.eq_nil_of_length_eq_zero a,lu]
   omega
  ·have c:=mA h l
   rw[jN a,b (l.drop (hn h l)).length (by rw[List.length_drop];omega) _ _ rfl,List.length_drop];unfold mZ;simp only;omega
theorem gV(d:Nm):(eP d).toArray.size=d.length:=by simp[eP]
theorem fw(l:Nm):(lS l).length=32:=by simp[lS,Db,yU]
theorem eU(d:Nm):(eP d).length=d.length:=by simp[eP]
theorem gL(d:Nm):∀v∈eP d,v.oneCell'=true:=by
 intro v a;obtain⟨x,_,rfl⟩:=List.mem_map.1 a;rfl
theorem iy{d:Nm}{j:Nat}(a:j<d.length):(eP d)[j]?=some (.int .u8 ((d.getD j 0).toNat:Int)):=by
 unfold eP;rw[List.getElem?_map,gx a,Option.map_some,List.getD_eq_getElem?_getD,gx a];rfl
theorem fh{w:World}{b:Nat}{t:TypeId}{f:Nat->Value}{d:Nm}(i:w.rowIs b t 32 f)(c:d.length=32):(w.setCells b 0 (eP d)).rangeAt b 0 (eP d)/\(w.setCells b 0 (eP d)).rowIs b t 32 (λj=>.int .u8 ((d.getD j 0).toNat:Int)):=by
 have a:=gy i (vs:=eP d) (g:=λj=>.int .u8 ((d.getD j 0).toNat:Int)) (by simp[eP,c]) (λj e=>iy qo);refine⟨λj v h=>?_,a⟩;have e:j<32:=by have:=(i9.1 h).1;simpa [eP,c]using this
 rw[Nat.zero_add,a.cell e,<-h,iy qo]
theorem fc{w:World}{b:Nat}{t:TypeId}{f:Nat->Value}{d:Nm}(h:w.rowIs b t 32 f)(i:d.length=32):(storeCells ⟨b,0,none⟩ (eP d)).run prog w=.ok () (w.setCells b 0 (eP d)):=by
 have g:=iE h (fV 32);have c:(eP d).length=32:=by simp[eP,i]
 have e:=run_storeCells_cells (P:=prog) b 0 (eP d) 0 w (by rw[c];exact λj a=>(g j a).1) (by rw[c];exact λj a=>(g j a).2) (gL d);simp only[Nat.add_zero]at e;exact e
theorem uU(l:Nm)(w:World)(m:Ok w)(y:l.length<=1152921504606846976):Calls prog 29 #[ft l] w (gh w (lS l)):=by
 obtain⟨g,a⟩:=eR (w.alloc (.cells qm 57));obtain⟨w2,c⟩:=eR (g.alloc (.cells Tryz.zeroCells165 165));have h:∃f,g.rowIs w.heap.size 57 32 f:=by rw[<-a];exact⟨_,gn w _ _⟩
 obtain⟨M,h⟩:=h;have A:g.heap.size=w.heap.size+1:=by rw[<-a,kX]
 have j:HashAt w2 g.heap.size hash0:=by rw[<-c];exact BF g
 have u:w2.rowIs w.heap.size 57 32 M:=by rw[<-c];exact h.alloc _
 have r:Fr [] w w2:=by rw[<-c,<-a];exact((Fq [] w).alloc _).alloc _
 rw[A]at j;have V:=m.low;have K:=Hd a;have L:=Hd c;have E:=Hd j;have H:=Hd u;have n:=Hd r;clear a c h j u r A
 go_enter func29,ntmps29
 go_wp2_with fail
 rw[K.out,L.out];refine(yT (w.heap.size+1) l hash0 w2 (m.fr0 n.out) qo y E.out rfl).mono ?_;rintro e C ⟨rfl,P,s⟩;have Q:=eS H.out s qs;have N:Fr [] w C:=n.out.trans s qs
 have k:(if l.length=0 then hash0 else ji ⟨0,iv,hash0.rest⟩ l).len=l.length:=by
  by_cases i:l.length=0
  ·rw[if_pos i,i];rfl
  ·rw[if_neg i,wV];simp
 have F:=Hd P;have I:=Hd Q;have q:=Hd N;have G:=Hd k
 go_wp2_with fail
 refine(Dc (w.heap.size+1) _ C (m.fr0 q.out) qo (by rw[G.out];exact y) F.out).mono ?_;rintro e T ⟨rfl,t⟩;have R:Db (if l.length=0 then hash0 else ji ⟨0,iv,hash0.rest⟩ l)=lS l:=rfl;rw[R];have x:=eS I.out t qs;have S:=fc x (fw l);have z:=fh x (fw l);obtain⟨U,B⟩:=eR (T.setCells w.heap.size 0 (eP (lS l)));have O:Fr [] w U:=by rw[<-B];exact(q.out.then t).setCells (.inr (fV _)) _ _
 rw[B]at S z;have J:=Hd z.1;have D:=Hd O;have k:=gV (lS l);rw[fw]at k;unfold fu
 go_wp2_with fail
 exact bodyPost_ret (v:=fu (lS l)) (fy (d:=.array 32 5) (p:=2) (ty:=57) (b:=w.heap.size) (o:=0) rfl rfl J.out qk rfl (by rw[eU,fw];rfl)) rfl ⟨rfl,D.out⟩
theorem sn(l:Nm):strOfNums (l.map λc=>(c.toNat:Int))=⟨l.toArray⟩:=by
 unfold strOfNums
 congr 1
 rw[List.map_map]
 congr 1
 conv=>rhs;rw[<-List.map_id l]
 apply List.map_congr_left
 intro c _;simp
theorem fa{P:Program}{w:World}{B n:Nat}{A:Option Addr}{l:Nm}(k:Row w B 1 A n (eP l))(f e:TypeId)(j:P.underlying f=some (.slice e))(h:P.underlying e=some (.int .u8))(d:TypeId)(g:P.underlying d=some .string)(c:Nat):
 (convert f d (.slice A n c)).run P w=.ok (ft l) w:=by
 have o:l.length=n:=by have:=k.1;rw[eU]at this;omega
 by_cases p:n=0
 ·obtain rfl:l=[]:=List.eq_nil_of_length_eq_zero qo
  subst p
  cases A with
  | none=>exact run_convert_bytes_nil w f e j h 0 c d g
  | some a =>
   rw[run_convert_bytes_string w f d e _ 0 c j h g,run_bytesToString w a 0 c [] (by simpa using run_loadCells_list (P:=P) w a [] qs)];rfl
 ·obtain⟨b,off,rfl,_,m⟩:=k.2 qo
  rw[run_convert_bytes_arg w f e j h b off n c (l.map λx=>(x.toNat:Int)) (by simpa using o) (λi q=>?_) d g,sn]
  ·rfl
  ·rw[m i _ (iy qo)]
   rw[List.getD_eq_getElem?_getD,List.getD_eq_getElem?_getD,List.getElem?_map,gx qo];rfl
theorem gY(a b:Nm):eP (a++b)=eP a++eP b:=by simp[eP]
def Fb(n:Nat):Nm:=[UInt8.ofNat (n / 16777216),UInt8.ofNat (n / 65536),UInt8.ofNat (n / 256),UInt8.ofNat n]
def kL(a:List Nm):Nm:=a.flatMap λp=>Fb p.length++p
def kn(b:UInt8)(a:List Nm):Nm:=[b,UInt8.ofNat a.length]++kL a
def iJ(a:List Nm):Nat:=(a.map λp=>4+p.length).sum
theorem zo(a:List Nm):(kL a).length=iJ a:=by
 induction a with
 | nil=>rfl
 | cons p r b =>
  unfold kL iJ at *;rw[List.flatMap_cons,gG,b,List.map_cons,List.sum_cons,gG];simp[Fb]
theorem wW(a:List Nm)(p:Nm):iJ (a++[p])=iJ a+(4+p.length):=by simp[iJ]
theorem wX(a:List Nm)(p:Nm):kL (a++[p])=kL a++(Fb p.length++p):=by simp[kL]
theorem np{α:Type}{l:List α}{k:Nat}{x:α}(h:l[k]?=some x):l.take (k+1)=l.take k++[x]:=by
 rw[List.take_succ,h];rfl
theorem rh{a:List Nm}{k:Nat}{p:Nm}(h:a[k]?=some p):iJ (a.take (k+1))=iJ (a.take k)+(4+p.length):=by rw[np h,wW]
theorem wZ{a:List Nm}{k:Nat}{p:Nm}(h:a[k]?=some p):kL (a.take (k+1))=kL (a.take k)++(Fb p.length++p):=by rw[np h,wX]
theorem rj(a:List Nm)(k:Nat):iJ (a.take k)<=iJ a:=by
 conv=>rhs;rw[<-List.take_append_drop k a]
 unfold iJ;rw[List.map_append,List.sum_append];omega
theorem zu(n:Nat):eP (Fb n)=[.int .u8 ((n:Int) / 16777216 % 256),.int .u8 ((n:Int) / 65536 % 256),.int .u8 ((n:Int) / 256 % 256),.int .u8 ((n:Int) % 256)]:=by
 unfold Fb eP;simp only[List.map_cons,List.map_nil,UInt8.toNat_ofNat']
 congr 2
theorem Row.str{w:World}{B n k:Nat}{A:Option Addr}{c:List Nm}(h:Row w B 1 A n (c.map ft))(m:k<n):∃b off p s,A=some ⟨b,off,none⟩/\b<B/\c[k]?=some p/\ft p=.string s/\s.data.toList=p/\s.size=p.length/\w.cell? ⟨b,off+k,none⟩=some (.string s):=by
 obtain⟨b,off,u,i,j,a,l⟩:=h.at1 m;rw[List.getElem?_map]at a
 cases e:c[k]? with
 | none=>rw[e]at a;simp at a
 | some p =>
  rw[e]at a;simp only[Option.map_some,Option.some.injEq]at a;obtain⟨s,d,f,g⟩:=eT p;exact⟨b,off,p,s,i,j,rfl,d,f,g,by rw[l,<-a,d]⟩
def eV(A:Option Addr):List Nat:=(A.map Addr.block).toList
theorem ox{A:Option Addr}{n c k:Nat}:(Value.slice A n c).ownBlock=some k ↔ k∈eV A:=by
 cases A with
 | none=>simp[eV,Value.ownBlock]
 | some a=>simp[eV,Value.ownBlock];exact eq_comm
def Own(w:World)(e:TypeId)(size:Nat)(A:Option Addr)(n c:Nat)(xs:List Value):Prop:=w.ownsRow 0 e size (.slice A n c) n xs
section
variable {w w':World} {e:TypeId} {size n c:Nat} {A A':Option Addr} {xs:List Value} {S:List Nat}
theorem Own.nil(w:World)(e:TypeId)(size:Nat):Own w e size none 0 0 []:=World.ownsRow_nil w 0 e size
theorem Own.fr(h:Own w e size A n c xs)(d:Fr S w w')(b:∀k∈eV A,k ∉ S):Own w' e size A n c xs:=Ew h d (by
 intro k f;exact b k (ox.1 f))
theorem Own.alloc(h:Own w e size A n c xs)(o:Obj):Own (w.alloc o) e size A n c xs:=World.ownsRow.alloc h o
theorem Own.len(h:Own w e size A n c xs):xs.length=n*size:=h.1
theorem Own.row(h:Own w e size A n c xs):Row w w.heap.size size A n xs:=Row.of_own (base:=0) h
theorem Own.lt(h:Own w e size A n c xs):∀k∈eV A,k<w.heap.size:=by
 intro k b;exact(World.ownsRow.lt h k (ox.2 b)).2
theorem Own.le_cap(h:Own w e size A n c xs):n<=c:=by
 rcases h.2 with⟨b,d⟩|⟨g,f,i,b,_,_,d,_⟩
 ·injection b;omega
 ·injection b;omega
end
theorem Fr.of_grown{w w':World}{A:Option Addr}{n c:Nat}(h:w.grownBy w' (Value.slice A n c).ownBlock):Fr (eV A) w w' :=
 ⟨h.os,h.tape,h.output,h.size,λk b d=>h.block k b (λe=>d (ox.1 e.symm))⟩
section
variable {P:Program} (w:World)
theorem De(t ty e:TypeId)(i:TypeInfo)(z:Value)(size r:Nat)(y:P.underlying t=some (.slice e))(s:P.info? e=some i)(K:i.zero=some z)
 (I:i.size=size) (F:i.bytes=r) (O:z.cells.size=size) (N:0<size)
 (A:Option Addr) (n c:Nat) (xs:List Value) (q:Own w e size A n c xs)
 (a:Addr) (m h:Nat) (f:List Value) (p:f.length=m*size) (v:∀j u,f[j]?=some u->w.cell? (a.add j)=some u) (C:∀u∈f,u.oneCell'=true)
 (D:n+m<=maxLen) (G:(n+m)*r<=140737488355328) :
 ∃A' c' w',(Builtin.append_ #[t,t] ty #[.slice A n c,.slice (some a) m h]).run P w=.ok (.slice A' (n+m) c') w'/\Own w' e size A' (n+m) c' (xs++f)/\Fr (eV A) w w'/\∀k∈eV A',k∈eV A \/ w.heap.size<=k:=by
 obtain⟨v',w',x,L,U,Z⟩:=run_append_own (P:=P) w 0 t ty e i z size r y s K I F O N (.slice A n c) n xs q a m h f p v C D G (Nat.zero_le _);obtain⟨A',c',rfl,ab⟩:=nN L;refine⟨A',c',w',x,L,Fr.of_grown U,?_⟩
 rcases q.2 with⟨J,X⟩|⟨g,Y,R,J,_,W,aa,_,V,_⟩
 ·injection J with E _ H
  subst E X H;obtain⟨v2,w2,d,T,_,_⟩:=run_append_own (P:=P) w w.heap.size t ty e i z size r y s K I F O N gz 0 xs ⟨q.1,.inl ⟨rfl,rfl⟩⟩ a m h f p v C D G (fV _);rw[x]at d
  injection d with b B
  subst b B;intro k l;exact .inr (nO T k (ox.2 l))
 ·injection J with E _ H
  subst E H;subst I
  by_cases M:n+m<=c
  ·have d:=run_append_room (P:=P) w t ty e i y s g n c R W a m h f p v C M (by rw[p,V,<-Nat.add_mul];exact Nat.mul_le_mul_right _ M)
   rw[x]at d
   injection d with b B
   injection b with b
   subst b;intro k l;exact .inl l
  ·have d:=run_append_grow (P:=P) w t ty e i z y s K ⟨g,0,none⟩ n c xs q.1 (q.cells (g:=g) rfl) a m h f p v qo (by simp only[maxLen]at D;omega) (growslice_fits qo (by rw[F];exact G))
   rw[x]at d
   injection d with b B
   injection b with b
   subst b;intro k l;simp only[eV,Option.map_some,Option.toList_some,gI]at l;exact .inr qo
theorem uV(t u ty e:TypeId)(i:TypeInfo)(p:P.underlying t=some (.slice e))(q:P.underlying u=some .string)(j:P.info? e=some i)(C:i.zero=some (.int .u8 0))
 (m:i.size=1) (y:i.bytes=1)
 (A:Option Addr) (n c:Nat) (xs:List Value) (h:Own w e 1 A n c xs) (s:ByteArray)
 (v:n+s.size<=maxLen) (E:n+s.size<=140737488355328) :
 ∃A' c' w',(Builtin.append_ #[t,u] ty #[.slice A n c,.string s]).run P w=.ok (.slice A' (n+s.size) c') w'/\Own w' e 1 A' (n+s.size) c' (xs++eP s.data.toList)/\Fr (eV A) w w'/\∀k∈eV A',k∈eV A \/ w.heap.size<=k:=by
 obtain⟨T,w',l,D,H,M⟩:=Lib.run_append_own_string (P:=P) w 0 t u ty e i p q j C m y (.slice A n c) n xs h s v E (Nat.zero_le _);obtain⟨A',c',rfl,R⟩:=nN D;refine⟨A',c',w',l,D,Fr.of_grown H,?_⟩
 rcases h.2 with⟨B,J⟩|⟨g,L,F,B,_,I,O,_,N,_⟩
 ·injection B with x _ z
  subst x J z;obtain⟨U,w2,d,G,_,_⟩:=Lib.run_append_own_string (P:=P) w w.heap.size t u ty e i p q j C m y gz 0 xs ⟨h.1,.inl ⟨rfl,rfl⟩⟩ s v E (fV _);rw[l]at d
  injection d with b r
  subst b r;intro k f;exact .inr (nO G k (ox.2 f))
 ·injection B with x _ z
  subst x z
  by_cases K:n+s.size<=c
  ·have d:=Lib.run_append_room_string (P:=P) w t u ty e i p q j m g n c F I s K qo
   rw[l]at d
   injection d with b r
   injection b with b
   subst b;intro k f;exact .inl f
  ·have d:=Lib.run_append_grow_string (P:=P) w t u ty e i _ p q j C ⟨g,0,none⟩ n c xs (by rw[m];exact h.1) (h.cells (g:=g) rfl) s qo (by simp only[maxLen]at v;omega) (growslice_fits qo (by rw[y];omega))
   rw[l]at d
   injection d with b r
   injection b with b
   subst b;intro k f;simp only[eV,Option.map_some,Option.toList_some,gI]at f;exact .inr qo
end
section
variable {P:Program} {ops:Array Oper} {rest:List Oper} {o:Oper} {a:Act} {Q:Exit->Act->World->Prop}
theorem gF{w:World}{K:Act->World->Prop}(s x:Operand)(t:TypeId)(F:o.op=.call { callee:=.builtin .append,args:=#[s,x],argTypes:=#[t,t] })
 (e:TypeId) (i:TypeInfo) (z:Value) (size f:Nat) (M:P.underlying t=some (.slice e)) (C:P.info? e=some i) (O:i.zero=some z) (J:i.size=size) (y:i.bytes=f) (R:z.cells.size=size) (L:0<size)
 (A:Option Addr) (n c:Nat) (xs:List Value) (I:a.eval s=.slice A n c) (G:Own w e size A n c xs)
 (d:Addr) (m g:Nat) (b:List Value) (N:a.eval x=.slice (some d) m g) (D:b.length=m*size) (E:∀j u,b[j]?=some u->w.cell? (d.add j)=some u) (l:∀u∈b,u.oneCell'=true)
 (v:n+m<=maxLen) (B:(n+m)*f<=140737488355328)
 (h:∀A' c' w',Own w' e size A' (n+m) c' (xs++b)->Fr (eV A) w w'->(∀k∈eV A',k∈eV A \/ w.heap.size<=k)->K (a.put o.dst (.slice A' (n+m) c')) w'):o.wp P a w K Q:=by
 obtain⟨A',c',w',H,p,q,r⟩:=De (P:=P) w t o.type e i z size f M C O J y R L A n c xs G d m g b D E l v B;unfold Oper.wp execOp;simp only[F,resolve,invoke,builtin,Sem.run_bind,Sem.run_pure,Result.andThen_ok,List.map_toArray,List.map_cons,List.map_nil,I,N,H];exact h A' c' w' p q r
theorem fx(b j:Nat):(⟨b,0,none⟩:Addr).add j=⟨b,j,none⟩:=by rw[Addr.add_mid,Nat.zero_add]
theorem kf(w:World)(cs:List Value)(t:TypeId):∀j u,cs[j]?=some u->(w.alloc (.cells cs.toArray t)).cell? ((⟨w.heap.size,0,none⟩:Addr).add j)=some u:=by
 intro j u b;rw[fx,(BoxN.new w t cs.toArray).c j];simpa using b
theorem lz{w:World}{K:Act->World->Prop}(s x:Operand)(t:TypeId)(F:o.op=.call { callee:=.builtin .append,args:=#[s,x],argTypes:=#[t,t] })
 (e:TypeId) (i:TypeInfo) (z:Value) (size d:Nat) (L:P.underlying t=some (.slice e)) (C:P.info? e=some i) (N:i.zero=some z) (I:i.size=size) (y:i.bytes=d) (O:z.cells.size=size) (J:0<size)
 (A:Option Addr) (n c:Nat) (xs:List Value) (H:a.eval s=.slice A n c) (G:Own w e size A n c xs)
 (m g:Nat) (b:List Value) (f:TypeId) (M:a.eval x=.slice (some ⟨w.heap.size,0,none⟩) m g) (E:b.length=m*size) (j:∀u∈b,u.oneCell'=true)
 (v:n+m<=maxLen) (B:(n+m)*d<=140737488355328)
 (h:∀A' c' w',Own w' e size A' (n+m) c' (xs++b)->Fr (eV A) w w'->(∀k∈eV A',k∈eV A \/ w.heap.size<=k)->K (a.put o.dst (.slice A' (n+m) c')) w'):o.wp P a (w.alloc (.cells b.toArray f)) K Q :=
 gF (w:=w.alloc (.cells b.toArray f)) s x t F e i z size d L C N I y O J A n c xs H (G.alloc _) ⟨w.heap.size,0,none⟩ m g b M E (kf w b f) j v B λA' c' w' l p q =>
  h A' c' w' l (((Fq (eV A) w).alloc _).then p) λk D=>(q k D).imp id λr=>by rw[kX]at r;omega
theorem xa{w:World}{K:Act->World->Prop}(s x:Operand)(t u:TypeId)(q:o.op=.call { callee:=.builtin .append,args:=#[s,x],argTypes:=#[t,u] })
 (e:TypeId) (i:TypeInfo) (B:P.underlying t=some (.slice e)) (C:P.underlying u=some .string) (p:P.info? e=some i) (E:i.zero=some (.int .u8 0)) (z:i.size=1) (l:i.bytes=1)
 (A:Option Addr) (n c:Nat) (xs:List Value) (y:a.eval s=.slice A n c) (r:Own w e 1 A n c xs) (b:ByteArray) (D:a.eval x=.string b)
 (j:n+b.size<=maxLen) (m:n+b.size<=140737488355328)
 (h:∀A' c' w',Own w' e 1 A' (n+b.size) c' (xs++eP b.data.toList)->Fr (eV A) w w'->(∀k∈eV A',k∈eV A \/ w.heap.size<=k)->K (a.put o.dst (.slice A' (n+b.size) c')) w'):o.wp P a w K Q:=by
 obtain⟨A',c',w',v,d,f,g⟩:=uV (P:=P) w t u o.type e i B C p E z l A n c xs r b j m;unfold Oper.wp execOp;simp only[q,resolve,invoke,builtin,Sem.run_bind,Sem.run_pure,Result.andThen_ok,List.map_toArray,List.map_cons,List.map_nil,y,D,v];exact h A' c' w' d f g
theorem fp{w:World}(C:o.guard=none)(s x:Operand)(t:TypeId)(F:o.op=.call { callee:=.builtin .append,args:=#[s,x],argTypes:=#[t,t] })
 (e:TypeId) (i:TypeInfo) (z:Value) (size d:Nat) (K:P.underlying t=some (.slice e)) (D:P.info? e=some i) (M:i.zero=some z) (I:i.size=size) (y:i.bytes=d) (N:z.cells.size=size) (J:0<size)
 (A:Option Addr) (n c:Nat) (xs:List Value) (H:a.eval s=.slice A n c) (G:Own w e size A n c xs)
 (m f:Nat) (b:List Value) (g:TypeId) (L:a.eval x=.slice (some ⟨w.heap.size,0,none⟩) m f) (E:b.length=m*size) (j:∀u∈b,u.oneCell'=true)
 (r:n+m<=maxLen) (B:(n+m)*d<=140737488355328)
 (h:∀A' c' w',Own w' e size A' (n+m) c' (xs++b)->Fr (eV A) w w'->(∀k∈eV A',k∈eV A \/ w.heap.size<=k)->wpList P ops Q rest (a.put o.dst (.slice A' (n+m) c')) w'):wpList P ops Q (o::rest) a (w.alloc (.cells b.toArray g)) :=
 wpList_plain C λ_ v=>lz s x t F e i z size d K D M I y N J A n c xs H G m f b g L E j r B λA' c' w' l p q=>v _ _ (h A' c' w' l p q)
theorem l8{w:World}(q:o.guard=none)(s x:Operand)(t u:TypeId)(v:o.op=.call { callee:=.builtin .append,args:=#[s,x],argTypes:=#[t,u] })
 (e:TypeId) (i:TypeInfo) (C:P.underlying t=some (.slice e)) (D:P.underlying u=some .string) (r:P.info? e=some i) (F:i.zero=some (.int .u8 0)) (B:i.size=1) (m:i.bytes=1)
 (A:Option Addr) (n c:Nat) (xs:List Value) (z:a.eval s=.slice A n c) (y:Own w e 1 A n c xs) (b:ByteArray) (E:a.eval x=.string b)
 (j:n+b.size<=maxLen) (p:n+b.size<=140737488355328)
 (h:∀A' c' w',Own w' e 1 A' (n+b.size) c' (xs++eP b.data.toList)->Fr (eV A) w w'->(∀k∈eV A',k∈eV A \/ w.heap.size<=k)->wpList P ops Q rest (a.put o.dst (.slice A' (n+b.size) c')) w'):wpList P ops Q (o::rest) a w :=
 wpList_plain q λ_ l=>xa s x t u v e i C D r F B m A n c xs z y b E j p λA' c' w' d f g=>l _ _ (h A' c' w' d f g)
end
theorem oy:∃i,(prog).info? 5=some i/\i.zero=some (.int .u8 0)/\i.size=1/\i.bytes=1:=info_parts qk
end Go.Proofs.YtlpmiimgacfmkaaGreatDoor
