/- A block of known cells. -/
import Derived.Maps.OwnSet
import Derived.RangeFuncSeq
import Derived.RangeFuncRecord
import Derived.Lib.LazyBuf
import Derived.Lib.SliceRun
import Derived.Deep.MidRow
import Derived.Test.YtlpmiimgacfmkaaGreatDoorRBase
set_option linter.all false
namespace Go.Proofs.YtlpmiimgacfmkaaGreatDoor
open Go.RowKit
def BoxN (W:World) (B:Nat) (t:TypeId) (cs:Array Value):Prop:=W.heap[B]?=some (.cells cs t (0,0))
section
variable {W W':World} {B:Nat} {t:TypeId} {cs:Array Value}
theorem BoxN.lt (h:BoxN W B t cs):B<W.heap.size:=(Array.getElem?_eq_some_iff.1 h).1
theorem BoxN.c (h:BoxN W B t cs) (j:Nat):W.cell? ⟨B,j,none⟩=cs[j]?:=by simp[World.cell?,show W.heap[B]?=_ from h]
theorem BoxN.f (h:BoxN W B t cs) (j:Nat):W.frozen? ⟨B,j,none⟩=false:=by simp[World.frozen?,show W.heap[B]?=_ from h]
theorem BoxN.new (W:World) (t:TypeId) (cs:Array Value):BoxN (W.alloc (.cells cs t)) W.heap.size t cs:=World.alloc_heap_new W _
theorem BoxN.kept {row:Option Nat} (h:BoxN W B t cs) (hg:W.grownBy W' row) (hne:some B≠row):BoxN W' B t cs:=(hg.block B h.lt hne).trans h
theorem BoxN.alloc (h:BoxN W B t cs) (o:Obj):BoxN (W.alloc o) B t cs:=h.kept (World.grownBy_alloc W o none) (by simp)
theorem BoxN.later (h:BoxN W B t cs) (hb:Below W.heap.size W W'):BoxN W' B t cs:=(hb.block B h.lt).trans h
theorem BoxN.not_row (h:BoxN W B t cs) {e:TypeId} (hte:t≠e) {base size k:Nat} {x:Value} {xs:List Value} (hr:W.ownsRow base e size x k xs):some B≠x.ownBlock:=by
 rcases hr.2 with ⟨rfl,_⟩ | ⟨g,cap,cur,rfl,_,hgb,_⟩
 ·simp[Value.ownBlock]
 ·intro e'
  obtain rfl:B=g:=by simpa [Value.ownBlock] using e'
  have:=(show W.heap[B]?=_ from h).symm.trans hgb
  simp at this
  exact hte this.2
end
section
variable {W W':World} {B:Nat} {t:TypeId} {cs:Array Value}
theorem BoxN.setAt (h:BoxN W B t cs) (j:Nat) (x:Value):BoxN (W.setCell ⟨B,j,none⟩ x) B t (cs.setIfInBounds j x):=by
 obtain⟨hlt,hk⟩:=Array.getElem?_eq_some_iff.1 h
 show (W.heap.modify B _)[B]?=_
 rw[Array.getElem?_eq_getElem (by rw[Array.size_modify];exact hlt),Array.getElem_modify_self,hk]
 rfl
end
theorem BoxN.k0 {W : World} {b : Nat} {t : TypeId} {v0 : Value} {l : List Value} (h : BoxN W b t (List.toArray (v0 :: l))) : W.cell? ⟨b, 0, none⟩ = some v0 := h.c 0
theorem BoxN.k1 {W : World} {b : Nat} {t : TypeId} {v0 v1 : Value} {l : List Value} (h : BoxN W b t (List.toArray (v0 :: v1 :: l))) : W.cell? ⟨b, 1, none⟩ = some v1 := h.c 1
theorem BoxN.k2 {W : World} {b : Nat} {t : TypeId} {v0 v1 v2 : Value} {l : List Value} (h : BoxN W b t (List.toArray (v0 :: v1 :: v2 :: l))) : W.cell? ⟨b, 2, none⟩ = some v2 := h.c 2
theorem BoxN.k3 {W : World} {b : Nat} {t : TypeId} {v0 v1 v2 v3 : Value} {l : List Value} (h : BoxN W b t (List.toArray (v0 :: v1 :: v2 :: v3 :: l))) : W.cell? ⟨b, 3, none⟩ = some v3 := h.c 3
theorem BoxN.k4 {W : World} {b : Nat} {t : TypeId} {v0 v1 v2 v3 v4 : Value} {l : List Value} (h : BoxN W b t (List.toArray (v0 :: v1 :: v2 :: v3 :: v4 :: l))) : W.cell? ⟨b, 4, none⟩ = some v4 := h.c 4
theorem BoxN.k5 {W : World} {b : Nat} {t : TypeId} {v0 v1 v2 v3 v4 v5 : Value} {l : List Value} (h : BoxN W b t (List.toArray (v0 :: v1 :: v2 :: v3 :: v4 :: v5 :: l))) : W.cell? ⟨b, 5, none⟩ = some v5 := h.c 5
theorem BoxN.k6 {W : World} {b : Nat} {t : TypeId} {v0 v1 v2 v3 v4 v5 v6 : Value} {l : List Value} (h : BoxN W b t (List.toArray (v0 :: v1 :: v2 :: v3 :: v4 :: v5 :: v6 :: l))) : W.cell? ⟨b, 6, none⟩ = some v6 := h.c 6
theorem BoxN.k7 {W : World} {b : Nat} {t : TypeId} {v0 v1 v2 v3 v4 v5 v6 v7 : Value} {l : List Value} (h : BoxN W b t (List.toArray (v0 :: v1 :: v2 :: v3 :: v4 :: v5 :: v6 :: v7 :: l))) : W.cell? ⟨b, 7, none⟩ = some v7 := h.c 7
theorem BoxN.m2 {W : World} {b : Nat} {t : TypeId} {v0 v1 : Value} {l : List Value} (h : BoxN W b t (List.toArray (v0 :: v1 :: l))) : W.cell? ⟨b, 0, none⟩ = some v0 ∧ W.cell? ⟨b, 1, none⟩ = some v1 := ⟨h.c 0, h.c 1⟩
theorem BoxN.m3 {W : World} {b : Nat} {t : TypeId} {v0 v1 v2 : Value} {l : List Value} (h : BoxN W b t (List.toArray (v0 :: v1 :: v2 :: l))) : W.cell? ⟨b, 0, none⟩ = some v0 ∧ W.cell? ⟨b, 1, none⟩ = some v1 ∧ W.cell? ⟨b, 2, none⟩ = some v2 := ⟨h.c 0, h.c 1, h.c 2⟩
theorem BoxN.m4 {W : World} {b : Nat} {t : TypeId} {v0 v1 v2 v3 : Value} {l : List Value} (h : BoxN W b t (List.toArray (v0 :: v1 :: v2 :: v3 :: l))) : W.cell? ⟨b, 0, none⟩ = some v0 ∧ W.cell? ⟨b, 1, none⟩ = some v1 ∧ W.cell? ⟨b, 2, none⟩ = some v2 ∧ W.cell? ⟨b, 3, none⟩ = some v3 := ⟨h.c 0, h.c 1, h.c 2, h.c 3⟩
theorem BoxN.m5 {W : World} {b : Nat} {t : TypeId} {v0 v1 v2 v3 v4 : Value} {l : List Value} (h : BoxN W b t (List.toArray (v0 :: v1 :: v2 :: v3 :: v4 :: l))) : W.cell? ⟨b, 0, none⟩ = some v0 ∧ W.cell? ⟨b, 1, none⟩ = some v1 ∧ W.cell? ⟨b, 2, none⟩ = some v2 ∧ W.cell? ⟨b, 3, none⟩ = some v3 ∧ W.cell? ⟨b, 4, none⟩ = some v4 := ⟨h.c 0, h.c 1, h.c 2, h.c 3, h.c 4⟩
theorem BoxN.m6 {W : World} {b : Nat} {t : TypeId} {v0 v1 v2 v3 v4 v5 : Value} {l : List Value} (h : BoxN W b t (List.toArray (v0 :: v1 :: v2 :: v3 :: v4 :: v5 :: l))) : W.cell? ⟨b, 0, none⟩ = some v0 ∧ W.cell? ⟨b, 1, none⟩ = some v1 ∧ W.cell? ⟨b, 2, none⟩ = some v2 ∧ W.cell? ⟨b, 3, none⟩ = some v3 ∧ W.cell? ⟨b, 4, none⟩ = some v4 ∧ W.cell? ⟨b, 5, none⟩ = some v5 := ⟨h.c 0, h.c 1, h.c 2, h.c 3, h.c 4, h.c 5⟩
theorem BoxN.m7 {W : World} {b : Nat} {t : TypeId} {v0 v1 v2 v3 v4 v5 v6 : Value} {l : List Value} (h : BoxN W b t (List.toArray (v0 :: v1 :: v2 :: v3 :: v4 :: v5 :: v6 :: l))) : W.cell? ⟨b, 0, none⟩ = some v0 ∧ W.cell? ⟨b, 1, none⟩ = some v1 ∧ W.cell? ⟨b, 2, none⟩ = some v2 ∧ W.cell? ⟨b, 3, none⟩ = some v3 ∧ W.cell? ⟨b, 4, none⟩ = some v4 ∧ W.cell? ⟨b, 5, none⟩ = some v5 ∧ W.cell? ⟨b, 6, none⟩ = some v6 := ⟨h.c 0, h.c 1, h.c 2, h.c 3, h.c 4, h.c 5, h.c 6⟩
theorem BoxN.m8 {W : World} {b : Nat} {t : TypeId} {v0 v1 v2 v3 v4 v5 v6 v7 : Value} {l : List Value} (h : BoxN W b t (List.toArray (v0 :: v1 :: v2 :: v3 :: v4 :: v5 :: v6 :: v7 :: l))) : W.cell? ⟨b, 0, none⟩ = some v0 ∧ W.cell? ⟨b, 1, none⟩ = some v1 ∧ W.cell? ⟨b, 2, none⟩ = some v2 ∧ W.cell? ⟨b, 3, none⟩ = some v3 ∧ W.cell? ⟨b, 4, none⟩ = some v4 ∧ W.cell? ⟨b, 5, none⟩ = some v5 ∧ W.cell? ⟨b, 6, none⟩ = some v6 ∧ W.cell? ⟨b, 7, none⟩ = some v7 := ⟨h.c 0, h.c 1, h.c 2, h.c 3, h.c 4, h.c 5, h.c 6, h.c 7⟩
structure Fr (S:List Nat) (w w':World):Prop where
 os:w'.os=w.os
 tape:w'.tape=w.tape
 output:w'.output=w.output
 size:w.heap.size≤w'.heap.size
 block:∀ k,k<w.heap.size→k ∉ S→w'.heap[k]?=w.heap[k]?
section
variable {S T:List Nat} {B:Nat} {a w w':World}
theorem Fr.refl (S:List Nat) (w:World):Fr S w w:=⟨rfl,rfl,rfl,Nat.le_refl _,fun _ _ _=>rfl⟩
theorem Fr.of_below (h:Below w.heap.size w w'):Fr S w w':=⟨h.os,h.tape,h.output,h.size,fun k hk _=>h.block k hk⟩
theorem Fr.below (h:Fr S w w') (hS:∀ k∈S,B≤k) (hB:B≤w.heap.size):Below B w w':=⟨h.os,h.tape,h.output,h.size,fun k hk=>h.block k (by omega) (fun hm=>by have:=hS k hm;omega)⟩
theorem Fr.below0 (h:Fr [] w w'):Below w.heap.size w w':=h.below (by simp) (Nat.le_refl _)
theorem Fr.trans (h:Fr S a w) (k:Fr T w w') (hT:∀ x∈T,x∈S ∨ a.heap.size≤x):Fr S a w' :=
 ⟨k.os.trans h.os,k.tape.trans h.tape,k.output.trans h.output,Nat.le_trans h.size k.size,fun i hi hs=>(k.block i (Nat.lt_of_lt_of_le hi h.size) (fun hm=>by rcases hT i hm with h1 | h1 <;> first | exact hs h1 | omega)).trans (h.block i hi hs)⟩
theorem Fr.then (h:Fr S a w) (k:Fr S w w'):Fr S a w':=h.trans k fun _ hx=>.inl hx
theorem Fr.mono (h:Fr S w w') (hT:∀ x∈S,x∈T ∨ w.heap.size≤x):Fr T w w':=⟨h.os,h.tape,h.output,h.size,fun k hk ht=>h.block k hk (fun hm=>by rcases hT k hm with h1 | h1 <;> first | exact ht h1 | omega)⟩
theorem Fr.drew (h:Fr S a w):Fr S a w.drew:=⟨h.os,h.tape,h.output,h.size,h.block⟩
theorem Fr.drewN (h:Fr S a w) (n:Nat):Fr S a (w.drewN n):=⟨h.os,h.tape,h.output,h.size,h.block⟩
theorem Fr.undrew (h:Fr S a.drew w):Fr S a w:=⟨h.os,h.tape,h.output,h.size,h.block⟩
theorem Fr.alloc (h:Fr S a w) (o:Obj):Fr S a (w.alloc o) :=
 h.trans (T:=[]) ⟨rfl,rfl,rfl,by simp,fun k hk _=>Below.heap_alloc _ _ _ hk⟩ (by simp)
theorem Fr.set (h:Fr S a w) {p:Addr} (hp:p.block∈S ∨ a.heap.size≤p.block) (u:Value):Fr S a (w.setCell p u) :=
 h.trans (T:=[p.block]) ⟨rfl,rfl,rfl,by simp[World.setCell],fun k _ hk=>Below.heap_setCell _ _ _ _ (by simpa using hk)⟩ (by simpa using hp)
theorem Fr.grown (h:Fr S a w) {row:Option Nat} (hg:w.grownBy w' row) (hr:∀ k,row=some k→k∈S ∨ a.heap.size≤k):Fr S a w' :=
 h.trans (T:=row.toList) ⟨hg.os,hg.tape,hg.output,hg.size,fun k hk hk2=>hg.block k hk (fun e=>hk2 (by rw[←e];simp))⟩ (by intro x hx;exact hr x (by simpa using hx))
theorem Fr.cell (h:Fr S w w') {p:Addr} (hp:p.block<w.heap.size) (hS:p.block ∉ S):w'.cell? p=w.cell? p:=World.cell?_of_block (h.block _ hp hS)
theorem Fr.frozen (h:Fr S w w') {p:Addr} (hp:p.block<w.heap.size) (hS:p.block ∉ S):w'.frozen? p=w.frozen? p:=World.frozen?_of_block (h.block _ hp hS)
theorem Fr.fcell (h:Fr S w w') {b:Nat} (hp:b<w.heap.size) (hS:b ∉ S):∀ o,w'.cell? ⟨b,o,none⟩=w.cell? ⟨b,o,none⟩:=fun _=>h.cell hp hS
end
section
variable {S:List Nat} {w w':World} {b:Nat} {t:TypeId} {cs:Array Value}
theorem BoxN.fr (h:BoxN w b t cs) (hf:Fr S w w') (hb:b ∉ S):BoxN w' b t cs:=(hf.block b h.lt hb).trans h
theorem BoxN.drew (h:BoxN w b t cs):BoxN w.drew b t cs:=h
theorem BoxN.drewN (h:BoxN w b t cs) (n:Nat):BoxN (w.drewN n) b t cs:=h
theorem Row.fr {B size n:Nat} {A:Option Addr} {xs:List Value} (h:Row w B size A n xs) (hf:Fr S w w') (hB:B≤w.heap.size) (hb:∀ a:Addr,A=some a→a.block ∉ S):Row w' B size A n xs :=
 ⟨h.1,fun hn=>by
  obtain⟨b,off,e,hlt,hc⟩:=h.2 hn
  exact⟨b,off,e,hlt,fun j u hu=>(hf.cell (p:=⟨b,off+j,none⟩) (by show b<_;omega) (hb ⟨b,off,none⟩ e)).trans (hc j u hu)⟩⟩
theorem own_fr {base:Nat} {e:TypeId} {size n:Nat} {v:Value} {xs:List Value} (h:w.ownsRow base e size v n xs) (hf:Fr S w w') (hb:∀ k,v.ownBlock=some k→k ∉ S):w'.ownsRow base e size v n xs:=by
 obtain⟨h1,h2⟩:=h
 refine⟨h1,?_⟩
 rcases h2 with h2 | ⟨g,cap,cur,rfl,hg,hh,r⟩
 ·exact .inl h2
 ·refine .inr ⟨g,cap,cur,rfl,hg,?_,r⟩
  have hlt:g<w.heap.size:=(Array.getElem?_eq_some_iff.1 hh).1
  exact (hf.block g hlt (hb g rfl)).trans hh
end
theorem bxn (W : World) (cs : Array Value) (t : TypeId) : ∃ X, W.alloc (.cells cs t) = X ∧ BoxN X W.heap.size t cs ∧ Fr [] W X := ⟨_, rfl, BoxN.new W t cs, (Fr.refl [] W).alloc _⟩
theorem bxd (W : World) (cs : Array Value) (t : TypeId) : ∃ X, (W.alloc (.cells cs t)).drew = X ∧ BoxN X W.heap.size t cs ∧ Fr [] W X := ⟨_, rfl, (BoxN.new W t cs).drew, ((Fr.refl [] W).alloc _).drew⟩
theorem run_copy_str {P:Program} (w:World) (dT sT ty elem:TypeId) (b o dLen dCap:Nat) (t:ByteArray) (n:Nat)
 (hu:P.underlying dT=some (.slice elem)) (hz:∀ w,(Go.sizeOf elem).run P w=.ok 1 w) (hn:n=Nat.min t.size dLen)
 (hc:∀ j,j<n→(w.cell? ⟨b,o+j,none⟩).isSome=true) (hf:∀ j,j<n→w.frozen? ⟨b,o+j,none⟩=false) :
 (Builtin.copy_ #[dT,sT] ty #[.slice (some ⟨b,o,none⟩) dLen dCap,.string t]).run P w=.ok (goInt n) (w.setCells b o ((t.data.toList.take n).map fun x=>Value.int .u8 (x.toNat:Int))):=by
 have hts:t.data.toList.length=t.size:=by rw[←Lib.size_eq]
 have hle:n≤t.size:=by rw[hn];exact Nat.min_le_left _ _
 have hl:((t.data.toList.take n).map fun x=>Value.int .u8 (x.toNat:Int)).length=n:=by rw[List.length_map,List.length_take];omega
 have hst:=run_storeCells_cells (P:=P) b o ((t.data.toList.take n).map fun x=>Value.int .u8 (x.toNat:Int)) 0 w (by rw[hl];simpa using hc) (by rw[hl];simpa using hf) (by
  intro v hv
  obtain⟨x,_,rfl⟩:=List.mem_map.1 hv
  rfl)
 simp[Builtin.copy_,run_underlying hu,Builtin.lenOf,Builtin.firstCells,hz,←hn]
 rw[←List.map_take,hst]
 rfl
section
variable {S:List Nat} {w w':World} {b:Nat} {t:TypeId} {n:Nat} {f:Nat→Value}
theorem rowIs_fr (h:w.rowIs b t n f) (hf:Fr S w w') (hb:b ∉ S):w'.rowIs b t n f:=h.of_block (hf.block b h.lt hb)
theorem Fr.setCells {a:World} (h:Fr S a w) {p:Nat} (hp:p∈S ∨ a.heap.size≤p):∀ (vs:List Value) (o:Nat),Fr S a (w.setCells p o vs):=by
 intro vs
 induction vs generalizing w with
 | nil=>intro o;exact h
 | cons v r ih=>intro o;exact ih (h.set (p:=⟨p,o,none⟩) hp v) (o+1)
theorem BoxN.row (h:BoxN w b t #[]):w.rowIs b t 0 f:=⟨_,h,rfl,fun i hi=>absurd hi (by omega)⟩
theorem size_setCells (w:World) (b:Nat):∀ (vs:List Value) (o:Nat),(w.setCells b o vs).heap.size=w.heap.size:=by
 intro vs
 induction vs generalizing w with
 | nil=>intro o;rfl
 | cons v r ih=>intro o;exact (ih _ _).trans (by simp[World.setCell])
end
end Go.Proofs.YtlpmiimgacfmkaaGreatDoor
