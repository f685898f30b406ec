/- Words for memory: a slice that reads as a list of cells, nil let in; blocks that are known whole. -/
import Derived.WalkKit
import Derived.WalkSpells
import Derived.WalkLawsBesides
import Derived.Lib.Hide
import Derived.Maps.AppendAt
import Derived.Deep.AppendLies
import Derived.Deep.Draws
import Derived.Deep.QuietTactic
import Derived.BigQuiet
import Derived.RegionTactic
import Derived.Maps.OwnSet
import Derived.RangeFuncSeq
import Derived.RangeFuncRecord
import Derived.Deep.DrawnRows
import Derived.Deep.RegionHeld3
import Derived.Test.YtlpmiimgacfmkaaGreatDoorProg
set_option linter.all false
namespace Go.Proofs.YtlpmiimgacfmkaaGreatDoor
open Go.Proofs.Tryz
open Go.RowKit
def Row (w:World) (B size:Nat) (A:Option Addr) (n:Nat) (xs:List Value):Prop :=
 xs.length=n*size/\(0<n->∃ b off,A=some ⟨b,off,none⟩/\b<B/\∀ j u,xs[j]?=some u->w.cell? ⟨b,off+j,none⟩=some u)
section
variable {w w':World} {B B' size n:Nat} {A:Option Addr} {xs:List Value}
theorem Row.nil_:Row w B size A 0 []:=⟨by simp,fun h=>absurd h (by omega)⟩
theorem Row.keep (h:Row w B size A n xs) (hk:∀ p:Addr,p.block<B->w'.cell? p=w.cell? p):Row w' B size A n xs :=
 ⟨h.1,fun hn=>by
  obtain⟨b,off,e,hb,hc⟩:=h.2 hn;exact⟨b,off,e,hb,fun j u hu=>(hk _ hb).trans (hc j u hu)⟩⟩
theorem Row.more (h:Row w B size A n xs) (hB:B<=B'):Row w B' size A n xs :=
 ⟨h.1,fun hn=>by
  obtain⟨b,off,e,hb,hc⟩:=h.2 hn;exact⟨b,off,e,by omega,hc⟩⟩
theorem Row.below (h:Row w B size A n xs) (hb:Below B w w'):Row w' B size A n xs:=h.keep fun _ hp=>hb.cell hp
theorem Row.at1 {k:Nat} (h:Row w B 1 A n xs) (hk:k<n):∃ b off u,A=some ⟨b,off,none⟩/\b<B/\xs[k]?=some u/\w.cell? ⟨b,off+k,none⟩=some u:=by
 obtain⟨b,off,e,hb,hc⟩:=h.2 (by omega);have hl:k<xs.length:=by have:=h.1;omega
 exact⟨b,off,xs[k],e,hb,List.getElem?_eq_getElem hl,hc k _ (List.getElem?_eq_getElem hl)⟩
theorem Row.of_own {base:Nat} {e:TypeId} {c:Nat} (h:w.ownsRow base e size (.slice A n c) n xs):Row w w.heap.size size A n xs:=by
 refine⟨h.1,fun hn=>?_⟩;obtain⟨g,cap,hv,_,hlt⟩:=h.form hn;have hA:A=some ⟨g,0,none⟩:=by injection hv
 subst hA;refine⟨g,0,rfl,hlt,fun j u hu=>?_⟩;have:=h.cells (g:=g) rfl j u hu;unfold Addr.add at this;split at this
 ·next h0=>subst h0;simpa using this
 ·simpa using this
end
theorem own_form {w:World} {base:Nat} {e:TypeId} {size n:Nat} {v:Value} {xs:List Value} (h:w.ownsRow base e size v n xs):∃ A c,v=.slice A n c/\Row w w.heap.size size A n xs:=by
 rcases h.2 with ⟨rfl,rfl⟩ | ⟨g,cap,cur,rfl,_⟩
 ·exact⟨none,0,rfl,h.1,fun h=>absurd h (by omega)⟩
 ·exact⟨_,_,rfl,Row.of_own h⟩
theorem own_block_le {w:World} {base:Nat} {e:TypeId} {size n:Nat} {v:Value} {xs:List Value} (h:w.ownsRow base e size v n xs):∀ k,v.ownBlock=some k->base<=k:=by
 intro k hk
 rcases h.2 with ⟨rfl,_⟩ | ⟨g,cap,cur,rfl,hg,_⟩
 ·simp[Value.ownBlock] at hk
 ·have:g=k:=by simpa [Value.ownBlock] using hk
  omega
theorem below_drewN {B:Nat} {a w:World} (h:Below B a w) (n:Nat):Below B a (w.drewN n):=⟨h.os,h.tape,h.output,h.size,h.block⟩
abbrev Nm:=List UInt8
def encN (l:Nm):Value:=.string ⟨l.toArray⟩
theorem bytes_ne {a b:ByteArray} (h:a.data.toList≠b.data.toList):(a.toList == b.toList)=false:=by
 rw[beq_eq_false_iff_ne];intro e;rw[ByteArray.toList_eq,ByteArray.toList_eq] at e;exact h e
theorem bytes_eq {a b:ByteArray} (h:a.data.toList=b.data.toList):(a.toList == b.toList)=true:=by
 rw[beq_iff_eq,ByteArray.toList_eq,ByteArray.toList_eq];exact h
def encI (n:Int):Value:=.int .i64 n
theorem qA {α : Type _} (l : List α) (i : Nat) (a : α) : l.toArray.setIfInBounds i a = (l.set i a).toArray := List.setIfInBounds_toArray l i a
theorem qB {α : Type _} {x : α} {xs : List α} {a : α} : (x :: xs).set 0 a = a :: xs := List.set_cons_zero
theorem qC {α : Type _} {x : α} {xs : List α} {i : Nat} {a : α} : (x :: xs).set (i + 1) a = x :: xs.set i a := List.set_cons_succ
theorem qD {α : Type _} {xs : List α} {i : Nat} (h : i < xs.toArray.size) : xs.toArray[i] = xs[i]'(by simpa using h) := List.getElem_toArray h
theorem qE {α : Type _} (a : α) (l : List α) (h : 0 < (a :: l).length) : (a :: l)[0] = a := List.getElem_cons_zero a l h
theorem qF {α : Type _} (a : α) (l : List α) (i : Nat) (h : i + 1 < (a :: l).length) : (a :: l)[i + 1] = l[i]'(by simpa using h) := List.getElem_cons_succ a l i h
theorem Hd {p : Prop} (h : p) : Hid p := Lib.hid h
abbrev z32 : Array Value := #[.int .u8 0, .int .u8 0, .int .u8 0, .int .u8 0, .int .u8 0, .int .u8 0, .int .u8 0, .int .u8 0, .int .u8 0, .int .u8 0, .int .u8 0, .int .u8 0, .int .u8 0, .int .u8 0, .int .u8 0, .int .u8 0, .int .u8 0, .int .u8 0, .int .u8 0, .int .u8 0, .int .u8 0, .int .u8 0, .int .u8 0, .int .u8 0, .int .u8 0, .int .u8 0, .int .u8 0, .int .u8 0, .int .u8 0, .int .u8 0, .int .u8 0, .int .u8 0]
theorem lms {α : Type _} {a b : α} : a ∈ [b] ↔ a = b := List.mem_singleton
theorem lla {α : Type _} {ps qs : List α} : (ps ++ qs).length = ps.length + qs.length := List.length_append
theorem lge {α : Type _} {l : List α} {i : Nat} (h : i < l.length) : l[i]? = some l[i] := List.getElem?_eq_getElem h
theorem lgs {α : Type _} {l : List α} {i : Nat} {a : α} : l[i]? = some a ↔ ∃ h : i < l.length, l[i] = a := List.getElem?_eq_some_iff
theorem lmg {α : Type _} {l : List α} {i : Nat} {a : α} (h : l[i]? = some a) : a ∈ l := List.mem_of_getElem? h
theorem nlr (n : Nat) : n <= n := Nat.le_refl n
theorem wsA (w : World) (o : Obj) : (w.alloc o).heap.size = w.heap.size + 1 := World.size_alloc w o
theorem qG {α : Type _} {a : α} {l : List α} {i : Nat} : (a :: l).drop (i + 1) = l.drop i := List.drop_succ_cons
theorem qH {α : Type _} {l : List α} : l.drop 0 = l := List.drop_zero
theorem An {p q : Prop} (a : p) (b : q) : p /\ q := ⟨a, b⟩
theorem nmd {α : Sort _} (a : α) : ∃ b, a = b := ⟨a, rfl⟩
set_option maxHeartbeats 1000000
def rotr (n x:Int):Int:=bits BinOp.or IntKind.u32 (x*2 ^ (32 - n).toNat % 4294967296) (x / 2 ^ n.toNat)
theorem right_2 (x:Int) (w:World):Calls prog 182 #[.int .i64 2,.int .u32 x] w fun e w'=>e=.returned (.int .u32 (rotr 2 x))/\w'=w:=by
 go_enter func182,ntmps182
 have h1:bits BinOp.and IntKind.u64 (IntKind.u64.wrap (-2)) 31=30:=by rfl
 go_wp2
 go_ret
 exact⟨rfl,rfl⟩
theorem right_6 (x:Int) (w:World):Calls prog 182 #[.int .i64 6,.int .u32 x] w fun e w'=>e=.returned (.int .u32 (rotr 6 x))/\w'=w:=by
 go_enter func182,ntmps182
 have h1:bits BinOp.and IntKind.u64 (IntKind.u64.wrap (-6)) 31=26:=by rfl
 go_wp2
 go_ret
 exact⟨rfl,rfl⟩
theorem right_7 (x:Int) (w:World):Calls prog 182 #[.int .i64 7,.int .u32 x] w fun e w'=>e=.returned (.int .u32 (rotr 7 x))/\w'=w:=by
 go_enter func182,ntmps182
 have h1:bits BinOp.and IntKind.u64 (IntKind.u64.wrap (-7)) 31=25:=by rfl
 go_wp2
 go_ret
 exact⟨rfl,rfl⟩
theorem right_11 (x:Int) (w:World):Calls prog 182 #[.int .i64 11,.int .u32 x] w fun e w'=>e=.returned (.int .u32 (rotr 11 x))/\w'=w:=by
 go_enter func182,ntmps182
 have h1:bits BinOp.and IntKind.u64 (IntKind.u64.wrap (-11)) 31=21:=by rfl
 go_wp2
 go_ret
 exact⟨rfl,rfl⟩
theorem right_13 (x:Int) (w:World):Calls prog 182 #[.int .i64 13,.int .u32 x] w fun e w'=>e=.returned (.int .u32 (rotr 13 x))/\w'=w:=by
 go_enter func182,ntmps182
 have h1:bits BinOp.and IntKind.u64 (IntKind.u64.wrap (-13)) 31=19:=by rfl
 go_wp2
 go_ret
 exact⟨rfl,rfl⟩
theorem right_17 (x:Int) (w:World):Calls prog 182 #[.int .i64 17,.int .u32 x] w fun e w'=>e=.returned (.int .u32 (rotr 17 x))/\w'=w:=by
 go_enter func182,ntmps182
 have h1:bits BinOp.and IntKind.u64 (IntKind.u64.wrap (-17)) 31=15:=by rfl
 go_wp2
 go_ret
 exact⟨rfl,rfl⟩
theorem right_18 (x:Int) (w:World):Calls prog 182 #[.int .i64 18,.int .u32 x] w fun e w'=>e=.returned (.int .u32 (rotr 18 x))/\w'=w:=by
 go_enter func182,ntmps182
 have h1:bits BinOp.and IntKind.u64 (IntKind.u64.wrap (-18)) 31=14:=by rfl
 go_wp2
 go_ret
 exact⟨rfl,rfl⟩
theorem right_19 (x:Int) (w:World):Calls prog 182 #[.int .i64 19,.int .u32 x] w fun e w'=>e=.returned (.int .u32 (rotr 19 x))/\w'=w:=by
 go_enter func182,ntmps182
 have h1:bits BinOp.and IntKind.u64 (IntKind.u64.wrap (-19)) 31=13:=by rfl
 go_wp2
 go_ret
 exact⟨rfl,rfl⟩
theorem right_22 (x:Int) (w:World):Calls prog 182 #[.int .i64 22,.int .u32 x] w fun e w'=>e=.returned (.int .u32 (rotr 22 x))/\w'=w:=by
 go_enter func182,ntmps182
 have h1:bits BinOp.and IntKind.u64 (IntKind.u64.wrap (-22)) 31=10:=by rfl
 go_wp2
 go_ret
 exact⟨rfl,rfl⟩
theorem right_25 (x:Int) (w:World):Calls prog 182 #[.int .i64 25,.int .u32 x] w fun e w'=>e=.returned (.int .u32 (rotr 25 x))/\w'=w:=by
 go_enter func182,ntmps182
 have h1:bits BinOp.and IntKind.u64 (IntKind.u64.wrap (-25)) 31=7:=by rfl
 go_wp2
 go_ret
 exact⟨rfl,rfl⟩
def BoxN (W:World) (B:Nat) (t:TypeId) (cs:Array Value):Prop:=W.heap[B]?=some (.cells cs t (0,0))
section
variable {W W':World} {B:Nat} {t:TypeId} {cs:Array Value}
theorem BoxN.lt (h:BoxN W B t cs):B<W.heap.size:=(Array.getElem?_eq_some_iff.1 h).1
theorem BoxN.c (h:BoxN W B t cs) (j:Nat):W.cell? ⟨B,j,none⟩=cs[j]?:=by simp[World.cell?,show W.heap[B]?=_ from h]
theorem BoxN.f (h:BoxN W B t cs) (j:Nat):W.frozen? ⟨B,j,none⟩=false:=by simp[World.frozen?,show W.heap[B]?=_ from h]
theorem BoxN.new (W:World) (t:TypeId) (cs:Array Value):BoxN (W.alloc (.cells cs t)) W.heap.size t cs:=World.alloc_heap_new W _
theorem BoxN.kept {row:Option Nat} (h:BoxN W B t cs) (hg:W.grownBy W' row) (hne:some B≠row):BoxN W' B t cs:=(hg.block B h.lt hne).trans h
theorem BoxN.alloc (h:BoxN W B t cs) (o:Obj):BoxN (W.alloc o) B t cs:=h.kept (World.grownBy_alloc W o none) (by simp)
theorem BoxN.later (h:BoxN W B t cs) (hb:Below W.heap.size W W'):BoxN W' B t cs:=(hb.block B h.lt).trans h
end
section
variable {W W':World} {B:Nat} {t:TypeId} {cs:Array Value}
theorem BoxN.setAt (h:BoxN W B t cs) (j:Nat) (x:Value):BoxN (W.setCell ⟨B,j,none⟩ x) B t (cs.setIfInBounds j x):=by
 obtain⟨hlt,hk⟩:=Array.getElem?_eq_some_iff.1 h
 show (W.heap.modify B _)[B]?=_
 rw[Array.getElem?_eq_getElem (by rw[Array.size_modify];exact hlt),Array.getElem_modify_self,hk];rfl
end
theorem BoxN.k0 {W : World} {b : Nat} {t : TypeId} {v0 : Value} {l : List Value} (h : BoxN W b t (List.toArray (v0 :: l))) : W.cell? ⟨b, 0, none⟩ = some v0 := h.c 0
theorem BoxN.k1 {W : World} {b : Nat} {t : TypeId} {v0 v1 : Value} {l : List Value} (h : BoxN W b t (List.toArray (v0 :: v1 :: l))) : W.cell? ⟨b, 1, none⟩ = some v1 := h.c 1
theorem BoxN.k2 {W : World} {b : Nat} {t : TypeId} {v0 v1 v2 : Value} {l : List Value} (h : BoxN W b t (List.toArray (v0 :: v1 :: v2 :: l))) : W.cell? ⟨b, 2, none⟩ = some v2 := h.c 2
theorem BoxN.k3 {W : World} {b : Nat} {t : TypeId} {v0 v1 v2 v3 : Value} {l : List Value} (h : BoxN W b t (List.toArray (v0 :: v1 :: v2 :: v3 :: l))) : W.cell? ⟨b, 3, none⟩ = some v3 := h.c 3
theorem BoxN.k4 {W : World} {b : Nat} {t : TypeId} {v0 v1 v2 v3 v4 : Value} {l : List Value} (h : BoxN W b t (List.toArray (v0 :: v1 :: v2 :: v3 :: v4 :: l))) : W.cell? ⟨b, 4, none⟩ = some v4 := h.c 4
theorem BoxN.k5 {W : World} {b : Nat} {t : TypeId} {v0 v1 v2 v3 v4 v5 : Value} {l : List Value} (h : BoxN W b t (List.toArray (v0 :: v1 :: v2 :: v3 :: v4 :: v5 :: l))) : W.cell? ⟨b, 5, none⟩ = some v5 := h.c 5
theorem BoxN.k6 {W : World} {b : Nat} {t : TypeId} {v0 v1 v2 v3 v4 v5 v6 : Value} {l : List Value} (h : BoxN W b t (List.toArray (v0 :: v1 :: v2 :: v3 :: v4 :: v5 :: v6 :: l))) : W.cell? ⟨b, 6, none⟩ = some v6 := h.c 6
theorem BoxN.k7 {W : World} {b : Nat} {t : TypeId} {v0 v1 v2 v3 v4 v5 v6 v7 : Value} {l : List Value} (h : BoxN W b t (List.toArray (v0 :: v1 :: v2 :: v3 :: v4 :: v5 :: v6 :: v7 :: l))) : W.cell? ⟨b, 7, none⟩ = some v7 := h.c 7
theorem BoxN.m2 {W : World} {b : Nat} {t : TypeId} {v0 v1 : Value} {l : List Value} (h : BoxN W b t (List.toArray (v0 :: v1 :: l))) : W.cell? ⟨b, 0, none⟩ = some v0 /\ W.cell? ⟨b, 1, none⟩ = some v1 := ⟨h.c 0, h.c 1⟩
theorem BoxN.m3 {W : World} {b : Nat} {t : TypeId} {v0 v1 v2 : Value} {l : List Value} (h : BoxN W b t (List.toArray (v0 :: v1 :: v2 :: l))) : W.cell? ⟨b, 0, none⟩ = some v0 /\ W.cell? ⟨b, 1, none⟩ = some v1 /\ W.cell? ⟨b, 2, none⟩ = some v2 := ⟨h.c 0, h.c 1, h.c 2⟩
theorem BoxN.m4 {W : World} {b : Nat} {t : TypeId} {v0 v1 v2 v3 : Value} {l : List Value} (h : BoxN W b t (List.toArray (v0 :: v1 :: v2 :: v3 :: l))) : W.cell? ⟨b, 0, none⟩ = some v0 /\ W.cell? ⟨b, 1, none⟩ = some v1 /\ W.cell? ⟨b, 2, none⟩ = some v2 /\ W.cell? ⟨b, 3, none⟩ = some v3 := ⟨h.c 0, h.c 1, h.c 2, h.c 3⟩
theorem BoxN.m5 {W : World} {b : Nat} {t : TypeId} {v0 v1 v2 v3 v4 : Value} {l : List Value} (h : BoxN W b t (List.toArray (v0 :: v1 :: v2 :: v3 :: v4 :: l))) : W.cell? ⟨b, 0, none⟩ = some v0 /\ W.cell? ⟨b, 1, none⟩ = some v1 /\ W.cell? ⟨b, 2, none⟩ = some v2 /\ W.cell? ⟨b, 3, none⟩ = some v3 /\ W.cell? ⟨b, 4, none⟩ = some v4 := ⟨h.c 0, h.c 1, h.c 2, h.c 3, h.c 4⟩
theorem BoxN.m6 {W : World} {b : Nat} {t : TypeId} {v0 v1 v2 v3 v4 v5 : Value} {l : List Value} (h : BoxN W b t (List.toArray (v0 :: v1 :: v2 :: v3 :: v4 :: v5 :: l))) : W.cell? ⟨b, 0, none⟩ = some v0 /\ W.cell? ⟨b, 1, none⟩ = some v1 /\ W.cell? ⟨b, 2, none⟩ = some v2 /\ W.cell? ⟨b, 3, none⟩ = some v3 /\ W.cell? ⟨b, 4, none⟩ = some v4 /\ W.cell? ⟨b, 5, none⟩ = some v5 := ⟨h.c 0, h.c 1, h.c 2, h.c 3, h.c 4, h.c 5⟩
theorem BoxN.m7 {W : World} {b : Nat} {t : TypeId} {v0 v1 v2 v3 v4 v5 v6 : Value} {l : List Value} (h : BoxN W b t (List.toArray (v0 :: v1 :: v2 :: v3 :: v4 :: v5 :: v6 :: l))) : W.cell? ⟨b, 0, none⟩ = some v0 /\ W.cell? ⟨b, 1, none⟩ = some v1 /\ W.cell? ⟨b, 2, none⟩ = some v2 /\ W.cell? ⟨b, 3, none⟩ = some v3 /\ W.cell? ⟨b, 4, none⟩ = some v4 /\ W.cell? ⟨b, 5, none⟩ = some v5 /\ W.cell? ⟨b, 6, none⟩ = some v6 := ⟨h.c 0, h.c 1, h.c 2, h.c 3, h.c 4, h.c 5, h.c 6⟩
theorem BoxN.m8 {W : World} {b : Nat} {t : TypeId} {v0 v1 v2 v3 v4 v5 v6 v7 : Value} {l : List Value} (h : BoxN W b t (List.toArray (v0 :: v1 :: v2 :: v3 :: v4 :: v5 :: v6 :: v7 :: l))) : W.cell? ⟨b, 0, none⟩ = some v0 /\ W.cell? ⟨b, 1, none⟩ = some v1 /\ W.cell? ⟨b, 2, none⟩ = some v2 /\ W.cell? ⟨b, 3, none⟩ = some v3 /\ W.cell? ⟨b, 4, none⟩ = some v4 /\ W.cell? ⟨b, 5, none⟩ = some v5 /\ W.cell? ⟨b, 6, none⟩ = some v6 /\ W.cell? ⟨b, 7, none⟩ = some v7 := ⟨h.c 0, h.c 1, h.c 2, h.c 3, h.c 4, h.c 5, h.c 6, h.c 7⟩
set_option maxRecDepth 100000
set_option maxHeartbeats 4000000
attribute [local go_sem ↓] Go.wp_at_zero Go.wp_at_succ
def headReg:Code->Option Nat
 | .region k _ _=>some k
 | .seq a _=>headReg a
 | .block _ c=>headReg c
 | .scope c=>headReg c
 | .loop c=>headReg c
 | _=>none
def fromReg (n:Nat):Code->Option Code
 | .seq a b=>if headReg a=some n then some (.seq a b) else match fromReg n b with
  | some c=>some c
  | none=>fromReg n a
 | .block _ c=>fromReg n c
 | .scope c=>fromReg n c
 | .loop c=>fromReg n c
 | _=>none
end Go.Proofs.YtlpmiimgacfmkaaGreatDoor
namespace Go.Proofs.YtlpmiimgacfmkaaGreatDoor
open Go.Proofs.Tryz
open Go.RowKit
set_option maxRecDepth 100000
set_option maxHeartbeats 4000000
attribute [local go_sem ↓] Go.wp_at_zero Go.wp_at_succ
def blockAt (n:Nat):Code->Option Code
 | .seq a b=>match blockAt n a with
  | some c=>some c
  | none=>blockAt n b
 | .block i c=>if headReg c=some n then some (.block i c) else blockAt n c
 | .scope c=>blockAt n c
 | .loop c=>blockAt n c
 | _=>none
noncomputable def cmpL3:Code:=((Tryz.f144).body.bind (blockAt 16)).getD .skip
structure H8 where
 a:Int
 b:Int
 c:Int
 d:Int
 e:Int
 f:Int
 g:Int
 h:Int
def sumP (s:H8) (g x:Int):Int :=
 (s.h+bits .xor .u32 (bits .xor .u32 (rotr 6 s.e) (rotr 11 s.e)) (rotr 25 s.e)+bits .xor .u32 (bits .and .u32 s.e s.f) (bits .and .u32 (bits .xor .u32 (if IntKind.u32.signed=true then -1 else IntKind.u32.max) s.e) s.g)+g+x) % 4294967296
def sumQ (s:H8):Int :=
 (bits .xor .u32 (bits .xor .u32 (rotr 2 s.a) (rotr 13 s.a)) (rotr 22 s.a)+bits .xor .u32 (bits .xor .u32 (bits .and .u32 s.a s.b) (bits .and .u32 s.a s.c)) (bits .and .u32 s.b s.c)) % 4294967296
def rnd (g x:Int) (s:H8):H8:=⟨(sumP s g x+sumQ s) % 4294967296,s.a,s.b,s.c,(s.d+sumP s g x) % 4294967296,s.e,s.f,s.g⟩
def rounds (g x:Nat->Int):Nat->H8->H8
 | 0,s=>s
 | k+1,s=>rnd (g k) (x k) (rounds g x k s)
def CmpR3 (w:World) (g x:Nat->Int) (s0:H8) (i v1 v2 v3 v4 v5 v6 v7 v8:Value) (W:World):Prop :=
 ∃ (k:Nat) (s:H8),k<=64/\i=.int .i64 (k:Int)/\s=rounds g x k s0/\v1=.int .u32 s.a/\v2=.int .u32 s.b/\v3=.int .u32 s.c/\v4=.int .u32 s.d/\v5=.int .u32 s.e/\v6=.int .u32 s.f/\v7=.int .u32 s.g/\v8=.int .u32 s.h/\Below w.heap.size w W
theorem cmpL3_any (KA:Act->World->Prop) (KK:Exit->Act->World->Prop) (X:Nat) (s0:H8) (g x:Nat->Int) (w:World) (hX:X<w.heap.size) (hG:2<w.heap.size) (hx:∀ j,j<64->w.cell? ⟨X,j,none⟩=some (.int .u32 (x j))) (hg:∀ j,j<64->w.cell? ⟨2,j,none⟩=some (.int .u32 (g j)))
 (u0 u1 u2 u3 u5 u6 u7 u8 u9 u10 u19 u20 u21 u22 u23 u24 u25 u26 u27 u28 u29 u30 u31 u32 u33 u34 u35 u36 u37 u38 u39 u40 u41 u42 u43 u44 u45 u46 u47 u48 u49 u50 u51 u52 u53 u54 u55 u56 u57 u58 u59 u60 u61 u62 u63 u64 u65 u66 u67 u68 u69 u70 u71 u72 u73 u74 u75 u76 u77 u78 u79 u80 u81 u82 u83 u84 u85 u86 u87 u88 u89 u90 u91 u92 u93 u94 u95 u96 u97 u98 u99 u100 u101 u102 u103 u104 u105 u106 u107 u108 u109 u110 u111 u112 u113 u114 u115 u116 u117 u118 u119 u120 u121 u122 u123 u124 u125 u126 u127 u128 u129 u130 u131 u132 u133 u134 u135 u136 u137 u138 u139 u140 u141 u143 u144 u145 u146 u147 u148 u149 u150 u151 u152 u153 u154 u155 u156 u157 u158 u159 u160 u161 u162 u163 u164 u165 u166 u167 u168 u169 u170 u171 u172 u173 u174 u175 u176 u177 u178 u179 u180 u181 u182 u183 u184 u185 u186 u187 u188 u189 u190 u191 u192 u193 u194 u195 u196 u197 u198 u199 u200 u201 u202 u203 u204 u205 u206 u207 u208 u209 u210 u211 u212 u213 u214 u215 u216 u217 u218 u219 u220 u221 u222 u223 u224 u225 u226 u227:Value) (hq:∀ (t19 t20 t21 t142 t143 t144 t145 t146 t147 t148 t149 t150 t151 t152 t153 t154 t155 t156 t157 t158 t159 t160 t161 t162 t163 t164 t165 t166 t167 t168 t169 t170 t171 t172 t173 t174 t175 t176 t177 t178 t179 t180 t181 t182 t183 t184 t185 t186 t187 t188 t189 t190 t191 t192 t193 t194 t195 t196 t197 t198 t199 t200 t201 t202 t203 t204:Value) (W:World),Below w.heap.size w W->KA ⟨List.toArray (u0::u1::u2::u3::.pointer (some ⟨X,0,none⟩)::u5::u6::u7::u8::u9::u10::.int .u32 (rounds g x 64 s0).a::.int .u32 (rounds g x 64 s0).b::.int .u32 (rounds g x 64 s0).c::.int .u32 (rounds g x 64 s0).d::.int .u32 (rounds g x 64 s0).e::.int .u32 (rounds g x 64 s0).f::.int .u32 (rounds g x 64 s0).g::.int .u32 (rounds g x 64 s0).h::t19::t20::t21::u22::u23::u24::u25::u26::u27::u28::u29::u30::u31::u32::u33::u34::u35::u36::u37::u38::u39::u40::u41::u42::u43::u44::u45::u46::u47::u48::u49::u50::u51::u52::u53::u54::u55::u56::u57::u58::u59::u60::u61::u62::u63::u64::u65::u66::u67::u68::u69::u70::u71::u72::u73::u74::u75::u76::u77::u78::u79::u80::u81::u82::u83::u84::u85::u86::u87::u88::u89::u90::u91::u92::u93::u94::u95::u96::u97::u98::u99::u100::u101::u102::u103::u104::u105::u106::u107::u108::u109::u110::u111::u112::u113::u114::u115::u116::u117::u118::u119::u120::u121::u122::u123::u124::u125::u126::u127::u128::u129::u130::u131::u132::u133::u134::u135::u136::u137::u138::u139::u140::u141::t142::t143::t144::t145::t146::t147::t148::t149::t150::t151::t152::t153::t154::t155::t156::t157::t158::t159::t160::t161::t162::t163::t164::t165::t166::t167::t168::t169::t170::t171::t172::t173::t174::t175::t176::t177::t178::t179::t180::t181::t182::t183::t184::t185::t186::t187::t188::t189::t190::t191::t192::t193::t194::t195::t196::t197::t198::t199::t200::t201::t202::t203::t204::u205::u206::u207::u208::u209::u210::u211::u212::u213::u214::u215::u216::u217::u218::u219::u220::u221::u222::u223::u224::u225::u226::u227::[]),[]⟩ W):Code.wp prog cmpL3 (Exit.then KA KK) ⟨List.toArray (u0::u1::u2::u3::.pointer (some ⟨X,0,none⟩)::u5::u6::u7::u8::u9::u10::.int .u32 s0.a::.int .u32 s0.b::.int .u32 s0.c::.int .u32 s0.d::.int .u32 s0.e::.int .u32 s0.f::.int .u32 s0.g::.int .u32 s0.h::u19::u20::u21::u22::u23::u24::u25::u26::u27::u28::u29::u30::u31::u32::u33::u34::u35::u36::u37::u38::u39::u40::u41::u42::u43::u44::u45::u46::u47::u48::u49::u50::u51::u52::u53::u54::u55::u56::u57::u58::u59::u60::u61::u62::u63::u64::u65::u66::u67::u68::u69::u70::u71::u72::u73::u74::u75::u76::u77::u78::u79::u80::u81::u82::u83::u84::u85::u86::u87::u88::u89::u90::u91::u92::u93::u94::u95::u96::u97::u98::u99::u100::u101::u102::u103::u104::u105::u106::u107::u108::u109::u110::u111::u112::u113::u114::u115::u116::u117::u118::u119::u120::u121::u122::u123::u124::u125::u126::u127::u128::u129::u130::u131::u132::u133::u134::u135::u136::u137::u138::u139::u140::u141::.int .i64 0::u143::u144::u145::u146::u147::u148::u149::u150::u151::u152::u153::u154::u155::u156::u157::u158::u159::u160::u161::u162::u163::u164::u165::u166::u167::u168::u169::u170::u171::u172::u173::u174::u175::u176::u177::u178::u179::u180::u181::u182::u183::u184::u185::u186::u187::u188::u189::u190::u191::u192::u193::u194::u195::u196::u197::u198::u199::u200::u201::u202::u203::u204::u205::u206::u207::u208::u209::u210::u211::u212::u213::u214::u215::u216::u217::u218::u219::u220::u221::u222::u223::u224::u225::u226::u227::[]),[]⟩ w:=by
 conv=>arg 2;whnf
 go_wp2_with fail
 go_loopw [142,11,12,13,14,15,16,17,18] (CmpR3 w g x s0) (fun i _ _ _ _ _ _ _ _ _=>64 - (intOf i).toNat)
 case atStart=>exact⟨0,s0,by omega,rfl,rfl,rfl,rfl,rfl,rfl,rfl,rfl,rfl,rfl,Below.refl _ w⟩
 case round =>
  obtain⟨k,s,hk,rfl,hs,rfl,rfl,rfl,rfl,rfl,rfl,rfl,rfl,hbr⟩:=hrel;have HS:=Hd hs;clear hs
  by_cases hlt:k<64
  ·have hlt':(k:Int)<64:=by omega
   have xk:=(hbr.cell (p:=⟨X,k,none⟩) hX).trans (hx k hlt);have xg:=(hbr.cell (p:=⟨2,k,none⟩) hG).trans (hg k hlt)
   go_wp2_with fail
   go_quiet (first | (go_at_call 182;with_reducible exact Calls.quiet_of_same (right_6 _ _)) | (go_at_call 182;with_reducible exact Calls.quiet_of_same (right_11 _ _)) | (go_at_call 182;with_reducible exact Calls.quiet_of_same (right_25 _ _)))
   go_wp2_with (first | (go_at_call 182;with_reducible refine (right_2 _ _).mono ?_;rintro e w6 ⟨rfl,rfl⟩) | (go_at_call 182;with_reducible refine (right_13 _ _).mono ?_;rintro e w6 ⟨rfl,rfl⟩) | (go_at_call 182;with_reducible refine (right_22 _ _).mono ?_;rintro e w6 ⟨rfl,rfl⟩))
   go_roundw
   case rel=>exact⟨k+1,rnd (g k) (x k) s,by omega,by go_num,by rw[HS.out];rfl,rfl,rfl,rfl,rfl,rfl,rfl,rfl,rfl,below_drewN hbr _⟩
   case measure=>simp[intOf];omega
  ·obtain rfl:k=64:=by omega
   obtain rfl:=HS.out
   go_wp2_with fail
end Go.Proofs.YtlpmiimgacfmkaaGreatDoor
namespace Go.Proofs.YtlpmiimgacfmkaaGreatDoor
open Go.Proofs.Tryz
open Go.RowKit
structure Fr (S:List Nat) (w w':World):Prop where
 os:w'.os=w.os
 tape:w'.tape=w.tape
 output:w'.output=w.output
 size:w.heap.size<=w'.heap.size
 block:∀ k,k<w.heap.size->k ∉ S->w'.heap[k]?=w.heap[k]?
section
variable {S T:List Nat} {B:Nat} {a w w':World}
theorem Fr.refl (S:List Nat) (w:World):Fr S w w:=⟨rfl,rfl,rfl,nlr _,fun _ _ _=>rfl⟩
theorem Fr.of_below (h:Below w.heap.size w w'):Fr S w w':=⟨h.os,h.tape,h.output,h.size,fun k hk _=>h.block k hk⟩
theorem Fr.below (h:Fr S w w') (hS:∀ k∈S,B<=k) (hB:B<=w.heap.size):Below B w w':=⟨h.os,h.tape,h.output,h.size,fun k hk=>h.block k (by omega) (fun hm=>by have:=hS k hm;omega)⟩
theorem Fr.below0 (h:Fr [] w w'):Below w.heap.size w w':=h.below (by simp) (nlr _)
theorem Fr.trans (h:Fr S a w) (k:Fr T w w') (hT:∀ x∈T,x∈S \/ a.heap.size<=x):Fr S a w' :=
 ⟨k.os.trans h.os,k.tape.trans h.tape,k.output.trans h.output,Nat.le_trans h.size k.size,fun i hi hs=>(k.block i (Nat.lt_of_lt_of_le hi h.size) (fun hm=>by rcases hT i hm with h1 | h1 <;> first | exact hs h1 | omega)).trans (h.block i hi hs)⟩
theorem Fr.then (h:Fr S a w) (k:Fr S w w'):Fr S a w':=h.trans k fun _ hx=>.inl hx
theorem Fr.mono (h:Fr S w w') (hT:∀ x∈S,x∈T \/ w.heap.size<=x):Fr T w w':=⟨h.os,h.tape,h.output,h.size,fun k hk ht=>h.block k hk (fun hm=>by rcases hT k hm with h1 | h1 <;> first | exact ht h1 | omega)⟩
theorem Fr.drew (h:Fr S a w):Fr S a w.drew:=⟨h.os,h.tape,h.output,h.size,h.block⟩
theorem Fr.drewN (h:Fr S a w) (n:Nat):Fr S a (w.drewN n):=⟨h.os,h.tape,h.output,h.size,h.block⟩
theorem Fr.undrew (h:Fr S a.drew w):Fr S a w:=⟨h.os,h.tape,h.output,h.size,h.block⟩
theorem Fr.alloc (h:Fr S a w) (o:Obj):Fr S a (w.alloc o) :=
 h.trans (T:=[]) ⟨rfl,rfl,rfl,by simp,fun k hk _=>Below.heap_alloc _ _ _ hk⟩ (by simp)
theorem Fr.set (h:Fr S a w) {p:Addr} (hp:p.block∈S \/ a.heap.size<=p.block) (u:Value):Fr S a (w.setCell p u) :=
 h.trans (T:=[p.block]) ⟨rfl,rfl,rfl,by simp[World.setCell],fun k _ hk=>Below.heap_setCell _ _ _ _ (by simpa using hk)⟩ (by simpa using hp)
theorem Fr.grown (h:Fr S a w) {row:Option Nat} (hg:w.grownBy w' row) (hr:∀ k,row=some k->k∈S \/ a.heap.size<=k):Fr S a w' :=
 h.trans (T:=row.toList) ⟨hg.os,hg.tape,hg.output,hg.size,fun k hk hk2=>hg.block k hk (fun e=>hk2 (by rw[<-e];simp))⟩ (by intro x hx;exact hr x (by simpa using hx))
theorem Fr.cell (h:Fr S w w') {p:Addr} (hp:p.block<w.heap.size) (hS:p.block ∉ S):w'.cell? p=w.cell? p:=World.cell?_of_block (h.block _ hp hS)
theorem Fr.frozen (h:Fr S w w') {p:Addr} (hp:p.block<w.heap.size) (hS:p.block ∉ S):w'.frozen? p=w.frozen? p:=World.frozen?_of_block (h.block _ hp hS)
theorem Fr.fcell (h:Fr S w w') {b:Nat} (hp:b<w.heap.size) (hS:b ∉ S):∀ o,w'.cell? ⟨b,o,none⟩=w.cell? ⟨b,o,none⟩:=fun _=>h.cell hp hS
end
section
variable {S:List Nat} {w w':World} {b:Nat} {t:TypeId} {cs:Array Value}
theorem BoxN.fr (h:BoxN w b t cs) (hf:Fr S w w') (hb:b ∉ S):BoxN w' b t cs:=(hf.block b h.lt hb).trans h
theorem BoxN.drew (h:BoxN w b t cs):BoxN w.drew b t cs:=h
theorem BoxN.drewN (h:BoxN w b t cs) (n:Nat):BoxN (w.drewN n) b t cs:=h
theorem Row.fr {B size n:Nat} {A:Option Addr} {xs:List Value} (h:Row w B size A n xs) (hf:Fr S w w') (hB:B<=w.heap.size) (hb:∀ a:Addr,A=some a->a.block ∉ S):Row w' B size A n xs :=
 ⟨h.1,fun hn=>by
  obtain⟨b,off,e,hlt,hc⟩:=h.2 hn;exact⟨b,off,e,hlt,fun j u hu=>(hf.cell (p:=⟨b,off+j,none⟩) (by show b<_;omega) (hb ⟨b,off,none⟩ e)).trans (hc j u hu)⟩⟩
theorem own_fr {base:Nat} {e:TypeId} {size n:Nat} {v:Value} {xs:List Value} (h:w.ownsRow base e size v n xs) (hf:Fr S w w') (hb:∀ k,v.ownBlock=some k->k ∉ S):w'.ownsRow base e size v n xs:=by
 obtain⟨h1,h2⟩:=h;refine⟨h1,?_⟩
 rcases h2 with h2 | ⟨g,cap,cur,rfl,hg,hh,r⟩
 ·exact .inl h2
 ·refine .inr ⟨g,cap,cur,rfl,hg,?_,r⟩
  have hlt:g<w.heap.size:=(Array.getElem?_eq_some_iff.1 hh).1;exact (hf.block g hlt (hb g rfl)).trans hh
end
theorem bxz (W : World) (cs : Array Value) (t : TypeId) (b : Nat) (e : b = W.heap.size := by first | rfl | omega) : ∃ X, W.alloc (.cells cs t) = X /\ X.heap.size = b + 1 /\ BoxN X b t cs /\ Fr [] W X := by subst e; exact ⟨_, rfl, World.size_alloc W _, BoxN.new W t cs, (Fr.refl [] W).alloc _⟩
theorem Fq (S : List Nat) (w : World) : Fr S w w := Fr.refl S w
theorem bxn (W : World) (cs : Array Value) (t : TypeId) : ∃ X, W.alloc (.cells cs t) = X /\ BoxN X W.heap.size t cs /\ Fr [] W X := ⟨_, rfl, BoxN.new W t cs, (Fr.refl [] W).alloc _⟩
theorem bxd (W : World) (cs : Array Value) (t : TypeId) : ∃ X, (W.alloc (.cells cs t)).drew = X /\ BoxN X W.heap.size t cs /\ Fr [] W X := ⟨_, rfl, (BoxN.new W t cs).drew, ((Fr.refl [] W).alloc _).drew⟩
end Go.Proofs.YtlpmiimgacfmkaaGreatDoor
