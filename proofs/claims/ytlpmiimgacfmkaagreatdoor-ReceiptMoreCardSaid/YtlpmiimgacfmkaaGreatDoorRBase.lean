/- Part of the proof. -/
import Derived.WalkSpells
import Derived.WalkLawsBesides
import Derived.Lib.Hide
import Derived.Deep.AppendLies
import Derived.BigQuiet
import Derived.RangeFuncSeq
import Derived.Deep.DrawnRows
import Derived.Deep.RegionHeld3
import Derived.StillTailTactics
import Derived.Test.YtlpmiimgacfmkaaGreatDoorProg
set_option linter.all false
set_option maxHeartbeats 4000000
set_option maxRecDepth 100000
namespace Go.Proofs.YtlpmiimgacfmkaaGreatDoor
open Go.Proofs.Tryz
open Go.RowKit
def Row(w:World)(B size:Nat)(A:Option Addr)(n:Nat)(xs:List Value):Prop :=
 xs.length=n*size/\(0<n->∃b off,A=some ⟨b,off,none⟩/\b<B/\∀j u,xs[j]?=some u->w.cell? ⟨b,off+j,none⟩=some u)
section
variable {w w':World} {B B' size n:Nat} {A:Option Addr} {xs:List Value}
theorem Row.nil_:Row w B size A 0 []:=⟨by simp,λh=>absurd h (by omega)⟩
theorem Row.keep(h:Row w B size A n xs)(d:∀p:Addr,p.block<B->w'.cell? p=w.cell? p):Row w' B size A n xs :=
 ⟨h.1,λf=>by
  obtain⟨b,off,e,a,c⟩:=h.2 f;exact⟨b,off,e,a,λj u g=>(d _ a).trans (c j u g)⟩⟩
theorem Row.more(h:Row w B size A n xs)(d:B<=B'):Row w B' size A n xs :=
 ⟨h.1,λc=>by
  obtain⟨b,off,e,f,a⟩:=h.2 c;exact⟨b,off,e,by omega,a⟩⟩
theorem Row.below(h:Row w B size A n xs)(a:Below B w w'):Row w' B size A n xs:=h.keep λ_ b=>a.cell b
theorem Row.at1{k:Nat}(h:Row w B 1 A n xs)(f:k<n):∃b off u,A=some ⟨b,off,none⟩/\b<B/\xs[k]?=some u/\w.cell? ⟨b,off+k,none⟩=some u:=by
 obtain⟨b,off,e,c,d⟩:=h.2 (by omega);have a:k<xs.length:=by have:=h.1;omega
 exact⟨b,off,xs[k],e,c,List.getElem?_eq_getElem a,d k _ (List.getElem?_eq_getElem a)⟩
theorem Row.of_own{base:Nat}{e:TypeId}{c:Nat}(h:w.ownsRow base e size (.slice A n c) n xs):Row w w.heap.size size A n xs:=by
 refine⟨h.1,λf=>?_⟩;obtain⟨g,l,k,_,d⟩:=h.form f;have b:A=some ⟨g,0,none⟩:=by injection k
 subst b;refine⟨g,0,rfl,d,λj u i=>?_⟩;have:=h.cells (g:=g) rfl j u i;unfold Addr.add at this;split at this
 ·next a=>subst a;simpa using this
 ·simpa using this
end
theorem nN{w:World}{base:Nat}{e:TypeId}{size n:Nat}{v:Value}{xs:List Value}(h:w.ownsRow base e size v n xs):∃A c,v=.slice A n c/\Row w w.heap.size size A n xs:=by
 rcases h.2 with⟨rfl,rfl⟩|⟨g,a,b,rfl,_⟩
 ·exact⟨none,0,rfl,h.1,λh=>absurd h (by omega)⟩
 ·exact⟨_,_,rfl,Row.of_own h⟩
theorem nO{w:World}{base:Nat}{e:TypeId}{size n:Nat}{v:Value}{xs:List Value}(h:w.ownsRow base e size v n xs):∀k,v.ownBlock=some k->base<=k:=by
 intro k a
 rcases h.2 with⟨rfl,_⟩|⟨g,b,c,rfl,d,_⟩
 ·simp[Value.ownBlock]at a
 ·have:g=k:=by simpa [Value.ownBlock]using a
  omega
theorem uz{B:Nat}{a w:World}(h:Below B a w)(n:Nat):Below B a (w.drewN n):=⟨h.os,h.tape,h.output,h.size,h.block⟩
abbrev Nm:=List UInt8
def ft(l:Nm):Value:=.string ⟨l.toArray⟩
theorem AU{a b:ByteArray}(h:a.data.toList≠b.data.toList):(a.toList == b.toList)=false:=by
 rw[beq_eq_false_iff_ne];intro e;rw[ByteArray.toList_eq,ByteArray.toList_eq]at e;exact h e
theorem AW{a b:ByteArray}(h:a.data.toList=b.data.toList):(a.toList == b.toList)=true:=by
 rw[beq_iff_eq,ByteArray.toList_eq,ByteArray.toList_eq];exact h
def uA(n:Int):Value:=.int .i64 n
theorem qA{α : Type _}(l : List α)(i : Nat)(a : α): l.toArray.setIfInBounds i a = (l.set i a).toArray := List.setIfInBounds_toArray l i a
theorem qB{α : Type _}{x : α}{xs : List α}{a : α}: (x :: xs).set 0 a = a :: xs := List.set_cons_zero
theorem qC{α : Type _}{x : α}{xs : List α}{i : Nat}{a : α}: (x :: xs).set (i + 1) a = x :: xs.set i a := List.set_cons_succ
theorem qD{α : Type _}{xs : List α}{i : Nat}(h : i < xs.toArray.size): xs.toArray[i] = xs[i]'(by simpa using h) := List.getElem_toArray h
theorem qE{α : Type _}(a : α)(l : List α)(h : 0 < (a :: l).length): (a :: l)[0] = a := List.getElem_cons_zero a l h
theorem qF{α : Type _}(a : α)(l : List α)(i : Nat)(h : i + 1 < (a :: l).length): (a :: l)[i + 1] = l[i]'(by simpa using h) := List.getElem_cons_succ a l i h
theorem qq: (∀(a : Act) (i : Tmp) (v : Value), a.put (some i) v = { a with tmps := a.tmps.setIfInBounds i v }) /\ (∀(a : Act) (v : Value), a.put none v = a) /\ (∀ {α : Type} (l : List α) (i : Nat) (a : α), l.toArray.setIfInBounds i a = (l.set i a).toArray) /\ (∀ {α : Type} {x : α} {xs : List α} {a : α}, (x :: xs).set 0 a = a :: xs) /\ (∀ {α : Type} {x : α} {xs : List α} {i : Nat} {a : α}, (x :: xs).set (i + 1) a = x :: xs.set i a) /\ (∀ {α : Type} {xs : List α} {i : Nat} (h : i < xs.toArray.size), xs.toArray[i] = xs[i]'(by simpa using h)) /\ (∀ {α : Type} (a : α) (l : List α) (h : 0 < (a :: l).length), (a :: l)[0] = a) /\ (∀ {α : Type} (a : α) (l : List α) (i : Nat) (h : i + 1 < (a :: l).length), (a :: l)[i + 1] = l[i]'(by simpa using h)) := ⟨λ_ _ _ => rfl, λ_ _ => rfl, qA, qB, qC, qD, qE, qF⟩
theorem Hd{p : Prop}(h : p): Hid p := Lib.hid h
abbrev qm: Array Value := #[.int .u8 0, .int .u8 0, .int .u8 0, .int .u8 0, .int .u8 0, .int .u8 0, .int .u8 0, .int .u8 0, .int .u8 0, .int .u8 0, .int .u8 0, .int .u8 0, .int .u8 0, .int .u8 0, .int .u8 0, .int .u8 0, .int .u8 0, .int .u8 0, .int .u8 0, .int .u8 0, .int .u8 0, .int .u8 0, .int .u8 0, .int .u8 0, .int .u8 0, .int .u8 0, .int .u8 0, .int .u8 0, .int .u8 0, .int .u8 0, .int .u8 0, .int .u8 0]
theorem gI{α : Type _}{a b : α}: a ∈ [b] ↔ a = b := List.mem_singleton
theorem gG{α : Type _}{ps qs : List α}: (ps ++ qs).length = ps.length + qs.length := List.length_append
theorem gx{α : Type _}{l : List α}{i : Nat}(h : i < l.length): l[i]? = some l[i] := List.getElem?_eq_getElem h
theorem i9{α : Type _}{l : List α}{i : Nat}{a : α}: l[i]? = some a ↔ ∃h : i < l.length, l[i] = a := List.getElem?_eq_some_iff
theorem iu{α : Type _}{l : List α}{i : Nat}{a : α}(h : l[i]? = some a): a ∈ l := List.mem_of_getElem? h
theorem fV(n : Nat): n <= n := Nat.le_refl n
theorem kX(w : World)(o : Obj): (w.alloc o).heap.size = w.heap.size + 1 := World.size_alloc w o
theorem qG{α : Type _}{a : α}{l : List α}{i : Nat}: (a :: l).drop (i + 1) = l.drop i := List.drop_succ_cons
theorem qH{α : Type _}{l : List α}: l.drop 0 = l := List.drop_zero
theorem An{p q : Prop}(a : p)(b : q): p /\ q := ⟨a, b⟩
theorem eR{α : Sort _}(a : α): ∃b, a = b := ⟨a, rfl⟩
theorem qo{p : Prop}(h : p := by omega): p := h
theorem qs{p : Prop}(h : p := by simp): p := h
theorem qk{p : Prop}(h : p := by kernel_rfl): p := h
theorem qr{p : Prop}(h : p := by rfl): p := h
theorem qd{p : Prop}(h : p := by decide): p := h
theorem qu{p q : Prop}(h : p)(e : p -> q := by intro h; simpa using h): q := e h
instance : Coe Int Value := ⟨.int .i64⟩
instance : Coe Nat Value := ⟨λn => .int .i64 (n : Int)⟩
instance : Coe ByteArray Value := ⟨.string⟩
instance : Coe Nat (Option Addr) := ⟨λb => some ⟨b, 0, none⟩⟩
structure C0
structure C1
structure C2
structure C3
structure C4
structure C5
def Cl: C5 := ⟨⟩
def L0: C0 := ⟨⟩
def L1: C1 := ⟨⟩
def L2: C2 := ⟨⟩
def S0: C3 := ⟨⟩
def gz: C4 := ⟨⟩
instance : Coe C0 Value := ⟨λ_ => .int .i64 0⟩
instance : Coe C1 Value := ⟨λ_ => .int .i64 1⟩
instance : Coe C2 Value := ⟨λ_ => .int .i64 2⟩
instance : Coe C3 Value := ⟨λ_ => .string ⟨#[]⟩⟩
instance : Coe C4 Value := ⟨λ_ => .slice none 0 0⟩
instance : CoeFun C5 (λ_ => World -> Nat -> Nat -> Value -> Prop) := ⟨λ_ W b i v => W.cell? ⟨b, i, none⟩ = some v⟩
def kY(n x:Int):Int:=bits BinOp.or IntKind.u32 (x*2 ^ (32 - n).toNat % 4294967296) (x / 2 ^ n.toNat)
theorem CQ(x:Int)(w:World):Calls prog 182 #[.int .i64 2,.int .u32 x] w λe w'=>e=.returned (.int .u32 (kY 2 x))/\w'=w:=by
 go_enter func182,ntmps182
 have a:bits BinOp.and IntKind.u64 (IntKind.u64.wrap (-2)) 31=30:=qr
 go_wp2
 go_ret
 exact⟨rfl,rfl⟩
theorem CR(x:Int)(w:World):Calls prog 182 #[.int .i64 6,.int .u32 x] w λe w'=>e=.returned (.int .u32 (kY 6 x))/\w'=w:=by
 go_enter func182,ntmps182
 have a:bits BinOp.and IntKind.u64 (IntKind.u64.wrap (-6)) 31=26:=qr
 go_wp2
 go_ret
 exact⟨rfl,rfl⟩
theorem CS(x:Int)(w:World):Calls prog 182 #[.int .i64 7,.int .u32 x] w λe w'=>e=.returned (.int .u32 (kY 7 x))/\w'=w:=by
 go_enter func182,ntmps182
 have a:bits BinOp.and IntKind.u64 (IntKind.u64.wrap (-7)) 31=25:=qr
 go_wp2
 go_ret
 exact⟨rfl,rfl⟩
theorem AY(x:Int)(w:World):Calls prog 182 #[.int .i64 11,.int .u32 x] w λe w'=>e=.returned (.int .u32 (kY 11 x))/\w'=w:=by
 go_enter func182,ntmps182
 have a:bits BinOp.and IntKind.u64 (IntKind.u64.wrap (-11)) 31=21:=qr
 go_wp2
 go_ret
 exact⟨rfl,rfl⟩
theorem AZ(x:Int)(w:World):Calls prog 182 #[.int .i64 13,.int .u32 x] w λe w'=>e=.returned (.int .u32 (kY 13 x))/\w'=w:=by
 go_enter func182,ntmps182
 have a:bits BinOp.and IntKind.u64 (IntKind.u64.wrap (-13)) 31=19:=qr
 go_wp2
 go_ret
 exact⟨rfl,rfl⟩
theorem A8(x:Int)(w:World):Calls prog 182 #[.int .i64 17,.int .u32 x] w λe w'=>e=.returned (.int .u32 (kY 17 x))/\w'=w:=by
 go_enter func182,ntmps182
 have a:bits BinOp.and IntKind.u64 (IntKind.u64.wrap (-17)) 31=15:=qr
 go_wp2
 go_ret
 exact⟨rfl,rfl⟩
theorem A9(x:Int)(w:World):Calls prog 182 #[.int .i64 18,.int .u32 x] w λe w'=>e=.returned (.int .u32 (kY 18 x))/\w'=w:=by
 go_enter func182,ntmps182
 have a:bits BinOp.and IntKind.u64 (IntKind.u64.wrap (-18)) 31=14:=qr
 go_wp2
 go_ret
 exact⟨rfl,rfl⟩
theorem Ba(x:Int)(w:World):Calls prog 182 #[.int .i64 19,.int .u32 x] w λe w'=>e=.returned (.int .u32 (kY 19 x))/\w'=w:=by
 go_enter func182,ntmps182
 have a:bits BinOp.and IntKind.u64 (IntKind.u64.wrap (-19)) 31=13:=qr
 go_wp2
 go_ret
 exact⟨rfl,rfl⟩
theorem Bb(x:Int)(w:World):Calls prog 182 #[.int .i64 22,.int .u32 x] w λe w'=>e=.returned (.int .u32 (kY 22 x))/\w'=w:=by
 go_enter func182,ntmps182
 have a:bits BinOp.and IntKind.u64 (IntKind.u64.wrap (-22)) 31=10:=qr
 go_wp2
 go_ret
 exact⟨rfl,rfl⟩
theorem Bc(x:Int)(w:World):Calls prog 182 #[.int .i64 25,.int .u32 x] w λe w'=>e=.returned (.int .u32 (kY 25 x))/\w'=w:=by
 go_enter func182,ntmps182
 have a:bits BinOp.and IntKind.u64 (IntKind.u64.wrap (-25)) 31=7:=qr
 go_wp2
 go_ret
 exact⟨rfl,rfl⟩
def BoxN(W:World)(B:Nat)(t:TypeId)(cs:Array Value):Prop:=W.heap[B]?=some (.cells cs t (0,0))
section
variable {W W':World} {B:Nat} {t:TypeId} {cs:Array Value}
theorem BoxN.lt(h:BoxN W B t cs):B<W.heap.size:=(Array.getElem?_eq_some_iff.1 h).1
theorem BoxN.c(h:BoxN W B t cs)(j:Nat):W.cell? ⟨B,j,none⟩=cs[j]?:=by simp[World.cell?,show W.heap[B]?=_ from h]
theorem BoxN.f(h:BoxN W B t cs)(j:Nat):W.frozen? ⟨B,j,none⟩=false:=by simp[World.frozen?,show W.heap[B]?=_ from h]
theorem BoxN.new(W:World)(t:TypeId)(cs:Array Value):BoxN (W.alloc (.cells cs t)) W.heap.size t cs:=World.alloc_heap_new W _
theorem BoxN.kept{row:Option Nat}(h:BoxN W B t cs)(a:W.grownBy W' row)(b:some B≠row):BoxN W' B t cs:=(a.block B h.lt b).trans h
theorem BoxN.alloc(h:BoxN W B t cs)(o:Obj):BoxN (W.alloc o) B t cs:=h.kept (World.grownBy_alloc W o none) qs
theorem BoxN.later(h:BoxN W B t cs)(a:Below W.heap.size W W'):BoxN W' B t cs:=(a.block B h.lt).trans h
end
section
variable {W W':World} {B:Nat} {t:TypeId} {cs:Array Value}
theorem BoxN.setAt(h:BoxN W B t cs)(j:Nat)(x:Value):BoxN (W.setCell ⟨B,j,none⟩ x) B t (cs.setIfInBounds j x):=by
 obtain⟨b,a⟩:=Array.getElem?_eq_some_iff.1 h
 show (W.heap.modify B _)[B]?=_
 rw[Array.getElem?_eq_getElem (by rw[Array.size_modify];exact b),Array.getElem_modify_self,a];rfl
end
theorem BoxN.k0{W : World}{b : Nat}{t : TypeId}{v0 : Value}{l : List Value}(h : BoxN W b t (List.toArray (v0 :: l))): W.cell? ⟨b, 0, none⟩ = some v0 := h.c 0
theorem BoxN.k1{W : World}{b : Nat}{t : TypeId}{v0 v1 : Value}{l : List Value}(h : BoxN W b t (List.toArray (v0 :: v1 :: l))): W.cell? ⟨b, 1, none⟩ = some v1 := h.c 1
theorem BoxN.k2{W : World}{b : Nat}{t : TypeId}{v0 v1 v2 : Value}{l : List Value}(h : BoxN W b t (List.toArray (v0 :: v1 :: v2 :: l))): W.cell? ⟨b, 2, none⟩ = some v2 := h.c 2
theorem BoxN.k3{W : World}{b : Nat}{t : TypeId}{v0 v1 v2 v3 : Value}{l : List Value}(h : BoxN W b t (List.toArray (v0 :: v1 :: v2 :: v3 :: l))): W.cell? ⟨b, 3, none⟩ = some v3 := h.c 3
theorem BoxN.k4{W : World}{b : Nat}{t : TypeId}{v0 v1 v2 v3 v4 : Value}{l : List Value}(h : BoxN W b t (List.toArray (v0 :: v1 :: v2 :: v3 :: v4 :: l))): W.cell? ⟨b, 4, none⟩ = some v4 := h.c 4
theorem BoxN.k5{W : World}{b : Nat}{t : TypeId}{v0 v1 v2 v3 v4 v5 : Value}{l : List Value}(h : BoxN W b t (List.toArray (v0 :: v1 :: v2 :: v3 :: v4 :: v5 :: l))): W.cell? ⟨b, 5, none⟩ = some v5 := h.c 5
theorem BoxN.k6{W : World}{b : Nat}{t : TypeId}{v0 v1 v2 v3 v4 v5 v6 : Value}{l : List Value}(h : BoxN W b t (List.toArray (v0 :: v1 :: v2 :: v3 :: v4 :: v5 :: v6 :: l))): W.cell? ⟨b, 6, none⟩ = some v6 := h.c 6
theorem BoxN.k7{W : World}{b : Nat}{t : TypeId}{v0 v1 v2 v3 v4 v5 v6 v7 : Value}{l : List Value}(h : BoxN W b t (List.toArray (v0 :: v1 :: v2 :: v3 :: v4 :: v5 :: v6 :: v7 :: l))): W.cell? ⟨b, 7, none⟩ = some v7 := h.c 7
theorem BoxN.m2{W : World}{b : Nat}{t : TypeId}{v0 v1 : Value}{l : List Value}(h : BoxN W b t (List.toArray (v0 :: v1 :: l))): W.cell? ⟨b, 0, none⟩ = some v0 /\ W.cell? ⟨b, 1, none⟩ = some v1 := ⟨h.c 0, h.c 1⟩
theorem BoxN.m3{W : World}{b : Nat}{t : TypeId}{v0 v1 v2 : Value}{l : List Value}(h : BoxN W b t (List.toArray (v0 :: v1 :: v2 :: l))): W.cell? ⟨b, 0, none⟩ = some v0 /\ W.cell? ⟨b, 1, none⟩ = some v1 /\ W.cell? ⟨b, 2, none⟩ = some v2 := ⟨h.c 0, h.c 1, h.c 2⟩
theorem BoxN.m4{W : World}{b : Nat}{t : TypeId}{v0 v1 v2 v3 : Value}{l : List Value}(h : BoxN W b t (List.toArray (v0 :: v1 :: v2 :: v3 :: l))): W.cell? ⟨b, 0, none⟩ = some v0 /\ W.cell? ⟨b, 1, none⟩ = some v1 /\ W.cell? ⟨b, 2, none⟩ = some v2 /\ W.cell? ⟨b, 3, none⟩ = some v3 := ⟨h.c 0, h.c 1, h.c 2, h.c 3⟩
theorem BoxN.m5{W : World}{b : Nat}{t : TypeId}{v0 v1 v2 v3 v4 : Value}{l : List Value}(h : BoxN W b t (List.toArray (v0 :: v1 :: v2 :: v3 :: v4 :: l))): W.cell? ⟨b, 0, none⟩ = some v0 /\ W.cell? ⟨b, 1, none⟩ = some v1 /\ W.cell? ⟨b, 2, none⟩ = some v2 /\ W.cell? ⟨b, 3, none⟩ = some v3 /\ W.cell? ⟨b, 4, none⟩ = some v4 := ⟨h.c 0, h.c 1, h.c 2, h.c 3, h.c 4⟩
theorem BoxN.m6{W : World}{b : Nat}{t : TypeId}{v0 v1 v2 v3 v4 v5 : Value}{l : List Value}(h : BoxN W b t (List.toArray (v0 :: v1 :: v2 :: v3 :: v4 :: v5 :: l))): W.cell? ⟨b, 0, none⟩ = some v0 /\ W.cell? ⟨b, 1, none⟩ = some v1 /\ W.cell? ⟨b, 2, none⟩ = some v2 /\ W.cell? ⟨b, 3, none⟩ = some v3 /\ W.cell? ⟨b, 4, none⟩ = some v4 /\ W.cell? ⟨b, 5, none⟩ = some v5 := ⟨h.c 0, h.c 1, h.c 2, h.c 3, h.c 4, h.c 5⟩
theorem BoxN.m7{W : World}{b : Nat}{t : TypeId}{v0 v1 v2 v3 v4 v5 v6 : Value}{l : List Value}(h : BoxN W b t (List.toArray (v0 :: v1 :: v2 :: v3 :: v4 :: v5 :: v6 :: l))): W.cell? ⟨b, 0, none⟩ = some v0 /\ W.cell? ⟨b, 1, none⟩ = some v1 /\ W.cell? ⟨b, 2, none⟩ = some v2 /\ W.cell? ⟨b, 3, none⟩ = some v3 /\ W.cell? ⟨b, 4, none⟩ = some v4 /\ W.cell? ⟨b, 5, none⟩ = some v5 /\ W.cell? ⟨b, 6, none⟩ = some v6 := ⟨h.c 0, h.c 1, h.c 2, h.c 3, h.c 4, h.c 5, h.c 6⟩
theorem BoxN.m8{W : World}{b : Nat}{t : TypeId}{v0 v1 v2 v3 v4 v5 v6 v7 : Value}{l : List Value}(h : BoxN W b t (List.toArray (v0 :: v1 :: v2 :: v3 :: v4 :: v5 :: v6 :: v7 :: l))): W.cell? ⟨b, 0, none⟩ = some v0 /\ W.cell? ⟨b, 1, none⟩ = some v1 /\ W.cell? ⟨b, 2, none⟩ = some v2 /\ W.cell? ⟨b, 3, none⟩ = some v3 /\ W.cell? ⟨b, 4, none⟩ = some v4 /\ W.cell? ⟨b, 5, none⟩ = some v5 /\ W.cell? ⟨b, 6, none⟩ = some v6 /\ W.cell? ⟨b, 7, none⟩ = some v7 := ⟨h.c 0, h.c 1, h.c 2, h.c 3, h.c 4, h.c 5, h.c 6, h.c 7⟩
attribute [local go_sem ↓] Go.wp_at_zero Go.wp_at_succ
def mv:Code->Option Nat
 | .region k _ _=>some k
 | .seq a _=>mv a
 | .block _ c=>mv c
 | .scope c=>mv c
 | .loop c=>mv c
 | _=>none
def ls(n:Nat):Code->Option Code
 | .seq a b=>if mv a=some n then some (.seq a b)else match ls n b with
  | some c=>some c
  | none=>ls n a
 | .block _ c=>ls n c
 | .scope c=>ls n c
 | .loop c=>ls n c
 | _=>none
attribute [local go_sem ↓] Go.wp_at_zero Go.wp_at_succ
def jJ(n:Nat):Code->Option Code
 | .seq a b=>match jJ n a with
  | some c=>some c
  | none=>jJ n b
 | .block i c=>if mv c=some n then some (.block i c)else jJ n c
 | .scope c=>jJ n c
 | .loop c=>jJ n c
 | _=>none
noncomputable def Fe:Code:=((Tryz.f144).body.bind (jJ 16)).getD .skip
structure H8 where
 a:Int
 b:Int
 c:Int
 d:Int
 e:Int
 f:Int
 g:Int
 h:Int
def Ff(s:H8)(g x:Int):Int :=
 (s.h+bits .xor .u32 (bits .xor .u32 (kY 6 s.e) (kY 11 s.e)) (kY 25 s.e)+bits .xor .u32 (bits .and .u32 s.e s.f) (bits .and .u32 (bits .xor .u32 (if IntKind.u32.signed=true then -1 else IntKind.u32.max) s.e) s.g)+g+x) % 4294967296
def Gc(s:H8):Int :=
 (bits .xor .u32 (bits .xor .u32 (kY 2 s.a) (kY 13 s.a)) (kY 22 s.a)+bits .xor .u32 (bits .xor .u32 (bits .and .u32 s.a s.b) (bits .and .u32 s.a s.c)) (bits .and .u32 s.b s.c)) % 4294967296
def rnd(g x:Int)(s:H8):H8:=⟨(Ff s g x+Gc s) % 4294967296,s.a,s.b,s.c,(s.d+Ff s g x) % 4294967296,s.e,s.f,s.g⟩
def jT(g x:Nat->Int):Nat->H8->H8
 | 0,s=>s
 | k+1,s=>rnd (g k) (x k) (jT g x k s)
def Fg(w:World)(g x:Nat->Int)(j:H8)(i l m n o p q r t:Value)(W:World):Prop :=
 ∃(k:Nat) (s:H8),k<=64/\i=.int .i64 (k:Int)/\s=jT g x k j/\l=.int .u32 s.a/\m=.int .u32 s.b/\n=.int .u32 s.c/\o=.int .u32 s.d/\p=.int .u32 s.e/\q=.int .u32 s.f/\r=.int .u32 s.g/\t=.int .u32 s.h/\Below w.heap.size w W
theorem yL(o:Act->World->Prop)(KK:Exit->Act->World->Prop)(X:Nat)(l:H8)(g x:Nat->Int)(w:World)(hX:X<w.heap.size)(hG:2<w.heap.size)(hx:∀j,j<64->w.cell? ⟨X,j,none⟩=some (.int .u32 (x j)))(hg:∀j,j<64->w.cell? ⟨2,j,none⟩=some (.int .u32 (g j)))
 (t u u2 u3 u5 u6 u7 u8 u9 v d1 ec ei aH aQ aR aS aT aU aV aW aX aY aZ a3 a4 a5 a6 a7 a8 a9 ba bb bc bd be bf bg bh bi bj bk bm bn bo bp bq br bs bt bu bv bw bx bz bA bB bC bD bE bF bG bH bI bJ bK bL bM bN bO bP bQ bR bS bT bU bV bW bX bY bZ b0 b1 b2 b3 b4 b5 b6 b7 b8 b9 y z A B C D E F G H I J K L M N O P Q R S T U V Y Z aa ab ac ad ae af ag ah ai aj ak al am an ao ap df dg dh di dj dk dl dm dn dp dq dr ds dt du dv dw dx dy dz dA dB dC dD dE dF dG dH dI dJ dK dL dM dN dO dP dQ dR dS dT dU dV dW dX dY dZ d0 d2 d3 d4 d5 d6 d7 d8 d9 ea eb ed ee ef eg eh aq ar au av aw ax ay az aA aB aC aD aE aF aG aI aJ aK aL aM aN aO aP:Value) (hq:∀(cX c8 de ca cb cc cd ce cf ch ci cj ck cl cm cn co cp cq cr cs ct cu cv cw cx cy cz cA cB cC cD cE cF cG cH cI cJ cK cL cM cN cO cP cQ cR cS cT cU cV cW cY cZ c0 c1 c2 c3 c4 c5 c6 c7 c9 da db dc dd:Value) (W:World),Below w.heap.size w W->o ⟨List.toArray (t::u::u2::u3::.pointer (some ⟨X,0,none⟩)::u5::u6::u7::u8::u9::v::.int .u32 (jT g x 64 l).a::.int .u32 (jT g x 64 l).b::.int .u32 (jT g x 64 l).c::.int .u32 (jT g x 64 l).d::.int .u32 (jT g x 64 l).e::.int .u32 (jT g x 64 l).f::.int .u32 (jT g x 64 l).g::.int .u32 (jT g x 64 l).h::cX::c8::de::aH::aQ::aR::aS::aT::aU::aV::aW::aX::aY::aZ::a3::a4::a5::a6::a7::a8::a9::ba::bb::bc::bd::be::bf::bg::bh::bi::bj::bk::bm::bn::bo::bp::bq::br::bs::bt::bu::bv::bw::bx::bz::bA::bB::bC::bD::bE::bF::bG::bH::bI::bJ::bK::bL::bM::bN::bO::bP::bQ::bR::bS::bT::bU::bV::bW::bX::bY::bZ::b0::b1::b2::b3::b4::b5::b6::b7::b8::b9::y::z::A::B::C::D::E::F::G::H::I::J::K::L::M::N::O::P::Q::R::S::T::U::V::Y::Z::aa::ab::ac::ad::ae::af::ag::ah::ai::aj::ak::al::am::an::ao::ap::ca::cb::cc::cd::ce::cf::ch::ci::cj::ck::cl::cm::cn::co::cp::cq::cr::cs::ct::cu::cv::cw::cx::cy::cz::cA::cB::cC::cD::cE::cF::cG::cH::cI::cJ::cK::cL::cM::cN::cO::cP::cQ::cR::cS::cT::cU::cV::cW::cY::cZ::c0::c1::c2::c3::c4::c5::c6::c7::c9::da::db::dc::dd::aq::ar::au::av::aw::ax::ay::az::aA::aB::aC::aD::aE::aF::aG::aI::aJ::aK::aL::aM::aN::aO::aP::[]),[]⟩ W):Code.wp prog Fe (Exit.then o KK) ⟨List.toArray (t::u::u2::u3::.pointer (some ⟨X,0,none⟩)::u5::u6::u7::u8::u9::v::.int .u32 l.a::.int .u32 l.b::.int .u32 l.c::.int .u32 l.d::.int .u32 l.e::.int .u32 l.f::.int .u32 l.g::.int .u32 l.h::d1::ec::ei::aH::aQ::aR::aS::aT::aU::aV::aW::aX::aY::aZ::a3::a4::a5::a6::a7::a8::a9::ba::bb::bc::bd::be::bf::bg::bh::bi::bj::bk::bm::bn::bo::bp::bq::br::bs::bt::bu::bv::bw::bx::bz::bA::bB::bC::bD::bE::bF::bG::bH::bI::bJ::bK::bL::bM::bN::bO::bP::bQ::bR::bS::bT::bU::bV::bW::bX::bY::bZ::b0::b1::b2::b3::b4::b5::b6::b7::b8::b9::y::z::A::B::C::D::E::F::G::H::I::J::K::L::M::N::O::P::Q::R::S::T::U::V::Y::Z::aa::ab::ac::ad::ae::af::ag::ah::ai::aj::ak::al::am::an::ao::ap::.int .i64 0::df::dg::dh::di::dj::dk::dl::dm::dn::dp::dq::dr::ds::dt::du::dv::dw::dx::dy::dz::dA::dB::dC::dD::dE::dF::dG::dH::dI::dJ::dK::dL::dM::dN::dO::dP::dQ::dR::dS::dT::dU::dV::dW::dX::dY::dZ::d0::d2::d3::d4::d5::d6::d7::d8::d9::ea::eb::ed::ee::ef::eg::eh::aq::ar::au::av::aw::ax::ay::az::aA::aB::aC::aD::aE::aF::aG::aI::aJ::aK::aL::aM::aN::aO::aP::[]),[]⟩ w:=by
 conv=>arg 2;whnf
 go_wp2_with fail
 go_loopw [142,11,12,13,14,15,16,17,18] (Fg w g x l) (λi _ _ _ _ _ _ _ _ _=>64 - (intOf i).toNat)
 case atStart=>exact⟨0,l,qo,rfl,rfl,rfl,rfl,rfl,rfl,rfl,rfl,rfl,rfl,Below.refl _ w⟩
 case round =>
  obtain⟨k,s,hk,rfl,r,rfl,rfl,rfl,rfl,rfl,rfl,rfl,rfl,m⟩:=hrel;have n:=Hd r;clear r
  by_cases q:k<64
  ·have ej:(k:Int)<64:=qo
   have xk:=(m.cell (p:=⟨X,k,none⟩) hX).trans (hx k q);have xg:=(m.cell (p:=⟨2,k,none⟩) hG).trans (hg k q)
   go_wp2_with fail
   go_quiet (first|(go_at_call 182;with_reducible exact Calls.quiet_of_same (CR _ _))|(go_at_call 182;with_reducible exact Calls.quiet_of_same (AY _ _))|(go_at_call 182;with_reducible exact Calls.quiet_of_same (Bc _ _)))
   go_wp2_with (first|(go_at_call 182;with_reducible refine(CQ _ _).mono ?_;rintro e w6 ⟨rfl,rfl⟩)|(go_at_call 182;with_reducible refine(AZ _ _).mono ?_;rintro e w6 ⟨rfl,rfl⟩)|(go_at_call 182;with_reducible refine(Bb _ _).mono ?_;rintro e w6 ⟨rfl,rfl⟩))
   go_roundw
   case rel=>exact⟨k+1,rnd (g k) (x k) s,qo,by go_num,by rw[n.out];rfl,rfl,rfl,rfl,rfl,rfl,rfl,rfl,rfl,uz m _⟩
   case measure=>simp[intOf];omega
  ·obtain rfl:k=64:=qo
   obtain rfl:=n.out
   go_wp2_with fail
structure Fr(S:List Nat)(w w':World):Prop where
 os:w'.os=w.os
 tape:w'.tape=w.tape
 output:w'.output=w.output
 size:w.heap.size<=w'.heap.size
 block:∀k,k<w.heap.size->k ∉ S->w'.heap[k]?=w.heap[k]?
section
variable {S T:List Nat} {B:Nat} {a w w':World}
theorem Fr.refl(S:List Nat)(w:World):Fr S w w:=⟨rfl,rfl,rfl,fV _,λ_ _ _=>rfl⟩
theorem Fr.of_below(h:Below w.heap.size w w'):Fr S w w':=⟨h.os,h.tape,h.output,h.size,λk c _=>h.block k c⟩
theorem Fr.below(h:Fr S w w')(c:∀k∈S,B<=k)(e:B<=w.heap.size):Below B w w':=⟨h.os,h.tape,h.output,h.size,λk f=>h.block k qo (λd=>by have:=c k d;omega)⟩
theorem Fr.below0(h:Fr [] w w'):Below w.heap.size w w':=h.below qs (fV _)
theorem Fr.trans(h:Fr S a w)(k:Fr T w w')(f:∀x∈T,x∈S \/ a.heap.size<=x):Fr S a w' :=
 ⟨k.os.trans h.os,k.tape.trans h.tape,k.output.trans h.output,Nat.le_trans h.size k.size,λi d e=>(k.block i (Nat.lt_of_lt_of_le d h.size) (λg=>by rcases f i g with c|c <;> first|exact e c|omega)).trans (h.block i d e)⟩
theorem Fr.then(h:Fr S a w)(k:Fr S w w'):Fr S a w':=h.trans k λ_ c=>.inl c
theorem Fr.mono(h:Fr S w w')(d:∀x∈S,x∈T \/ w.heap.size<=x):Fr T w w':=⟨h.os,h.tape,h.output,h.size,λk e g=>h.block k e (λf=>by rcases d k f with c|c <;> first|exact g c|omega)⟩
theorem Fr.drew(h:Fr S a w):Fr S a w.drew:=⟨h.os,h.tape,h.output,h.size,h.block⟩
theorem Fr.drewN(h:Fr S a w)(n:Nat):Fr S a (w.drewN n):=⟨h.os,h.tape,h.output,h.size,h.block⟩
theorem Fr.undrew(h:Fr S a.drew w):Fr S a w:=⟨h.os,h.tape,h.output,h.size,h.block⟩
theorem Fr.alloc(h:Fr S a w)(o:Obj):Fr S a (w.alloc o) :=
 h.trans (T:=[]) ⟨rfl,rfl,rfl,qs,λk c _=>Below.heap_alloc _ _ _ c⟩ qs
theorem Fr.set(h:Fr S a w){p:Addr}(d:p.block∈S \/ a.heap.size<=p.block)(u:Value):Fr S a (w.setCell p u) :=
 h.trans (T:=[p.block]) ⟨rfl,rfl,rfl,by simp[World.setCell],λk _ c=>Below.heap_setCell _ _ _ _ (by simpa using c)⟩ (by simpa using d)
theorem Fr.grown(h:Fr S a w){row:Option Nat}(c:w.grownBy w' row)(g:∀k,row=some k->k∈S \/ a.heap.size<=k):Fr S a w' :=
 h.trans (T:=row.toList) ⟨c.os,c.tape,c.output,c.size,λk d f=>c.block k d (λe=>f (by rw[<-e];simp))⟩ (by intro x i;exact g x (by simpa using i))
theorem Fr.cell(h:Fr S w w'){p:Addr}(d:p.block<w.heap.size)(c:p.block ∉ S):w'.cell? p=w.cell? p:=World.cell?_of_block (h.block _ d c)
theorem Fr.frozen(h:Fr S w w'){p:Addr}(d:p.block<w.heap.size)(c:p.block ∉ S):w'.frozen? p=w.frozen? p:=World.frozen?_of_block (h.block _ d c)
theorem Fr.fcell(h:Fr S w w'){b:Nat}(d:b<w.heap.size)(c:b ∉ S):∀o,w'.cell? ⟨b,o,none⟩=w.cell? ⟨b,o,none⟩:=λ_=>h.cell d c
end
section
variable {S:List Nat} {w w':World} {b:Nat} {t:TypeId} {cs:Array Value}
theorem BoxN.fr(h:BoxN w b t cs)(d:Fr S w w')(c:b ∉ S):BoxN w' b t cs:=(d.block b h.lt c).trans h
theorem BoxN.drew(h:BoxN w b t cs):BoxN w.drew b t cs:=h
theorem BoxN.drewN(h:BoxN w b t cs)(n:Nat):BoxN (w.drewN n) b t cs:=h
theorem Row.fr{B c n:Nat}{A:Option Addr}{xs:List Value}(h:Row w B c A n xs)(g:Fr S w w')(m:B<=w.heap.size)(d:∀a:Addr,A=some a->a.block ∉ S):Row w' B c A n xs :=
 ⟨h.1,λk=>by
  obtain⟨b,off,e,i,f⟩:=h.2 k;exact⟨b,off,e,i,λj u l=>(g.cell (p:=⟨b,off+j,none⟩) (by show b<_;omega) (d ⟨b,off,none⟩ e)).trans (f j u l)⟩⟩
theorem Ew{base:Nat}{e:TypeId}{f n:Nat}{v:Value}{xs:List Value}(j:w.ownsRow base e f v n xs)(o:Fr S w w')(m:∀k,v.ownBlock=some k->k ∉ S):w'.ownsRow base e f v n xs:=by
 obtain⟨l,c⟩:=j;refine⟨l,?_⟩
 rcases c with c|⟨g,h,i,rfl,p,d,r⟩
 ·exact .inl c
 ·refine .inr ⟨g,h,i,rfl,p,?_,r⟩
  have q:=(Array.getElem?_eq_some_iff.1 d).1;exact(o.block g q (m g rfl)).trans d
end
theorem Fr.st{S : List Nat}{a w : World}(h : Fr S a w){p : Addr}(u : Value)(hp : p.block ∈ S := by simp): Fr S a (w.setCell p u) := h.set (.inl hp) u
theorem GC(W : World)(B : Nat){t : TypeId}{c0 c1 : Value}(h : BoxN W B t #[c0, c1])(v0 v1 : Value): ∃X, ((W).setCell ⟨B, 0, none⟩ v0).setCell ⟨B, 1, none⟩ v1 = X /\ BoxN X B t #[v0, v1] /\ Fr [B] W X := by
  obtain ⟨c, e0⟩ : ∃X, W.setCell ⟨B, 0, none⟩ v0 = X := ⟨_, rfl⟩
  have i : BoxN c B t #[v0, c1] := by rw [<- e0]; exact h.setAt 0 _
  have f : Fr [B] W c := by rw [<- e0]; exact(Fr.refl [B] W).set (.inl qs) _
  obtain ⟨e, d⟩ : ∃X, c.setCell ⟨B, 1, none⟩ v1 = X := ⟨_, rfl⟩
  have j : BoxN e B t #[v0, v1] := by rw [<- d]; exact i.setAt 1 _
  have g : Fr [B] c e := by rw [<- d]; exact(Fr.refl [B] c).set (.inl qs) _
  rw [e0, d]
  exact⟨_, rfl, j, (f.then g)⟩
theorem GD(W : World)(B : Nat){t : TypeId}{c0 c1 c2 : Value}(h : BoxN W B t #[c0, c1, c2])(v0 v1 v2 : Value): ∃X, (((W).setCell ⟨B, 0, none⟩ v0).setCell ⟨B, 1, none⟩ v1).setCell ⟨B, 2, none⟩ v2 = X /\ BoxN X B t #[v0, v1, v2] /\ Fr [B] W X := by
  obtain ⟨c, e0⟩ : ∃X, W.setCell ⟨B, 0, none⟩ v0 = X := ⟨_, rfl⟩
  have l : BoxN c B t #[v0, c1, c2] := by rw [<- e0]; exact h.setAt 0 _
  have i : Fr [B] W c := by rw [<- e0]; exact(Fr.refl [B] W).set (.inl qs) _
  obtain ⟨d, e⟩ : ∃X, c.setCell ⟨B, 1, none⟩ v1 = X := ⟨_, rfl⟩
  have m : BoxN d B t #[v0, v1, c2] := by rw [<- e]; exact l.setAt 1 _
  have j : Fr [B] c d := by rw [<- e]; exact(Fr.refl [B] c).set (.inl qs) _
  obtain ⟨g, f⟩ : ∃X, d.setCell ⟨B, 2, none⟩ v2 = X := ⟨_, rfl⟩
  have n : BoxN g B t #[v0, v1, v2] := by rw [<- f]; exact m.setAt 2 _
  have k : Fr [B] d g := by rw [<- f]; exact(Fr.refl [B] d).set (.inl qs) _
  rw [e0, e, f]
  exact⟨_, rfl, n, ((i.then j).then k)⟩
theorem Gv(W : World)(B : Nat){t : TypeId}{c0 c1 c2 c3 : Value}(h : BoxN W B t #[c0, c1, c2, c3])(v0 v1 v2 v3 : Value): ∃X, ((((W).setCell ⟨B, 0, none⟩ v0).setCell ⟨B, 1, none⟩ v1).setCell ⟨B, 2, none⟩ v2).setCell ⟨B, 3, none⟩ v3 = X /\ BoxN X B t #[v0, v1, v2, v3] /\ Fr [B] W X := by
  obtain ⟨c, e0⟩ : ∃X, W.setCell ⟨B, 0, none⟩ v0 = X := ⟨_, rfl⟩
  have o : BoxN c B t #[v0, c1, c2, c3] := by rw [<- e0]; exact h.setAt 0 _
  have k : Fr [B] W c := by rw [<- e0]; exact(Fr.refl [B] W).set (.inl qs) _
  obtain ⟨d, f⟩ : ∃X, c.setCell ⟨B, 1, none⟩ v1 = X := ⟨_, rfl⟩
  have p : BoxN d B t #[v0, v1, c2, c3] := by rw [<- f]; exact o.setAt 1 _
  have l : Fr [B] c d := by rw [<- f]; exact(Fr.refl [B] c).set (.inl qs) _
  obtain ⟨e, g⟩ : ∃X, d.setCell ⟨B, 2, none⟩ v2 = X := ⟨_, rfl⟩
  have q : BoxN e B t #[v0, v1, v2, c3] := by rw [<- g]; exact p.setAt 2 _
  have m : Fr [B] d e := by rw [<- g]; exact(Fr.refl [B] d).set (.inl qs) _
  obtain ⟨j, i⟩ : ∃X, e.setCell ⟨B, 3, none⟩ v3 = X := ⟨_, rfl⟩
  have r : BoxN j B t #[v0, v1, v2, v3] := by rw [<- i]; exact q.setAt 3 _
  have n : Fr [B] e j := by rw [<- i]; exact(Fr.refl [B] e).set (.inl qs) _
  rw [e0, f, g, i]
  exact⟨_, rfl, r, (((k.then l).then m).then n)⟩
theorem GF(W : World)(B : Nat){t : TypeId}{c0 c1 c2 c3 c4 : Value}(h : BoxN W B t #[c0, c1, c2, c3, c4])(v0 v1 v2 v3 v4 : Value): ∃X, (((((W).setCell ⟨B, 0, none⟩ v0).setCell ⟨B, 1, none⟩ v1).setCell ⟨B, 2, none⟩ v2).setCell ⟨B, 3, none⟩ v3).setCell ⟨B, 4, none⟩ v4 = X /\ BoxN X B t #[v0, v1, v2, v3, v4] /\ Fr [B] W X := by
  obtain ⟨c, e0⟩ : ∃X, W.setCell ⟨B, 0, none⟩ v0 = X := ⟨_, rfl⟩
  have r : BoxN c B t #[v0, c1, c2, c3, c4] := by rw [<- e0]; exact h.setAt 0 _
  have m : Fr [B] W c := by rw [<- e0]; exact(Fr.refl [B] W).set (.inl qs) _
  obtain ⟨d, g⟩ : ∃X, c.setCell ⟨B, 1, none⟩ v1 = X := ⟨_, rfl⟩
  have s : BoxN d B t #[v0, v1, c2, c3, c4] := by rw [<- g]; exact r.setAt 1 _
  have n : Fr [B] c d := by rw [<- g]; exact(Fr.refl [B] c).set (.inl qs) _
  obtain ⟨e, i⟩ : ∃X, d.setCell ⟨B, 2, none⟩ v2 = X := ⟨_, rfl⟩
  have u : BoxN e B t #[v0, v1, v2, c3, c4] := by rw [<- i]; exact s.setAt 2 _
  have o : Fr [B] d e := by rw [<- i]; exact(Fr.refl [B] d).set (.inl qs) _
  obtain ⟨f, j⟩ : ∃X, e.setCell ⟨B, 3, none⟩ v3 = X := ⟨_, rfl⟩
  have v : BoxN f B t #[v0, v1, v2, v3, c4] := by rw [<- j]; exact u.setAt 3 _
  have p : Fr [B] e f := by rw [<- j]; exact(Fr.refl [B] e).set (.inl qs) _
  obtain ⟨l, k⟩ : ∃X, f.setCell ⟨B, 4, none⟩ v4 = X := ⟨_, rfl⟩
  have x : BoxN l B t #[v0, v1, v2, v3, v4] := by rw [<- k]; exact v.setAt 4 _
  have q : Fr [B] f l := by rw [<- k]; exact(Fr.refl [B] f).set (.inl qs) _
  rw [e0, g, i, j, k]
  exact⟨_, rfl, x, ((((m.then n).then o).then p).then q)⟩
theorem qN(W : World)(B : Nat){t : TypeId}{c0 c1 c2 c3 c4 c5 : Value}(h : BoxN W B t #[c0, c1, c2, c3, c4, c5])(v0 v1 v2 v3 v4 v5 : Value): ∃X, ((((((W).setCell ⟨B, 0, none⟩ v0).setCell ⟨B, 1, none⟩ v1).setCell ⟨B, 2, none⟩ v2).setCell ⟨B, 3, none⟩ v3).setCell ⟨B, 4, none⟩ v4).setCell ⟨B, 5, none⟩ v5 = X /\ BoxN X B t #[v0, v1, v2, v3, v4, v5] /\ Fr [B] W X := by
  obtain ⟨c, e0⟩ : ∃X, W.setCell ⟨B, 0, none⟩ v0 = X := ⟨_, rfl⟩
  have v : BoxN c B t #[v0, c1, c2, c3, c4, c5] := by rw [<- e0]; exact h.setAt 0 _
  have o : Fr [B] W c := by rw [<- e0]; exact(Fr.refl [B] W).set (.inl qs) _
  obtain ⟨d, i⟩ : ∃X, c.setCell ⟨B, 1, none⟩ v1 = X := ⟨_, rfl⟩
  have x : BoxN d B t #[v0, v1, c2, c3, c4, c5] := by rw [<- i]; exact v.setAt 1 _
  have p : Fr [B] c d := by rw [<- i]; exact(Fr.refl [B] c).set (.inl qs) _
  obtain ⟨e, j⟩ : ∃X, d.setCell ⟨B, 2, none⟩ v2 = X := ⟨_, rfl⟩
  have y : BoxN e B t #[v0, v1, v2, c3, c4, c5] := by rw [<- j]; exact x.setAt 2 _
  have q : Fr [B] d e := by rw [<- j]; exact(Fr.refl [B] d).set (.inl qs) _
  obtain ⟨f, k⟩ : ∃X, e.setCell ⟨B, 3, none⟩ v3 = X := ⟨_, rfl⟩
  have z : BoxN f B t #[v0, v1, v2, v3, c4, c5] := by rw [<- k]; exact y.setAt 3 _
  have r : Fr [B] e f := by rw [<- k]; exact(Fr.refl [B] e).set (.inl qs) _
  obtain ⟨g, l⟩ : ∃X, f.setCell ⟨B, 4, none⟩ v4 = X := ⟨_, rfl⟩
  have A : BoxN g B t #[v0, v1, v2, v3, v4, c5] := by rw [<- l]; exact z.setAt 4 _
  have s : Fr [B] f g := by rw [<- l]; exact(Fr.refl [B] f).set (.inl qs) _
  obtain ⟨n, m⟩ : ∃X, g.setCell ⟨B, 5, none⟩ v5 = X := ⟨_, rfl⟩
  have C : BoxN n B t #[v0, v1, v2, v3, v4, v5] := by rw [<- m]; exact A.setAt 5 _
  have u : Fr [B] g n := by rw [<- m]; exact(Fr.refl [B] g).set (.inl qs) _
  rw [e0, i, j, k, l, m]
  exact⟨_, rfl, C, (((((o.then p).then q).then r).then s).then u)⟩
theorem AP(W : World)(B : Nat){t : TypeId}{c0 c1 c2 c3 c4 c5 c6 : Value}(h : BoxN W B t #[c0, c1, c2, c3, c4, c5, c6])(v0 v1 v2 v3 v4 v5 v6 : Value): ∃X, (((((((W).setCell ⟨B, 0, none⟩ v0).setCell ⟨B, 1, none⟩ v1).setCell ⟨B, 2, none⟩ v2).setCell ⟨B, 3, none⟩ v3).setCell ⟨B, 4, none⟩ v4).setCell ⟨B, 5, none⟩ v5).setCell ⟨B, 6, none⟩ v6 = X /\ BoxN X B t #[v0, v1, v2, v3, v4, v5, v6] /\ Fr [B] W X := by
  obtain ⟨c, e0⟩ : ∃X, W.setCell ⟨B, 0, none⟩ v0 = X := ⟨_, rfl⟩
  have z : BoxN c B t #[v0, c1, c2, c3, c4, c5, c6] := by rw [<- e0]; exact h.setAt 0 _
  have q : Fr [B] W c := by rw [<- e0]; exact(Fr.refl [B] W).set (.inl qs) _
  obtain ⟨d, j⟩ : ∃X, c.setCell ⟨B, 1, none⟩ v1 = X := ⟨_, rfl⟩
  have A : BoxN d B t #[v0, v1, c2, c3, c4, c5, c6] := by rw [<- j]; exact z.setAt 1 _
  have r : Fr [B] c d := by rw [<- j]; exact(Fr.refl [B] c).set (.inl qs) _
  obtain ⟨e, k⟩ : ∃X, d.setCell ⟨B, 2, none⟩ v2 = X := ⟨_, rfl⟩
  have C : BoxN e B t #[v0, v1, v2, c3, c4, c5, c6] := by rw [<- k]; exact A.setAt 2 _
  have s : Fr [B] d e := by rw [<- k]; exact(Fr.refl [B] d).set (.inl qs) _
  obtain ⟨f, l⟩ : ∃X, e.setCell ⟨B, 3, none⟩ v3 = X := ⟨_, rfl⟩
  have D : BoxN f B t #[v0, v1, v2, v3, c4, c5, c6] := by rw [<- l]; exact C.setAt 3 _
  have u : Fr [B] e f := by rw [<- l]; exact(Fr.refl [B] e).set (.inl qs) _
  obtain ⟨g, m⟩ : ∃X, f.setCell ⟨B, 4, none⟩ v4 = X := ⟨_, rfl⟩
  have E : BoxN g B t #[v0, v1, v2, v3, v4, c5, c6] := by rw [<- m]; exact D.setAt 4 _
  have v : Fr [B] f g := by rw [<- m]; exact(Fr.refl [B] f).set (.inl qs) _
  obtain ⟨i, n⟩ : ∃X, g.setCell ⟨B, 5, none⟩ v5 = X := ⟨_, rfl⟩
  have F : BoxN i B t #[v0, v1, v2, v3, v4, v5, c6] := by rw [<- n]; exact E.setAt 5 _
  have x : Fr [B] g i := by rw [<- n]; exact(Fr.refl [B] g).set (.inl qs) _
  obtain ⟨p, o⟩ : ∃X, i.setCell ⟨B, 6, none⟩ v6 = X := ⟨_, rfl⟩
  have G : BoxN p B t #[v0, v1, v2, v3, v4, v5, v6] := by rw [<- o]; exact F.setAt 6 _
  have y : Fr [B] i p := by rw [<- o]; exact(Fr.refl [B] i).set (.inl qs) _
  rw [e0, j, k, l, m, n, o]
  exact⟨_, rfl, G, ((((((q.then r).then s).then u).then v).then x).then y)⟩
theorem GH(W : World)(B : Nat){t : TypeId}{c0 c1 c2 c3 c4 c5 c6 c7 : Value}(h : BoxN W B t #[c0, c1, c2, c3, c4, c5, c6, c7])(v0 v1 v2 v3 v4 v5 v6 v7 : Value): ∃X, ((((((((W).setCell ⟨B, 0, none⟩ v0).setCell ⟨B, 1, none⟩ v1).setCell ⟨B, 2, none⟩ v2).setCell ⟨B, 3, none⟩ v3).setCell ⟨B, 4, none⟩ v4).setCell ⟨B, 5, none⟩ v5).setCell ⟨B, 6, none⟩ v6).setCell ⟨B, 7, none⟩ v7 = X /\ BoxN X B t #[v0, v1, v2, v3, v4, v5, v6, v7] /\ Fr [B] W X := by
  obtain ⟨c, e0⟩ : ∃X, W.setCell ⟨B, 0, none⟩ v0 = X := ⟨_, rfl⟩
  have D : BoxN c B t #[v0, c1, c2, c3, c4, c5, c6, c7] := by rw [<- e0]; exact h.setAt 0 _
  have s : Fr [B] W c := by rw [<- e0]; exact(Fr.refl [B] W).set (.inl qs) _
  obtain ⟨d, k⟩ : ∃X, c.setCell ⟨B, 1, none⟩ v1 = X := ⟨_, rfl⟩
  have E : BoxN d B t #[v0, v1, c2, c3, c4, c5, c6, c7] := by rw [<- k]; exact D.setAt 1 _
  have u : Fr [B] c d := by rw [<- k]; exact(Fr.refl [B] c).set (.inl qs) _
  obtain ⟨e, l⟩ : ∃X, d.setCell ⟨B, 2, none⟩ v2 = X := ⟨_, rfl⟩
  have F : BoxN e B t #[v0, v1, v2, c3, c4, c5, c6, c7] := by rw [<- l]; exact E.setAt 2 _
  have v : Fr [B] d e := by rw [<- l]; exact(Fr.refl [B] d).set (.inl qs) _
  obtain ⟨f, m⟩ : ∃X, e.setCell ⟨B, 3, none⟩ v3 = X := ⟨_, rfl⟩
  have G : BoxN f B t #[v0, v1, v2, v3, c4, c5, c6, c7] := by rw [<- m]; exact F.setAt 3 _
  have x : Fr [B] e f := by rw [<- m]; exact(Fr.refl [B] e).set (.inl qs) _
  obtain ⟨g, n⟩ : ∃X, f.setCell ⟨B, 4, none⟩ v4 = X := ⟨_, rfl⟩
  have H : BoxN g B t #[v0, v1, v2, v3, v4, c5, c6, c7] := by rw [<- n]; exact G.setAt 4 _
  have y : Fr [B] f g := by rw [<- n]; exact(Fr.refl [B] f).set (.inl qs) _
  obtain ⟨i, o⟩ : ∃X, g.setCell ⟨B, 5, none⟩ v5 = X := ⟨_, rfl⟩
  have I : BoxN i B t #[v0, v1, v2, v3, v4, v5, c6, c7] := by rw [<- o]; exact H.setAt 5 _
  have z : Fr [B] g i := by rw [<- o]; exact(Fr.refl [B] g).set (.inl qs) _
  obtain ⟨j, p⟩ : ∃X, i.setCell ⟨B, 6, none⟩ v6 = X := ⟨_, rfl⟩
  have J : BoxN j B t #[v0, v1, v2, v3, v4, v5, v6, c7] := by rw [<- p]; exact I.setAt 6 _
  have A : Fr [B] i j := by rw [<- p]; exact(Fr.refl [B] i).set (.inl qs) _
  obtain ⟨r, q⟩ : ∃X, j.setCell ⟨B, 7, none⟩ v7 = X := ⟨_, rfl⟩
  have K : BoxN r B t #[v0, v1, v2, v3, v4, v5, v6, v7] := by rw [<- q]; exact J.setAt 7 _
  have C : Fr [B] j r := by rw [<- q]; exact(Fr.refl [B] j).set (.inl qs) _
  rw [e0, k, l, m, n, o, p, q]
  exact⟨_, rfl, K, (((((((s.then u).then v).then x).then y).then z).then A).then C)⟩
theorem il(W : World)(cs : Array Value)(t : TypeId)(b : Nat)(e : b = W.heap.size := by first|rfl|omega): ∃X, W.alloc (.cells cs t) = X /\ X.heap.size = b + 1 /\ BoxN X b t cs /\ Fr [] W X := by subst e; exact⟨_, rfl, World.size_alloc W _, BoxN.new W t cs, (Fr.refl [] W).alloc _⟩
theorem Fq(S : List Nat)(w : World): Fr S w w := Fr.refl S w
theorem kS(W : World)(cs : Array Value)(t : TypeId): ∃X, W.alloc (.cells cs t) = X /\ BoxN X W.heap.size t cs /\ Fr [] W X := ⟨_, rfl, BoxN.new W t cs, (Fr.refl [] W).alloc _⟩
theorem sf(W : World)(cs : Array Value)(t : TypeId): ∃X, (W.alloc (.cells cs t)).drew = X /\ BoxN X W.heap.size t cs /\ Fr [] W X := ⟨_, rfl, (BoxN.new W t cs).drew, ((Fr.refl [] W).alloc _).drew⟩
attribute [local go_sem ↓] Go.wp_at_zero Go.wp_at_succ
theorem jK{P:Program}(w:World)(t e:TypeId)(n:Nat)(cs:Array Value)(k:IntKind)(i:Nat)(v:Value)(h:P.underlying t=some (.array n e))(d:∀w,(Go.sizeOf e).run P w=.ok 1 w)(a:∀w,(isAgg e).run P w=.ok false w)(g:i<n)(c:cs[i]?=some v):
 (Instr.index t (.agg cs) (.int k (i:Int))).run P w=.ok v w:=by
 have b:0<=(i:Int)/\(i:Int)<(n:Int):=qo
 simp[Instr.index,run_underlying h,asIntOf,b,go_sem,d,a,c];intro f;omega
def Ef(b:Nat->Int)(t:Nat):Int :=
 bits .or .u32 (bits .or .u32 (bits .or .u32 (b (4*t) % 4294967296*16777216 % 4294967296) (b (4*t+1) % 4294967296*65536 % 4294967296)) (b (4*t+2) % 4294967296*256 % 4294967296)) (b (4*t+3) % 4294967296)
def Fh(x:Int):Int:=bits .xor .u32 (bits .xor .u32 (kY 7 x) (kY 18 x)) (x / 8)
def Fi(y:Int):Int:=bits .xor .u32 (bits .xor .u32 (kY 17 y) (kY 19 y)) (y / 1024)
def ie(b:Nat->Int)(t:Nat):Int :=
 if a:t<16 then Ef b t
 else(ie b (t - 16)+Fh (ie b (t - 15))+ie b (t - 7)+Fi (ie b (t - 2))) % 4294967296
termination_by t
theorem Bd{b:Nat->Int}{t:Nat}(h:t<16):ie b t=Ef b t:=by rw[ie,dif_pos h]
theorem Be{b:Nat->Int}{t:Nat}(h:¬t<16):ie b t=(ie b (t - 16)+Fh (ie b (t - 15))+ie b (t - 7)+Fi (ie b (t - 2))) % 4294967296:=by rw[ie,dif_neg h]
def Eg(w:World)(X:Nat)(b:Nat->Int)(n m:Nat)(i:Value)(W:World):Prop :=
 ∃(k:Nat) (cs:Array Value),n<=k/\k<=m/\i=.int .i64 (k:Int)/\BoxN W X 309 cs/\cs.size=64/\(∀j,j<k->cs[j]?=some (.int .u32 (ie b j)))/\Fr [X] w W
theorem qO{cs:Array Value}{k:Nat}{b:Nat->Int}{v:Value}(c:cs.size=64)(f:k<64)(a:v=.int .u32 (ie b k))(h:∀j,j<k->cs[j]?=some (.int .u32 (ie b j))):∀j,j<k+1->(cs.setIfInBounds k v)[j]?=some (.int .u32 (ie b j)):=by
 intro j d
 by_cases e:k=j
 ·subst e
  rw[Array.getElem?_setIfInBounds_self,if_pos qo,a]
 ·rw[Array.getElem?_setIfInBounds_ne e]
  exact h j qo
noncomputable def Fj:Code:=((Tryz.f144).body.bind (jJ 2)).getD .skip
theorem yM(q:Act->World->Prop)(KK:Exit->Act->World->Prop)(X a e:Nat)(b:Nat->Int)(w:World)(o:Array Value)(d:BoxN w X 309 o)(h:o.size=64)(l:a<w.heap.size)(cH:a≠X)(m:∀j,j<64->w.cell? ⟨a,e+j,none⟩=some (.int .u8 (b j)))
 (t u2 u3 u5 u6 u7 ck u9 u G R ae ap aC aN aY bc bo bA bL bW b5 dq dr ds dt du dv dw dx dy dz dA dB dC dD dE dF dG dH dI dJ dK dL dM dN dO dP dQ dR dS dT dU dV dW dX dY dZ d0 d1 d2 d3 d4 d5 b6 b7 b8 b9 ca cb cc cd ce cf ch ci cj cl cm cn co cp cq cr ct cu cv cw cx cy cz cA cB cC cD cE cF v x y z A B C D E F H I J K L M N O P Q S T U V Y Z aa ab ac ad af ag ah ai aj ak al am an ao aq ar au av aw ax ay az aA aB aD aE aF aG aH aI aJ aK aL aM aO aP aQ aR aS aT aU aV aW aX aZ a3 a4 a5 a6 a7 a8 a9 ba bb bd be bf bg bh bi bj bk bm bn bp bq br bs bt bu bv bw bx bz bB bC bD bE bF bG bH bI bJ bK bM bN bO bP bQ bR bS bT bU bV bX bY bZ b0 b1 b2 b3 b4:Value) (r:∀(t5 cI cJ cK cL cM cN cO cP cQ cR cS cT cU cV cW cX cY cZ c0 c1 c2 c3 c4 c5 c6 c7 c8 c9 da db dc dd de df dg dh di dj dk dl dm dn dp:Value) (W:World),∀cs:Array Value,BoxN W X 309 cs->cs.size=64->(∀j,j<16->cs[j]?=some (.int .u32 (ie b j)))->Fr [X] w W->q ⟨List.toArray (t::.pointer (some ⟨a,e,none⟩)::u2::u3::.pointer (some ⟨X,0,none⟩)::t5::u6::u7::ck::u9::u::G::R::ae::ap::aC::aN::aY::bc::bo::bA::bL::bW::b5::cI::cJ::cK::cL::cM::cN::cO::cP::cQ::cR::cS::cT::cU::cV::cW::cX::cY::cZ::c0::c1::c2::c3::c4::c5::c6::c7::c8::c9::da::db::dc::dd::de::df::dg::dh::di::dj::dk::dl::dm::dn::dp::b6::b7::b8::b9::ca::cb::cc::cd::ce::cf::ch::ci::cj::cl::cm::cn::co::cp::cq::cr::ct::cu::cv::cw::cx::cy::cz::cA::cB::cC::cD::cE::cF::v::x::y::z::A::B::C::D::E::F::H::I::J::K::L::M::N::O::P::Q::S::T::U::V::Y::Z::aa::ab::ac::ad::af::ag::ah::ai::aj::ak::al::am::an::ao::aq::ar::au::av::aw::ax::ay::az::aA::aB::aD::aE::aF::aG::aH::aI::aJ::aK::aL::aM::aO::aP::aQ::aR::aS::aT::aU::aV::aW::aX::aZ::a3::a4::a5::a6::a7::a8::a9::ba::bb::bd::be::bf::bg::bh::bi::bj::bk::bm::bn::bp::bq::br::bs::bt::bu::bv::bw::bx::bz::bB::bC::bD::bE::bF::bG::bH::bI::bJ::bK::bM::bN::bO::bP::bQ::bR::bS::bT::bU::bV::bX::bY::bZ::b0::b1::b2::b3::b4::[]),[]⟩ W):Code.wp prog Fj (Exit.then q KK) ⟨List.toArray (t::.pointer (some ⟨a,e,none⟩)::u2::u3::.pointer (some ⟨X,0,none⟩)::u5::u6::u7::ck::u9::u::G::R::ae::ap::aC::aN::aY::bc::bo::bA::bL::bW::b5::.int .i64 0::dq::dr::ds::dt::du::dv::dw::dx::dy::dz::dA::dB::dC::dD::dE::dF::dG::dH::dI::dJ::dK::dL::dM::dN::dO::dP::dQ::dR::dS::dT::dU::dV::dW::dX::dY::dZ::d0::d1::d2::d3::d4::d5::b6::b7::b8::b9::ca::cb::cc::cd::ce::cf::ch::ci::cj::cl::cm::cn::co::cp::cq::cr::ct::cu::cv::cw::cx::cy::cz::cA::cB::cC::cD::cE::cF::v::x::y::z::A::B::C::D::E::F::H::I::J::K::L::M::N::O::P::Q::S::T::U::V::Y::Z::aa::ab::ac::ad::af::ag::ah::ai::aj::ak::al::am::an::ao::aq::ar::au::av::aw::ax::ay::az::aA::aB::aD::aE::aF::aG::aH::aI::aJ::aK::aL::aM::aO::aP::aQ::aR::aS::aT::aU::aV::aW::aX::aZ::a3::a4::a5::a6::a7::a8::a9::ba::bb::bd::be::bf::bg::bh::bi::bj::bk::bm::bn::bp::bq::br::bs::bt::bu::bv::bw::bx::bz::bB::bC::bD::bE::bF::bG::bH::bI::bJ::bK::bM::bN::bO::bP::bQ::bR::bS::bT::bU::bV::bX::bY::bZ::b0::b1::b2::b3::b4::[]),[]⟩ w:=by
 have HQ:=Hd r;clear r
 conv=>arg 2;whnf
 go_wp2_with fail
 have n:a ∉ [X]:=by simpa using cH
 have H0:=Hd d;clear d
 go_loopw [24] (Eg w X b 0 16) (λi _=>16 - (intOf i).toNat)
 case atStart=>exact⟨0,o,qo,qo,rfl,H0.out,h,λj hj=>absurd hj qo,Fq _ w⟩
 case round =>
  clear h;obtain⟨k,cs,ea,hk,rfl,d,h,s,g⟩:=hrel
  by_cases cG:k<16
  ·have eb:(k:Int)<16:=qo
   have d6:=(g.cell (p:=⟨a,e+4*k,none⟩) l n).trans (m (4*k) qo);have d7:=(g.cell (p:=⟨a,e+(4*k+1),none⟩) l n).trans (m (4*k+1) qo);have d8:=(g.cell (p:=⟨a,e+(4*k+2),none⟩) l n).trans (m (4*k+2) qo);have d9:=(g.cell (p:=⟨a,e+(4*k+3),none⟩) l n).trans (m (4*k+3) qo);have xk:=(d.c k).trans (Array.getElem?_eq_getElem qo);have xf:=d.f k
   go_wp2_with fail
   have q0:IntKind.i64.wrap (4*(k:Int))=4*(k:Int):=by simp only[IntKind.wrap_i64];omega
   have q1:IntKind.i64.wrap (4*(k:Int)+1)=4*(k:Int)+1:=by simp only[IntKind.wrap_i64];omega
   have q2:IntKind.i64.wrap (4*(k:Int)+2)=4*(k:Int)+2:=by simp only[IntKind.wrap_i64];omega
   have q3:IntKind.i64.wrap (4*(k:Int)+3)=4*(k:Int)+3:=by simp only[IntKind.wrap_i64];omega
   have n0:(4*(k:Int)).toNat=4*k:=qo
   have n1:(4*(k:Int)+1).toNat=4*k+1:=qo
   have n2:(4*(k:Int)+2).toNat=4*k+2:=qo
   have n3:(4*(k:Int)+3).toNat=4*k+3:=qo
   have l0:(0:Int)<=4*(k:Int):=qo
   have l1:(0:Int)<=4*(k:Int)+1:=qo
   have l2:(0:Int)<=4*(k:Int)+2:=qo
   have l3:(0:Int)<=4*(k:Int)+3:=qo
   have m0:4*(k:Int)<64:=qo
   have m1:4*(k:Int)+1<64:=qo
   have m2:4*(k:Int)+2<64:=qo
   have m3:4*(k:Int)+3<64:=qo
   have m9:(k:Int)<64:=qo
   go_still_tail 38,qk
   go_wp2_with fail
   go_roundw
   case rel=>exact⟨k+1,_,qo,qo,by go_num,d.setAt k _,by simpa using h,qO h qo (by rw[Bd cG];rfl) s,(g.set (p:=⟨X,k,none⟩) qs _).drew⟩
   case measure=>simp[intOf];omega
  ·obtain rfl:k=16:=qo
   have HB:=Hd d;have HW:=Hd s;have HF:=Hd g;rw[show ((16:Nat):Int)=16 from rfl]
   go_wp2_with fail
   exact HQ.out _ _ _ _ _ _ _ _ _ _ _ _ _ _ _ _ _ _ _ _ _ _ _ _ _ _ _ _ _ _ _ _ _ _ _ _ _ _ _ _ _ _ _ _ wr _ HB.out h HW.out HF.out
noncomputable def Fk:Code:=((Tryz.f144).body.bind (jJ 7)).getD .skip
theorem yN(r:Act->World->Prop)(KK:Exit->Act->World->Prop)(X:Nat)(b:Nat->Int)(w:World)(l:Array Value)(a:BoxN w X 309 l)(h:l.size=64)(v:∀j,j<16->l[j]?=some (.int .u32 (ie b j)))
 (x y u2 u3 u5 u7 u8 u9 dt z K V ai av aG aR a5 bg bs bE bP bY bZ b0 b1 b2 b3 b4 b5 b6 b7 b8 b9 ca cb cc cd ce cf ch ci cj ck cl cm cn co cp cq cr ct cu cv cw cx cy cz cA cB cC cD cE cF cG cH dE dF dG dH dI dJ dK dL dM dN dO dP dQ dR dS dT dU dV dW dX dY dZ d0 d1 d2 d3 d4 d5 d6 d7 d8 d9 ea du dv dw dx dy dz dA dB dC dD A B C D E F G H I J L M N O P Q R S T U Y Z aa ab ac ad ae af ag ah aj ak al am an ao ap aq ar au aw ax ay az aA aB aC aD aE aF aH aI aJ aK aL aM aN aO aP aQ aS aT aU aV aW aX aY aZ a3 a4 a6 a7 a8 a9 ba bb bc bd be bf bh bi bj bk bm bn bo bp bq br bt bu bv bw bx bz bA bB bC bD bF bG bH bI bJ bK bL bM bN bO bQ bR bS bT bU bV bW bX:Value) (u:∀(t6 t7 t8 t9 cK cV cW cX cY cZ c0 c1 c2 c3 c4 c5 c6 c7 c8 c9 da db dc dd de df dg dh di dj dk dl dm dn dp dq dr ds cL cM cN cO cP cQ cR cS cT cU:Value) (W:World),∀cs:Array Value,BoxN W X 309 cs->cs.size=64->(∀j,j<64->cs[j]?=some (.int .u32 (ie b j)))->Fr [X] w W->r ⟨List.toArray (x::y::u2::u3::.pointer (some ⟨X,0,none⟩)::u5::t6::t7::t8::t9::cK::z::K::V::ai::av::aG::aR::a5::bg::bs::bE::bP::bY::bZ::b0::b1::b2::b3::b4::b5::b6::b7::b8::b9::ca::cb::cc::cd::ce::cf::ch::ci::cj::ck::cl::cm::cn::co::cp::cq::cr::ct::cu::cv::cw::cx::cy::cz::cA::cB::cC::cD::cE::cF::cG::cH::cV::cW::cX::cY::cZ::c0::c1::c2::c3::c4::c5::c6::c7::c8::c9::da::db::dc::dd::de::df::dg::dh::di::dj::dk::dl::dm::dn::dp::dq::dr::ds::cL::cM::cN::cO::cP::cQ::cR::cS::cT::cU::A::B::C::D::E::F::G::H::I::J::L::M::N::O::P::Q::R::S::T::U::Y::Z::aa::ab::ac::ad::ae::af::ag::ah::aj::ak::al::am::an::ao::ap::aq::ar::au::aw::ax::ay::az::aA::aB::aC::aD::aE::aF::aH::aI::aJ::aK::aL::aM::aN::aO::aP::aQ::aS::aT::aU::aV::aW::aX::aY::aZ::a3::a4::a6::a7::a8::a9::ba::bb::bc::bd::be::bf::bh::bi::bj::bk::bm::bn::bo::bp::bq::br::bt::bu::bv::bw::bx::bz::bA::bB::bC::bD::bF::bG::bH::bI::bJ::bK::bL::bM::bN::bO::bQ::bR::bS::bT::bU::bV::bW::bX::[]),[]⟩ W):Code.wp prog Fk (Exit.then r KK) ⟨List.toArray (x::y::u2::u3::.pointer (some ⟨X,0,none⟩)::u5::.int .i64 16::u7::u8::u9::dt::z::K::V::ai::av::aG::aR::a5::bg::bs::bE::bP::bY::bZ::b0::b1::b2::b3::b4::b5::b6::b7::b8::b9::ca::cb::cc::cd::ce::cf::ch::ci::cj::ck::cl::cm::cn::co::cp::cq::cr::ct::cu::cv::cw::cx::cy::cz::cA::cB::cC::cD::cE::cF::cG::cH::dE::dF::dG::dH::dI::dJ::dK::dL::dM::dN::dO::dP::dQ::dR::dS::dT::dU::dV::dW::dX::dY::dZ::d0::d1::d2::d3::d4::d5::d6::d7::d8::d9::ea::du::dv::dw::dx::dy::dz::dA::dB::dC::dD::A::B::C::D::E::F::G::H::I::J::L::M::N::O::P::Q::R::S::T::U::Y::Z::aa::ab::ac::ad::ae::af::ag::ah::aj::ak::al::am::an::ao::ap::aq::ar::au::aw::ax::ay::az::aA::aB::aC::aD::aE::aF::aH::aI::aJ::aK::aL::aM::aN::aO::aP::aQ::aS::aT::aU::aV::aW::aX::aY::aZ::a3::a4::a6::a7::a8::a9::ba::bb::bc::bd::be::bf::bh::bi::bj::bk::bm::bn::bo::bp::bq::br::bt::bu::bv::bw::bx::bz::bA::bB::bC::bD::bF::bG::bH::bI::bJ::bK::bL::bM::bN::bO::bQ::bR::bS::bT::bU::bV::bW::bX::[]),[]⟩ w:=by
 have HQ:=Hd u;clear u
 conv=>arg 2;whnf
 go_wp2_with fail
 have H0:=Hd a;have H1:=Hd v;clear a v
 go_loopw [6] (Eg w X b 16 64) (λi _=>64 - (intOf i).toNat)
 case atStart=>exact⟨16,l,qo,qo,rfl,H0.out,h,H1.out,Fq _ w⟩
 case round =>
  clear h;obtain⟨k,cs,eb,hk,rfl,a,h,d,n⟩:=hrel
  by_cases ec:k<64
  ·have ed:(k:Int)<64:=qo
   have x1:wr.cell? ⟨X,k - 15,none⟩=some (.int .u32 (ie b (k - 15))):=(a.c _).trans (d _ qo);have x2:wr.cell? ⟨X,k - 2,none⟩=some (.int .u32 (ie b (k - 2))):=(a.c _).trans (d _ qo);have x3:wr.cell? ⟨X,k - 16,none⟩=some (.int .u32 (ie b (k - 16))):=(a.c _).trans (d _ qo);have x4:wr.cell? ⟨X,k - 7,none⟩=some (.int .u32 (ie b (k - 7))):=(a.c _).trans (d _ qo);have xk:wr.cell? ⟨X,k,none⟩=some cs[k]:=(a.c k).trans (Array.getElem?_eq_getElem qo);have xf:=a.f k
   go_wp2_with fail
   have q1:IntKind.i64.wrap ((k:Int) - 15)=(k:Int) - 15:=by simp only[IntKind.wrap_i64];omega
   have q2:IntKind.i64.wrap ((k:Int) - 2)=(k:Int) - 2:=by simp only[IntKind.wrap_i64];omega
   have q3:IntKind.i64.wrap ((k:Int) - 16)=(k:Int) - 16:=by simp only[IntKind.wrap_i64];omega
   have q4:IntKind.i64.wrap ((k:Int) - 7)=(k:Int) - 7:=by simp only[IntKind.wrap_i64];omega
   have n1:((k:Int) - 15).toNat=k - 15:=qo
   have n2:((k:Int) - 2).toNat=k - 2:=qo
   have n3:((k:Int) - 16).toNat=k - 16:=qo
   have n4:((k:Int) - 7).toNat=k - 7:=qo
   have j1:(15:Int)<=(k:Int):=qo
   have j2:(2:Int)<=(k:Int):=qo
   have j3:(16:Int)<=(k:Int):=qo
   have j4:(7:Int)<=(k:Int):=qo
   have m1:(k:Int) - 15<64:=qo
   have m2:(k:Int) - 2<64:=qo
   have m3:(k:Int) - 16<64:=qo
   have m4:(k:Int) - 7<64:=qo
   go_quiet (fail)
   go_wp2_with (first|(go_at_call 182;with_reducible refine(CS _ _).mono ?_;rintro e o ⟨rfl,rfl⟩)|(go_at_call 182;with_reducible refine(A9 _ _).mono ?_;rintro e o ⟨rfl,rfl⟩)|(go_at_call 182;with_reducible refine(A8 _ _).mono ?_;rintro e o ⟨rfl,rfl⟩)|(go_at_call 182;with_reducible refine(Ba _ _).mono ?_;rintro e o ⟨rfl,rfl⟩))
   obtain⟨g,hW⟩:=eR (wr.drewN nq);rw[hW];have y3:g.cell? ⟨X,k - 16,none⟩=some (.int .u32 (ie b (k - 16))):=by rw[<-hW];exact x3
   have y4:g.cell? ⟨X,k - 7,none⟩=some (.int .u32 (ie b (k - 7))):=by rw[<-hW];exact x4
   have yk:g.cell? ⟨X,k,none⟩=some cs[k]:=by rw[<-hW];exact xk
   have yf:g.frozen? ⟨X,k,none⟩=false:=by rw[<-hW];exact xf
   have s:BoxN g X 309 cs:=by rw[<-hW];exact a.drewN nq
   have cJ:Fr [X] w g:=by rw[<-hW];exact n.drewN nq
   have cI:=Hd s;have m:=Hd d;have q:=Hd h;clear hW a n x1 x2 x3 x4 xk xf s d
   go_still_tail 14,qk
   go_wp2_with fail
   go_roundw
   case rel=>exact⟨k+1,_,qo,qo,by go_num,cI.out.setAt k _,by simpa using q.out,qO q.out qo (by rw[Be (t:=k) qo];rfl) m.out,cJ.drew.set (p:=⟨X,k,none⟩) qs _⟩
   case measure=>simp[intOf];omega
  ·obtain rfl:k=64:=qo
   have HB:=Hd a;have m:=Hd d;have HF:=Hd n;rw[show ((64:Nat):Int)=64 from rfl]
   go_wp2_with fail
   exact HQ.out _ _ _ _ _ _ _ _ _ _ _ _ _ _ _ _ _ _ _ _ _ _ _ _ _ _ _ _ _ _ _ _ _ _ _ _ _ _ _ _ _ _ _ _ _ _ _ _ wr _ HB.out h m.out HF.out
def Fl(w:World)(b a:Nat)(t:TypeId)(c:Array Value)(s:Nat->Int)(x:Nat->Int)(i:Value)(W:World):Prop :=
 ∃(k:Nat) (cs:Array Value),k<=8/\i=.int .i64 (k:Int)/\BoxN W b t cs/\cs.size=c.size/\(∀j,j<8->cs[a+j]?=some (.int .u32 (if j<k then(s j+x j) % 4294967296 else s j)))/\(∀o,(o<a \/ a+8<=o)->cs[o]?=c[o]?)/\Fr [b] w W
theorem wE{cs:Array Value}{a k:Nat}{s x:Nat->Int}{v:Value}(g:a+8<=cs.size)(f:k<8)(d:v=.int .u32 ((s k+x k) % 4294967296))(h:∀j,j<8->cs[a+j]?=some (.int .u32 (if j<k then(s j+x j) % 4294967296 else s j))):∀j,j<8->(cs.setIfInBounds (a+k) v)[a+j]?=some (.int .u32 (if j<k+1 then(s j+x j) % 4294967296 else s j)):=by
 intro j c
 by_cases e:k=j
 ·subst e
  rw[Array.getElem?_setIfInBounds_self,if_pos qo,d,if_pos qo]
 ·rw[Array.getElem?_setIfInBounds_ne qo,h j c]
  by_cases b:j<k
  ·rw[if_pos b,if_pos qo]
  ·rw[if_neg b,if_neg qo]
theorem uB{cs b:Array Value}{a k:Nat}{v:Value}(d:k<8)(h:∀o,(o<a \/ a+8<=o)->cs[o]?=b[o]?):∀o,(o<a \/ a+8<=o)->(cs.setIfInBounds (a+k) v)[o]?=b[o]?:=by
 intro o c;rw[Array.getElem?_setIfInBounds_ne qo];exact h o c
noncomputable def Fm:Code:=((Tryz.f144).body.bind (jJ 23)).getD .skip
theorem yO(Q:Exit->Act->World->Prop)(b a:Nat)(t:TypeId)(m:Array Value)(s x:Nat->Int)(w:World)(d:Array Value)(z:BoxN w b t d)(dM:a+8<=d.size)(B:∀j,j<8->d[a+j]?=some (.int .u32 (s j)))(C:∀j,j<8->m[j]?=some (.int .u32 (x j)))
 (D u2 u3 u4 u5 u6 u7 u8 u9 E R ad ao aB aM aX bb bn bz bK bV dB dK bZ b0 b1 b2 b3 b4 b5 b6 b7 b8 b9 ca cb cc cd ce cf ch ci cj ck cl cm cn co cp cq cr ct cu cv cw cx cy cz cA cB cC cD cE cF cG cH cI cJ cK cL cM cN cO cP cQ cR cS cT cU cV cW cX cY cZ c0 c1 c2 c3 c4 c5 c6 c7 c8 c9 da db dc dd de F G H I J K L M N O S T U V X Y Z aa ab ac ae af ag ah ai aj ak al am an ap aq ar au av aw ax ay az aA aC aD aE aF aG aH aI aJ aK aL aN aO aP aQ aR aS aT aU aV aW aY aZ a3 a4 a5 a6 a7 a8 a9 ba bc bd be bf bg bh bi bj bk bm bo bp bq br bs bt bu bv bw bx bA bB bC bD bE bF bG bH bI bJ bL bM bN bO bP bQ bR bS bT bU bW bX bY dw dx dy dz dA dC dD dE dF dG dH dI dJ:Value) (A:∀(dl dv df dg dh di dj dk dm dn dp dq dr ds dt du:Value) (W:World),∀cs:Array Value,BoxN W b t cs->cs.size=d.size->(∀j,j<8->cs[a+j]?=some (.int .u32 ((s j+x j) % 4294967296)))->(∀o,(o<a \/ a+8<=o)->cs[o]?=d[o]?)->Fr [b] w W->Q .normal ⟨List.toArray (.pointer (some ⟨b,a,none⟩)::D::u2::u3::u4::u5::u6::u7::u8::u9::E::R::ad::ao::aB::aM::aX::bb::bn::bz::bK::bV::dl::dv::bZ::b0::b1::b2::b3::b4::b5::b6::b7::b8::b9::ca::cb::cc::cd::ce::cf::ch::ci::cj::ck::cl::cm::cn::co::cp::cq::cr::ct::cu::cv::cw::cx::cy::cz::cA::cB::cC::cD::cE::cF::cG::cH::cI::cJ::cK::cL::cM::cN::cO::cP::cQ::cR::cS::cT::cU::cV::cW::cX::cY::cZ::c0::c1::c2::c3::c4::c5::c6::c7::c8::c9::da::db::dc::dd::de::F::G::H::I::J::K::L::M::N::O::S::T::U::V::X::Y::Z::aa::ab::ac::ae::af::ag::ah::ai::aj::ak::al::am::an::ap::aq::ar::au::av::aw::ax::ay::az::aA::aC::aD::aE::aF::aG::aH::aI::aJ::aK::aL::aN::aO::aP::aQ::aR::aS::aT::aU::aV::aW::aY::aZ::a3::a4::a5::a6::a7::a8::a9::ba::bc::bd::be::bf::bg::bh::bi::bj::bk::bm::bo::bp::bq::br::bs::bt::bu::bv::bw::bx::bA::bB::bC::bD::bE::bF::bG::bH::bI::bJ::bL::bM::bN::bO::bP::bQ::bR::bS::bT::bU::bW::bX::bY::.agg m::df::dg::dh::di::dj::dk::dm::dn::dp::dq::dr::ds::dt::du::[]),[]⟩ W):Code.wp prog Fm Q ⟨List.toArray (.pointer (some ⟨b,a,none⟩)::D::u2::u3::u4::u5::u6::u7::u8::u9::E::R::ad::ao::aB::aM::aX::bb::bn::bz::bK::bV::dB::dK::bZ::b0::b1::b2::b3::b4::b5::b6::b7::b8::b9::ca::cb::cc::cd::ce::cf::ch::ci::cj::ck::cl::cm::cn::co::cp::cq::cr::ct::cu::cv::cw::cx::cy::cz::cA::cB::cC::cD::cE::cF::cG::cH::cI::cJ::cK::cL::cM::cN::cO::cP::cQ::cR::cS::cT::cU::cV::cW::cX::cY::cZ::c0::c1::c2::c3::c4::c5::c6::c7::c8::c9::da::db::dc::dd::de::F::G::H::I::J::K::L::M::N::O::S::T::U::V::X::Y::Z::aa::ab::ac::ae::af::ag::ah::ai::aj::ak::al::am::an::ap::aq::ar::au::av::aw::ax::ay::az::aA::aC::aD::aE::aF::aG::aH::aI::aJ::aK::aL::aN::aO::aP::aQ::aR::aS::aT::aU::aV::aW::aY::aZ::a3::a4::a5::a6::a7::a8::a9::ba::bc::bd::be::bf::bg::bh::bi::bj::bk::bm::bo::bp::bq::br::bs::bt::bu::bv::bw::bx::bA::bB::bC::bD::bE::bF::bG::bH::bI::bJ::bL::bM::bN::bO::bP::bQ::bR::bS::bT::bU::bW::bX::bY::.agg m::.int .i64 0::dw::dx::dy::dz::dA::dC::dD::dE::dF::dG::dH::dI::dJ::[]),[]⟩ w:=by
 have HQ:=Hd A;clear A
 conv=>arg 2;whnf
 go_wp2_with fail
 have H0:=Hd z;have H1:=Hd B;have H2:=Hd C;clear z B C
 go_loopw [214] (Fl w b a t d s x) (λi _=>8 - (intOf i).toNat)
 case atStart=>exact⟨0,d,qo,rfl,H0.out,rfl,λj q=>by rw[if_neg qo];exact H1.out j q,λ_ _=>rfl,Fq _ w⟩
 case round =>
  obtain⟨k,cs,hk,rfl,e,n,h,r,y⟩:=hrel
  by_cases g:k<8
  ·have dL:(k:Int)<8:=qo
   have dN:=jK (P:=prog) wr 162 161 8 m .i64 k _ qk (λ_=>by rfl) (λ_=>by rfl) g (H2.out k g);have xk:wr.cell? ⟨b,a+k,none⟩=some (.int .u32 (s k)):=by have:=(e.c (a+k)).trans (h k g);rwa [if_neg qo]at this
   have xf:=e.f (a+k);have l:=Hd n;have u:=Hd r;have v:=Hd h;clear n r h
   go_wp2_with fail
   go_still_tail 8,qk
   go_wp2_with fail
   go_roundw
   case rel=>exact⟨k+1,_,qo,by go_num,e.setAt (a+k) _,by simpa using l.out,wE (by have:=l.out;omega) g rfl v.out,uB g u.out,(y.set (p:=⟨b,a+k,none⟩) qs _).drew⟩
   case measure=>simp[intOf];omega
  ·obtain rfl:k=8:=qo
   have HB:=Hd e;have v:=Hd h;have HF:=Hd y;have l:=Hd n;have u:=Hd r;clear e h y n r;rw[show ((8:Nat):Int)=8 from rfl]
   go_wp2_with fail
   exact HQ.out _ _ _ _ _ _ _ _ _ _ _ _ _ _ _ _ wr _ HB.out l.out (λj q=>by have:=v.out j q;rwa [if_pos q]at this) u.out HF.out
end Go.Proofs.YtlpmiimgacfmkaaGreatDoor
