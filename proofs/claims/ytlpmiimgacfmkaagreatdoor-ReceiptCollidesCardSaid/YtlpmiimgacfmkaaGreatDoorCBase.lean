/- Part of the proof. -/
import Derived.WalkSpells
import Derived.WalkLawsBesides
import Derived.Lib.Hide
import Derived.Deep.AppendLies
import Derived.BigQuiet
import Derived.RangeFuncSeq
import Derived.StillTailTactics
import Derived.Test.YtlpmiimgacfmkaaGreatDoorProg
set_option linter.all false
namespace Go.Proofs.YtlpmiimgacfmkaaGreatDoor
open Go.Proofs.Tryz List
open Go.RowKit
def Row(w:World)(B size:Nat)(A:Option Addr)(n:Nat)(xs:List Value):Prop :=
 xs.length=n*size/\(0<n->∃b off,A=some ⟨b,off,none⟩/\b<B/\∀j u,xs[j]?=some u->w.cell? ⟨b,off+j,none⟩=some u)
section
variable {w w':World} {B B' size n:Nat} {A:Option Addr} {xs:List Value}
def Row.nil_:Row w B size A 0 []:=⟨by simp,λh=>absurd h (by omega)⟩
def Row.keep(h:Row w B size A n xs)(d:∀p:Addr,p.block<B->w'.cell? p=w.cell? p):Row w' B size A n xs :=
 ⟨h.1,λf=>by
  have⟨b,off,e,a,c⟩:=h.2 f;exact⟨b,off,e,a,λj u g=>(d _ a).trans (c j u g)⟩⟩
def Row.more(h:Row w B size A n xs)(d:B<=B'):Row w B' size A n xs :=
 ⟨h.1,λc=>by
  have⟨b,off,e,f,a⟩:=h.2 c;exact⟨b,off,e,by omega,a⟩⟩
def Row.below(h:Row w B size A n xs)(a:Below B w w'):Row w' B size A n xs:=h.keep λ_ b=>a.cell b
def Row.at1{k:Nat}(h:Row w B 1 A n xs)(f:k<n):∃b off u,A=some ⟨b,off,none⟩/\b<B/\xs[k]?=some u/\w.cell? ⟨b,off+k,none⟩=some u:=by
 have⟨b,off,e,c,d⟩:=h.2 (by omega);have a:k<xs.length:=by have:=h.1;omega
 exact⟨b,off,xs[k],e,c,List.getElem?_eq_getElem a,d k _ (List.getElem?_eq_getElem a)⟩
def Row.of_own{base:Nat}{e:TypeId}{c:Nat}(h:w.ownsRow base e size (.slice A n c) n xs):Row w w.heap.size size A n xs:=by
 refine⟨h.1,λf=>?_⟩;have⟨g,l,k,_,d⟩:=h.form f;have b:A=some ⟨g,0,none⟩:=by injection k
 subst b;refine⟨g,0,rfl,d,λj u i=>?_⟩;have:=h.cells (g:=g) rfl j u i;unfold Addr.add at this;split at this
 ·next a=>subst a;simpa using this
 ·simpa using this
end
def nJ{w:World}{base:Nat}{e:TypeId}{size n:Nat}{v:Value}{xs:List Value}(h:w.ownsRow base e size v n xs):∃A c,v=.slice A n c/\Row w w.heap.size size A n xs:=by
 rcases h.2 with⟨rfl,rfl⟩|⟨g,a,b,rfl,_⟩
 ·exact⟨none,0,rfl,h.1,λh=>absurd h (by omega)⟩
 ·exact⟨_,_,rfl,Row.of_own h⟩
def nK{w:World}{base:Nat}{e:TypeId}{size n:Nat}{v:Value}{xs:List Value}(h:w.ownsRow base e size v n xs):∀k,v.ownBlock=some k->base<=k:=by
 intro k a
 rcases h.2 with⟨rfl,_⟩|⟨g,b,c,rfl,d,_⟩
 ·simp[Value.ownBlock]at a
 ·have:g=k:=by simpa [Value.ownBlock]using a
  omega
def vA{B:Nat}{a w:World}(h:Below B a w)(n:Nat):Below B a (w.drewN n):=⟨h.os,h.tape,h.output,h.size,h.block⟩
abbrev Nm:=List UInt8
def fg(l:Nm):Value:=.string ⟨l.toArray⟩
def uA(s:ByteArray):fg s.data.toList=.string s:=rfl
def Cr{a b:ByteArray}(h:a.data.toList≠b.data.toList):(a.toList == b.toList)=false:=by
 rw[beq_eq_false_iff_ne];intro e;rw[ByteArray.toList_eq,ByteArray.toList_eq]at e;exact h e
def Ct{a b:ByteArray}(h:a.data.toList=b.data.toList):(a.toList == b.toList)=true:=by
 rw[beq_iff_eq,ByteArray.toList_eq,ByteArray.toList_eq];exact h
def vB(n:Int):Value:=.int .i64 n
def qA{α : Type _}(l : List α)(i : Nat)(a : α): l.toArray.setIfInBounds i a = (l.set i a).toArray := setIfInBounds_toArray l i a
def qB{α : Type _}{x : α}{xs : List α}{a : α}: (x :: xs).set 0 a = a :: xs := set_cons_zero
def qC{α : Type _}{x : α}{xs : List α}{i : Nat}{a : α}: (x :: xs).set (i + 1) a = x :: xs.set i a := set_cons_succ
def qD{α : Type _}{xs : List α}{i : Nat}(h : i < xs.toArray.size): xs.toArray[i] = xs[i]'(by simpa using h) := getElem_toArray h
def qE{α : Type _}(a : α)(l : List α)(h : 0 < (a :: l).length): (a :: l)[0] = a := getElem_cons_zero a l h
def qF{α : Type _}(a : α)(l : List α)(i : Nat)(h : i + 1 < (a :: l).length): (a :: l)[i + 1] = l[i]'(by simpa using h) := getElem_cons_succ a l i h
def qq: (∀(a : Act) (i : Tmp) (v : Value), a.put (some i) v = { a with tmps := a.tmps.setIfInBounds i v }) /\ (∀(a : Act) (v : Value), a.put none v = a) /\ (∀ {α : Type} (l : List α) (i : Nat) (a : α), l.toArray.setIfInBounds i a = (l.set i a).toArray) /\ (∀ {α : Type} {x : α} {xs : List α} {a : α}, (x :: xs).set 0 a = a :: xs) /\ (∀ {α : Type} {x : α} {xs : List α} {i : Nat} {a : α}, (x :: xs).set (i + 1) a = x :: xs.set i a) /\ (∀ {α : Type} {xs : List α} {i : Nat} (h : i < xs.toArray.size), xs.toArray[i] = xs[i]'(by simpa using h)) /\ (∀ {α : Type} (a : α) (l : List α) (h : 0 < (a :: l).length), (a :: l)[0] = a) /\ (∀ {α : Type} (a : α) (l : List α) (i : Nat) (h : i + 1 < (a :: l).length), (a :: l)[i + 1] = l[i]'(by simpa using h)) := ⟨λ_ _ _ => rfl, λ_ _ => rfl, qA, qB, qC, qD, qE, qF⟩
def Hd{p : Prop}(h : p): Hid p := Lib.hid h
abbrev qP: Array Value := #[.int .u8 0, .int .u8 0, .int .u8 0, .int .u8 0, .int .u8 0, .int .u8 0, .int .u8 0, .int .u8 0, .int .u8 0, .int .u8 0, .int .u8 0, .int .u8 0, .int .u8 0, .int .u8 0, .int .u8 0, .int .u8 0, .int .u8 0, .int .u8 0, .int .u8 0, .int .u8 0, .int .u8 0, .int .u8 0, .int .u8 0, .int .u8 0, .int .u8 0, .int .u8 0, .int .u8 0, .int .u8 0, .int .u8 0, .int .u8 0, .int .u8 0, .int .u8 0]
def ip{α : Type _}{a b : α}: a ∈ [b] ↔ a = b := mem_singleton
def gu{α : Type _}{ps qs : List α}: (ps ++ qs).length = ps.length + qs.length := length_append
def gg{α : Type _}{l : List α}{i : Nat}(h : i < l.length): l[i]? = some l[i] := List.getElem?_eq_getElem h
def gV{α : Type _}{l : List α}{i : Nat}{a : α}: l[i]? = some a ↔ ∃h : i < l.length, l[i] = a := List.getElem?_eq_some_iff
def gH{α : Type _}{l : List α}{i : Nat}{a : α}(h : l[i]? = some a): a ∈ l := mem_of_getElem? h
def fW(n : Nat): n <= n := Nat.le_refl n
def jZ(w : World)(o : Obj): (w.alloc o).heap.size = w.heap.size + 1 := World.size_alloc w o
def qG{α : Type _}{a : α}{l : List α}{i : Nat}: (a :: l).drop (i + 1) = l.drop i := drop_succ_cons
def qH{α : Type _}{l : List α}: l.drop 0 = l := drop_zero
def An{p q : Prop}(a : p)(b : q): p /\ q := ⟨a, b⟩
def eR{α : Sort _}(a : α): ∃b, a = b := ⟨a, rfl⟩
def qo{p : Prop}(h : p := by omega): p := h
def qs{p : Prop}(h : p := by simp): p := h
def qk{p : Prop}(h : p := by kernel_rfl): p := h
def qr{p : Prop}(h : p := by rfl): p := h
def qd{p : Prop}(h : p := by decide): p := h
def qu{p q : Prop}(h : p)(e : p -> q := by intro h; simpa using h): q := e h
instance : Coe Int Value := ⟨.int .i64⟩
instance : Coe Nat Value := ⟨λn => .int .i64 (n : Int)⟩
instance : Coe ByteArray Value := ⟨.string⟩
instance : Coe Nat (Option Addr) := ⟨λb => some ⟨b, 0, none⟩⟩
structure C0
structure C1
structure C2
structure C3
structure C4
structure C5
def Cl: C5 := ⟨⟩
def L0: C0 := ⟨⟩
def L1: C1 := ⟨⟩
def L2: C2 := ⟨⟩
def S0: C3 := ⟨⟩
def gz: C4 := ⟨⟩
instance : Coe C0 Value := ⟨λ_ => .int .i64 0⟩
instance : Coe C1 Value := ⟨λ_ => .int .i64 1⟩
instance : Coe C2 Value := ⟨λ_ => .int .i64 2⟩
instance : Coe C3 Value := ⟨λ_ => .string ⟨#[]⟩⟩
instance : Coe C4 Value := ⟨λ_ => .slice none 0 0⟩
instance : CoeFun C5 (λ_ => World -> Nat -> Nat -> Value -> Prop) := ⟨λ_ W b i v => W.cell? ⟨b, i, none⟩ = some v⟩
def BoxN(W:World)(B:Nat)(t:TypeId)(cs:Array Value):Prop:=W.heap[B]?=some (.cells cs t (0,0))
section
variable {W W':World} {B:Nat} {t:TypeId} {cs:Array Value}
def BoxN.lt(h:BoxN W B t cs):B<W.heap.size:=(Array.getElem?_eq_some_iff.1 h).1
def BoxN.c(h:BoxN W B t cs)(j:Nat):W.cell? ⟨B,j,none⟩=cs[j]?:=by simp[World.cell?,show W.heap[B]?=_ from h]
def BoxN.f(h:BoxN W B t cs)(j:Nat):W.frozen? ⟨B,j,none⟩=false:=by simp[World.frozen?,show W.heap[B]?=_ from h]
def BoxN.new(W:World)(t:TypeId)(cs:Array Value):BoxN (W.alloc (.cells cs t)) W.heap.size t cs:=World.alloc_heap_new W _
def BoxN.kept{row:Option Nat}(h:BoxN W B t cs)(a:W.grownBy W' row)(b:some B≠row):BoxN W' B t cs:=(a.block B h.lt b).trans h
def BoxN.alloc(h:BoxN W B t cs)(o:Obj):BoxN (W.alloc o) B t cs:=h.kept (World.grownBy_alloc W o none) qs
def BoxN.later(h:BoxN W B t cs)(a:Below W.heap.size W W'):BoxN W' B t cs:=(a.block B h.lt).trans h
end
section
variable {W W':World} {B:Nat} {t:TypeId} {cs:Array Value}
def BoxN.setAt(h:BoxN W B t cs)(j:Nat)(x:Value):BoxN (W.setCell ⟨B,j,none⟩ x) B t (cs.setIfInBounds j x):=by
 have⟨b,a⟩:=Array.getElem?_eq_some_iff.1 h
 show (W.heap.modify B _)[B]?=_
 rw[Array.getElem?_eq_getElem (by rw[Array.size_modify];exact b),Array.getElem_modify_self,a];rfl
end
def BoxN.k0{W : World}{b : Nat}{t : TypeId}{v0 : Value}{l : List Value}(h : BoxN W b t (List.toArray (v0 :: l))): W.cell? ⟨b, 0, none⟩ = some v0 := h.c 0
def BoxN.k1{W : World}{b : Nat}{t : TypeId}{v0 v1 : Value}{l : List Value}(h : BoxN W b t (List.toArray (v0 :: v1 :: l))): W.cell? ⟨b, 1, none⟩ = some v1 := h.c 1
def BoxN.k2{W : World}{b : Nat}{t : TypeId}{v0 v1 v2 : Value}{l : List Value}(h : BoxN W b t (List.toArray (v0 :: v1 :: v2 :: l))): W.cell? ⟨b, 2, none⟩ = some v2 := h.c 2
def BoxN.k3{W : World}{b : Nat}{t : TypeId}{v0 v1 v2 v3 : Value}{l : List Value}(h : BoxN W b t (List.toArray (v0 :: v1 :: v2 :: v3 :: l))): W.cell? ⟨b, 3, none⟩ = some v3 := h.c 3
def BoxN.k4{W : World}{b : Nat}{t : TypeId}{v0 v1 v2 v3 v4 : Value}{l : List Value}(h : BoxN W b t (List.toArray (v0 :: v1 :: v2 :: v3 :: v4 :: l))): W.cell? ⟨b, 4, none⟩ = some v4 := h.c 4
def BoxN.k5{W : World}{b : Nat}{t : TypeId}{v0 v1 v2 v3 v4 v5 : Value}{l : List Value}(h : BoxN W b t (List.toArray (v0 :: v1 :: v2 :: v3 :: v4 :: v5 :: l))): W.cell? ⟨b, 5, none⟩ = some v5 := h.c 5
def BoxN.k6{W : World}{b : Nat}{t : TypeId}{v0 v1 v2 v3 v4 v5 v6 : Value}{l : List Value}(h : BoxN W b t (List.toArray (v0 :: v1 :: v2 :: v3 :: v4 :: v5 :: v6 :: l))): W.cell? ⟨b, 6, none⟩ = some v6 := h.c 6
def BoxN.k7{W : World}{b : Nat}{t : TypeId}{v0 v1 v2 v3 v4 v5 v6 v7 : Value}{l : List Value}(h : BoxN W b t (List.toArray (v0 :: v1 :: v2 :: v3 :: v4 :: v5 :: v6 :: v7 :: l))): W.cell? ⟨b, 7, none⟩ = some v7 := h.c 7
def BoxN.m2{W : World}{b : Nat}{t : TypeId}{v0 v1 : Value}{l : List Value}(h : BoxN W b t (List.toArray (v0 :: v1 :: l))): W.cell? ⟨b, 0, none⟩ = some v0 /\ W.cell? ⟨b, 1, none⟩ = some v1 := ⟨h.c 0, h.c 1⟩
def BoxN.m3{W : World}{b : Nat}{t : TypeId}{v0 v1 v2 : Value}{l : List Value}(h : BoxN W b t (List.toArray (v0 :: v1 :: v2 :: l))): W.cell? ⟨b, 0, none⟩ = some v0 /\ W.cell? ⟨b, 1, none⟩ = some v1 /\ W.cell? ⟨b, 2, none⟩ = some v2 := ⟨h.c 0, h.c 1, h.c 2⟩
def BoxN.m4{W : World}{b : Nat}{t : TypeId}{v0 v1 v2 v3 : Value}{l : List Value}(h : BoxN W b t (List.toArray (v0 :: v1 :: v2 :: v3 :: l))): W.cell? ⟨b, 0, none⟩ = some v0 /\ W.cell? ⟨b, 1, none⟩ = some v1 /\ W.cell? ⟨b, 2, none⟩ = some v2 /\ W.cell? ⟨b, 3, none⟩ = some v3 := ⟨h.c 0, h.c 1, h.c 2, h.c 3⟩
def BoxN.m5{W : World}{b : Nat}{t : TypeId}{v0 v1 v2 v3 v4 : Value}{l : List Value}(h : BoxN W b t (List.toArray (v0 :: v1 :: v2 :: v3 :: v4 :: l))): W.cell? ⟨b, 0, none⟩ = some v0 /\ W.cell? ⟨b, 1, none⟩ = some v1 /\ W.cell? ⟨b, 2, none⟩ = some v2 /\ W.cell? ⟨b, 3, none⟩ = some v3 /\ W.cell? ⟨b, 4, none⟩ = some v4 := ⟨h.c 0, h.c 1, h.c 2, h.c 3, h.c 4⟩
def BoxN.m6{W : World}{b : Nat}{t : TypeId}{v0 v1 v2 v3 v4 v5 : Value}{l : List Value}(h : BoxN W b t (List.toArray (v0 :: v1 :: v2 :: v3 :: v4 :: v5 :: l))): W.cell? ⟨b, 0, none⟩ = some v0 /\ W.cell? ⟨b, 1, none⟩ = some v1 /\ W.cell? ⟨b, 2, none⟩ = some v2 /\ W.cell? ⟨b, 3, none⟩ = some v3 /\ W.cell? ⟨b, 4, none⟩ = some v4 /\ W.cell? ⟨b, 5, none⟩ = some v5 := ⟨h.c 0, h.c 1, h.c 2, h.c 3, h.c 4, h.c 5⟩
def BoxN.m7{W : World}{b : Nat}{t : TypeId}{v0 v1 v2 v3 v4 v5 v6 : Value}{l : List Value}(h : BoxN W b t (List.toArray (v0 :: v1 :: v2 :: v3 :: v4 :: v5 :: v6 :: l))): W.cell? ⟨b, 0, none⟩ = some v0 /\ W.cell? ⟨b, 1, none⟩ = some v1 /\ W.cell? ⟨b, 2, none⟩ = some v2 /\ W.cell? ⟨b, 3, none⟩ = some v3 /\ W.cell? ⟨b, 4, none⟩ = some v4 /\ W.cell? ⟨b, 5, none⟩ = some v5 /\ W.cell? ⟨b, 6, none⟩ = some v6 := ⟨h.c 0, h.c 1, h.c 2, h.c 3, h.c 4, h.c 5, h.c 6⟩
def BoxN.m8{W : World}{b : Nat}{t : TypeId}{v0 v1 v2 v3 v4 v5 v6 v7 : Value}{l : List Value}(h : BoxN W b t (List.toArray (v0 :: v1 :: v2 :: v3 :: v4 :: v5 :: v6 :: v7 :: l))): W.cell? ⟨b, 0, none⟩ = some v0 /\ W.cell? ⟨b, 1, none⟩ = some v1 /\ W.cell? ⟨b, 2, none⟩ = some v2 /\ W.cell? ⟨b, 3, none⟩ = some v3 /\ W.cell? ⟨b, 4, none⟩ = some v4 /\ W.cell? ⟨b, 5, none⟩ = some v5 /\ W.cell? ⟨b, 6, none⟩ = some v6 /\ W.cell? ⟨b, 7, none⟩ = some v7 := ⟨h.c 0, h.c 1, h.c 2, h.c 3, h.c 4, h.c 5, h.c 6, h.c 7⟩
structure Fr(S:List Nat)(w w':World):Prop where
 os:w'.os=w.os
 tape:w'.tape=w.tape
 output:w'.output=w.output
 size:w.heap.size<=w'.heap.size
 block:∀k,k<w.heap.size->k ∉ S->w'.heap[k]?=w.heap[k]?
section
variable {S T:List Nat} {B:Nat} {a w w':World}
def Fr.refl(S:List Nat)(w:World):Fr S w w:=⟨rfl,rfl,rfl,fW _,λ_ _ _=>rfl⟩
def Fr.of_below(h:Below w.heap.size w w'):Fr S w w':=⟨h.os,h.tape,h.output,h.size,λk c _=>h.block k c⟩
def Fr.below(h:Fr S w w')(c:∀k∈S,B<=k)(e:B<=w.heap.size):Below B w w':=⟨h.os,h.tape,h.output,h.size,λk f=>h.block k qo (λd=>by have:=c k d;omega)⟩
def Fr.below0(h:Fr [] w w'):Below w.heap.size w w':=h.below qs (fW _)
def Fr.trans(h:Fr S a w)(k:Fr T w w')(f:∀x∈T,x∈S \/ a.heap.size<=x):Fr S a w' :=
 ⟨k.os.trans h.os,k.tape.trans h.tape,k.output.trans h.output,Nat.le_trans h.size k.size,λi d e=>(k.block i (Nat.lt_of_lt_of_le d h.size) (λg=>by rcases f i g with c|c <;> first|exact e c|omega)).trans (h.block i d e)⟩
def Fr.then(h:Fr S a w)(k:Fr S w w'):Fr S a w':=h.trans k λ_ c=>.inl c
def Fr.mono(h:Fr S w w')(d:∀x∈S,x∈T \/ w.heap.size<=x):Fr T w w':=⟨h.os,h.tape,h.output,h.size,λk e g=>h.block k e (λf=>by rcases d k f with c|c <;> first|exact g c|omega)⟩
def Fr.drew(h:Fr S a w):Fr S a w.drew:=⟨h.os,h.tape,h.output,h.size,h.block⟩
def Fr.drewN(h:Fr S a w)(n:Nat):Fr S a (w.drewN n):=⟨h.os,h.tape,h.output,h.size,h.block⟩
def Fr.undrew(h:Fr S a.drew w):Fr S a w:=⟨h.os,h.tape,h.output,h.size,h.block⟩
def Fr.alloc(h:Fr S a w)(o:Obj):Fr S a (w.alloc o) :=
 h.trans (T:=[]) ⟨rfl,rfl,rfl,qs,λk c _=>Below.heap_alloc _ _ _ c⟩ qs
def Fr.set(h:Fr S a w){p:Addr}(d:p.block∈S \/ a.heap.size<=p.block)(u:Value):Fr S a (w.setCell p u) :=
 h.trans (T:=[p.block]) ⟨rfl,rfl,rfl,by simp[World.setCell],λk _ c=>Below.heap_setCell _ _ _ _ (by simpa using c)⟩ (by simpa using d)
def Fr.grown(h:Fr S a w){row:Option Nat}(c:w.grownBy w' row)(g:∀k,row=some k->k∈S \/ a.heap.size<=k):Fr S a w' :=
 h.trans (T:=row.toList) ⟨c.os,c.tape,c.output,c.size,λk d f=>c.block k d (λe=>f (by rw[<-e];simp))⟩ (by intro x i;exact g x (by simpa using i))
def Fr.cell(h:Fr S w w'){p:Addr}(d:p.block<w.heap.size)(c:p.block ∉ S):w'.cell? p=w.cell? p:=World.cell?_of_block (h.block _ d c)
def Fr.frozen(h:Fr S w w'){p:Addr}(d:p.block<w.heap.size)(c:p.block ∉ S):w'.frozen? p=w.frozen? p:=World.frozen?_of_block (h.block _ d c)
def Fr.fcell(h:Fr S w w'){b:Nat}(d:b<w.heap.size)(c:b ∉ S):∀o,w'.cell? ⟨b,o,none⟩=w.cell? ⟨b,o,none⟩:=λ_=>h.cell d c
end
section
variable {S:List Nat} {w w':World} {b:Nat} {t:TypeId} {cs:Array Value}
def BoxN.fr(h:BoxN w b t cs)(d:Fr S w w')(c:b ∉ S):BoxN w' b t cs:=(d.block b h.lt c).trans h
def BoxN.drew(h:BoxN w b t cs):BoxN w.drew b t cs:=h
def BoxN.drewN(h:BoxN w b t cs)(n:Nat):BoxN (w.drewN n) b t cs:=h
def Row.fr{B c n:Nat}{A:Option Addr}{xs:List Value}(h:Row w B c A n xs)(g:Fr S w w')(m:B<=w.heap.size)(d:∀a:Addr,A=some a->a.block ∉ S):Row w' B c A n xs :=
 ⟨h.1,λk=>by
  have⟨b,off,e,i,f⟩:=h.2 k;exact⟨b,off,e,i,λj u l=>(g.cell (p:=⟨b,off+j,none⟩) (by show b<_;omega) (d ⟨b,off,none⟩ e)).trans (f j u l)⟩⟩
def GO{base:Nat}{e:TypeId}{f n:Nat}{v:Value}{xs:List Value}(j:w.ownsRow base e f v n xs)(o:Fr S w w')(m:∀k,v.ownBlock=some k->k ∉ S):w'.ownsRow base e f v n xs:=by
 obtain⟨l,c⟩:=j;refine⟨l,?_⟩
 rcases c with c|⟨g,h,i,rfl,p,d,r⟩
 ·exact .inl c
 ·refine .inr ⟨g,h,i,rfl,p,?_,r⟩
  have q:=(Array.getElem?_eq_some_iff.1 d).1;exact(o.block g q (m g rfl)).trans d
end
def Fr.st{S : List Nat}{a w : World}(h : Fr S a w){p : Addr}(u : Value)(hp : p.block ∈ S := by simp): Fr S a (w.setCell p u) := h.set (.inl hp) u
def JF(W : World)(B : Nat){t : TypeId}{c0 c1 : Value}(h : BoxN W B t #[c0, c1])(v0 v1 : Value): ∃X, ((W).setCell ⟨B, 0, none⟩ v0).setCell ⟨B, 1, none⟩ v1 = X /\ BoxN X B t #[v0, v1] /\ Fr [B] W X := by
  obtain ⟨c, e0⟩ : ∃X, W.setCell ⟨B, 0, none⟩ v0 = X := ⟨_, rfl⟩
  have i : BoxN c B t #[v0, c1] := by rw [<- e0]; exact h.setAt 0 _
  have f : Fr [B] W c := by rw [<- e0]; exact(Fr.refl [B] W).set (.inl qs) _
  obtain ⟨e, d⟩ : ∃X, c.setCell ⟨B, 1, none⟩ v1 = X := ⟨_, rfl⟩
  have j : BoxN e B t #[v0, v1] := by rw [<- d]; exact i.setAt 1 _
  have g : Fr [B] c e := by rw [<- d]; exact(Fr.refl [B] c).set (.inl qs) _
  rw [e0, d]
  exact⟨_, rfl, j, (f.then g)⟩
def JG(W : World)(B : Nat){t : TypeId}{c0 c1 c2 : Value}(h : BoxN W B t #[c0, c1, c2])(v0 v1 v2 : Value): ∃X, (((W).setCell ⟨B, 0, none⟩ v0).setCell ⟨B, 1, none⟩ v1).setCell ⟨B, 2, none⟩ v2 = X /\ BoxN X B t #[v0, v1, v2] /\ Fr [B] W X := by
  obtain ⟨c, e0⟩ : ∃X, W.setCell ⟨B, 0, none⟩ v0 = X := ⟨_, rfl⟩
  have l : BoxN c B t #[v0, c1, c2] := by rw [<- e0]; exact h.setAt 0 _
  have i : Fr [B] W c := by rw [<- e0]; exact(Fr.refl [B] W).set (.inl qs) _
  obtain ⟨d, e⟩ : ∃X, c.setCell ⟨B, 1, none⟩ v1 = X := ⟨_, rfl⟩
  have m : BoxN d B t #[v0, v1, c2] := by rw [<- e]; exact l.setAt 1 _
  have j : Fr [B] c d := by rw [<- e]; exact(Fr.refl [B] c).set (.inl qs) _
  obtain ⟨g, f⟩ : ∃X, d.setCell ⟨B, 2, none⟩ v2 = X := ⟨_, rfl⟩
  have n : BoxN g B t #[v0, v1, v2] := by rw [<- f]; exact m.setAt 2 _
  have k : Fr [B] d g := by rw [<- f]; exact(Fr.refl [B] d).set (.inl qs) _
  rw [e0, e, f]
  exact⟨_, rfl, n, ((i.then j).then k)⟩
def Jy(W : World)(B : Nat){t : TypeId}{c0 c1 c2 c3 : Value}(h : BoxN W B t #[c0, c1, c2, c3])(v0 v1 v2 v3 : Value): ∃X, ((((W).setCell ⟨B, 0, none⟩ v0).setCell ⟨B, 1, none⟩ v1).setCell ⟨B, 2, none⟩ v2).setCell ⟨B, 3, none⟩ v3 = X /\ BoxN X B t #[v0, v1, v2, v3] /\ Fr [B] W X := by
  obtain ⟨c, e0⟩ : ∃X, W.setCell ⟨B, 0, none⟩ v0 = X := ⟨_, rfl⟩
  have o : BoxN c B t #[v0, c1, c2, c3] := by rw [<- e0]; exact h.setAt 0 _
  have k : Fr [B] W c := by rw [<- e0]; exact(Fr.refl [B] W).set (.inl qs) _
  obtain ⟨d, f⟩ : ∃X, c.setCell ⟨B, 1, none⟩ v1 = X := ⟨_, rfl⟩
  have p : BoxN d B t #[v0, v1, c2, c3] := by rw [<- f]; exact o.setAt 1 _
  have l : Fr [B] c d := by rw [<- f]; exact(Fr.refl [B] c).set (.inl qs) _
  obtain ⟨e, g⟩ : ∃X, d.setCell ⟨B, 2, none⟩ v2 = X := ⟨_, rfl⟩
  have q : BoxN e B t #[v0, v1, v2, c3] := by rw [<- g]; exact p.setAt 2 _
  have m : Fr [B] d e := by rw [<- g]; exact(Fr.refl [B] d).set (.inl qs) _
  obtain ⟨j, i⟩ : ∃X, e.setCell ⟨B, 3, none⟩ v3 = X := ⟨_, rfl⟩
  have r : BoxN j B t #[v0, v1, v2, v3] := by rw [<- i]; exact q.setAt 3 _
  have n : Fr [B] e j := by rw [<- i]; exact(Fr.refl [B] e).set (.inl qs) _
  rw [e0, f, g, i]
  exact⟨_, rfl, r, (((k.then l).then m).then n)⟩
def JH(W : World)(B : Nat){t : TypeId}{c0 c1 c2 c3 c4 : Value}(h : BoxN W B t #[c0, c1, c2, c3, c4])(v0 v1 v2 v3 v4 : Value): ∃X, (((((W).setCell ⟨B, 0, none⟩ v0).setCell ⟨B, 1, none⟩ v1).setCell ⟨B, 2, none⟩ v2).setCell ⟨B, 3, none⟩ v3).setCell ⟨B, 4, none⟩ v4 = X /\ BoxN X B t #[v0, v1, v2, v3, v4] /\ Fr [B] W X := by
  obtain ⟨c, e0⟩ : ∃X, W.setCell ⟨B, 0, none⟩ v0 = X := ⟨_, rfl⟩
  have r : BoxN c B t #[v0, c1, c2, c3, c4] := by rw [<- e0]; exact h.setAt 0 _
  have m : Fr [B] W c := by rw [<- e0]; exact(Fr.refl [B] W).set (.inl qs) _
  obtain ⟨d, g⟩ : ∃X, c.setCell ⟨B, 1, none⟩ v1 = X := ⟨_, rfl⟩
  have s : BoxN d B t #[v0, v1, c2, c3, c4] := by rw [<- g]; exact r.setAt 1 _
  have n : Fr [B] c d := by rw [<- g]; exact(Fr.refl [B] c).set (.inl qs) _
  obtain ⟨e, i⟩ : ∃X, d.setCell ⟨B, 2, none⟩ v2 = X := ⟨_, rfl⟩
  have u : BoxN e B t #[v0, v1, v2, c3, c4] := by rw [<- i]; exact s.setAt 2 _
  have o : Fr [B] d e := by rw [<- i]; exact(Fr.refl [B] d).set (.inl qs) _
  obtain ⟨f, j⟩ : ∃X, e.setCell ⟨B, 3, none⟩ v3 = X := ⟨_, rfl⟩
  have v : BoxN f B t #[v0, v1, v2, v3, c4] := by rw [<- j]; exact u.setAt 3 _
  have p : Fr [B] e f := by rw [<- j]; exact(Fr.refl [B] e).set (.inl qs) _
  obtain ⟨l, k⟩ : ∃X, f.setCell ⟨B, 4, none⟩ v4 = X := ⟨_, rfl⟩
  have x : BoxN l B t #[v0, v1, v2, v3, v4] := by rw [<- k]; exact v.setAt 4 _
  have q : Fr [B] f l := by rw [<- k]; exact(Fr.refl [B] f).set (.inl qs) _
  rw [e0, g, i, j, k]
  exact⟨_, rfl, x, ((((m.then n).then o).then p).then q)⟩
def rn(W : World)(B : Nat){t : TypeId}{c0 c1 c2 c3 c4 c5 : Value}(h : BoxN W B t #[c0, c1, c2, c3, c4, c5])(v0 v1 v2 v3 v4 v5 : Value): ∃X, ((((((W).setCell ⟨B, 0, none⟩ v0).setCell ⟨B, 1, none⟩ v1).setCell ⟨B, 2, none⟩ v2).setCell ⟨B, 3, none⟩ v3).setCell ⟨B, 4, none⟩ v4).setCell ⟨B, 5, none⟩ v5 = X /\ BoxN X B t #[v0, v1, v2, v3, v4, v5] /\ Fr [B] W X := by
  obtain ⟨c, e0⟩ : ∃X, W.setCell ⟨B, 0, none⟩ v0 = X := ⟨_, rfl⟩
  have v : BoxN c B t #[v0, c1, c2, c3, c4, c5] := by rw [<- e0]; exact h.setAt 0 _
  have o : Fr [B] W c := by rw [<- e0]; exact(Fr.refl [B] W).set (.inl qs) _
  obtain ⟨d, i⟩ : ∃X, c.setCell ⟨B, 1, none⟩ v1 = X := ⟨_, rfl⟩
  have x : BoxN d B t #[v0, v1, c2, c3, c4, c5] := by rw [<- i]; exact v.setAt 1 _
  have p : Fr [B] c d := by rw [<- i]; exact(Fr.refl [B] c).set (.inl qs) _
  obtain ⟨e, j⟩ : ∃X, d.setCell ⟨B, 2, none⟩ v2 = X := ⟨_, rfl⟩
  have y : BoxN e B t #[v0, v1, v2, c3, c4, c5] := by rw [<- j]; exact x.setAt 2 _
  have q : Fr [B] d e := by rw [<- j]; exact(Fr.refl [B] d).set (.inl qs) _
  obtain ⟨f, k⟩ : ∃X, e.setCell ⟨B, 3, none⟩ v3 = X := ⟨_, rfl⟩
  have z : BoxN f B t #[v0, v1, v2, v3, c4, c5] := by rw [<- k]; exact y.setAt 3 _
  have r : Fr [B] e f := by rw [<- k]; exact(Fr.refl [B] e).set (.inl qs) _
  obtain ⟨g, l⟩ : ∃X, f.setCell ⟨B, 4, none⟩ v4 = X := ⟨_, rfl⟩
  have A : BoxN g B t #[v0, v1, v2, v3, v4, c5] := by rw [<- l]; exact z.setAt 4 _
  have s : Fr [B] f g := by rw [<- l]; exact(Fr.refl [B] f).set (.inl qs) _
  obtain ⟨n, m⟩ : ∃X, g.setCell ⟨B, 5, none⟩ v5 = X := ⟨_, rfl⟩
  have C : BoxN n B t #[v0, v1, v2, v3, v4, v5] := by rw [<- m]; exact A.setAt 5 _
  have u : Fr [B] g n := by rw [<- m]; exact(Fr.refl [B] g).set (.inl qs) _
  rw [e0, i, j, k, l, m]
  exact⟨_, rfl, C, (((((o.then p).then q).then r).then s).then u)⟩
def Hr(W : World)(B : Nat){t : TypeId}{c0 c1 c2 c3 c4 c5 c6 : Value}(h : BoxN W B t #[c0, c1, c2, c3, c4, c5, c6])(v0 v1 v2 v3 v4 v5 v6 : Value): ∃X, (((((((W).setCell ⟨B, 0, none⟩ v0).setCell ⟨B, 1, none⟩ v1).setCell ⟨B, 2, none⟩ v2).setCell ⟨B, 3, none⟩ v3).setCell ⟨B, 4, none⟩ v4).setCell ⟨B, 5, none⟩ v5).setCell ⟨B, 6, none⟩ v6 = X /\ BoxN X B t #[v0, v1, v2, v3, v4, v5, v6] /\ Fr [B] W X := by
  obtain ⟨c, e0⟩ : ∃X, W.setCell ⟨B, 0, none⟩ v0 = X := ⟨_, rfl⟩
  have z : BoxN c B t #[v0, c1, c2, c3, c4, c5, c6] := by rw [<- e0]; exact h.setAt 0 _
  have q : Fr [B] W c := by rw [<- e0]; exact(Fr.refl [B] W).set (.inl qs) _
  obtain ⟨d, j⟩ : ∃X, c.setCell ⟨B, 1, none⟩ v1 = X := ⟨_, rfl⟩
  have A : BoxN d B t #[v0, v1, c2, c3, c4, c5, c6] := by rw [<- j]; exact z.setAt 1 _
  have r : Fr [B] c d := by rw [<- j]; exact(Fr.refl [B] c).set (.inl qs) _
  obtain ⟨e, k⟩ : ∃X, d.setCell ⟨B, 2, none⟩ v2 = X := ⟨_, rfl⟩
  have C : BoxN e B t #[v0, v1, v2, c3, c4, c5, c6] := by rw [<- k]; exact A.setAt 2 _
  have s : Fr [B] d e := by rw [<- k]; exact(Fr.refl [B] d).set (.inl qs) _
  obtain ⟨f, l⟩ : ∃X, e.setCell ⟨B, 3, none⟩ v3 = X := ⟨_, rfl⟩
  have D : BoxN f B t #[v0, v1, v2, v3, c4, c5, c6] := by rw [<- l]; exact C.setAt 3 _
  have u : Fr [B] e f := by rw [<- l]; exact(Fr.refl [B] e).set (.inl qs) _
  obtain ⟨g, m⟩ : ∃X, f.setCell ⟨B, 4, none⟩ v4 = X := ⟨_, rfl⟩
  have E : BoxN g B t #[v0, v1, v2, v3, v4, c5, c6] := by rw [<- m]; exact D.setAt 4 _
  have v : Fr [B] f g := by rw [<- m]; exact(Fr.refl [B] f).set (.inl qs) _
  obtain ⟨i, n⟩ : ∃X, g.setCell ⟨B, 5, none⟩ v5 = X := ⟨_, rfl⟩
  have F : BoxN i B t #[v0, v1, v2, v3, v4, v5, c6] := by rw [<- n]; exact E.setAt 5 _
  have x : Fr [B] g i := by rw [<- n]; exact(Fr.refl [B] g).set (.inl qs) _
  obtain ⟨p, o⟩ : ∃X, i.setCell ⟨B, 6, none⟩ v6 = X := ⟨_, rfl⟩
  have G : BoxN p B t #[v0, v1, v2, v3, v4, v5, v6] := by rw [<- o]; exact F.setAt 6 _
  have y : Fr [B] i p := by rw [<- o]; exact(Fr.refl [B] i).set (.inl qs) _
  rw [e0, j, k, l, m, n, o]
  exact⟨_, rfl, G, ((((((q.then r).then s).then u).then v).then x).then y)⟩
def Jz(W : World)(B : Nat){t : TypeId}{c0 c1 c2 c3 c4 c5 c6 c7 : Value}(h : BoxN W B t #[c0, c1, c2, c3, c4, c5, c6, c7])(v0 v1 v2 v3 v4 v5 v6 v7 : Value): ∃X, ((((((((W).setCell ⟨B, 0, none⟩ v0).setCell ⟨B, 1, none⟩ v1).setCell ⟨B, 2, none⟩ v2).setCell ⟨B, 3, none⟩ v3).setCell ⟨B, 4, none⟩ v4).setCell ⟨B, 5, none⟩ v5).setCell ⟨B, 6, none⟩ v6).setCell ⟨B, 7, none⟩ v7 = X /\ BoxN X B t #[v0, v1, v2, v3, v4, v5, v6, v7] /\ Fr [B] W X := by
  obtain ⟨c, e0⟩ : ∃X, W.setCell ⟨B, 0, none⟩ v0 = X := ⟨_, rfl⟩
  have D : BoxN c B t #[v0, c1, c2, c3, c4, c5, c6, c7] := by rw [<- e0]; exact h.setAt 0 _
  have s : Fr [B] W c := by rw [<- e0]; exact(Fr.refl [B] W).set (.inl qs) _
  obtain ⟨d, k⟩ : ∃X, c.setCell ⟨B, 1, none⟩ v1 = X := ⟨_, rfl⟩
  have E : BoxN d B t #[v0, v1, c2, c3, c4, c5, c6, c7] := by rw [<- k]; exact D.setAt 1 _
  have u : Fr [B] c d := by rw [<- k]; exact(Fr.refl [B] c).set (.inl qs) _
  obtain ⟨e, l⟩ : ∃X, d.setCell ⟨B, 2, none⟩ v2 = X := ⟨_, rfl⟩
  have F : BoxN e B t #[v0, v1, v2, c3, c4, c5, c6, c7] := by rw [<- l]; exact E.setAt 2 _
  have v : Fr [B] d e := by rw [<- l]; exact(Fr.refl [B] d).set (.inl qs) _
  obtain ⟨f, m⟩ : ∃X, e.setCell ⟨B, 3, none⟩ v3 = X := ⟨_, rfl⟩
  have G : BoxN f B t #[v0, v1, v2, v3, c4, c5, c6, c7] := by rw [<- m]; exact F.setAt 3 _
  have x : Fr [B] e f := by rw [<- m]; exact(Fr.refl [B] e).set (.inl qs) _
  obtain ⟨g, n⟩ : ∃X, f.setCell ⟨B, 4, none⟩ v4 = X := ⟨_, rfl⟩
  have H : BoxN g B t #[v0, v1, v2, v3, v4, c5, c6, c7] := by rw [<- n]; exact G.setAt 4 _
  have y : Fr [B] f g := by rw [<- n]; exact(Fr.refl [B] f).set (.inl qs) _
  obtain ⟨i, o⟩ : ∃X, g.setCell ⟨B, 5, none⟩ v5 = X := ⟨_, rfl⟩
  have I : BoxN i B t #[v0, v1, v2, v3, v4, v5, c6, c7] := by rw [<- o]; exact H.setAt 5 _
  have z : Fr [B] g i := by rw [<- o]; exact(Fr.refl [B] g).set (.inl qs) _
  obtain ⟨j, p⟩ : ∃X, i.setCell ⟨B, 6, none⟩ v6 = X := ⟨_, rfl⟩
  have J : BoxN j B t #[v0, v1, v2, v3, v4, v5, v6, c7] := by rw [<- p]; exact I.setAt 6 _
  have A : Fr [B] i j := by rw [<- p]; exact(Fr.refl [B] i).set (.inl qs) _
  obtain ⟨r, q⟩ : ∃X, j.setCell ⟨B, 7, none⟩ v7 = X := ⟨_, rfl⟩
  have K : BoxN r B t #[v0, v1, v2, v3, v4, v5, v6, v7] := by rw [<- q]; exact J.setAt 7 _
  have C : Fr [B] j r := by rw [<- q]; exact(Fr.refl [B] j).set (.inl qs) _
  rw [e0, k, l, m, n, o, p, q]
  exact⟨_, rfl, K, (((((((s.then u).then v).then x).then y).then z).then A).then C)⟩
def ir(W : World)(cs : Array Value)(t : TypeId)(b : Nat)(e : b = W.heap.size := by first|rfl|omega): ∃X, W.alloc (.cells cs t) = X /\ X.heap.size = b + 1 /\ BoxN X b t cs /\ Fr [] W X := by subst e; exact⟨_, rfl, World.size_alloc W _, BoxN.new W t cs, (Fr.refl [] W).alloc _⟩
def Fq(S : List Nat)(w : World): Fr S w w := Fr.refl S w
def kJ(W : World)(cs : Array Value)(t : TypeId): ∃X, W.alloc (.cells cs t) = X /\ BoxN X W.heap.size t cs /\ Fr [] W X := ⟨_, rfl, BoxN.new W t cs, (Fr.refl [] W).alloc _⟩
def vC(W : World)(cs : Array Value)(t : TypeId): ∃X, (W.alloc (.cells cs t)).drew = X /\ BoxN X W.heap.size t cs /\ Fr [] W X := ⟨_, rfl, (BoxN.new W t cs).drew, ((Fr.refl [] W).alloc _).drew⟩
section
variable {P:Program} {ops:Array Oper} {md:Region.Mode} {C:World->Prop} {n:Nat} {L:Array Bool->Act->Prop}
def vD(P:Program)(md:Region.Mode)(ops:Array Oper)(C:World->Prop)(n:Nat)(L:Array Bool->Act->Prop):Nat->Array Bool->Act->Prop
 | 0,S,a=>L S a
 | f+1,S,a=>Region.ready md ops S≠[]/\∀i∈Region.ready md ops S,i<n/\qOp P ops C i (vD P md ops C n L f (S.setIfInBounds i true)) a
def rv{g:Nat}{Q:Exit->Act->World->Prop}(j:∀S a w,C w->L S a->wpAny P md ops Q g S a w)(f:Nat):
 ∀(S:Array Bool) (a:Act) (w:World),C w->vD P md ops C n L f S a->wpAny P md ops Q (f+g) S a w:=by
 induction f with
 | zero=>intro S a w b h;rw[Nat.zero_add];exact j S a w b h
 | succ f m =>
  intro S a w b h;rw[Nat.add_right_comm];refine⟨λe=>absurd e h.1,λi k=>?_⟩;exact wpOp_of_qOp b (λc w' l d=>m _ c w' l d) (h.2 i k).2
def vE{i:Nat}{m:Oper}{v:Value}(s:ops[i]?=some m)(V:Region.noSelect ops=true)(F:Region.sinkB md ops n=true)(z:Region.chainB md ops n=true)(E:n<ops.size)(o:i<n)
 (M:∀S a,L S a->∀j∈Region.ready md ops S,n<=j) (f:Nat) :
 ∀(S:Array Bool) (a:Act),HeadInv md ops n S ->
  (∀j l,ops[j]?=some l->j≠i->S.getD j true=false->(∀e∈l.after,Region.binds md e=true->e.on≠i)->m.apart ops l=true) ->
  i∈Region.ready md ops S->YieldsIn P ops C m v a->vD P md ops C n L f (S.setIfInBounds i true) (a.put m.dst v)->vD P md ops C n L (f+1) S a:=by
 have G:=Region.noSelect_spec V
 induction f with
 | zero =>
  intro S a r _ d q H;have p:=(mem_ready.1 d).1;refine⟨λh=>by rw[h]at d;simp at d,λj g=>?_⟩
  by_cases c:j=i
  ·subst c;exact⟨o,q.qOp s H⟩
  ·have t:=Nat.lt_of_not_le λh=>tail_waits F z E r _ i rfl o p j h g
   have:=M _ _ H j (ready_mono g c)
   omega
 | succ f X =>
  intro S a r y d q H;have p:=(mem_ready.1 d).1;refine⟨λh=>by rw[h]at d;simp at d,λj g=>?_⟩
  by_cases c:j=i
  ·subst c;exact⟨o,q.qOp s H⟩
  ·have t:=Nat.lt_of_not_le λh=>tail_waits F z E r _ i rfl o p j h g
   refine⟨t,?_⟩;have⟨B,l,u,J⟩:=mem_ready.1 g
   have U:∀e∈l.after,Region.binds md e=true->e.on≠i:=by
    intro e N K O;have x:=J e N K;rw[O,getD_both p]at x;exact absurd x qs
   have W:=qOp_put u (y j l u c B U) (λcs b=>G i m cs b s) (λcs b=>G j l cs b u) q (H.2 j (ready_mono g c)).2;refine qOp_mono (λI w=>?_) W;refine X (S.setIfInBounds j true) I (r.set g t) ?_ (ready_mono d (Ne.symm c)) w.1 ?_
   ·intro k Y Q R D T
    refine y k Y Q R ?_ T
    by_cases A:j=k
    ·subst A;exact B
    ·rw[getD_set_ne true A]at D;exact D
   ·rw[Array.setIfInBounds_comm _ _ c]
    exact w.2
def Av{g:Nat}{d:Act->Prop}(w:Region.noSelect ops=true)(y:Region.sinkB md ops n=true)(t:Region.chainB md ops n=true)(u:n<ops.size)(l:List Oper):
 ∀(k:Nat) (S:Array Bool) (a:Act),(∀j,j<l.length->l[j]?=ops[k+j]?)->k+l.length=n->HeadInv md ops n S->Region.lexHead md ops g l.length k S=true->wpQuiet P ops C d l a ->
  vD P md ops C n (λf i=>Region.seqB md ops g n f=true/\d i) l.length S a:=by
 induction l with
 | nil =>
  intro k S a _ e _ b h;obtain rfl:k=n:=by simpa using e
  exact⟨b,h⟩
 | cons o l A =>
  intro k S a m e q b h;have c:ops[k]?=some o:=by simpa using (m 0 qs).symm
  simp only[length_cons]at e;simp only[length_cons,Region.lexHead,Bool.and_eq_true]at b;have p:k∈Region.ready md ops S:=by simpa using b.1.1
  have x:qOp P ops C k (wpQuiet P ops C d l) a:=by unfold qOp;simp only[c];exact h
  have⟨v,z,r⟩:=yieldsIn_of_qOp c x;refine vE c w y t u qo (λf i s=>seqB_ready s.1) l.length S a q (Region.free_spec c b.1.2) p z ?_;refine A (k+1) _ _ (λj B=>?_) qo (q.set p qo) b.2 r;have:=m (j+1) (by simp;omega);simpa [Nat.add_assoc,Nat.add_comm 1 j]using this
def jk(C:World->Prop){u:Nat}{Q:Exit->Act->World->Prop}{a:Act}{w:World}{l:List Oper}(n:Nat)(q:P.follows .mixedOrders=true)(b:Region.lexTailB .any l.toArray n=true)(m:C w.drew)
 (k:wpQuiet P l.toArray C (λc=>∀w',C w'->wpList P l.toArray Q (l.drop n) c w') (l.take n) a):(Code.region u l.toArray true).wp P Q a w:=by
 simp only[Region.lexTailB,Bool.and_eq_true,decide_eq_true_eq]at b;have h:=b.1.1.1.2;have y:n<l.length:=by simpa using h
 have i:(l.take n).length=n:=by rw[length_take];omega
 have f:(l.drop n).length=l.toArray.size - n:=qs
 have v:HeadInv .any l.toArray n (Array.replicate l.toArray.size false) :=
  ⟨qs,λj z _ p=>absurd p (by rw[getD_replicate_false];simp),λt _ r=>getD_in (by simpa using r) (getD_replicate_false _ _)⟩
 have H:=Av (g:=l.toArray.size - n) b.1.1.1.1 b.1.1.2 b.1.2 h (l.take n) 0 _ a (λj x=>by
  have o:j<n:=qo
  simp[o]) qo v (by rw[i];exact b.2) k
 refine wp_region_any q ?_
 have d:=rv (Q:=Q) (g:=l.toArray.size - n) (λS c w' s e=>by
  have:=wpAny_of_seq (md:=.any) (Q':=Q) (l.drop n) n S c w' (λj=>by simp[List.getElem?_drop]) (by rw[f];exact e.1) (e.2 w' s)
  rwa [f]at this) _ _ _ _ m H
 rw[i,show n+(l.toArray.size - n)=l.toArray.size by omega]at d;exact d
end
end Go.Proofs.YtlpmiimgacfmkaaGreatDoor
