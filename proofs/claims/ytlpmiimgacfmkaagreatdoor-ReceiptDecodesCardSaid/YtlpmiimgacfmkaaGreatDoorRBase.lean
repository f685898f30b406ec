/- Words for memory: a slice that reads as a list of cells, nil let in; blocks that are known whole. -/
import Derived.WalkKit
import Derived.WalkSpells
import Derived.WalkLawsBesides
import Derived.Lib.Hide
import Derived.Maps.AppendAt
import Derived.Deep.AppendLies
import Derived.Deep.Draws
import Derived.Deep.QuietTactic
import Derived.BigQuiet
import Derived.RegionTactic
import Derived.Test.YtlpmiimgacfmkaaGreatDoorProg
set_option linter.all false
namespace Go.Proofs.YtlpmiimgacfmkaaGreatDoor
open Go.RowKit
def Row (w:World) (B size:Nat) (A:Option Addr) (n:Nat) (xs:List Value):Prop :=
 xs.length=n*size∧(0<n→∃ b off,A=some ⟨b,off,none⟩∧b<B∧∀ j u,xs[j]?=some u→w.cell? ⟨b,off+j,none⟩=some u)
section
variable {w w':World} {B B' size n:Nat} {A:Option Addr} {xs:List Value}
theorem Row.nil_:Row w B size A 0 []:=⟨by simp,fun h=>absurd h (by omega)⟩
theorem Row.keep (h:Row w B size A n xs) (hk:∀ p:Addr,p.block<B→w'.cell? p=w.cell? p):Row w' B size A n xs :=
 ⟨h.1,fun hn=>by
  obtain⟨b,off,e,hb,hc⟩:=h.2 hn
  exact⟨b,off,e,hb,fun j u hu=>(hk _ hb).trans (hc j u hu)⟩⟩
theorem Row.more (h:Row w B size A n xs) (hB:B≤B'):Row w B' size A n xs :=
 ⟨h.1,fun hn=>by
  obtain⟨b,off,e,hb,hc⟩:=h.2 hn
  exact⟨b,off,e,by omega,hc⟩⟩
theorem Row.below (h:Row w B size A n xs) (hb:Below B w w'):Row w' B size A n xs:=h.keep fun _ hp=>hb.cell hp
theorem Row.at1 {k:Nat} (h:Row w B 1 A n xs) (hk:k<n):∃ b off u,A=some ⟨b,off,none⟩∧b<B∧xs[k]?=some u∧w.cell? ⟨b,off+k,none⟩=some u:=by
 obtain⟨b,off,e,hb,hc⟩:=h.2 (by omega)
 have hl:k<xs.length:=by have:=h.1;omega
 exact⟨b,off,xs[k],e,hb,List.getElem?_eq_getElem hl,hc k _ (List.getElem?_eq_getElem hl)⟩
theorem Row.of_own {base:Nat} {e:TypeId} {c:Nat} (h:w.ownsRow base e size (.slice A n c) n xs):Row w w.heap.size size A n xs:=by
 refine⟨h.1,fun hn=>?_⟩
 obtain⟨g,cap,hv,_,hlt⟩:=h.form hn
 have hA:A=some ⟨g,0,none⟩:=by injection hv
 subst hA
 refine⟨g,0,rfl,hlt,fun j u hu=>?_⟩
 have:=h.cells (g:=g) rfl j u hu
 unfold Addr.add at this
 split at this
 ·next h0=>subst h0;simpa using this
 ·simpa using this
end
theorem own_form {w:World} {base:Nat} {e:TypeId} {size n:Nat} {v:Value} {xs:List Value} (h:w.ownsRow base e size v n xs):∃ A c,v=.slice A n c∧Row w w.heap.size size A n xs:=by
 rcases h.2 with ⟨rfl,rfl⟩ | ⟨g,cap,cur,rfl,_⟩
 ·exact⟨none,0,rfl,h.1,fun h=>absurd h (by omega)⟩
 ·exact⟨_,_,rfl,Row.of_own h⟩
theorem own_block_le {w:World} {base:Nat} {e:TypeId} {size n:Nat} {v:Value} {xs:List Value} (h:w.ownsRow base e size v n xs):∀ k,v.ownBlock=some k→base≤k:=by
 intro k hk
 rcases h.2 with ⟨rfl,_⟩ | ⟨g,cap,cur,rfl,hg,_⟩
 ·simp[Value.ownBlock] at hk
 ·have:g=k:=by simpa [Value.ownBlock] using hk
  omega
theorem below_drewN {B:Nat} {a w:World} (h:Below B a w) (n:Nat):Below B a (w.drewN n):=⟨h.os,h.tape,h.output,h.size,h.block⟩
abbrev Nm:=List UInt8
def encN (l:Nm):Value:=.string ⟨l.toArray⟩
theorem encN_eq (s:ByteArray):encN s.data.toList=.string s:=rfl
theorem bytes_ne {a b:ByteArray} (h:a.data.toList≠b.data.toList):(a.toList == b.toList)=false:=by
 rw[beq_eq_false_iff_ne]
 intro e
 rw[ByteArray.toList_eq,ByteArray.toList_eq] at e
 exact h e
theorem bytes_eq {a b:ByteArray} (h:a.data.toList=b.data.toList):(a.toList == b.toList)=true:=by
 rw[beq_iff_eq,ByteArray.toList_eq,ByteArray.toList_eq]
 exact h
def encI (n:Int):Value:=.int .i64 n
theorem qA {α : Type _} (l : List α) (i : Nat) (a : α) : l.toArray.setIfInBounds i a = (l.set i a).toArray := List.setIfInBounds_toArray l i a
theorem qB {α : Type _} {x : α} {xs : List α} {a : α} : (x :: xs).set 0 a = a :: xs := List.set_cons_zero
theorem qC {α : Type _} {x : α} {xs : List α} {i : Nat} {a : α} : (x :: xs).set (i + 1) a = x :: xs.set i a := List.set_cons_succ
theorem qD {α : Type _} {xs : List α} {i : Nat} (h : i < xs.toArray.size) : xs.toArray[i] = xs[i]'(by simpa using h) := List.getElem_toArray h
theorem qE {α : Type _} (a : α) (l : List α) (h : 0 < (a :: l).length) : (a :: l)[0] = a := List.getElem_cons_zero a l h
theorem qF {α : Type _} (a : α) (l : List α) (i : Nat) (h : i + 1 < (a :: l).length) : (a :: l)[i + 1] = l[i]'(by simpa using h) := List.getElem_cons_succ a l i h
theorem Hd {p : Prop} (h : p) : Hid p := Lib.hid h
abbrev z32 : Array Value := #[.int .u8 0, .int .u8 0, .int .u8 0, .int .u8 0, .int .u8 0, .int .u8 0, .int .u8 0, .int .u8 0, .int .u8 0, .int .u8 0, .int .u8 0, .int .u8 0, .int .u8 0, .int .u8 0, .int .u8 0, .int .u8 0, .int .u8 0, .int .u8 0, .int .u8 0, .int .u8 0, .int .u8 0, .int .u8 0, .int .u8 0, .int .u8 0, .int .u8 0, .int .u8 0, .int .u8 0, .int .u8 0, .int .u8 0, .int .u8 0, .int .u8 0, .int .u8 0]
theorem nmd {α : Sort _} (a : α) : ∃ b, a = b := ⟨a, rfl⟩
end Go.Proofs.YtlpmiimgacfmkaaGreatDoor
