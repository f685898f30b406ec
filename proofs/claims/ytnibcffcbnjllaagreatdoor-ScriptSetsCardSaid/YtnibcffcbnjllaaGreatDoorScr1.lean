/- Scripts in memory; (Script).has, schedule, Input. -/
import Derived.Test.YtnibcffcbnjllaaGreatDoorLaw1
namespace Go.Proofs.YtnibcffcbnjllaaGreatDoor
open Go.RowKit

/-- An input, and an input with its tick. -/
structure Inp where
  kind : Int
  number : Int
  frm : Nm
  dst : Nm
  txt : Nm
  deriving DecidableEq
structure Tmd where
  tick : Int
  inp : Inp
  deriving DecidableEq
/-- A script, as plain data. -/
structure Scr where
  lo : Int
  hi : Int
  before : Int
  inputs : List Tmd
  sched : List (List Nm)

def inpCells (i : Inp) : List Value := [.int .i64 i.kind, .int .i64 i.number, encN i.frm, encN i.dst, encN i.txt]
def tmdCells (t : Tmd) : List Value := .int .i64 t.tick :: inpCells t.inp

/-- A slice of slices of names. -/
def Rows2 (w : World) (B : Nat) (A : Option Addr) (n : Nat) (xs : List (List Nm)) : Prop :=
  ∃ vs : List Value, Row w B 1 A n vs ∧ xs.length = n ∧ ∀ (k : Nat) (x : List Nm), xs[k]? = some x → ∃ (A' : Option Addr) (c : Nat), vs[k]? = some (Value.slice A' x.length c) ∧ Row w B 1 A' x.length (x.map encN) ∧ x.length ≤ 4611686018427387904

/-- The five cells of a script, read as plain data. -/
def ScrAt (w : World) (B : Nat) (A A' : Option Addr) (n m : Nat) (S : Scr) : Prop :=
  Row w B 6 A n (S.inputs.flatMap tmdCells) ∧ S.inputs.length = n ∧ Rows2 w B A' m S.sched ∧ n ≤ 4611686018427387904 ∧ m ≤ 4611686018427387904

theorem flat_at (l : List Tmd) : ∀ (k j : Nat) (t : Tmd), l[k]? = some t → j < 6 → (l.flatMap tmdCells)[6 * k + j]? = (tmdCells t)[j]? := by
  induction l with
  | nil => intro k j t h; simp at h
  | cons a l ih =>
    intro k j t h hj
    rw [List.flatMap_cons]
    have hlen : (tmdCells a).length = 6 := rfl
    cases k with
    | zero =>
      simp at h
      subst h
      rw [List.getElem?_append_left (by omega)]
      simp
    | succ k =>
      rw [List.getElem?_append_right (by omega), hlen]
      have e : 6 * (k + 1) + j - 6 = 6 * k + j := by omega
      rw [e]
      exact ih k j t (by simpa using h) hj

theorem Row.tmd {w : World} {B n k : Nat} {A : Option Addr} {l : List Tmd} (h : Row w B 6 A n (l.flatMap tmdCells)) (hl : l.length = n) (hk : k < n) :
    ∃ (b off : Nat) (t : Tmd), A = some ⟨b, off, none⟩ ∧ b < B ∧ l[k]? = some t ∧ ∀ j u, (tmdCells t)[j]? = some u → w.cell? ⟨b, off + (6 * k + j), none⟩ = some u := by
  obtain ⟨b, off, e, hb, hc⟩ := h.2 (by omega)
  obtain ⟨t, ht⟩ : ∃ t, l[k]? = some t := ⟨_, List.getElem?_eq_getElem (by omega)⟩
  refine ⟨b, off, t, e, hb, ht, fun j u hu => hc _ u ?_⟩
  have hj : j < 6 := (List.getElem?_eq_some_iff.1 hu).1
  rw [flat_at l k j t ht hj, hu]

/-- The k-th input of a slice, cell by cell, as the walk spells it. -/
theorem Row.tm {w : World} {B n k : Nat} {A : Option Addr} {l : List Tmd} (h : Row w B 6 A n (l.flatMap tmdCells)) (hl : l.length = n) (hk : k < n) :
    ∃ (b off : Nat) (tick kind number : Int) (fs ds ts : ByteArray), A = some ⟨b, off, none⟩ ∧ b < B ∧ l[k]? = some ⟨tick, ⟨kind, number, fs.data.toList, ds.data.toList, ts.data.toList⟩⟩ ∧
      w.cell? ⟨b, off + k * 6, none⟩ = some (.int .i64 tick) ∧ w.cell? ⟨b, off + k * 6 + 1, none⟩ = some (.int .i64 kind) ∧ w.cell? ⟨b, off + k * 6 + 2, none⟩ = some (.int .i64 number) ∧
      w.cell? ⟨b, off + k * 6 + 3, none⟩ = some (.string fs) ∧ w.cell? ⟨b, off + k * 6 + 4, none⟩ = some (.string ds) ∧ w.cell? ⟨b, off + k * 6 + 5, none⟩ = some (.string ts) := by
  obtain ⟨b, off, t, e, hb, ht, hc⟩ := h.tmd hl hk
  obtain ⟨tick, kind, number, frm, dst, txt⟩ := t
  have e6 : ∀ j, off + (6 * k + j) = off + k * 6 + j := fun j => by omega
  refine ⟨b, off, tick, kind, number, ⟨frm.toArray⟩, ⟨dst.toArray⟩, ⟨txt.toArray⟩, e, hb, ht, ?_, ?_, ?_, ?_, ?_, ?_⟩
  · have := hc 0 _ rfl; rwa [e6] at this
  · have := hc 1 _ rfl; rwa [e6] at this
  · have := hc 2 _ rfl; rwa [e6] at this
  · have := hc 3 _ rfl; rwa [e6] at this
  · have := hc 4 _ rfl; rwa [e6] at this
  · have := hc 5 _ rfl; rwa [e6] at this

theorem Rows2.below {w w' : World} {B n : Nat} {A : Option Addr} {xs : List (List Nm)} (h : Rows2 w B A n xs) (hb : Below B w w') : Rows2 w' B A n xs := by
  obtain ⟨vs, h1, h2, h3⟩ := h
  exact ⟨vs, h1.below hb, h2, fun k x hx => by obtain ⟨A', c, e, r⟩ := h3 k x hx; exact ⟨A', c, e, r.1.below hb, r.2⟩⟩
theorem Rows2.more {w : World} {B B' n : Nat} {A : Option Addr} {xs : List (List Nm)} (h : Rows2 w B A n xs) (hb : B ≤ B') : Rows2 w B' A n xs := by
  obtain ⟨vs, h1, h2, h3⟩ := h
  exact ⟨vs, h1.more hb, h2, fun k x hx => by obtain ⟨A', c, e, r⟩ := h3 k x hx; exact ⟨A', c, e, r.1.more hb, r.2⟩⟩
theorem ScrAt.below {w w' : World} {B n m : Nat} {A A' : Option Addr} {S : Scr} (h : ScrAt w B A A' n m S) (hb : Below B w w') : ScrAt w' B A A' n m S :=
  ⟨h.1.below hb, h.2.1, h.2.2.1.below hb, h.2.2.2⟩
theorem ScrAt.more {w : World} {B B' n m : Nat} {A A' : Option Addr} {S : Scr} (h : ScrAt w B A A' n m S) (hb : B ≤ B') : ScrAt w B' A A' n m S :=
  ⟨h.1.more hb, h.2.1, h.2.2.1.more hb, h.2.2.2⟩
/-- The same script in a later world. -/
theorem ScrAt.later {w w' : World} {n m : Nat} {A A' : Option Addr} {S : Scr} (h : ScrAt w w.heap.size A A' n m S) (hb : Below w.heap.size w w') : ScrAt w' w'.heap.size A A' n m S :=
  (h.below hb).more hb.size
theorem Row.later {w w' : World} {size n : Nat} {A : Option Addr} {xs : List Value} (h : Row w w.heap.size size A n xs) (hb : Below w.heap.size w w') : Row w' w'.heap.size size A n xs :=
  (h.below hb).more hb.size

/-- A number that an int can hold. -/
def I64 (n : Int) : Prop := -9223372036854775808 ≤ n ∧ n ≤ 9223372036854775807

def hasB (lo hi t : Int) : Bool := decide (lo ≤ t) && decide (t < hi)

theorem has38_any (lo hi before t : Int) (v1 v2 : Value) (w : World) (A A' : Option Addr) (n m c d : Nat) (h1 : v1 = .slice A n c) (h2 : v2 = .slice A' m d) :
    Calls Tryz.prog 38 #[.agg #[.int .i64 lo, .int .i64 hi, .int .i64 before, v1, v2], .int .i64 t] w fun e w' => e = .returned (.bool (hasB lo hi t)) ∧ Below w.heap.size w w' := by
  subst h1 h2
  by_cases h : lo ≤ t
  · have e : hasB lo hi t = decide (t < hi) := by simp [hasB, h]
    have HE := Lib.hid e
    clear e
    go_enter Tryz.func38, Tryz.ntmps38
    go_wp2
    go_ret
    exact ⟨by rw [HE.out]; rfl, (Below.refl _ _).alloc (Nat.le_refl _) _⟩
  · have e : hasB lo hi t = false := by simp [hasB, h]
    have HE := Lib.hid e
    clear e
    go_enter Tryz.func38, Tryz.ntmps38
    go_wp2
    go_ret
    exact ⟨by rw [HE.out]; rfl, (Below.refl _ _).alloc (Nat.le_refl _) _⟩

theorem u64_diff {a b : Int} (ha : I64 a) (hb : I64 b) (h : b < a) : IntKind.u64.wrap (IntKind.u64.wrap (IntKind.u64.wrap a - IntKind.u64.wrap b) - 1) = (((a - b - 1).toNat : Nat) : Int) := by
  unfold I64 at ha hb
  simp only [IntKind.wrap_u64]
  omega

set_option maxRecDepth 100000 in
set_option maxHeartbeats 1000000 in
theorem Input_in (S : Scr) (A A' : Option Addr) (n m c d : Nat) (num : Int) (t : Tmd) (w : World) (hS : ScrAt w w.heap.size A A' n m S)
    (h1 : I64 num) (h2 : I64 S.before) (hlt : S.before < num) (ht : S.inputs[(num - S.before - 1).toNat]? = some t) :
    Calls Tryz.prog 10 #[.agg #[.int .i64 S.lo, .int .i64 S.hi, .int .i64 S.before, .slice A n c, .slice A' m d], .int .i64 num] w fun e w' => e = .returned (.tuple #[.agg (tmdCells t).toArray, .bool true]) ∧ Below w.heap.size w w' := by
  obtain ⟨hr, hl, hs2, hn, hm⟩ := hS
  have hu := u64_diff h1 h2 hlt
  have hk : (num - S.before - 1).toNat < n := by rw [← hl]; exact (List.getElem?_eq_some_iff.1 ht).1
  obtain ⟨b, off, tick, kind, number, fs, ds, ts, rfl, hb, ht', c0, c1, c2, c3, c4, c5⟩ := hr.tm hl hk
  rw [ht] at ht'
  injection ht' with ht'
  subst ht'
  clear h1 h2 hr hl hs2 ht
  generalize (num - S.before - 1).toNat = k at *
  go_enter Tryz.func10, Tryz.ntmps10
  go_wp2
  exact bodyPost_ret (v := .tuple #[.agg #[.int .i64 tick, .int .i64 kind, .int .i64 number, .string fs, .string ds, .string ts], .bool true]) (by simp [results, Tryz.results10, go_sem]) rfl ⟨rfl, ((Below.refl _ _).alloc (Nat.le_refl _) _).alloc (by simp) _⟩

/-- The zero value. -/
def tmdZero : Tmd := ⟨0, ⟨0, 0, [], [], []⟩⟩

set_option maxRecDepth 100000 in
set_option maxHeartbeats 1000000 in
theorem Input_out (S : Scr) (A A' : Option Addr) (n m c d : Nat) (num : Int) (w : World) (hS : ScrAt w w.heap.size A A' n m S)
    (h1 : I64 num) (h2 : I64 S.before) (ht : num ≤ S.before ∨ S.inputs.length ≤ (num - S.before - 1).toNat) :
    Calls Tryz.prog 10 #[.agg #[.int .i64 S.lo, .int .i64 S.hi, .int .i64 S.before, .slice A n c, .slice A' m d], .int .i64 num] w fun e w' => e = .returned (.tuple #[.agg (tmdCells tmdZero).toArray, .bool false]) ∧ Below w.heap.size w w' := by
  obtain ⟨hr, hl, hs2, hn, hm⟩ := hS
  by_cases hlt : num ≤ S.before
  · clear h1 h2 hl hr hs2 ht
    go_enter Tryz.func10, Tryz.ntmps10
    go_wp2
    exact bodyPost_ret (v := .tuple #[.agg #[.int .i64 0, .int .i64 0, .int .i64 0, .string ⟨#[]⟩, .string ⟨#[]⟩, .string ⟨#[]⟩], .bool false]) (by simp [results, Tryz.results10, go_sem]) rfl ⟨rfl, ((Below.refl _ _).alloc (Nat.le_refl _) _).alloc (by simp) _⟩
  · have hu := u64_diff h1 h2 (by omega)
    have hk : n ≤ (num - S.before - 1).toNat := by rcases ht with h | h <;> omega
    clear h1 h2 hl hr hs2 ht
    generalize (num - S.before - 1).toNat = k at *
    go_enter Tryz.func10, Tryz.ntmps10
    go_wp2
    exact bodyPost_ret (v := .tuple #[.agg #[.int .i64 0, .int .i64 0, .int .i64 0, .string ⟨#[]⟩, .string ⟨#[]⟩, .string ⟨#[]⟩], .bool false]) (by simp [results, Tryz.results10, go_sem]) rfl ⟨rfl, ((Below.refl _ _).alloc (Nat.le_refl _) _).alloc (by simp) _⟩

end Go.Proofs.YtnibcffcbnjllaaGreatDoor
