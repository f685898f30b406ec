/- slices.IndexFunc, ContainsFunc at a predicate that lays blocks; the two Covers, HasInput. -/
import Derived.Test.YtnibcffcbnjllaaGreatDoorCan4
import Derived.Shelf.GgClosure.Gives
namespace Go.Proofs.YtnibcffcbnjllaaGreatDoor
open Go.RowKit

/-- What is asked of a predicate: in every later world it answers as p does, on the names of a list. -/
def PredB (g : Nat) (cb : Array Value) (p : Nm → Bool) (xs : List Nm) (w : World) : Prop :=
  ∀ (W : World) (s : ByteArray), Below w.heap.size w W → s.data.toList ∈ xs → Calls Tryz.prog g (#[.string s] ++ cb) W fun e w' => e = .returned (.bool (p s.data.toList)) ∧ Below W.heap.size W w'

def IdxRel (w : World) (n : Nat) (p : Nm → Bool) (xs : List Nm) (i : Value) (wr : World) : Prop :=
  ∃ k : Nat, k ≤ n ∧ i = .int .i64 (k : Int) ∧ (xs.take k).any p = false ∧ Below w.heap.size w wr
/-- What comes back: a place of the list where p holds, or -1. -/
def IdxIs (p : Nm → Bool) (xs : List Nm) (r : Int) : Prop := decide (0 ≤ r) = xs.any p ∧ -1 ≤ r ∧ r ≤ 100000

set_option maxRecDepth 100000 in
set_option maxHeartbeats 2000000 in
theorem IndexFunc_any (g : Nat) (cb : Array Value) (eg : ∀ args w, (callFunc g args).run Tryz.prog w = .ok (.enter g args) w) (p : Nm → Bool) (A : Option Addr) (n c : Nat) (xs : List Nm) (w : World) (hn : n ≤ 100000)
    (hr : Row w w.heap.size 1 A n (xs.map encN)) (hp : PredB g cb p xs w) :
    Calls Tryz.prog 78 #[.slice A n c, .func (.func g) #[] cb] w fun e w' => ∃ r, e = .returned (.int .i64 r) ∧ IdxIs p xs r ∧ Below w.heap.size w w' := by
  have hlen : xs.length = n := by simpa using hr.1
  have HP := Lib.hid hp
  clear hp
  go_enter Tryz.func78, Tryz.ntmps78
  go_wp2_with fail
  go_loopw [8] (IdxRel w n p xs) (fun i _ => n - (intOf i).toNat)
  case atStart => exact ⟨0, by omega, rfl, rfl, Below.refl _ _⟩
  case round =>
    obtain ⟨k, hk, rfl, hno, hbr⟩ := hrel
    have HNO := Lib.hid hno
    clear hno
    by_cases hlt : k < n
    · obtain ⟨b1, o1, u, rfl, hb1', hx0, cx⟩ := hr.at1 hlt
      rw [List.getElem?_map] at hx0
      obtain ⟨x, hx, rfl⟩ := Option.map_eq_some_iff.1 hx0
      clear hx0
      obtain ⟨s, rfl⟩ : ∃ s : ByteArray, x = s.data.toList := ⟨⟨x.toArray⟩, rfl⟩
      have cxr := (hbr.cell (p := ⟨b1, o1 + k, none⟩) hb1').trans cx
      rw [encN_eq] at cxr
      have hmem := List.mem_of_getElem? hx
      have hC := HP.out wr s hbr hmem
      cases hq : p s.data.toList with
      | true =>
        rw [hq] at hC
        have hany : xs.any p = true := List.any_eq_true.2 ⟨_, hmem, hq⟩
        have HC := Lib.hid hC
        have HA := Lib.hid hany
        clear hC hany hx hmem hq cx
        go_wp2_with (go_at_fn g; refine HC.out.mono ?_; rintro e w2 ⟨rfl, hb2⟩)
        go_ret
        refine ⟨_, rfl, ⟨?_, by omega, by omega⟩, hbr.trans (hb2.mono hbr.size)⟩
        rw [HA.out, decide_eq_true]
        omega
      | false =>
        rw [hq] at hC
        have hany : (xs.take (k + 1)).any p = false := by
          rw [List.take_add_one, List.any_append, HNO.out, hx]
          simp [hq]
        have HC := Lib.hid hC
        have HA := Lib.hid hany
        clear hC hany hx hmem hq cx
        go_wp2_with (go_at_fn g; refine HC.out.mono ?_; rintro e w2 ⟨rfl, hb2⟩)
        go_roundw
        case rel => exact ⟨k + 1, by omega, by go_num, HA.out, hbr.trans (hb2.mono hbr.size)⟩
        case measure => simp [intOf]; omega
    · obtain rfl : k = n := by omega
      have hany := HNO.out
      rw [← hlen, List.take_length] at hany
      have HA := Lib.hid hany
      clear hany
      go_wp2_with fail
      go_ret
      exact ⟨_, rfl, ⟨by rw [HA.out]; rfl, by omega, by omega⟩, hbr⟩

set_option maxHeartbeats 1000000 in
theorem ContainsFunc_any (g : Nat) (cb : Array Value) (eg : ∀ args w, (callFunc g args).run Tryz.prog w = .ok (.enter g args) w) (p : Nm → Bool) (A : Option Addr) (n c : Nat) (xs : List Nm) (w : World) (hn : n ≤ 100000)
    (hr : Row w w.heap.size 1 A n (xs.map encN)) (hp : PredB g cb p xs w) :
    Calls Tryz.prog 46 #[.slice A n c, .func (.func g) #[] cb] w fun e w' => e = .returned (.bool (xs.any p)) ∧ Below w.heap.size w w' := by
  have hI := IndexFunc_any g cb eg p A n c xs w hn hr hp
  have HI := Lib.hid hI
  clear hI hp hr
  go_enter Tryz.func46, Tryz.ntmps46
  go_wp2_with fail
  refine HI.out.mono ?_
  rintro e w1 ⟨r, rfl, hr, hb1⟩
  have HR := Lib.hid hr
  clear hr
  go_wp2_with fail
  go_ret
  exact ⟨by rw [← HR.out.1]; rfl, hb1⟩

/-- The predicate of lineage.Covers. -/
theorem LinCov1 (a s : ByteArray) (B : Nat) (W : World) (ha : a.size ≤ 4294967280) (hs : s.size ≤ 4294967280) (hc : W.cell? ⟨B, 0, none⟩ = some (.string s)) :
    Calls Tryz.prog 50 #[.string a, .pointer (some ⟨B, 0, none⟩)] W fun e w' => e = .returned (.bool (withinB s.data.toList a.data.toList)) ∧ Below W.heap.size W w' := by
  have hW := Within_any s a W hs ha
  generalize withinB s.data.toList a.data.toList = r at hW ⊢
  have HW := Lib.hid hW
  clear hW
  go_enter Tryz.func50, Tryz.ntmps50
  go_wp2_with fail
  refine HW.out.mono ?_
  rintro e w1 ⟨rfl, hb1⟩
  go_wp2_with fail
  go_ret
  exact ⟨rfl, hb1⟩

/-- The predicate of (Without).Covers. -/
def scrCovB (s a : Nm) : Bool := decide (a ≠ []) && withinB s a
theorem ScrCov1 (a s : ByteArray) (B : Nat) (W : World) (ha : a.size ≤ 4294967280) (hs : s.size ≤ 4294967280) (hc : W.cell? ⟨B, 0, none⟩ = some (.string s)) :
    Calls Tryz.prog 47 #[.string a, .pointer (some ⟨B, 0, none⟩)] W fun e w' => e = .returned (.bool (scrCovB s.data.toList a.data.toList)) ∧ Below W.heap.size W w' := by
  by_cases h0 : a.data.toList = []
  · have e : scrCovB s.data.toList a.data.toList = false := by simp [scrCovB, h0]
    rw [e]
    have hem := isEmpty_of_nil h0
    clear e h0
    go_enter Tryz.func47, Tryz.ntmps47
    go_wp2_with fail
    go_ret
    exact ⟨rfl, Below.refl _ _⟩
  · have e : scrCovB s.data.toList a.data.toList = withinB s.data.toList a.data.toList := by simp [scrCovB, h0]
    rw [e]
    have hem := isEmpty_of_ne h0
    have hW := Within_any s a W hs ha
    generalize withinB s.data.toList a.data.toList = r at hW ⊢
    have HW := Lib.hid hW
    clear hW e h0
    go_enter Tryz.func47, Tryz.ntmps47
    go_wp2_with fail
    refine HW.out.mono ?_
    rintro e w1 ⟨rfl, hb1⟩
    go_wp2_with fail
    go_ret
    exact ⟨rfl, hb1⟩

set_option maxHeartbeats 1000000 in
theorem LinCovers_any (A : Option Addr) (n c : Nat) (xs : List Nm) (s : ByteArray) (w : World) (hn : n ≤ 100000) (hxs : ∀ x ∈ xs, x.length ≤ 1000) (hs : s.size ≤ 4294967280) (hr : Row w w.heap.size 1 A n (xs.map encN)) :
    Calls Tryz.prog 24 #[.slice A n c, .string s] w fun e w' => e = .returned (.bool (xs.any fun a => withinB s.data.toList a)) ∧ Below w.heap.size w w' := by
  obtain ⟨W1, hW1⟩ : ∃ W1, w.alloc (.cells #[.string s] 53) = W1 := ⟨_, rfl⟩
  have hb1 : Below w.heap.size w W1 := by rw [← hW1]; exact (Below.refl _ w).alloc (Nat.le_refl _) _
  have hbx : Boxed W1 w.heap.size 53 (.string s) := by rw [← hW1]; exact Boxed.new w _ _
  have hC := ContainsFunc_any 50 #[.pointer (some ⟨w.heap.size, 0, none⟩)] (enters_of Tryz.func50 (by kernel_rfl) rfl) (fun a => withinB s.data.toList a) A n c xs W1 hn (hr.later hb1) (by
    intro W a hb ha
    have hl := hxs _ ha
    have hz := size_nm a
    refine LinCov1 a s w.heap.size W (by omega) hs ?_
    exact (hb.cell (p := ⟨w.heap.size, 0, none⟩) hbx.lt).trans hbx.cell)
  generalize (xs.any fun a => withinB s.data.toList a) = r at hC ⊢
  have HC := Lib.hid hC
  have HW := Lib.hid hW1
  clear hC hW1
  go_enter Tryz.func24, Tryz.ntmps24
  go_wp2_with fail
  rw [HW.out]
  refine HC.out.mono ?_
  rintro e w2 ⟨rfl, hb2⟩
  go_wp2_with fail
  go_ret
  exact ⟨rfl, hb1.trans (hb2.mono hb1.size)⟩

def hasInB (l : List Int) (x : Int) : Bool := decide (1 ≤ x) && l.contains x
set_option maxHeartbeats 1000000 in
theorem HasInput_any (A A' : Option Addr) (n c m d : Nat) (xs : List Int) (x : Int) (w : World) (hn : n ≤ 100000) (hr : Row w w.heap.size 1 A n (xs.map encI)) :
    Calls Tryz.prog 20 #[.agg #[.slice A n c, .slice A' m d], .int .i64 x] w fun e w' => e = .returned (.bool (hasInB xs x)) ∧ Below w.heap.size w w' := by
  have hlen : xs.length = n := by simpa using hr.1
  by_cases hx : 1 ≤ x
  · have e : hasInB xs x = xs.contains x := by simp [hasInB, hx]
    rw [e]
    have hb1 : ∀ o, Below w.heap.size w (w.alloc o) := fun o => (Below.refl _ w).alloc (Nat.le_refl _) o
    have hC : ∀ o, Calls Tryz.prog 43 #[.slice A n c, .int .i64 x] (w.alloc o) fun e w' => e = .returned (.bool (xs.contains x)) ∧ w' = w.alloc o := by
      intro o
      rcases Nat.eq_zero_or_pos n with h0 | hpos
      · subst h0
        obtain rfl : xs = [] := List.length_eq_zero_iff.1 hlen
        exact Tryz.slices_Contains_int_empty A c x _
      · obtain ⟨b, off, rfl, hb, hc⟩ := (hr.later (hb1 o)).2 hpos
        have := Tryz.slices_Contains_int b off n c xs x (w.alloc o) (by omega) (by omega) (fun j hj => by
          have := hc j (encI xs[j]) (by simp [hj])
          rw [this]
          simp [encI, List.getD_eq_getElem?_getD, hj])
        rw [← hlen, List.take_length] at this
        rw [hlen] at this
        exact this
    generalize xs.contains x = r at hC ⊢
    have HC := Lib.hid hC
    clear hC e
    go_enter Tryz.func20, Tryz.ntmps20
    go_wp2_with fail
    refine (HC.out _).mono ?_
    rintro e w1 ⟨rfl, rfl⟩
    go_wp2_with fail
    go_ret
    exact ⟨rfl, hb1 _⟩
  · have e : hasInB xs x = false := by simp [hasInB, hx]
    rw [e]
    clear e
    go_enter Tryz.func20, Tryz.ntmps20
    go_wp2_with fail
    go_ret
    exact ⟨rfl, (Below.refl _ w).alloc (Nat.le_refl _) _⟩

end Go.Proofs.YtnibcffcbnjllaaGreatDoor
