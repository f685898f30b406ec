/- (Without).roots, rooted. -/
import Derived.Test.YtnibcffcbnjllaaGreatDoorMem2
namespace Go.Proofs.YtnibcffcbnjllaaGreatDoor
open Go.RowKit Go.Sort

/-- The root processes of numbers. -/
def rootStep (ts : List Nm) (x : Int) : List Nm := if rootErr x = 0 then ts ++ [rootNm x] else ts
def rootsN (l : List Int) : List Nm := l.foldl rootStep []
theorem rootStep_len : ∀ (l : List Int) (ts : List Nm), (l.foldl rootStep ts).length ≤ ts.length + l.length
  | [], ts => by simp
  | x :: l, ts => by
    rw [List.foldl_cons, List.length_cons]
    have := rootStep_len l (rootStep ts x)
    have h : (rootStep ts x).length ≤ ts.length + 1 := by unfold rootStep; split <;> simp
    omega
theorem rootStep_eq : ∀ (l : List Int) (ts : List Nm), l.foldl rootStep ts = ts ++ (l.filter (fun x => decide (rootErr x = 0))).map rootNm
  | [], ts => by simp
  | x :: l, ts => by
    rw [List.foldl_cons, rootStep_eq l]
    unfold rootStep
    by_cases h : rootErr x = 0
    · rw [if_pos h, List.filter_cons_of_pos (by simpa using h)]; simp
    · rw [if_neg h, List.filter_cons_of_neg (by simpa using h)]
theorem rootsN_eq (l : List Int) : rootsN l = (l.filter (fun x => decide (rootErr x = 0))).map rootNm := by
  unfold rootsN; rw [rootStep_eq]; simp
theorem rootNm_len (x : Int) : (rootNm x).length ≤ 21 := by
  unfold rootNm
  split
  · exact Lib.itoa_length_le x (by omega) (by omega)
  · simp
theorem rootErr_cases (x : Int) : rootErr x = 0 ∨ rootErr x = 2 := by unfold rootErr; split <;> simp

def RootsRel (W1 : World) (n : Nat) (l : List Int) (v i : Value) (wr : World) : Prop :=
  ∃ k ts, k ≤ n ∧ i = .int .i64 (k : Int) ∧ ts = (l.take k).foldl rootStep [] ∧ wr.ownsRow W1.heap.size 53 1 v ts.length (ts.map encN) ∧ Below W1.heap.size W1 wr

set_option maxRecDepth 100000 in
set_option maxHeartbeats 1000000 in
theorem roots_any (A A' : Option Addr) (n c m d : Nat) (xs : List Int) (w : World) (hok : Ok w) (hn : n ≤ 100000) (hr : Row w w.heap.size 1 A n (xs.map encI)) :
    Calls Tryz.prog 73 #[.agg #[.slice A n c, .slice A' m d]] w fun e w' => ∃ v', e = .returned v' ∧ w'.ownsRow w.heap.size 53 1 v' (rootsN xs).length ((rootsN xs).map encN) ∧ Below w.heap.size w w' := by
  obtain ⟨i0, hi, hz0, hz1, hz2⟩ := info_parts Tryz.infoName
  have hlen : xs.length = n := by simpa using hr.1
  have ht : rootsN xs = xs.foldl rootStep [] := rfl
  generalize rootsN xs = t at ht ⊢
  have HT := Lib.hid ht
  have HOK := Lib.hid hok
  clear ht hok
  obtain ⟨W1, hW1⟩ : ∃ W1, w.alloc (.cells #[.slice A n c, .slice A' m d] 47) = W1 := ⟨_, rfl⟩
  have hb1 : Below w.heap.size w W1 := by rw [← hW1]; exact (Below.refl _ w).alloc (Nat.le_refl _) _
  have hz : W1.heap.size = w.heap.size + 1 := by rw [← hW1]; simp
  have HW := Lib.hid hW1
  have HZ := Lib.hid hz
  clear hW1 hz
  go_enter Tryz.func73, Tryz.ntmps73
  go_wp2_with fail
  rw [HW.out]
  go_loopw [3, 11] (RootsRel W1 n xs) (fun _ i _ => n - (intOf i).toNat)
  case atStart => exact ⟨0, [], by omega, rfl, rfl, World.ownsRow_nil _ _ _ _, Below.refl _ _⟩
  case round =>
    obtain ⟨k, ts, hk, rfl, hts, hown, hbr⟩ := hrel
    have htl : ts.length ≤ k := by
      have := rootStep_len (xs.take k) []
      rw [← hts, List.length_take] at this
      simp at this
      omega
    have HTS := Lib.hid hts
    have hsz := hbr.size
    have hb2 := hb1.trans (hbr.mono hb1.size)
    clear hts
    by_cases hlt : k < n
    · obtain ⟨b1, o1, u, rfl, hb1', hx0, cx⟩ := hr.at1 hlt
      rw [List.getElem?_map] at hx0
      obtain ⟨x, hx, rfl⟩ := Option.map_eq_some_iff.1 hx0
      clear hx0
      have cxr := (hb2.cell (p := ⟨b1, o1 + k, none⟩) hb1').trans cx
      unfold encI at cxr
      have hstep : rootStep ts x = (xs.take (k + 1)).foldl rootStep [] := by
        rw [List.take_add_one, List.foldl_append, ← HTS.out, hx]
        rfl
      have HST := Lib.hid hstep
      have HX := Lib.hid hx
      clear hstep hx cx
      have hC := stepRoot_any x wr (HOK.out.later hb2)
      rcases rootErr_cases x with he | he
      · rw [he] at hC
        have hs2 : rootStep ts x = ts ++ [rootNm x] := by unfold rootStep; rw [if_pos he]
        have HS2 := Lib.hid hs2
        have HC := Lib.hid hC
        clear hC hs2 he
        go_wp2_with fail
        refine HC.out.mono ?_
        rintro e w2 ⟨rfl, hb3⟩
        have hown2 := own_later hown hb3
        have hb4 := hbr.trans (hb3.mono hsz)
        have hsz4 := hb4.size
        unfold encN
        go_wp2_with (at_builtin; refine wpList_append_own _ rfl _ _ 38 rfl W1.heap.size 53 i0 (.string ⟨#[]⟩) 1 16 Tryz.underlying38 hi hz0 hz1 hz2 rfl (by decide) _ _ _ rfl (hown2.alloc _) ⟨w2.heap.size, 0, none⟩ 1 1 [.string ⟨(rootNm x).toArray⟩] rfl rfl (cell_one_new _ _ _) (by simp [Value.oneCell']) (by unfold maxLen; omega) (by omega) (by simp; omega) ?_; intro v' w1 hown' hgrow _; have R := Lib.hid (own_step hown2 hb4 hgrow); clear hgrow)
        go_roundw
        case rel => exact ⟨k + 1, ts ++ [rootNm x], by omega, by go_num, by rw [← HST.out, HS2.out], by rw [List.map_append, List.length_append]; exact hown', R.out⟩
        case measure => simp [intOf]; omega
      · rw [he] at hC
        have hs2 : rootStep ts x = ts := by unfold rootStep; rw [if_neg (by omega)]
        have HS2 := Lib.hid hs2
        have HC := Lib.hid hC
        clear hC hs2 he
        go_wp2_with fail
        refine HC.out.mono ?_
        rintro e w2 ⟨rfl, hb3⟩
        have hown2 := own_later hown hb3
        have hb4 := hbr.trans (hb3.mono hsz)
        unfold encN
        go_wp2_with fail
        go_roundw
        case rel => exact ⟨k + 1, ts, by omega, by go_num, by rw [← HST.out, HS2.out], hown2, hb4⟩
        case measure => simp [intOf]; omega
    · obtain rfl : k = n := by omega
      have hte : t = ts := by rw [HT.out, HTS.out, ← hlen, List.take_length]
      subst hte
      have ho := own_base hown hb1.size
      go_wp2_with fail
      go_ret
      exact ⟨_, rfl, ho, hb2⟩

/-- Whether a name is within the root process of one of some numbers. -/
def rootedB (l : List Int) (s : Nm) : Bool := l.any fun x => decide (rootErr x = 0) && withinB s (rootNm x)

def RootedRel (w : World) (n : Nat) (l : List Int) (s : Nm) (i : Value) (wr : World) : Prop :=
  ∃ k, k ≤ n ∧ i = .int .i64 (k : Int) ∧ rootedB (l.take k) s = false ∧ Below w.heap.size w wr

set_option maxRecDepth 100000 in
set_option maxHeartbeats 1000000 in
theorem rooted_any (A : Option Addr) (n c : Nat) (xs : List Int) (s : ByteArray) (w : World) (hok : Ok w) (hn : n ≤ 100000) (hs : s.size ≤ 4294967280) (hr : Row w w.heap.size 1 A n (xs.map encI)) :
    Calls Tryz.prog 23 #[.slice A n c, .string s] w fun e w' => e = .returned (.bool (rootedB xs s.data.toList)) ∧ Below w.heap.size w w' := by
  have hlen : xs.length = n := by simpa using hr.1
  obtain ⟨r, hr0⟩ : ∃ r, rootedB xs s.data.toList = r := ⟨_, rfl⟩
  have HR := Lib.hid hr0
  rw [hr0]
  have HOK := Lib.hid hok
  clear hok hr0
  go_enter Tryz.func23, Tryz.ntmps23
  go_wp2_with fail
  go_loopw [5] (RootedRel w n xs s.data.toList) (fun i _ => n - (intOf i).toNat)
  case atStart => exact ⟨0, by omega, rfl, rfl, Below.refl _ _⟩
  case round =>
    obtain ⟨k, hk, rfl, hno, hbr⟩ := hrel
    have HNO := Lib.hid hno
    clear hno
    by_cases hlt : k < n
    · obtain ⟨b1, o1, u, rfl, hb1', hx0, cx⟩ := hr.at1 hlt
      rw [List.getElem?_map] at hx0
      obtain ⟨x, hx, rfl⟩ := Option.map_eq_some_iff.1 hx0
      clear hx0
      have cxr := (hbr.cell (p := ⟨b1, o1 + k, none⟩) hb1').trans cx
      unfold encI at cxr
      have hstep : rootedB (xs.take (k + 1)) s.data.toList = (decide (rootErr x = 0) && withinB s.data.toList (rootNm x)) := by
        rw [List.take_add_one, hx]
        unfold rootedB
        rw [List.any_append]
        have := HNO.out
        unfold rootedB at this
        rw [this]
        simp
      have hin : (decide (rootErr x = 0) && withinB s.data.toList (rootNm x)) = true → r = true := by
        intro h
        rw [← HR.out]
        unfold rootedB
        rw [List.any_eq_true]
        exact ⟨x, List.mem_of_getElem? hx, h⟩
      have HST := Lib.hid hstep
      have HIN := Lib.hid hin
      clear hstep hx cx hin
      have hC := stepRoot_any x wr (HOK.out.later hbr)
      rcases rootErr_cases x with he | he
      · rw [he] at hC
        have HC := Lib.hid hC
        have HE := Lib.hid he
        have hrl := rootNm_len x
        have hrz : (⟨(rootNm x).toArray⟩ : ByteArray).size ≤ 4294967280 := by
          show (rootNm x).toArray.size ≤ _
          simp; omega
        have HRZ := Lib.hid hrz
        clear hC he hrl hrz
        go_wp2_with fail
        refine HC.out.mono ?_
        rintro e w2 ⟨rfl, hb3⟩
        have hb4 := hbr.trans (hb3.mono hbr.size)
        have hW := Within_any s ⟨(rootNm x).toArray⟩ w2 hs HRZ.out
        unfold encN
        cases hwb : withinB s.data.toList (rootNm x) with
        | true =>
          rw [show withinB s.data.toList (⟨(rootNm x).toArray⟩ : ByteArray).data.toList = true from hwb] at hW
          have hrt : r = true := HIN.out (by rw [HE.out, hwb]; rfl)
          subst hrt
          have HW := Lib.hid hW
          clear hW hwb
          go_wp2_with fail
          refine HW.out.mono ?_
          rintro e w3 ⟨rfl, hb5⟩
          go_wp2_with fail
          go_ret
          exact ⟨rfl, hb4.trans (hb5.mono hb4.size)⟩
        | false =>
          rw [show withinB s.data.toList (⟨(rootNm x).toArray⟩ : ByteArray).data.toList = false from hwb] at hW
          have hst2 := HST.out
          rw [hwb, Bool.and_false] at hst2
          have HS2 := Lib.hid hst2
          have HW := Lib.hid hW
          clear hW hwb hst2
          go_wp2_with fail
          refine HW.out.mono ?_
          rintro e w3 ⟨rfl, hb5⟩
          have hb6 := hb4.trans (hb5.mono hb4.size)
          go_wp2_with fail
          go_roundw
          case rel => exact ⟨k + 1, by omega, by go_num, HS2.out, hb6⟩
          case measure => simp [intOf]; omega
      · rw [he] at hC
        have HC := Lib.hid hC
        have hst2 := HST.out
        rw [he] at hst2
        have HS2 := Lib.hid hst2
        clear hC he hst2
        go_wp2_with fail
        refine HC.out.mono ?_
        rintro e w2 ⟨rfl, hb3⟩
        have hb4 := hbr.trans (hb3.mono hbr.size)
        unfold encN
        go_wp2_with fail
        go_roundw
        case rel => exact ⟨k + 1, by omega, by go_num, by rw [HS2.out]; rfl, hb4⟩
        case measure => simp [intOf]; omega
    · obtain rfl : k = n := by omega
      have hrf : r = false := by rw [← HR.out, ← HNO.out, ← hlen, List.take_length]
      subst hrf
      go_wp2_with fail
      go_ret
      exact ⟨rfl, hbr⟩

end Go.Proofs.YtnibcffcbnjllaaGreatDoor
