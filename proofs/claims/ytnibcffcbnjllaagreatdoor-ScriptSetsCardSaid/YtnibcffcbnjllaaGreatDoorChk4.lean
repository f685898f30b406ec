/- mailbox.Split, (Input).checkMail, (Input).Check. -/
import Derived.Test.YtnibcffcbnjllaaGreatDoorChk5
import Derived.Test.YtnibcffcbnjllaaGreatDoorLin5
namespace Go.Proofs.YtnibcffcbnjllaaGreatDoor
open Go.RowKit

def SplitRes (w : World) (e : Ending) (w' : World) : Prop := ∃ (a b : ByteArray) (r : Int), e = .returned (.tuple #[.string a, .string b, .int .i64 r]) ∧ Below w.heap.size w w'

theorem cut_len (s sep : Nm) : (Lib.cut s sep).1.length ≤ s.length ∧ (Lib.cut s sep).2.1.length ≤ s.length := by
  unfold Lib.cut
  split
  · exact ⟨by simp only [List.length_take]; omega, by simp only [List.length_drop]; omega⟩
  · exact ⟨Nat.le_refl _, by simp⟩

set_option maxRecDepth 100000 in
set_option maxHeartbeats 1000000 in
theorem Split_any (s : ByteArray) (w : World) (hok : Ok w) (hs : s.size ≤ 4294967280) : Calls Tryz.prog 95 #[.string s] w fun e w' => SplitRes w e w' := by
  have hC := Tryz.strings_Count_one s 64 w
  obtain ⟨m, hm⟩ := hok.maxLen
  have hT := Tryz.strings_Cut s ⟨#[64]⟩ m w (by omega) hm
  have hcl := cut_len s.data.toList [64]
  have hsz := size_nm0 s
  rw [show (⟨#[64]⟩ : ByteArray).data.toList = [64] from rfl] at hT
  generalize Lib.cut s.data.toList [64] = ct at hT hcl
  obtain ⟨x, y, z⟩ := ct
  simp only at hT hcl
  have hN := fun W => CheckName_any ⟨x.toArray⟩ W (by rw [size_nm0]; simp; omega)
  have hH := fun W => checkHost_any ⟨y.toArray⟩ W (by rw [size_nm0]; simp; omega)
  generalize (Lib.countByte s.data.toList 64 : Int) = cnt at hC
  have HC := Lib.hid hC
  have HT := Lib.hid hT
  have HN := Lib.hid hN
  have HH := Lib.hid hH
  clear hC hT hm hok hcl hsz hN hH
  by_cases h1 : 1 < cnt
  · go_enter Tryz.func95, Tryz.ntmps95
    go_wp2_with fail
    refine HC.out.mono ?_
    rintro e w1 ⟨rfl, rfl⟩
    go_wp2_with fail
    go_ret3
    exact ⟨_, _, _, rfl, Below.refl _ _⟩
  go_enter Tryz.func95, Tryz.ntmps95
  go_wp2_with fail
  refine HC.out.mono ?_
  rintro e w1 ⟨rfl, rfl⟩
  go_wp2_with fail
  refine HT.out.mono ?_
  rintro e w2 ⟨rfl, q, rfl⟩
  have hbq : Below w1.heap.size w1 (w1.drewN q) := below_drewN (Below.refl _ _) q
  generalize w1.drewN q = W2 at hbq ⊢
  go_wp2_with fail
  refine (HN.out _).mono ?_
  rintro e w3 ⟨r, rfl, hb3⟩
  have hbq3 := hbq.trans (hb3.mono hbq.size)
  by_cases hr : r = 0
  · have hr' : (r != 0) = false := by simp [hr]
    clear hr
    by_cases hy : y = []
    · have hem : y.isEmpty = true := by simp [hy]
      clear hy
      cases z with
      | true =>
        go_wp2_with fail
        go_ret3
        exact ⟨_, _, _, rfl, hbq3⟩
      | false =>
        go_wp2_with fail
        refine (HH.out _).mono ?_
        rintro e w4 ⟨r4, rfl, hb4⟩
        have hbq4 := hbq3.trans (hb4.mono hbq3.size)
        go_wp2_with fail
        all_goals
          go_ret3
          exact ⟨_, _, _, rfl, hbq4⟩
    · have hem : y.isEmpty = false := by simp [hy]
      clear hy
      cases z with
      | true =>
        go_wp2_with fail
        refine (HH.out _).mono ?_
        rintro e w4 ⟨r4, rfl, hb4⟩
        have hbq4 := hbq3.trans (hb4.mono hbq3.size)
        go_wp2_with fail
        all_goals
          go_ret3
          exact ⟨_, _, _, rfl, hbq4⟩
      | false =>
        go_wp2_with fail
        refine (HH.out _).mono ?_
        rintro e w4 ⟨r4, rfl, hb4⟩
        have hbq4 := hbq3.trans (hb4.mono hbq3.size)
        go_wp2_with fail
        all_goals
          go_ret3
          exact ⟨_, _, _, rfl, hbq4⟩
  · have hr' : (r != 0) = true := by simp [hr]
    clear hr
    go_wp2_with fail
    go_ret3
    exact ⟨_, _, _, rfl, hbq3⟩

theorem info5 (w : World) (k n : Int) (f d t : ByteArray) : BoxN (w.alloc (.cells #[.int .i64 k, .int .i64 n, .string f, .string d, .string t] 31)) w.heap.size 31 #[.int .i64 k, .int .i64 n, .string f, .string d, .string t] := BoxN.new w _ _

set_option maxRecDepth 100000 in
set_option maxHeartbeats 1000000 in
theorem checkMail_any (k n : Int) (f d t : ByteArray) (w : World) (hok : Ok w) (hf : f.size ≤ 4294967280) (hd : d.size ≤ 4294967280) :
    Calls Tryz.prog 68 #[.agg #[.int .i64 k, .int .i64 n, .string f, .string d, .string t]] w fun e w' => SomeInt w e w' := by
  have b0 := info5 w k n f d t
  have hb0 : Below w.heap.size w (w.alloc (.cells #[.int .i64 k, .int .i64 n, .string f, .string d, .string t] 31)) := (Below.refl _ w).alloc (Nat.le_refl _) _
  obtain ⟨W1, hW1⟩ : ∃ W1, w.alloc (.cells #[.int .i64 k, .int .i64 n, .string f, .string d, .string t] 31) = W1 := ⟨_, rfl⟩
  rw [hW1] at b0 hb0
  have hN := CheckName_any d W1 (by omega)
  have hSp := fun W (hb : Below w.heap.size w W) => Split_any f W (hok.later hb) hf
  have HN := Lib.hid hN
  have HS := Lib.hid hSp
  have HW := Lib.hid hW1
  have HB := Lib.hid hb0
  have hz := hb0.size
  clear hN hSp hok hW1 hb0
  go_enter Tryz.func68, Tryz.ntmps68
  go_wp2_with fail
  rw [HW.out]
  refine HN.out.mono ?_
  rintro e w2 ⟨r, rfl, hb2⟩
  have b2 := b0.later hb2
  have q2 := b2.c 2
  simp only [List.getElem?_toArray, List.getElem?_cons_zero, List.getElem?_cons_succ] at q2
  have hB2 := HB.out.trans (hb2.mono hz)
  by_cases hr : r = 0
  · have hr' : (r != 0) = false := by simp [hr]
    clear hr
    go_wp2_with fail
    refine (HS.out _ hB2).mono ?_
    rintro e w3 ⟨x, y, r3, rfl, hb3⟩
    have b3 := b2.later hb3
    have q4 := b3.c 4
    simp only [List.getElem?_toArray, List.getElem?_cons_zero, List.getElem?_cons_succ] at q4
    have hB3 := hB2.trans (hb3.mono hB2.size)
    by_cases hr3 : r3 = 0
    · have hr3' : (r3 != 0) = false := by simp [hr3]
      clear hr3
      go_wp2_with fail
      all_goals
        go_ret
        exact ⟨_, rfl, hB3⟩
    · have hr3' : (r3 != 0) = true := by simp [hr3]
      clear hr3
      go_wp2_with fail
      go_ret
      exact ⟨_, rfl, hB3⟩
  · have hr' : (r != 0) = true := by simp [hr]
    clear hr
    go_wp2_with fail
    go_ret
    exact ⟨_, rfl, hB2⟩

/-- What (Input).Check says: some number; 0 at a good Advance. -/
def InpRes (w : World) (k n : Int) (f d t : ByteArray) (e : Ending) (w' : World) : Prop :=
  ∃ r : Int, e = .returned (.int .i64 r) ∧ Below w.heap.size w w' ∧ (k = 4 → 1 ≤ n → n ≤ 1073741824 → f.data.toList = [] → d.data.toList = [] → t.data.toList = [] → r = 0)

set_option maxRecDepth 100000 in
set_option maxHeartbeats 2000000 in
theorem InputCheck_any (k n : Int) (f d t : ByteArray) (w : World) (hok : Ok w) (hf : f.size ≤ 4294967280) (hd : d.size ≤ 4294967280) (ht : t.size ≤ 4294967280) :
    Calls Tryz.prog 36 #[.agg #[.int .i64 k, .int .i64 n, .string f, .string d, .string t]] w fun e w' => InpRes w k n f d t e w' := by
  have b0 := info5 w k n f d t
  have hb0 : Below w.heap.size w (w.alloc (.cells #[.int .i64 k, .int .i64 n, .string f, .string d, .string t] 31)) := (Below.refl _ w).alloc (Nat.le_refl _) _
  obtain ⟨W1, hW1⟩ : ∃ W1, w.alloc (.cells #[.int .i64 k, .int .i64 n, .string f, .string d, .string t] 31) = W1 := ⟨_, rfl⟩
  rw [hW1] at b0 hb0
  have hz := hb0.size
  have HW := Lib.hid hW1
  have HB := Lib.hid hb0
  by_cases hk : k < 1 ∨ 6 < k
  · have hk4 : k ≠ 4 := by omega
    have HK := Lib.hid hk4
    clear hk4 hok b0 hW1
    rcases hk with hk | hk
    · go_enter Tryz.func36, Tryz.ntmps36
      go_wp2_with fail
      rw [HW.out]
      go_ret
      exact ⟨_, rfl, HB.out, fun h => absurd h HK.out⟩
    · go_enter Tryz.func36, Tryz.ntmps36
      go_wp2_with fail
      rw [HW.out]
      go_ret
      exact ⟨_, rfl, HB.out, fun h => absurd h HK.out⟩
  have hS := superfluous_any k n f d t W1
  have hLn := fun W => CheckLine_any t W (by omega)
  have hPk := fun W => PacketCheck_any f t W (by omega)
  have hMl := fun W (hb : Below w.heap.size w W) => checkMail_any k n f d t W (hok.later hb) hf hd
  have hIn := fun W => checkInstall_any k n f d t W
  have HS := Lib.hid hS
  have HLN := Lib.hid hLn
  have HPK := Lib.hid hPk
  have HML := Lib.hid hMl
  have HIN := Lib.hid hIn
  clear hS hLn hPk hMl hIn hok hW1 hb0
  have g1 : 1 ≤ k := by omega
  have g2 : k ≤ 6 := by omega
  clear hk
  go_enter Tryz.func36, Tryz.ntmps36
  go_wp2_with fail
  rw [HW.out]
  refine HS.out.mono ?_
  rintro e w2 ⟨r, rfl, hb2, hsup⟩
  have b2 := b0.later hb2
  have q0 := b2.c 0
  have q1 := b2.c 1
  have q2 := b2.c 2
  have q3 := b2.c 3
  have q4 := b2.c 4
  simp only [List.getElem?_toArray, List.getElem?_cons_zero, List.getElem?_cons_succ] at q0 q1 q2 q3 q4
  have hB2 := HB.out.trans (hb2.mono hz)
  have HSUP := Lib.hid hsup
  clear hsup
  cases r with
  | true =>
    go_wp2_with fail
    go_ret
    exact ⟨_, rfl, hB2, fun h _ _ h1 h2 h3 => absurd (HSUP.out h h1 h2 h3) (by decide)⟩
  | false =>
    have hks : k = 1 ∨ k = 2 ∨ k = 3 ∨ k = 4 ∨ k = 5 ∨ k = 6 := by omega
    clear g1 g2
    rcases hks with rfl | rfl | rfl | rfl | rfl | rfl
    · go_wp2_with (go_at_call 66; refine (HLN.out _).mono ?_; rintro e w3 ⟨r3, rfl, hb3⟩)
      all_goals
        go_ret
        first
          | exact ⟨_, rfl, hB2.trans (hb3.mono hB2.size), fun h => absurd h (by decide)⟩
          | exact ⟨_, rfl, hB2, fun h => absurd h (by decide)⟩
    · go_wp2_with (go_at_call 67; refine (HPK.out _).mono ?_; rintro e w3 ⟨r3, rfl, hb3⟩)
      all_goals
        go_ret
        first
          | exact ⟨_, rfl, hB2.trans (hb3.mono hB2.size), fun h => absurd h (by decide)⟩
          | exact ⟨_, rfl, hB2, fun h => absurd h (by decide)⟩
    · go_wp2_with (go_at_call 68; refine (HML.out _ hB2).mono ?_; rintro e w3 ⟨r3, rfl, hb3⟩)
      go_ret
      exact ⟨_, rfl, hB2.trans (hb3.mono hB2.size), fun h => absurd h (by decide)⟩
    · by_cases hn : 1 ≤ n ∧ n ≤ 1073741824
      · obtain ⟨hn1, hn2⟩ := hn
        go_wp2_with fail
        go_ret
        exact ⟨_, rfl, hB2, fun _ _ _ _ _ _ => rfl⟩
      · have HN := Lib.hid hn
        clear hn
        go_wp2_with fail
        all_goals
          go_ret
          exact ⟨_, rfl, hB2, fun _ h1 h2 => absurd ⟨h1, h2⟩ HN.out⟩
    · go_wp2_with fail
      go_ret
      exact ⟨_, rfl, hB2, fun h => absurd h (by decide)⟩
    · go_wp2_with (go_at_call 69; refine (HIN.out _).mono ?_; rintro e w3 ⟨r3, rfl, hb3⟩)
      go_ret
      exact ⟨_, rfl, hB2.trans (hb3.mono hB2.size), fun h => absurd h (by decide)⟩

theorem check_any (S : Scr) (A A' : Option Addr) (n m c d : Nat) (w : World) (hok : Ok w) (hS : ScrAt w w.heap.size A A' n m S) (h1 : I64 S.lo) (h2 : I64 S.hi) (h3 : I64 S.before) (hsm : SmallS S) :
    Calls Tryz.prog 9 #[scrVal S A A' n m c d] w fun e w' => ChkRes w S e w' :=
  check_core S A A' n m c d w hS h1 h2 h3 hsm fun W k n f d t hb hf hd ht => (InputCheck_any k n f d t W (hok.later hb) hf hd ht).mono (by
    rintro e w' ⟨r, he, hb', _⟩
    exact ⟨r, he, hb'⟩)

end Go.Proofs.YtnibcffcbnjllaaGreatDoor
