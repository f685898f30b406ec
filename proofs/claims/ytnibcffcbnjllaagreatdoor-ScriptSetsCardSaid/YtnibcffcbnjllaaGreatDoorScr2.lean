/- The schedule and the numbers of a tick: (Script).schedule, the statement's own schedule and numbers. -/
import Derived.Test.YtnibcffcbnjllaaGreatDoorScr1
namespace Go.Proofs.YtnibcffcbnjllaaGreatDoor
open Go.RowKit

/-- The schedule of a tick. -/
def schedOf (S : Scr) (t : Int) : List Nm := if S.lo ≤ t ∧ t < S.hi then (S.sched[(t - S.lo).toNat]?).getD [] else []

theorem u64_sub {a b : Int} (ha : I64 a) (hb : I64 b) (h : b ≤ a) : IntKind.u64.wrap (IntKind.u64.wrap a - IntKind.u64.wrap b) = (((a - b).toNat : Nat) : Int) := by
  unfold I64 at ha hb
  simp only [IntKind.wrap_u64]
  omega

def SchedRes (w : World) (x : List Nm) (e : Ending) : Prop := ∃ A c, e = .returned (.slice A x.length c) ∧ Row w w.heap.size 1 A x.length (x.map encN) ∧ x.length ≤ 4611686018427387904

set_option maxRecDepth 100000 in
set_option maxHeartbeats 1000000 in
theorem schedule40_any (S : Scr) (A A' : Option Addr) (n m c d : Nat) (t : Int) (w : World) (hS : ScrAt w w.heap.size A A' n m S) (h1 : I64 t) (h2 : I64 S.lo) :
    Calls Tryz.prog 40 #[.agg #[.int .i64 S.lo, .int .i64 S.hi, .int .i64 S.before, .slice A n c, .slice A' m d], .int .i64 t] w fun e w' => SchedRes w (schedOf S t) e ∧ Below w.heap.size w w' := by
  obtain ⟨hr, hl, ⟨vs, hv, hvl, hvk⟩, hn, hm⟩ := hS
  by_cases hh : S.lo ≤ t ∧ t < S.hi
  · have hs : hasB S.lo S.hi t = true := by simp [hasB, hh]
    have hu := u64_sub h1 h2 hh.1
    by_cases hk : (t - S.lo).toNat < m
    · obtain ⟨x, hx⟩ : ∃ x, S.sched[(t - S.lo).toNat]? = some x := ⟨_, List.getElem?_eq_getElem (by omega)⟩
      obtain ⟨A2, c2, hv2, hrow2, hlen2⟩ := hvk _ x hx
      obtain ⟨b, off, u, rfl, hb, hu2, hc⟩ := hv.at1 hk
      rw [hv2] at hu2
      injection hu2 with hu2
      subst hu2
      have e : schedOf S t = x := by unfold schedOf; rw [if_pos hh, hx]; rfl
      have HE := Lib.hid e
      clear e h1 h2 hr hl hv hvl hvk hx hv2 hh
      generalize (t - S.lo).toNat = k at *
      go_enter Tryz.func40, Tryz.ntmps40
      go_wp2_with (go_at_call 38; refine (has38_any _ _ _ _ _ _ _ _ _ _ _ _ _ rfl rfl).mono ?_; rintro e w' ⟨rfl, hb1⟩; obtain ⟨hbc, hbf⟩ := bcell hb1; have hz : w.heap.size < w'.heap.size := by have := hb1.size; simp at this; omega)
      go_ret
      refine ⟨⟨A2, c2, ?_, ?_, ?_⟩, ((Below.refl _ w).alloc (Nat.le_refl _) _).trans (hb1.mono (by simp))⟩
      · rw [HE.out]; rfl
      · rw [HE.out]; exact hrow2
      · rw [HE.out]; exact hlen2
    · have e : schedOf S t = [] := by unfold schedOf; rw [if_pos hh, List.getElem?_eq_none (by omega)]; rfl
      have HE := Lib.hid e
      clear e h1 h2 hr hl hv hvl hvk hh
      generalize (t - S.lo).toNat = k at *
      go_enter Tryz.func40, Tryz.ntmps40
      go_wp2_with (go_at_call 38; refine (has38_any _ _ _ _ _ _ _ _ _ _ _ _ _ rfl rfl).mono ?_; rintro e w' ⟨rfl, hb1⟩; obtain ⟨hbc, hbf⟩ := bcell hb1; have hz : w.heap.size < w'.heap.size := by have := hb1.size; simp at this; omega)
      go_ret
      refine ⟨⟨none, 0, ?_, ?_, ?_⟩, ((Below.refl _ w).alloc (Nat.le_refl _) _).trans (hb1.mono (by simp))⟩
      · rw [HE.out]; rfl
      · rw [HE.out]; exact Row.nil_
      · rw [HE.out]; simp
  · have hs : hasB S.lo S.hi t = false := by simp only [hasB, Bool.and_eq_false_iff, decide_eq_false_iff_not]; omega
    have e : schedOf S t = [] := by unfold schedOf; rw [if_neg hh]
    have HE := Lib.hid e
    clear e h1 h2 hr hl hv hvl hvk hh
    go_enter Tryz.func40, Tryz.ntmps40
    go_wp2_with (go_at_call 38; refine (has38_any _ _ _ _ _ _ _ _ _ _ _ _ _ rfl rfl).mono ?_; rintro e w' ⟨rfl, hb1⟩; obtain ⟨hbc, hbf⟩ := bcell hb1; have hz : w.heap.size < w'.heap.size := by have := hb1.size; simp at this; omega)
    go_ret
    refine ⟨⟨none, 0, ?_, ?_, ?_⟩, ((Below.refl _ w).alloc (Nat.le_refl _) _).trans (hb1.mono (by simp))⟩
    · rw [HE.out]; rfl
    · rw [HE.out]; exact Row.nil_
    · rw [HE.out]; simp

set_option maxRecDepth 100000 in
set_option maxHeartbeats 1000000 in
theorem schedule15_any (S : Scr) (A A' : Option Addr) (n m c d : Nat) (t : Int) (w : World) (hS : ScrAt w w.heap.size A A' n m S) (h0 : 0 ≤ S.lo) (h3 : S.hi ≤ 1073741824) :
    Calls Tryz.prog 15 #[.agg #[.int .i64 S.lo, .int .i64 S.hi, .int .i64 S.before, .slice A n c, .slice A' m d], .int .i64 t] w fun e w' => SchedRes w (schedOf S t) e ∧ Below w.heap.size w w' := by
  obtain ⟨hr, hl, ⟨vs, hv, hvl, hvk⟩, hn, hm⟩ := hS
  by_cases ha : S.lo ≤ t
  · by_cases hb : t < S.hi
    · by_cases hk : (t - S.lo).toNat < m
      · obtain ⟨x, hx⟩ : ∃ x, S.sched[(t - S.lo).toNat]? = some x := ⟨_, List.getElem?_eq_getElem (by omega)⟩
        obtain ⟨A2, c2, hv2, hrow2, hlen2⟩ := hvk _ x hx
        obtain ⟨b, off, u, rfl, hb, hu2, hc⟩ := hv.at1 hk
        rw [hv2] at hu2
        injection hu2 with hu2
        subst hu2
        have e : schedOf S t = x := by unfold schedOf; rw [if_pos ⟨by omega, by omega⟩, hx]; rfl
        have HE := Lib.hid e
        have q1 : t - S.lo < m := by omega
        have q2 : 0 ≤ t - S.lo := by omega
        clear e hr hl hv hvl hvk hx hv2
        go_enter Tryz.func15, Tryz.ntmps15
        go_wp2
        go_ret
        refine ⟨⟨A2, c2, ?_, ?_, ?_⟩, (Below.refl _ w).alloc (Nat.le_refl _) _⟩
        · rw [HE.out]; rfl
        · rw [HE.out]; exact hrow2
        · rw [HE.out]; exact hlen2
      · have e : schedOf S t = [] := by unfold schedOf; rw [if_pos ⟨ha, hb⟩, List.getElem?_eq_none (by omega)]; rfl
        have HE := Lib.hid e
        have q1 : (m : Int) ≤ t - S.lo := by omega
        clear e hr hl hv hvl hvk
        go_enter Tryz.func15, Tryz.ntmps15
        go_wp2
        go_ret
        refine ⟨⟨none, 0, ?_, ?_, ?_⟩, (Below.refl _ w).alloc (Nat.le_refl _) _⟩
        · rw [HE.out]; rfl
        · rw [HE.out]; exact Row.nil_
        · rw [HE.out]; simp
    · have e : schedOf S t = [] := by unfold schedOf; rw [if_neg (fun h => hb h.2)]
      have HE := Lib.hid e
      clear e hr hl hv hvl hvk
      go_enter Tryz.func15, Tryz.ntmps15
      go_wp2
      go_ret
      refine ⟨⟨none, 0, ?_, ?_, ?_⟩, (Below.refl _ w).alloc (Nat.le_refl _) _⟩
      · rw [HE.out]; rfl
      · rw [HE.out]; exact Row.nil_
      · rw [HE.out]; simp
  · have e : schedOf S t = [] := by unfold schedOf; rw [if_neg (fun h => ha h.1)]
    have HE := Lib.hid e
    clear e hr hl hv hvl hvk
    go_enter Tryz.func15, Tryz.ntmps15
    go_wp2
    go_ret
    refine ⟨⟨none, 0, ?_, ?_, ?_⟩, (Below.refl _ w).alloc (Nat.le_refl _) _⟩
    · rw [HE.out]; rfl
    · rw [HE.out]; exact Row.nil_
    · rw [HE.out]; simp

/-- The places of the inputs of a tick, among the first k. -/
def placesN (l : List Tmd) (t : Int) (k : Nat) : List Nat := (List.range k).filter fun i => decide ((l[i]?.map (·.tick)) = some t)
theorem placesN_yes {l : List Tmd} {t : Int} {k : Nat} {x : Tmd} (h : l[k]? = some x) (ht : x.tick = t) : placesN l t (k + 1) = placesN l t k ++ [k] := by
  unfold placesN; rw [List.range_succ, List.filter_append]; simp [h, ht]
theorem placesN_no {l : List Tmd} {t : Int} {k : Nat} {x : Tmd} (h : l[k]? = some x) (ht : x.tick ≠ t) : placesN l t (k + 1) = placesN l t k := by
  unfold placesN; rw [List.range_succ, List.filter_append]; simp [h, ht]
theorem placesN_len (l : List Tmd) (t : Int) (k : Nat) : (placesN l t k).length ≤ k := by
  unfold placesN; have := List.length_filter_le (fun i => decide ((l[i]?.map (·.tick)) = some t)) (List.range k); simpa using this
theorem placesN_lt {l : List Tmd} {t : Int} {k i : Nat} (h : i ∈ placesN l t k) : i < k := by
  unfold placesN at h; have := (List.mem_filter.1 h).1; simpa using this
/-- The places of the inputs of a tick of a script. -/
def placesOf (S : Scr) (t : Int) : List Nat := if S.lo ≤ t ∧ t < S.hi then placesN S.inputs t S.inputs.length else []
/-- The number of the input at a place. -/
def numAt (S : Scr) (i : Nat) : Int := S.before + i + 1

set_option maxRecDepth 100000 in
set_option maxHeartbeats 1000000 in
theorem numbers_any (S : Scr) (A A' : Option Addr) (n m c d : Nat) (t : Int) (w : World) (hS : ScrAt w w.heap.size A A' n m S) (h0 : 0 ≤ S.before) (h1 : S.before ≤ 999999) (hn1 : n ≤ 65536) :
    Calls Tryz.prog 12 #[.agg #[.int .i64 S.lo, .int .i64 S.hi, .int .i64 S.before, .slice A n c, .slice A' m d], .int .i64 t] w fun e w' =>
      ∃ v, e = .returned v ∧ w'.ownsRow w.heap.size 3 1 v (placesOf S t).length ((placesOf S t).map fun i => encI (numAt S i)) ∧ Below w.heap.size w w' := by
  obtain ⟨hr, hl, hs2, hn, hm⟩ := hS
  obtain ⟨i0, hi, hz0, hz1, hz2⟩ := info_parts (show (Tryz.prog.info? 3).map (fun i => (i.zero, i.size, i.bytes)) = some (some (.int .i64 0), 1, 8) by kernel_rfl)
  have HL := Lib.hid hl
  clear hl hs2
  obtain ⟨W1, hW1⟩ : ∃ W1, w.alloc (.cells #[.int .i64 S.lo, .int .i64 S.hi, .int .i64 S.before, .slice A n c, .slice A' m d] 25) = W1 := ⟨_, rfl⟩
  have hz : W1.heap.size = w.heap.size + 1 := by rw [← hW1]; simp
  have hb0 : Below w.heap.size w W1 := by rw [← hW1]; exact (Below.refl _ w).alloc (Nat.le_refl _) _
  have e0 : W1.cell? ⟨w.heap.size, 0, none⟩ = some (.int .i64 S.lo) := by rw [← hW1]; simp
  have e1 : W1.cell? ⟨w.heap.size, 1, none⟩ = some (.int .i64 S.hi) := by rw [← hW1]; simp
  have e2 : W1.cell? ⟨w.heap.size, 2, none⟩ = some (.int .i64 S.before) := by rw [← hW1]; simp
  have e3 : W1.cell? ⟨w.heap.size, 3, none⟩ = some (.slice A n c) := by rw [← hW1]; simp
  have hr1 := hr.below hb0
  have HW := Lib.hid hW1
  have HZ := Lib.hid hz
  clear hW1 hr hz
  by_cases hh : S.lo ≤ t ∧ t < S.hi
  · have hp : placesOf S t = placesN S.inputs t n := by unfold placesOf; rw [if_pos hh, HL.out]
    have HP := Lib.hid hp
    obtain ⟨hlo, hhi⟩ := hh
    clear hp
    go_enter Tryz.func12, Tryz.ntmps12
    go_wp2
    rw [HW.out]
    go_loopw [5, 6] (fun v i wr => ∃ k : Nat, k ≤ n ∧ i = .int .i64 k ∧ wr.ownsRow W1.heap.size 3 1 v (placesN S.inputs t k).length ((placesN S.inputs t k).map fun i => encI (numAt S i)) ∧ Below W1.heap.size W1 wr) (fun _ i _ => n - (intOf i).toNat)
    case atStart => exact ⟨0, by omega, rfl, World.ownsRow_nil _ _ _ _, Below.refl _ _⟩
    case round =>
      obtain ⟨k, hk, rfl, hown, hbr⟩ := hrel
      have hzz := HZ.out
      have f0 := (hbr.cell (p := ⟨w.heap.size, 0, none⟩) (by simp; omega)).trans e0
      have f1 := (hbr.cell (p := ⟨w.heap.size, 1, none⟩) (by simp; omega)).trans e1
      have f2 := (hbr.cell (p := ⟨w.heap.size, 2, none⟩) (by simp; omega)).trans e2
      have f3 := (hbr.cell (p := ⟨w.heap.size, 3, none⟩) (by simp; omega)).trans e3
      have hpl := placesN_len S.inputs t k
      have hsz := hbr.size
      clear hzz
      by_cases hlt : k < n
      · obtain ⟨b, off, tick, kind, number, fs, ds, ts, rfl, hb, ht, c0, c1, c2, c3, c4, c5⟩ := hr1.tm HL.out hlt
        have g0 := (hbr.cell (p := ⟨b, off + k * 6, none⟩) (by have := HZ.out; simp; omega)).trans c0
        have HT := Lib.hid ht
        clear ht c0 c1 c2 c3 c4 c5
        by_cases htick : tick = t
        · have t1 : (tick == t) = true := by simp [htick]
          have HS := Lib.hid (placesN_yes HT.out htick)
          clear htick
          go_wp2_with (at_builtin; refine wpList_append_own _ rfl _ _ 36 rfl W1.heap.size 3 i0 (.int .i64 0) 1 8 Tryz.underlying36 hi hz0 hz1 hz2 rfl (by decide) _ _ _ rfl (hown.alloc _) ⟨wr.heap.size, 0, none⟩ 1 1 [.int .i64 (S.before + k + 1)] rfl rfl (cell_one_new _ _ _) (by simp [Value.oneCell']) (by unfold maxLen; omega) (by omega) (by simp; omega) ?_; intro v' w1 hown' hgrow _; have R := Lib.hid (own_step hown hbr hgrow); clear hgrow)
          go_roundw
          case rel => exact ⟨k + 1, by omega, by go_num, by rw [HS.out, List.length_append, List.map_append]; exact hown', R.out⟩
          case measure => simp [intOf]; omega
        · have t1 : (tick == t) = false := by simp [htick]
          have HS := Lib.hid (placesN_no HT.out htick)
          go_wp2_with fail
          go_roundw
          case rel => exact ⟨k + 1, by omega, by go_num, by rw [HS.out]; exact hown, hbr⟩
          case measure => simp [intOf]; omega
      · obtain rfl : k = n := by omega
        go_wp2_with fail
        go_ret
        exact ⟨_, rfl, by rw [HP.out]; exact own_base hown (by have := HZ.out; omega), hb0.trans (hbr.mono (by have := HZ.out; omega))⟩
  · have hp : placesOf S t = [] := by unfold placesOf; rw [if_neg hh]
    have HP := Lib.hid hp
    have HH := Lib.hid hh
    clear hp hh
    go_enter Tryz.func12, Tryz.ntmps12
    go_wp2
    rw [HW.out]
    go_loop [5, 6] (fun v i => v = .slice none 0 0 ∧ i = .int .i64 0) (fun _ _ => 0)
    case atStart => exact ⟨rfl, rfl⟩
    case round =>
      obtain ⟨rfl, rfl⟩ := hrel
      by_cases h1 : S.lo ≤ t
      · have h2 : ¬ t < S.hi := fun h => HH.out ⟨h1, h⟩
        by_cases h3 : 0 < n
        · go_wp2
          go_ret
          exact ⟨_, rfl, by rw [HP.out]; exact World.ownsRow_nil _ _ _ _, hb0⟩
        · go_wp2
          go_ret
          exact ⟨_, rfl, by rw [HP.out]; exact World.ownsRow_nil _ _ _ _, hb0⟩
      · by_cases h3 : 0 < n
        · go_wp2
          go_ret
          exact ⟨_, rfl, by rw [HP.out]; exact World.ownsRow_nil _ _ _ _, hb0⟩
        · go_wp2
          go_ret
          exact ⟨_, rfl, by rw [HP.out]; exact World.ownsRow_nil _ _ _ _, hb0⟩

end Go.Proofs.YtnibcffcbnjllaaGreatDoor
