/- small. -/
import Derived.Test.YtnibcffcbnjllaaGreatDoorChk2
import Derived.Test.YtnibcffcbnjllaaGreatDoorBoxes
namespace Go.Proofs.YtnibcffcbnjllaaGreatDoor
open Go.RowKit

/-- What a small script has. -/
def SmallS (S : Scr) : Prop := S.inputs.length ≤ 10 ∧ S.sched.length ≤ 12 ∧ (∀ t ∈ S.inputs, t.inp.frm.length ≤ 300 ∧ t.inp.dst.length ≤ 300 ∧ t.inp.txt.length ≤ 300) ∧ (∀ x ∈ S.sched, x.length ≤ 70 ∧ longB x = false)
def SmallRes (w : World) (S : Scr) (e : Ending) (w' : World) : Prop := ∃ r : Bool, e = .returned (.bool r) ∧ Below w.heap.size w w' ∧ (r = true → SmallS S)

def SmR1 (W1 : World) (n : Nat) (l : List Tmd) (i : Value) (wr : World) : Prop :=
  ∃ k, k ≤ n ∧ i = .int .i64 (k : Int) ∧ (∀ t ∈ l.take k, t.inp.frm.length ≤ 300 ∧ t.inp.dst.length ≤ 300 ∧ t.inp.txt.length ≤ 300) ∧ Below W1.heap.size W1 wr
def SmR2 (W1 : World) (m : Nat) (l : List (List Nm)) (i : Value) (wr : World) : Prop :=
  ∃ k, k ≤ m ∧ i = .int .i64 (k : Int) ∧ (∀ x ∈ l.take k, x.length ≤ 70 ∧ longB x = false) ∧ Below W1.heap.size W1 wr

/-- The k-th schedule, as the walk spells it. -/
theorem Rows2.at {w : World} {B m k : Nat} {A : Option Addr} {xs : List (List Nm)} (h : Rows2 w B A m xs) (hk : k < m) :
    ∃ b off x A2 c2, A = some ⟨b, off, none⟩ ∧ b < B ∧ xs[k]? = some x ∧ w.cell? ⟨b, off + k, none⟩ = some (.slice A2 x.length c2) ∧ Row w B 1 A2 x.length (x.map encN) ∧ x.length ≤ 4611686018427387904 := by
  obtain ⟨vs, hv, hvl, hvk⟩ := h
  obtain ⟨x, hx⟩ : ∃ x, xs[k]? = some x := ⟨_, List.getElem?_eq_getElem (by omega)⟩
  obtain ⟨A2, c2, hv2, hrow2, hlen2⟩ := hvk _ x hx
  obtain ⟨b, off, u, rfl, hb, hu2, hc⟩ := hv.at1 hk
  rw [hv2] at hu2
  injection hu2 with hu2
  subst hu2
  exact ⟨b, off, x, A2, c2, rfl, hb, hx, hc, hrow2, hlen2⟩

theorem all_take_succ {α : Type} {p : α → Prop} {l : List α} {k : Nat} {x : α} (h : ∀ y ∈ l.take k, p y) (hx : l[k]? = some x) (hp : p x) : ∀ y ∈ l.take (k + 1), p y := by
  intro y hy
  rw [List.take_add_one, hx] at hy
  rcases List.mem_append.1 hy with hy | hy
  · exact h y hy
  · simp at hy
    subst hy
    exact hp

set_option maxRecDepth 100000 in
set_option maxHeartbeats 2000000 in
theorem small_any (S : Scr) (A A' : Option Addr) (n m c d : Nat) (w : World) (hS : ScrAt w w.heap.size A A' n m S) (h1 : I64 S.lo) (h2 : I64 S.hi) :
    Calls Tryz.prog 8 #[scrVal S A A' n m c d] w fun e w' => SmallRes w S e w' := by
  obtain ⟨hr, hl, hs2, hn, hm⟩ := hS
  have hl2 : S.sched.length = m := by obtain ⟨_, _, h, _⟩ := hs2; exact h
  obtain ⟨lo, hi, bf, ins, sch⟩ := S
  simp only at hr hl hs2 hl2 h1 h2
  unfold scrVal
  simp only
  have b0 := BoxN.new w 25 #[.int .i64 lo, .int .i64 hi, .int .i64 bf, .slice A n c, .slice A' m d]
  have hb0 : Below w.heap.size w (w.alloc (.cells #[.int .i64 lo, .int .i64 hi, .int .i64 bf, .slice A n c, .slice A' m d] 25)) := (Below.refl _ w).alloc (Nat.le_refl _) _
  obtain ⟨W1, hW1⟩ : ∃ W1, w.alloc (.cells #[.int .i64 lo, .int .i64 hi, .int .i64 bf, .slice A n c, .slice A' m d] 25) = W1 := ⟨_, rfl⟩
  rw [hW1] at b0 hb0
  have hr1 := hr.below hb0
  have hs1 := hs2.below hb0
  have HW := Lib.hid hW1
  have hsz0 := hb0.size
  obtain ⟨Z, hZ⟩ : ∃ Z, w.heap.size = Z := ⟨_, rfl⟩
  rw [hZ] at b0 hb0 hr1 hs1 hsz0
  have HZ := Lib.hid hZ
  unfold I64 at h1 h2
  clear hW1 hr hs2 hZ
  by_cases ha : n ≤ 10
  · by_cases hb : m ≤ 12
    · go_enter Tryz.func8, Tryz.ntmps8
      go_wp2_with fail
      rw [HW.out, HZ.out]
      go_loopw [3] (SmR1 W1 n ins) (fun i _ => n - (intOf i).toNat)
      case atStart => exact ⟨0, by omega, rfl, by simp, Below.refl _ _⟩
      case round =>
        obtain ⟨k, hk, rfl, hall, hbr⟩ := hrel
        have HALL := Lib.hid hall
        clear hall
        have bR := b0.later hbr
        have hsz := hbr.size
        have q3 := bR.c 3
        have q4 := bR.c 4
        have q0 := bR.c 0
        have q1 := bR.c 1
        simp only [List.getElem?_toArray, List.getElem?_cons_zero, List.getElem?_cons_succ] at q3 q4 q0 q1
        by_cases hlt : k < n
        · obtain ⟨b, off, tick, kind, number, fs, ds, ts, rfl, hb, ht, c0, c1, c2, c3, c4, c5⟩ := hr1.tm hl hlt
          have g1 := (hbr.cell (p := ⟨b, off + k * 6 + 1, none⟩) (by simp; omega)).trans c1
          have g2 := (hbr.cell (p := ⟨b, off + k * 6 + 2, none⟩) (by simp; omega)).trans c2
          have g3 := (hbr.cell (p := ⟨b, off + k * 6 + 3, none⟩) (by simp; omega)).trans c3
          have g4 := (hbr.cell (p := ⟨b, off + k * 6 + 4, none⟩) (by simp; omega)).trans c4
          have g5 := (hbr.cell (p := ⟨b, off + k * 6 + 5, none⟩) (by simp; omega)).trans c5
          have HT := Lib.hid ht
          have z3 := size_nm0 fs
          have z4 := size_nm0 ds
          have z5 := size_nm0 ts
          have Z3 := Lib.hid z3
          have Z4 := Lib.hid z4
          have Z5 := Lib.hid z5
          clear ht c0 c1 c2 c3 c4 c5 z3 z4 z5 q4 q0 q1
          go_wp2_with fail
          all_goals first
            | (go_ret; exact ⟨false, rfl, (by rw [HZ.out]; exact (hb0.trans (hbr.mono hsz0)).alloc (by omega) _), fun h => by cases h⟩)
            | skip
          go_roundw
          case rel =>
            refine ⟨k + 1, by omega, by go_num, all_take_succ HALL.out HT.out ?_, hbr.alloc hsz _⟩
            have := Z3.out
            have := Z4.out
            have := Z5.out
            simp only
            omega
          case measure => simp [intOf]; omega
        · obtain rfl : k = n := by omega
          rw [List.take_of_length_le (by omega)] at HALL
          clear hr1 q0 q1 hlt hk
          go_wp2_with fail
          go_loopw [5] (SmR2 W1 m sch) (fun i _ => m - (intOf i).toNat)
          case atStart => exact ⟨0, by omega, rfl, by simp, hbr⟩
          case round =>
            obtain ⟨k2, hk2, rfl, hall2, hbr2⟩ := hrel
            have HALL2 := Lib.hid hall2
            clear hall2 bR q4
            have bR := b0.later hbr2
            have hsz2 := hbr2.size
            have q4 := bR.c 4
            have q0 := bR.c 0
            have q1 := bR.c 1
            simp only [List.getElem?_toArray, List.getElem?_cons_zero, List.getElem?_cons_succ] at q4 q0 q1
            by_cases hlt : k2 < m
            · obtain ⟨b, off, x, A2, c2, rfl, hb, hx, hc, hrow2, hlen2⟩ := hs1.at hlt
              have g := (hbr2.cell (p := ⟨b, off + k2, none⟩) (by simp; omega)).trans hc
              have hL := long_any A2 x.length c2 x wr (by omega) ((hrow2.more hsz0).later hbr2)
              have HX := Lib.hid hx
              clear hx hc hrow2 q0 q1
              by_cases h70 : 70 < x.length
              · clear hL
                go_wp2_with fail
                go_ret
                exact ⟨false, rfl, (by rw [HZ.out]; exact hb0.trans (hbr2.mono hsz0)), fun h => by cases h⟩
              · cases hlb : longB x with
                | true =>
                  rw [hlb] at hL
                  have HL := Lib.hid hL
                  clear hL hlb
                  go_wp2_with fail
                  refine HL.out.mono ?_
                  rintro e w3 ⟨rfl, rfl⟩
                  go_wp2_with fail
                  go_ret
                  exact ⟨false, rfl, (by rw [HZ.out]; exact hb0.trans (hbr2.mono hsz0)), fun h => by cases h⟩
                | false =>
                  rw [hlb] at hL
                  have HL := Lib.hid hL
                  have HLB := Lib.hid hlb
                  clear hL hlb
                  go_wp2_with fail
                  refine HL.out.mono ?_
                  rintro e w3 ⟨rfl, rfl⟩
                  go_wp2_with fail
                  go_roundw
                  case rel => exact ⟨k2 + 1, by omega, by go_num, all_take_succ HALL2.out HX.out ⟨by omega, HLB.out⟩, hbr2⟩
                  case measure => simp [intOf]; omega
            · obtain rfl : k2 = m := by omega
              rw [List.take_of_length_le (by omega)] at HALL2
              go_wp2_with fail
              all_goals
                go_ret
                exact ⟨_, rfl, (by rw [HZ.out]; exact hb0.trans (hbr2.mono hsz0)), fun _ => ⟨by simp only; omega, by simp only; omega, HALL.out, HALL2.out⟩⟩
    · go_enter Tryz.func8, Tryz.ntmps8
      go_wp2_with fail
      rw [HW.out]
      go_ret
      exact ⟨false, rfl, (by rw [HZ.out]; exact hb0), fun h => by cases h⟩
  · go_enter Tryz.func8, Tryz.ntmps8
    go_wp2_with fail
    rw [HW.out]
    go_ret
    exact ⟨false, rfl, (by rw [HZ.out]; exact hb0), fun h => by cases h⟩

end Go.Proofs.YtnibcffcbnjllaaGreatDoor
