/- (Script).Check at a script of good Advances without schedules. -/
import Derived.Test.YtnibcffcbnjllaaGreatDoorKn1
namespace Go.Proofs.YtnibcffcbnjllaaGreatDoor
open Go.RowKit

/-- A script of Advances, in order, without schedules. -/
structure GoodS (S : Scr) : Prop where
  h1 : 0 ≤ S.lo
  h2 : 0 ≤ S.before
  h3 : S.lo ≤ S.hi
  h4 : S.hi ≤ 1073741824
  h5 : S.hi - S.lo ≤ 65536
  h6 : S.inputs.length ≤ 65536
  h7 : S.before ≤ 999999 - S.inputs.length
  sched : S.sched = []
  good : ∀ t ∈ S.inputs, S.lo ≤ t.tick ∧ t.tick < S.hi ∧ t.inp = ⟨4, 1, [], [], []⟩
  mono : ∀ a b, a ≤ b → b < S.inputs.length → tickAt S.inputs a ≤ tickAt S.inputs b

theorem empty_of {s : ByteArray} (h : s.data.toList = []) : s = ⟨#[]⟩ := by
  have : s.data = #[] := by simpa using h
  cases s
  simp only at this
  rw [this]

set_option maxRecDepth 100000 in
set_option maxHeartbeats 2000000 in
theorem Check_good (S : Scr) (A A' : Option Addr) (n c d : Nat) (w : World) (hok : Ok w) (hS : ScrAt w w.heap.size A A' n 0 S) (hg : GoodS S) :
    Calls Tryz.prog 34 #[scrVal S A A' n 0 c d] w fun e w' => e = .returned (.int .i64 0) ∧ Below w.heap.size w w' := by
  obtain ⟨hr, hl, hs2, hn, hm⟩ := hS
  obtain ⟨h1, h2, h3, h4, h5, h6, h7, _, hgood, hmono⟩ := hg
  obtain ⟨lo, hi, bf, ins, sch⟩ := S
  simp only at hr hl h1 h2 h3 h4 h5 h6 h7 hgood hmono
  unfold scrVal
  simp only
  have b0 := BoxN.new w 25 #[.int .i64 lo, .int .i64 hi, .int .i64 bf, .slice A n c, .slice A' 0 d]
  have hb0 : Below w.heap.size w (w.alloc (.cells #[.int .i64 lo, .int .i64 hi, .int .i64 bf, .slice A n c, .slice A' 0 d] 25)) := (Below.refl _ w).alloc (Nat.le_refl _) _
  obtain ⟨W1, hW1⟩ : ∃ W1, w.alloc (.cells #[.int .i64 lo, .int .i64 hi, .int .i64 bf, .slice A n c, .slice A' 0 d] 25) = W1 := ⟨_, rfl⟩
  rw [hW1] at b0 hb0
  have hr1 := hr.below hb0
  have HW := Lib.hid hW1
  have hsz0 := hb0.size
  have HIC := Lib.hid (fun (W : World) (hb : Below w.heap.size w W) => InputCheck_any 4 1 ⟨#[]⟩ ⟨#[]⟩ ⟨#[]⟩ W (hok.later hb) (by decide) (by decide) (by decide))
  obtain ⟨Z, hZ⟩ : ∃ Z, w.heap.size = Z := ⟨_, rfl⟩
  rw [hZ] at b0 hb0 hr1 hsz0 HIC ⊢
  have HZ := Lib.hid hZ
  have HG := Lib.hid hgood
  have HM := Lib.hid hmono
  clear hW1 hr hs2 hZ hok hgood hmono
  have h6' : (n : Int) ≤ 65536 := by omega
  have h7' : bf ≤ 999999 - (n : Int) := by omega
  have h8' : (0 : Int) ≤ hi - lo := by omega
  go_enter Tryz.func34, Tryz.ntmps34
  go_wp2_with fail
  rw [HW.out, HZ.out]
  go_loopw [64] (ChR W1 n) (fun i _ => n - (intOf i).toNat)
  case atStart => exact ⟨0, by omega, rfl, Below.refl _ _⟩
  case round =>
    obtain ⟨k, hk, rfl, hbr⟩ := hrel
    have bR := b0.later hbr
    have hsz := hbr.size
    have hbZ := hb0.trans (hbr.mono hsz0)
    have zlt := bR.lt
    have q0 := bR.c 0
    have q1 := bR.c 1
    have q2 := bR.c 2
    have q3 := bR.c 3
    have q4 := bR.c 4
    simp only [List.getElem?_toArray, List.getElem?_cons_zero, List.getElem?_cons_succ] at q0 q1 q2 q3 q4
    by_cases hlt : k < n
    · obtain ⟨b, off, tick, kind, number, fs, ds, ts, rfl, hb, ht, c0, c1, c2, c3, c4, c5⟩ := hr1.tm hl hlt
      obtain ⟨v1, v2, v3⟩ := HG.out _ (List.mem_of_getElem? ht)
      simp only at v1 v2
      injection v3 with e1 e2 e3 e4 e5
      obtain rfl := empty_of e3
      obtain rfl := empty_of e4
      obtain rfl := empty_of e5
      subst e1 e2
      have g0 := (hbr.cell (p := ⟨b, off + k * 6, none⟩) (by simp; omega)).trans c0
      have g1 := (hbr.cell (p := ⟨b, off + k * 6 + 1, none⟩) (by simp; omega)).trans c1
      have g2 := (hbr.cell (p := ⟨b, off + k * 6 + 2, none⟩) (by simp; omega)).trans c2
      have g3 := (hbr.cell (p := ⟨b, off + k * 6 + 3, none⟩) (by simp; omega)).trans c3
      have g4 := (hbr.cell (p := ⟨b, off + k * 6 + 4, none⟩) (by simp; omega)).trans c4
      have g5 := (hbr.cell (p := ⟨b, off + k * 6 + 5, none⟩) (by simp; omega)).trans c5
      have htk : tickAt ins k = tick := by unfold tickAt; rw [ht]; rfl
      have HTK := Lib.hid htk
      have hs : hasB lo hi tick = true := by simp [hasB, v1, v2]
      have bt := BoxN.new wr 33 #[.int .i64 tick, .int .i64 4, .int .i64 1, .string ⟨#[]⟩, .string ⟨#[]⟩, .string ⟨#[]⟩]
      have hbt : Below wr.heap.size wr (wr.alloc (.cells #[.int .i64 tick, .int .i64 4, .int .i64 1, .string ⟨#[]⟩, .string ⟨#[]⟩, .string ⟨#[]⟩] 33)) := (Below.refl _ wr).alloc (Nat.le_refl _) _
      clear htk ht c1 c2 c3 c4 c5 e3 e4 e5
      go_wp2_with fail
      obtain ⟨W2, hW2⟩ : ∃ W2, wr.alloc (.cells #[.int .i64 tick, .int .i64 4, .int .i64 1, .string ⟨#[]⟩, .string ⟨#[]⟩, .string ⟨#[]⟩] 33) = W2 := ⟨_, rfl⟩
      rw [hW2] at bt hbt ⊢
      refine (has38_any lo hi bf tick (.slice (some ⟨b, off, none⟩) n c) (.slice A' 0 d) W2 _ A' n 0 c d rfl rfl).mono ?_
      rintro e w3 ⟨rfl, hb3⟩
      rw [hs]
      have hb4 := hbt.trans (hb3.mono hbt.size)
      have bR3 := bR.later hb4
      have bt3 := bt.later hb3
      have hbZ3 := hbZ.trans (hb4.mono (by omega))
      have hbr3 := hbr.trans (hb4.mono hsz)
      have p3 := bR3.c 3
      have r0 := bt3.c 0
      have r1 := bt3.c 1
      have r2 := bt3.c 2
      have r3 := bt3.c 3
      have r4 := bt3.c 4
      have r5 := bt3.c 5
      simp only [List.getElem?_toArray, List.getElem?_cons_zero, List.getElem?_cons_succ] at p3 r0 r1 r2 r3 r4 r5
      clear g0 g1 g2 g3 g4 g5 q0 q1 q2 q3 q4 hs
      by_cases hk0 : 0 < k
      · obtain ⟨b', off', tick', kind', number', fs', ds', ts', e', hb', ht', c0', _⟩ := hr1.tm (k := k - 1) hl (by omega)
        injection e' with e'
        injection e' with e1 e2
        subst e1 e2
        have g0' := (hbr3.cell (p := ⟨b, off + (k - 1) * 6, none⟩) (by simp; omega)).trans c0'
        have htk' : tickAt ins (k - 1) = tick' := by unfold tickAt; rw [ht']; rfl
        have hle : tick' ≤ tick := by rw [← htk', ← HTK.out]; exact HM.out (k - 1) k (by omega) (by omega)
        have hk1 : ((k : Int) - 1).toNat = k - 1 := by omega
        have hk2 : (0 : Int) < (k : Int) := by omega
        have hI := HIC.out
        have HI := Lib.hid hI
        clear hI ht' c0' htk'
        go_wp2_with fail
        go_quiet (fail)
        have hbQ := below_drewN (B := Z) hbZ3 nq
        have hbq : Below w3.heap.size w3 (w3.drewN nq) := below_drewN (Below.refl _ _) nq
        have btq := bt3.later hbq
        generalize w3.drewN nq = W5 at hbQ hbq btq ⊢
        clear r0 r1 r2 r3 r4 r5
        have r0 := btq.c 0
        have r1 := btq.c 1
        have r2 := btq.c 2
        have r3 := btq.c 3
        have r4 := btq.c 4
        have r5 := btq.c 5
        simp only [List.getElem?_toArray, List.getElem?_cons_zero, List.getElem?_cons_succ] at r0 r1 r2 r3 r4 r5
        go_wp2_with fail
        refine (HI.out _ hbQ).mono ?_
        rintro e w6 ⟨r6, rfl, hb6, hz6⟩
        obtain rfl := hz6 rfl (by decide) (by decide) rfl rfl rfl
        go_wp2_with fail
        go_roundw
        case rel => exact ⟨k + 1, by omega, by go_num, (hbr3.trans (hbq.mono hbr3.size)).trans (hb6.mono (hbr3.trans (hbq.mono hbr3.size)).size)⟩
        case measure => simp [intOf]; omega
      · have hk2 : decide ((0 : Int) < (k : Int)) = false := by rw [decide_eq_false_iff_not]; omega
        have HI := Lib.hid HIC.out
        go_wp2_with fail
        go_quiet (fail)
        have hbQ := below_drewN (B := Z) hbZ3 nq
        have hbq : Below w3.heap.size w3 (w3.drewN nq) := below_drewN (Below.refl _ _) nq
        have btq := bt3.later hbq
        generalize w3.drewN nq = W5 at hbQ hbq btq ⊢
        clear r0 r1 r2 r3 r4 r5
        have r0 := btq.c 0
        have r1 := btq.c 1
        have r2 := btq.c 2
        have r3 := btq.c 3
        have r4 := btq.c 4
        have r5 := btq.c 5
        simp only [List.getElem?_toArray, List.getElem?_cons_zero, List.getElem?_cons_succ] at r0 r1 r2 r3 r4 r5
        go_wp2_with fail
        refine (HI.out _ hbQ).mono ?_
        rintro e w6 ⟨r6, rfl, hb6, hz6⟩
        obtain rfl := hz6 rfl (by decide) (by decide) rfl rfl rfl
        go_wp2_with fail
        go_roundw
        case rel => exact ⟨k + 1, by omega, by go_num, (hbr3.trans (hbq.mono hbr3.size)).trans (hb6.mono (hbr3.trans (hbq.mono hbr3.size)).size)⟩
        case measure => simp [intOf]; omega
    · obtain rfl : k = n := by omega
      go_wp2_with fail
      go_loop [98] (fun i => i = .int .i64 0) (fun _ => 0)
      case atStart => rfl
      case round =>
        obtain rfl := hrel
        go_wp2_with fail
        go_ret
        exact ⟨rfl, hbZ⟩

end Go.Proofs.YtnibcffcbnjllaaGreatDoor
