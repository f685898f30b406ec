/- (Script).before, slices.Clone of timed inputs. -/
import Derived.Shelf.SlSorted.Search
import Derived.Test.YtnibcffcbnjllaaGreatDoorQChk4
import Derived.Test.YtnibcffcbnjllaaGreatDoorQSort1
namespace Go.Proofs.YtnibcffcbnjllaaGreatDoor
open Go.RowKit Go.Shelf Go.Sort

def tickAt (l : List Tmd) (i : Nat) : Int := (l[i]?.map (·.tick)).getD 0
/-- How many inputs come before a tick. -/
def cntB (l : List Tmd) (t : Int) : Nat := (List.range l.length).countP fun i => !decide (t ≤ tickAt l i)
theorem cntB_le (l : List Tmd) (t : Int) : cntB l t ≤ l.length := by
  unfold cntB
  have := List.countP_le_length (p := fun i => !decide (t ≤ tickAt l i)) (l := List.range l.length)
  simpa using this

set_option maxHeartbeats 1000000 in
theorem before1_any (l : List Tmd) (A A' : Option Addr) (n m c d B : Nat) (lo hi bf t : Int) (i : Nat) (W : World) (_hn : n ≤ 65536) (hl : l.length = n) (hi' : i < n) (hr : Row W B 6 A n (l.flatMap tmdCells))
    (b0 : BoxN W B 25 #[.int .i64 lo, .int .i64 hi, .int .i64 bf, .slice A n c, .slice A' m d]) (b1 : BoxN W (B + 1) 3 #[.int .i64 t]) :
    Calls Tryz.prog 118 (#[.int .i64 i] ++ #[.pointer (some ⟨B, 0, none⟩), .pointer (some ⟨B + 1, 0, none⟩)]) W fun e w' => e = .returned (.bool (decide (t ≤ tickAt l i))) ∧ ∃ q os', w' = grow (W.drewN q) os' := by
  obtain ⟨b, off, tick, kind, number, fs, ds, ts, rfl, hb, ht, c0, c1, c2, c3, c4, c5⟩ := hr.tm hl hi'
  have e : tickAt l i = tick := by unfold tickAt; rw [ht]; rfl
  rw [e]
  have q3 := b0.c 3
  have q0 := b1.c 0
  simp only [List.getElem?_toArray, List.getElem?_cons_zero, List.getElem?_cons_succ] at q3 q0
  clear b0 b1 hr e ht c1 c2 c3 c4 c5 hl
  go_enter Tryz.func118, Tryz.ntmps118
  go_wp2
  go_quiet (fail)
  go_wp2
  go_ret
  exact ⟨rfl, _, #[], (grow_empty _).symm⟩

set_option maxHeartbeats 1000000 in
theorem before_any (S : Scr) (A A' : Option Addr) (n m c d : Nat) (t : Int) (w : World) (hS : ScrAt w w.heap.size A A' n m S) (hn : n ≤ 65536) (hmono : ∀ a b, a ≤ b → b < n → tickAt S.inputs a ≤ tickAt S.inputs b) :
    Calls Tryz.prog 91 #[scrVal S A A' n m c d, .int .i64 t] w fun e w' => e = .returned (.int .i64 (cntB S.inputs t : Int)) ∧ Below w.heap.size w w' := by
  obtain ⟨hr, hl, hs2, hn0, hm⟩ := hS
  obtain ⟨lo, hi, bf, ins, sch⟩ := S
  unfold scrVal
  simp only at hr hl hmono ⊢
  have b0 := (BoxN.new w 25 #[.int .i64 lo, .int .i64 hi, .int .i64 bf, .slice A n c, .slice A' m d]).alloc (.cells #[.int .i64 t] 3)
  have b1 := BoxN.new (w.alloc (.cells #[.int .i64 lo, .int .i64 hi, .int .i64 bf, .slice A n c, .slice A' m d] 25)) 3 #[.int .i64 t]
  have hb0 : Below w.heap.size w ((w.alloc (.cells #[.int .i64 lo, .int .i64 hi, .int .i64 bf, .slice A n c, .slice A' m d] 25)).alloc (.cells #[.int .i64 t] 3)) := ((Below.refl _ w).alloc (Nat.le_refl _) _).alloc (by simp) _
  simp only [World.size_alloc] at b1
  obtain ⟨W1, hW1⟩ : ∃ W1, (w.alloc (.cells #[.int .i64 lo, .int .i64 hi, .int .i64 bf, .slice A n c, .slice A' m d] 25)).alloc (.cells #[.int .i64 t] 3) = W1 := ⟨_, rfl⟩
  rw [hW1] at b0 b1 hb0
  have hcall := Any.sort_Search Tryz.lSearch 118 #[.pointer (some ⟨w.heap.size, 0, none⟩), .pointer (some ⟨w.heap.size + 1, 0, none⟩)] n (fun i => decide (t ≤ tickAt ins i)) W1 (enters_of Tryz.func118 (by kernel_rfl) rfl) (by omega) (by
    intro q os i hi'
    have hbg : Below W1.heap.size W1 (grow (W1.drewN q) os) := below_grow q os
    have hbw := hb0.trans (hbg.mono hb0.size)
    exact before1_any ins A A' n m c d w.heap.size lo hi bf t i _ hn hl hi' (hr.below hbw) (b0.later hbg) (b1.later hbg)) (by
    intro a b hab hbn h
    have := hmono a b hab hbn
    have h' := of_decide_eq_true h
    exact decide_eq_true (by omega))
  have hcnt : (List.range n).countP (fun i => !decide (t ≤ tickAt ins i)) = cntB ins t := by unfold cntB; rw [hl]
  rw [hcnt] at hcall
  generalize cntB ins t = cc at hcall ⊢
  have HC := Lib.hid hcall
  have HW := Lib.hid hW1
  have HB := Lib.hid hb0
  clear hcall hW1 hmono hr hb0 hcnt
  go_enter Tryz.func91, Tryz.ntmps91
  go_wp2_with fail
  rw [HW.out]
  refine HC.out.mono ?_
  rintro e w2 ⟨rfl, q, os, rfl⟩
  have hbg : Below W1.heap.size W1 (grow (W1.drewN q) os) := below_grow q os
  generalize grow (W1.drewN q) os = W2 at hbg ⊢
  go_wp2_with fail
  go_ret
  exact ⟨rfl, HB.out.trans (hbg.mono HB.out.size)⟩

theorem Tryz.infoTmd : (Tryz.prog.info? 33).map (fun i => (i.zero, i.size, i.bytes)) = some (some (.agg #[.int .i64 0, .int .i64 0, .int .i64 0, .string ⟨#[]⟩, .string ⟨#[]⟩, .string ⟨#[]⟩]), 6, 72) := by kernel_rfl

set_option maxRecDepth 100000 in
set_option maxHeartbeats 1000000 in
theorem CloneT_any (A : Option Addr) (n c B : Nat) (xs : List Value) (w : World) (hn : n ≤ 100000) (hr : Row w B 6 A n xs) (h1 : ∀ u ∈ xs, u.oneCell' = true) :
    Calls Tryz.prog 92 #[.slice A n c] w fun e w' => ∃ v', e = .returned v' ∧ w'.ownsRow w.heap.size 33 6 v' n xs ∧ Below w.heap.size w w' := by
  obtain ⟨i0, hi, hz0, hz1, hz2⟩ := info_parts Tryz.infoTmd
  obtain ⟨hl, hc⟩ := hr
  cases A with
  | none =>
    obtain rfl : n = 0 := by
      rcases Nat.eq_zero_or_pos n with h | h
      · exact h
      · obtain ⟨_, _, e, _⟩ := hc h; cases e
    have hx : xs = [] := List.length_eq_zero_iff.1 (by omega)
    subst hx
    refine (AnyE.slices_Clone_nil Tryz.lCloneT 0 c w).mono ?_
    rintro e w' ⟨rfl, rfl⟩
    exact ⟨_, rfl, World.ownsRow_nil _ _ _ _, Below.refl _ _⟩
  | some ad =>
    have hc' : ∀ j u, xs[j]? = some u → w.cell? (ad.add j) = some u := by
      intro j u hj
      have hjl : j < xs.length := (List.getElem?_eq_some_iff.1 hj).1
      obtain ⟨b, off, e, _, hcc⟩ := hc (by omega)
      injection e with e
      subst e
      rw [Addr.add_lit]
      exact hcc j u hj
    have A : Aside (∀ j u, xs[j]? = some u → w.cell? (ad.add j) = some u) := hc'
    clear hc' hc
    have q22 : ∀ (w : World) (a : Option Addr) (n c n' c' : Nat), (binOp .eql 22 (.slice a n c) (.slice none n' c')).run Tryz.prog w = .ok (.bool a.isNone) w := fun w a n c n' c' => Lib.run_eql_slice_nil w _ _ a n c n' c' Tryz.underlying22
    go_enter Tryz.func92, Tryz.ntmps92
    go_wp2_with (at_builtin; refine wpList_append_own _ rfl _ _ 22 rfl w.heap.size 33 i0 _ 6 72 Tryz.underlying22 hi hz0 hz1 hz2 rfl (by decide) _ _ _ rfl (World.ownsRow_made w #[] 0 (Nat.le_refl _) (Nat.zero_le _) (by simp)) ad n c xs rfl ?qc1 ?qc2 ?qc3 ?qc4 ?qc5 ?qc6 ?_)
    case qc1 => exact hl
    case qc2 =>
      intro j u hj
      exact Lib.cell?_alloc_some _ (A.out j u hj)
    case qc3 => exact h1
    case qc4 => unfold maxLen; omega
    case qc5 => omega
    case qc6 => simp
    intro v' w1 hown hgrow hnil
    go_wp2
    go_ret
    refine ⟨v', rfl, by simpa using hown, ?_⟩
    exact ((Below.refl _ w).alloc (Nat.le_refl _) _).grown hgrow (by simp) (by intro k hk; simp [Value.ownBlock] at hk; omega)

end Go.Proofs.YtnibcffcbnjllaaGreatDoor
/- (Script).Check at a script of good Advances without schedules. -/
namespace Go.Proofs.YtnibcffcbnjllaaGreatDoor
open Go.RowKit

/-- A script of Advances, in order, without schedules. -/
structure GoodS (S : Scr) : Prop where
  h1 : 0 ≤ S.lo
  h2 : 0 ≤ S.before
  h3 : S.lo ≤ S.hi
  h4 : S.hi ≤ 1073741824
  h5 : S.hi - S.lo ≤ 65536
  h6 : S.inputs.length ≤ 65536
  h7 : S.before ≤ 999999 - S.inputs.length
  sched : S.sched = []
  good : ∀ t ∈ S.inputs, S.lo ≤ t.tick ∧ t.tick < S.hi ∧ t.inp = ⟨4, 1, [], [], []⟩
  mono : ∀ a b, a ≤ b → b < S.inputs.length → tickAt S.inputs a ≤ tickAt S.inputs b

theorem empty_of {s : ByteArray} (h : s.data.toList = []) : s = ⟨#[]⟩ := by
  have : s.data = #[] := by simpa using h
  cases s
  simp only at this
  rw [this]

set_option maxRecDepth 100000 in
set_option maxHeartbeats 2000000 in
theorem Check_good (S : Scr) (A A' : Option Addr) (n c d : Nat) (w : World) (hok : Ok w) (hS : ScrAt w w.heap.size A A' n 0 S) (hg : GoodS S) :
    Calls Tryz.prog 34 #[scrVal S A A' n 0 c d] w fun e w' => e = .returned (.int .i64 0) ∧ Below w.heap.size w w' := by
  obtain ⟨hr, hl, hs2, hn, hm⟩ := hS
  obtain ⟨h1, h2, h3, h4, h5, h6, h7, _, hgood, hmono⟩ := hg
  obtain ⟨lo, hi, bf, ins, sch⟩ := S
  simp only at hr hl h1 h2 h3 h4 h5 h6 h7 hgood hmono
  unfold scrVal
  simp only
  have b0 := BoxN.new w 25 #[.int .i64 lo, .int .i64 hi, .int .i64 bf, .slice A n c, .slice A' 0 d]
  have hb0 : Below w.heap.size w (w.alloc (.cells #[.int .i64 lo, .int .i64 hi, .int .i64 bf, .slice A n c, .slice A' 0 d] 25)) := (Below.refl _ w).alloc (Nat.le_refl _) _
  obtain ⟨W1, hW1⟩ : ∃ W1, w.alloc (.cells #[.int .i64 lo, .int .i64 hi, .int .i64 bf, .slice A n c, .slice A' 0 d] 25) = W1 := ⟨_, rfl⟩
  rw [hW1] at b0 hb0
  have hr1 := hr.below hb0
  have HW := Lib.hid hW1
  have hsz0 := hb0.size
  have HIC := Lib.hid (fun (W : World) (hb : Below w.heap.size w W) => InputCheck_any 4 1 ⟨#[]⟩ ⟨#[]⟩ ⟨#[]⟩ W (hok.later hb) (by decide) (by decide) (by decide))
  obtain ⟨Z, hZ⟩ : ∃ Z, w.heap.size = Z := ⟨_, rfl⟩
  rw [hZ] at b0 hb0 hr1 hsz0 HIC ⊢
  have HZ := Lib.hid hZ
  have HG := Lib.hid hgood
  have HM := Lib.hid hmono
  clear hW1 hr hs2 hZ hok hgood hmono
  have h6' : (n : Int) ≤ 65536 := by omega
  have h7' : bf ≤ 999999 - (n : Int) := by omega
  have h8' : (0 : Int) ≤ hi - lo := by omega
  go_enter Tryz.func34, Tryz.ntmps34
  go_wp2_with fail
  rw [HW.out, HZ.out]
  go_loopw [64] (ChR W1 n) (fun i _ => n - (intOf i).toNat)
  case atStart => exact ⟨0, by omega, rfl, Below.refl _ _⟩
  case round =>
    obtain ⟨k, hk, rfl, hbr⟩ := hrel
    have bR := b0.later hbr
    have hsz := hbr.size
    have hbZ := hb0.trans (hbr.mono hsz0)
    have zlt := bR.lt
    have q0 := bR.c 0
    have q1 := bR.c 1
    have q2 := bR.c 2
    have q3 := bR.c 3
    have q4 := bR.c 4
    simp only [List.getElem?_toArray, List.getElem?_cons_zero, List.getElem?_cons_succ] at q0 q1 q2 q3 q4
    by_cases hlt : k < n
    · obtain ⟨b, off, tick, kind, number, fs, ds, ts, rfl, hb, ht, c0, c1, c2, c3, c4, c5⟩ := hr1.tm hl hlt
      obtain ⟨v1, v2, v3⟩ := HG.out _ (List.mem_of_getElem? ht)
      simp only at v1 v2
      injection v3 with e1 e2 e3 e4 e5
      obtain rfl := empty_of e3
      obtain rfl := empty_of e4
      obtain rfl := empty_of e5
      subst e1 e2
      have g0 := (hbr.cell (p := ⟨b, off + k * 6, none⟩) (by simp; omega)).trans c0
      have g1 := (hbr.cell (p := ⟨b, off + k * 6 + 1, none⟩) (by simp; omega)).trans c1
      have g2 := (hbr.cell (p := ⟨b, off + k * 6 + 2, none⟩) (by simp; omega)).trans c2
      have g3 := (hbr.cell (p := ⟨b, off + k * 6 + 3, none⟩) (by simp; omega)).trans c3
      have g4 := (hbr.cell (p := ⟨b, off + k * 6 + 4, none⟩) (by simp; omega)).trans c4
      have g5 := (hbr.cell (p := ⟨b, off + k * 6 + 5, none⟩) (by simp; omega)).trans c5
      have htk : tickAt ins k = tick := by unfold tickAt; rw [ht]; rfl
      have HTK := Lib.hid htk
      have hs : hasB lo hi tick = true := by simp [hasB, v1, v2]
      have bt := BoxN.new wr 33 #[.int .i64 tick, .int .i64 4, .int .i64 1, .string ⟨#[]⟩, .string ⟨#[]⟩, .string ⟨#[]⟩]
      have hbt : Below wr.heap.size wr (wr.alloc (.cells #[.int .i64 tick, .int .i64 4, .int .i64 1, .string ⟨#[]⟩, .string ⟨#[]⟩, .string ⟨#[]⟩] 33)) := (Below.refl _ wr).alloc (Nat.le_refl _) _
      clear htk ht c1 c2 c3 c4 c5 e3 e4 e5
      go_wp2_with fail
      obtain ⟨W2, hW2⟩ : ∃ W2, wr.alloc (.cells #[.int .i64 tick, .int .i64 4, .int .i64 1, .string ⟨#[]⟩, .string ⟨#[]⟩, .string ⟨#[]⟩] 33) = W2 := ⟨_, rfl⟩
      rw [hW2] at bt hbt ⊢
      refine (has38_any lo hi bf tick (.slice (some ⟨b, off, none⟩) n c) (.slice A' 0 d) W2 _ A' n 0 c d rfl rfl).mono ?_
      rintro e w3 ⟨rfl, hb3⟩
      rw [hs]
      have hb4 := hbt.trans (hb3.mono hbt.size)
      have bR3 := bR.later hb4
      have bt3 := bt.later hb3
      have hbZ3 := hbZ.trans (hb4.mono (by omega))
      have hbr3 := hbr.trans (hb4.mono hsz)
      have p3 := bR3.c 3
      have r0 := bt3.c 0
      have r1 := bt3.c 1
      have r2 := bt3.c 2
      have r3 := bt3.c 3
      have r4 := bt3.c 4
      have r5 := bt3.c 5
      simp only [List.getElem?_toArray, List.getElem?_cons_zero, List.getElem?_cons_succ] at p3 r0 r1 r2 r3 r4 r5
      clear g0 g1 g2 g3 g4 g5 q0 q1 q2 q3 q4 hs
      by_cases hk0 : 0 < k
      · obtain ⟨b', off', tick', kind', number', fs', ds', ts', e', hb', ht', c0', _⟩ := hr1.tm (k := k - 1) hl (by omega)
        injection e' with e'
        injection e' with e1 e2
        subst e1 e2
        have g0' := (hbr3.cell (p := ⟨b, off + (k - 1) * 6, none⟩) (by simp; omega)).trans c0'
        have htk' : tickAt ins (k - 1) = tick' := by unfold tickAt; rw [ht']; rfl
        have hle : tick' ≤ tick := by rw [← htk', ← HTK.out]; exact HM.out (k - 1) k (by omega) (by omega)
        have hk1 : ((k : Int) - 1).toNat = k - 1 := by omega
        have hk2 : (0 : Int) < (k : Int) := by omega
        have hI := HIC.out
        have HI := Lib.hid hI
        clear hI ht' c0' htk'
        go_wp2_with fail
        go_quiet (fail)
        have hbQ := below_drewN (B := Z) hbZ3 nq
        have hbq : Below w3.heap.size w3 (w3.drewN nq) := below_drewN (Below.refl _ _) nq
        have btq := bt3.later hbq
        generalize w3.drewN nq = W5 at hbQ hbq btq ⊢
        clear r0 r1 r2 r3 r4 r5
        have r0 := btq.c 0
        have r1 := btq.c 1
        have r2 := btq.c 2
        have r3 := btq.c 3
        have r4 := btq.c 4
        have r5 := btq.c 5
        simp only [List.getElem?_toArray, List.getElem?_cons_zero, List.getElem?_cons_succ] at r0 r1 r2 r3 r4 r5
        go_wp2_with fail
        refine (HI.out _ hbQ).mono ?_
        rintro e w6 ⟨r6, rfl, hb6, hz6⟩
        obtain rfl := hz6 rfl (by decide) (by decide) rfl rfl rfl
        go_wp2_with fail
        go_roundw
        case rel => exact ⟨k + 1, by omega, by go_num, (hbr3.trans (hbq.mono hbr3.size)).trans (hb6.mono (hbr3.trans (hbq.mono hbr3.size)).size)⟩
        case measure => simp [intOf]; omega
      · have hk2 : decide ((0 : Int) < (k : Int)) = false := by rw [decide_eq_false_iff_not]; omega
        have HI := Lib.hid HIC.out
        go_wp2_with fail
        go_quiet (fail)
        have hbQ := below_drewN (B := Z) hbZ3 nq
        have hbq : Below w3.heap.size w3 (w3.drewN nq) := below_drewN (Below.refl _ _) nq
        have btq := bt3.later hbq
        generalize w3.drewN nq = W5 at hbQ hbq btq ⊢
        clear r0 r1 r2 r3 r4 r5
        have r0 := btq.c 0
        have r1 := btq.c 1
        have r2 := btq.c 2
        have r3 := btq.c 3
        have r4 := btq.c 4
        have r5 := btq.c 5
        simp only [List.getElem?_toArray, List.getElem?_cons_zero, List.getElem?_cons_succ] at r0 r1 r2 r3 r4 r5
        go_wp2_with fail
        refine (HI.out _ hbQ).mono ?_
        rintro e w6 ⟨r6, rfl, hb6, hz6⟩
        obtain rfl := hz6 rfl (by decide) (by decide) rfl rfl rfl
        go_wp2_with fail
        go_roundw
        case rel => exact ⟨k + 1, by omega, by go_num, (hbr3.trans (hbq.mono hbr3.size)).trans (hb6.mono (hbr3.trans (hbq.mono hbr3.size)).size)⟩
        case measure => simp [intOf]; omega
    · obtain rfl : k = n := by omega
      go_wp2_with fail
      go_loop [98] (fun i => i = .int .i64 0) (fun _ => 0)
      case atStart => rfl
      case round =>
        obtain rfl := hrel
        go_wp2_with fail
        go_ret
        exact ⟨rfl, hbZ⟩

end Go.Proofs.YtnibcffcbnjllaaGreatDoor
