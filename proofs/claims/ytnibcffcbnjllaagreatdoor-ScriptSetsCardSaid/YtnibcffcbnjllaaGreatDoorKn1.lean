/- (Script).before, slices.Clone of timed inputs. -/
import Derived.Test.YtnibcffcbnjllaaGreatDoorChk4
import Derived.Test.YtnibcffcbnjllaaGreatDoorSort1
import Derived.Shelf.SlSorted.Search
namespace Go.Proofs.YtnibcffcbnjllaaGreatDoor
open Go.RowKit Go.Shelf Go.Sort

def tickAt (l : List Tmd) (i : Nat) : Int := (l[i]?.map (·.tick)).getD 0
/-- How many inputs come before a tick. -/
def cntB (l : List Tmd) (t : Int) : Nat := (List.range l.length).countP fun i => !decide (t ≤ tickAt l i)
theorem cntB_le (l : List Tmd) (t : Int) : cntB l t ≤ l.length := by
  unfold cntB
  have := List.countP_le_length (p := fun i => !decide (t ≤ tickAt l i)) (l := List.range l.length)
  simpa using this

set_option maxHeartbeats 1000000 in
theorem before1_any (l : List Tmd) (A A' : Option Addr) (n m c d B : Nat) (lo hi bf t : Int) (i : Nat) (W : World) (_hn : n ≤ 65536) (hl : l.length = n) (hi' : i < n) (hr : Row W B 6 A n (l.flatMap tmdCells))
    (b0 : BoxN W B 25 #[.int .i64 lo, .int .i64 hi, .int .i64 bf, .slice A n c, .slice A' m d]) (b1 : BoxN W (B + 1) 3 #[.int .i64 t]) :
    Calls Tryz.prog 118 (#[.int .i64 i] ++ #[.pointer (some ⟨B, 0, none⟩), .pointer (some ⟨B + 1, 0, none⟩)]) W fun e w' => e = .returned (.bool (decide (t ≤ tickAt l i))) ∧ ∃ q os', w' = grow (W.drewN q) os' := by
  obtain ⟨b, off, tick, kind, number, fs, ds, ts, rfl, hb, ht, c0, c1, c2, c3, c4, c5⟩ := hr.tm hl hi'
  have e : tickAt l i = tick := by unfold tickAt; rw [ht]; rfl
  rw [e]
  have q3 := b0.c 3
  have q0 := b1.c 0
  simp only [List.getElem?_toArray, List.getElem?_cons_zero, List.getElem?_cons_succ] at q3 q0
  clear b0 b1 hr e ht c1 c2 c3 c4 c5 hl
  go_enter Tryz.func118, Tryz.ntmps118
  go_wp2
  go_quiet (fail)
  go_wp2
  go_ret
  exact ⟨rfl, _, #[], (grow_empty _).symm⟩

set_option maxHeartbeats 1000000 in
theorem before_any (S : Scr) (A A' : Option Addr) (n m c d : Nat) (t : Int) (w : World) (hS : ScrAt w w.heap.size A A' n m S) (hn : n ≤ 65536) (hmono : ∀ a b, a ≤ b → b < n → tickAt S.inputs a ≤ tickAt S.inputs b) :
    Calls Tryz.prog 91 #[scrVal S A A' n m c d, .int .i64 t] w fun e w' => e = .returned (.int .i64 (cntB S.inputs t : Int)) ∧ Below w.heap.size w w' := by
  obtain ⟨hr, hl, hs2, hn0, hm⟩ := hS
  obtain ⟨lo, hi, bf, ins, sch⟩ := S
  unfold scrVal
  simp only at hr hl hmono ⊢
  have b0 := (BoxN.new w 25 #[.int .i64 lo, .int .i64 hi, .int .i64 bf, .slice A n c, .slice A' m d]).alloc (.cells #[.int .i64 t] 3)
  have b1 := BoxN.new (w.alloc (.cells #[.int .i64 lo, .int .i64 hi, .int .i64 bf, .slice A n c, .slice A' m d] 25)) 3 #[.int .i64 t]
  have hb0 : Below w.heap.size w ((w.alloc (.cells #[.int .i64 lo, .int .i64 hi, .int .i64 bf, .slice A n c, .slice A' m d] 25)).alloc (.cells #[.int .i64 t] 3)) := ((Below.refl _ w).alloc (Nat.le_refl _) _).alloc (by simp) _
  simp only [World.size_alloc] at b1
  obtain ⟨W1, hW1⟩ : ∃ W1, (w.alloc (.cells #[.int .i64 lo, .int .i64 hi, .int .i64 bf, .slice A n c, .slice A' m d] 25)).alloc (.cells #[.int .i64 t] 3) = W1 := ⟨_, rfl⟩
  rw [hW1] at b0 b1 hb0
  have hcall := Any.sort_Search Tryz.lSearch 118 #[.pointer (some ⟨w.heap.size, 0, none⟩), .pointer (some ⟨w.heap.size + 1, 0, none⟩)] n (fun i => decide (t ≤ tickAt ins i)) W1 (enters_of Tryz.func118 (by kernel_rfl) rfl) (by omega) (by
    intro q os i hi'
    have hbg : Below W1.heap.size W1 (grow (W1.drewN q) os) := below_grow q os
    have hbw := hb0.trans (hbg.mono hb0.size)
    exact before1_any ins A A' n m c d w.heap.size lo hi bf t i _ hn hl hi' (hr.below hbw) (b0.later hbg) (b1.later hbg)) (by
    intro a b hab hbn h
    have := hmono a b hab hbn
    have h' := of_decide_eq_true h
    exact decide_eq_true (by omega))
  have hcnt : (List.range n).countP (fun i => !decide (t ≤ tickAt ins i)) = cntB ins t := by unfold cntB; rw [hl]
  rw [hcnt] at hcall
  generalize cntB ins t = cc at hcall ⊢
  have HC := Lib.hid hcall
  have HW := Lib.hid hW1
  have HB := Lib.hid hb0
  clear hcall hW1 hmono hr hb0 hcnt
  go_enter Tryz.func91, Tryz.ntmps91
  go_wp2_with fail
  rw [HW.out]
  refine HC.out.mono ?_
  rintro e w2 ⟨rfl, q, os, rfl⟩
  have hbg : Below W1.heap.size W1 (grow (W1.drewN q) os) := below_grow q os
  generalize grow (W1.drewN q) os = W2 at hbg ⊢
  go_wp2_with fail
  go_ret
  exact ⟨rfl, HB.out.trans (hbg.mono HB.out.size)⟩

theorem Tryz.infoTmd : (Tryz.prog.info? 33).map (fun i => (i.zero, i.size, i.bytes)) = some (some (.agg #[.int .i64 0, .int .i64 0, .int .i64 0, .string ⟨#[]⟩, .string ⟨#[]⟩, .string ⟨#[]⟩]), 6, 72) := by kernel_rfl

set_option maxRecDepth 100000 in
set_option maxHeartbeats 1000000 in
theorem CloneT_any (A : Option Addr) (n c B : Nat) (xs : List Value) (w : World) (hn : n ≤ 100000) (hr : Row w B 6 A n xs) (h1 : ∀ u ∈ xs, u.oneCell' = true) :
    Calls Tryz.prog 92 #[.slice A n c] w fun e w' => ∃ v', e = .returned v' ∧ w'.ownsRow w.heap.size 33 6 v' n xs ∧ Below w.heap.size w w' := by
  obtain ⟨i0, hi, hz0, hz1, hz2⟩ := info_parts Tryz.infoTmd
  obtain ⟨hl, hc⟩ := hr
  cases A with
  | none =>
    obtain rfl : n = 0 := by
      rcases Nat.eq_zero_or_pos n with h | h
      · exact h
      · obtain ⟨_, _, e, _⟩ := hc h; cases e
    have hx : xs = [] := List.length_eq_zero_iff.1 (by omega)
    subst hx
    refine (AnyE.slices_Clone_nil Tryz.lCloneT 0 c w).mono ?_
    rintro e w' ⟨rfl, rfl⟩
    exact ⟨_, rfl, World.ownsRow_nil _ _ _ _, Below.refl _ _⟩
  | some ad =>
    have hc' : ∀ j u, xs[j]? = some u → w.cell? (ad.add j) = some u := by
      intro j u hj
      have hjl : j < xs.length := (List.getElem?_eq_some_iff.1 hj).1
      obtain ⟨b, off, e, _, hcc⟩ := hc (by omega)
      injection e with e
      subst e
      rw [Addr.add_lit]
      exact hcc j u hj
    have A : Aside (∀ j u, xs[j]? = some u → w.cell? (ad.add j) = some u) := hc'
    clear hc' hc
    have q22 : ∀ (w : World) (a : Option Addr) (n c n' c' : Nat), (binOp .eql 22 (.slice a n c) (.slice none n' c')).run Tryz.prog w = .ok (.bool a.isNone) w := fun w a n c n' c' => Lib.run_eql_slice_nil w _ _ a n c n' c' Tryz.underlying22
    go_enter Tryz.func92, Tryz.ntmps92
    go_wp2_with (at_builtin; refine wpList_append_own _ rfl _ _ 22 rfl w.heap.size 33 i0 _ 6 72 Tryz.underlying22 hi hz0 hz1 hz2 rfl (by decide) _ _ _ rfl (World.ownsRow_made w #[] 0 (Nat.le_refl _) (Nat.zero_le _) (by simp)) ad n c xs rfl ?qc1 ?qc2 ?qc3 ?qc4 ?qc5 ?qc6 ?_)
    case qc1 => exact hl
    case qc2 =>
      intro j u hj
      exact Lib.cell?_alloc_some _ (A.out j u hj)
    case qc3 => exact h1
    case qc4 => unfold maxLen; omega
    case qc5 => omega
    case qc6 => simp
    intro v' w1 hown hgrow hnil
    go_wp2
    go_ret
    refine ⟨v', rfl, by simpa using hown, ?_⟩
    exact ((Below.refl _ w).alloc (Nat.le_refl _) _).grown hgrow (by simp) (by intro k hk; simp [Value.ownBlock] at hk; omega)

end Go.Proofs.YtnibcffcbnjllaaGreatDoor
