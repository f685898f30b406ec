/- A range over an iterator that keeps one variable of its own in a cell (strings.SplitSeq): the law for its caller; the iterator's contract. -/
import Derived.Test.YtnibcffcbnjllaaGreatDoorQLin4
import Derived.Test.YtnibcffcbnjllaaGreatDoorQLaw2
import Derived.Test.YtnibcffcbnjllaaGreatDoorQSpl
namespace Go.Proofs.YtnibcffcbnjllaaGreatDoor
open Go.RowKit Go.Shelf
attribute [local go_sem] Oper.semAt_some

/-- What an iterator over the list xs promises, which writes the cell of block Bs between its rounds, and nothing else. -/
def SeqCell {α : Type} (F : Fence) (n : Nat) (P : Program) (g : Nat) (lb : Array Value) (encs : α → Array Value) (Kp : World → World → Prop) (Bs : Nat) (xs : List α) (w : World) : Prop :=
  ∀ (l : Nat) (J Jx : List α → World → Prop) (W : World), Below w.heap.size w W → (∀ pre W v, J pre W → J pre (W.setCell ⟨Bs, 0, none⟩ v)) →
    (∀ pre x W1, J pre W1 → pre ++ [x] <+: xs → YieldAt F (n - 1) P l (encs x) W1 fun e W' =>
      (e = .returned (.bool true) ∧ J (pre ++ [x]) W' ∧ Kp W1 W') ∨ (e = .returned (.bool false) ∧ Jx (pre ++ [x]) W')) →
    J [] W →
    CallsIn F n P g (#[.func (.yield l) #[] #[]] ++ lb) W fun e W' => (∃ v, e = .returned v) ∧ (J xs W' ∨ ∃ pre, pre <+: xs ∧ Jx pre W')

section
variable {F : Fence} {n : Nat} {P : Program}
/-- The record of a loop. -/
abbrev recOf (fn : FuncId) (tmps : Array Value) (ps : Array Tmp) (assign body : Code) (D : Nat) (st : LoopState) (pe : Option Code) : Loop :=
  { state := st, pending := pe, fn, tmps, params := ps, assign, body, defers := D }
theorem heap_set_other {W : World} {Bs k : Nat} {v : Value} (h : k ≠ Bs) : (W.setCell ⟨Bs, 0, none⟩ v).heap[k]? = W.heap[k]? := Below.heap_setCell W ⟨Bs, 0, none⟩ v k h
/-- The end of a round: the record is free again, or shut. -/
theorem round_end {fn : FuncId} {tmps : Array Value} {ps : Array Tmp} {assign body : Code} {D : Nat} {W W3 : World} (jump : Option Code)
    (hl : W.heap[D + 1]? = some (.loop (recOf fn tmps ps assign body D .busy none))) (hk : W.heap[D]? = some (.deferred (some []))) (h : KeepsFrom D W W3) :
    (Instr.endRound (D + 1) jump).run P W3 = .ok (.bool jump.isNone) (W3.putObj (D + 1) (.loop (recOf fn tmps ps assign body D (if jump.isNone then .ready else .done) jump))) ∧
    W3.heap[D + 1]? = some (.loop (recOf fn tmps ps assign body D .busy none)) ∧
    (W3.putObj (D + 1) (.loop (recOf fn tmps ps assign body D (if jump.isNone then .ready else .done) jump))).heap[D + 1]? = some (.loop (recOf fn tmps ps assign body D (if jump.isNone then .ready else .done) jump)) ∧
    (W3.putObj (D + 1) (.loop (recOf fn tmps ps assign body D (if jump.isNone then .ready else .done) jump))).heap[D]? = some (.deferred (some [])) := by
  have hl3 := h.same _ _ (by omega) hl rfl
  have hk3 := h.same _ _ (by omega) hk rfl
  exact ⟨run_endRound (P := P) jump hl3, hl3, World.putObj_heap_same (Array.getElem?_eq_some_iff.1 hl3).1, (World.putObj_heap_other (by omega)).trans hk3⟩

/-- 'for x := range g { body }' over such an iterator. -/
theorem wpIn_range_cell {α : Type} {g : Operand} {ps : Array Tmp} {assign body : Code} {Q : Exit → Act → World → Prop} {a : Act} {w : World}
    (hro : F.round = none) (h1 : 1 ≤ n) {gf : Nat} {lb : Array Value} (hg : a.eval g = .func (.func gf) #[] lb) (hFg : F.fn gf) (eg : ∀ args w, (callFunc gf args).run P w = .ok (.enter gf args) w)
    {encs : α → Array Value} {Kp : World → World → Prop} {Bs : Nat} {xs : List α} (hBs : Bs < w.heap.size) (hseq : SeqCell F (n - 1) P gf lb encs Kp Bs xs w)
    (hKt : ∀ {A B C : World}, Kp A B → Kp B C → Kp A C) (hKb : ∀ (W : World) (l : Nat) (o' : Obj), w.heap.size ≤ l → Kp W (W.putObj l o')) (hps : ∀ x, (encs x).size = ps.size)
    (I : List α → World → Prop) (Ix : Code → List α → World → Prop) (hI : OwnFrom w.heap.size I) (hIx : ∀ c, OwnFrom w.heap.size (Ix c)) (hIB : ∀ pre W v, I pre W → I pre (W.setCell ⟨Bs, 0, none⟩ v)) (h0 : I [] w) (a₁ : α → Act)
    (hassign : ∀ (l : Nat) (x : α) (W : World) (K : Act → World → Prop), K (a₁ x) W →
      assign.wpIn (F.inRound l) (n - 1 - 1) P (Exit.then K (fun _ _ _ => False)) { tmps := (ps.zip (encs x)).foldl (fun t (p, v) => t.setIfInBounds p v) a.tmps, defers := [] } W)
    (hbody : ∀ (l : Nat) (pre : List α) (x : α) (W : World), I pre W → pre ++ [x] <+: xs → body.wpIn (F.inRound l) (n - 1 - 1) P (ownPostG w.heap.size Kp I Ix (pre ++ [x]) W) (a₁ x) W)
    (hdone : ∀ (D : Nat) (W : World), w.heap.size ≤ D → I xs W → W.heap[D]? = some (.deferred (some [])) → Q .normal { a with defers := { target := .collected D, args := #[] } :: a.defers } W)
    (hstop : ∀ (D : Nat) (c : Code) (pre : List α) (W : World), w.heap.size ≤ D → pre <+: xs → Ix c pre W → W.heap[D]? = some (.deferred (some [])) → c.wpIn F n P Q { a with defers := { target := .collected D, args := #[] } :: a.defers } W) :
    (Code.rangeFunc g ps assign body).wpIn F n P Q a w := by
  refine wpIn_rangeFunc fun fn hfn => ?_
  rw [hro]
  obtain ⟨D, hD⟩ : ∃ D, w.heap.size = D := ⟨_, rfl⟩
  obtain ⟨W1, hW1⟩ : ∃ W1, (w.alloc (.deferred (some []))).alloc (.loop (recOf fn a.tmps ps assign body D .ready none)) = W1 := ⟨_, rfl⟩
  have hL1 : W1.heap[D + 1]? = some (.loop (recOf fn a.tmps ps assign body D .ready none)) := by
    rw [← hW1, ← hD, show w.heap.size + 1 = (w.alloc (.deferred (some []))).heap.size by simp]
    exact World.alloc_heap_new _ _
  have hK1 : W1.heap[D]? = some (.deferred (some [])) := by
    rw [← hW1, ← hD]
    exact (Below.heap_alloc _ _ _ (by simp)).trans (World.alloc_heap_new w _)
  have hI1 : I [] W1 := hW1 ▸ hI.alloc _ (hI.alloc _ h0)
  have hb1 : Below w.heap.size w W1 := hW1 ▸ ((Below.refl _ w).alloc (Nat.le_refl _) _).alloc (by simp) _
  rw [hD] at hI hIx hKb hBs hdone hstop hbody
  refine ⟨D + 1, [{ target := .collected D, args := #[] }], W1, { target := .fn (.func gf) lb, args := #[.func (.yield (D + 1)) #[] #[]] }, W1, gf, #[.func (.yield (D + 1)) #[] #[]] ++ lb, W1, ?_, ?_, ?_, ?_, fun _ => h1, ?_⟩
  · rw [← hW1, ← hD]
    exact run_enterLoop_outer _ _ _ _ _
  · simp only [resolve, hg]
    simp [go_sem]
  · intro f' hf'
    simp [Target.leads] at hf'
    subst hf'
    exact hFg
  · simp [invoke, go_sem, eg]
  · refine (hseq (D + 1)
      (fun pre W => I pre W ∧ W.heap[D + 1]? = some (.loop (recOf fn a.tmps ps assign body D .ready none)) ∧ W.heap[D]? = some (.deferred (some [])))
      (fun pre W => ∃ c, Ix c pre W ∧ W.heap[D + 1]? = some (.loop (recOf fn a.tmps ps assign body D .done (some c))) ∧ W.heap[D]? = some (.deferred (some [])))
      W1 hb1 (fun pre W v h => ⟨hIB pre W v h.1, (heap_set_other (by omega)).trans h.2.1, (heap_set_other (by omega)).trans h.2.2⟩) ?_ ⟨hI1, hL1, hK1⟩).mono ?_
    · rintro pre x W ⟨hi, hl, hk⟩ hpre
      have hlt := (Array.getElem?_eq_some_iff.1 hl).1
      refine ⟨fn, _, assign, body, run_yield (P := P) (args := encs x) hl (hps x), roundIn_of_wpIn hfn (hassign _ x W _ ⟨_, run_beginRound hl rfl, ?_⟩)⟩
      have hl2 : (W.putObj (D + 1) (.loop (recOf fn a.tmps ps assign body D .busy none))).heap[D + 1]? = some (.loop (recOf fn a.tmps ps assign body D .busy none)) := World.putObj_heap_same hlt
      have hk2 : (W.putObj (D + 1) (.loop (recOf fn a.tmps ps assign body D .busy none))).heap[D]? = some (.deferred (some [])) := (World.putObj_heap_other (by omega)).trans hk
      have out : ∀ (c : Code) (W3 : World), KeepsFrom D (W.putObj (D + 1) (.loop (recOf fn a.tmps ps assign body D .busy none))) W3 → Ix c (pre ++ [x]) W3 →
          ∃ v W4, (Instr.endRound (D + 1) (some c)).run P W3 = .ok v W4 ∧ v = .bool false ∧ ∃ c, Ix c (pre ++ [x]) W4 ∧ W4.heap[D + 1]? = some (.loop (recOf fn a.tmps ps assign body D .done (some c))) ∧ W4.heap[D]? = some (.deferred (some [])) := fun c W3 hk3 hi3 => by
        obtain ⟨hr, hl3, hl4, hk4⟩ := round_end (P := P) (some c) hl2 hk2 hk3
        exact ⟨_, _, hr, rfl, c, (hIx c).putObj _ hi3 (by omega) hl3 rfl, hl4, hk4⟩
      refine wpIn_mono (hbody _ pre x _ (hI.putObj _ hi (by omega) hl rfl) hpre) ?_
      rintro e a3 W3 hp
      cases e with
      | normal =>
        obtain ⟨hr, hl3, hl4, hk4⟩ := round_end (P := P) none hl2 hk2 hp.1
        exact ⟨_, _, hr, .inl ⟨rfl, ⟨hI.putObj _ hp.2.2 (by omega) hl3 rfl, hl4, hk4⟩, hKt (hKt (hKb _ _ _ (by omega)) hp.2.1) (hKb _ _ _ (by omega))⟩⟩
      | ret =>
        obtain ⟨v, W4, hr, rfl, h⟩ := out .ret W3 hp.1 hp.2
        exact ⟨_, _, hr, .inr ⟨rfl, h⟩⟩
      | exit id =>
        obtain ⟨v, W4, hr, rfl, h⟩ := out (.exit id) W3 hp.1 hp.2
        exact ⟨_, _, hr, .inr ⟨rfl, h⟩⟩
      | goto t =>
        obtain ⟨v, W4, hr, rfl, h⟩ := out (.goto t) W3 hp.1 hp.2
        exact ⟨_, _, hr, .inr ⟨rfl, h⟩⟩
      | panic ch => exact hp.elim
      | outgrown => exact hp.elim
    · rintro e W2 ⟨⟨v, rfl⟩, (⟨hi, hl, hk⟩ | ⟨pre, hpre, c, hi, hl, hk⟩)⟩
      · exact ⟨none, _, run_endLoop (P := P) hl (by simp), hdone _ _ (by omega) (hI.putObj _ hi (by omega) hl rfl) ((World.putObj_heap_other (by omega)).trans hk)⟩
      · exact ⟨some c, _, run_endLoop (P := P) hl (by simp), hstop _ c pre _ (by omega) hpre ((hIx c).putObj _ hi (by omega) hl rfl) ((World.putObj_heap_other (by omega)).trans hk)⟩
end

/-- The three blocks of the iterator lie as they lay. -/
def Keep3 (B : Nat) (W W' : World) : Prop := ∀ k, B ≤ k → k ≤ B + 2 → W'.heap[k]? = W.heap[k]?
theorem keep3_t {B : Nat} {X Y Z : World} (h : Keep3 B X Y) (k : Keep3 B Y Z) : Keep3 B X Z := fun i h1 h2 => (k i h1 h2).trans (h i h1 h2)
theorem keep3_b {B : Nat} {w : World} (hB : B + 2 < w.heap.size) (W : World) (l : Nat) (o' : Obj) (hl : w.heap.size ≤ l) : Keep3 B W (W.putObj l o') := fun _ _ h2 => World.putObj_heap_other (by omega)
theorem keep3_refl (B : Nat) (W : World) : Keep3 B W W := fun _ _ _ => rfl

theorem SplitSeq_in (n : Nat) (hn : 1 ≤ n) (s sep : ByteArray) (w : World) :
    CallsIn Fence.wide n Tryz.prog 59 #[.string s, .string sep] w fun e w' => e = .returned (.func (.func 109) #[] #[.pointer (some ⟨w.heap.size + 1, 0, none⟩), .pointer (some ⟨w.heap.size, 0, none⟩), .pointer (some ⟨w.heap.size + 1 + 1, 0, none⟩)]) ∧
      w' = ((w.alloc (.cells #[.string s] 9)).alloc (.cells #[.string sep] 9)).alloc (.cells #[.int .i64 0] 3) := by
  have h87 : ∀ m, CallsIn Fence.wide m Tryz.prog 87 #[.string s, .string sep, .int .i64 0] w fun e w' => e = .returned (.func (.func 109) #[] #[.pointer (some ⟨w.heap.size + 1, 0, none⟩), .pointer (some ⟨w.heap.size, 0, none⟩), .pointer (some ⟨w.heap.size + 1 + 1, 0, none⟩)]) ∧
      w' = ((w.alloc (.cells #[.string s] 9)).alloc (.cells #[.string sep] 9)).alloc (.cells #[.int .i64 0] 3) := fun m => by
    refine callsIn_of_wp Tryz.func87 rfl trivial ?_ rfl
    simp only [Tryz.ntmps87, List.size_toArray, List.length_cons, List.length_nil, Nat.reduceAdd, Nat.reduceSub, Array.replicate_succ, Array.replicate_zero, List.push_toArray, List.append_toArray, List.nil_append, List.cons_append]
    gi_wp2
    go_ret
    exact ⟨rfl, rfl⟩
  refine callsIn_of_wp Tryz.func59 rfl trivial ?_ rfl
  simp only [Tryz.ntmps59, List.size_toArray, List.length_cons, List.length_nil, Nat.reduceAdd, Nat.reduceSub, Array.replicate_succ, Array.replicate_zero, List.push_toArray, List.append_toArray, List.nil_append, List.cons_append]
  gi_wp2_with (refine ⟨trivial, ?_⟩; gi_at_call 87; refine (h87 _).mono ?_; rintro e w' ⟨rfl, rfl⟩)
  go_ret
  exact ⟨rfl, rfl⟩

/-- How much of the text is left. -/
def leftOf (B : Nat) (wr : World) : Nat := match wr.cell? ⟨B, 0, none⟩ with | some (.string r) => r.size + 1 | _ => 0
theorem leftOf_eq {B : Nat} {wr : World} {r : ByteArray} (h : wr.cell? ⟨B, 0, none⟩ = some (.string r)) : leftOf B wr = r.size + 1 := by unfold leftOf; rw [h]

theorem str_cell {W : World} {B : Nat} {t : TypeId} {v : Value} (h : W.heap[B]? = some (.cells #[v] t (0, 0))) : W.cell? ⟨B, 0, none⟩ = some v ∧ W.frozen? ⟨B, 0, none⟩ = false := by
  constructor
  · simp [World.cell?, h]
  · simp [World.frozen?, h]

theorem ext_list (r : ByteArray) (a b : Nat) : (r.extract a b).data.toList = (r.data.toList.drop a).take (b - a) := by
  rw [ByteArray.data_extract, Array.toList_extract]
theorem ext_first {r : ByteArray} {d t : Nm} (h : r.data.toList = d ++ 32 :: t) : (r.extract 0 d.length).data.toList = d := by
  rw [ext_list, h]; simp
theorem ext_rest {r : ByteArray} {d t : Nm} (h : r.data.toList = d ++ 32 :: t) : (r.extract (d.length + 1) r.size).data.toList = t := by
  have hl := len_of_byte r
  rw [h] at hl
  simp at hl
  rw [ext_list, h, show d ++ 32 :: t = (d ++ [32]) ++ t by simp, List.drop_left' (by simp), List.take_of_length_le (by omega)]
set_option maxRecDepth 100000 in
set_option maxHeartbeats 1000000 in
theorem split_cell (n : Nat) (hn : 1 ≤ n) (s : ByteArray) (hs : s.size ≤ 4611686018427387904) (B : Nat) (w : World) (h0 : w.heap[B]? = some (.cells #[.string s] 9 (0, 0))) (h1 : w.heap[B + 1]? = some (.cells #[.string ⟨#[32]⟩] 9 (0, 0))) (h2 : w.heap[B + 2]? = some (.cells #[.int .i64 0] 3 (0, 0))) :
    SeqCell Fence.wide n Tryz.prog 109 #[.pointer (some ⟨B + 1, 0, none⟩), .pointer (some ⟨B, 0, none⟩), .pointer (some ⟨B + 2, 0, none⟩)] (fun x : Nm => #[encN x]) (Keep3 B) B (splitS s.data.toList) w := fun l J Jx W hW hJB hY hJ0 => by
  have k0 := box_kept h0 hW
  have k1 := box_kept h1 hW
  have k2 := box_kept h2 hW
  have c1 := (str_cell k1).1
  clear h0 h1 h2
  refine callsIn_of_wp Tryz.func109 rfl trivial ?_ rfl
  simp only [Tryz.ntmps109, List.size_toArray, List.length_cons, List.length_nil, Nat.reduceAdd, Nat.reduceSub, Array.replicate_succ, Array.replicate_zero, List.push_toArray, List.append_toArray, List.nil_append, List.cons_append]
  gi_wp2
  gi_loopw [7, 8] (fun _ _ wr => ∃ (pre : List Nm) (r : ByteArray), splitS s.data.toList = pre ++ splitS r.data.toList ∧ r.size ≤ s.size ∧ J pre wr ∧ wr.heap[B]? = some (.cells #[.string r] 9 (0, 0)) ∧ wr.heap[B + 1]? = some (.cells #[.string ⟨#[32]⟩] 9 (0, 0)) ∧ wr.heap[B + 2]? = some (.cells #[.int .i64 0] 3 (0, 0)))
    (fun _ _ wr => leftOf B wr)
  case atStart => exact ⟨[], s, rfl, Nat.le_refl _, hJ0, k0, k1, k2⟩
  case round =>
    obtain ⟨pre, r, hp, hrs, hJs, k0, k1, k2⟩ := hrel
    have HP := Lib.hid hp
    have hI := Tryz.strings_Index_one r 32 wr
    have c0 := (str_cell k0).1
    have d1 := (str_cell k1).1
    have c2 := (str_cell k2).1
    have K0 := Lib.hid k0
    have K1 := Lib.hid k1
    have K2 := Lib.hid k2
    have hrl := len_of_byte r
    clear hp k0 k1 k2
    rcases sp_cases r.data.toList with hno | ⟨d, t, hr, hno⟩
    · rw [indexB_no_sp _ hno] at hI
      have HNO := Lib.hid hno
      have HI := Lib.hid hI
      obtain ⟨fn, tmps, assign, body, hy, hR⟩ := hY pre r.data.toList wr hJs (by rw [HP.out, splitS_none hno]; exact List.prefix_refl _)
      rw [encN_eq] at hy
      clear hno hI
      gi_wp2_with (refine ⟨trivial, ?_⟩; gi_at_call 111; refine (callsIn_wide.2 HI.out).mono ?_; rintro e w' ⟨rfl, rfl⟩)
      refine hR.mono ?_
      rintro e W3 (⟨rfl, hJ3, hk3⟩ | ⟨rfl, hJx3⟩)
      · gi_wp2
        go_end0
        exact ⟨⟨_, rfl⟩, .inl (by rw [HP.out, splitS_none HNO.out]; exact hJ3)⟩
      · gi_wp2
        go_end0
        exact ⟨⟨_, rfl⟩, .inr ⟨pre ++ [r.data.toList], by rw [HP.out, splitS_none HNO.out]; exact List.prefix_refl _, hJx3⟩⟩
    · rw [hr, indexB_sp _ _ hno] at hI
      have hdl : d.length + 1 + t.length = r.size := by rw [← hrl, hr]; simp; omega
      have HNO := Lib.hid hno
      have HI := Lib.hid hI
      have HR := Lib.hid hr
      have e1 : wrap64 (d.length : Int) = (d.length : Int) := by unfold wrap64; omega
      have e2 : wrap64 ((d.length : Int) + 1) = (d.length : Int) + 1 := by unfold wrap64; omega
      have b1 : (d.length : Int) ≤ (r.size : Int) := by omega
      have b2 : (d.length : Int) + 1 ≤ (r.size : Int) := by omega
      have b3 : (0 : Int) ≤ (d.length : Int) + 1 := by omega
      have hq : splitS s.data.toList = (pre ++ [(r.extract 0 d.length).data.toList]) ++ splitS (r.extract (d.length + 1) r.size).data.toList := by
        rw [HP.out, hr, splitS_cons _ hno, ext_first hr, ext_rest hr]; simp
      have HQ := Lib.hid hq
      have hsz : (r.extract (d.length + 1) r.size).size = t.length := by rw [← len_of_byte, ext_rest hr]
      obtain ⟨fn, tmps, assign, body, hy, hR⟩ := hY pre (r.extract 0 d.length).data.toList wr hJs ⟨_, hq.symm⟩
      rw [encN_eq] at hy
      clear hno hI hr hq
      gi_wp2_with (refine ⟨trivial, ?_⟩; gi_at_call 111; refine (callsIn_wide.2 HI.out).mono ?_; rintro e w' ⟨rfl, rfl⟩)
      refine hR.mono ?_
      rintro e W3 (⟨rfl, hJ3, hk3⟩ | ⟨rfl, hJx3⟩)
      · have q0 := (hk3 B (by omega) (by omega)).trans K0.out
        have q1 := (hk3 (B + 1) (by omega) (by omega)).trans K1.out
        have q2 := (hk3 (B + 2) (by omega) (by omega)).trans K2.out
        have g0 := (str_cell q0).1
        have g0f := (str_cell q0).2
        have g1 := (str_cell q1).1
        have Q0 := Lib.hid q0
        have Q1 := Lib.hid q1
        have Q2 := Lib.hid q2
        have hlo := leftOf_eq c0
        clear q0 q1 q2 c0 d1 c2
        gi_wp2
        go_roundw
        case rel => exact ⟨_, r.extract (d.length + 1) r.size, HQ.out, by omega, hJB _ _ _ hJ3, Boxed.set (.string (r.extract (d.length + 1) r.size)) (show Boxed W3 B 9 (.string r) from Q0.out), (heap_set_other (by omega)).trans Q1.out, (heap_set_other (by omega)).trans Q2.out⟩
        case measure => rw [leftOf_eq (Boxed.cell (Boxed.set (.string (r.extract (d.length + 1) r.size)) (show Boxed W3 B 9 (.string r) from Q0.out))), hlo]; omega
      · gi_wp2
        refine bodyPost_ret (results_none rfl _ _ _) rfl ?_
        exact ⟨⟨_, rfl⟩, .inr ⟨_, ⟨_, HQ.out.symm⟩, hJx3⟩⟩

end Go.Proofs.YtnibcffcbnjllaaGreatDoor
