/- The count of draws never goes down: of every run of an operation, of every step of the machine, of every call. -/
import Derived.Calls
import Derived.RunT
namespace Go.Proofs.YtnibcffcbnjllaaGreatDoor
open Go

def resW {α : Type} : Result α → World
  | .ok _ w => w
  | .halt _ w => w

theorem ask_drawn {α : Type} : ∀ (a : Ask α) (w : World), w.drawn ≤ (w.ask a).2.drawn
  | .done _, w => Nat.le_refl _
  | .ask what range k, w => by
    unfold World.ask
    simp only
    split
    · exact ask_drawn (k 0) w
    · exact Nat.le_trans (Nat.le_succ _) (ask_drawn (k _) { w with drawn := w.drawn + 1 })

theorem sys_drawn (w : World) (c : Sys) : w.drawn ≤ (w.sys c).2.drawn := by
  unfold World.sys
  have h := ask_drawn (Kernel.perform c w.os) w
  split
  · exact Nat.le_refl _
  · next h2 => rw [h2] at h; exact h

theorem viewStore_drawn {p : Program} {w : World} {a : Addr} {u : TypeId} {k : Addr} {v : Value} {b : Bool} {r : World × List Addr} (h : w.viewStore p a u k v b = .ok r) : r.1.drawn = w.drawn := by
  unfold World.viewStore at h
  simp only [bind, Except.bind, pure, Except.pure] at h
  repeat' split at h
  all_goals first | (cases h; done) | (injection h with h; subst h; rfl)

theorem farStore_drawn {p : Program} {w w' : World} {a : Addr} {v : Value} {b : Bool} {l : List Addr} (h : w.farStore p a v b = .ok (w', l)) : w'.drawn = w.drawn := by
  unfold World.farStore at h
  split at h
  · split at h
    · next r hr =>
      injection h with h
      subst h
      exact viewStore_drawn hr
    · cases h
  · cases h

theorem freeze_drawn (w : World) (a : Addr) (n : Nat) : (w.freeze a n).drawn = w.drawn := by
  unfold World.freeze
  split <;> rfl

theorem run_drawn {α : Type} (p : Program) : ∀ (s : Sem α) (w : World), w.drawn ≤ (resW (s.run p w)).drawn := by
  intro s
  induction s with
  | pure a => intro w; exact Nat.le_refl _
  | load m a k ih =>
    intro w
    unfold Sem.run
    split
    · exact ih _ w
    · split
      · exact ih _ w
      · exact Nat.le_refl _
  | store m a v k ih =>
    intro w
    have main : w.drawn ≤ (resW (match w.cell? a with
      | some _ => if w.frozen? a then Result.halt (.unsupported (.unsafePointer "a write to bytes that a string shares")) w else k.run p (w.setCell a v)
      | none => match w.farStore p a v (m == .atomic) with
        | .ok (w, _) => k.run p w
        | .error h => .halt h w)).drawn := by
      split
      · split
        · exact Nat.le_refl _
        · exact ih (w.setCell a v)
      · split
        · next h => rw [← farStore_drawn h]; exact ih _
        · exact Nat.le_refl _
    cases v <;> simp only [Sem.run] <;> first | exact Nat.le_refl _ | exact main
  | new o k ih => intro w; unfold Sem.run; exact ih _ { w with heap := w.heap.push o }
  | shape r k ih => intro w; unfold Sem.run; exact ih _ w
  | freeze a n k ih => intro w; unfold Sem.run; rw [← freeze_drawn w a n]; exact ih _
  | frozen a k ih => intro w; unfold Sem.run; exact ih _ w
  | getObj r k ih =>
    intro w
    unfold Sem.run
    split
    · exact Nat.le_refl _
    · exact ih _ w
    · exact Nat.le_refl _
  | setObj r o k ih =>
    intro w
    unfold Sem.run
    split
    · exact Nat.le_refl _
    · exact ih { w with heap := w.heap.setIfInBounds r o }
    · exact Nat.le_refl _
  | choose q k ih =>
    intro w
    unfold Sem.run
    split
    · exact ih _ w
    · exact Nat.le_trans (Nat.le_succ _) (ih _ { w with drawn := w.drawn + 1 })
  | sys c k ih => intro w; unfold Sem.run; exact Nat.le_trans (sys_drawn w c) (ih _ _)
  | program k ih => intro w; unfold Sem.run; exact ih _ w
  | mark m k ih => intro w; unfold Sem.run; exact ih w
  | halt h => intro w; exact Nat.le_refl _

section
variable {α : Type} {p : Program} {s : Sem α} {w w' : World} {x : α} {hh : Halt} {es es' : Array Event} {n : Nat}
theorem run_ok (e : s.run p w = .ok x w') (h : n ≤ w.drawn) : n ≤ w'.drawn := by
  have := run_drawn p s w; rw [e] at this; exact Nat.le_trans h this
theorem run_halt (e : s.run p w = .halt hh w') (h : n ≤ w.drawn) : n ≤ w'.drawn := by
  have := run_drawn p s w; rw [e] at this; exact Nat.le_trans h this
theorem runT_of {r : Result α} (e : s.runT p w es = (r, es')) (h : n ≤ w.drawn) : n ≤ (resW r).drawn := by
  have h1 := Sem.runT_fst p s w es
  rw [e] at h1
  simp only at h1
  rw [h1]
  exact Nat.le_trans h (run_drawn p s w)
theorem runT_fst_of {r : Result α} (e : (s.runT p w es).1 = r) (h : n ≤ w.drawn) : n ≤ (resW r).drawn := by
  rw [Sem.runT_fst] at e
  rw [← e]
  exact Nat.le_trans h (run_drawn p s w)
theorem runT_ge (es : Array Event) (h : n ≤ w.drawn) : n ≤ (resW (s.runT p w es).1).drawn := by
  rw [Sem.runT_fst]; exact Nat.le_trans h (run_drawn p s w)
end

/-- The count of draws behind a goroutine's step is at least n (where the run goes on). -/
def gge (n : Nat) : GStep → Prop
  | .go _ w _ => n ≤ w.drawn
  | .comm _ _ _ _ w _ => n ≤ w.drawn
  | .spawn _ _ w _ => n ≤ w.drawn
  | .count _ w _ => n ≤ w.drawn
  | .timer _ _ w _ => n ≤ w.drawn
  | .alone _ _ w _ => n ≤ w.drawn
  | .newcoro _ _ _ w _ => n ≤ w.drawn
  | .coroswitch _ _ _ w _ => n ≤ w.drawn
  | .collect _ w _ => n ≤ w.drawn
  | .watch _ w _ => n ≤ w.drawn
  | .ended _ _ _ => True
theorem gge_after {n : Nat} {es : Array Event} {g : GStep} (h : gge n g) : gge n (g.after es) := by
  cases g <;> exact h

theorem gge_ite {n : Nat} {c : Prop} [Decidable c] {a b : GStep} (ha : gge n a) (hb : gge n b) : gge n (if c then a else b) := by
  split
  · exact ha
  · exact hb

section
variable {p : Program} {n : Nat} {w : World}
theorem endWith_gge (fd : Nat) (t : ByteArray) (o : Outcome) : gge n (endWith w fd t o) := by
  unfold endWith
  simp only
  repeat' split
  all_goals exact trivial
theorem endThrow_gge {fr : Frame} {m : String} (h : n ≤ w.drawn) : gge n (endThrow fr m w) := h
theorem dieOf_gge {fr : Frame} {a : List ByteArray} {m : String} {b : Bool} (h : n ≤ w.drawn) : gge n (dieOf fr a m b w) := h
theorem endPrinting_gge {fr : Frame} {v : Value} (h : n ≤ w.drawn) : gge n (endPrinting p fr v w) := by
  unfold endPrinting
  simp only
  split
  · exact endThrow_gge h
  · exact trivial
theorem endFatal_gge {fr : Frame} {cs : List Frame} {d : Option Dying} {m : String} (h : n ≤ w.drawn) : gge n (endFatal p fr cs d m w) := by
  unfold endFatal
  simp only
  split
  · next e => exact dieOf_gge (run_ok e h)
  · exact trivial
  · exact trivial
theorem doReturn_gge {main : Bool} {fr : Frame} {cs : List Frame} {d : Option Dying} {v : Value} (h : n ≤ w.drawn) : gge n (doReturn p main fr cs d v w) := by
  unfold doReturn
  simp only
  repeat' split
  all_goals first | exact trivial | exact h
theorem callDeferred_gge {fr : Frame} {cs : List Frame} {dy : Option Dying} {d : Deferred} (h : n ≤ w.drawn) : gge n (callDeferred p fr cs dy d w) := by
  unfold callDeferred
  refine gge_ite trivial ?_
  · have hr := runT_ge (p := p) (s := invoke d.target d.args) #[] h
    generalize (invoke d.target d.args).runT p w #[] = r at hr ⊢
    obtain ⟨r, es⟩ := r
    simp only at hr ⊢
    refine gge_after ?_
    repeat' split
    all_goals first | exact trivial | exact hr | exact endFatal_gge hr
theorem unwind_gge {main : Bool} {fr : Frame} {cs : List Frame} {dy : Option Dying} (h : n ≤ w.drawn) : gge n (unwind p main fr cs dy w) := by
  unfold unwind
  split
  · next block _ _ _ =>
    have hr := runT_ge (p := p) (s := Instr.takeDeferred block) #[] h
    generalize (Instr.takeDeferred block).runT p w #[] = r at hr ⊢
    obtain ⟨r, es⟩ := r
    simp only at hr ⊢
    refine gge_after ?_
    split
    · exact hr
    · exact trivial
  · exact callDeferred_gge h
  · split
    · exact trivial
    · split
      · exact trivial
      · split
        · exact h
        · split
          · split
            · exact h
            · split
              · next e => exact run_ok e h
              · exact trivial
              · exact trivial
          · split
            · exact endPrinting_gge h
            · exact trivial
    · split
      · exact doReturn_gge h
      · next fn _ =>
        have hr := runT_ge (p := p) (s := results fn fr.tmps) #[] h
        generalize (results fn fr.tmps).runT p w #[] = r at hr ⊢
        obtain ⟨r, es⟩ := r
        simp only at hr ⊢
        refine gge_after ?_
        split
        · exact doReturn_gge hr
        · exact trivial
        · exact trivial
theorem early_gge {fr : Frame} {cs : List Frame} {dy : Option Dying} {g : Nat} (h : n ≤ w.drawn) : gge n (early p fr cs dy g w) := by
  have hn : ∀ w : World, n ≤ w.drawn → gge n (match w.heap[g]? with
    | some (.pending c elem) => .go { frame := fr, callers := cs, status := .running, dying := dy } { w with heap := w.heap.setIfInBounds g (.cells c elem) }
    | _ => .ended (.stuck "early: the variable does not wait" (fr.pos p)) w) := by
    intro w h
    split
    · exact h
    · exact trivial
  unfold early
  simp only
  repeat' split
  all_goals first | exact trivial | exact h | exact hn _ h | (rename_i w1 e _ _ _ _; exact (run_ok (w' := w1) e h)) | exact (run_ok (s := choose (.early g)) (by assumption) h)

theorem writeOn_gge {fr : Frame} {d : Dying} {f : Fatal} (h : n ≤ w.drawn) : gge n (writeOn p fr d f w) := by
  unfold writeOn
  simp only
  split
  · exact trivial
  · split
    · next e => exact runT_of e h
    · next e => exact runT_of e h
    · exact trivial
    · exact trivial
theorem die_gge {fr : Frame} {d : Dying} (h : n ≤ w.drawn) : gge n (die p fr d w) := by
  unfold die
  split
  · exact writeOn_gge h
  · simp only
    split
    · refine gge_ite h ?_
      exact endWith_gge _ _ _
    · split
      · exact h
      · split
        · next e => exact run_ok e h
        · exact trivial
      · next t recv name _ =>
        have hr := runT_ge (p := p) (s := invoke (.fn (.method name) #[]) #[.iface t recv]) #[] h
        generalize (invoke (.fn (.method name) #[]) #[.iface t recv]).runT p w #[] = r at hr ⊢
        obtain ⟨r, es⟩ := r
        simp only at hr ⊢
        refine gge_after ?_
        split
        all_goals first | exact trivial | exact hr | exact endPrinting_gge hr
      · exact trivial
theorem apply_gge {listen : Bool} {fr : Frame} {cs : List Frame} {dy : Option Dying} {s : Sem Next} (h : n ≤ w.drawn) : gge n (stepG.apply p listen fr cs dy s w) := by
  unfold stepG.apply
  have hr : n ≤ (resW (if listen then s.runT p w #[] else (s.run p w, #[])).1).drawn := by
    split
    · exact runT_ge #[] h
    · exact Nat.le_trans h (run_drawn p s w)
  generalize (if listen then s.runT p w #[] else (s.run p w, #[])) = r at hr ⊢
  obtain ⟨r, es⟩ := r
  simp only at hr ⊢
  refine gge_after ?_
  repeat' split
  all_goals first | exact trivial | exact hr | exact endFatal_gge hr | exact early_gge hr | exact endThrow_gge hr | skip
theorem oper_gge {listen : Bool} {fr : Frame} {cs : List Frame} {dy : Option Dying} (h : n ≤ w.drawn) : gge n (stepG.oper p listen fr cs dy w) := by
  unfold stepG.oper
  split
  · exact trivial
  · split
    · exact apply_gge h
    · exact apply_gge h
theorem exec_gge {main listen : Bool} {fr : Frame} {cs : List Frame} {dy : Option Dying} (h : n ≤ w.drawn) : gge n (stepG.exec p main listen fr cs dy w) := by
  unfold stepG.exec
  simp only
  split
  · (split
     · first | exact gge_ite h trivial | exact trivial | exact h
     · refine gge_after ?_
       split
       · next e => exact doReturn_gge (runT_fst_of e h)
       · exact trivial)
  · (split
     · first | exact gge_ite h trivial | exact trivial | exact h
     · refine gge_after ?_
       split
       · next e => exact doReturn_gge (runT_fst_of e h)
       · exact trivial)
  · exact h
  · exact h
  · exact h
  · exact h
  · exact h
  · split
    · exact h
    · exact trivial
  · exact h
  · exact h
  · exact h
  · exact h
  · unfold Option.elim
    split
    · exact h
    · (split
       · first | exact gge_ite h trivial | exact trivial | exact h
       · refine gge_after ?_
         split
         · next e => exact doReturn_gge (runT_fst_of e h)
         · exact trivial)
  · unfold Option.elim
    split
    · exact h
    · (split
       · first | exact gge_ite h trivial | exact trivial | exact h
       · refine gge_after ?_
         split
         · next e => exact doReturn_gge (runT_fst_of e h)
         · exact trivial)
  · refine gge_after ?_
    split
    · next e => exact apply_gge (runT_fst_of e h)
    · exact trivial
  · exact trivial
  · exact apply_gge h
  · refine gge_after ?_
    split
    · next e => exact runT_fst_of e h
    · next e => exact runT_fst_of e h
    · exact trivial
  · exact trivial
  · exact apply_gge h
  · unfold Option.elim
    split
    · exact apply_gge h
    · exact trivial
  · refine gge_ite h ?_
    split
    · next e => exact run_ok e h
    · exact trivial
  · exact h
  · refine gge_ite (oper_gge h) h
theorem stepG_gge {main listen : Bool} {g : Goroutine} (h : n ≤ w.drawn) : gge n (stepG p main g w listen) := by
  unfold stepG
  simp only
  split
  · exact die_gge h
  · exact exec_gge h
  · exact unwind_gge h

/-- The same of a step of the machine. -/
def sge (n : Nat) : Stepped → Prop
  | .next m => n ≤ m.world.drawn
  | .ended _ _ => True
theorem sge_ite {n : Nat} {c : Prop} [Decidable c] {a b : Stepped} (ha : sge n a) (hb : sge n b) : sge n (if c then a else b) := by
  split
  · exact ha
  · exact hb
theorem waitingAt_drawn {rest : Rest} {cases' : Array CommCase} {w w' : World} (h : waitingAt rest cases' w = some w') : w'.drawn = w.drawn := by
  unfold waitingAt at h
  split at h
  · split at h
    · injection h with h; subst h; rfl
    · cases h
  · injection h with h; subst h; rfl
theorem communicate_sge {rest : Rest} {gs : Array Goroutine} {i : Nat} {g : Goroutine} {cases' : Array CommCase} {blocking : Bool} {shape : CommShape} (h : n ≤ w.drawn) : sge n (communicate p rest gs i g cases' blocking shape w).1 := by
  unfold communicate
  simp only
  split
  · exact trivial
  · split
    · split
      · split
        · next e => show n ≤ _; rw [waitingAt_drawn e]; exact h
        · exact trivial
      · exact h
    · split
      · exact trivial
      · next e =>
        have h1 := run_ok e h
        split
        · split
          · next e2 => exact run_halt e2 h1
          · exact trivial
        · exact h1
        · exact h1
        · split
          · exact h1
          · split
            · next e2 => have h2 := run_ok e2 h1; exact h2
            · exact trivial
        · exact h1
        · exact h1
        · exact trivial
theorem look_sge {gs : Array Goroutine} {rest : Rest} (h : n ≤ w.drawn) : sge n (look p gs rest w) := by
  unfold look
  split
  · simp only
    refine sge_ite trivial ?_
    split
    · exact trivial
    · split
      · next e => have h2 := run_ok e h; exact h2
      · exact trivial
      · exact trivial
  · exact trivial
theorem drain_drawn (w : World) (c : Nat) : (drain w c).2.drawn = w.drawn := by
  unfold drain
  split <;> rfl
theorem retime_drawn (m : Machine) (k : Nat) (t : Timer) (a b : Nat) : (retime m k t a b).2.world.drawn = m.world.drawn := by
  unfold retime
  simp only
  cases t.chan
  · rfl
  · exact drain_drawn _ _
theorem timerOp_drawn {m m' : Machine} {op : TimerOp} {v : Value} (h : timerOp m op = .ok (v, m')) : m'.world.drawn = m.world.drawn := by
  have hn : ∀ (m0 : Machine) (var : Addr) (f : Nat → Timer → Value × Machine), (∀ k t, (f k t).2.world.drawn = m.world.drawn) → timerOp.named m0 var f = .ok (v, m') → m'.world.drawn = m.world.drawn := by
    intro m0 var f hf h
    unfold timerOp.named at h
    split at h
    · next c _ =>
      injection h with h
      have := hf c (m0.rest.timers.getD c default)
      rw [h] at this
      exact this
    · cases h
  cases op with
  | new t =>
    simp only [timerOp] at h
    split at h
    · injection h with h; injection h with _ h; subst h; rfl
    · split at h
      · split at h
        · cases h
        · injection h with h; injection h with _ h; subst h; rfl
      · cases h
  | stop var => exact hn _ _ _ (fun k t => retime_drawn m k t _ _) h
  | reset var when period =>
    simp only [timerOp] at h
    split at h
    · next m1 he =>
      refine hn _ _ _ (fun k t => ?_) h
      rw [retime_drawn]
      unfold timerOp.opened at he
      split at he
      · split at he
        · injection he with he; subst he; rfl
        · cases he
      · injection he with he; subst he; rfl
    · cases h
  | deadline ctx read write when =>
    simp only [timerOp] at h
    injection h with h; injection h with _ h; subst h; rfl
theorem runT_sge {m : Machine} {i : Nat} {listen : Bool} (h : n ≤ m.world.drawn) : sge n (runT p m i listen).1 := by
  unfold runT
  simp only
  have hg : ∀ (g : Goroutine), gge n (stepG p (i == 0) g m.world listen) := fun g => stepG_gge h
  generalize (m.gs.swapAt! i _) = gg
  obtain ⟨g, gs⟩ := gg
  simp only
  have hs := hg g
  generalize stepG p (i == 0) g m.world listen = s at hs ⊢
  cases s with
  | ended o w es => exact trivial
  | comm g' cases' b sh w es => exact communicate_sge hs
  | go g' w es => exact hs
  | spawn g' c w es => exact hs
  | count g' w es =>
    simp only
    exact sge_ite trivial hs
  | alone g' on w es => exact hs
  | collect g' w es => exact look_sge hs
  | watch g' w es => exact hs
  | newcoro g' c d w es => exact hs
  | coroswitch g' c e w es =>
    simp only
    split
    · exact hs
    · split
      · next e2 => simp only [endThrow, dieOf] at e2; injection e2 with _ e2; rw [← e2]; exact hs
      · exact trivial
    · exact trivial
  | timer g' op w es =>
    simp only
    split
    · next e2 => show n ≤ _; rw [timerOp_drawn e2]; exact hs
    · split
      · next e2 => simp only [endThrow, dieOf] at e2; injection e2 with _ e2; rw [← e2]; exact hs
      · exact trivial
    · exact trivial
    · exact trivial
theorem serve_sge {m : Machine} {k : Nat} (h : n ≤ m.world.drawn) : sge n (serve p m k) := by
  unfold serve
  split
  · exact trivial
  · exact h
  · simp only
    split
    · exact trivial
    · exact h

/-- The same of what the machine does next. -/
def mge (n : Nat) : Move → Prop
  | .goroutine m _ => n ≤ m.world.drawn
  | .machine s _ => sge n s
theorem mge_ite {n : Nat} {c : Prop} [Decidable c] {a b : Move} (ha : mge n a) (hb : mge n b) : mge n (if c then a else b) := by
  split
  · exact ha
  · exact hb
theorem askOn_mge {m : Machine} (h : n ≤ m.world.drawn) : mge n (askOn p m) := by
  unfold askOn
  simp only
  split
  · exact trivial
  · next e =>
    have h1 := run_ok e h
    refine mge_ite (serve_sge h1) ?_
    split
    · split
      · exact h1
      · refine mge_ite h1 ?_
        split
        · exact trivial
        · exact trivial
    · split
      · (split
         · exact trivial
         · next e3 =>
           have h3 := run_ok e3 h1
           refine mge_ite h3 ?_
           split
           · exact trivial
           · next e4 => have h4 := run_ok e4 h3; exact h4)
      · split
        · exact trivial
        · next e2 =>
          have h2 := run_ok e2 h1
          (split
           · exact trivial
           · next e3 =>
             have h3 := run_ok e3 h2
             refine mge_ite h3 ?_
             split
             · exact trivial
             · next e4 => have h4 := run_ok e4 h3; exact h4)
        · next e2 => have h2 := run_ok e2 h1; exact h2
        · next e2 =>
          have h2 := run_ok e2 h1
          (split
           · exact trivial
           · next e3 =>
             have h3 := run_ok e3 h2
             refine mge_ite h3 ?_
             split
             · exact trivial
             · next e4 => have h4 := run_ok e4 h3; exact h4)
theorem ask_mge {m : Machine} (h : n ≤ m.world.drawn) : mge n (ask p m) := by
  unfold ask
  split
  · split
    · exact trivial
    · next e =>
      have h1 := run_ok e h
      have h2 := look_sge (p := p) (gs := m.gs) (rest := m.rest) h1
      split
      · next e2 => rw [e2] at h2; exact askOn_mge h2
      · exact h2
    · next e => have h1 := run_ok e h; exact askOn_mge h1
  · exact askOn_mge h
theorem move_mge {m : Machine} (h : n ≤ m.world.drawn) : mge n (move p m) := by
  unfold move
  split
  · exact mge_ite h trivial
  · split
    · exact mge_ite h (ask_mge h)
    · exact ask_mge h
theorem step_sge {m : Machine} (h : n ≤ m.world.drawn) : sge n (step p m) := by
  unfold step stepT
  have := move_mge (p := p) h
  split
  · next e => rw [e] at this; exact runT_sge this
  · next e => rw [e] at this; exact this
theorem runN_sge : ∀ (k : Nat) {m : Machine}, n ≤ m.world.drawn → sge n (runN p k m)
  | 0, _, h => h
  | k + 1, m, h => by
    unfold runN
    have := step_sge (p := p) h
    split
    · next e => rw [e] at this; exact runN_sge k this
    · exact this
theorem steps_drawn {m m' : Machine} (h : Steps p m m') : m.world.drawn ≤ m'.world.drawn := by
  obtain ⟨k, hk⟩ := h
  have := runN_sge (p := p) k (Nat.le_refl m.world.drawn)
  rw [hk] at this
  exact this
end

/-- A call that returns has not drawn back. -/
theorem calls_drawn {P : Program} {f : FuncId} {args : Array Value} {w : World} {R : Ending → World → Prop} (h : Calls P f args w R) (hR : ∀ w', ¬ R .outgrown w') :
    Calls P f args w fun e w' => R e w' ∧ w.drawn ≤ w'.drawn := by
  intro cs
  obtain ⟨e, w', fr, hr, hc, hf, hl⟩ := h cs
  refine ⟨e, w', fr, ⟨hr, ?_⟩, hc, hf, hl⟩
  cases e with
  | returned v => exact steps_drawn (m := lone (Frame.enter P f args .normal) cs w) (m' := lone fr cs w') hc
  | panicked c => exact steps_drawn (m := lone (Frame.enter P f args .normal) cs w) (m' := lone fr cs w') hc
  | outgrown => exact absurd hr (hR w')

end Go.Proofs.YtnibcffcbnjllaaGreatDoor
