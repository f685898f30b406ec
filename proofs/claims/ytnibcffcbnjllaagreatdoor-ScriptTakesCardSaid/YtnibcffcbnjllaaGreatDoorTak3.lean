/- ScriptTakes returns true at every input; conditions: none but the row's own (its listed tables hold what the program's text lays). -/
import Derived.Test.YtnibcffcbnjllaaGreatDoorTak2
import Derived.Test.YtnibcffcbnjllaaGreatDoorPar3
namespace Go.Proofs.YtnibcffcbnjllaaGreatDoor
open Go.RowKit Go.ChangeShapes Go.WideShapes Go.Deep Go.Joins

set_option maxRecDepth 100000 in
theorem takes_calls {H : Type} {enc : TypeId × Value → H} (W : World) (base : Nat) (args : Array Value) (ds gs : List (DataW H)) (before : List MemPlace)
    (hval0 : ∀ (j : Nat) t v, Tryz.f4.params[j]? = some t → args[j]? = some v → Value.okWide Tryz.prog W .any base t v)
    (hW : DataW.Whole enc Tryz.prog Tryz.f4.params.toList Rows.scriptTakesSpec.vars false W args.toList ds gs before)
    (hsz0 : (DataW.weightsEach Tryz.prog (Tryz.f4.params.toList ++ Rows.scriptTakesSpec.plain.varTypes Tryz.prog) (ds ++ gs)).all (· ≤ reachBytes) = true)
    (hL : laidMetH Tryz.prog laid3 W) (hsh : W.ShapedOpen Tryz.prog) :
    Calls Tryz.prog 4 args W fun e W' => ∃ v, e = .returned v ∧ Rows.scriptTakesSpec.post enc Tryz.prog Tryz.f4 false true false false W args v W' := by
  have hval := hval0
  have hsz := hsz0
  have hW' := hW
  obtain ⟨p, q, hA, hV0, rfl, _, _⟩ := hW
  rw [Tryz.params4] at hA hval hsz
  obtain ⟨v0, v1, v2, d0, d1, d2, p0, p1, p2, rfl, rfl, rfl, h0, h1, h2⟩ := trodAll_three hA
  obtain ⟨rfl, rfl⟩ := trodVars_none hV0
  clear hV0 hval0 hsz0
  simp only [List.append_nil] at hW' hsz
  have hlt : ∀ x ∈ p0 ++ p1 ++ p2, x.block < W.heap.size := fun x hx => by simpa using hW'.lt x hx
  have hf0 : Fits 25 d0 := fun k hk => by
    have := List.all_eq_true.1 hsz k (DataW.weights_mem_each (t := 25) (j := 0) rfl rfl k hk)
    simpa using this
  have hf1 : Fits 47 d1 := fun k hk => by
    have := List.all_eq_true.1 hsz k (DataW.weights_mem_each (t := 47) (j := 1) rfl rfl k hk)
    simpa using this
  have hf2 : Fits 47 d2 := fun k hk => by
    have := List.all_eq_true.1 hsz k (DataW.weights_mem_each (t := 47) (j := 2) rfl rfl k hk)
    simpa using this
  obtain ⟨S, A, A', n, m, c, d', rfl, hS, b1, b2, b3⟩ := op_script (hval 0 25 v0 rfl rfl) hf0 h0
  obtain ⟨B, B', n1, m1, c1, e1, xs, ns, rfl, hr1, hr1', hn1, hm1, hx1⟩ := op_without (hval 1 47 v1 rfl rfl) hf1 h1
  obtain ⟨C, C', n2, m2, c2, e2, ys, ms, rfl, hr2, hr2', hn2, hm2, hx2⟩ := op_without (hval 2 47 v2 rfl rfl) hf2 h2
  have hok := ok_of hsh hL
  refine (ScriptTakes_any knows S A A' n m c d' B B' n1 c1 m1 e1 xs ns C C' n2 c2 m2 e2 ys ms W hok hS b1 b2 b3 hr1 hr1' hn1 hm1 hx1 hr2 hr2' hn2 hm2).mono ?_
  rintro e W' ⟨rfl, bel⟩
  have eq1 : Rows.scriptTakesSpec.fn H ([d0, d1, d2] ++ []) = { results := [.lit (.bool true)], args := [d0, d1, d2] } := rfl
  refine ⟨_, rfl, _, _, _, [], p0 ++ p1 ++ p2, [], hW', ?_, ?_, ?_, bel.frame _, fun h => by cases h⟩
  · rw [eq1]; exact trodAll_mk1 (shut_bool Tryz.underlying4 true)
  · rw [eq1, Tryz.params4, List.append_assoc]; exact trodAll_mk3 (Below.trod Tryz.laidOut (by kernel_rfl) (of_decide_eq_true (by kernel_rfl)) h0 bel (fun x hx => hlt x (by simp [hx]))) (Below.trod Tryz.laidOut (by kernel_rfl) (of_decide_eq_true (by kernel_rfl)) h1 bel (fun x hx => hlt x (by simp [hx]))) (Below.trod Tryz.laidOut (by kernel_rfl) (of_decide_eq_true (by kernel_rfl)) h2 bel (fun x hx => hlt x (by simp [hx])))
  · rw [eq1]; rfl

theorem takes_witness (os : Os) {H : Type} (enc : TypeId × Value → H) : ∃ (w : World) (tape : Tape) (i : Input), w.os = os ∧ (w.forCall tape i).Shaped Tryz.prog ∧ i.vars = [] ∧ Input.okWide Tryz.prog (w.forCall tape i) .any w.heap.size 4 i ∧
      ((Rows.scriptTakesSpec.pre enc Tryz.prog Tryz.f4 [] false (w.forCall tape i).memory i.args ∧ laidMetH Tryz.prog laid3 (w.forCall tape i).memory) ∧ sizedMet enc Tryz.prog Tryz.f4 (OpenSpec.ofChange Rows.scriptTakesSpec) false (w.forCall tape i).memory i.args) ∧ ({ modest := false } : Assume).holds Tryz.prog (lone (Frame.enter Tryz.prog 4 i.args .normal) [] (w.forCall tape i)) :=
  ChangeSpec.witness_shaped (enc := enc) (C := Tryz.checked) (os := os) (X := fun w _ => laidMetH Tryz.prog laid3 w) false (World.doorLaid Tryz.prog 72 os) #[.agg #[.int .i64 0, .int .i64 0, .int .i64 0, .slice none 0 0, .slice none 0 0], .agg #[.slice none 0 0, .slice none 0 0], .agg #[.slice none 0 0, .slice none 0 0]] 8 rfl (World.shaped_of_RefB (by kernel_rfl) (by kernel_rfl)) (by kernel_rfl) (by kernel_rfl) (by kernel_rfl) (door_met os _)

theorem takes_lifted (os : Os) (started : os.Started) (H : Type) (enc : TypeId × Value → H) :
    ReturnsInHanded {} Tryz.checked os 4 .any (fun w args => (Rows.scriptTakesSpec.pre enc Tryz.prog Tryz.f4 [] false w args ∧ laidMetH Tryz.prog laid3 w) ∧ sizedMet enc Tryz.prog Tryz.f4 (OpenSpec.ofChange Rows.scriptTakesSpec) false w args)
      (Rows.scriptTakesSpec.post enc Tryz.prog Tryz.f4 false true false false) :=
  handed_change (C := Tryz.checked) (s := Rows.scriptTakesSpec) (conds := []) (laid := laid3) Tryz.own started (by kernel_rfl) Tryz.func4 (takes_witness os enc) takes_calls

theorem takes_said : Rows.ScriptTakesSaid :=
  OpenClaim.holds_of_wide 4 Tryz.f4 rfl rfl rfl rfl rfl rfl rfl ⟨rfl, rfl, rfl, rfl, rfl⟩ rfl rfl rfl rfl rfl (by kernel_rfl) Tryz.func4 (by kernel_rfl)
    (of_decide_eq_true (by kernel_rfl)) (by unfold Func.isWrapper; rw [if_neg (of_decide_eq_false (by kernel_rfl))]; exact ⟨rfl, rfl⟩)
    (fun os started H enc _ => takes_lifted os started H enc)

theorem scriptTakes_card : Rows.ScriptTakesCardSaid :=
  Claim7.holds_tied_plain_at .later [] [.data, .data, .data] true (true, "013b36efc573d51d57afda0f9ff0711062f93413d77b37c481fc0b42ceae8e1d") true
    takes_said (fun _ h => by cases h) (by kernel_rfl) (fun _ h => by cases h) scriptTakes_row_tie rfl ⟨rfl, rfl⟩ (by kernel_rfl) rfl
    (fun f fn hf hfn => by
      obtain rfl : f = 4 := Option.some.inj ((show Tryz.prog.funcNamed "replevin/replevinlaw44.ScriptTakes" = some 4 by kernel_rfl).symm.trans hf) |>.symm
      obtain rfl : fn = Tryz.f4 := (Option.some.inj (Tryz.func4.symm.trans hfn)).symm
      exact ⟨by kernel_rfl, fun j t ht => by
        rw [Tryz.params4] at ht
        have hm : t ∈ [25, 47, 47] := by simpa using Array.mem_of_getElem? ht
        have hall : ([25, 47, 47].all fun u => !Tryz.prog.wantsStandIn u) = true := by kernel_rfl
        exact (show Tryz.prog.wantsStandIn t = false by simpa using List.all_eq_true.1 hall t hm)⟩)
    (by kernel_rfl)
#print axioms scriptTakes_card

end Go.Proofs.YtnibcffcbnjllaaGreatDoor
