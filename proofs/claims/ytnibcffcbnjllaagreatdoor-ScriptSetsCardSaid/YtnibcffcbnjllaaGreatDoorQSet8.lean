/- ScriptSets returns true at every input; conditions: none but the row's own (its listed tables hold what the program's text lays). -/
import Derived.Test.YtnibcffcbnjllaaGreatDoorQSet4
import Derived.Test.YtnibcffcbnjllaaGreatDoorQOpen1
namespace Go.Proofs.YtnibcffcbnjllaaGreatDoor
open Go.RowKit Go.ChangeShapes Go.WideShapes Go.Deep Go.Joins

set_option maxRecDepth 100000 in
theorem sets_calls {H : Type} {enc : TypeId × Value → H} (W : World) (base : Nat) (args : Array Value) (ds gs : List (DataW H)) (before : List MemPlace)
    (hval0 : ∀ (j : Nat) t v, Tryz.f5.params[j]? = some t → args[j]? = some v → Value.okWide Tryz.prog W .any base t v)
    (hW : DataW.Whole enc Tryz.prog Tryz.f5.params.toList Rows.scriptSetsSpec.vars false W args.toList ds gs before)
    (hsz0 : (DataW.weightsEach Tryz.prog (Tryz.f5.params.toList ++ Rows.scriptSetsSpec.plain.varTypes Tryz.prog) (ds ++ gs)).all (· ≤ reachBytes) = true)
    (hL : laidMetH Tryz.prog laid3 W) (hsh : W.ShapedOpen Tryz.prog) :
    Calls Tryz.prog 5 args W fun e W' => ∃ v, e = .returned v ∧ Rows.scriptSetsSpec.post enc Tryz.prog Tryz.f5 false true false false W args v W' := by
  have hval := hval0
  have hsz := hsz0
  have hW' := hW
  obtain ⟨p, q, hA, hV0, rfl, _, _⟩ := hW
  rw [Tryz.params5] at hA hval hsz
  obtain ⟨v0, v1, v2, d0, d1, d2, p0, p1, p2, rfl, rfl, rfl, h0, h1, h2⟩ := trodAll_three hA
  obtain ⟨rfl, rfl⟩ := trodVars_none hV0
  clear hV0 hval0 hsz0
  simp only [List.append_nil] at hW' hsz
  have hlt : ∀ x ∈ p0 ++ p1 ++ p2, x.block < W.heap.size := fun x hx => by simpa using hW'.lt x hx
  have hf0 : Fits 47 d0 := fun k hk => by
    have := List.all_eq_true.1 hsz k (DataW.weights_mem_each (t := 47) (j := 0) rfl rfl k hk)
    simpa using this
  have hf1 : Fits 47 d1 := fun k hk => by
    have := List.all_eq_true.1 hsz k (DataW.weights_mem_each (t := 47) (j := 1) rfl rfl k hk)
    simpa using this
  have hf2 : Fits 47 d2 := fun k hk => by
    have := List.all_eq_true.1 hsz k (DataW.weights_mem_each (t := 47) (j := 2) rfl rfl k hk)
    simpa using this
  obtain ⟨A, A', n0, m0, c0, e0, zs, ls, rfl, hr0, hr0', hn0, hm0, hx0⟩ := op_without (hval 0 47 v0 rfl rfl) hf0 h0
  obtain ⟨B, B', n1, m1, c1, e1, xs, ns, rfl, hr1, hr1', hn1, hm1, hx1⟩ := op_without (hval 1 47 v1 rfl rfl) hf1 h1
  obtain ⟨C, C', n2, m2, c2, e2, ys, ms, rfl, hr2, hr2', hn2, hm2, hx2⟩ := op_without (hval 2 47 v2 rfl rfl) hf2 h2
  have hok := ok_of hsh hL
  obtain rfl := hr0.len1
  obtain rfl := hr0'.len1
  obtain rfl := hr1.len1
  obtain rfl := hr1'.len1
  obtain rfl := hr2.len1
  obtain rfl := hr2'.len1
  refine (ScriptSets_any knows (zs, ls) (xs, ns) (ys, ms) A A' B B' C C' c0 e0 c1 e1 c2 e2 W hok ⟨hr0, hr0'⟩ ⟨hr1, hr1'⟩ ⟨hr2, hr2'⟩ hx0 hx1 hx2 hn0 hm0 hn1 hm1 hn2 hm2).mono ?_
  rintro e W' ⟨rfl, bel⟩
  have eq1 : Rows.scriptSetsSpec.fn H ([d0, d1, d2] ++ []) = { results := [.lit (.bool true)], args := [d0, d1, d2] } := rfl
  refine ⟨_, rfl, _, _, _, [], p0 ++ p1 ++ p2, [], hW', ?_, ?_, ?_, bel.frame _, fun h => by cases h⟩
  · rw [eq1]; exact trodAll_mk1 (shut_bool Tryz.underlying4 true)
  · rw [eq1, Tryz.params5, List.append_assoc]; exact trodAll_mk3 (Below.trod Tryz.laidOut (by kernel_rfl) (of_decide_eq_true (by kernel_rfl)) h0 bel (fun x hx => hlt x (by simp [hx]))) (Below.trod Tryz.laidOut (by kernel_rfl) (of_decide_eq_true (by kernel_rfl)) h1 bel (fun x hx => hlt x (by simp [hx]))) (Below.trod Tryz.laidOut (by kernel_rfl) (of_decide_eq_true (by kernel_rfl)) h2 bel (fun x hx => hlt x (by simp [hx])))
  · rw [eq1]; rfl

theorem sets_witness (os : Os) {H : Type} (enc : TypeId × Value → H) : ∃ (w : World) (tape : Tape) (i : Input), w.os = os ∧ (w.forCall tape i).Shaped Tryz.prog ∧ i.vars = [] ∧ Input.okWide Tryz.prog (w.forCall tape i) .any w.heap.size 5 i ∧
      ((Rows.scriptSetsSpec.pre enc Tryz.prog Tryz.f5 [] false (w.forCall tape i).memory i.args ∧ laidMetH Tryz.prog laid3 (w.forCall tape i).memory) ∧ sizedMet enc Tryz.prog Tryz.f5 (OpenSpec.ofChange Rows.scriptSetsSpec) false (w.forCall tape i).memory i.args) ∧ ({ modest := false } : Assume).holds Tryz.prog (lone (Frame.enter Tryz.prog 5 i.args .normal) [] (w.forCall tape i)) :=
  ChangeSpec.witness_shaped (enc := enc) (C := Tryz.checked) (os := os) (X := fun w _ => laidMetH Tryz.prog laid3 w) false (World.doorLaid Tryz.prog 72 os) #[.agg #[.slice none 0 0, .slice none 0 0], .agg #[.slice none 0 0, .slice none 0 0], .agg #[.slice none 0 0, .slice none 0 0]] 8 rfl (World.shaped_of_RefB (by kernel_rfl) (by kernel_rfl)) (by kernel_rfl) (by kernel_rfl) (by kernel_rfl) (door_met os _)

theorem sets_lifted (os : Os) (started : os.Started) (H : Type) (enc : TypeId × Value → H) :
    ReturnsInHanded {} Tryz.checked os 5 .any (fun w args => (Rows.scriptSetsSpec.pre enc Tryz.prog Tryz.f5 [] false w args ∧ laidMetH Tryz.prog laid3 w) ∧ sizedMet enc Tryz.prog Tryz.f5 (OpenSpec.ofChange Rows.scriptSetsSpec) false w args)
      (Rows.scriptSetsSpec.post enc Tryz.prog Tryz.f5 false true false false) :=
  handed_change (C := Tryz.checked) (s := Rows.scriptSetsSpec) (conds := []) (laid := laid3) Tryz.own started (by kernel_rfl) Tryz.func5 (sets_witness os enc) sets_calls

theorem sets_said : Rows.ScriptSetsSaid :=
  OpenClaim.holds_of_wide 5 Tryz.f5 rfl rfl rfl rfl rfl rfl rfl ⟨rfl, rfl, rfl, rfl, rfl⟩ rfl rfl rfl rfl rfl (by kernel_rfl) Tryz.func5 (by kernel_rfl)
    (of_decide_eq_true (by kernel_rfl)) (by unfold Func.isWrapper; rw [if_neg (of_decide_eq_false (by kernel_rfl))]; exact ⟨rfl, rfl⟩)
    (fun os started H enc _ => sets_lifted os started H enc)

theorem scriptSets_card : Rows.ScriptSetsCardSaid :=
  Claim7.holds_tied_plain_at .later [] [.data, .data, .data] true (true, "013b36efc573d51d57afda0f9ff0711062f93413d77b37c481fc0b42ceae8e1d") true
    sets_said (fun _ h => by cases h) (by kernel_rfl) (fun _ h => by cases h) scriptSets_row_tie rfl ⟨rfl, rfl⟩ (by kernel_rfl) rfl
    (fun f fn hf hfn => by
      obtain rfl : f = 5 := Option.some.inj ((show Tryz.prog.funcNamed "replevin/replevinlaw44.ScriptSets" = some 5 by kernel_rfl).symm.trans hf) |>.symm
      obtain rfl : fn = Tryz.f5 := (Option.some.inj (Tryz.func5.symm.trans hfn)).symm
      exact ⟨by kernel_rfl, fun j t ht => by
        rw [Tryz.params5] at ht
        have hm : t ∈ [47, 47, 47] := by simpa using Array.mem_of_getElem? ht
        have hall : ([47, 47, 47].all fun u => !Tryz.prog.wantsStandIn u) = true := by kernel_rfl
        exact (show Tryz.prog.wantsStandIn t = false by simpa using List.all_eq_true.1 hall t hm)⟩)
    (by kernel_rfl)
#print axioms scriptSets_card

end Go.Proofs.YtnibcffcbnjllaaGreatDoor
