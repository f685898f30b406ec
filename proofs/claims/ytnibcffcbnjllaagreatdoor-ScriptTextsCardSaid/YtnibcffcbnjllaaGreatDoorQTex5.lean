/- ScriptTexts returns true at every input; conditions: none but the row's own (its listed variables hold what the program's text lays). -/
import Derived.Lay
import Derived.ChangeMaps5
import Derived.Test.YtnibcffcbnjllaaGreatDoorQTex3
import Derived.Test.YtnibcffcbnjllaaGreatDoorQPar3
namespace Go.Proofs.YtnibcffcbnjllaaGreatDoor
open Go.RowKit Go.ChangeShapes Go.WideShapes Go.Deep Go.Joins

def laid7 : List (String × DataW Unit) := [("math/bits.deBruijn32tab", Rows.laid_math_bits_deBruijn32tab), ("math/bits.deBruijn64tab", Rows.laid_math_bits_deBruijn64tab), ("internal/strconv.uint64pow10", Rows.laid_internal_strconv_uint64pow10), ("unicode/utf8.acceptRanges", Rows.laid_unicode_utf8_acceptRanges), ("strconv.ErrRange", Rows.laid_strconv_ErrRange), ("strconv.ErrSyntax", Rows.laid_strconv_ErrSyntax), ("unicode/utf8.first", Rows.laid_unicode_utf8_first)]
theorem star_eq : "*" ++ "errors.errorString" = "*errors.errorString" := by decide
theorem row_errstr (u : TypeId) (h : Tryz.prog.typeName? 3 u = some "*errors.errorString") : u = 202 :=
  typeName_ptr_named (nm := "errors.errorString") (by rw [star_eq]; kernel_rfl) (by kernel_rfl) (by decide) u (by rw [star_eq]; exact h)
theorem cells_errstr : Tryz.prog.cellsOf 204 = 1 := by kernel_rfl
theorem cells_str : Tryz.prog.cellsOf 9 = 1 := by kernel_rfl
theorem ok2_of {W : World} (h : W.ShapedOpen Tryz.prog) (hL : laidMetH Tryz.prog laid7 W) : Ok2 W := by
  rw [MakeChecks.laidMetH_plain _ _ _ (by kernel_rfl)] at hL
  have h2 := hL.tail.tail
  have gR : Tryz.prog.globalNamed "strconv.ErrRange" = some 1 := by kernel_rfl
  have gS : Tryz.prog.globalNamed "strconv.ErrSyntax" = some 0 := by kernel_rfl
  refine ⟨⟨Go.Proofs.cell_of_shapedOpen_int (zero := #[.int .i64 0]) (t := 3) h (of_decide_eq_true (by kernel_rfl)) (by kernel_rfl) rfl (by kernel_rfl) (by kernel_rfl) Tryz.underlying3, ?_, low_of_shaped h⟩, ?_, ?_⟩
  · exact Lib.tabIs_of_head (k := .u64) (zs := Lib.pow10Tab) (g := 3) (by kernel_rfl) (by kernel_rfl) Tryz.underlying195 Tryz.underlying163 (by kernel_rfl) (by kernel_rfl) h2
  · obtain ⟨a0, _, hv, _⟩ := laid_sentinel h2.tail.tail.tail gS (by kernel_rfl : (Tryz.prog.globals[0]?).map (·.type) = some 91) Tryz.underlying91 row_errstr Tryz.underlying202 Tryz.underlying204 rfl rfl Tryz.underlying9 cells_errstr cells_str
    exact ⟨_, by simpa using World.var?_cell gS hv 0, .inr ⟨_, _, rfl⟩⟩
  · obtain ⟨a0, _, hv, _⟩ := laid_sentinel h2.tail.tail gR (by kernel_rfl : (Tryz.prog.globals[1]?).map (·.type) = some 91) Tryz.underlying91 row_errstr Tryz.underlying202 Tryz.underlying204 rfl rfl Tryz.underlying9 cells_errstr cells_str
    exact ⟨_, by simpa using World.var?_cell gR hv 0, .inr ⟨_, _, rfl⟩⟩
set_option maxRecDepth 100000 in
theorem texts_calls {H : Type} {enc : TypeId × Value → H} (W : World) (base : Nat) (args : Array Value) (ds gs : List (DataW H)) (before : List MemPlace)
    (hval0 : ∀ (j : Nat) t v, Tryz.f6.params[j]? = some t → args[j]? = some v → Value.okWide Tryz.prog W .any base t v)
    (hW : DataW.Whole enc Tryz.prog Tryz.f6.params.toList Rows.scriptTextsSpec.vars false W args.toList ds gs before)
    (hsz0 : (DataW.weightsEach Tryz.prog (Tryz.f6.params.toList ++ Rows.scriptTextsSpec.plain.varTypes Tryz.prog) (ds ++ gs)).all (· ≤ reachBytes) = true)
    (hL : laidMetH Tryz.prog laid7 W) (hsh : W.ShapedOpen Tryz.prog) :
    Calls Tryz.prog 6 args W fun e W' => ∃ v, e = .returned v ∧ Rows.scriptTextsSpec.post enc Tryz.prog Tryz.f6 false true false false W args v W' := by
  have hval := hval0
  have hsz := hsz0
  have hW' := hW
  obtain ⟨p, q, hA, hV0, rfl, _, _⟩ := hW
  rw [Tryz.params6] at hA hval hsz
  obtain ⟨v0, v1, d0, d1, p0, p1, rfl, rfl, rfl, h0, h1⟩ := trodAll_two hA
  obtain ⟨rfl, rfl⟩ := trodVars_none hV0
  clear hV0 hval0 hsz0
  simp only [List.append_nil] at hW' hsz
  have hlt : ∀ x ∈ p0 ++ p1, x.block < W.heap.size := fun x hx => by simpa using hW'.lt x hx
  have hf0 : Fits 47 d0 := fun k hk => by
    have := List.all_eq_true.1 hsz k (DataW.weights_mem_each (t := 47) (j := 0) rfl rfl k hk)
    simpa using this
  obtain ⟨B, B', n1, m1, c1, e1, xs, ns, rfl, hr1, hr1', hn1, hm1, hx1⟩ := op_without (hval 0 47 v0 rfl rfl) hf0 h0
  obtain ⟨t, rfl⟩ : ∃ t : ByteArray, v1 = .string t := by
    obtain ⟨t, ht, _⟩ := Go.ChangeMaps.open_string Tryz.underlying9 (hval 1 9 v1 rfl rfl) h1
    exact ⟨t, ht⟩
  have hok := ok2_of hsh hL
  have hl1 : xs.length = n1 := by simpa using hr1.1
  have hl2 : ns.length = m1 := by simpa using hr1'.1
  subst hl1 hl2
  refine (ScriptTexts_any knows (xs, ns) B B' c1 e1 t W hok ⟨hr1, hr1'⟩ hx1 hn1 hm1).mono ?_
  rintro e W' ⟨rfl, bel⟩
  have eq1 : Rows.scriptTextsSpec.fn H ([d0, d1] ++ []) = { results := [.lit (.bool true)], args := [d0, d1] } := rfl
  refine ⟨_, rfl, _, _, _, [], p0 ++ p1, [], hW', ?_, ?_, ?_, bel.frame _, fun h => by cases h⟩
  · rw [eq1]; exact trodAll_mk1 (shut_bool Tryz.underlying4 true)
  · rw [eq1, Tryz.params6]; exact trodAll_mk2 (Below.trod Tryz.laidOut (by kernel_rfl) (of_decide_eq_true (by kernel_rfl)) h0 bel (fun x hx => hlt x (by simp [hx]))) (Below.trod Tryz.laidOut (by kernel_rfl) (of_decide_eq_true (by kernel_rfl)) h1 bel (fun x hx => hlt x (by simp [hx])))
  · rw [eq1]; rfl

theorem texts_witness (os : Os) {H : Type} (enc : TypeId × Value → H) : ∃ (w : World) (tape : Tape) (i : Input), w.os = os ∧ (w.forCall tape i).Shaped Tryz.prog ∧ i.vars = [] ∧ Input.okWide Tryz.prog (w.forCall tape i) .any w.heap.size 6 i ∧
      ((Rows.scriptTextsSpec.pre enc Tryz.prog Tryz.f6 [] false (w.forCall tape i).memory i.args ∧ laidMetH Tryz.prog laid7 (w.forCall tape i).memory) ∧ sizedMet enc Tryz.prog Tryz.f6 (OpenSpec.ofChange Rows.scriptTextsSpec) false (w.forCall tape i).memory i.args) ∧ ({ modest := false } : Assume).holds Tryz.prog (lone (Frame.enter Tryz.prog 6 i.args .normal) [] (w.forCall tape i)) :=
  ChangeSpec.witness_shaped (enc := enc) (C := Tryz.checked) (os := os) (X := fun w _ => laidMetH Tryz.prog laid7 w) false (World.laidAll Tryz.prog os laid7) #[.agg #[.slice none 0 0, .slice none 0 0], .string ⟨#[]⟩] 8 (World.laidAll_os _ _ _) (World.shaped_of_ZipB (by kernel_rfl) (by kernel_rfl)) (by kernel_rfl) (by kernel_rfl) (by kernel_rfl) (by rw [MakeChecks.laidMetH_plain _ _ _ (by kernel_rfl)]; exact laidMet_laidAll _ (by kernel_rfl) (by kernel_rfl))

theorem texts_lifted (os : Os) (started : os.Started) (H : Type) (enc : TypeId × Value → H) :
    ReturnsInHanded {} Tryz.checked os 6 .any (fun w args => (Rows.scriptTextsSpec.pre enc Tryz.prog Tryz.f6 [] false w args ∧ laidMetH Tryz.prog laid7 w) ∧ sizedMet enc Tryz.prog Tryz.f6 (OpenSpec.ofChange Rows.scriptTextsSpec) false w args)
      (Rows.scriptTextsSpec.post enc Tryz.prog Tryz.f6 false true false false) :=
  handed_change (C := Tryz.checked) (s := Rows.scriptTextsSpec) (conds := []) (laid := laid7) Tryz.own started (by kernel_rfl) Tryz.func6 (texts_witness os enc) texts_calls

theorem texts_said : Rows.ScriptTextsSaid :=
  OpenClaim.holds_of_wide 6 Tryz.f6 rfl rfl rfl rfl rfl rfl rfl ⟨rfl, rfl, rfl, rfl, rfl⟩ rfl rfl rfl rfl rfl (by kernel_rfl) Tryz.func6 (by kernel_rfl)
    (of_decide_eq_true (by kernel_rfl)) (by unfold Func.isWrapper; rw [if_neg (of_decide_eq_false (by kernel_rfl))]; exact ⟨rfl, rfl⟩)
    (fun os started H enc _ => texts_lifted os started H enc)

theorem scriptTexts_card : Rows.ScriptTextsCardSaid :=
  Claim7.holds_tied_plain_at .later [] [.data, .data, .data, .data, .sentinel, .sentinel, .pinned] true (true, "013b36efc573d51d57afda0f9ff0711062f93413d77b37c481fc0b42ceae8e1d") true
    texts_said (fun _ h => by cases h) (by kernel_rfl) (fun _ h => by cases h) scriptTexts_row_tie rfl ⟨rfl, rfl⟩ (by kernel_rfl) rfl
    (fun f fn hf hfn => by
      obtain rfl : f = 6 := Option.some.inj ((show Tryz.prog.funcNamed "replevin/replevinlaw44.ScriptTexts" = some 6 by kernel_rfl).symm.trans hf) |>.symm
      obtain rfl : fn = Tryz.f6 := (Option.some.inj (Tryz.func6.symm.trans hfn)).symm
      exact ⟨by kernel_rfl, fun j t ht => by
        rw [Tryz.params6] at ht
        have hm : t ∈ [47, 9] := by simpa using Array.mem_of_getElem? ht
        have hall : ([47, 9].all fun u => !Tryz.prog.wantsStandIn u) = true := by kernel_rfl
        exact (show Tryz.prog.wantsStandIn t = false by simpa using List.all_eq_true.1 hall t hm)⟩)
    (by kernel_rfl)
#print axioms scriptTexts_card

end Go.Proofs.YtnibcffcbnjllaaGreatDoor
