/- ReceiptDecodes returns true at every input; conditions: none but the row's own (its listed variables hold what the program's text lays). -/
import Derived.SevenTiedAt
import Derived.JoinedCond
import Derived.Lay
import Derived.Test.YtlpmiimgacfmkaaGreatDoorROpr
import Derived.Test.YtlpmiimgacfmkaaGreatDoorRDc5
import Derived.Test.YtlpmiimgacfmkaaGreatDoorCards
import Derived.Test.YtlpmiimgacfmkaaGreatDoorTie
set_option linter.all false
namespace Go.Proofs.YtlpmiimgacfmkaaGreatDoor
open Go.RowKit Go.ChangeShapes Go.WideShapes Go.Deep Go.Joins
set_option maxRecDepth 100000
theorem handed_change {H:Type} {enc:TypeId × Value→H} {a:Assume} {C:Checked} {os:Os} {f:FuncId} {fn:Func} {s:ChangeSpec} {conds:List PathCond} {apart fresh handsOn again:Bool} {laid:List (String × DataW Unit)}
 (own:ownKnob C.prog.godebug=none) (started:os.Started) (noInit:C.prog.inits.idxOf? f=none) (hfn:C.prog.funcs[f]?=some fn)
 (witness:∃ (w:World) (tape:Tape) (i:Input),w.os=os∧(w.forCall tape i).Shaped C.prog∧i.vars=[]∧Input.okWide C.prog (w.forCall tape i) .any w.heap.size f i ∧
  ((s.pre enc C.prog fn conds apart (w.forCall tape i).memory i.args∧laidMetH C.prog laid (w.forCall tape i).memory)∧sizedMet enc C.prog fn (OpenSpec.ofChange s) apart (w.forCall tape i).memory i.args)∧a.holds C.prog (lone (Frame.enter C.prog f i.args .normal) [] (w.forCall tape i)))
 (contract:∀ (W:World) (base:Nat) (args:Array Value) (ds gs:List (DataW H)) (before:List MemPlace),
  (∀ (j:Nat) t v,fn.params[j]?=some t→args[j]?=some v→Value.okWide C.prog W .any base t v) →
  DataW.Whole enc C.prog fn.params.toList s.vars apart W args.toList ds gs before →
  (DataW.weightsEach C.prog (fn.params.toList++s.plain.varTypes C.prog) (ds++gs)).all (·≤reachBytes)=true →
  laidMetH C.prog laid W→W.ShapedOpen C.prog →
  Calls C.prog f args W fun e W'=>∃ v,e=.returned v∧s.post enc C.prog fn apart fresh handsOn again W args v W') :
 ReturnsInHanded a C os f .any (fun w args=>(s.pre enc C.prog fn conds apart w args∧laidMetH C.prog laid w)∧sizedMet enc C.prog fn (OpenSpec.ofChange s) apart w args) (s.post enc C.prog fn apart fresh handsOn again) :=
 returnsInHanded_of_row (s:=OpenSpec.ofChange s) (F:=fun _ _ _=>0) (conds:=conds) (laid:=laid) own started noInit hfn witness
  fun W base args ds gs before h1 h2 _ _ h5 h6 h7 _=>contract W base args ds gs before h1 h2 h5 h6 h7
theorem Tryz.own:ownKnob Tryz.prog.godebug=none:=by kernel_rfl
theorem Tryz.laidOut:laidOutB Tryz.prog=true:=by kernel_rfl
theorem decodes_calls {H:Type} {enc:TypeId × Value→H} (W:World) (base:Nat) (args:Array Value) (ds gs:List (DataW H)) (before:List MemPlace)
 (hval0:∀ (j:Nat) t v,Tryz.f4.params[j]?=some t→args[j]?=some v→Value.okWide Tryz.prog W .any base t v)
 (hW:DataW.Whole enc Tryz.prog Tryz.f4.params.toList Rows.receiptDecodesSpec.vars false W args.toList ds gs before)
 (hsz0:(DataW.weightsEach Tryz.prog (Tryz.f4.params.toList++Rows.receiptDecodesSpec.plain.varTypes Tryz.prog) (ds++gs)).all (·≤reachBytes)=true)
 (hL:laidMetH Tryz.prog laid3 W) (hsh:W.ShapedOpen Tryz.prog) :
 Calls Tryz.prog 4 args W fun e W'=>∃ v,e=.returned v∧Rows.receiptDecodesSpec.post enc Tryz.prog Tryz.f4 false true false false W args v W':=by
 have hval:=hval0
 have hW':=hW
 obtain⟨p,q,hA,hV0,rfl,_,_⟩:=hW
 rw[Tryz.params4] at hA hval
 obtain⟨v0,d0,rfl,rfl,h0⟩:=trodAll_one hA
 obtain⟨rfl,rfl⟩:=trodVars_none hV0
 clear hV0 hval0
 simp only[List.append_nil] at hW'
 have hlt:∀ x∈p,x.block<W.heap.size:=fun x hx=>by simpa using hW'.lt x hx
 obtain⟨s,rfl,rfl,_,_⟩:=Go.ChangeMaps.open_string Tryz.underlying9 (hval 0 9 v0 rfl rfl) h0
 have hok:=ok_of hsh hL
 refine (Decodes_any s W hok).mono ?_
 rintro e W' ⟨rfl,hfr⟩
 have bel:=hfr.below0
 have e1:Rows.receiptDecodesSpec.fn H ([.lit (.string s.data.toList)]++[])={ results:=[.lit (.bool true)],args:=[.lit (.string s.data.toList)] }:=rfl
 refine⟨_,rfl,_,_,_,[],p,[],hW',?_,?_,?_,bel.frame _,fun h=>by cases h⟩
 ·rw[e1];exact trodAll_mk1 (shut_bool Tryz.underlying4 true)
 ·rw[e1,Tryz.params4];exact trodAll_mk1 (Below.trod Tryz.laidOut (by kernel_rfl) (of_decide_eq_true (by kernel_rfl)) h0 bel (fun x hx=>hlt x (by simp[hx])))
 ·rw[e1];rfl
theorem decodes_witness (os:Os) {H:Type} (enc:TypeId × Value→H):∃ (w:World) (tape:Tape) (i:Input),w.os=os∧(w.forCall tape i).Shaped Tryz.prog∧i.vars=[]∧Input.okWide Tryz.prog (w.forCall tape i) .any w.heap.size 4 i ∧
 ((Rows.receiptDecodesSpec.pre enc Tryz.prog Tryz.f4 [] false (w.forCall tape i).memory i.args∧laidMetH Tryz.prog laid3 (w.forCall tape i).memory)∧sizedMet enc Tryz.prog Tryz.f4 (OpenSpec.ofChange Rows.receiptDecodesSpec) false (w.forCall tape i).memory i.args)∧({ modest:=false }:Assume).holds Tryz.prog (lone (Frame.enter Tryz.prog 4 i.args .normal) [] (w.forCall tape i)) :=
 ChangeSpec.witness_shaped (enc:=enc) (C:=Tryz.checked) (os:=os) (X:=fun w _=>laidMetH Tryz.prog laid3 w) false (World.laidAll Tryz.prog os laid3) #[.string ⟨#[]⟩] 8 (World.laidAll_os _ _ _) (World.shaped_of_ZipB (by kernel_rfl) (by kernel_rfl)) (by kernel_rfl) (by kernel_rfl) (by kernel_rfl) (by rw[MakeChecks.laidMetH_plain _ _ _ (by kernel_rfl)];exact laidMet_laidAll _ (by kernel_rfl) (by kernel_rfl))
theorem decodes_lifted (os:Os) (started:os.Started) (H:Type) (enc:TypeId × Value→H) :
 ReturnsInHanded {} Tryz.checked os 4 .any (fun w args=>(Rows.receiptDecodesSpec.pre enc Tryz.prog Tryz.f4 [] false w args∧laidMetH Tryz.prog laid3 w)∧sizedMet enc Tryz.prog Tryz.f4 (OpenSpec.ofChange Rows.receiptDecodesSpec) false w args)
  (Rows.receiptDecodesSpec.post enc Tryz.prog Tryz.f4 false true false false) :=
 handed_change (C:=Tryz.checked) (s:=Rows.receiptDecodesSpec) (conds:=[]) (laid:=laid3) Tryz.own started (by kernel_rfl) Tryz.func4 (decodes_witness os enc) decodes_calls
theorem decodes_f1:(Rows.receiptDecodesRow.inPlace == Tryz.prog.inPlace 4)=true:=by kernel_rfl
theorem decodes_f2:(Rows.receiptDecodesRow.unfollowed == Tryz.prog.unfollowed 4)=true:=by kernel_rfl
theorem decodes_f3:(Rows.receiptDecodesRow.recurses == Tryz.prog.recurses 4)=true:=by kernel_rfl
theorem decodes_f4:(Rows.receiptDecodesRow.named == Tryz.prog.varsNamed 4)=true:=by kernel_rfl
theorem decodes_facts:joinedFacts Tryz.prog 4 Tryz.f4 Rows.receiptDecodesSpec Rows.receiptDecodesRow=true:=by
 unfold joinedFacts
 rw[decodes_f1,decodes_f2,decodes_f3,decodes_f4]
 kernel_rfl
theorem decodes_goes:false=Rows.receiptDecodesRow.goesBy Tryz.prog:=by kernel_rfl
theorem decodes_said:Rows.ReceiptDecodesSaid :=
 OpenClaim.holds_of_wide 4 Tryz.f4 rfl rfl rfl rfl rfl rfl rfl ⟨rfl,rfl,rfl,rfl,rfl⟩ rfl rfl rfl rfl rfl (by kernel_rfl) Tryz.func4 decodes_facts
  (of_decide_eq_true (by kernel_rfl)) (by unfold Func.isWrapper;rw[if_neg (of_decide_eq_false (by kernel_rfl))];exact⟨rfl,rfl⟩)
  (fun os started H enc _=>decodes_lifted os started H enc)
theorem receiptDecodes_card:Rows.ReceiptDecodesCardSaid :=
 Claim7.holds_tied_plain_at .later [] [.data, .data, .data] true (true, "57061b68ad7336fc6bdaa26409ad1cf0e60500f7215cca129de044d70fe20d39") false
  decodes_said (fun _ h=>by cases h) (by kernel_rfl) (fun _ h=>by cases h) receiptDecodes_row_tie rfl ⟨rfl,rfl⟩ (by kernel_rfl) rfl
  (fun f fn hf hfn=>by
   obtain rfl : f = 4 := Option.some.inj ((show Tryz.prog.funcNamed "replevin/replevinlaw55.ReceiptDecodes" = some 4 by kernel_rfl).symm.trans hf) |>.symm
   obtain rfl:fn=Tryz.f4:=(Option.some.inj (Tryz.func4.symm.trans hfn)).symm
   exact⟨by kernel_rfl,fun j t ht=>by
    rw[Tryz.params4] at ht
    have hm:t∈[9]:=by simpa using Array.mem_of_getElem? ht
    have hall:([9].all fun u=>!Tryz.prog.wantsStandIn u)=true:=by kernel_rfl
    exact (show Tryz.prog.wantsStandIn t=false by simpa using List.all_eq_true.1 hall t hm)⟩)
  decodes_goes
#print axioms receiptDecodes_card
end Go.Proofs.YtlpmiimgacfmkaaGreatDoor
