/- ReceiptErrors returns true at every input; conditions: none but the row's own (its listed variables hold what the program's text lays). -/
import Derived.SevenTiedAt
import Derived.JoinedCond
import Derived.Lay
import Derived.Test.YtlpmiimgacfmkaaGreatDoorQOpr
import Derived.Test.YtlpmiimgacfmkaaGreatDoorQEr3
import Derived.Test.YtlpmiimgacfmkaaGreatDoorCards
import Derived.Test.YtlpmiimgacfmkaaGreatDoorTie
set_option linter.all false
namespace Go.Proofs.YtlpmiimgacfmkaaGreatDoor
open Go.RowKit Go.ChangeShapes Go.WideShapes Go.Deep Go.Joins
set_option maxRecDepth 100000
theorem handed_change {H:Type} {enc:TypeId × Value→H} {a:Assume} {C:Checked} {os:Os} {f:FuncId} {fn:Func} {s:ChangeSpec} {conds:List PathCond} {apart fresh handsOn again:Bool} {laid:List (String × DataW Unit)}
 (own:ownKnob C.prog.godebug=none) (started:os.Started) (noInit:C.prog.inits.idxOf? f=none) (hfn:C.prog.funcs[f]?=some fn)
 (witness:∃ (w:World) (tape:Tape) (i:Input),w.os=os∧(w.forCall tape i).Shaped C.prog∧i.vars=[]∧Input.okWide C.prog (w.forCall tape i) .any w.heap.size f i ∧
  ((s.pre enc C.prog fn conds apart (w.forCall tape i).memory i.args∧laidMetH C.prog laid (w.forCall tape i).memory)∧sizedMet enc C.prog fn (OpenSpec.ofChange s) apart (w.forCall tape i).memory i.args)∧a.holds C.prog (lone (Frame.enter C.prog f i.args .normal) [] (w.forCall tape i)))
 (contract:∀ (W:World) (base:Nat) (args:Array Value) (ds gs:List (DataW H)) (before:List MemPlace),
  (∀ (j:Nat) t v,fn.params[j]?=some t→args[j]?=some v→Value.okWide C.prog W .any base t v) →
  DataW.Whole enc C.prog fn.params.toList s.vars apart W args.toList ds gs before →
  (DataW.weightsEach C.prog (fn.params.toList++s.plain.varTypes C.prog) (ds++gs)).all (·≤reachBytes)=true →
  laidMetH C.prog laid W→W.ShapedOpen C.prog →
  Calls C.prog f args W fun e W'=>∃ v,e=.returned v∧s.post enc C.prog fn apart fresh handsOn again W args v W') :
 ReturnsInHanded a C os f .any (fun w args=>(s.pre enc C.prog fn conds apart w args∧laidMetH C.prog laid w)∧sizedMet enc C.prog fn (OpenSpec.ofChange s) apart w args) (s.post enc C.prog fn apart fresh handsOn again) :=
 returnsInHanded_of_row (s:=OpenSpec.ofChange s) (F:=fun _ _ _=>0) (conds:=conds) (laid:=laid) own started noInit hfn witness
  fun W base args ds gs before h1 h2 _ _ h5 h6 h7 _=>contract W base args ds gs before h1 h2 h5 h6 h7
theorem Tryz.own:ownKnob Tryz.prog.godebug=none:=by kernel_rfl
theorem Tryz.laidOut:laidOutB Tryz.prog=true:=by kernel_rfl
theorem errors_calls {H:Type} {enc:TypeId × Value→H} (W:World) (base:Nat) (args:Array Value) (ds gs:List (DataW H)) (before:List MemPlace)
 (hval0:∀ (j:Nat) t v,Tryz.f6.params[j]?=some t→args[j]?=some v→Value.okWide Tryz.prog W .any base t v)
 (hW:DataW.Whole enc Tryz.prog Tryz.f6.params.toList Rows.receiptErrorsSpec.vars false W args.toList ds gs before)
 (hsz0:(DataW.weightsEach Tryz.prog (Tryz.f6.params.toList++Rows.receiptErrorsSpec.plain.varTypes Tryz.prog) (ds++gs)).all (·≤reachBytes)=true)
 (hL:laidMetH Tryz.prog laid3 W) (hsh:W.ShapedOpen Tryz.prog) :
 Calls Tryz.prog 6 args W fun e W'=>∃ v,e=.returned v∧Rows.receiptErrorsSpec.post enc Tryz.prog Tryz.f6 false true false false W args v W':=by
 have hval:=hval0
 have hW':=hW
 obtain⟨p,q,hA,hV0,rfl,_,_⟩:=hW
 rw[Tryz.params6] at hA hval
 obtain⟨v0,v1,v2,d0,d1,d2,p0,p1,p2,rfl,rfl,rfl,h0,h1,h2⟩:=trodAll_three hA
 obtain⟨rfl,rfl⟩:=trodVars_none hV0
 clear hV0 hval0
 simp only[List.append_nil] at hW'
 have hlt:∀ x∈p0++p1++p2,x.block<W.heap.size:=fun x hx=>by simpa using hW'.lt x hx
 obtain⟨k,nn,xx,a,so,st,rfl⟩:=op_place (hval 0 33 v0 rfl rfl) h0
 obtain⟨num,rfl,rfl,_,hn⟩:=open_int Tryz.underlying3 (hval 1 3 v1 rfl rfl) h1
 obtain⟨rt,hr32,rfl⟩:=op_dig (hval 2 57 v2 rfl rfl) h2
 have hok:=ok_of hsh hL
 refine (Errors_any rt hr32 k nn xx a num so st W hok).mono ?_
 rintro e W' ⟨rfl,hfr⟩
 have bel:=hfr.below0
 have e1:Rows.receiptErrorsSpec.fn H ([d0,.lit (.int .i64 num),d2]++[])={ results:=[.lit (.bool true)],args:=[d0,.lit (.int .i64 num),d2] }:=rfl
 refine⟨_,rfl,_,_,_,[],p0++p1++p2,[],hW',?_,?_,?_,bel.frame _,fun h=>by cases h⟩
 ·rw[e1];exact trodAll_mk1 (shut_bool Tryz.underlying4 true)
 ·rw[e1,Tryz.params6,List.append_assoc];exact trodAll_mk3 (Below.trod Tryz.laidOut (by kernel_rfl) (of_decide_eq_true (by kernel_rfl)) h0 bel (fun x hx=>hlt x (by simp[hx]))) (Below.trod Tryz.laidOut (by kernel_rfl) (of_decide_eq_true (by kernel_rfl)) h1 bel (fun x hx=>hlt x (by simp[hx]))) (Below.trod Tryz.laidOut (by kernel_rfl) (of_decide_eq_true (by kernel_rfl)) h2 bel (fun x hx=>hlt x (by simp[hx])))
 ·rw[e1];rfl
theorem errors_witness (os:Os) {H:Type} (enc:TypeId × Value→H):∃ (w:World) (tape:Tape) (i:Input),w.os=os∧(w.forCall tape i).Shaped Tryz.prog∧i.vars=[]∧Input.okWide Tryz.prog (w.forCall tape i) .any w.heap.size 6 i ∧
 ((Rows.receiptErrorsSpec.pre enc Tryz.prog Tryz.f6 [] false (w.forCall tape i).memory i.args∧laidMetH Tryz.prog laid3 (w.forCall tape i).memory)∧sizedMet enc Tryz.prog Tryz.f6 (OpenSpec.ofChange Rows.receiptErrorsSpec) false (w.forCall tape i).memory i.args)∧({ modest:=false }:Assume).holds Tryz.prog (lone (Frame.enter Tryz.prog 6 i.args .normal) [] (w.forCall tape i)) :=
 ChangeSpec.witness_shaped (enc:=enc) (C:=Tryz.checked) (os:=os) (X:=fun w _=>laidMetH Tryz.prog laid3 w) false (World.laidAll Tryz.prog os laid3) #[.agg #[.int .i64 0,.string ⟨#[]⟩,.int .i64 0,.int .i64 0,.string ⟨#[]⟩,.int .i64 0],.int .i64 0,.agg #[.int .u8 0,.int .u8 0,.int .u8 0,.int .u8 0,.int .u8 0,.int .u8 0,.int .u8 0,.int .u8 0,.int .u8 0,.int .u8 0,.int .u8 0,.int .u8 0,.int .u8 0,.int .u8 0,.int .u8 0,.int .u8 0,.int .u8 0,.int .u8 0,.int .u8 0,.int .u8 0,.int .u8 0,.int .u8 0,.int .u8 0,.int .u8 0,.int .u8 0,.int .u8 0,.int .u8 0,.int .u8 0,.int .u8 0,.int .u8 0,.int .u8 0,.int .u8 0]] 8 (World.laidAll_os _ _ _) (World.shaped_of_ZipB (by kernel_rfl) (by kernel_rfl)) (by kernel_rfl) (by kernel_rfl) (by kernel_rfl) (by rw[MakeChecks.laidMetH_plain _ _ _ (by kernel_rfl)];exact laidMet_laidAll _ (by kernel_rfl) (by kernel_rfl))
theorem errors_lifted (os:Os) (started:os.Started) (H:Type) (enc:TypeId × Value→H) :
 ReturnsInHanded {} Tryz.checked os 6 .any (fun w args=>(Rows.receiptErrorsSpec.pre enc Tryz.prog Tryz.f6 [] false w args∧laidMetH Tryz.prog laid3 w)∧sizedMet enc Tryz.prog Tryz.f6 (OpenSpec.ofChange Rows.receiptErrorsSpec) false w args)
  (Rows.receiptErrorsSpec.post enc Tryz.prog Tryz.f6 false true false false) :=
 handed_change (C:=Tryz.checked) (s:=Rows.receiptErrorsSpec) (conds:=[]) (laid:=laid3) Tryz.own started (by kernel_rfl) Tryz.func6 (errors_witness os enc) errors_calls
theorem errors_f1:(Rows.receiptErrorsRow.inPlace == Tryz.prog.inPlace 6)=true:=by kernel_rfl
theorem errors_f2:(Rows.receiptErrorsRow.unfollowed == Tryz.prog.unfollowed 6)=true:=by kernel_rfl
theorem errors_f3:(Rows.receiptErrorsRow.recurses == Tryz.prog.recurses 6)=true:=by kernel_rfl
theorem errors_f4:(Rows.receiptErrorsRow.named == Tryz.prog.varsNamed 6)=true:=by kernel_rfl
theorem errors_facts:joinedFacts Tryz.prog 6 Tryz.f6 Rows.receiptErrorsSpec Rows.receiptErrorsRow=true:=by
 unfold joinedFacts
 rw[errors_f1,errors_f2,errors_f3,errors_f4]
 kernel_rfl
theorem errors_goes:false=Rows.receiptErrorsRow.goesBy Tryz.prog:=by kernel_rfl
theorem errors_said:Rows.ReceiptErrorsSaid :=
 OpenClaim.holds_of_wide 6 Tryz.f6 rfl rfl rfl rfl rfl rfl rfl ⟨rfl,rfl,rfl,rfl,rfl⟩ rfl rfl rfl rfl rfl (by kernel_rfl) Tryz.func6 errors_facts
  (of_decide_eq_true (by kernel_rfl)) (by unfold Func.isWrapper;rw[if_neg (of_decide_eq_false (by kernel_rfl))];exact⟨rfl,rfl⟩)
  (fun os started H enc _=>errors_lifted os started H enc)
theorem receiptErrors_card:Rows.ReceiptErrorsCardSaid :=
 Claim7.holds_tied_plain_at .later [] [.data, .data, .data] true (true, "57061b68ad7336fc6bdaa26409ad1cf0e60500f7215cca129de044d70fe20d39") false
  errors_said (fun _ h=>by cases h) (by kernel_rfl) (fun _ h=>by cases h) receiptErrors_row_tie rfl ⟨rfl,rfl⟩ (by kernel_rfl) rfl
  (fun f fn hf hfn=>by
   obtain rfl : f = 6 := Option.some.inj ((show Tryz.prog.funcNamed "replevin/replevinlaw55.ReceiptErrors" = some 6 by kernel_rfl).symm.trans hf) |>.symm
   obtain rfl:fn=Tryz.f6:=(Option.some.inj (Tryz.func6.symm.trans hfn)).symm
   exact⟨by kernel_rfl,fun j t ht=>by
    rw[Tryz.params6] at ht
    have hm:t∈[33,3,57]:=by simpa using Array.mem_of_getElem? ht
    have hall:([33,3,57].all fun u=>!Tryz.prog.wantsStandIn u)=true:=by kernel_rfl
    exact (show Tryz.prog.wantsStandIn t=false by simpa using List.all_eq_true.1 hall t hm)⟩)
  errors_goes
#print axioms receiptErrors_card
end Go.Proofs.YtlpmiimgacfmkaaGreatDoor
