/- ReceiptMakes returns true at every input; conditions: none but the row's own (its listed variables hold what the program's text lays). -/
import Derived.SevenTiedAt
import Derived.JoinedCond
import Derived.Lay
import Derived.Test.YtlpmiimgacfmkaaGreatDoorMWj
import Derived.Test.YtlpmiimgacfmkaaGreatDoorCards
import Derived.Test.YtlpmiimgacfmkaaGreatDoorTie
set_option linter.all false
namespace Go.Proofs.YtlpmiimgacfmkaaGreatDoor
open Go.Proofs.Tryz
open Go.RowKit Go.ChangeShapes Go.WideShapes Go.Deep Go.Joins
set_option maxRecDepth 100000
theorem handed_change {H:Type} {enc:TypeId × Value->H} {a:Assume} {C:Checked} {os:Os} {f:FuncId} {fn:Func} {s:ChangeSpec} {conds:List PathCond} {apart fresh handsOn again:Bool} {laid:List (String × DataW Unit)}
 (own:ownKnob C.prog.godebug=none) (started:os.Started) (noInit:C.prog.inits.idxOf? f=none) (hfn:C.prog.funcs[f]?=some fn)
 (witness:∃ (w:World) (tape:Tape) (i:Input),w.os=os/\(w.forCall tape i).Shaped C.prog/\i.vars=[]/\Input.okWide C.prog (w.forCall tape i) .any w.heap.size f i /\
  ((s.pre enc C.prog fn conds apart (w.forCall tape i).memory i.args/\laidMetH C.prog laid (w.forCall tape i).memory)/\sizedMet enc C.prog fn (OpenSpec.ofChange s) apart (w.forCall tape i).memory i.args)/\a.holds C.prog (lone (Frame.enter C.prog f i.args .normal) [] (w.forCall tape i)))
 (contract:∀ (W:World) (base:Nat) (args:Array Value) (ds gs:List (DataW H)) (before:List MemPlace),
  (∀ (j:Nat) t v,fn.params[j]?=some t->args[j]?=some v->Value.okWide C.prog W .any base t v) ->
  DataW.Whole enc C.prog fn.params.toList s.vars apart W args.toList ds gs before ->
  (DataW.weightsEach C.prog (fn.params.toList++s.plain.varTypes C.prog) (ds++gs)).all (·<=reachBytes)=true ->
  laidMetH C.prog laid W->W.ShapedOpen C.prog ->
  Calls C.prog f args W fun e W'=>∃ v,e=.returned v/\s.post enc C.prog fn apart fresh handsOn again W args v W') :
 ReturnsInHanded a C os f .any (fun w args=>(s.pre enc C.prog fn conds apart w args/\laidMetH C.prog laid w)/\sizedMet enc C.prog fn (OpenSpec.ofChange s) apart w args) (s.post enc C.prog fn apart fresh handsOn again) :=
 returnsInHanded_of_row (s:=OpenSpec.ofChange s) (F:=fun _ _ _=>0) (conds:=conds) (laid:=laid) own started noInit hfn witness
  fun W base args ds gs before h1 h2 _ _ h5 h6 h7 _=>contract W base args ds gs before h1 h2 h5 h6 h7
theorem Tryz.own:ownKnob prog.godebug=none:=by kernel_rfl
theorem Tryz.laidOut:laidOutB prog=true:=by kernel_rfl
theorem op_spot {H:Type} {enc:TypeId × Value->H} {w:World} {r:Reach} {b0:Nat} {v:Value} {d:DataW H} {p:List MemPlace} (hv:Value.okWide prog w r b0 24 v) (h:DataW.Trod enc prog w 0 (fun _=>true) true 24 v d p) :
 ∃ a b c:Int,v=.agg #[.int .u8 a,.int .u8 b,.int .u8 c]/\(0<=a/\a<256)/\(0<=b/\b<256)/\(0<=c/\c<256):=by
 obtain⟨cs,rfl,hsz⟩:=okWide_struct underlying24 hv;obtain⟨l⟩:=cs;have hC:prog.cellsOf 24=3:=by kernel_rfl
 match l,hsz.trans hC with
 | [c0,c1,c2],_ =>
  obtain⟨fuel,hf⟩:=h;obtain⟨xs,n,_,hx,_,hxl,hg⟩:=DataW.trod_struct underlying24 hf;have q:∀ j,j<3->∃ y,xs[j]?=some y:=fun j hj=>⟨_,lge (by rw[hxl];exact hj)⟩;obtain⟨y0,e0⟩:=q 0 (by omega);obtain⟨y1,e1⟩:=q 1 (by omega);obtain⟨y2,e2⟩:=q 2 (by omega);have k3:prog.cellsOf 5=1:=by kernel_rfl
  have f0:DataW.trod enc prog w 0 (fun _=>true) true n 5 (([c0,c1,c2].drop 0).take (prog.cellsOf 5))=some y0:=(hg 0 _ rfl).trans e0;have f1:DataW.trod enc prog w 0 (fun _=>true) true n 5 (([c0,c1,c2].drop 1).take (prog.cellsOf 5))=some y1:=(hg 1 _ rfl).trans e1;have f2:DataW.trod enc prog w 0 (fun _=>true) true n 5 (([c0,c1,c2].drop 2).take (prog.cellsOf 5))=some y2:=(hg 2 _ rfl).trans e2;rw[k3] at f0 f1 f2;obtain⟨a0,g0,_,w0⟩:=DataW.trod_int underlying5 f0;obtain⟨a1,g1,_,w1⟩:=DataW.trod_int underlying5 f1;obtain⟨a2,g2,_,w2⟩:=DataW.trod_int underlying5 f2;simp at g0 g1 g2;subst g0 g1 g2;exact⟨a0,a1,a2,rfl,bounds_u8 w0,bounds_u8 w1,bounds_u8 w2⟩
theorem makes_calls {H:Type} {enc:TypeId × Value->H} (W:World) (base:Nat) (args:Array Value) (ds gs:List (DataW H)) (before:List MemPlace)
 (hval0:∀ (j:Nat) t v,Tryz.f3.params[j]?=some t->args[j]?=some v->Value.okWide prog W .any base t v)
 (hW:DataW.Whole enc prog Tryz.f3.params.toList Rows.receiptMakesSpec.vars false W args.toList ds gs before)
 (hsz0:(DataW.weightsEach prog (Tryz.f3.params.toList++Rows.receiptMakesSpec.plain.varTypes prog) (ds++gs)).all (·<=reachBytes)=true)
 (hL:laidMetH prog laid3 W) (hsh:W.ShapedOpen prog) :
 Calls prog 3 args W fun e W'=>∃ v,e=.returned v/\Rows.receiptMakesSpec.post enc prog Tryz.f3 false true false false W args v W':=by
 have hval:=hval0;have hW':=hW;have hsz:=hsz0;obtain⟨p,q,hA,hV0,rfl,_,_⟩:=hW;rw[params3] at hA hval hsz;obtain⟨v0,v1,v2,d0,d1,d2,p0,p1,p2,rfl,rfl,rfl,h0,h1,h2⟩:=trodAll_three hA;obtain⟨rfl,rfl⟩:=trodVars_none hV0;clear hV0 hval0 hsz0;simp only[List.append_nil] at hW' hsz;have hlt:∀ x∈p0++p1++p2,x.block<W.heap.size:=fun x hx=>by simpa using hW'.lt x hx
 have hf0:Fits 22 d0:=fun k hk=>by
  have:=List.all_eq_true.1 hsz k (DataW.weights_mem_each (t:=22) (j:=0) rfl rfl k hk);simpa using this
 obtain⟨A,c,l,rfl,hl⟩:=op_acts (hval 0 22 v0 rfl rfl) hf0 h0;obtain⟨af,nmi,at_,rfl,b1,b2,b3⟩:=op_spot (hval 1 24 v1 rfl rfl) h1;obtain⟨num,rfl,rfl,_,hn⟩:=open_int underlying3 (hval 2 3 v2 rfl rfl) h2;have hok:=ok_of hsh hL;refine (Makes_any A c l af nmi at_ num b1 b2 b3 W hok hl).mono ?_;rintro e W' ⟨rfl,hfr⟩;have bel:=hfr.below0;have e1:Rows.receiptMakesSpec.fn H ([d0,d1,.lit (.int .i64 num)]++[])={ results:=[.lit (.bool true)],args:=[d0,d1,.lit (.int .i64 num)] }:=rfl;refine⟨_,rfl,_,_,_,[],p0++p1++p2,[],hW',?_,?_,?_,bel.frame _,fun h=>by cases h⟩
 ·rw[e1];exact trodAll_mk1 (shut_bool underlying4 true)
 ·rw[e1,params3,List.append_assoc];exact trodAll_mk3 (Below.trod Tryz.laidOut (by kernel_rfl) (of_decide_eq_true (by kernel_rfl)) h0 bel (fun x hx=>hlt x (by simp[hx]))) (Below.trod Tryz.laidOut (by kernel_rfl) (of_decide_eq_true (by kernel_rfl)) h1 bel (fun x hx=>hlt x (by simp[hx]))) (Below.trod Tryz.laidOut (by kernel_rfl) (of_decide_eq_true (by kernel_rfl)) h2 bel (fun x hx=>hlt x (by simp[hx])))
 ·rw[e1];rfl
theorem makes_witness (os:Os) {H:Type} (enc:TypeId × Value->H):∃ (w:World) (tape:Tape) (i:Input),w.os=os/\(w.forCall tape i).Shaped prog/\i.vars=[]/\Input.okWide prog (w.forCall tape i) .any w.heap.size 3 i /\
 ((Rows.receiptMakesSpec.pre enc prog Tryz.f3 [] false (w.forCall tape i).memory i.args/\laidMetH prog laid3 (w.forCall tape i).memory)/\sizedMet enc prog Tryz.f3 (OpenSpec.ofChange Rows.receiptMakesSpec) false (w.forCall tape i).memory i.args)/\({ modest:=false }:Assume).holds prog (lone (Frame.enter prog 3 i.args .normal) [] (w.forCall tape i)) :=
 ChangeSpec.witness_shaped (enc:=enc) (C:=Tryz.checked) (os:=os) (X:=fun w _=>laidMetH prog laid3 w) false (World.laidAll prog os laid3) #[.slice none 0 0,.agg #[.int .u8 0,.int .u8 0,.int .u8 0],.int .i64 0] 8 (World.laidAll_os _ _ _) (World.shaped_of_ZipB (by kernel_rfl) (by kernel_rfl)) (by kernel_rfl) (by kernel_rfl) (by kernel_rfl) (by rw[MakeChecks.laidMetH_plain _ _ _ (by kernel_rfl)];exact laidMet_laidAll _ (by kernel_rfl) (by kernel_rfl))
theorem makes_lifted (os:Os) (started:os.Started) (H:Type) (enc:TypeId × Value->H) :
 ReturnsInHanded {} Tryz.checked os 3 .any (fun w args=>(Rows.receiptMakesSpec.pre enc prog Tryz.f3 [] false w args/\laidMetH prog laid3 w)/\sizedMet enc prog Tryz.f3 (OpenSpec.ofChange Rows.receiptMakesSpec) false w args)
  (Rows.receiptMakesSpec.post enc prog Tryz.f3 false true false false) :=
 handed_change (C:=Tryz.checked) (s:=Rows.receiptMakesSpec) (conds:=[]) (laid:=laid3) Tryz.own started (by kernel_rfl) func3 (makes_witness os enc) makes_calls
theorem makes_f1:(Rows.receiptMakesRow.inPlace == prog.inPlace 3)=true:=by kernel_rfl
theorem makes_f2:(Rows.receiptMakesRow.unfollowed == prog.unfollowed 3)=true:=by kernel_rfl
theorem makes_f3:(Rows.receiptMakesRow.recurses == prog.recurses 3)=true:=by kernel_rfl
theorem makes_f4:(Rows.receiptMakesRow.named == prog.varsNamed 3)=true:=by kernel_rfl
theorem makes_facts:joinedFacts prog 3 Tryz.f3 Rows.receiptMakesSpec Rows.receiptMakesRow=true:=by
 unfold joinedFacts;rw[makes_f1,makes_f2,makes_f3,makes_f4]
 kernel_rfl
theorem makes_goes:false=Rows.receiptMakesRow.goesBy prog:=by kernel_rfl
theorem makes_said:Rows.ReceiptMakesSaid :=
 OpenClaim.holds_of_wide 3 Tryz.f3 rfl rfl rfl rfl rfl rfl rfl ⟨rfl,rfl,rfl,rfl,rfl⟩ rfl rfl rfl rfl rfl (by kernel_rfl) func3 makes_facts
  (of_decide_eq_true (by kernel_rfl)) (by unfold Func.isWrapper;rw[if_neg (of_decide_eq_false (by kernel_rfl))];exact⟨rfl,rfl⟩)
  (fun os started H enc _=>makes_lifted os started H enc)
theorem receiptMakes_card:Rows.ReceiptMakesCardSaid :=
 Claim7.holds_tied_plain_at .later [] [.data, .data, .data] true (true, "57061b68ad7336fc6bdaa26409ad1cf0e60500f7215cca129de044d70fe20d39") false
  makes_said (fun _ h=>by cases h) (by kernel_rfl) (fun _ h=>by cases h) receiptMakes_row_tie rfl ⟨rfl,rfl⟩ (by kernel_rfl) rfl
  (fun f fn hf hfn=>by
   obtain rfl : f = 3 := Option.some.inj ((show prog.funcNamed "replevin/replevinlaw55.ReceiptMakes" = some 3 by kernel_rfl).symm.trans hf) |>.symm;obtain rfl:fn=Tryz.f3:=(Option.some.inj (func3.symm.trans hfn)).symm
   exact⟨by kernel_rfl,fun j t ht=>by
    rw[params3] at ht;have hm:t∈[22,24,3]:=by simpa using Array.mem_of_getElem? ht
    have hall:([22,24,3].all fun u=>!prog.wantsStandIn u)=true:=by kernel_rfl
    exact (show prog.wantsStandIn t=false by simpa using List.all_eq_true.1 hall t hm)⟩)
  makes_goes
#print axioms receiptMakes_card
end Go.Proofs.YtlpmiimgacfmkaaGreatDoor
