import Derived.SevenTiedAt
import Derived.JoinedCond
import Derived.Lay
import Derived.Test.YtlpmiimgacfmkaaGreatDoorOTx8
import Derived.Test.YtlpmiimgacfmkaaGreatDoorCards
import Derived.Test.YtlpmiimgacfmkaaGreatDoorTie
set_option linter.all false
namespace Go.Proofs.YtlpmiimgacfmkaaGreatDoor
set_option maxRecDepth 100000
open Go.Proofs.Tryz
open Go.RowKit Go.ChangeShapes Go.WideShapes Go.Deep Go.Joins
theorem gd{H:Type}{enc:TypeId×Value->H}{a:Assume}{C:Checked}{os:Os}{f:FuncId}{fn:Func}{s:ChangeSpec}{conds:List PathCond}{apart fresh handsOn again:Bool}{laid:List (String×DataW Unit)}
 (own:ownKnob C.prog.godebug=none) (started:os.Started) (noInit:C.prog.inits.idxOf? f=none) (hfn:C.prog.funcs[f]?=some fn)
 (witness:∃(w:World) (tape:Tape) (i:Input),w.os=os/\(w.forCall tape i).Shaped C.prog/\i.vars=[]/\Input.okWide C.prog (w.forCall tape i) .any w.heap.size f i/\
  ((s.pre enc C.prog fn conds apart (w.forCall tape i).memory i.args/\laidMetH C.prog laid (w.forCall tape i).memory)/\sizedMet enc C.prog fn (OpenSpec.ofChange s) apart (w.forCall tape i).memory i.args)/\a.holds C.prog (lone (Frame.enter C.prog f i.args .normal) [] (w.forCall tape i)))
 (contract:∀(W:World) (base:Nat) (args:Array Value) (ds gs:List (DataW H)) (before:List MemPlace),
  (∀(j:Nat) t v,fn.params[j]?=some t->args[j]?=some v->Value.okWide C.prog W .any base t v)->
  DataW.Whole enc C.prog fn.params.toList s.vars apart W args.toList ds gs before->
  (DataW.weightsEach C.prog (fn.params.toList++s.plain.varTypes C.prog) (ds++gs)).all (·<=reachBytes)=true->
  laidMetH C.prog laid W->W.ShapedOpen C.prog->
  Calls C.prog f args W λe W'=>∃v,e=.returned v/\s.post enc C.prog fn apart fresh handsOn again W args v W') :
 ReturnsInHanded a C os f .any (λw args=>(s.pre enc C.prog fn conds apart w args/\laidMetH C.prog laid w)/\sizedMet enc C.prog fn (OpenSpec.ofChange s) apart w args) (s.post enc C.prog fn apart fresh handsOn again):=
 returnsInHanded_of_row (s:=OpenSpec.ofChange s) (F:=λ_ _ _=>0) (conds:=conds) (laid:=laid) own started noInit hfn witness
  λW base args ds gs before h1 h2 _ _ h5 h6 h7 _=>contract W base args ds gs before h1 h2 h5 h6 h7
theorem Tryz.own:ownKnob prog.godebug=none:=by kernel_rfl
theorem Tryz.laidOut:laidOutB prog=true:=by kernel_rfl
theorem jw{H:Type}{enc:TypeId×Value->H}{w:World}{r:Reach}{b0:Nat}{v:Value}{d:DataW H}{p:List MemPlace}(hv:Value.okWide prog w r b0 24 v)(h:DataW.Trod enc prog w 0 (λ_=>true) true 24 v d p):
 ∃a b c:Int,v=.agg #[.int .u8 a,.int .u8 b,.int .u8 c]/\(0<=a/\a<256)/\(0<=b/\b<256)/\(0<=c/\c<256):=by
 obtain⟨cs,rfl,hsz⟩:=okWide_struct underlying24 hv;obtain⟨l⟩:=cs;have hC:prog.cellsOf 24=3:=by kernel_rfl
 match l,hsz.trans hC with
 |[c0,c1,c2],_=>
  obtain⟨fuel,hf⟩:=h;obtain⟨xs,n,_,hx,_,hxl,hg⟩:=DataW.trod_struct underlying24 hf;have q:∀j,j<3->∃y,xs[j]?=some y:=λj hj=>⟨_,lge (by rw[hxl];exact hj)⟩;obtain⟨y0,e0⟩:=q 0 (by omega);obtain⟨y1,e1⟩:=q 1 (by omega);obtain⟨y2,e2⟩:=q 2 (by omega);have k3:prog.cellsOf 5=1:=by kernel_rfl
  have f0:DataW.trod enc prog w 0 (λ_=>true) true n 5 (([c0,c1,c2].drop 0).take (prog.cellsOf 5))=some y0:=(hg 0 _ rfl).trans e0;have f1:DataW.trod enc prog w 0 (λ_=>true) true n 5 (([c0,c1,c2].drop 1).take (prog.cellsOf 5))=some y1:=(hg 1 _ rfl).trans e1;have f2:DataW.trod enc prog w 0 (λ_=>true) true n 5 (([c0,c1,c2].drop 2).take (prog.cellsOf 5))=some y2:=(hg 2 _ rfl).trans e2;rw[k3]at f0 f1 f2;obtain⟨a0,g0,_,w0⟩:=DataW.trod_int underlying5 f0;obtain⟨a1,g1,_,w1⟩:=DataW.trod_int underlying5 f1;obtain⟨a2,g2,_,w2⟩:=DataW.trod_int underlying5 f2;simp at g0 g1 g2;subst g0 g1 g2;exact⟨a0,a1,a2,rfl,fw w0,fw w1,fw w2⟩
def fE : List (String × DataW Unit) := [("math/bits.deBruijn32tab", Rows.laid_math_bits_deBruijn32tab), ("math/bits.deBruijn64tab", Rows.laid_math_bits_deBruijn64tab), ("internal/strconv.uint64pow10", Rows.laid_internal_strconv_uint64pow10), ("replevin/sha256.initial", Rows.laid_replevin_sha256_initial), ("replevin/sha256.constants", Rows.laid_replevin_sha256_constants), ("replevin/object.usages", Rows.laid_replevin_object_usages)]
theorem jy{W:World}(hL:laidMetH prog fE W):laidMetH prog ja W:=by
 rw[MakeChecks.laidMetH_plain _ _ _ (by kernel_rfl)]at hL ⊢;exact hL.tail.tail.tail
theorem jK{W:World}(h:W.ShapedOpen prog)(hL:laidMetH prog fE W):Pw W:=by
 rw[MakeChecks.laidMetH_plain _ _ _ (by kernel_rfl)]at hL;have h2:=hL.tail.tail;exact⟨Lib.tabIs_of_head (k:=.u64) (zs:=Lib.pow10Tab) (g:=3) (by kernel_rfl) (by kernel_rfl) underlying378 underlying229 (by kernel_rfl) (by kernel_rfl) h2,fi h⟩
theorem gO{H:Type}{enc:TypeId×Value->H}(W:World)(base:Nat)(args:Array Value)(ds gs:List (DataW H))(before:List MemPlace)
 (hval0:∀(j:Nat) t v,Tryz.f9.params[j]?=some t->args[j]?=some v->Value.okWide prog W .any base t v)
 (hW:DataW.Whole enc prog Tryz.f9.params.toList Rows.receiptTextsSpec.vars false W args.toList ds gs before)
 (hsz0:(DataW.weightsEach prog (Tryz.f9.params.toList++Rows.receiptTextsSpec.plain.varTypes prog) (ds++gs)).all (·<=reachBytes)=true)
 (hL:laidMetH prog fE W) (hsh:W.ShapedOpen prog) :
 Calls prog 9 args W λe W'=>∃v,e=.returned v/\Rows.receiptTextsSpec.post enc prog Tryz.f9 false true false false W args v W':=by
 have hval:=hval0;have hW':=hW;have hsz:=hsz0;obtain⟨p,q,hA,hV0,rfl,_,_⟩:=hW;rw[params9]at hA hval hsz;obtain⟨v0,v1,d0,d1,p0,p1,rfl,rfl,rfl,h0,h1⟩:=trodAll_two hA;obtain⟨rfl,rfl⟩:=trodVars_none hV0;clear hV0 hval0 hsz0;simp only[List.append_nil]at hW' hsz;have hlt:∀x∈p0++p1,x.block<W.heap.size:=λx hx=>by simpa using hW'.lt x hx
 have hf0:Fits 22 d0:=λk hk=>by
  have:=List.all_eq_true.1 hsz k (DataW.weights_mem_each (t:=22) (j:=0) rfl rfl k hk);simpa using this
 obtain⟨A,c,l,rfl,hl⟩:=jz (hval 0 22 v0 rfl rfl) hf0 h0;obtain⟨af,nmi,at_,rfl,b1,b2,b3⟩:=jw (hval 1 24 v1 rfl rfl) h1;have hok:=jL hsh (jy hL);refine(iG A c l af nmi at_ b1 b2 b3 W hok (jK hsh hL) hl).mono ?_;rintro e W' ⟨rfl,hfr⟩;have bel:=hfr.below0;have e1:Rows.receiptTextsSpec.fn H ([d0,d1]++[])={ results:=[.lit (.bool true)],args:=[d0,d1] }:=rfl;refine⟨_,rfl,_,_,_,[],p0++p1,[],hW',?_,?_,?_,bel.frame _,λh=>by cases h⟩
 ·rw[e1];exact trodAll_mk1 (shut_bool underlying4 true)
 ·rw[e1,params9];exact trodAll_mk2 (Below.trod Tryz.laidOut (by kernel_rfl) (of_decide_eq_true (by kernel_rfl)) h0 bel (λx hx=>hlt x (by simp[hx]))) (Below.trod Tryz.laidOut (by kernel_rfl) (of_decide_eq_true (by kernel_rfl)) h1 bel (λx hx=>hlt x (by simp[hx])))
 ·rw[e1];rfl
theorem gg(os:Os){H:Type}(enc:TypeId×Value->H):∃(w:World) (tape:Tape) (i:Input),w.os=os/\(w.forCall tape i).Shaped prog/\i.vars=[]/\Input.okWide prog (w.forCall tape i) .any w.heap.size 9 i/\
 ((Rows.receiptTextsSpec.pre enc prog Tryz.f9 [] false (w.forCall tape i).memory i.args/\laidMetH prog fE (w.forCall tape i).memory)/\sizedMet enc prog Tryz.f9 (OpenSpec.ofChange Rows.receiptTextsSpec) false (w.forCall tape i).memory i.args)/\({ modest:=false }:Assume).holds prog (lone (Frame.enter prog 9 i.args .normal) [] (w.forCall tape i)):=
 ChangeSpec.witness_shaped (enc:=enc) (C:=Tryz.checked) (os:=os) (X:=λw _=>laidMetH prog fE w) false (World.laidAll prog os fE) #[.slice none 0 0,.agg #[.int .u8 0,.int .u8 0,.int .u8 0]] 8 (World.laidAll_os _ _ _) (World.shaped_of_ZipB (by kernel_rfl) (by kernel_rfl)) (by kernel_rfl) (by kernel_rfl) (by kernel_rfl) (by rw[MakeChecks.laidMetH_plain _ _ _ (by kernel_rfl)];exact laidMet_laidAll _ (by kernel_rfl) (by kernel_rfl))
theorem iZ:(Rows.receiptTextsRow.inPlace==prog.inPlace 9)=true:=by kernel_rfl
theorem i6:(Rows.receiptTextsRow.unfollowed==prog.unfollowed 9)=true:=by kernel_rfl
theorem i7:(Rows.receiptTextsRow.recurses==prog.recurses 9)=true:=by kernel_rfl
theorem i8:(Rows.receiptTextsRow.named==prog.varsNamed 9)=true:=by kernel_rfl
theorem gS:joinedFacts prog 9 Tryz.f9 Rows.receiptTextsSpec Rows.receiptTextsRow=true:=by
 unfold joinedFacts;rw[iZ,i6,i7,i8]
 kernel_rfl
theorem ig:false=Rows.receiptTextsRow.goesBy prog:=by kernel_rfl
theorem ij:Rows.ReceiptTextsSaid:=
 OpenClaim.holds_of_wide 9 Tryz.f9 rfl rfl rfl rfl rfl rfl rfl ⟨rfl,rfl,rfl,rfl,rfl⟩ rfl rfl rfl rfl rfl (by kernel_rfl) func9 gS
  (of_decide_eq_true (by kernel_rfl)) (by unfold Func.isWrapper;rw[if_neg (of_decide_eq_false (by kernel_rfl))];exact⟨rfl,rfl⟩)
  (λos started H enc _=>gd (C:=Tryz.checked) (s:=Rows.receiptTextsSpec) (conds:=[]) (laid:=fE) Tryz.own started (by kernel_rfl) func9 (gg os enc) gO)
theorem receiptTexts_card:Rows.ReceiptTextsCardSaid:=
 Claim7.holds_tied_plain_at .later [] [.data, .data, .data, .data, .data, .data] true (true, "57061b68ad7336fc6bdaa26409ad1cf0e60500f7215cca129de044d70fe20d39") false
  ij (λ_ h=>by cases h) (by kernel_rfl) (λ_ h=>by cases h) receiptTexts_row_tie rfl ⟨rfl,rfl⟩ (by kernel_rfl) rfl
  (λf fn hf hfn=>by
   obtain rfl : f = 9 := Option.some.inj ((show prog.funcNamed "replevin/replevinlaw55.ReceiptTexts" = some 9 by kernel_rfl).symm.trans hf) |>.symm;obtain rfl:fn=Tryz.f9:=(Option.some.inj (func9.symm.trans hfn)).symm
   exact⟨by kernel_rfl,λj t ht=>by
    rw[params9]at ht;have hm:t∈[22,24]:=by simpa using Array.mem_of_getElem? ht
    have hall:([22,24].all λu=>!prog.wantsStandIn u)=true:=by kernel_rfl
    exact(show prog.wantsStandIn t=false by simpa using List.all_eq_true.1 hall t hm)⟩)
  ig
end Go.Proofs.YtlpmiimgacfmkaaGreatDoor
