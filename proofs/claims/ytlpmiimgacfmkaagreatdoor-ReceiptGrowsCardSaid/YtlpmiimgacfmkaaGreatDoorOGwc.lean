/- ReceiptGrows returns true at every input; conditions: none but the row's own (its listed variables hold what the program's text lays). -/
import Derived.SevenTiedAt
import Derived.JoinedCond
import Derived.Lay
import Derived.Test.YtlpmiimgacfmkaaGreatDoorOGw4
import Derived.Test.YtlpmiimgacfmkaaGreatDoorCards
import Derived.Test.YtlpmiimgacfmkaaGreatDoorTie
set_option linter.all false
namespace Go.Proofs.YtlpmiimgacfmkaaGreatDoor
set_option maxRecDepth 100000
open Go.Proofs.Tryz
open Go.RowKit Go.ChangeShapes Go.WideShapes Go.Deep Go.Joins
theorem handed_change {H:Type} {enc:TypeId × Value->H} {a:Assume} {C:Checked} {os:Os} {f:FuncId} {b:Func} {s:ChangeSpec} {conds:List PathCond} {c l m k:Bool} {laid:List (String × DataW Unit)}
 (A:ownKnob C.prog.godebug=none) (B:os.Started) (z:C.prog.inits.idxOf? f=none) (y:C.prog.funcs[f]?=some b)
 (D:∃ (w:World) (d:Tape) (i:Input),w.os=os/\(w.forCall d i).Shaped C.prog/\i.vars=[]/\Input.okWide C.prog (w.forCall d i) .any w.heap.size f i /\
  ((s.pre enc C.prog b conds c (w.forCall d i).memory i.args/\laidMetH C.prog laid (w.forCall d i).memory)/\sizedMet enc C.prog b (OpenSpec.ofChange s) c (w.forCall d i).memory i.args)/\a.holds C.prog (lone (Frame.enter C.prog f i.args .normal) [] (w.forCall d i)))
 (o:∀ (W:World) (base:Nat) (args:Array Value) (g gs:List (DataW H)) (h:List MemPlace),
  (∀ (j:Nat) t v,b.params[j]?=some t->args[j]?=some v->Value.okWide C.prog W .any base t v) ->
  DataW.Whole enc C.prog b.params.toList s.vars c W args.toList g gs h ->
  (DataW.weightsEach C.prog (b.params.toList++s.plain.varTypes C.prog) (g++gs)).all (·<=reachBytes)=true ->
  laidMetH C.prog laid W->W.ShapedOpen C.prog ->
  Calls C.prog f args W fun e n=>∃ v,e=.returned v/\s.post enc C.prog b c l m k W args v n) :
 ReturnsInHanded a C os f .any (fun w args=>(s.pre enc C.prog b conds c w args/\laidMetH C.prog laid w)/\sizedMet enc C.prog b (OpenSpec.ofChange s) c w args) (s.post enc C.prog b c l m k) :=
 returnsInHanded_of_row (s:=OpenSpec.ofChange s) (F:=fun _ _ _=>0) (conds:=conds) (laid:=laid) A B z y D
  fun W base args g gs h p q _ _ r u x _=>o W base args g gs h p q r u x
theorem Tryz.own:ownKnob prog.godebug=none:=qk
theorem Tryz.laidOut:laidOutB prog=true:=qk
theorem op_spot {H:Type} {enc:TypeId × Value->H} {w:World} {r:Reach} {u:Nat} {v:Value} {d:DataW H} {p:List MemPlace} (F:Value.okWide prog w r u 24 v) (A:DataW.Trod enc prog w 0 (fun _=>true) true 24 v d p) :
 ∃ a b c:Int,v=.agg #[.int .u8 a,.int .u8 b,.int .u8 c]/\(0<=a/\a<256)/\(0<=b/\b<256)/\(0<=c/\c<256):=by
 obtain⟨cs,rfl,E⟩:=okWide_struct underlying24 F;obtain⟨l⟩:=cs;have B:prog.cellsOf 24=3:=qk
 match l,E.trans B with
 | [c0,c1,c2],_ =>
  obtain⟨O,C⟩:=A;obtain⟨xs,n,_,P,_,G,e⟩:=DataW.trod_struct underlying24 C;have q:∀ j,j<3->∃ y,xs[j]?=some y:=fun j D=>⟨_,lge (by rw[G];exact D)⟩;obtain⟨L,e0⟩:=q 0 qo;obtain⟨M,x⟩:=q 1 qo;obtain⟨N,z⟩:=q 2 qo;have I:prog.cellsOf 5=1:=qk
  have f:DataW.trod enc prog w 0 (fun _=>true) true n 5 (([c0,c1,c2].drop 0).take (prog.cellsOf 5))=some L:=(e 0 _ rfl).trans e0;have g:DataW.trod enc prog w 0 (fun _=>true) true n 5 (([c0,c1,c2].drop 1).take (prog.cellsOf 5))=some M:=(e 1 _ rfl).trans x;have h:DataW.trod enc prog w 0 (fun _=>true) true n 5 (([c0,c1,c2].drop 2).take (prog.cellsOf 5))=some N:=(e 2 _ rfl).trans z;rw[I] at f g h;obtain⟨o,i,_,J⟩:=DataW.trod_int underlying5 f;obtain⟨s,k,_,K⟩:=DataW.trod_int underlying5 g;obtain⟨t,m,_,w2⟩:=DataW.trod_int underlying5 h;simp at i k m;subst i k m;exact⟨o,s,t,rfl,bounds_u8 J,bounds_u8 K,bounds_u8 w2⟩
theorem grows_calls {H:Type} {enc:TypeId × Value->H} (W:World) (base:Nat) (args:Array Value) (s gs:List (DataW H)) (L:List MemPlace)
 (C:∀ (j:Nat) t v,Tryz.f7.params[j]?=some t->args[j]?=some v->Value.okWide prog W .any base t v)
 (hW:DataW.Whole enc prog Tryz.f7.params.toList Rows.receiptGrowsSpec.vars false W args.toList s gs L)
 (B:(DataW.weightsEach prog (Tryz.f7.params.toList++Rows.receiptGrowsSpec.plain.varTypes prog) (s++gs)).all (·<=reachBytes)=true)
 (N:laidMetH prog laid3 W) (T:W.ShapedOpen prog) :
 Calls prog 7 args W fun e o=>∃ v,e=.returned v/\Rows.receiptGrowsSpec.post enc prog Tryz.f7 false true false false W args v o:=by
 have d:=C;have h:=hW;have m:=B;obtain⟨p,q,z,A,rfl,_,_⟩:=hW;rw[params7] at z d m;obtain⟨V,X,Y,f,r,Z,D,E,p2,rfl,rfl,rfl,u,w,y⟩:=trodAll_three z;obtain⟨rfl,rfl⟩:=trodVars_none A;clear A C B;simp only[List.append_nil] at h m;have i:∀ x∈D++E++p2,x.block<W.heap.size:=fun x a=>by simpa using h.lt x a
 have O:Fits 22 f:=fun k Q=>by
  have:=List.all_eq_true.1 m k (DataW.weights_mem_each (t:=22) (j:=0) rfl rfl k Q);simpa using this
 obtain⟨F,c,l,rfl,R⟩:=op_acts (d 0 22 V rfl rfl) O u;obtain⟨G,U,at_,rfl,I,J,K⟩:=op_spot (d 1 24 X rfl rfl) w;obtain⟨n,rfl,rfl,_,aa⟩:=open_int underlying3 (d 2 3 Y rfl rfl) y;have S:=ok_of T N;refine (Grows_any F c l G U at_ n I J K W S R).mono ?_;rintro e o ⟨rfl,P⟩;have b:=P.below0;have g:Rows.receiptGrowsSpec.fn H ([f,r,.lit (.int .i64 n)]++[])={ results:=[.lit (.bool true)],args:=[f,r,.lit (.int .i64 n)] }:=rfl;refine⟨_,rfl,_,_,_,[],D++E++p2,[],h,?_,?_,?_,b.frame _,fun M=>by cases M⟩
 ·rw[g];exact trodAll_mk1 (shut_bool underlying4 true)
 ·rw[g,params7,List.append_assoc];exact trodAll_mk3 (Below.trod Tryz.laidOut qk (of_decide_eq_true qk) u b (fun x a=>i x (by simp[a]))) (Below.trod Tryz.laidOut qk (of_decide_eq_true qk) w b (fun x a=>i x (by simp[a]))) (Below.trod Tryz.laidOut qk (of_decide_eq_true qk) y b (fun x a=>i x (by simp[a])))
 ·rw[g];rfl
theorem grows_witness (os:Os) {H:Type} (enc:TypeId × Value->H):∃ (w:World) (a:Tape) (i:Input),w.os=os/\(w.forCall a i).Shaped prog/\i.vars=[]/\Input.okWide prog (w.forCall a i) .any w.heap.size 7 i /\
 ((Rows.receiptGrowsSpec.pre enc prog Tryz.f7 [] false (w.forCall a i).memory i.args/\laidMetH prog laid3 (w.forCall a i).memory)/\sizedMet enc prog Tryz.f7 (OpenSpec.ofChange Rows.receiptGrowsSpec) false (w.forCall a i).memory i.args)/\({ modest:=false }:Assume).holds prog (lone (Frame.enter prog 7 i.args .normal) [] (w.forCall a i)) :=
 ChangeSpec.witness_shaped (enc:=enc) (C:=Tryz.checked) (os:=os) (X:=fun w _=>laidMetH prog laid3 w) false (World.laidAll prog os laid3) #[gz,.agg #[.int .u8 0,.int .u8 0,.int .u8 0],L0] 8 (World.laidAll_os _ _ _) (World.shaped_of_ZipB qk qk) qk qk qk (by rw[MakeChecks.laidMetH_plain _ _ _ qk];exact laidMet_laidAll _ qk qk)
theorem grows_lifted (os:Os) (a:os.Started) (H:Type) (enc:TypeId × Value->H) :
 ReturnsInHanded {} Tryz.checked os 7 .any (fun w args=>(Rows.receiptGrowsSpec.pre enc prog Tryz.f7 [] false w args/\laidMetH prog laid3 w)/\sizedMet enc prog Tryz.f7 (OpenSpec.ofChange Rows.receiptGrowsSpec) false w args)
  (Rows.receiptGrowsSpec.post enc prog Tryz.f7 false true false false) :=
 handed_change (C:=Tryz.checked) (s:=Rows.receiptGrowsSpec) (conds:=[]) (laid:=laid3) Tryz.own a qk func7 (grows_witness os enc) grows_calls
theorem grows_f1:(Rows.receiptGrowsRow.inPlace == prog.inPlace 7)=true:=qk
theorem grows_f2:(Rows.receiptGrowsRow.unfollowed == prog.unfollowed 7)=true:=qk
theorem grows_f3:(Rows.receiptGrowsRow.recurses == prog.recurses 7)=true:=qk
theorem grows_f4:(Rows.receiptGrowsRow.named == prog.varsNamed 7)=true:=qk
theorem grows_facts:joinedFacts prog 7 Tryz.f7 Rows.receiptGrowsSpec Rows.receiptGrowsRow=true:=by
 unfold joinedFacts;rw[grows_f1,grows_f2,grows_f3,grows_f4]
 kernel_rfl
theorem grows_goes:false=Rows.receiptGrowsRow.goesBy prog:=qk
theorem grows_said:Rows.ReceiptGrowsSaid :=
 OpenClaim.holds_of_wide 7 Tryz.f7 rfl rfl rfl rfl rfl rfl rfl ⟨rfl,rfl,rfl,rfl,rfl⟩ rfl rfl rfl rfl rfl qk func7 grows_facts
  (of_decide_eq_true qk) (by unfold Func.isWrapper;rw[if_neg (of_decide_eq_false qk)];exact⟨rfl,rfl⟩)
  (fun os a H enc _=>grows_lifted os a H enc)
theorem receiptGrows_card:Rows.ReceiptGrowsCardSaid :=
 Claim7.holds_tied_plain_at .later [] [.data, .data, .data] true (true, "57061b68ad7336fc6bdaa26409ad1cf0e60500f7215cca129de044d70fe20d39") false
  grows_said (fun _ h=>by cases h) qk (fun _ h=>by cases h) receiptGrows_row_tie rfl ⟨rfl,rfl⟩ qk rfl
  (fun f b d e=>by
   obtain rfl : f = 7 := Option.some.inj ((show prog.funcNamed "replevin/replevinlaw55.ReceiptGrows" = some 7 by kernel_rfl).symm.trans d) |>.symm;obtain rfl:b=Tryz.f7:=(Option.some.inj (func7.symm.trans e)).symm
   exact⟨qk,fun j t a=>by
    rw[params7] at a;have g:t∈[22,24,3]:=by simpa using Array.mem_of_getElem? a
    have c:([22,24,3].all fun u=>!prog.wantsStandIn u)=true:=qk
    exact (show prog.wantsStandIn t=false by simpa using List.all_eq_true.1 c t g)⟩)
  grows_goes
#print axioms receiptGrows_card
end Go.Proofs.YtlpmiimgacfmkaaGreatDoor
