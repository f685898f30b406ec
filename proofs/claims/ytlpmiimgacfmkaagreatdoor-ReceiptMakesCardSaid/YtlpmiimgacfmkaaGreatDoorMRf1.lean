/- Range over a function: a round's regions by their plain laws; a range over a function that yields a known list. -/
import Derived.Test.YtlpmiimgacfmkaaGreatDoorMGj
import Derived.Test.YtlpmiimgacfmkaaGreatDoorMPlain1
import Derived.Test.YtlpmiimgacfmkaaGreatDoorMOb5
set_option linter.all false
namespace Go.Proofs.YtlpmiimgacfmkaaGreatDoor
open Go.Proofs.Tryz
open Go.RowKit Go.Shelf
section
variable {P:Program} {r n:Nat} {ops:Array Oper} {Q:Exit->Act->World->Prop} {md:Region.Mode}
def Oper.plainB (o:Oper):Bool:=match o.op with
 | .defer _=>false
 | _=>true
theorem Oper.plain_spec {o:Oper} (h:Oper.plainB o=true):∀ c,o.op≠.defer c:=by
 intro c hc;simp[Oper.plainB,hc] at h
theorem oper_lift {o:Oper} {a:Act} {w:World} {K:Act->World->Prop} (hd:Oper.plainB o=true) (h:o.wp P a w K Q):o.wpIn (Fence.wide.inRound r) n P a w K Q:=by
 refine⟨fun _ _=>trivial,?_⟩;rw[Oper.semAt_eq _ _ _ (Oper.plain_spec hd)];unfold Oper.wp at h;generalize (execOp a.eval o).run P w=res at h ⊢
 cases res with
 | ok x w' =>
  cases x with
  | value v=>exact h
  | skip=>exact h
  | defer d=>exact h
  | enter f args=>exact⟨fun h=>by simp[Fence.wide] at h,callsIn_wide.2 h⟩
  | row rw args=>exact⟨fun h=>by simp[Fence.wide] at h,fun c cs _=>by
   obtain ⟨v, w'', h1, h2⟩ := h c cs
   exact ⟨v, w'', h1, stepsIn_wide.2 h2⟩⟩
  | _=>exact h.elim
 | halt x w'=>cases x <;> exact h
theorem wpOp_lift {i:Nat} {K:Act->World->Prop} {a:Act} {w:World} (hd:∀ o,ops[i]?=some o->Oper.plainB o=true) (hQ:∀ a w,¬ Q .outgrown a w) (h:wpOp P ops Q i K a w):wpOpIn (Fence.wide.inRound r) n P ops Q i K a w:=by
 unfold wpOp at h;unfold wpOpIn
 cases ho:ops[i]? with
 | none=>simpa [ho] using h
 | some o =>
  simp only[ho] at h ⊢;split at h
  ·rename_i hw
   rw[if_pos hw]
   rcases h with h | ⟨_,a0,w0,h⟩
   ·exact oper_lift (hd o ho) h
   ·exact absurd h (hQ a0 w0)
  ·rename_i hw
   rw[if_neg hw];exact⟨fun _ _=>trivial,h⟩
theorem wpAny_lift (hd:∀ (i:Nat) (o:Oper),ops[i]?=some o->Oper.plainB o=true) (hQ:∀ a w,¬ Q .outgrown a w) (f:Nat):∀ (S:Array Bool) (a:Act) (w:World),wpAny P md ops Q f S a w->wpAnyIn (Fence.wide.inRound r) n P md ops Q f S a w:=by
 induction f with
 | zero=>intro S a w h;exact h
 | succ f ih =>
  intro S a w h;exact⟨h.1,fun i hi=>wpOpIn_mono (fun a' w' h'=>ih _ a' w' h') (wpOp_lift (hd i) hQ (h.2 i hi))⟩
end
section
variable {P:Program} {r m:Nat} {Q:Exit->Act->World->Prop}
theorem wpAny_head (C:World->Prop) {a:Act} {w:World} {l:List Oper} (n:Nat)
 (h:headI P .any l.toArray Q C n (fun S a w=>Region.seqB .any l.toArray (l.toArray.size - n) n S=true/\wpList P l.toArray Q (l.drop n) a w) n (Array.replicate l.toArray.size false) a w) (hn:n<=l.length):wpAny P .any l.toArray Q l.toArray.size (Array.replicate l.toArray.size false) a w:=by
 have inv:HeadInv .any l.toArray n (Array.replicate l.toArray.size false) :=
  ⟨by simp,fun j oj _ hl=>absurd hl (by rw[getD_replicate_false];simp),fun t _ ht=>getD_in (by simpa using ht) (getD_replicate_false _ _)⟩
 have hdl:(l.drop n).length=l.toArray.size - n:=by simp
 have hA:=wpAny_of_headH (g:=l.toArray.size - n) (fun S a' w' hL=>by
  have:=wpAny_of_seq (md:=.any) (Q':=Q) (l.drop n) n S a' w' (fun j=>by simp[List.getElem?_drop]) (by rw[hdl];exact hL.1) hL.2
  rwa [hdl] at this) _ _ _ _ (h inv)
 rw[show n+(l.toArray.size - n)=l.toArray.size by simp;omega] at hA;exact hA
theorem wpIn_region_head (C:World->Prop) {id:Nat} {a:Act} {w:World} {l:List Oper} (n:Nat) (hm:P.follows .mixedOrders=true) (hd:l.all Oper.plainB=true) (hQ:∀ a w,¬ Q .outgrown a w)
 (h:headI P .any l.toArray Q C n (fun S a w=>Region.seqB .any l.toArray (l.toArray.size - n) n S=true/\wpList P l.toArray Q (l.drop n) a w) n (Array.replicate l.toArray.size false) a w.drew) (hn:n<=l.length):(Code.region id l.toArray true).wpIn (Fence.wide.inRound r) m P Q a w :=
 wpIn_region_any hm (wpAny_lift (fun i o ho=>by
  have:o∈l:=lmg (by simpa using ho);exact List.all_eq_true.1 hd o this) hQ _ _ _ _ (wpAny_head C n h hn))
end
theorem fr_putObj {w W:World} {r:Nat} (o:Obj) {S:List Nat} (h:Fr S w W) (hr:r∈S \/ w.heap.size<=r):Fr S w (W.putObj r o) :=
 ⟨h.os,h.tape,h.output,by simpa using h.size,fun k hk hS=>(World.putObj_heap_other (by rintro rfl;rcases hr with hr | hr;exact hS hr;omega)).trans (h.block k hk hS)⟩
theorem wp_rangeFunc_list {α:Type} {P:Program} {g:Operand} {ps:Array Tmp} {assign body:Code} {Q:Exit->Act->World->Prop} {a:Act} {w:World} {gf:Nat} {lb:Array Value} (n:Nat) (xs:List α) (encs:α->Array Value)
 (hg:a.eval g=.func (.func gf) #[] lb) (eg:∀ args w,(callFunc gf args).run P w=.ok (.enter gf args) w) (hps:∀ x,(encs x).size=ps.size)
 (I:Nat->World->Prop) (hI:∀ k W W',I k W->Fr [w.heap.size,w.heap.size+1] W W'->I k W') (h0:I 0 w)
 (hseq:∀ (l:Nat) (J:Nat->World->Prop) (W:World),Fr [] w W->(∀ k W1,J k W1->I k W1)->(∀ k x W1,xs[k]?=some x->J k W1->YieldAt Fence.wide (n - 1) P l (encs x) W1 fun e W'=>e=.returned (.bool true)/\J (k+1) W')->J 0 W ->
  CallsIn Fence.wide n P gf (#[.func (.yield l) #[] #[]]++lb) W fun e W'=>(∃ v,e=.returned v)/\J xs.length W')
 (A:Nat->Act->World->Prop) (hA:∀ k a' W W',A k a' W->Fr [w.heap.size,w.heap.size+1] W W'->A k a' W')
 (hassign:∀ (l k:Nat) (x:α) (W:World) (K:Act->World->Prop),xs[k]?=some x->I k W->w.heap.size+2<=W.heap.size->(∀ a' W',Fr [] W W'->A k a' W'->K a' W') ->
  assign.wpIn (Fence.wide.inRound l) (n - 1) P (Exit.then K (fun _ _ _=>False)) { tmps:=(ps.zip (encs x)).foldl (fun t (p,v)=>t.setIfInBounds p v) a.tmps,defers:=[] } W)
 (hbody:∀ (l k:Nat) (x:α) (a':Act) (W:World),xs[k]?=some x->A k a' W->w.heap.size+2<=W.heap.size->body.wpIn (Fence.wide.inRound l) (n - 1) P (fun e _ W'=>e=.normal/\I (k+1) W'/\(∃ S,Fr S W W'/\w.heap.size ∉ S/\w.heap.size+1 ∉ S)) a' W)
 (hdone:∀ (D:Nat) (W:World),w.heap.size<=D->I xs.length W->W.heap[D]?=some (.deferred (some []))->Q .normal { a with defers:={ target:=.collected D,args:=#[] }::a.defers } W) :
 (Code.rangeFunc g ps assign body).wp P Q a w:=by
 refine (wpIn_wide (n:=n+1)).1 (wpIn_rangeFunc fun fn hfn=>?_);obtain⟨rec,hrec⟩:∃ rec:LoopState->Option Code->Loop,rec=fun st pe=>{ state:=st,pending:=pe,fn,tmps:=a.tmps,params:=ps,assign,body,defers:=w.heap.size }:=⟨_,rfl⟩;obtain⟨W1,hW1⟩:=nmd ((w.alloc (.deferred (some []))).alloc (.loop (rec .ready none)))
 have hL1:W1.heap[w.heap.size+1]?=some (.loop (rec .ready none)):=by
  rw[<-hW1];have:=World.alloc_heap_new (w.alloc (.deferred (some []))) (.loop (rec .ready none))
  rwa [wsA] at this
 have hK1:W1.heap[w.heap.size]?=some (.deferred (some [])):=by
  rw[<-hW1];exact (Below.heap_alloc _ _ _ (by simp)).trans (World.alloc_heap_new w _)
 have hf1:Fr [] w W1:=by rw[<-hW1];exact ((Fq [] w).alloc _).alloc _
 have hfD:∀ (W:World) (o:Obj),Fr [w.heap.size,w.heap.size+1] W (W.putObj (w.heap.size+1) o):=fun W o=>fr_putObj o (Fq _ W) (.inl (by simp));refine⟨w.heap.size+1,[{ target:=.collected w.heap.size,args:=#[] }],W1,{ target:=.fn (.func gf) lb,args:=#[.func (.yield (w.heap.size+1)) #[] #[]] },W1,gf,#[.func (.yield (w.heap.size+1)) #[] #[]]++lb,W1,?_,?_,fun _ _=>trivial,?_,fun _=>Nat.succ_le_succ (Nat.zero_le n),?_⟩
 ·rw[<-hW1,hrec];exact run_enterLoop_outer _ _ _ _ _
 ·simp only[resolve,hg]
  simp[go_sem]
 ·simp[invoke,go_sem,eg]
 ·refine (hseq (w.heap.size+1) (fun k W=>I k W/\W.heap[w.heap.size+1]?=some (.loop (rec .ready none))/\W.heap[w.heap.size]?=some (.deferred (some []))) W1 hf1 (fun _ _ h=>h.1) ?_ ⟨hI 0 w W1 h0 (hf1.mono (by simp)),hL1,hK1⟩).mono ?_
  ·rintro k x W hx ⟨hi,hl,hk⟩
   have hlt:w.heap.size+1<W.heap.size:=(Array.getElem?_eq_some_iff.1 hl).1;have hy:=run_yield (P:=P) (args:=encs x) hl (by rw[hrec];exact hps x);rw[hrec] at hy;refine⟨fn,_,assign,body,hy,roundIn_of_wpIn hfn (hassign _ k x W _ hx hi (by omega) ?_)⟩;clear hy;intro a' Wa hfa hax;have hlta:w.heap.size+1<Wa.heap.size:=Nat.lt_of_lt_of_le hlt hfa.size
   replace hl:=(hfa.block _ (by omega) (by simp)).trans hl
   replace hk:=(hfa.block _ (by omega) (by simp)).trans hk
   refine⟨_,run_beginRound hl (by rw[hrec]),?_⟩;have hl2:(Wa.putObj (w.heap.size+1) (.loop { rec .ready none with state:=.busy })).heap[w.heap.size+1]?=some (.loop { rec .ready none with state:=.busy }):=World.putObj_heap_same hlta;have hk2:(Wa.putObj (w.heap.size+1) (.loop { rec .ready none with state:=.busy })).heap[w.heap.size]?=some (.deferred (some [])):=(World.putObj_heap_other (by omega)).trans hk;refine wpIn_mono (hbody _ k x a' _ hx (hA k a' _ _ hax (hfD _ _)) (by simp;omega)) ?_;rintro e a3 W3 ⟨rfl,hi3,S,hf3,hS0,hS1⟩;have hl3:=(hf3.block _ (by simp;omega) hS1).trans hl2;have hk3:=(hf3.block _ (by simp;omega) hS0).trans hk2;have hr:=run_endRound (P:=P) none hl3;refine⟨_,_,hr,rfl,hI _ _ _ hi3 (hfD _ _),?_,(World.putObj_heap_other (by omega)).trans hk3⟩;have hs3:=(Array.getElem?_eq_some_iff.1 hl3).1;exact (World.putObj_heap_same hs3).trans (by rw[hrec];rfl)
  ·rintro e W2 ⟨⟨v,rfl⟩,hi,hl,hk⟩
   refine⟨none,_,by have:=run_endLoop (P:=P) hl (by rw[hrec];simp);rw[hrec] at this;exact this,?_⟩;exact hdone w.heap.size _ (nlr _) (hI _ _ _ hi (hfD _ _)) ((World.putObj_heap_other (by omega)).trans hk)
set_option maxRecDepth 100000
set_option maxHeartbeats 4000000
theorem putObj_fr (W:World) {r B:Nat} (o:Obj) (hr:B<=r) {w:World} (hf:Fr [] w W) (hB:w.heap.size<=B):Fr [] w (W.putObj r o) :=
 hf.trans (T:=[r]) ⟨rfl,rfl,rfl,by simp[World.putObj],fun k _ hk=>World.putObj_heap_other (by simpa using hk)⟩ (by simp;omega)
theorem wp_rangeFunc_none {P:Program} {g:Operand} {ps:Array Tmp} {assign body:Code} {Q:Exit->Act->World->Prop} {a:Act} {w:World} {gf:Nat} {lb:Array Value} (hg:a.eval g=.func (.func gf) #[] lb) (eg:∀ args w,(callFunc gf args).run P w=.ok (.enter gf args) w)
 (hc:∀ W l,Fr [] w W->Calls P gf (#[.func (.yield l) #[] #[]]++lb) W fun e W'=>(∃ v,e=.returned v)/\W'=W)
 (hdone:∀ (D:Nat) (W:World),w.heap.size<=D->Fr [] w W->W.heap[D]?=some (.deferred (some []))->Q .normal { a with defers:={ target:=.collected D,args:=#[] }::a.defers } W) :
 (Code.rangeFunc g ps assign body).wp P Q a w:=by
 refine (wpIn_wide (n:=1)).1 (wpIn_rangeFunc fun fn hfn=>?_);obtain⟨rec,hrec⟩:∃ rec:LoopState->Option Code->Loop,rec=fun st pe=>{ state:=st,pending:=pe,fn,tmps:=a.tmps,params:=ps,assign,body,defers:=w.heap.size }:=⟨_,rfl⟩;obtain⟨W1,hW1⟩:=nmd ((w.alloc (.deferred (some []))).alloc (.loop (rec .ready none)))
 have hL1:W1.heap[w.heap.size+1]?=some (.loop (rec .ready none)):=by
  rw[<-hW1];have:=World.alloc_heap_new (w.alloc (.deferred (some []))) (.loop (rec .ready none))
  rwa [wsA] at this
 have hK1:W1.heap[w.heap.size]?=some (.deferred (some [])):=by
  rw[<-hW1];exact (Below.heap_alloc _ _ _ (by simp)).trans (World.alloc_heap_new w _)
 have hf1:Fr [] w W1:=by rw[<-hW1];exact ((Fq [] w).alloc _).alloc _
 refine⟨w.heap.size+1,[{ target:=.collected w.heap.size,args:=#[] }],W1,{ target:=.fn (.func gf) lb,args:=#[.func (.yield (w.heap.size+1)) #[] #[]] },W1,gf,#[.func (.yield (w.heap.size+1)) #[] #[]]++lb,W1,?_,?_,fun _ _=>trivial,?_,fun _=>nlr 1,?_⟩
 ·rw[<-hW1,hrec];exact run_enterLoop_outer _ _ _ _ _
 ·simp only[resolve,hg]
  simp[go_sem]
 ·simp[invoke,go_sem,eg]
 ·refine (callsIn_wide.2 (hc W1 (w.heap.size+1) hf1)).mono ?_
  rintro e W2 ⟨⟨v,rfl⟩,rfl⟩;refine⟨none,_,by have:=run_endLoop (P:=P) hL1 (by rw[hrec];simp);rw[hrec] at this;exact this,?_⟩;exact hdone w.heap.size _ (nlr _) (putObj_fr _ _ (Nat.le_succ _) hf1 (nlr _)) ((World.putObj_heap_other (by omega)).trans hK1)
def BytesPost (w:World) (bs:Nm) (e:Ending) (w':World):Prop:=∃ A c,e=.returned (.slice A bs.length c)/\Own w' 5 1 A bs.length c (dCells bs)/\Fr [] w w'
theorem EncodeS_nil (b:Nat) (w:World) (h:StAt w b .nil):Calls prog 148 #[.pointer (some ⟨b,0,none⟩)] w (BytesPost w (encU 0)):=by
 refine (callsIn_wide (n:=5)).1 ?_;refine callsIn_of_wp_marks func148 rfl trivial ?_ rfl;simp only[ntmps148,List.size_toArray,List.length_cons,List.length_nil,Nat.reduceAdd,Nat.reduceSub,Array.replicate_succ,Array.replicate_zero,List.push_toArray,List.append_toArray,List.nil_append,List.cons_append];refine wpIn_wide.2 ?_;have hlt:=h.1.lt
 go_upto_region 4 with ((go_at_call 54;(with_reducible refine (NewWriter_any _).mono ?_);rintro e w3 ⟨rfl,hwr3,hf3⟩))
 have hws3:=WrS.new hwr3;obtain⟨w4,hw4⟩:=nmd (w3.alloc (.cells #[.pointer (some ⟨w.heap.size,0,none⟩)] 125));have hbx:BoxN w4 w3.heap.size 125 #[.pointer (some ⟨w.heap.size,0,none⟩)]:=by rw[<-hw4];exact BoxN.new w3 _ _
 have hws4:WrS w3 w.heap.size [] w4:=by rw[<-hw4];exact hws3.alloc _
 have hf34:Fr [] w3 w4:=by rw[<-hw4];exact (Fq [] w3).alloc _
 rw[hw4];have hbe:w.heap.size≠w3.heap.size:=by have:=hws3.blt;omega
 generalize hZ:w3.heap.size=Z at hbx hbe ⊢;have hN:=fun (W:World) (hW:Fr [] w4 W)=>Number_wk (hws4.more hW hws4.blt) 0 (by omega) (by simp);have hL:∀ W,Fr [] w4 W->Calls prog 38 #[.pointer (some ⟨b,0,none⟩)] W fun e w'=>e=.returned (.int .i64 0)/\w'=W:=fun W hW=>LenS_any b .nil W (h.fr0 (hf3.then (hf34.then hW)));have hss:∀ W,Fr [] w4 W->W.cell? ⟨Z,0,none⟩=some (.pointer (some ⟨w.heap.size,0,none⟩)):=fun W hW=>(hbx.fr hW (by simp)).c 0;have HSS:=Hd (fun W hW=>An (hss W hW) trivial);have HN:=Hd hN;have HL:=Hd hL;have HF3:=Hd (hf3.then hf34);have HH:=Hd h;have HBX:=Hd hbx;have HA:=Hd hf3;clear hN hL hss hws4 hws3 hbx hf34 hw4 hwr3 h hf3;refine wp_region_qtail (fun W=>Fr [] w4 W) 3 (by kernel_rfl) (by kernel_rfl) ((Fq [] w4).drew) ?_;simp only[List.take_succ_cons,List.take_zero,qG,qH]
 repeat (
  first
  | go_big_quiet_skip
  | (go_big_quiet_want
     first
     | (go_big_quiet_op
        go_big_quiet_on)
     | (apply Exists.intro
        refine⟨fun W hW=>?_,?_⟩
        ·(obtain⟨z0,_⟩:=HSS.out W hW
          go_simp
          first
          | done
          | (with_reducible exact rfl)
          | (with_reducible exact⟨rfl,rfl⟩)
          | ((go_at_call 38;(with_reducible refine (HL.out W hW).mono ?_);rintro e w' ⟨rfl,rfl⟩;exact⟨rfl,hW⟩)))
        simp only[Act.put,qA,qB,qC]
        go_big_quiet_on))
  )
 refine wpQuiet_nil ?_;intro W5 hW5;have hn5:=HN.out W5 hW5;rw[show (((0:Nat)):Int)=0 from rfl] at hn5;have HW5:=Hd hn5;clear hn5;have HB5:=Hd (HBX.out.fr hW5 (by simp));have HND:=Hd (fun W=>callsIn_wide.1 (nodes_any 0 b W))
 go_wp2_with (first
  | (go_at_call 57;(with_reducible refine HW5.out.mono ?_);rintro e w6 ⟨rfl,hws6,hk6⟩;have HB6:=Hd (hk6 _ _ _ (by decide) hbe.symm HB5.out);have HW6:=Hd hws6;clear hk6 hws6)
  | (go_at_call 96;(with_reducible refine (HND.out _).mono ?_);rintro e w7 ⟨rfl,rfl⟩))
 obtain⟨w7,hw7⟩:=nmd (w6.alloc (.cells #[.pointer (some ⟨b,0,none⟩)] 86));rw[hw7];have hf67:Fr [] w6 w7:=by rw[<-hw7];exact (Fq [] w6).alloc _
 have hd7:BoxN w7 w6.heap.size 86 #[.pointer (some ⟨b,0,none⟩)]:=by rw[<-hw7];exact BoxN.new w6 _ _
 have hf7:Fr [] w w7:=(HA.out.trans HW6.out.fr (by simp)).then hf67;have hs7:=HH.out.fr0 hf7;have hws7:=HW6.out.more hf67 HW6.out.blt;have hb7:=HB6.out.fr hf67 (by simp);clear hw7 HB5 HW5 HN HL HSS HF3 HBX hW5;refine wp_rangeFunc_none rfl (enters_of func155 (by kernel_rfl) rfl) (lb:=#[.pointer (some ⟨w6.heap.size,0,none⟩)]) ?_ ?_
 ·intro W l hW
  have x0:W.cell? ⟨w6.heap.size,0,none⟩=some (.pointer (some ⟨b,0,none⟩)):=(hd7.fr hW (by simp)).c 0;have x1:W.cell? ⟨b,0,none⟩=some (.pointer none):=(hs7.fr0 hW).1.c 0;have HE:=Hd (fun f=>callsIn_wide.1 (each_nil_in 0 f W));clear hd7 hs7
  go_enter func155,ntmps155
  go_wp2_with ((go_at_call 156;(with_reducible refine (HE.out _).mono ?_);rintro e w' ⟨rfl,rfl⟩))
  go_end0
  exact⟨⟨_,rfl⟩,rfl⟩
 ·intro D W hD hW hK
  have hb8:=hb7.fr hW (by simp);have x0:=hb8.k0;have hws8:=hws7.more hW hws7.blt;have HB:=Hd (Bytes_ws hws8 (by have:=encU_len9 (u:=0) (by omega);simp only[List.nil_append];omega));have HFR:=Hd (hf7.then hW);have HK:=Hd hK;have hsz7:=hf7.size;clear hb8 hb7 hws8 hws7 hs7 hd7 hf7 hf67 hK
  go_wp2_with ((go_at_call 58;(with_reducible refine HB.out.mono ?_);rintro e w9 ⟨A',c',rfl,ho9,hf9,hb9⟩;have HP:=Hd (An ho9 (An hf9 hb9));clear ho9 hf9 hb9))
  obtain⟨ho9,hf9,hb9⟩:=HP.out;have hDl:D<W.heap.size:=(Array.getElem?_eq_some_iff.1 HK.out).1;have hK9:w9.heap[D]?=some (.deferred (some [])):=(hf9.block D hDl (by simp)).trans HK.out;have hf10:Fr [D] w9 (w9.putObj D (.deferred none)):=⟨rfl,rfl,rfl,by simp[World.putObj],fun k _ hk=>World.putObj_heap_other (by simpa using hk)⟩;refine⟨by simp,.inl ⟨_,_,rfl,run_takeDeferred hK9,?_⟩⟩;refine⟨.slice A' (encU 0).length c',?_,A',c',rfl,?_,?_⟩
  ·simp[results,Tryz.f148,go_sem]
  ·have h:=ho9.fr hf10 (by intro k hk;have:=hb9 k hk;simp only[lms];omega)
   simpa only[List.nil_append] using h
  ·have hd:w.heap.size<=D:=by omega
   exact (HFR.out.then hf9).trans (hf10) (by simp;omega)
def stD0:Nm:=shaN (encU 0)
theorem DigestS_nil (b:Nat) (w:World) (hok:Ok w) (h:StAt w b .nil):Calls prog 88 #[.pointer (some ⟨b,0,none⟩)] w (SumPost w stD0):=by
 obtain⟨w1,hw1⟩:=nmd (w.alloc (.cells (z32) 56));have hf1:Fr [] w w1:=by rw[<-hw1];exact (Fq [] w).alloc _
 obtain⟨fR,hR⟩:∃ f,w1.rowIs w.heap.size 56 32 f:=by rw[<-hw1];exact⟨_,row_new w _ _⟩
 have HE:=Hd (EncodeS_nil b w1 (h.fr0 hf1));have HSM:=Hd (fun (W:World) (hW:Fr [] w1 W)=>SumS_any (encU 0) W (hok.fr0 (hf1.then hW)) (by have:=encU_len9 (u:=0) (by omega);omega));have hd32:stD0.length=32:=shaN_len _;have hds:shaN (encU 0)=stD0:=rfl;rw[hds] at HSM;generalize stD0=d at HSM hd32 ⊢;have hcl:(dCells d).length=32:=by rw[dcells_len,hd32]
 generalize encU 0=eb at HE HSM;have HW1:=Hd hw1;have HF1:=Hd hf1;have HR:=Hd hR;clear hw1 hf1 hR hds
 go_enter func88,ntmps88
 go_upto_region 1 with fail
 rw[HW1.out]
 go_wp2_with (first
  | (go_at_call 148;(with_reducible refine HE.out.mono ?_);rintro e w2 ⟨A,c,rfl,ho2,hf2⟩;have hcv:=run_row_str ho2.row 49 5 underlying49 underlying5 9 underlying9 c;have HF2:=Hd hf2;clear ho2 hf2)
  | (go_at_call 29;(with_reducible refine (HSM.out _ HF2.out).mono ?_);rintro e w3 ⟨rfl,hf3⟩;unfold encD;have hR3:=rowIs_fr (rowIs_fr HR.out HF2.out (by simp)) hf3 (by simp);have HF3:=Hd (HF2.out.then hf3);clear hf3;have hst:=store_digest (d:=d) hR3 hd32;have hrd:=row_digest (d:=d) hR3 hd32;obtain⟨w4,hw4⟩:∃ X,w3.setCells w.heap.size 0 (dCells d)=X:=⟨_,rfl⟩;have hf4:Fr [] w w4:=(by rw[<-hw4];exact ((HF1.out.then HF3.out).setCells (.inr (nlr _)) _ _));rw[hw4] at hst hrd;have HRD:=Hd hrd.1;have HF4:=Hd hf4;clear hw4 hrd hf4 hR3))
 exact bodyPost_ret (v:=encD d) (results_cell_mid (d:=.array 32 5) (p:=2) (ty:=56) (b:=w.heap.size) (o:=0) rfl rfl HRD.out (by kernel_rfl) rfl (by rw[hcl];rfl)) rfl ⟨rfl,HF4.out⟩
open Go.RowKit
section
variable {P:Program} {C:World->Prop} {K:Act->Prop} {o:Oper} {a:Act}
theorem quiet_load_mid (ty:TypeId) (x:Operand) (ho:o.op=.load ty x) (b off:Nat) (hx:a.eval x=.pointer (some ⟨b,off,none⟩)) (cs:List Value) (d:TypeDesc) (hc:∀ W,C W->W.rangeAt b off cs)
 (hu:P.underlying ty=some d) (hd:d.isRow=true) (hi:(P.info? ty).map (·.size)=some cs.length) (hk:K (a.put o.dst (.agg cs.toArray))):o.quiet P a C K :=
 ⟨_,fun W hW=>by
  unfold Oper.quietAt execOp;simp only[ho,hx,Instr.loadAt,Instr.sureAddr,Sem.run_bind,Sem.run_pure,Result.andThen_ok,run_loadVar_mid W b off ty cs d (hc W hW) hu hd hi];exact⟨rfl,rfl⟩,hk⟩
end
structure TreeIs (w:World) (b:Nat) (A:Option Addr) (c:Nat) (m:Option Nat) (ds:List Nm) (kvs:List (Value × Value)):Prop where
 box:BoxN w b 237 #[.slice A ds.length c,.map m]
 own:Own w 57 32 A ds.length c (ds.flatMap dCells)
 len:∀ d∈ds,d.length=32
 nb:b ∉ blk A
 mn:m=none->kvs=[]
 ms:∀ r,m=some r->MapIs prog 270 w r kvs/\r≠b/\r ∉ blk A
def TreeAt (w:World) (b:Nat) (ds:List Nm) (kvs:List (Value × Value)) (F:List Nat):Prop:=∃ A c m,TreeIs w b A c m ds kvs/\F=b::(blk A++m.toList)
section
variable {w w':World} {b c:Nat} {A:Option Addr} {m:Option Nat} {ds:List Nm} {kvs:List (Value × Value)} {F S:List Nat}
theorem TreeIs.fr (h:TreeIs w b A c m ds kvs) (hf:Fr S w w') (hS:∀ k∈b::(blk A++m.toList),k ∉ S):TreeIs w' b A c m ds kvs :=
 ⟨h.box.fr hf (hS b (by simp)),h.own.fr hf (fun k hk=>hS k (by simp[hk])),h.len,h.nb,h.mn,fun r hr=>⟨(h.ms r hr).1.fr hf (hS r (by simp[hr])),(h.ms r hr).2⟩⟩
theorem TreeAt.fr (h:TreeAt w b ds kvs F) (hf:Fr S w w') (hS:∀ k∈F,k ∉ S):TreeAt w' b ds kvs F:=by
 obtain⟨A,c,m,h1,rfl⟩:=h;exact⟨A,c,m,h1.fr hf hS,rfl⟩
theorem TreeAt.fr0 (h:TreeAt w b ds kvs F) (hf:Fr [] w w'):TreeAt w' b ds kvs F:=h.fr hf (by simp)
theorem flat_get {d:Nm}:∀ {ds:List Nm} {i:Nat},(∀ d∈ds,d.length=32)->ds[i]?=some d->∀ j v,(dCells d)[j]?=some v->(ds.flatMap dCells)[32*i+j]?=some v
 | [],i,_,h,_,_,_=>by simp at h
 | x::ds,0,hl,h,j,v,hv=>by
  obtain rfl:x=d:=by simpa using h
  rw[List.flatMap_cons,List.getElem?_append_left (by have:=(lgs.1 hv).1;omega),Nat.mul_zero,Nat.zero_add]
  exact hv
 | x::ds,i+1,hl,h,j,v,hv=>by
  have hx:(dCells x).length=32:=by rw[dcells_len,hl x (by simp)]
  rw[List.flatMap_cons,List.getElem?_append_right (by omega),hx,show 32*(i+1)+j - 32=32*i+j by omega];exact flat_get (i:=i) (fun y hy=>hl y (by simp[hy])) (by simpa using h) j v hv
theorem TreeIs.leaf (h:TreeIs w b A c m ds kvs) {i:Nat} {d:Nm} (hd:ds[i]?=some d):∃ g,A=some ⟨g,0,none⟩/\w.rangeAt g (i*32) (dCells d)/\g<w.heap.size:=by
 have hi:=(lgs.1 hd).1;obtain⟨g,hg,hc⟩:=Cs.of_own h.own (by omega);refine⟨g,hg,fun j v hv=>?_,hc.1⟩;have:=hc.2 _ _ (flat_get (i:=i) h.len hd j v hv);rw[Nat.mul_comm] at this;exact this
end
theorem complete_leaf (b i:Nat) (ds:List Nm) (kvs:List (Value × Value)) (F:List Nat) (d:Nm) (w:World) (h:TreeAt w b ds kvs F) (hd:ds[i]?=some d):Calls prog 149 #[.pointer (some ⟨b,0,none⟩),partV 0 (i:Int)] w (SumPost w d):=by
 obtain⟨A,c,m,hT,rfl⟩:=h;obtain⟨g,rfl,hg,hgl⟩:=hT.leaf hd;have hi:=(lgs.1 hd).1;have hd32:d.length=32:=hT.len d (lmg hd);have hcl:(dCells d).length=32:=by rw[dcells_len,hd32]
 obtain⟨n,hn'⟩:=nmd (ds.length);have hbx:=hT.box;rw[hn'] at hbx hi;obtain⟨w1,hw1⟩:=nmd (w.alloc (.cells #[.int .i64 0,.int .i64 (i:Int)] 270));obtain⟨w2,hw2⟩:=nmd (w1.alloc (.cells (z32) 57));have hs1:w1.heap.size=w.heap.size+1:=by rw[<-hw1,wsA]
 have hf1:Fr [] w w1:=by rw[<-hw1];exact (Fq [] w).alloc _
 have hf12:Fr [] w1 w2:=by rw[<-hw2];exact (Fq [] w1).alloc _
 have hp2:BoxN w2 w.heap.size 270 #[.int .i64 0,.int .i64 (i:Int)]:=by rw[<-hw2,<-hw1];exact (BoxN.new w _ _).alloc _
 obtain⟨fR,hR⟩:∃ f,w2.rowIs w1.heap.size 57 32 f:=by rw[<-hw2];exact⟨_,row_new w1 _ _⟩
 rw[hs1] at hR;have hf2:=hf1.then hf12;have hss:∀ W,Fr [] w2 W->W.cell? ⟨w.heap.size,1,none⟩=some (.int .i64 (i:Int))/\W.cell? ⟨b,0,none⟩=some (.slice (some ⟨g,0,none⟩) n c):=fun W hW=>⟨(hp2.fr hW (by simp)).c 1,((hbx.fr hf2 (by simp)).fr hW (by simp)).c 0⟩;have HGR:=Hd (fun (W:World) (hW:Fr [] w2 W)=>(show W.rangeAt g (i*32) (dCells d) from fun j v hv=>((hf2.then hW).fcell hgl (by simp) _).trans (hg j v hv)));have x0:=hp2.k0;have HSS:=Hd hss;have HR:=Hd hR;have HF2:=Hd hf2;have HW1:=Hd hw1;have HW2:=Hd hw2;have hi2:(i:Int)<(n:Int):=by omega
 clear hss hR hf2 hw1 hw2 hp2 hbx hg hgl hf1 hf12 hT;unfold partV
 go_enter func149,ntmps149
 go_upto_region 1 with fail
 rw[HW1.out,HW2.out]
 go_upto_region 2 with fail
 refine wp_region_qtail (fun W=>Fr [] w2 W) 8 (by kernel_rfl) (by kernel_rfl) ((Fq [] w2).drew) ?_;simp only[List.take_succ_cons,List.take_zero,qG,qH]
 repeat (
  first
  | go_big_quiet_skip
  | (go_big_quiet_want
     first
     | (go_big_quiet_op
        go_big_quiet_on)
     | (apply Exists.intro
        refine⟨fun W hW=>?_,?_⟩
        ·(obtain⟨z0,z1⟩:=HSS.out W hW
          go_simp
          first
          | done
          | (with_reducible exact rfl)
          | (with_reducible exact⟨rfl,rfl⟩)
          | (fail))
        simp only[Act.put,qA,qB,qC]
        go_big_quiet_on))
  )
 go_big_quiet_want
 refine quiet_load_mid 57 (.tmp 14) rfl g (i*32) rfl (dCells d) (.array 32 5) HGR.out (by kernel_rfl) rfl (by rw[hcl];kernel_rfl) ?_;simp only[Act.put,qA,qB,qC]
 go_big_quiet_on
 refine wpQuiet_nil ?_;intro W3 hW3;have hst:=store_digest (d:=d) (rowIs_fr HR.out hW3 (by simp)) (hd32);have hrd:=row_digest (d:=d) (rowIs_fr HR.out hW3 (by simp)) (hd32);obtain⟨w4,hw4⟩:=nmd ((W3).setCells (w.heap.size+1) 0 (dCells (d)));have hfw4:Fr [w.heap.size+1] W3 w4:=by rw[<-hw4];exact (Fq [w.heap.size+1] (W3)).setCells (.inl (by simp)) _ _
 rw[hw4] at hst hrd;clear hw4;have hf4:Fr [] w w4:=(HF2.out.then hW3).trans hfw4 (by simp);have HRD:=Hd hrd.1;have HF4:=Hd hf4;clear hrd hf4 hfw4 HSS HGR HR
 go_wp2_with fail
 exact bodyPost_ret (v:=encD d) (results_cell_mid (d:=.array 32 5) (p:=4) (ty:=57) (b:=w.heap.size+1) (o:=0) rfl rfl HRD.out (by kernel_rfl) rfl (by rw[hcl];rfl)) rfl ⟨rfl,HF4.out⟩
theorem complete_node (b:Nat) (l i:Int) (ds:List Nm) (kvs:List (Value × Value)) (F:List Nat) (d:Nm) (w:World) (h:TreeAt w b ds kvs F) (hk:∃ k,keyOf prog 270 (partV l i)=some k) (hm:(partV l i,encD d)∈kvs) (h0:l≠0) (hd32:d.length=32):Calls prog 149 #[.pointer (some ⟨b,0,none⟩),partV l i] w (SumPost w d):=by
 obtain⟨A,c,m,hT,rfl⟩:=h;obtain⟨kl,hkl⟩:=hk;have hl0:(l == 0)=false:=by simpa using h0
 have hcl:(dCells d).length=32:=by rw[dcells_len,hd32]
 cases m with
 | none=>rw[hT.mn rfl] at hm;simp at hm
 | some r =>
  have hbx:=hT.box;obtain⟨hms,_⟩:=hT.ms r rfl;obtain⟨w1,hw1⟩:=nmd (w.alloc (.cells #[.int .i64 l,.int .i64 i] 270));obtain⟨w2,hw2⟩:=nmd (w1.alloc (.cells (z32) 57));have hs1:w1.heap.size=w.heap.size+1:=by rw[<-hw1,wsA]
  have hf1:Fr [] w w1:=by rw[<-hw1];exact (Fq [] w).alloc _
  have hf12:Fr [] w1 w2:=by rw[<-hw2];exact (Fq [] w1).alloc _
  have hp2:BoxN w2 w.heap.size 270 #[.int .i64 l,.int .i64 i]:=by rw[<-hw2,<-hw1];exact (BoxN.new w _ _).alloc _
  obtain⟨fR,hR⟩:∃ f,w2.rowIs w1.heap.size 57 32 f:=by rw[<-hw2];exact⟨_,row_new w1 _ _⟩
  rw[hs1] at hR;have hf2:=hf1.then hf12;have hss:∀ W,Fr [] w2 W->W.cell? ⟨w.heap.size,0,none⟩=some (.int .i64 l)/\W.cell? ⟨w.heap.size,1,none⟩=some (.int .i64 i)/\W.cell? ⟨b,1,none⟩=some (.map (some r))/\(Instr.lookup 235 (.map (some r)) (.agg #[.int .i64 l,.int .i64 i]) false).run prog W=.ok (.agg (dCells d).toArray) W:=fun W hW=>⟨(hp2.fr hW (by simp)).c 0,(hp2.fr hW (by simp)).c 1,((hbx.fr hf2 (by simp)).fr hW (by simp)).c 1,(hms.fr (hf2.then hW) (by simp)).look_some key_part underlying235 hkl hm false⟩;have x0:=hp2.k0;have HSS:=Hd hss;have HR:=Hd hR;have HF2:=Hd hf2;have HW1:=Hd hw1;have HW2:=Hd hw2;clear hss hR hf2 hw1 hw2 hp2 hbx hf1 hf12 hT hms hkl hm h0;unfold partV
  go_enter func149,ntmps149
  go_upto_region 1 with fail
  rw[HW1.out,HW2.out]
  go_upto_region 3 with fail
  refine wp_region_qtail (fun W=>Fr [] w2 W) 6 (by kernel_rfl) (by kernel_rfl) ((Fq [] w2).drew) ?_;simp only[List.take_succ_cons,List.take_zero,qG,qH]
  repeat (
   first
   | go_big_quiet_skip
   | (go_big_quiet_want
      first
      | (go_big_quiet_op
         go_big_quiet_on)
      | (apply Exists.intro
         refine⟨fun W hW=>?_,?_⟩
         ·(obtain⟨z0,z1,z2,z3⟩:=HSS.out W hW
           go_simp
           first
           | done
           | (with_reducible exact rfl)
           | (with_reducible exact⟨rfl,rfl⟩)
           | (fail))
         simp only[Act.put,qA,qB,qC]
         go_big_quiet_on))
   )
  refine wpQuiet_nil ?_;intro W3 hW3;have hst:=store_digest (d:=d) (rowIs_fr HR.out hW3 (by simp)) (hd32);have hrd:=row_digest (d:=d) (rowIs_fr HR.out hW3 (by simp)) (hd32);obtain⟨w4,hw4⟩:=nmd ((W3).setCells (w.heap.size+1) 0 (dCells (d)));have hfw4:Fr [w.heap.size+1] W3 w4:=by rw[<-hw4];exact (Fq [w.heap.size+1] (W3)).setCells (.inl (by simp)) _ _
  rw[hw4] at hst hrd;clear hw4;have hf4:Fr [] w w4:=(HF2.out.then hW3).trans hfw4 (by simp);have HRD:=Hd hrd.1;have HF4:=Hd hf4;clear hrd hf4 hfw4 HSS HR
  go_wp2_with fail
  exact bodyPost_ret (v:=encD d) (results_cell_mid (d:=.array 32 5) (p:=4) (ty:=57) (b:=w.heap.size+1) (o:=0) rfl rfl HRD.out (by kernel_rfl) rfl (by rw[hcl];rfl)) rfl ⟨rfl,HF4.out⟩
def PartIs (ds:List Nm) (kvs:List (Value × Value)) (l i:Nat) (d:Nm):Prop :=
 d.length=32/\((l=0/\ds[i]?=some d) \/ (l≠0/\(partV (l:Int) (i:Int),encD d)∈kvs/\∃ k,keyOf prog 270 (partV (l:Int) (i:Int))=some k))
theorem complete_any (b l i:Nat) (ds:List Nm) (kvs:List (Value × Value)) (F:List Nat) (d:Nm) (w:World) (h:TreeAt w b ds kvs F) (hp:PartIs ds kvs l i d):Calls prog 149 #[.pointer (some ⟨b,0,none⟩),partV (l:Int) (i:Int)] w (SumPost w d):=by
 rcases hp with ⟨h32,⟨rfl,hd⟩ | ⟨hl,hm,hk⟩⟩
 ·exact complete_leaf b i ds kvs F d w h hd
 ·exact complete_node b l i ds kvs F d w h hk hm (by omega) h32
end Go.Proofs.YtlpmiimgacfmkaaGreatDoor
