/- A range over a function that yields a known list and is left by its last round. -/
import Derived.Test.YtlpmiimgacfmkaaGreatDoorMRf1
import Derived.Test.YtlpmiimgacfmkaaGreatDoorMVi
import Derived.Test.YtlpmiimgacfmkaaGreatDoorMTr5
set_option linter.all false
namespace Go.Proofs.YtlpmiimgacfmkaaGreatDoor
open Go.Proofs.Tryz
open Go.RowKit Go.Shelf
theorem wp_rangeFunc_ret {α:Type} {P:Program} {g:Operand} {ps:Array Tmp} {assign body:Code} {Q:Exit->Act->World->Prop} {a:Act} {w:World} {gf:Nat} {lb:Array Value} (n:Nat) (T:List Nat) (hT:∀ q∈T,q<w.heap.size) (xs:List α) (encs:α->Array Value)
 (hg:a.eval g=.func (.func gf) #[] lb) (eg:∀ args w,(callFunc gf args).run P w=.ok (.enter gf args) w) (hps:∀ x,(encs x).size=ps.size)
 (I:Nat->World->Prop) (hI:∀ k W W' S,I k W->Fr S W W'->(∀ q∈S,w.heap.size<=q)->I k W') (h0:I 0 w)
 (hseq : ∀ (l : Nat) (J : Nat -> World -> Prop) (W : World), Fr [] w W -> w.heap.size + 2 <= W.heap.size -> (∀ k W' W'' S, J k W' -> Fr S W' W'' -> (∀ q ∈ S, W.heap.size <= q) -> J k W'') -> (∀ k x W1, xs[k]? = some x -> J k W1 -> YieldAt Fence.wide (n - 1) P l (encs x) W1 fun e W' => (k + 1 < xs.length -> e = .returned (.bool true)) /\ (k + 1 = xs.length -> e = .returned (.bool false)) /\ J (k + 1) W' /\ Fr (w.heap.size :: (w.heap.size + 1) :: T) W1 W') -> J 0 W ->
  CallsIn Fence.wide n P gf (#[.func (.yield l) #[] #[]]++lb) W fun e W'=>(∃ v,e=.returned v)/\J xs.length W')
 (A:Nat->Act->World->Prop) (hA:∀ k a' W W',A k a' W->Fr [w.heap.size,w.heap.size+1] W W'->A k a' W')
 (hassign:∀ (l k:Nat) (x:α) (W:World) (K:Act->World->Prop),xs[k]?=some x->I k W->w.heap.size+2<=W.heap.size->(∀ a' W',Fr [] W W'->A k a' W'->K a' W') ->
  assign.wpIn (Fence.wide.inRound l) (n - 1) P (Exit.then K (fun _ _ _=>False)) { tmps:=(ps.zip (encs x)).foldl (fun t (p,v)=>t.setIfInBounds p v) a.tmps,defers:=[] } W)
 (hbody:∀ (l k:Nat) (x:α) (a':Act) (W:World),xs[k]?=some x->k+1<xs.length->A k a' W->w.heap.size+2<=W.heap.size->body.wpIn (Fence.wide.inRound l) (n - 1) P (fun e _ W'=>e=.normal/\I (k+1) W'/\Fr T W W') a' W)
 (hlast:∀ (l k:Nat) (x:α) (a':Act) (W:World),xs[k]?=some x->k+1=xs.length->A k a' W->w.heap.size+2<=W.heap.size->body.wpIn (Fence.wide.inRound l) (n - 1) P (fun e _ W'=>e=Exit.ret/\I (k+1) W'/\Fr T W W') a' W)
 (hne:xs≠[])
 (hstop:∀ (D:Nat) (W:World),w.heap.size<=D->I xs.length W->W.heap[D]?=some (.deferred (some []))->(Code.ret).wp P Q { a with defers:={ target:=.collected D,args:=#[] }::a.defers } W) :
 (Code.rangeFunc g ps assign body).wp P Q a w:=by
 refine (wpIn_wide (n:=n+1)).1 (wpIn_rangeFunc fun fn hfn=>?_);obtain⟨rec,hrec⟩:∃ rec:LoopState->Option Code->Loop,rec=fun st pe=>{ state:=st,pending:=pe,fn,tmps:=a.tmps,params:=ps,assign,body,defers:=w.heap.size }:=⟨_,rfl⟩;obtain⟨W1,hW1⟩:=nmd ((w.alloc (.deferred (some []))).alloc (.loop (rec .ready none)))
 have hL1:W1.heap[w.heap.size+1]?=some (.loop (rec .ready none)):=by
  rw[<-hW1];have:=World.alloc_heap_new (w.alloc (.deferred (some []))) (.loop (rec .ready none))
  rwa [wsA] at this
 have hK1:W1.heap[w.heap.size]?=some (.deferred (some [])):=by
  rw[<-hW1];exact (Below.heap_alloc _ _ _ (by simp)).trans (World.alloc_heap_new w _)
 have hf1:Fr [] w W1:=by rw[<-hW1];exact ((Fq [] w).alloc _).alloc _
 have hz1:W1.heap.size=w.heap.size+2:=by rw[<-hW1];simp
 have hfD:∀ (W:World) (o:Obj),Fr [w.heap.size,w.heap.size+1] W (W.putObj (w.heap.size+1) o):=fun W o=>fr_putObj o (Fq _ W) (.inl (by simp));have hlowD:∀ (W:World) (o:Obj),Fr (w.heap.size::(w.heap.size+1)::T) W (W.putObj (w.heap.size+1) o):=fun W o=>(hfD W o).mono (by simp);refine⟨w.heap.size+1,[{ target:=.collected w.heap.size,args:=#[] }],W1,{ target:=.fn (.func gf) lb,args:=#[.func (.yield (w.heap.size+1)) #[] #[]] },W1,gf,#[.func (.yield (w.heap.size+1)) #[] #[]]++lb,W1,?_,?_,fun _ _=>trivial,?_,fun _=>Nat.succ_le_succ (Nat.zero_le n),?_⟩
 ·rw[<-hW1,hrec];exact run_enterLoop_outer _ _ _ _ _
 ·simp only[resolve,hg]
  simp[go_sem]
 ·simp[invoke,go_sem,eg]
 ·refine (hseq (w.heap.size+1) (fun k W=>I k W/\W.heap[w.heap.size+1]?=some (.loop (rec (if k=xs.length then .done else .ready) (if k=xs.length then some (Code.ret) else none)))/\W.heap[w.heap.size]?=some (.deferred (some []))) W1 hf1 (by omega) ?_ ?_ ⟨hI 0 w W1 [] h0 hf1 (by simp),?_,hK1⟩).mono ?_
  ·rintro k W W' S ⟨h1,h2,h3⟩ hS hq
   exact⟨hI _ _ _ _ h1 hS (fun q hm=>by have:=hq q hm;omega),(hS.block _ (Array.getElem?_eq_some_iff.1 h2).1 (fun hm=>by have:=hq _ hm;omega)).trans h2,(hS.block _ (Array.getElem?_eq_some_iff.1 h3).1 (fun hm=>by have:=hq _ hm;omega)).trans h3⟩
  ·rintro k x W hx ⟨hi,hl,hk⟩
   have hkl:k<xs.length:=(lgs.1 hx).1;have hkn0:¬ (k=xs.length):=by omega
   rw[if_neg hkn0,if_neg hkn0] at hl;have hlt:w.heap.size+1<W.heap.size:=(Array.getElem?_eq_some_iff.1 hl).1;have hy:=run_yield (P:=P) (args:=encs x) hl (by rw[hrec];exact hps x);rw[hrec] at hy;refine⟨fn,_,assign,body,hy,roundIn_of_wpIn hfn (hassign _ k x W _ hx hi (by omega) ?_)⟩;clear hy;intro a' Wa hfa hax;have hlta:w.heap.size+1<Wa.heap.size:=Nat.lt_of_lt_of_le hlt hfa.size
   replace hl:=(hfa.block _ (by omega) (by simp)).trans hl
   replace hk:=(hfa.block _ (by omega) (by simp)).trans hk
   refine⟨_,run_beginRound hl (by rw[hrec]),?_⟩;have hl2:(Wa.putObj (w.heap.size+1) (.loop { rec .ready none with state:=.busy })).heap[w.heap.size+1]?=some (.loop { rec .ready none with state:=.busy }):=World.putObj_heap_same hlta;have hk2:(Wa.putObj (w.heap.size+1) (.loop { rec .ready none with state:=.busy })).heap[w.heap.size]?=some (.deferred (some [])):=(World.putObj_heap_other (by omega)).trans hk;have hlowa:Fr (w.heap.size::(w.heap.size+1)::T) W (Wa.putObj (w.heap.size+1) (.loop { rec .ready none with state:=.busy })):=(hfa.mono (by simp)).then (hlowD _ _)
   by_cases hkk:k+1<xs.length
   ·refine wpIn_mono (hbody _ k x a' _ hx hkk (hA k a' _ _ hax (hfD _ _)) (by simp;omega)) ?_
    rintro e a3 W3 ⟨rfl,hi3,hf3⟩;have hl3:=(hf3.block _ (by simp;omega) (fun hm=>by have:=hT _ hm;omega)).trans hl2;have hk3:=(hf3.block _ (by simp;omega) (fun hm=>by have:=hT _ hm;omega)).trans hk2;have hr:=run_endRound (P:=P) none hl3;have hs3:=(Array.getElem?_eq_some_iff.1 hl3).1;refine⟨_,_,hr,fun _=>rfl,fun h=>absurd h (by omega),⟨hI _ _ _ _ hi3 (hfD _ _) (by simp),?_,(World.putObj_heap_other (by omega)).trans hk3⟩,hlowa.then ((hf3.mono (fun x hx=>.inl (by simp[hx]))).then (hlowD _ _))⟩;have hkn:¬ (k+1=xs.length):=by omega
    rw[if_neg hkn,if_neg hkn];exact (World.putObj_heap_same hs3).trans (by rw[hrec];rfl)
   ·refine wpIn_mono (hlast _ k x a' _ hx (by omega) (hA k a' _ _ hax (hfD _ _)) (by simp;omega)) ?_
    rintro e a3 W3 ⟨rfl,hi3,hf3⟩;have hl3:=(hf3.block _ (by simp;omega) (fun hm=>by have:=hT _ hm;omega)).trans hl2;have hk3:=(hf3.block _ (by simp;omega) (fun hm=>by have:=hT _ hm;omega)).trans hk2;have hr:=run_endRound (P:=P) (some (Code.ret)) hl3;have hs3:=(Array.getElem?_eq_some_iff.1 hl3).1;refine⟨_,_,hr,fun h=>absurd h (by omega),fun _=>rfl,⟨hI _ _ _ _ hi3 (hfD _ _) (by simp),?_,(World.putObj_heap_other (by omega)).trans hk3⟩,hlowa.then ((hf3.mono (fun x hx=>.inl (by simp[hx]))).then (hlowD _ _))⟩;have hkn:k+1=xs.length:=by omega
    rw[if_pos hkn,if_pos hkn];exact (World.putObj_heap_same hs3).trans (by rw[hrec];rfl)
  ·have h0x:¬ (0=xs.length):=fun h=>hne (List.eq_nil_of_length_eq_zero h.symm)
   rw[if_neg h0x,if_neg h0x];exact hL1
  ·rintro e W2 ⟨⟨v,rfl⟩,hi,hl,hk⟩
   rw[if_pos rfl,if_pos rfl] at hl;refine⟨some (Code.ret),_,by have:=run_endLoop (P:=P) hl (by rw[hrec];simp);rw[hrec] at this;exact this,?_⟩;exact wpIn_wide.2 (hstop w.heap.size _ (nlr _) (hI _ _ _ _ hi (hfD _ _) (by simp)) ((World.putObj_heap_other (by omega)).trans hk))
theorem wp_rangeFunc_exit (id:Nat){α:Type} {P:Program} {g:Operand} {ps:Array Tmp} {assign body:Code} {Q:Exit->Act->World->Prop} {a:Act} {w:World} {gf:Nat} {lb:Array Value} (n:Nat) (T:List Nat) (hT:∀ q∈T,q<w.heap.size) (xs:List α) (encs:α->Array Value)
 (hg:a.eval g=.func (.func gf) #[] lb) (eg:∀ args w,(callFunc gf args).run P w=.ok (.enter gf args) w) (hps:∀ x,(encs x).size=ps.size)
 (I:Nat->World->Prop) (hI:∀ k W W' S,I k W->Fr S W W'->(∀ q∈S,w.heap.size<=q)->I k W') (h0:I 0 w)
 (hseq : ∀ (l : Nat) (J : Nat -> World -> Prop) (W : World), Fr [] w W -> w.heap.size + 2 <= W.heap.size -> (∀ k W' W'' S, J k W' -> Fr S W' W'' -> (∀ q ∈ S, W.heap.size <= q) -> J k W'') -> (∀ k x W1, xs[k]? = some x -> J k W1 -> YieldAt Fence.wide (n - 1) P l (encs x) W1 fun e W' => (k + 1 < xs.length -> e = .returned (.bool true)) /\ (k + 1 = xs.length -> e = .returned (.bool false)) /\ J (k + 1) W' /\ Fr (w.heap.size :: (w.heap.size + 1) :: T) W1 W') -> J 0 W ->
  CallsIn Fence.wide n P gf (#[.func (.yield l) #[] #[]]++lb) W fun e W'=>(∃ v,e=.returned v)/\J xs.length W')
 (A:Nat->Act->World->Prop) (hA:∀ k a' W W',A k a' W->Fr [w.heap.size,w.heap.size+1] W W'->A k a' W')
 (hassign:∀ (l k:Nat) (x:α) (W:World) (K:Act->World->Prop),xs[k]?=some x->I k W->w.heap.size+2<=W.heap.size->(∀ a' W',Fr [] W W'->A k a' W'->K a' W') ->
  assign.wpIn (Fence.wide.inRound l) (n - 1) P (Exit.then K (fun _ _ _=>False)) { tmps:=(ps.zip (encs x)).foldl (fun t (p,v)=>t.setIfInBounds p v) a.tmps,defers:=[] } W)
 (hbody:∀ (l k:Nat) (x:α) (a':Act) (W:World),xs[k]?=some x->k+1<xs.length->A k a' W->w.heap.size+2<=W.heap.size->body.wpIn (Fence.wide.inRound l) (n - 1) P (fun e _ W'=>e=.normal/\I (k+1) W'/\Fr T W W') a' W)
 (hlast:∀ (l k:Nat) (x:α) (a':Act) (W:World),xs[k]?=some x->k+1=xs.length->A k a' W->w.heap.size+2<=W.heap.size->body.wpIn (Fence.wide.inRound l) (n - 1) P (fun e _ W'=>e=Exit.exit id/\I (k+1) W'/\Fr T W W') a' W)
 (hne:xs≠[])
 (hstop:∀ (D:Nat) (W:World),w.heap.size<=D->I xs.length W->W.heap[D]?=some (.deferred (some []))->(Code.exit id).wp P Q { a with defers:={ target:=.collected D,args:=#[] }::a.defers } W) :
 (Code.rangeFunc g ps assign body).wp P Q a w:=by
 refine (wpIn_wide (n:=n+1)).1 (wpIn_rangeFunc fun fn hfn=>?_);obtain⟨rec,hrec⟩:∃ rec:LoopState->Option Code->Loop,rec=fun st pe=>{ state:=st,pending:=pe,fn,tmps:=a.tmps,params:=ps,assign,body,defers:=w.heap.size }:=⟨_,rfl⟩;obtain⟨W1,hW1⟩:=nmd ((w.alloc (.deferred (some []))).alloc (.loop (rec .ready none)))
 have hL1:W1.heap[w.heap.size+1]?=some (.loop (rec .ready none)):=by
  rw[<-hW1];have:=World.alloc_heap_new (w.alloc (.deferred (some []))) (.loop (rec .ready none))
  rwa [wsA] at this
 have hK1:W1.heap[w.heap.size]?=some (.deferred (some [])):=by
  rw[<-hW1];exact (Below.heap_alloc _ _ _ (by simp)).trans (World.alloc_heap_new w _)
 have hf1:Fr [] w W1:=by rw[<-hW1];exact ((Fq [] w).alloc _).alloc _
 have hz1:W1.heap.size=w.heap.size+2:=by rw[<-hW1];simp
 have hfD:∀ (W:World) (o:Obj),Fr [w.heap.size,w.heap.size+1] W (W.putObj (w.heap.size+1) o):=fun W o=>fr_putObj o (Fq _ W) (.inl (by simp));have hlowD:∀ (W:World) (o:Obj),Fr (w.heap.size::(w.heap.size+1)::T) W (W.putObj (w.heap.size+1) o):=fun W o=>(hfD W o).mono (by simp);refine⟨w.heap.size+1,[{ target:=.collected w.heap.size,args:=#[] }],W1,{ target:=.fn (.func gf) lb,args:=#[.func (.yield (w.heap.size+1)) #[] #[]] },W1,gf,#[.func (.yield (w.heap.size+1)) #[] #[]]++lb,W1,?_,?_,fun _ _=>trivial,?_,fun _=>Nat.succ_le_succ (Nat.zero_le n),?_⟩
 ·rw[<-hW1,hrec];exact run_enterLoop_outer _ _ _ _ _
 ·simp only[resolve,hg]
  simp[go_sem]
 ·simp[invoke,go_sem,eg]
 ·refine (hseq (w.heap.size+1) (fun k W=>I k W/\W.heap[w.heap.size+1]?=some (.loop (rec (if k=xs.length then .done else .ready) (if k=xs.length then some (Code.exit id) else none)))/\W.heap[w.heap.size]?=some (.deferred (some []))) W1 hf1 (by omega) ?_ ?_ ⟨hI 0 w W1 [] h0 hf1 (by simp),?_,hK1⟩).mono ?_
  ·rintro k W W' S ⟨h1,h2,h3⟩ hS hq
   exact⟨hI _ _ _ _ h1 hS (fun q hm=>by have:=hq q hm;omega),(hS.block _ (Array.getElem?_eq_some_iff.1 h2).1 (fun hm=>by have:=hq _ hm;omega)).trans h2,(hS.block _ (Array.getElem?_eq_some_iff.1 h3).1 (fun hm=>by have:=hq _ hm;omega)).trans h3⟩
  ·rintro k x W hx ⟨hi,hl,hk⟩
   have hkl:k<xs.length:=(lgs.1 hx).1;have hkn0:¬ (k=xs.length):=by omega
   rw[if_neg hkn0,if_neg hkn0] at hl;have hlt:w.heap.size+1<W.heap.size:=(Array.getElem?_eq_some_iff.1 hl).1;have hy:=run_yield (P:=P) (args:=encs x) hl (by rw[hrec];exact hps x);rw[hrec] at hy;refine⟨fn,_,assign,body,hy,roundIn_of_wpIn hfn (hassign _ k x W _ hx hi (by omega) ?_)⟩;clear hy;intro a' Wa hfa hax;have hlta:w.heap.size+1<Wa.heap.size:=Nat.lt_of_lt_of_le hlt hfa.size
   replace hl:=(hfa.block _ (by omega) (by simp)).trans hl
   replace hk:=(hfa.block _ (by omega) (by simp)).trans hk
   refine⟨_,run_beginRound hl (by rw[hrec]),?_⟩;have hl2:(Wa.putObj (w.heap.size+1) (.loop { rec .ready none with state:=.busy })).heap[w.heap.size+1]?=some (.loop { rec .ready none with state:=.busy }):=World.putObj_heap_same hlta;have hk2:(Wa.putObj (w.heap.size+1) (.loop { rec .ready none with state:=.busy })).heap[w.heap.size]?=some (.deferred (some [])):=(World.putObj_heap_other (by omega)).trans hk;have hlowa:Fr (w.heap.size::(w.heap.size+1)::T) W (Wa.putObj (w.heap.size+1) (.loop { rec .ready none with state:=.busy })):=(hfa.mono (by simp)).then (hlowD _ _)
   by_cases hkk:k+1<xs.length
   ·refine wpIn_mono (hbody _ k x a' _ hx hkk (hA k a' _ _ hax (hfD _ _)) (by simp;omega)) ?_
    rintro e a3 W3 ⟨rfl,hi3,hf3⟩;have hl3:=(hf3.block _ (by simp;omega) (fun hm=>by have:=hT _ hm;omega)).trans hl2;have hk3:=(hf3.block _ (by simp;omega) (fun hm=>by have:=hT _ hm;omega)).trans hk2;have hr:=run_endRound (P:=P) none hl3;have hs3:=(Array.getElem?_eq_some_iff.1 hl3).1;refine⟨_,_,hr,fun _=>rfl,fun h=>absurd h (by omega),⟨hI _ _ _ _ hi3 (hfD _ _) (by simp),?_,(World.putObj_heap_other (by omega)).trans hk3⟩,hlowa.then ((hf3.mono (fun x hx=>.inl (by simp[hx]))).then (hlowD _ _))⟩;have hkn:¬ (k+1=xs.length):=by omega
    rw[if_neg hkn,if_neg hkn];exact (World.putObj_heap_same hs3).trans (by rw[hrec];rfl)
   ·refine wpIn_mono (hlast _ k x a' _ hx (by omega) (hA k a' _ _ hax (hfD _ _)) (by simp;omega)) ?_
    rintro e a3 W3 ⟨rfl,hi3,hf3⟩;have hl3:=(hf3.block _ (by simp;omega) (fun hm=>by have:=hT _ hm;omega)).trans hl2;have hk3:=(hf3.block _ (by simp;omega) (fun hm=>by have:=hT _ hm;omega)).trans hk2;have hr:=run_endRound (P:=P) (some (Code.exit id)) hl3;have hs3:=(Array.getElem?_eq_some_iff.1 hl3).1;refine⟨_,_,hr,fun h=>absurd h (by omega),fun _=>rfl,⟨hI _ _ _ _ hi3 (hfD _ _) (by simp),?_,(World.putObj_heap_other (by omega)).trans hk3⟩,hlowa.then ((hf3.mono (fun x hx=>.inl (by simp[hx]))).then (hlowD _ _))⟩;have hkn:k+1=xs.length:=by omega
    rw[if_pos hkn,if_pos hkn];exact (World.putObj_heap_same hs3).trans (by rw[hrec];rfl)
  ·have h0x:¬ (0=xs.length):=fun h=>hne (List.eq_nil_of_length_eq_zero h.symm)
   rw[if_neg h0x,if_neg h0x];exact hL1
  ·rintro e W2 ⟨⟨v,rfl⟩,hi,hl,hk⟩
   rw[if_pos rfl,if_pos rfl] at hl;refine⟨some (Code.exit id),_,by have:=run_endLoop (P:=P) hl (by rw[hrec];simp);rw[hrec] at this;exact this,?_⟩;exact wpIn_wide.2 (hstop w.heap.size _ (nlr _) (hI _ _ _ _ hi (hfD _ _) (by simp)) ((World.putObj_heap_other (by omega)).trans hk))
set_option maxRecDepth 100000
set_option maxHeartbeats 2000000
attribute [local go_sem] Oper.semAt_some
theorem flat_at {α:Type} {f:α->List Value} {m:Nat} (hm:∀ x,(f x).length=m):∀ {xs:List α} {j:Nat} {x:α} {o:Nat},xs[j]?=some x->o<m->(xs.flatMap f)[j*m+o]?=(f x)[o]?
 | [],j,x,o,h,_=>by simp at h
 | y::r,0,x,o,h,ho=>by
  simp at h;subst h
  rw[List.flatMap_cons,Nat.zero_mul,Nat.zero_add,List.getElem?_append_left (by rw[hm];exact ho)]
 | y::r,j+1,x,o,h,ho=>by
  rw[List.flatMap_cons,List.getElem?_append_right (by rw[hm,Nat.add_mul];omega),hm,show (j+1)*m+o - m=j*m+o by rw[Nat.add_mul];omega];exact flat_at hm (by simpa using h) ho
theorem Backward_g (g m c:Nat) (w:World):Calls prog 161 #[.slice (some ⟨g,0,none⟩) m c] w fun e w'=>e=.returned (.func (.func 191) #[] #[.pointer (some ⟨w.heap.size,0,none⟩)])/\w'=w.alloc (.cells #[.slice (some ⟨g,0,none⟩) m c] 280):=by
 go_enter func161,ntmps161
 go_wp2_with fail
 go_ret
 exact⟨rfl,rfl⟩
def bwX (L:List VZ) (k:Nat):Int × VZ:=(((L.length - 1 - k:Nat):Int),L.getD (L.length - 1 - k) z0)
theorem bw_g (n l B g c:Nat) (W:World) (T:List Nat) (L:List VZ) (K:Nat) (hK1:1<=K) (hK2:K<=L.length) (hLm:L.length<=1000) (hB:BoxN W B 280 #[.slice (some ⟨g,0,none⟩) L.length c]) (hg:Cs W g (L.flatMap VZ.cs)) (hBT:B ∉ T) (hgT:g ∉ T) (J:Nat->World->Prop)
 (hy:∀ k W1,k<K->J k W1->YieldAt Fence.wide (n - 1) prog l #[.int .i64 (bwX L k).1,.agg (bwX L k).2.cs.toArray] W1 fun e W'=>(k+1<K->e=.returned (.bool true))/\(k+1=K->e=.returned (.bool false))/\J (k+1) W'/\Fr T W1 W') (hJ:J 0 W) :
 CallsIn Fence.wide n prog 191 #[.func (.yield l) #[] #[],.pointer (some ⟨B,0,none⟩)] W fun e W'=>(∃ v,e=.returned v)/\J K W':=by
 obtain⟨m,hm⟩:=nmd (L.length);have x0:W.cell? ⟨B,0,none⟩=some (.slice (some ⟨g,0,none⟩) m c):=by rw[<-hm];exact hB.c 0
 have HY:=Hd hy;have HB:=Hd hB;have HG:=Hd hg;have HT:=Hd (An hBT hgT);have HJ:=Hd hJ;have HM:=Hd hm;rw[hm] at hK2 hLm;have hm1:1<=m:=by omega
 clear hy hB hg hBT hgT hJ hm;refine callsIn_of_wp func191 rfl trivial ?_ rfl;simp only[ntmps191,List.size_toArray,List.length_cons,List.length_nil,Nat.reduceAdd,Nat.reduceSub,Array.replicate_succ,Array.replicate_zero,List.push_toArray,List.append_toArray,List.nil_append,List.cons_append]
 gi_wp2_with fail
 clear x0
 gi_loopw [3] (fun i wr=>∃ j:Nat,j<m/\i=.int .i64 (j:Int)/\m - 1 - j<K/\J (m - 1 - j) wr/\Fr T W wr) (fun i _=>(intOf i).toNat)
 case atStart=>exact⟨m - 1,by omega,by congr 1;omega,by omega,by rw[show m - 1 - (m - 1)=0 by omega];exact HJ.out,Fq _ _⟩
 case round =>
  obtain⟨j,hj,rfl,hk,hJk,hfr⟩:=hrel;have hb2:=HB.out.fr hfr HT.out.1;rw[HM.out] at hb2;have hg2:=HG.out.fr hfr HT.out.2;obtain⟨z,hz⟩:∃ z,L[j]?=some z:=⟨_,lge (by rw[HM.out];omega)⟩
  have hbx:bwX L (m - 1 - j)=((j:Int),z):=by
   unfold bwX;rw[HM.out,show m - 1 - (m - 1 - j)=j by omega,List.getD_eq_getElem?_getD,hz];rfl
  obtain⟨fn,tmps,assign,body,hyy,hRR⟩:=yieldAt_wide (m':=n - 1) (HY.out (m - 1 - j) wr hk hJk);rw[hbx] at hyy;have hc:=fun o (ho:o<3)=>flat_at vz_len hz ho;unfold VZ.cs at hc;obtain⟨sv,hsv,_,_⟩:=str_of z.v;have hyy2:(Instr.yield l #[.int .i64 (j:Int),.agg #[.int .i64 z.i,.string sv,.bool z.a]]).run prog wr=.ok (.round l fn tmps assign body) wr:=by rw[<-hsv];exact hyy
  have z0:wr.cell? ⟨g,j*3,none⟩=some (.int .i64 z.i):=hg2.2 _ _ (hc 0 (by omega));have z1:wr.cell? ⟨g,j*3+1,none⟩=some (.string sv):=by rw[<-hsv];exact hg2.2 _ _ (hc 1 (by omega))
  have z2:wr.cell? ⟨g,j*3+2,none⟩=some (.bool z.a):=hg2.2 _ _ (hc 2 (by omega));have x0:=hb2.k0;have hlt3:(j:Int)<(m:Int):=by omega
  have HRR:=Hd hRR;have HF:=Hd hfr;clear hRR hyy hb2 hg2 hc hsv hbx hz hfr hJk
  gi_wp2_with fail
  refine⟨fun h=>absurd h (by simp[Fence.wide]),HRR.out.mono ?_⟩;clear hyy2 HRR x0 z0 z1 z2;rintro e W2 ⟨h1,h2,h3,h4⟩;rw[show m - 1 - j+1=m - j by omega] at h1 h2 h3;have H3:=Hd h3;have H4:=Hd (HF.out.trans h4 (fun x hx=>.inl hx));clear h3 h4
  rcases Nat.lt_or_ge (m - j) K with hlt | hge
  ·obtain rfl:=h1 hlt
   clear h1 h2;obtain⟨j,rfl⟩:∃ j',j=j'+1:=⟨j - 1,by omega⟩
   gi_wp2_with fail
   exact⟨⟨j,by omega,rfl,by omega,by rw[show m - 1 - j=m - (j+1) by omega];exact H3.out,H4.out⟩,by show ((j:Int)).toNat<((j+1:Nat):Int).toNat;omega⟩
  ·obtain rfl:=h2 (by omega)
   clear h1 h2
   gi_wp2_with fail
   refine bodyPost_ret (results_none rfl _ _ _) rfl ?_;exact⟨⟨_,rfl⟩,by rw[show K=m - j by omega];exact H3.out⟩
end Go.Proofs.YtlpmiimgacfmkaaGreatDoor
namespace Go.Proofs.YtlpmiimgacfmkaaGreatDoor
open Go.Proofs.Tryz
open Go.RowKit Go.Shelf
set_option maxRecDepth 100000
set_option maxHeartbeats 4000000
attribute [local go_sem] Oper.semAt_some
theorem backwards_g (b:Nat) (k a i:Int) (so st:ByteArray) (ix:Int) (w:World):Calls prog 100 #[.pointer (some ⟨b,0,none⟩),.agg #[.int .i64 k,.string so,.int .i64 a,.int .i64 i,.string st],.int .i64 ix] w fun e w'=>e=.returned (.func (.func 160) #[] #[.pointer (some ⟨w.heap.size,0,none⟩),.pointer (some ⟨w.heap.size+1,0,none⟩),.pointer (some ⟨w.heap.size+2,0,none⟩)]) /\
 BoxN w' w.heap.size 106 #[.pointer (some ⟨b,0,none⟩)]/\BoxN w' (w.heap.size+1) 31 #[.int .i64 k,.string so,.int .i64 a,.int .i64 i,.string st]/\BoxN w' (w.heap.size+2) 3 #[.int .i64 ix]/\Fr [] w w'/\w'.heap.size=w.heap.size+3:=by
 go_enter func100,ntmps100
 go_wp2_with fail
 go_ret
 have h1:=BoxN.new w 106 #[.pointer (some ⟨b,0,none⟩)];have h2:=BoxN.new (w.alloc (.cells #[.pointer (some ⟨b,0,none⟩)] 106)) 31 #[.int .i64 k,.string so,.int .i64 a,.int .i64 i,.string st];have h3:=BoxN.new ((w.alloc (.cells #[.pointer (some ⟨b,0,none⟩)] 106)).alloc (.cells #[.int .i64 k,.string so,.int .i64 a,.int .i64 i,.string st] 31)) 3 #[.int .i64 ix];rw[wsA] at h2;rw[wsA,wsA] at h3;refine⟨by simp,(h1.alloc _).alloc _,h2.alloc _,h3,(((Fq [] w).alloc _).alloc _).alloc _,by simp⟩
def bwZ (L:List VZ) (K:Nat):List VZ:=(List.range K).map fun k=>(bwX L k).2
theorem bwZ_len (L:List VZ) (K:Nat):(bwZ L K).length=K:=by simp[bwZ]
theorem bwZ_get {L:List VZ} {K k:Nat} (h:k<K):(bwZ L K)[k]?=some (bwX L k).2:=by simp[bwZ,h]
theorem RoundIn.inRound {n m r:Nat} {P:Program} {l f:Nat} {tmps:Array Value} {assign body:Code} {w:World} {R:Ending->World->Prop} (h:RoundIn Fence.wide n P l f tmps assign body w R):RoundIn (Fence.wide.inRound r) m P l f tmps assign body w R :=
 ⟨trivial,fun c cs _=>h.2 c cs (room_wide _)⟩
theorem bws_g (n l B1 B2 B3 b:Nat) (ys:List AX) (M:List Nat) (nm:ON) (so st:ByteArray) (ix:Int) (L:List VZ) (K:Nat) (hL:ofL (ys.map AX.a) nm=L) (hLm:L.length<=1000) (hK1:1<=K) (hK2:K<=L.length) (hlt:∀ z∈L,z.i<ix) (W:World) (T:List Nat) (hT:∀ q∈T,q<W.heap.size) (h1:BoxN W B1 106 #[.pointer (some ⟨b,0,none⟩)]) (h2:BoxN W B2 31 #[.int .i64 nm.kind,.string so,.int .i64 nm.number,.int .i64 nm.index,.string st]) (he:encO nm=.agg #[.int .i64 nm.kind,.string so,.int .i64 nm.number,.int .i64 nm.index,.string st]) (hn:checkO nm=0) (h3:BoxN W B3 3 #[.int .i64 ix]) (hB3:B3 ∉ T) (hv:VG W b ys M)
 (J : Nat -> World -> Prop) (hJ : ∀ k W' W'' S, J k W' -> Fr S W' W'' -> (∀ q ∈ S, W.heap.size <= q) -> J k W'')
 (hy:∀ k (x:VZ) W1,(bwZ L K)[k]?=some x->J k W1->YieldAt Fence.wide (n - 1) prog l #[.agg x.cs.toArray] W1 fun e W'=>(k+1<(bwZ L K).length->e=.returned (.bool true))/\(k+1=(bwZ L K).length->e=.returned (.bool false))/\J (k+1) W'/\Fr T W1 W') (hJ0:J 0 W) :
 CallsIn Fence.wide n prog 160 #[.func (.yield l) #[] #[],.pointer (some ⟨B1,0,none⟩),.pointer (some ⟨B2,0,none⟩),.pointer (some ⟨B3,0,none⟩)] W fun e W'=>(∃ v,e=.returned v)/\J (bwZ L K).length W':=by
 rw[bwZ_len] at hy ⊢;have hxl:((List.range K).map (bwX L)).length=K:=by simp
 have hxg:∀ k x,((List.range K).map (bwX L))[k]?=some x->k<K/\x=bwX L k:=fun k x h=>by
  rw[List.getElem?_map] at h
  rcases Nat.lt_or_ge k K with hk | hk
  ·rw[List.getElem?_range hk] at h
   exact⟨hk,(by simpa using h.symm)⟩
  ·rw[List.getElem?_eq_none (by simpa using hk)] at h
   simp at h
 have hbl:∀ k,k<K->(bwX L k).2.i<ix:=fun k hk=>by
  unfold bwX;refine hlt _ ?_;rw[List.getD_eq_getElem?_getD,lge (by omega)];exact List.getElem_mem _
 obtain⟨w1,hw1,hb4,hf1⟩:=bxn W #[.func (.yield l) #[] #[]] 281;have k1:=h1.fr hf1 (by simp);have k2:=h2.fr hf1 (by simp);have x1:=k1.k0;obtain⟨y0,y1,y2,y3,y4⟩:=k2.m5;have hOf:=Of_v b ys M nm w1 (hv.fr0 hf1) hn;rw[he,hL] at hOf;have HOF:=Hd hOf;have HX:=Hd (An hxl (An hxg hbl));have HK:=Hd (An hK1 (An hK2 hLm));have HB4:=Hd hb4;have HF1:=Hd hf1;have HW1:=Hd hw1;have HB3:=Hd (An h3 hB3);have HJ:=Hd hJ;have HY:=Hd hy;have HJ0:=Hd hJ0;have HT:=Hd hT;clear k1 k2 hOf hb4 hf1 hw1 h1 h2 h3 hB3 hv hJ hy hJ0 hT he hn hL hlt hxl hxg hbl hK1 hK2 hLm;refine callsIn_of_wp_marks func160 rfl trivial ?_ rfl;simp only[ntmps160,List.size_toArray,List.length_cons,List.length_nil,Nat.reduceAdd,Nat.reduceSub,Array.replicate_succ,Array.replicate_zero,List.push_toArray,List.append_toArray,List.nil_append,List.cons_append];refine wpIn_wide.2 ?_
 go_upto_region 1 with fail
 rw[HW1.out]
 go_wp2_with (first
  | (go_at_call 162;(with_reducible refine HOF.out.mono ?_);rintro e w2 ⟨g,c,rfl,hg,hf2,hgs⟩;have HG:=Hd hg;have HF2:=Hd hf2;have HGS:=Hd hgs;clear hg hf2 hgs)
  | (go_at_call 161;(with_reducible refine (Backward_g g L.length c w2).mono ?_);rintro e w3 ⟨rfl,rfl⟩))
 obtain⟨w3,hw3,hb5,hf3⟩:=bxn w2 #[.slice (some ⟨g,0,none⟩) L.length c] 280;have hz3:w3.heap.size=w2.heap.size+1:=by rw[<-hw3];simp
 rw[hw3];clear hw3;have hf13:=(HF1.out.then HF2.out).then hf3;have hWs:W.heap.size<w3.heap.size:=by have:=HB4.out.lt;have:=(HF2.out.then hf3).size;omega
 have hG3:=HG.out.fr0 hf3;have hgl:=HG.out.1;have h0:J 0 w3/\BoxN w3 W.heap.size 281 #[.func (.yield l) #[] #[]]/\BoxN w3 B3 3 #[.int .i64 ix]:=⟨HJ.out 0 W w3 [] HJ0.out hf13 (by simp),HB4.out.fr (HF2.out.then hf3) (by simp),HB3.out.1.fr hf13 (by simp)⟩;have hB3l:=HB3.out.1.lt;have hB4T:W.heap.size ∉ T:=fun hm=>by have:=HT.out _ hm;omega
 have hB5T:w2.heap.size ∉ T:=fun hm=>by have:=HT.out _ hm;omega
 have hgT:g ∉ T:=fun hm=>by have:=HT.out _ hm;have:=HGS.out;have:=HF1.out.size;omega
 have hB5T2:w2.heap.size ∉ w3.heap.size::(w3.heap.size+1)::T:=by simp only[List.mem_cons,not_or];exact⟨by omega,by omega,hB5T⟩
 have hgT2:g ∉ w3.heap.size::(w3.heap.size+1)::T:=by simp only[List.mem_cons,not_or];exact⟨by omega,by omega,hgT⟩
 have HB4T:=Hd (An hB4T HB3.out.2);have HZ:=Hd (An hWs (An hz3 (An hB3l hgl)));have HB5:=Hd hb5;have HG3:=Hd hG3;clear hWs hz3 hB3l hgl hb5 hG3 hf3 hf13 x1 y0 y1 y2 y3 y4 hgT hB5T
 refine wp_rangeFunc_ret (a:=?aa) 5 T (fun q hq=>by have:=HT.out q hq;have:=HZ.out;omega) ((List.range K).map (bwX L)) (fun x:Int × VZ=>#[.int .i64 x.1,.agg x.2.cs.toArray]) (lb:=#[.pointer (some ⟨w2.heap.size,0,none⟩)]) ?_ (enters_of func191 (by kernel_rfl) rfl) ?_
  (fun k W'=>J k W'/\BoxN W' W.heap.size 281 #[.func (.yield l) #[] #[]]/\BoxN W' B3 3 #[.int .i64 ix])
  (fun k U U' S h hf hq=>⟨HJ.out k U U' S h.1 hf (fun q hm=>by have:=hq q hm;have:=HZ.out;omega),h.2.1.fr hf (fun hm=>by have:=hq _ hm;have:=HZ.out;omega),h.2.2.fr hf (fun hm=>by have:=hq _ hm;have:=HZ.out;omega)⟩) h0
  (fun l2 J2 U hU hUs hJ2 hy2 hJ20=>(bw_g 5 l2 w2.heap.size g c U (w3.heap.size::(w3.heap.size+1)::T) L K HK.out.1 HK.out.2.1 HK.out.2.2 (HB5.out.fr hU (by simp)) (HG3.out.fr0 hU) hB5T2 hgT2 J2 (fun k W1 hk hj=>by have hh:=hy2 k (bwX L k) W1 (by rw[List.getElem?_map,List.getElem?_range hk];rfl) hj;rw[HX.out.1] at hh;exact hh) hJ20).mono (by rw[HX.out.1];exact fun _ _ h=>h))
  (fun k a' W'=>∃ B6,(∃ x:Int × VZ,((List.range K).map (bwX L))[k]?=some x/\a'={ tmps:=(((Act.tmps ?aa).setIfInBounds 11 (.int .i64 x.1)).setIfInBounds 12 (.agg x.2.cs.toArray)).setIfInBounds 6 (.pointer (some ⟨B6,0,none⟩)),defers:=[] }/\BoxN W' B6 201 x.2.cs.toArray)/\w3.heap.size+2<=B6/\(J k W'/\BoxN W' W.heap.size 281 #[.func (.yield l) #[] #[]]/\BoxN W' B3 3 #[.int .i64 ix]))
  ?_ ?_ ?_ ?_ ?_ ?_
 ·rfl
 ·intro x;rfl
 ·rintro k a' U U' ⟨B6,⟨x,hx,ha,hb⟩,hB6,hj,hb4,hb3⟩ hf
  exact⟨B6,⟨x,hx,ha,hb.fr hf (by simp;omega)⟩,hB6,HJ.out k U U' _ hj hf (by simp;have:=HZ.out;omega),hb4.fr hf (by simp;have:=HZ.out;omega),hb3.fr hf (by simp;have:=HZ.out;omega)⟩
 ·intro l2 k x U K2 hx hI hUs hK
  obtain⟨ii,z⟩:=x;unfold VZ.cs;obtain⟨sv,hsv,_,_⟩:=str_of z.v;rw[hsv]
  gi_wp2_with fail
  refine hK _ _ ((Fq [] U).alloc _) ⟨U.heap.size,⟨_,hx,by simp only[VZ.cs,hsv];rfl,by simp only[VZ.cs,hsv];exact BoxN.new U _ _⟩,hUs,HJ.out k U _ [] hI.1 ((Fq [] U).alloc _) (by simp),hI.2.1.alloc _,hI.2.2.alloc _⟩
 ·intro l2 k x a' U hx hk hA hUs
  obtain⟨B6,⟨x',hx',rfl,hb6⟩,hB6,hj,hb4,hb3⟩:=hA;rw[hx] at hx';obtain rfl:x=x':=by simpa using hx'
  rw[HX.out.1] at hk;obtain⟨hkK,hxe⟩:=HX.out.2.1 k x hx;have hlt:=HX.out.2.2 k hkK;rw[<-hxe] at hlt;obtain⟨fn,tmps,assign,body,hyy,hRR⟩:=HY.out k x.2 U (by rw[hxe];exact bwZ_get hkK) hj;obtain⟨ii,z⟩:=x;obtain⟨sv,hsv,_,_⟩:=str_of z.v;simp only[VZ.cs,hsv] at hb6 hyy ⊢;simp only at hlt;obtain⟨t0,t1,t2⟩:=hb6.m3;have t3:=hb3.k0;have t4:=hb4.k0;have hyy2:(Instr.yield l #[.agg #[.int .i64 z.i,.string sv,.bool z.a]]).run prog U=.ok (.round l fn tmps assign body) U:=hyy;have HRR:=Hd hRR;have HBB:=Hd (An hb4 hb3);have HKK:=Hd hk;clear hyy hRR hb4 hb3 hb6 hj hB6 hk hUs hx hx' hxe hkK hsv;simp only[qA,qB,qC]
  gi_wp2_with fail
  refine (RoundIn.inRound HRR.out).mono ?_;rintro e U2 ⟨h1,h2,h3,h4⟩;obtain rfl:=h1 HKK.out;have hbb:=HBB.out;have HE:=Hd (An h3 (An (An (hbb.1.fr h4 HB4T.out.1) (hbb.2.fr h4 HB4T.out.2)) h4));clear h1 h2 h3 h4 hbb HRR HBB hyy2 t0 t1 t2 t3 t4
  gi_wp2_with fail
  exact⟨⟨HE.out.1,HE.out.2.1.1,HE.out.2.1.2⟩,HE.out.2.2⟩
 ·intro l2 k x a' U hx hk hA hUs
  obtain⟨B6,⟨x',hx',rfl,hb6⟩,hB6,hj,hb4,hb3⟩:=hA;rw[hx] at hx';obtain rfl:x=x':=by simpa using hx'
  rw[HX.out.1] at hk;obtain⟨hkK,hxe⟩:=HX.out.2.1 k x hx;have hlt:=HX.out.2.2 k hkK;rw[<-hxe] at hlt;obtain⟨fn,tmps,assign,body,hyy,hRR⟩:=HY.out k x.2 U (by rw[hxe];exact bwZ_get hkK) hj;obtain⟨ii,z⟩:=x;obtain⟨sv,hsv,_,_⟩:=str_of z.v;simp only[VZ.cs,hsv] at hb6 hyy ⊢;simp only at hlt;obtain⟨t0,t1,t2⟩:=hb6.m3;have t3:=hb3.k0;have t4:=hb4.k0;have hyy2:(Instr.yield l #[.agg #[.int .i64 z.i,.string sv,.bool z.a]]).run prog U=.ok (.round l fn tmps assign body) U:=hyy;have HRR:=Hd hRR;have HBB:=Hd (An hb4 hb3);have HKK:=Hd hk;clear hyy hRR hb4 hb3 hb6 hj hB6 hk hUs hx hx' hxe hkK hsv;simp only[qA,qB,qC]
  gi_wp2_with fail
  refine (RoundIn.inRound HRR.out).mono ?_;rintro e U2 ⟨h1,h2,h3,h4⟩;obtain rfl:=h2 HKK.out;have hbb:=HBB.out;have HE:=Hd (An h3 (An (An (hbb.1.fr h4 HB4T.out.1) (hbb.2.fr h4 HB4T.out.2)) h4));clear h1 h2 h3 h4 hbb HRR HBB hyy2 t0 t1 t2 t3 t4
  gi_wp2_with fail
  exact⟨⟨HE.out.1,HE.out.2.1.1,HE.out.2.1.2⟩,HE.out.2.2⟩
 ·intro h
  have:=HX.out.1;rw[h] at this;have:=HK.out.1;simp at *;omega
 ·intro D U hD hI hK
  rw[HX.out.1] at hI;have HJ2:=Hd hI.1;have HK:=Hd hK;have HDD:=Hd hD;clear hI hK hD
  go_wp2_with fail
  refine⟨by simp,.inl ⟨_,_,rfl,run_takeDeferred HK.out,?_⟩⟩;refine⟨_,results_none rfl _ _ _,⟨_,rfl⟩,?_⟩;exact HJ.out K U _ [D] HJ2.out (fr_putObj _ (Fq _ _) (.inl (by simp))) (by simp;have:=HZ.out;have:=HDD.out;omega)
end Go.Proofs.YtlpmiimgacfmkaaGreatDoor
