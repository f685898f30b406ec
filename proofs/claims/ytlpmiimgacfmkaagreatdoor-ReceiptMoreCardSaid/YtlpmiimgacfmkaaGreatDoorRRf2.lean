/- Part of the proof. -/
import Derived.Test.YtlpmiimgacfmkaaGreatDoorRVh
set_option linter.all false
set_option maxHeartbeats 4000000
set_option maxRecDepth 100000
namespace Go.Proofs.YtlpmiimgacfmkaaGreatDoor
open Go.Proofs.Tryz
open Go.RowKit Go.Shelf
theorem po{α:Type}{P:Program}{g:Operand}{ps:Array Tmp}{assign body:Code}{Q:Exit->Act->World->Prop}{a:Act}{w:World}{gf:Nat}{lb:Array Value}(n:Nat)(T:List Nat)(hT:∀q∈T,q<w.heap.size)(xs:List α)(encs:α->Array Value)
 (hg:a.eval g=.func (.func gf) #[] lb) (eg:∀args w,(callFunc gf args).run P w=.ok (.enter gf args) w) (hps:∀x,(encs x).size=ps.size)
 (I:Nat->World->Prop) (hI:∀k W W' S,I k W->Fr S W W'->(∀q∈S,w.heap.size<=q)->I k W') (h0:I 0 w)
 (hseq : ∀(l : Nat) (J : Nat -> World -> Prop) (W : World), Fr [] w W -> w.heap.size + 2 <= W.heap.size -> (∀k W' W'' S, J k W' -> Fr S W' W'' -> (∀q ∈ S, W.heap.size <= q) -> J k W'') -> (∀k x W1, xs[k]? = some x -> J k W1 -> YieldAt Fence.wide (n - 1) P l (encs x) W1 λe W' => (k + 1 < xs.length -> e = .returned (.bool true)) /\ (k + 1 = xs.length -> e = .returned (.bool false)) /\ J (k + 1) W' /\ Fr (w.heap.size :: (w.heap.size + 1) :: T) W1 W') -> J 0 W ->
  CallsIn Fence.wide n P gf (#[.func (.yield l) #[] #[]]++lb) W λe W'=>(∃v,e=.returned v)/\J xs.length W')
 (A:Nat->Act->World->Prop) (hA:∀k a' W W',A k a' W->Fr [w.heap.size,w.heap.size+1] W W'->A k a' W')
 (hassign:∀(l k:Nat) (x:α) (W:World) (K:Act->World->Prop),xs[k]?=some x->I k W->w.heap.size+2<=W.heap.size->(∀a' W',Fr [] W W'->A k a' W'->K a' W') ->
  assign.wpIn (Fence.wide.inRound l) (n - 1) P (Exit.then K (λ_ _ _=>False)) { tmps:=(ps.zip (encs x)).foldl (λt (p,v)=>t.setIfInBounds p v) a.tmps,defers:=[] } W)
 (hbody:∀(l k:Nat) (x:α) (a':Act) (W:World),xs[k]?=some x->k+1<xs.length->A k a' W->w.heap.size+2<=W.heap.size->body.wpIn (Fence.wide.inRound l) (n - 1) P (λe _ W'=>e=.normal/\I (k+1) W'/\Fr T W W') a' W)
 (hlast:∀(l k:Nat) (x:α) (a':Act) (W:World),xs[k]?=some x->k+1=xs.length->A k a' W->w.heap.size+2<=W.heap.size->body.wpIn (Fence.wide.inRound l) (n - 1) P (λe _ W'=>e=Exit.ret/\I (k+1) W'/\Fr T W W') a' W)
 (hne:xs≠[])
 (hstop:∀(D:Nat) (W:World),w.heap.size<=D->I xs.length W->W.heap[D]?=some (.deferred (some []))->(Code.ret).wp P Q { a with defers:={ target:=.collected D,args:=#[] }::a.defers } W) :
 (Code.rangeFunc g ps assign body).wp P Q a w:=by
 refine(wpIn_wide (n:=n+1)).1 (wpIn_rangeFunc λfn hfn=>?_);obtain⟨rec,hrec⟩:∃rec:LoopState->Option Code->Loop,rec=λst pe=>{ state:=st,pending:=pe,fn,tmps:=a.tmps,params:=ps,assign,body,defers:=w.heap.size }:=⟨_,rfl⟩;obtain⟨W1,hW1⟩:=eR ((w.alloc (.deferred (some []))).alloc (.loop (rec .ready none)))
 have hL1:W1.heap[w.heap.size+1]?=some (.loop (rec .ready none)):=by
  rw[<-hW1];have:=World.alloc_heap_new (w.alloc (.deferred (some []))) (.loop (rec .ready none))
  rwa [kX]at this
 have hK1:W1.heap[w.heap.size]?=some (.deferred (some [])):=by
  rw[<-hW1];exact(Below.heap_alloc _ _ _ (by simp)).trans (World.alloc_heap_new w _)
 have hf1:Fr [] w W1:=by rw[<-hW1];exact((Fq [] w).alloc _).alloc _
 have hz1:W1.heap.size=w.heap.size+2:=by rw[<-hW1];simp
 have hfD:∀(W:World) (o:Obj),Fr [w.heap.size,w.heap.size+1] W (W.putObj (w.heap.size+1) o):=λW o=>jn o (Fq _ W) (.inl (by simp));have hlowD:∀(W:World) (o:Obj),Fr (w.heap.size::(w.heap.size+1)::T) W (W.putObj (w.heap.size+1) o):=λW o=>(hfD W o).mono (by simp);refine⟨w.heap.size+1,[{ target:=.collected w.heap.size,args:=#[] }],W1,{ target:=.fn (.func gf) lb,args:=#[.func (.yield (w.heap.size+1)) #[] #[]] },W1,gf,#[.func (.yield (w.heap.size+1)) #[] #[]]++lb,W1,?_,?_,λ_ _=>trivial,?_,λ_=>Nat.succ_le_succ (Nat.zero_le n),?_⟩
 ·rw[<-hW1,hrec];exact run_enterLoop_outer _ _ _ _ _
 ·simp only[resolve,hg]
  simp[go_sem]
 ·simp[invoke,go_sem,eg]
 ·refine(hseq (w.heap.size+1) (λk W=>I k W/\W.heap[w.heap.size+1]?=some (.loop (rec (if k=xs.length then .done else .ready) (if k=xs.length then some (Code.ret)else none)))/\W.heap[w.heap.size]?=some (.deferred (some []))) W1 hf1 (by omega) ?_ ?_ ⟨hI 0 w W1 [] h0 hf1 (by simp),?_,hK1⟩).mono ?_
  ·rintro k W W' S ⟨h1,h2,h3⟩ hS hq
   exact⟨hI _ _ _ _ h1 hS (λq hm=>by have:=hq q hm;omega),(hS.block _ (Array.getElem?_eq_some_iff.1 h2).1 (λhm=>by have:=hq _ hm;omega)).trans h2,(hS.block _ (Array.getElem?_eq_some_iff.1 h3).1 (λhm=>by have:=hq _ hm;omega)).trans h3⟩
  ·rintro k x W hx ⟨hi,hl,hk⟩
   have hkl:k<xs.length:=(i9.1 hx).1;have hkn0:¬(k=xs.length):=by omega
   rw[if_neg hkn0,if_neg hkn0]at hl;have hlt:w.heap.size+1<W.heap.size:=(Array.getElem?_eq_some_iff.1 hl).1;have hy:=run_yield (P:=P) (args:=encs x) hl (by rw[hrec];exact hps x);rw[hrec]at hy;refine⟨fn,_,assign,body,hy,roundIn_of_wpIn hfn (hassign _ k x W _ hx hi (by omega) ?_)⟩;clear hy;intro a' Wa hfa hax;have hlta:w.heap.size+1<Wa.heap.size:=Nat.lt_of_lt_of_le hlt hfa.size
   replace hl:=(hfa.block _ (by omega) (by simp)).trans hl
   replace hk:=(hfa.block _ (by omega) (by simp)).trans hk
   refine⟨_,run_beginRound hl (by rw[hrec]),?_⟩;have hl2:(Wa.putObj (w.heap.size+1) (.loop { rec .ready none with state:=.busy })).heap[w.heap.size+1]?=some (.loop { rec .ready none with state:=.busy }):=World.putObj_heap_same hlta;have hk2:(Wa.putObj (w.heap.size+1) (.loop { rec .ready none with state:=.busy })).heap[w.heap.size]?=some (.deferred (some [])):=(World.putObj_heap_other (by omega)).trans hk;have hlowa:Fr (w.heap.size::(w.heap.size+1)::T) W (Wa.putObj (w.heap.size+1) (.loop { rec .ready none with state:=.busy })):=(hfa.mono (by simp)).then (hlowD _ _)
   by_cases hkk:k+1<xs.length
   ·refine wpIn_mono (hbody _ k x a' _ hx hkk (hA k a' _ _ hax (hfD _ _)) (by simp;omega)) ?_
    rintro e a3 W3 ⟨rfl,hi3,hf3⟩;have hl3:=(hf3.block _ (by simp;omega) (λhm=>by have:=hT _ hm;omega)).trans hl2;have hk3:=(hf3.block _ (by simp;omega) (λhm=>by have:=hT _ hm;omega)).trans hk2;have hr:=run_endRound (P:=P) none hl3;have hs3:=(Array.getElem?_eq_some_iff.1 hl3).1;refine⟨_,_,hr,λ_=>rfl,λh=>absurd h (by omega),⟨hI _ _ _ _ hi3 (hfD _ _) (by simp),?_,(World.putObj_heap_other (by omega)).trans hk3⟩,hlowa.then ((hf3.mono (λx hx=>.inl (by simp[hx]))).then (hlowD _ _))⟩;have hkn:¬(k+1=xs.length):=by omega
    rw[if_neg hkn,if_neg hkn];exact(World.putObj_heap_same hs3).trans (by rw[hrec];rfl)
   ·refine wpIn_mono (hlast _ k x a' _ hx (by omega) (hA k a' _ _ hax (hfD _ _)) (by simp;omega)) ?_
    rintro e a3 W3 ⟨rfl,hi3,hf3⟩;have hl3:=(hf3.block _ (by simp;omega) (λhm=>by have:=hT _ hm;omega)).trans hl2;have hk3:=(hf3.block _ (by simp;omega) (λhm=>by have:=hT _ hm;omega)).trans hk2;have hr:=run_endRound (P:=P) (some (Code.ret)) hl3;have hs3:=(Array.getElem?_eq_some_iff.1 hl3).1;refine⟨_,_,hr,λh=>absurd h (by omega),λ_=>rfl,⟨hI _ _ _ _ hi3 (hfD _ _) (by simp),?_,(World.putObj_heap_other (by omega)).trans hk3⟩,hlowa.then ((hf3.mono (λx hx=>.inl (by simp[hx]))).then (hlowD _ _))⟩;have hkn:k+1=xs.length:=by omega
    rw[if_pos hkn,if_pos hkn];exact(World.putObj_heap_same hs3).trans (by rw[hrec];rfl)
  ·have h0x:¬(0=xs.length):=λh=>hne (List.eq_nil_of_length_eq_zero h.symm)
   rw[if_neg h0x,if_neg h0x];exact hL1
  ·rintro e W2 ⟨⟨v,rfl⟩,hi,hl,hk⟩
   rw[if_pos rfl,if_pos rfl]at hl;refine⟨some (Code.ret),_,by have:=run_endLoop (P:=P) hl (by rw[hrec];simp);rw[hrec]at this;exact this,?_⟩;exact wpIn_wide.2 (hstop w.heap.size _ (fV _) (hI _ _ _ _ hi (hfD _ _) (by simp)) ((World.putObj_heap_other (by omega)).trans hk))
theorem oG(id:Nat){α:Type}{P:Program}{g:Operand}{ps:Array Tmp}{assign body:Code}{Q:Exit->Act->World->Prop}{a:Act}{w:World}{gf:Nat}{lb:Array Value}(n:Nat)(T:List Nat)(hT:∀q∈T,q<w.heap.size)(xs:List α)(encs:α->Array Value)
 (hg:a.eval g=.func (.func gf) #[] lb) (eg:∀args w,(callFunc gf args).run P w=.ok (.enter gf args) w) (hps:∀x,(encs x).size=ps.size)
 (I:Nat->World->Prop) (hI:∀k W W' S,I k W->Fr S W W'->(∀q∈S,w.heap.size<=q)->I k W') (h0:I 0 w)
 (hseq : ∀(l : Nat) (J : Nat -> World -> Prop) (W : World), Fr [] w W -> w.heap.size + 2 <= W.heap.size -> (∀k W' W'' S, J k W' -> Fr S W' W'' -> (∀q ∈ S, W.heap.size <= q) -> J k W'') -> (∀k x W1, xs[k]? = some x -> J k W1 -> YieldAt Fence.wide (n - 1) P l (encs x) W1 λe W' => (k + 1 < xs.length -> e = .returned (.bool true)) /\ (k + 1 = xs.length -> e = .returned (.bool false)) /\ J (k + 1) W' /\ Fr (w.heap.size :: (w.heap.size + 1) :: T) W1 W') -> J 0 W ->
  CallsIn Fence.wide n P gf (#[.func (.yield l) #[] #[]]++lb) W λe W'=>(∃v,e=.returned v)/\J xs.length W')
 (A:Nat->Act->World->Prop) (hA:∀k a' W W',A k a' W->Fr [w.heap.size,w.heap.size+1] W W'->A k a' W')
 (hassign:∀(l k:Nat) (x:α) (W:World) (K:Act->World->Prop),xs[k]?=some x->I k W->w.heap.size+2<=W.heap.size->(∀a' W',Fr [] W W'->A k a' W'->K a' W') ->
  assign.wpIn (Fence.wide.inRound l) (n - 1) P (Exit.then K (λ_ _ _=>False)) { tmps:=(ps.zip (encs x)).foldl (λt (p,v)=>t.setIfInBounds p v) a.tmps,defers:=[] } W)
 (hbody:∀(l k:Nat) (x:α) (a':Act) (W:World),xs[k]?=some x->k+1<xs.length->A k a' W->w.heap.size+2<=W.heap.size->body.wpIn (Fence.wide.inRound l) (n - 1) P (λe _ W'=>e=.normal/\I (k+1) W'/\Fr T W W') a' W)
 (hlast:∀(l k:Nat) (x:α) (a':Act) (W:World),xs[k]?=some x->k+1=xs.length->A k a' W->w.heap.size+2<=W.heap.size->body.wpIn (Fence.wide.inRound l) (n - 1) P (λe _ W'=>e=Exit.exit id/\I (k+1) W'/\Fr T W W') a' W)
 (hne:xs≠[])
 (hstop:∀(D:Nat) (W:World),w.heap.size<=D->I xs.length W->W.heap[D]?=some (.deferred (some []))->(Code.exit id).wp P Q { a with defers:={ target:=.collected D,args:=#[] }::a.defers } W) :
 (Code.rangeFunc g ps assign body).wp P Q a w:=by
 refine(wpIn_wide (n:=n+1)).1 (wpIn_rangeFunc λfn hfn=>?_);obtain⟨rec,hrec⟩:∃rec:LoopState->Option Code->Loop,rec=λst pe=>{ state:=st,pending:=pe,fn,tmps:=a.tmps,params:=ps,assign,body,defers:=w.heap.size }:=⟨_,rfl⟩;obtain⟨W1,hW1⟩:=eR ((w.alloc (.deferred (some []))).alloc (.loop (rec .ready none)))
 have hL1:W1.heap[w.heap.size+1]?=some (.loop (rec .ready none)):=by
  rw[<-hW1];have:=World.alloc_heap_new (w.alloc (.deferred (some []))) (.loop (rec .ready none))
  rwa [kX]at this
 have hK1:W1.heap[w.heap.size]?=some (.deferred (some [])):=by
  rw[<-hW1];exact(Below.heap_alloc _ _ _ (by simp)).trans (World.alloc_heap_new w _)
 have hf1:Fr [] w W1:=by rw[<-hW1];exact((Fq [] w).alloc _).alloc _
 have hz1:W1.heap.size=w.heap.size+2:=by rw[<-hW1];simp
 have hfD:∀(W:World) (o:Obj),Fr [w.heap.size,w.heap.size+1] W (W.putObj (w.heap.size+1) o):=λW o=>jn o (Fq _ W) (.inl (by simp));have hlowD:∀(W:World) (o:Obj),Fr (w.heap.size::(w.heap.size+1)::T) W (W.putObj (w.heap.size+1) o):=λW o=>(hfD W o).mono (by simp);refine⟨w.heap.size+1,[{ target:=.collected w.heap.size,args:=#[] }],W1,{ target:=.fn (.func gf) lb,args:=#[.func (.yield (w.heap.size+1)) #[] #[]] },W1,gf,#[.func (.yield (w.heap.size+1)) #[] #[]]++lb,W1,?_,?_,λ_ _=>trivial,?_,λ_=>Nat.succ_le_succ (Nat.zero_le n),?_⟩
 ·rw[<-hW1,hrec];exact run_enterLoop_outer _ _ _ _ _
 ·simp only[resolve,hg]
  simp[go_sem]
 ·simp[invoke,go_sem,eg]
 ·refine(hseq (w.heap.size+1) (λk W=>I k W/\W.heap[w.heap.size+1]?=some (.loop (rec (if k=xs.length then .done else .ready) (if k=xs.length then some (Code.exit id)else none)))/\W.heap[w.heap.size]?=some (.deferred (some []))) W1 hf1 (by omega) ?_ ?_ ⟨hI 0 w W1 [] h0 hf1 (by simp),?_,hK1⟩).mono ?_
  ·rintro k W W' S ⟨h1,h2,h3⟩ hS hq
   exact⟨hI _ _ _ _ h1 hS (λq hm=>by have:=hq q hm;omega),(hS.block _ (Array.getElem?_eq_some_iff.1 h2).1 (λhm=>by have:=hq _ hm;omega)).trans h2,(hS.block _ (Array.getElem?_eq_some_iff.1 h3).1 (λhm=>by have:=hq _ hm;omega)).trans h3⟩
  ·rintro k x W hx ⟨hi,hl,hk⟩
   have hkl:k<xs.length:=(i9.1 hx).1;have hkn0:¬(k=xs.length):=by omega
   rw[if_neg hkn0,if_neg hkn0]at hl;have hlt:w.heap.size+1<W.heap.size:=(Array.getElem?_eq_some_iff.1 hl).1;have hy:=run_yield (P:=P) (args:=encs x) hl (by rw[hrec];exact hps x);rw[hrec]at hy;refine⟨fn,_,assign,body,hy,roundIn_of_wpIn hfn (hassign _ k x W _ hx hi (by omega) ?_)⟩;clear hy;intro a' Wa hfa hax;have hlta:w.heap.size+1<Wa.heap.size:=Nat.lt_of_lt_of_le hlt hfa.size
   replace hl:=(hfa.block _ (by omega) (by simp)).trans hl
   replace hk:=(hfa.block _ (by omega) (by simp)).trans hk
   refine⟨_,run_beginRound hl (by rw[hrec]),?_⟩;have hl2:(Wa.putObj (w.heap.size+1) (.loop { rec .ready none with state:=.busy })).heap[w.heap.size+1]?=some (.loop { rec .ready none with state:=.busy }):=World.putObj_heap_same hlta;have hk2:(Wa.putObj (w.heap.size+1) (.loop { rec .ready none with state:=.busy })).heap[w.heap.size]?=some (.deferred (some [])):=(World.putObj_heap_other (by omega)).trans hk;have hlowa:Fr (w.heap.size::(w.heap.size+1)::T) W (Wa.putObj (w.heap.size+1) (.loop { rec .ready none with state:=.busy })):=(hfa.mono (by simp)).then (hlowD _ _)
   by_cases hkk:k+1<xs.length
   ·refine wpIn_mono (hbody _ k x a' _ hx hkk (hA k a' _ _ hax (hfD _ _)) (by simp;omega)) ?_
    rintro e a3 W3 ⟨rfl,hi3,hf3⟩;have hl3:=(hf3.block _ (by simp;omega) (λhm=>by have:=hT _ hm;omega)).trans hl2;have hk3:=(hf3.block _ (by simp;omega) (λhm=>by have:=hT _ hm;omega)).trans hk2;have hr:=run_endRound (P:=P) none hl3;have hs3:=(Array.getElem?_eq_some_iff.1 hl3).1;refine⟨_,_,hr,λ_=>rfl,λh=>absurd h (by omega),⟨hI _ _ _ _ hi3 (hfD _ _) (by simp),?_,(World.putObj_heap_other (by omega)).trans hk3⟩,hlowa.then ((hf3.mono (λx hx=>.inl (by simp[hx]))).then (hlowD _ _))⟩;have hkn:¬(k+1=xs.length):=by omega
    rw[if_neg hkn,if_neg hkn];exact(World.putObj_heap_same hs3).trans (by rw[hrec];rfl)
   ·refine wpIn_mono (hlast _ k x a' _ hx (by omega) (hA k a' _ _ hax (hfD _ _)) (by simp;omega)) ?_
    rintro e a3 W3 ⟨rfl,hi3,hf3⟩;have hl3:=(hf3.block _ (by simp;omega) (λhm=>by have:=hT _ hm;omega)).trans hl2;have hk3:=(hf3.block _ (by simp;omega) (λhm=>by have:=hT _ hm;omega)).trans hk2;have hr:=run_endRound (P:=P) (some (Code.exit id)) hl3;have hs3:=(Array.getElem?_eq_some_iff.1 hl3).1;refine⟨_,_,hr,λh=>absurd h (by omega),λ_=>rfl,⟨hI _ _ _ _ hi3 (hfD _ _) (by simp),?_,(World.putObj_heap_other (by omega)).trans hk3⟩,hlowa.then ((hf3.mono (λx hx=>.inl (by simp[hx]))).then (hlowD _ _))⟩;have hkn:k+1=xs.length:=by omega
    rw[if_pos hkn,if_pos hkn];exact(World.putObj_heap_same hs3).trans (by rw[hrec];rfl)
  ·have h0x:¬(0=xs.length):=λh=>hne (List.eq_nil_of_length_eq_zero h.symm)
   rw[if_neg h0x,if_neg h0x];exact hL1
  ·rintro e W2 ⟨⟨v,rfl⟩,hi,hl,hk⟩
   rw[if_pos rfl,if_pos rfl]at hl;refine⟨some (Code.exit id),_,by have:=run_endLoop (P:=P) hl (by rw[hrec];simp);rw[hrec]at this;exact this,?_⟩;exact wpIn_wide.2 (hstop w.heap.size _ (fV _) (hI _ _ _ _ hi (hfD _ _) (by simp)) ((World.putObj_heap_other (by omega)).trans hk))
attribute [local go_sem] Oper.semAt_some
theorem jz{α:Type}{f:α->List Value}{m:Nat}(a:∀x,(f x).length=m):∀ {xs:List α} {j:Nat} {x:α} {o:Nat},xs[j]?=some x->o<m->(xs.flatMap f)[j*m+o]?=(f x)[o]?
 | [],j,x,o,h,_=>by simp at h
 | y::r,0,x,o,h,b=>by
  simp at h;subst h
  rw[List.flatMap_cons,Nat.zero_mul,Nat.zero_add,List.getElem?_append_left (by rw[a];exact b)]
 | y::r,j+1,x,o,h,b=>by
  rw[List.flatMap_cons,List.getElem?_append_right (by rw[a,Nat.add_mul];omega),a,show (j+1)*m+o - m=j*m+o by rw[Nat.add_mul];omega];exact jz a (by simpa using h) b
theorem xw(g m c:Nat)(w:World):Calls prog 161 #[.slice (some ⟨g,0,none⟩) m c] w λe w'=>e=.returned (.func (.func 191) #[] #[.pointer (some ⟨w.heap.size,0,none⟩)])/\w'=w.alloc (.cells #[.slice (some ⟨g,0,none⟩) m c] 280):=by
 go_enter func161,ntmps161
 go_wp2_with fail
 go_ret
 exact⟨rfl,rfl⟩
def ww(L:List VZ)(k:Nat):Int × VZ:=(((L.length - 1 - k:Nat):Int),L.getD (L.length - 1 - k) z0)
theorem Gl(n l B g c:Nat)(W:World)(T:List Nat)(L:List VZ)(K:Nat)(ak:1<=K)(ae:K<=L.length)(af:L.length<=1000)(w:BoxN W B 280 #[.slice (some ⟨g,0,none⟩) L.length c])(R:Cs W g (L.flatMap VZ.cs))(M:B ∉ T)(S:g ∉ T)(J:Nat->World->Prop)
 (U:∀k t,k<K->J k t->YieldAt Fence.wide (n - 1) prog l #[.int .i64 (ww L k).1,.agg (ww L k).2.cs.toArray] t λe d=>(k+1<K->e=.returned (.bool true))/\(k+1=K->e=.returned (.bool false))/\J (k+1) d/\Fr T t d) (N:J 0 W) :
 CallsIn Fence.wide n prog 191 #[.func (.yield l) #[] #[],.pointer (some ⟨B,0,none⟩)] W λe d=>(∃v,e=.returned v)/\J K d:=by
 obtain⟨m,r⟩:=eR (L.length);have E:W.cell? ⟨B,0,none⟩=some (.slice g m c):=by rw[<-r];exact w.c 0
 have HY:=Hd U;have Y:=Hd w;have aa:=Hd R;have H:=Hd (An M S);have HJ:=Hd N;have s:=Hd r;rw[r]at ae af;have an:1<=m:=qo
 clear U w R M S N r;refine callsIn_of_wp func191 rfl trivial ?_ rfl;simp only[ntmps191,List.size_toArray,List.length_cons,List.length_nil,Nat.reduceAdd,Nat.reduceSub,Array.replicate_succ,Array.replicate_zero,List.push_toArray,List.append_toArray,List.nil_append,List.cons_append]
 gi_wp2_with fail
 clear E
 gi_loopw [3] (λi wr=>∃j:Nat,j<m/\i=j/\m - 1 - j<K/\J (m - 1 - j) wr/\Fr T W wr) (λi _=>(intOf i).toNat)
 case atStart=>exact⟨m - 1,qo,by congr 1;omega,qo,by rw[show m - 1 - (m - 1)=0 by omega];exact HJ.out,Fq _ _⟩
 case round =>
  obtain⟨j,hj,rfl,hk,O,p⟩:=hrel;have y:=Y.out.fr p H.out.1;rw[s.out]at y;have q:=aa.out.fr p H.out.2;obtain⟨z,D⟩:∃z,L[j]?=some z:=⟨_,gx (by rw[s.out];omega)⟩
  have Q:ww L (m - 1 - j)=((j:Int),z):=by
   unfold ww;rw[s.out,show m - 1 - (m - 1 - j)=j by omega,List.getD_eq_getElem?_getD,D];rfl
  obtain⟨fn,ai,ab,ac,C,P⟩:=iY (m':=n - 1) (HY.out (m - 1 - j) wr hk O);rw[Q]at C;have b:=λo (ho:o<3)=>jz EV D ho;unfold VZ.cs at b;obtain⟨V,A,_,_⟩:=eT z.v;have ah:(Instr.yield l #[.int .i64 (j:Int),.agg #[.int .i64 z.i,.string V,.bool z.a]]).run prog wr=.ok (.round l fn ai ab ac) wr:=by rw[<-A];exact C
  have aj:wr.cell? ⟨g,j*3,none⟩=some (.int .i64 z.i):=q.2 _ _ (b 0 qo);have z1:wr.cell? ⟨g,j*3+1,none⟩=some (.string V):=by rw[<-A];exact q.2 _ _ (b 1 qo)
  have z2:=q.2 _ _ (b 2 qo);have E:=y.k0;have am:(j:Int)<(m:Int):=qo
  have G:=Hd P;have Z:=Hd p;clear P C y q b A Q D p O
  gi_wp2_with fail
  refine⟨λad=>absurd ad (by simp[Fence.wide]),G.out.mono ?_⟩;clear ah G E aj z1 z2;rintro e W2 ⟨f,h,u,I⟩;rw[show m - 1 - j+1=m - j by omega]at f h u;have F:=Hd u;have X:=Hd (Z.out.trans I (λx hx=>.inl hx));clear u I
  rcases Nat.lt_or_ge (m - j) K with ag|al
  ·obtain rfl:=f ag
   clear f h;obtain⟨j,rfl⟩:∃j',j=j'+1:=⟨j - 1,qo⟩
   gi_wp2_with fail
   exact⟨⟨j,qo,rfl,qo,by rw[show m - 1 - j=m - (j+1) by omega];exact F.out,X.out⟩,by show ((j:Int)).toNat<((j+1:Nat):Int).toNat;omega⟩
  ·obtain rfl:=h qo
   clear f h
   gi_wp2_with fail
   refine bodyPost_ret (results_none rfl _ _ _) rfl ?_;exact⟨⟨_,rfl⟩,by rw[show K=m - j by omega];exact F.out⟩
attribute [local go_sem] Oper.semAt_some
theorem vw(b:Nat)(k a i:Int)(c d:ByteArray)(f:Int)(w:World):Calls prog 100 #[.pointer (some ⟨b,0,none⟩),.agg #[.int .i64 k,.string c,.int .i64 a,.int .i64 i,.string d],.int .i64 f] w λe w'=>e=.returned (.func (.func 160) #[] #[.pointer (some ⟨w.heap.size,0,none⟩),.pointer (some ⟨w.heap.size+1,0,none⟩),.pointer (some ⟨w.heap.size+2,0,none⟩)]) /\
 BoxN w' w.heap.size 106 #[.pointer (some ⟨b,0,none⟩)]/\BoxN w' (w.heap.size+1) 31 #[.int .i64 k,.string c,.int .i64 a,.int .i64 i,.string d]/\BoxN w' (w.heap.size+2) 3 #[.int .i64 f]/\Fr [] w w'/\w'.heap.size=w.heap.size+3:=by
 go_enter func100,ntmps100
 go_wp2_with fail
 go_ret
 have j:=BoxN.new w 106 #[.pointer b];have g:=BoxN.new (w.alloc (.cells #[.pointer b] 106)) 31 #[k,c,a,i,d];have h:=BoxN.new ((w.alloc (.cells #[.pointer b] 106)).alloc (.cells #[k,c,a,i,d] 31)) 3 #[f];rw[kX]at g;rw[kX,kX]at h;refine⟨qs,(j.alloc _).alloc _,g.alloc _,h,(((Fq [] w).alloc _).alloc _).alloc _,qs⟩
def AQ(L:List VZ)(K:Nat):List VZ:=(List.range K).map λk=>(ww L k).2
theorem oH(L:List VZ)(K:Nat):(AQ L K).length=K:=by simp[AQ]
theorem qz{L:List VZ}{K k:Nat}(h:k<K):(AQ L K)[k]?=some (ww L k).2:=by simp[AQ,h]
theorem RoundIn.inRound{n m r:Nat}{P:Program}{l f:Nat}{d:Array Value}{a b:Code}{w:World}{R:Ending->World->Prop}(h:RoundIn Fence.wide n P l f d a b w R):RoundIn (Fence.wide.inRound r) m P l f d a b w R :=
 ⟨trivial,λc cs _=>h.2 c cs (room_wide _)⟩
theorem FC(n l B1 B2 R b:Nat)(ys:List AX)(ar:List Nat)(nm:ON)(so st:ByteArray)(Y:Int)(L:List VZ)(K:Nat)(hL:AS (ys.map AX.a) nm=L)(aC:L.length<=1000)(aA:1<=K)(aB:K<=L.length)(D:∀z∈L,z.i<Y)(W:World)(T:List Nat)(hT:∀q∈T,q<W.heap.size)(F:BoxN W B1 106 #[.pointer (some ⟨b,0,none⟩)])(G:BoxN W B2 31 #[.int .i64 nm.kind,.string so,.int .i64 nm.number,.int .i64 nm.index,.string st])(he:fg nm=.agg #[.int .i64 nm.kind,.string so,.int .i64 nm.number,.int .i64 nm.index,.string st])(aK:eX nm=0)(B:BoxN W R 3 #[.int .i64 Y])(av:R ∉ T)(hv:VG W b ys ar)
 (J : Nat -> World -> Prop) (hJ : ∀k d au S, J k d -> Fr S d au -> (∀q ∈ S, W.heap.size <= q) -> J k au)
 (hy:∀k (x:VZ) W1,(AQ L K)[k]?=some x->J k W1->YieldAt Fence.wide (n - 1) prog l #[.agg x.cs.toArray] W1 λe d=>(k+1<(AQ L K).length->e=.returned (.bool true))/\(k+1=(AQ L K).length->e=.returned (.bool false))/\J (k+1) d/\Fr T W1 d) (az:J 0 W) :
 CallsIn Fence.wide n prog 160 #[.func (.yield l) #[] #[],.pointer (some ⟨B1,0,none⟩),.pointer (some ⟨B2,0,none⟩),.pointer (some ⟨R,0,none⟩)] W λe d=>(∃v,e=.returned v)/\J (AQ L K).length d:=by
 rw[oH]at hy ⊢;have aN:((List.range K).map (ww L)).length=K:=qs
 have aM:∀k x,((List.range K).map (ww L))[k]?=some x->k<K/\x=ww L k:=λk x j=>by
  rw[List.getElem?_map]at j
  rcases Nat.lt_or_ge k K with f|f
  ·rw[List.getElem?_range f]at j
   exact⟨f,(by simpa using j.symm)⟩
  ·rw[List.getElem?_eq_none (by simpa using f)]at j
   simp at j
 have aF:∀k,k<K->(ww L k).2.i<Y:=λk f=>by
  unfold ww;refine D _ ?_;rw[List.getD_eq_getElem?_getD,gx qo];exact List.getElem_mem _
 obtain⟨w1,aL,m,ae⟩:=kS W #[.func (.yield l) #[] #[]] 281;have k1:=F.fr ae qs;have k2:=G.fr ae qs;have x1:=k1.k0;obtain⟨y0,y1,y2,y3,y4⟩:=k2.m5;have ak:=Gn b ys ar nm w1 (hv.fr0 ae) aK;rw[he,hL]at ak;have aW:=Hd ak;have r:=Hd (An aN (An aM aF));have V:=Hd (An aA (An aB aC));have ao:=Hd m;have ap:=Hd ae;have aX:=Hd aL;have ah:=Hd (An B av);have HJ:=Hd hJ;have HY:=Hd hy;have aU:=Hd az;have HT:=Hd hT;clear k1 k2 ak m ae aL F G B av hv hJ hy az hT he aK hL D aN aM aF aA aB aC;refine callsIn_of_wp_marks func160 rfl trivial ?_ rfl;simp only[ntmps160,List.size_toArray,List.length_cons,List.length_nil,Nat.reduceAdd,Nat.reduceSub,Array.replicate_succ,Array.replicate_zero,List.push_toArray,List.append_toArray,List.nil_append,List.cons_append];refine wpIn_wide.2 ?_
 go_upto_region 1 with fail
 rw[aX.out]
 go_wp2_with (first
  | (go_at_call 162;(with_reducible refine aW.out.mono ?_);rintro e w2 ⟨g,c,rfl,hg,aG,aJ⟩;have aq:=Hd hg;have ai:=Hd aG;have aT:=Hd aJ;clear hg aG aJ)
  | (go_at_call 161;(with_reducible refine(xw g L.length c w2).mono ?_);rintro e h ⟨rfl,rfl⟩))
 obtain⟨h,am,aE,af⟩:=kS w2 #[.slice g L.length c] 280;have aO:h.heap.size=w2.heap.size+1:=by rw[<-am];simp
 rw[am];clear am;have al:=(ap.out.then ai.out).then af;have aD:W.heap.size<h.heap.size:=by have:=ao.out.lt;have:=(ai.out.then af).size;omega
 have ay:=aq.out.fr0 af;have aI:=aq.out.1;have h0:J 0 h/\BoxN h W.heap.size 281 #[.func (.yield l) #[] #[]]/\BoxN h R 3 #[Y]:=⟨HJ.out 0 W h [] aU.out al qs,ao.out.fr (ai.out.then af) qs,ah.out.1.fr al qs⟩;have aw:=ah.out.1.lt;have a3:W.heap.size ∉ T:=λo=>by have:=HT.out _ o;omega
 have ax:w2.heap.size ∉ T:=λo=>by have:=HT.out _ o;omega
 have aH:g ∉ T:=λo=>by have:=HT.out _ o;have:=aT.out;have:=ap.out.size;omega
 have a4:w2.heap.size ∉ h.heap.size::(h.heap.size+1)::T:=by simp only[List.mem_cons,not_or];exact⟨qo,qo,ax⟩
 have a6:g ∉ h.heap.size::(h.heap.size+1)::T:=by simp only[List.mem_cons,not_or];exact⟨qo,qo,aH⟩
 have ag:=Hd (An a3 ah.out.2);have A:=Hd (An aD (An aO (An aw aI)));have aQ:=Hd aE;have aS:=Hd ay;clear aD aO aw aI aE ay af al x1 y0 y1 y2 y3 y4 aH ax
 refine po (a:=?aa) 5 T (λq hq=>by have:=HT.out q hq;have:=A.out;omega) ((List.range K).map (ww L)) (λx:Int × VZ=>#[x.1,.agg x.2.cs.toArray]) (lb:=#[.pointer w2.heap.size]) ?_ (enters_of func191 qk rfl) ?_
  (λk d=>J k d/\BoxN d W.heap.size 281 #[.func (.yield l) #[] #[]]/\BoxN d R 3 #[.int .i64 Y])
  (λk U U' S j C hq=>⟨HJ.out k U U' S j.1 C (λq o=>by have:=hq q o;have:=A.out;omega),j.2.1.fr C (λo=>by have:=hq _ o;have:=A.out;omega),j.2.2.fr C (λo=>by have:=hq _ o;have:=A.out;omega)⟩) h0
  (λl2 J2 U hU X a8 a7 a5=>(Gl 5 l2 w2.heap.size g c U (h.heap.size::(h.heap.size+1)::T) L K V.out.1 V.out.2.1 V.out.2.2 (aQ.out.fr hU qs) (aS.out.fr0 hU) a4 a6 J2 (λk W1 f w=>by have hh:=a7 k (ww L k) W1 (by rw[List.getElem?_map,List.getElem?_range f];rfl) w;rw[r.out.1]at hh;exact hh) a5).mono (by rw[r.out.1];exact λ_ _ j=>j))
  (λk a' d=>∃E,(∃x:Int × VZ,((List.range K).map (ww L))[k]?=some x/\a'={ tmps:=(((Act.tmps ?aa).setIfInBounds 11 (.int .i64 x.1)).setIfInBounds 12 (.agg x.2.cs.toArray)).setIfInBounds 6 (.pointer (some ⟨E,0,none⟩)),defers:=[] }/\BoxN d E 201 x.2.cs.toArray)/\h.heap.size+2<=E/\(J k d/\BoxN d W.heap.size 281 #[.func (.yield l) #[] #[]]/\BoxN d R 3 #[.int .i64 Y]))
  ?_ ?_ ?_ ?_ ?_ ?_
 ·rfl
 ·intro x;rfl
 ·rintro k a' U U' ⟨E,⟨x,p,ha,hb⟩,ac,w,m,u⟩ C
  exact⟨E,⟨x,p,ha,hb.fr C (by simp;omega)⟩,ac,HJ.out k U U' _ w C (by simp;have:=A.out;omega),m.fr C (by simp;have:=A.out;omega),u.fr C (by simp;have:=A.out;omega)⟩
 ·intro l2 k x U K2 p H X hK
  obtain⟨ii,z⟩:=x;unfold VZ.cs;obtain⟨sv,y,_,_⟩:=eT z.v;rw[y]
  gi_wp2_with fail
  refine hK _ _ ((Fq [] U).alloc _) ⟨U.heap.size,⟨_,p,by simp only[VZ.cs,y];rfl,by simp only[VZ.cs,y];exact BoxN.new U _ _⟩,X,HJ.out k U _ [] H.1 ((Fq [] U).alloc _) qs,H.2.1.alloc _,H.2.2.alloc _⟩
 ·intro l2 k x a' U p f hA X
  obtain⟨E,⟨x',O,rfl,I⟩,ac,w,m,u⟩:=hA;rw[p]at O;obtain rfl:x=x':=by simpa using O
  rw[r.out.1]at f;obtain⟨N,P⟩:=r.out.2.1 k x p;have D:=r.out.2.2 k N;rw[<-P]at D;obtain⟨fn,tmps,aY,aZ,Q,ad⟩:=HY.out k x.2 U (by rw[P];exact qz N) w;obtain⟨ii,z⟩:=x;obtain⟨sv,y,_,_⟩:=eT z.v;simp only[VZ.cs,y]at I Q ⊢;simp only at D;obtain⟨t0,t1,t2⟩:=I.m3;have t3:=u.k0;have t4:=m.k0;have an:=Q;have ab:=Hd ad;have Z:=Hd (An m u);have aj:=Hd f;clear Q ad m u I w ac f X p O P N y;simp only[qA,qB,qC]
  gi_wp2_with fail
  refine(RoundIn.inRound ab.out).mono ?_;rintro e U2 ⟨F,G,B,t⟩;obtain rfl:=F aj.out;have M:=Z.out;have s:=Hd (An B (An (An (M.1.fr t ag.out.1) (M.2.fr t ag.out.2)) t));clear F G B t M ab Z an t0 t1 t2 t3 t4
  gi_wp2_with fail
  exact⟨⟨s.out.1,s.out.2.1.1,s.out.2.1.2⟩,s.out.2.2⟩
 ·intro l2 k x a' U p f hA X
  obtain⟨E,⟨x',O,rfl,I⟩,ac,w,m,u⟩:=hA;rw[p]at O;obtain rfl:x=x':=by simpa using O
  rw[r.out.1]at f;obtain⟨N,P⟩:=r.out.2.1 k x p;have D:=r.out.2.2 k N;rw[<-P]at D;obtain⟨fn,tmps,aY,aZ,Q,ad⟩:=HY.out k x.2 U (by rw[P];exact qz N) w;obtain⟨ii,z⟩:=x;obtain⟨sv,y,_,_⟩:=eT z.v;simp only[VZ.cs,y]at I Q ⊢;simp only at D;obtain⟨t0,t1,t2⟩:=I.m3;have t3:=u.k0;have t4:=m.k0;have an:=Q;have ab:=Hd ad;have Z:=Hd (An m u);have aj:=Hd f;clear Q ad m u I w ac f X p O P N y;simp only[qA,qB,qC]
  gi_wp2_with fail
  refine(RoundIn.inRound ab.out).mono ?_;rintro e U2 ⟨F,G,B,t⟩;obtain rfl:=G aj.out;have M:=Z.out;have s:=Hd (An B (An (An (M.1.fr t ag.out.1) (M.2.fr t ag.out.2)) t));clear F G B t M ab Z an t0 t1 t2 t3 t4
  gi_wp2_with fail
  exact⟨⟨s.out.1,s.out.2.1.1,s.out.2.1.2⟩,s.out.2.2⟩
 ·intro j
  have:=r.out.1;rw[j]at this;have:=V.out.1;simp at *;omega
 ·intro aP U hD H hK
  rw[r.out.1]at H;have aV:=Hd H.1;have V:=Hd hK;have aR:=Hd hD;clear H hK hD
  go_wp2_with fail
  refine⟨qs,.inl ⟨_,_,rfl,run_takeDeferred V.out,?_⟩⟩;refine⟨_,results_none rfl _ _ _,⟨_,rfl⟩,?_⟩;exact HJ.out K U _ [aP] aV.out (jn _ (Fq _ _) (.inl qs)) (by simp;have:=A.out;have:=aR.out;omega)
end Go.Proofs.YtlpmiimgacfmkaaGreatDoor
