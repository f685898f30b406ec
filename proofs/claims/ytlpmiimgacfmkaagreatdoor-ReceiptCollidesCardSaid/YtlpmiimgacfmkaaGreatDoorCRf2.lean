/- Part of the proof. -/
import Derived.Test.YtlpmiimgacfmkaaGreatDoorCDg3
import Derived.Test.YtlpmiimgacfmkaaGreatDoorCCd5
set_option linter.all false
set_option maxHeartbeats 4000000
set_option maxRecDepth 100000
namespace Go.Proofs.YtlpmiimgacfmkaaGreatDoor
open Go.Proofs.Tryz List
open Go.RowKit Go.Shelf
def pJ{α:Type}{P:Program}{g:Operand}{ps:Array Tmp}{assign body:Code}{Q:Exit->Act->World->Prop}{a:Act}{w:World}{gf:Nat}{lb:Array Value}(n:Nat)(T:List Nat)(hT:∀q∈T,q<w.heap.size)(xs:List α)(encs:α->Array Value)
 (hg:a.eval g=.func (.func gf) #[] lb) (eg:∀args w,(callFunc gf args).run P w=.ok (.enter gf args) w) (hps:∀x,(encs x).size=ps.size)
 (I:Nat->World->Prop) (hI:∀k W W' S,I k W->Fr S W W'->(∀q∈S,w.heap.size<=q)->I k W') (h0:I 0 w)
 (hseq : ∀(l : Nat) (J : Nat -> World -> Prop) (W : World), Fr [] w W -> w.heap.size + 2 <= W.heap.size -> (∀k W' W'' S, J k W' -> Fr S W' W'' -> (∀q ∈ S, W.heap.size <= q) -> J k W'') -> (∀k x W1, xs[k]? = some x -> J k W1 -> YieldAt Fence.wide (n - 1) P l (encs x) W1 λe W' => (k + 1 < xs.length -> e = .returned (.bool true)) /\ (k + 1 = xs.length -> e = .returned (.bool false)) /\ J (k + 1) W' /\ Fr (w.heap.size :: (w.heap.size + 1) :: T) W1 W') -> J 0 W ->
  CallsIn Fence.wide n P gf (#[.func (.yield l) #[] #[]]++lb) W λe W'=>(∃v,e=.returned v)/\J xs.length W')
 (A:Nat->Act->World->Prop) (hA:∀k a' W W',A k a' W->Fr [w.heap.size,w.heap.size+1] W W'->A k a' W')
 (hassign:∀(l k:Nat) (x:α) (W:World) (K:Act->World->Prop),xs[k]?=some x->I k W->w.heap.size+2<=W.heap.size->(∀a' W',Fr [] W W'->A k a' W'->K a' W') ->
  assign.wpIn (Fence.wide.inRound l) (n - 1) P (Exit.then K (λ_ _ _=>False)) { tmps:=(ps.zip (encs x)).foldl (λt (p,v)=>t.setIfInBounds p v) a.tmps,defers:=[] } W)
 (hbody:∀(l k:Nat) (x:α) (a':Act) (W:World),xs[k]?=some x->k+1<xs.length->A k a' W->w.heap.size+2<=W.heap.size->body.wpIn (Fence.wide.inRound l) (n - 1) P (λe _ W'=>e=.normal/\I (k+1) W'/\Fr T W W') a' W)
 (hlast:∀(l k:Nat) (x:α) (a':Act) (W:World),xs[k]?=some x->k+1=xs.length->A k a' W->w.heap.size+2<=W.heap.size->body.wpIn (Fence.wide.inRound l) (n - 1) P (λe _ W'=>e=Exit.ret/\I (k+1) W'/\Fr T W W') a' W)
 (hne:xs≠[])
 (hstop:∀(D:Nat) (W:World),w.heap.size<=D->I xs.length W->W.heap[D]?=some (.deferred (some []))->(Code.ret).wp P Q { a with defers:={ target:=.collected D,args:=#[] }::a.defers } W) :
 (Code.rangeFunc g ps assign body).wp P Q a w:=by
 refine(wpIn_wide (n:=n+1)).1 (wpIn_rangeFunc λfn hfn=>?_);obtain⟨rec,hrec⟩:∃rec:LoopState->Option Code->Loop,rec=λst pe=>{ state:=st,pending:=pe,fn,tmps:=a.tmps,params:=ps,assign,body,defers:=w.heap.size }:=⟨_,rfl⟩;have⟨W1,hW1⟩:=eR ((w.alloc (.deferred (some []))).alloc (.loop (rec .ready none)))
 have hL1:W1.heap[w.heap.size+1]?=some (.loop (rec .ready none)):=by
  rw[<-hW1];have:=World.alloc_heap_new (w.alloc (.deferred (some []))) (.loop (rec .ready none))
  rwa [jZ]at this
 have hK1:W1.heap[w.heap.size]?=some (.deferred (some [])):=by
  rw[<-hW1];exact(Below.heap_alloc _ _ _ (by simp)).trans (World.alloc_heap_new w _)
 have hf1:Fr [] w W1:=by rw[<-hW1];exact((Fq [] w).alloc _).alloc _
 have hz1:W1.heap.size=w.heap.size+2:=by rw[<-hW1];simp
 have hfD:∀(W:World) (o:Obj),Fr [w.heap.size,w.heap.size+1] W (W.putObj (w.heap.size+1) o):=λW o=>i6 o (Fq _ W) (.inl (by simp));have hlowD:∀(W:World) (o:Obj),Fr (w.heap.size::(w.heap.size+1)::T) W (W.putObj (w.heap.size+1) o):=λW o=>(hfD W o).mono (by simp);refine⟨w.heap.size+1,[{ target:=.collected w.heap.size,args:=#[] }],W1,{ target:=.fn (.func gf) lb,args:=#[.func (.yield (w.heap.size+1)) #[] #[]] },W1,gf,#[.func (.yield (w.heap.size+1)) #[] #[]]++lb,W1,?_,?_,λ_ _=>trivial,?_,λ_=>Nat.succ_le_succ (Nat.zero_le n),?_⟩
 ·rw[<-hW1,hrec];exact run_enterLoop_outer _ _ _ _ _
 ·simp only[resolve,hg]
  simp[go_sem]
 ·simp[invoke,go_sem,eg]
 ·refine(hseq (w.heap.size+1) (λk W=>I k W/\W.heap[w.heap.size+1]?=some (.loop (rec (if k=xs.length then .done else .ready) (if k=xs.length then some (Code.ret)else none)))/\W.heap[w.heap.size]?=some (.deferred (some []))) W1 hf1 (by omega) ?_ ?_ ⟨hI 0 w W1 [] h0 hf1 (by simp),?_,hK1⟩).mono ?_
  ·rintro k W W' S ⟨h1,h2,h3⟩ hS hq
   exact⟨hI _ _ _ _ h1 hS (λq hm=>by have:=hq q hm;omega),(hS.block _ (Array.getElem?_eq_some_iff.1 h2).1 (λhm=>by have:=hq _ hm;omega)).trans h2,(hS.block _ (Array.getElem?_eq_some_iff.1 h3).1 (λhm=>by have:=hq _ hm;omega)).trans h3⟩
  ·rintro k x W hx ⟨hi,hl,hk⟩
   have hkl:k<xs.length:=(gV.1 hx).1;have hkn0:¬(k=xs.length):=by omega
   rw[if_neg hkn0,if_neg hkn0]at hl;have hlt:w.heap.size+1<W.heap.size:=(Array.getElem?_eq_some_iff.1 hl).1;have hy:=run_yield (P:=P) (args:=encs x) hl (by rw[hrec];exact hps x);rw[hrec]at hy;refine⟨fn,_,assign,body,hy,roundIn_of_wpIn hfn (hassign _ k x W _ hx hi (by omega) ?_)⟩;clear hy;intro a' Wa hfa hax;have hlta:w.heap.size+1<Wa.heap.size:=Nat.lt_of_lt_of_le hlt hfa.size
   replace hl:=(hfa.block _ (by omega) (by simp)).trans hl
   replace hk:=(hfa.block _ (by omega) (by simp)).trans hk
   refine⟨_,run_beginRound hl (by rw[hrec]),?_⟩;have hl2:(Wa.putObj (w.heap.size+1) (.loop { rec .ready none with state:=.busy })).heap[w.heap.size+1]?=some (.loop { rec .ready none with state:=.busy }):=World.putObj_heap_same hlta;have hk2:(Wa.putObj (w.heap.size+1) (.loop { rec .ready none with state:=.busy })).heap[w.heap.size]?=some (.deferred (some [])):=(World.putObj_heap_other (by omega)).trans hk;have hlowa:Fr (w.heap.size::(w.heap.size+1)::T) W (Wa.putObj (w.heap.size+1) (.loop { rec .ready none with state:=.busy })):=(hfa.mono (by simp)).then (hlowD _ _)
   by_cases hkk:k+1<xs.length
   ·refine wpIn_mono (hbody _ k x a' _ hx hkk (hA k a' _ _ hax (hfD _ _)) (by simp;omega)) ?_
    rintro e a3 W3 ⟨rfl,hi3,hf3⟩;have hl3:=(hf3.block _ (by simp;omega) (λhm=>by have:=hT _ hm;omega)).trans hl2;have hk3:=(hf3.block _ (by simp;omega) (λhm=>by have:=hT _ hm;omega)).trans hk2;have hr:=run_endRound (P:=P) none hl3;have hs3:=(Array.getElem?_eq_some_iff.1 hl3).1;refine⟨_,_,hr,λ_=>rfl,λh=>absurd h (by omega),⟨hI _ _ _ _ hi3 (hfD _ _) (by simp),?_,(World.putObj_heap_other (by omega)).trans hk3⟩,hlowa.then ((hf3.mono (λx hx=>.inl (by simp[hx]))).then (hlowD _ _))⟩;have hkn:¬(k+1=xs.length):=by omega
    rw[if_neg hkn,if_neg hkn];exact(World.putObj_heap_same hs3).trans (by rw[hrec];rfl)
   ·refine wpIn_mono (hlast _ k x a' _ hx (by omega) (hA k a' _ _ hax (hfD _ _)) (by simp;omega)) ?_
    rintro e a3 W3 ⟨rfl,hi3,hf3⟩;have hl3:=(hf3.block _ (by simp;omega) (λhm=>by have:=hT _ hm;omega)).trans hl2;have hk3:=(hf3.block _ (by simp;omega) (λhm=>by have:=hT _ hm;omega)).trans hk2;have hr:=run_endRound (P:=P) (some (Code.ret)) hl3;have hs3:=(Array.getElem?_eq_some_iff.1 hl3).1;refine⟨_,_,hr,λh=>absurd h (by omega),λ_=>rfl,⟨hI _ _ _ _ hi3 (hfD _ _) (by simp),?_,(World.putObj_heap_other (by omega)).trans hk3⟩,hlowa.then ((hf3.mono (λx hx=>.inl (by simp[hx]))).then (hlowD _ _))⟩;have hkn:k+1=xs.length:=by omega
    rw[if_pos hkn,if_pos hkn];exact(World.putObj_heap_same hs3).trans (by rw[hrec];rfl)
  ·have h0x:¬(0=xs.length):=λh=>hne (eq_nil_of_length_eq_zero h.symm)
   rw[if_neg h0x,if_neg h0x];exact hL1
  ·rintro e W2 ⟨⟨v,rfl⟩,hi,hl,hk⟩
   rw[if_pos rfl,if_pos rfl]at hl;refine⟨some (Code.ret),_,by have:=run_endLoop (P:=P) hl (by rw[hrec];simp);rw[hrec]at this;exact this,?_⟩;exact wpIn_wide.2 (hstop w.heap.size _ (fW _) (hI _ _ _ _ hi (hfD _ _) (by simp)) ((World.putObj_heap_other (by omega)).trans hk))
open Go.RowKit
def uk:∃i,(prog).info? 31=some i/\i.zero=some (.agg #[.int .i64 0,.string ⟨#[]⟩,.int .i64 0,.int .i64 0,.string ⟨#[]⟩])/\i.size=5/\i.bytes=56:=info_parts qk
def vp(A:Option Addr)(n c:Nat)(a:n<=1)(w:World):Calls prog 138 #[.slice A n c] w λe w'=>e=.returned (.slice A n c)/\w=w':=by
 obtain rfl|rfl:n=0 \/ n=1:=qo
 all_goals
  go_enter func138,ntmps138
  go_wp2
  go_ret
  exact⟨rfl,rfl⟩
def xl(x:Int)(w:World):Calls prog 164 #[.slice none 0 0,.int .i64 x] w (fi w (.int .i64 0)):=by
 have⟨w2,a⟩:=eR ((w.alloc (.cells #[gz] 36)).alloc (.cells #[x] 3));have d:Fr [] w w2:=by rw[<-a];exact((Fq [] w).alloc _).alloc _
 have i:w2.cell? ⟨w.heap.size,0,none⟩=some gz:=by rw[<-a];exact((BoxN.new w 36 #[gz]).alloc _).c 0
 have b:∀f:Value,Calls prog 194 #[L0,f] w2 λe w'=>e=.returned L0/\w2=w':=λf=>by
  go_enter func194,ntmps194
  go_wp2
  refine wp_loop_rounds 1 ?_;rw[rounds_succ]
  go_wp2
  go_ret
  exact⟨rfl,rfl⟩
 have b:=Hd b;have h:=Hd a;have g:=Hd d;clear a d
 go_enter func164,ntmps164
 go_upto_region 1 with fail
 rw[h.out]
 go_wp2_with ((go_at_call 194;(with_reducible refine(b.out _).mono ?_);rintro e j ⟨rfl,rfl⟩))
 go_ret
 exact⟨rfl,g.out⟩
def GM(g mw Lk Us:Nat)(K:Option Addr):List Nat:=g::mw::Lk::Us::eX K
structure GIs(w:World)(g mw Lk Us n c:Nat)(K:Option Addr)(ks:List Value)(l u:Array Value)(kv:List (Value × Value))(PW:World->Prop):Prop where
 box:BoxN w g 205 #[.slice K n c,.slice (some ⟨Lk,0,none⟩) 3 3,.slice (some ⟨Us,0,none⟩) 3 3,.map (some mw)]
 own:Own w 89 4 K n c ks
 lb:BoxN w Lk 61 l
 ub:BoxN w Us 61 u
 wm:MapIs prog 31 w mw kv
 d1:g≠mw/\g≠Lk/\g≠Us/\mw≠Lk/\mw≠Us/\Lk≠Us
 d2:g ∉ eX K/\mw ∉ eX K/\Lk ∉ eX K/\Us ∉ eX K
 kept:Kept (GM g mw Lk Us K) w PW
section
variable {X Y Z:World} {g mw Lk Us n n' c c':Nat} {K K':Option Addr} {ks ks':List Value} {l u l' u':Array Value} {kv kv':List (Value × Value)} {PW Q:World->Prop}
def GIs.lt(h:GIs X g mw Lk Us n c K ks l u kv PW):∀k∈GM g mw Lk Us K,k<X.heap.size:=λk a=>by
 simp only[GM,List.mem_cons]at a
 rcases a with rfl|rfl|rfl|rfl|a
 ·exact h.box.lt
 ·exact h.wm.lt
 ·exact h.lb.lt
 ·exact h.ub.lt
 ·exact h.own.lt k a
end
def zd:∃i,(prog).info? 61=some i/\i.zero=some (.slice none 0 0)/\i.size=1/\i.bytes=24:=info_parts qk
def pK:∃i,(prog).info? 98=some i/\i.zero=some (.agg #[.int .i64 0,.int .i64 0,.int .i64 0,.string ⟨#[]⟩,.int .i64 0,.int .i64 0,.string ⟨#[]⟩])/\i.size=7/\i.bytes=72:=info_parts qk
def xm:∃i,(prog).info? 89=some i/\i.zero=some (.agg #[.int .i64 0,.int .i64 0,.int .i64 0,.string ⟨#[]⟩])/\i.size=4/\i.bytes=40:=info_parts qk
def xn{P:Program}{md:Region.Mode}{d:Array Oper}{Q:Exit->Act->World->Prop}{C:World->Prop}{n:Nat}{L:Array Bool->Act->World->Prop}{i j m:Nat}{o p q:Oper}{f:Nat}{S:Array Bool}{a:Act}{w:World}(k:Region.ready md d S=[i,j,m])(t:i<n)(v:j<n)(y:m<n)(D:d[i]?=some o)(F:d[j]?=some p)(H:d[m]?=some q)
 (z:∀K:Act->World->Prop,(∀b w',C w'->jh P md d Q C n L f (S.setIfInBounds i true) b w'->K b w')->if Region.wanted o (yielded d a.tmps)=true then o.wp P a w K Q else K (a.put o.dst undef) w)
 (A:∀K:Act->World->Prop,(∀b w',C w'->jh P md d Q C n L f (S.setIfInBounds j true) b w'->K b w')->if Region.wanted p (yielded d a.tmps)=true then p.wp P a w K Q else K (a.put p.dst undef) w)
 (B:∀K:Act->World->Prop,(∀b w',C w'->jh P md d Q C n L f (S.setIfInBounds m true) b w'->K b w')->if Region.wanted q (yielded d a.tmps)=true then q.wp P a w K Q else K (a.put q.dst undef) w):jh P md d Q C n L (f+1) S a w:=by
 intro s;refine⟨by rw[k];simp,λx r=>?_⟩;have E:i∈Region.ready md d S:=by rw[k];simp
 have G:j∈Region.ready md d S:=by rw[k];simp
 have I:m∈Region.ready md d S:=by rw[k];simp
 rw[k]at r;simp only[List.mem_cons,List.not_mem_nil,or_false]at r
 rcases r with rfl|rfl|rfl
 ·exact⟨t,wpOp_step D λK h=>z K λb w' e hW=>h b w' ⟨e,hW (s.set E t)⟩⟩
 ·exact⟨v,wpOp_step F λK h=>A K λb w' e hW=>h b w' ⟨e,hW (s.set G v)⟩⟩
 ·exact⟨y,wpOp_step H λK h=>B K λb w' e hW=>h b w' ⟨e,hW (s.set I y)⟩⟩
def jw{P:Program}{c:Code}{K:Act->World->Prop}{Q:Exit->Act->World->Prop}{a:Act}{w:World}(R:Act->World->Prop)(h:c.wp P (Exit.then R (λ_ _ _=>False)) a w)(d:∀b w',R b w'->K b w'):c.wp P (Exit.then K Q) a w :=
 wp_mono h λe a w h=>by cases e <;> first|exact d _ _ h|exact h.elim
def jW(d:Nm)(bs:List Bool)(a:List Nm):Nm × Int:=if a.length=bs.length then(iE d bs a bs.length,0)else(zD,35)
def ul{d:Nm}(bs:List Bool)(b:List Nm)(a:d.length=32):(jW d bs b).1.length=32:=by
 unfold jW;split
 ·exact mi _ _ a _
 ·rfl
def Ee{w w':World}{d:Nm}{bs:List Bool}{b:List Nm}{e:Ending}(h:nM w d bs b e w'):∃v,e=.returned (.tuple #[fo (jW d bs b).1,v,.int .i64 (jW d bs b).2])/\Fr [] w w':=by
 unfold jW
 by_cases a:b.length=bs.length
 ·rw[if_pos a]
  have⟨A,c,f,g,_⟩:=h.1 a;exact⟨_,f,g⟩
 ·rw[if_neg a]
  have⟨f,g⟩:=h.2 a;exact⟨_,f,g⟩
def qh(rt:Nm)(i n:Nat)(s:Nm)(b:List Nm):Except Int AG:=match lL s with
 | none=>.error 3
 | some a=>if jW (gZ (1::s)) (bl (i+1) (n+1)) b=(rt,0)then .ok a else .error 35
def ze(w:World)(r:Except Int AG)(e:Ending)(w':World):Prop:=match r with
 | .error k=>e=.returned (.tuple #[Dd,.int .i64 k])/\Fr [] w w'
 | .ok a=>rM w a e w'
def Ef(x n:Nat)(a:x<n)(b:n<=1000):(bl x n).length<=1000:=by
 have c:=(yu [] n x 0 qo qo a).1;have d:=oG [] n x 0 qo qo;omega
def Hg(d:Nm)(g:List Nm)(i a N:Nat)(A:Option Addr)(c:Nat)(w:World)(R:Ok w)(O:i<a)(P:a<=1000)(G:0<N)(H:N<=1000)(J:(bl i a).length<=1000)(T:g.length=N)(q:d.length=32)(S:∀p∈g,p.length=32)(Q:Own w 57 32 A N c (g.flatMap eO)):
 Calls prog 135 #[fo d,.int .i64 (i:Int),.int .i64 (a:Int),.slice A N c] w (fi w (.tuple #[fo (jW d (bl i a) g).1,.int .i64 (jW d (bl i a) g).2])):=by
 have K:(eO d).length=32:=by rw[eP,q]
 have⟨k,n⟩:=eR (w.alloc (.cells (eO d).toArray 57));have F:k.rowIs w.heap.size 57 32 (λj=>.int .u8 ((d.getD j 0).toNat:Int)):=by rw[<-n];exact gX w K
 have s:Fr [] w k:=by rw[<-n];exact(Fq [] w).alloc _
 have V:k.heap.size=w.heap.size+1:=by rw[<-n];simp
 have⟨w2,t⟩:=eR (k.alloc (.cells (qP) 57));obtain⟨fR,I⟩:∃f,w2.rowIs (w.heap.size+1) 57 32 f:=by rw[<-t,<-V];exact⟨_,gi k _ _⟩
 have m:Fr [] k w2:=by rw[<-t];exact(Fq [] k).alloc _
 have l:=(uG d g i a N A c w2 (R.fr0 (s.then m)) O P G H J T q S (Q.fr (s.then m) qs)).mono λe w' ac=>Ee ac;have h:=ul (bl i a) g q;obtain⟨⟨r,er⟩,B⟩:∃r,jW d (bl i a) g=r:=⟨_,rfl⟩;rw[B]at h;simp only at h;have L:(eO r).length=32:=by rw[eP,h]
 rw[B]at l ⊢;simp only at l ⊢;unfold fo at l;have HN:=Hd l;have HL:=Hd (fw (eT F m qs) q);have ab:=Hd I;have Y:=Hd (s.then m);have E:=Hd (An n t);unfold fo;clear F s V n t I m l B Q R O P G H J T S
 go_enter func135,ntmps135
 go_upto_region 1 with fail
 rw[E.1,E.2]
 go_wp2_with (first
  | (with_reducible refine wpList_load_mid rfl 57 (.tmp 4) rfl w.heap.size 0 rfl (eO d) (.array 32 5) HL.out qk rfl (by rw[K];kernel_rfl) ?_)
  | (go_at_call 178;(with_reducible refine HN.out.mono ?_);rintro e W ⟨v,rfl,y⟩;have⟨w4,ae,z,U⟩:=mL W r h;have aa:=Hd (fw U h);have x:=eT (eT ab.out y qs) z qs;have ad:=fj (d:=r) x h;have C:=fp (d:=r) x h;obtain⟨w5,D⟩:∃X,w4.setCells (w.heap.size+1) 0 (eO r)=X:=⟨_,rfl⟩;have M:Fr [] w w5:=(by rw[<-D];exact((Y.then y).then z).setCells (.inr qs) _ _);rw[D]at ad C;have HRD:=Hd C.1;have Z:=Hd M;clear D C M x y z U)
  | (with_reducible refine wpList_load_mid rfl 57 (.tmp 10) rfl W.heap.size 0 rfl (eO r) (.array 32 5) aa.out qk rfl (by rw[L];kernel_rfl) ?_))
 exact bodyPost_ret (v:=.tuple #[fo r,.int .i64 er]) (iM (d:=.array 32 5) (p:=8) (u:=9) (ty:=57) (b:=w.heap.size+1) (o:=0) rfl rfl rfl HRD.out qk rfl (by rw[L];rfl)) rfl ⟨rfl,Z.out⟩
def BW(rt s:Nm)(G:List Nm)(i n N:Nat)(A:Option Addr)(c:Nat)(w:World)(aB:Ok w)(aC:rt.length=32)(hs:s.length<=2000000)(bO:i<n)(bP:n<=13)(bd:0<N)(be:N<=1000)(bq:G.length=N)(hp:∀p∈G,p.length=32)(ho:Own w 57 32 A N c (G.flatMap eO)):
 Calls prog 66 #[fo rt,.agg #[.int .i64 (i:Int),.int .i64 (n:Int),fg s,.slice A N c]] w (ze w (qh rt i n s G)):=by
 have bC:=Ef (i+1) (n+1) qo qo;have ax:(eO rt).length=32:=by rw[eP,aC]
 have⟨w1,ap⟩:=eR (w.alloc (.cells (eO rt).toArray 57));have bc:w1.rowIs w.heap.size 57 32 (λj=>.int .u8 ((rt.getD j 0).toNat:Int)):=by rw[<-ap];exact gX w ax
 have bm:Fr [] w w1:=by rw[<-ap];exact(Fq [] w).alloc _
 have aW:w1.heap.size=w.heap.size+1:=by rw[<-ap];simp
 have⟨w2,ad⟩:=eR (w1.alloc (.cells #[i,n,fg s,.slice A N c] 53));have bj:BoxN w2 (w.heap.size+1) 53 #[i,n,fg s,.slice A N c]:=by rw[<-ad,<-aW];exact BoxN.new w1 _ _
 have aO:Fr [] w1 w2:=by rw[<-ad];exact(Fq [] w1).alloc _
 have bt:w2.heap.size=w.heap.size+2:=by rw[<-ad];simp[aW]
 have⟨V,aq⟩:=eR (w2.alloc (.cells lV 91));have bk:BoxN V (w.heap.size+2) 91 lV:=by rw[<-aq,<-bt];exact BoxN.new w2 _ _
 have az:Fr [] w2 V:=by rw[<-aq];exact(Fq [] w2).alloc _
 have af:=(bm.then aO).then az;have am:=bj.fr az qs;have⟨tx,aE⟩:=eR ((⟨s.toArray⟩:ByteArray));have br:tx.data.toList=s:=by rw[<-aE]
 have bN:tx.size<=2000000:=by rw[<-aE];simpa [<-ByteArray.size_data]using hs
 have hD:=AY tx V (aB.fr0 af) bN;rw[br]at hD;have al:∀W,Fr [] V W->Calls prog 93 #[fg s] W (fN W (gZ (1::s))):=λW hW=>tU s W (aB.fr0 (af.then hW)) qo;have aa:∀W,Fr [] V W->Calls prog 135 #[fo (gZ (1::s)),((i+1:Nat):Int),((n+1:Nat):Int),.slice A N c] W (fi W (.tuple #[fo (jW (gZ (1::s)) (bl (i+1) (n+1)) G).1,(jW (gZ (1::s)) (bl (i+1) (n+1)) G).2])):=λW hW=>Hg (gZ (1::s)) G (i+1) (n+1) N A c W (aB.fr0 (af.then hW)) qo qo bd be qo bq (fy _) hp (ho.fr (af.then hW) qs);have aD:=ul (bl (i+1) (n+1)) G (show (gZ (1::s)).length=32 from fy _);have⟨vr,ai⟩:=eR (qh rt i n s G);have E:=Hd ai;rw[ai];unfold qh at ai;obtain⟨⟨h,er⟩,bn⟩:∃r,jW (gZ (1::s)) (bl (i+1) (n+1)) G=r:=⟨_,rfl⟩;rw[bn]at aa ai aD;simp only at aa aD;have J:=aD;have bF:(eO h).length=32:=by rw[eP,J]
 clear aD bn E;have⟨i1,bo⟩:=eR (i+1);have⟨n1,bp⟩:=eR (n+1);rw[bo,bp]at aa;have bH:decide ((n:Int)<1)=false:=by simp;omega
 have bI:decide ((65536:Int)<(n:Int))=false:=by simp;omega
 have bJ:decide ((i:Int)<0)=false:=qs
 have bK:decide (n<=i)=false:=by simp;omega
 have bL:decide ((n:Int)<=(i:Int))=false:=by simp;omega
 have bQ:IntKind.i64.wrap ((i:Int)+1)=(i1:Int):=by simp[IntKind.wrap,IntKind.bits,IntKind.signed];omega
 have bR:IntKind.i64.wrap ((n:Int)+1)=(n1:Int):=by simp[IntKind.wrap,IntKind.bits,IntKind.signed];omega
 generalize gZ (1::s)=dl at al aa;unfold fg at am ad al ⊢;rw[aE]at am ad al ⊢;unfold fo at aa;unfold fo;have⟨x0,x1,x2⟩:=am.m3;unfold lV at aq;have X:=Hd hD;have a7:=Hd al;have a5:=Hd aa;have a6:=Hd (eT bc (aO.then az) qs);have aY:=Hd am;have ar:=Hd bk;have a3:=Hd af;have HW:=Hd (An ap (An ad aq));have E:=Hd ai;clear bc bm aW ap bj aO bt ad bk az af am hD al aa aq aE br ho aB hs bd be bC bq hp bo bp ai
 go_enter func66,ntmps66
 go_upto_region 1 with fail
 rw[HW.1,HW.2.1,HW.2.2];simp only[Nat.add_assoc,Nat.reduceAdd]
 cases ay:lL s with
 | none =>
  have H:=X.out;rw[ay]at H;have bw:=Hd H;have ac:=E.out;rw[ay]at ac;subst ac;clear X H E
  go_upto_region 4 with((go_at_call 134;(with_reducible refine bw.out.mono ?_);rintro e w4 ⟨rfl,an⟩;unfold Dd))
  have⟨l,aj⟩:=eR (w4.alloc (.cells #[L0,L0,L0,S0,gz,gz] 91));have ag:Fr [] V l:=by rw[<-aj];exact an.alloc _
  rw[aj];clear aj an;have b:=ar.fr ag qs;unfold lV at b;have⟨aH,z1,z2,z3,z4,z5⟩:=b.m6;have g0:=b.f 0;have g1:=b.f 1;have g2:=b.f 2;have g3:=b.f 3;have g4:=b.f 4;have g5:=b.f 5
  go_wp2
  have⟨Z9,C,n9,f9⟩:=rn (l) (w.heap.size+2) b L0 L0 L0 S0 gz gz;rw[C];clear C;have⟨t0,t1,t2,t3,t4,t5⟩:=n9.m6;refine bodyPost_ret (v:=.tuple #[.agg #[L0,L0,L0,S0,gz,gz],(3:Int)]) (by simp[results,results66,go_sem,t0,t1,t2,t3,t4,t5]) rfl ?_
  exact⟨rfl,(a3.then ag).trans f9 qs⟩
 | some a =>
 have H:=X.out;rw[ay]at H
 replace H:Calls prog 134 #[tx] V (rM V a):=H
 have ac:=E.out;rw[ay]at ac;simp only at ac;clear X E;have X:=Hd H;have E:=Hd ac;clear H ac;have⟨ti,aU⟩:=eR (a.k.rnd);have⟨ph,aS⟩:=eR (a.k.phase);have⟨ix,aP⟩:=eR (a.k.idx);have⟨nr,aQ⟩:=eR (a.r.length);have⟨nw,aR⟩:=eR (a.w.length);have bs:∀x:AX,x.a=a->x.v=.agg #[ti,ph,ix,x.sl,.slice x.A nr x.c,.slice x.B nw x.d]:=λx hx=>by unfold AX.v AG.val;rw[hx,aU,aS,aP,aQ,aR]
 have ba:=Hd bs;have L:=Hd (An aU (An aS (An aP (An aQ aR))));clear aU aS aP aQ aR bs
 go_upto_region 6 with((go_at_call 134;(with_reducible refine X.out.mono ?_);rintro e w4 ⟨xx,aV,rfl,aF,an,aL,aM⟩;rw[ba.out xx aV];obtain⟨bA,aG,A2,c2,B2,d2⟩:=xx;simp only at aV aL aM ⊢;obtain rfl:a=bA:=aV.symm;have av:=aF.r;have aw:=aF.w;simp only at av aw;rw[L.2.2.2.1]at av;rw[L.2.2.2.2]at aw;have M:=Hd (An L.1 (An L.2.1 (An L.2.2.1 (An L.2.2.2.1 (An L.2.2.2.2 aF.s)))));have ae:=Hd (An av (An aw (An aL aM)));have a4:=Hd an;clear an av aw aL aM aF ba L x0 x1 x2))
 have⟨l,aj,aN,ag⟩:=kJ w4 #[.int .i64 ti,.int .i64 ph,.int .i64 ix,.string aG,.slice A2 nr c2,.slice B2 nw d2] 91;rw[aj];clear aj;have bu:=a4.size;have⟨B6,bb⟩:=eR (w4.heap.size);rw[bb]at aN bu ⊢;have aZ:=Hd aN;have Y:=Hd (a4.then ag);have bx:=Hd ag;have aJ:=Hd (λ(W:World) (hW:Fr [] l W)=>a7.out W (Y.then hW));have au:=Hd (λ(W:World) (hW:Fr [] l W)=>a5.out W (Y.then hW))
 have HSS:=Hd (λ(W:World) (hW:Fr [] l W)=>(show W.cell? ⟨w.heap.size+1,0,none⟩=some (.int .i64 (i:Int))/\W.cell? ⟨w.heap.size+1,1,none⟩=some (.int .i64 (n:Int))/\W.cell? ⟨w.heap.size+1,2,none⟩=some (.string tx)/\W.cell? ⟨w.heap.size+1,3,none⟩=some (.slice A N c)from by
  have F:=aY.fr (Y.then hW) qs;exact⟨F.c 0,F.c 1,F.c 2,F.c 3⟩))
 clear aN ag bb bu;have hC:Fr [] l l.drew:=(Fq [] l).drew;clear bH bI bJ bK bL;refine jw (a:=?va) (λa' W'=>∃m,a'={ tmps:=((((((((((((((((((Act.tmps ?va).setIfInBounds 41 (.pointer (some ⟨w.heap.size+1,2,none⟩))).setIfInBounds 42 (.string tx)).setIfInBounds 43 (.agg (eO dl).toArray)).setIfInBounds 44 (.pointer (some ⟨w.heap.size+1,0,none⟩))).setIfInBounds 45 (.int .i64 (i:Int))).setIfInBounds 46 (.int .i64 (i1:Int))).setIfInBounds 47 (.pointer (some ⟨w.heap.size+1,1,none⟩))).setIfInBounds 48 (.int .i64 (n:Int))).setIfInBounds 49 (.int .i64 (n1:Int))).setIfInBounds 50 (.pointer (some ⟨w.heap.size+1,3,none⟩))).setIfInBounds 51 (.slice A N c)).setIfInBounds 52 (.tuple #[.agg (eO h).toArray,.int .i64 er])).setIfInBounds 40 (.tuple #[.agg (eO h).toArray,.int .i64 er])).setIfInBounds 53 (.agg (eO h).toArray)).setIfInBounds 54 (.int .i64 er)).setIfInBounds 8 (.pointer (some ⟨m,0,none⟩))).setIfInBounds 7 (.int .i64 er)),defers:=[] }/\W'.rowIs m 57 32 (λj=>.int .u8 ((h.getD j 0).toNat:Int))/\Fr [] l W') ?_ ?_
 ·refine eU (λW:World=>Fr [] l W) 17 qk ?_ qd
  show fc 0 ..
  iterate 2 (refine gJ rfl ?_;try simp only[qq])
  show fc 3 ..
  iterate 8 (refine gJ rfl ?_;try simp only[qq])
  refine iy (i:=2) (j:=15) qk qd qd rfl rfl (λK g=>?_) (λK g=>?_)
  ·rw[if_pos qr]
   go_simp
   go_at_call 93
   (with_reducible refine(aJ.out _ hC).mono ?_);rintro e Z ⟨rfl,aA⟩;have I:=(hC).then aA;refine g _ _ I ?_;clear g K
   try simp only[qq]
   unfold fo;refine iy (i:=11) (j:=15) qk qd qd rfl rfl (λK g=>?_) (λK g=>?_)
   ·rw[if_pos qr]
    go_simp
    go_at_call 135
    (with_reducible refine(au.out _ I).mono ?_);rintro e O ⟨rfl,ab⟩;have u:=(I).then ab;refine g _ _ u ?_;clear g K
    try simp only[qq]
    try unfold fo
    show fc 12 ..
    iterate 3 (refine gJ rfl ?_;try simp only[qq])
    refine hO (i:=15) rfl λK g=>?_;go_simp
    have⟨t,o⟩:=eR ((O).alloc (.cells (qP) 57));obtain⟨fz,bi⟩:∃f,(t).rowIs (O).heap.size 57 32 f:=by rw[<-o];exact⟨_,gi (O) _ _⟩
    have R:Fr [] l t:=by rw[<-o];exact(u).alloc _
    rw[o];refine g _ _ R ?_;clear g K o;have⟨m,z⟩:=eR ((O).heap.size);have U:l.heap.size<=m:=by rw[<-z];exact(u).size
    rw[z]at bi ⊢;have ak:=Hd U;clear z U
    try simp only[qq]
    have S:=bi;have ao:=fj (d:=h) S J;have q:=fp (d:=h) S J;have⟨Y5,D⟩:=eR ((t).setCells m 0 (eO h));have Q:Fr [m] (t) Y5:=by rw[<-D];exact(Fq [m] (t)).setCells (.inl qs) _ _
    rw[D]at ao q;have y:=(R).trans Q (by simp;exact ak.out);refine hO (i:=16) rfl λK g=>?_;go_simp
    refine g _ _ y ?_;clear g K D Q
    try simp only[qq]
    refine eV ⟨qk,?_⟩;simp only[qG,qH]
    go_wp2
    first|exact⟨_,rfl,q.2,y⟩|exact⟨q.2,y⟩|exact q.2
   ·rw[if_pos qr]
    go_simp
    have⟨O,o⟩:=eR ((Z).alloc (.cells (qP) 57));obtain⟨fz,bh⟩:∃f,(O).rowIs (Z).heap.size 57 32 f:=by rw[<-o];exact⟨_,gi (Z) _ _⟩
    have u:Fr [] l O:=by rw[<-o];exact(I).alloc _
    rw[o];refine g _ _ u ?_;clear g K o;have⟨m,z⟩:=eR ((Z).heap.size);have U:l.heap.size<=m:=by rw[<-z];exact(I).size
    rw[z]at bh ⊢;have ak:=Hd U;clear z U
    try simp only[qq]
    refine hO (i:=11) rfl λK g=>?_;go_simp
    go_at_call 135
    (with_reducible refine(au.out _ u).mono ?_);rintro e t ⟨rfl,ab⟩;have R:=(u).then ab;refine g _ _ R ?_;clear g K
    try simp only[qq]
    try unfold fo
    show fc 12 ..
    iterate 3 (refine gJ rfl ?_;try simp only[qq])
    have S:=eT bh ab qs;have ao:=fj (d:=h) S J;have q:=fp (d:=h) S J;have⟨Y5,D⟩:=eR ((t).setCells m 0 (eO h));have Q:Fr [m] (t) Y5:=by rw[<-D];exact(Fq [m] (t)).setCells (.inl qs) _ _
    rw[D]at ao q;have y:=(R).trans Q (by simp;exact ak.out);refine hO (i:=16) rfl λK g=>?_;go_simp
    refine g _ _ y ?_;clear g K D Q
    try simp only[qq]
    refine eV ⟨qk,?_⟩;simp only[qG,qH]
    go_wp2
    first|exact⟨_,rfl,q.2,y⟩|exact⟨q.2,y⟩|exact q.2
  ·rw[if_pos qr]
   go_simp
   have⟨Z,o⟩:=eR (((l).alloc (.cells (qP) 57)).drew);obtain⟨fz,bg⟩:∃f,(Z).rowIs (l).heap.size 57 32 f:=by rw[<-o];exact⟨_,(gi (l) _ _).drew⟩
   have I:Fr [] l Z:=by rw[<-o];exact((Fq [] l).alloc _).drew
   rw[o];refine g _ _ I ?_;clear g K o;have⟨m,z⟩:=eR ((l).heap.size);have U:l.heap.size<=m:=by rw[<-z];exact fW _
   rw[z]at bg ⊢;have ak:=Hd U;clear z U
   try simp only[qq]
   refine hO (i:=2) rfl λK g=>?_;go_simp
   go_at_call 93
   (with_reducible refine(aJ.out _ I).mono ?_);rintro e O ⟨rfl,aA⟩;have u:=(I).then aA;refine g _ _ u ?_;clear g K
   try simp only[qq]
   unfold fo;refine hO (i:=11) rfl λK g=>?_;go_simp
   go_at_call 135
   (with_reducible refine(au.out _ u).mono ?_);rintro e t ⟨rfl,ab⟩;have R:=(u).then ab;refine g _ _ R ?_;clear g K
   try simp only[qq]
   try unfold fo
   show fc 12 ..
   iterate 3 (refine gJ rfl ?_;try simp only[qq])
   have S:=eT (eT bg aA qs) ab qs;have ao:=fj (d:=h) S J;have q:=fp (d:=h) S J;have⟨Y5,D⟩:=eR ((t).setCells m 0 (eO h));have Q:Fr [m] (t) Y5:=by rw[<-D];exact(Fq [m] (t)).setCells (.inl qs) _ _
   rw[D]at ao q;have y:=(R).trans Q (by simp;exact ak.out);refine hO (i:=16) rfl λK g=>?_;go_simp
   refine g _ _ y ?_;clear g K D Q
   try simp only[qq]
   refine eV ⟨qk,?_⟩;simp only[qG,qH]
   go_wp2
   first|exact⟨_,rfl,q.2,y⟩|exact⟨q.2,y⟩|exact q.2
 rintro a' w6 ⟨m,rfl,bf,ah⟩;simp only[qA,qB,qC];have a8:=Hd (fw bf J);have a9:=Hd (fw (eT a6.out (Y.then ah) qs) aC);have bz:=Hd ar.lt;have b:=ar.fr (Y.then ah) qs;have aI:=Hd b;have H6:=Hd (a3.then (Y.then ah));have aX:=Hd (bx.then ah);have bv:=Hd (aZ.fr ah qs);clear bf ah b a6 Y ar aZ aJ au a7 a5 HSS aY hC HW X
 by_cases he:er=0
 case neg =>
  have hv:vr=.error 35:=by rw[<-E.out,if_neg (λF=>he (congrArg Prod.snd F))]
  subst hv;have b:=aI.out;unfold lV at b;have⟨aH,z1,z2,z3,z4,z5⟩:=b.m6;have g0:=b.f 0;have g1:=b.f 1;have g2:=b.f 2;have g3:=b.f 3;have g4:=b.f 4;have g5:=b.f 5
  go_wp2
  have⟨Z9,C,n9,f9⟩:=rn (w6) (w.heap.size+2) b (.int .i64 0) (.int .i64 0) (.int .i64 0) (.string ⟨#[]⟩) (.slice none 0 0) (.slice none 0 0);rw[C];clear C;have⟨t0,t1,t2,t3,t4,t5⟩:=n9.m6;refine bodyPost_ret (v:=.tuple #[.agg #[.int .i64 0,.int .i64 0,.int .i64 0,.string ⟨#[]⟩,.slice none 0 0,.slice none 0 0],.int .i64 35]) (by simp[results,results66,go_sem,t0,t1,t2,t3,t4,t5]) rfl ?_;exact⟨rfl,(H6.out).trans f9 qs⟩
 subst he
 by_cases aT:h=rt
 case neg =>
  have bM:∀W,(Op.equalIn 10000 57 (.agg (eO h).toArray) (.agg (eO rt).toArray)).run prog W=.ok false W:=λW=>by
   have F:(Op.equalIn 10000 57 (.agg (eO h).toArray) (.agg (eO rt).toArray)).run prog W=.ok (h == rt) W:=run_equalIn_bytes (P:=prog) W 9998 57 5 32 underlying57 underlying5 (λw=>by simp[go_sem]) h rt J aC;rw[F,beq_eq_false_iff_ne.2 aT]
  have hv:vr=.error 35:=by rw[<-E.out,if_neg (λF=>aT (congrArg Prod.fst F))]
  subst hv;have b:=aI.out;unfold lV at b;have⟨aH,z1,z2,z3,z4,z5⟩:=b.m6;have g0:=b.f 0;have g1:=b.f 1;have g2:=b.f 2;have g3:=b.f 3;have g4:=b.f 4;have g5:=b.f 5
  go_wp2_with (first|(refine fG qr ?_;(with_reducible refine wp_load_mid 57 (.tmp 8) rfl m 0 rfl (eO h) (.array 32 5) a8.out qk rfl (by rw[bF];kernel_rfl) ?_))|(refine fG qr ?_;(with_reducible refine wp_load_mid 57 (.tmp 2) rfl w.heap.size 0 rfl (eO rt) (.array 32 5) a9.out qk rfl (by rw[ax];kernel_rfl) ?_)))
  have⟨Z9,C,n9,f9⟩:=rn (w6) (w.heap.size+2) b L0 L0 L0 S0 gz gz;rw[C];clear C;have⟨t0,t1,t2,t3,t4,t5⟩:=n9.m6;refine bodyPost_ret (v:=.tuple #[.agg #[L0,L0,L0,S0,gz,gz],(35:Int)]) (by simp[results,results66,go_sem,t0,t1,t2,t3,t4,t5]) rfl ?_;exact⟨rfl,(H6.out).trans f9 qs⟩
 subst aT;have hv:vr=.ok a:=by rw[<-E.out,if_pos rfl]
 subst hv;have bM:=rP w6 aC;have⟨aH,z1,z2,z3,z4,z5⟩:=bv.m6;have b:=aI.out;unfold lV at b;have⟨u0,u1,u2,u3,u4,u5⟩:=b.m6;have g0:=b.f 0;have g1:=b.f 1;have g2:=b.f 2;have g3:=b.f 3;have g4:=b.f 4;have g5:=b.f 5
 go_wp2_with (((first|(refine fG qr ?_;(with_reducible refine wp_load_mid 57 (.tmp 8) rfl m 0 rfl (eO h) (.array 32 5) a8.out qk rfl (by rw[ax];kernel_rfl) ?_))|(refine fG qr ?_;(with_reducible refine wp_load_mid 57 (.tmp 2) rfl w.heap.size 0 rfl (eO h) (.array 32 5) a9.out qk rfl (by rw[ax];kernel_rfl) ?_)))))
 have⟨Y6,C,bB,aK⟩:=rn (w6) (w.heap.size+2) b ti ph ix aG (.slice A2 nr c2) (.slice B2 nw d2);rw[C];clear C;have bS:=bz.out;have bD:=(ae.1.fr aX.out qs).fr aK (by intro k hk;have:=ae.2.2.1 k hk;simp only[ip];omega);have bE:=(ae.2.1.fr aX.out qs).fr aK (by intro k hk;have:=ae.2.2.2 k hk;simp only[ip];omega);have bG:=H6.trans aK (T:=[w.heap.size+2]) qs;clear aH z1 z2 z3 z4 z5 u0 u1 u2 u3 u4 u5 g0 g1 g2 g3 g4 g5;have⟨t0,t1,t2,t3,t4,t5⟩:=bB.m6;refine bodyPost_ret (v:=.tuple #[.agg #[ti,ph,ix,aG,.slice A2 nr c2,.slice B2 nw d2],L0]) (by simp[results,results66,go_sem,t0,t1,t2,t3,t4,t5]) rfl ⟨⟨a,aG,A2,c2,B2,d2⟩,rfl,?_,⟨M.2.2.2.2.2,by simp only;rw[M.2.2.2.1];exact bD,by simp only;rw[M.2.2.2.2.1];exact bE⟩,bG,λk hk=>?_,λk hk=>?_⟩
 ·unfold AX.v AG.val
  simp only;rw[M.1,M.2.1,M.2.2.1,M.2.2.2.1,M.2.2.2.2.1]
 ·have:=ae.2.2.1 k hk;omega
 ·have:=ae.2.2.2 k hk;omega
end Go.Proofs.YtlpmiimgacfmkaaGreatDoor
