/- A region that draws its order: a head of quiet operations (they leave a class of worlds), then a tail that is forced. -/
import Derived.Deep.Quiet
import Derived.StillTail
import Derived.StillTailTactics
import Derived.Deep.Cut
import Derived.Deep.RegionHeld3
import Derived.LoopN
import Derived.Test.YtlpmiimgacfmkaaGreatDoorMBase
import Derived.Test.YtlpmiimgacfmkaaGreatDoorMSt3
import Derived.Test.YtlpmiimgacfmkaaGreatDoorMOb5
import Derived.Test.YtlpmiimgacfmkaaGreatDoorMOb3
set_option linter.all false
namespace Go.Proofs.YtlpmiimgacfmkaaGreatDoor
open Go.Proofs.Tryz
open Go.RowKit
section
variable {P:Program} {ops:Array Oper} {md:Region.Mode} {C:World->Prop} {n:Nat} {L:Array Bool->Act->Prop}
def headQ (P:Program) (md:Region.Mode) (ops:Array Oper) (C:World->Prop) (n:Nat) (L:Array Bool->Act->Prop):Nat->Array Bool->Act->Prop
 | 0,S,a=>L S a
 | f+1,S,a=>Region.ready md ops S≠[]/\∀ i∈Region.ready md ops S,i<n/\qOp P ops C i (headQ P md ops C n L f (S.setIfInBounds i true)) a
theorem wpAny_of_headQ {g:Nat} {Q:Exit->Act->World->Prop} (hL:∀ S a w,C w->L S a->wpAny P md ops Q g S a w) (f:Nat) :
 ∀ (S:Array Bool) (a:Act) (w:World),C w->headQ P md ops C n L f S a->wpAny P md ops Q (f+g) S a w:=by
 induction f with
 | zero=>intro S a w hw h;rw[Nat.zero_add];exact hL S a w hw h
 | succ f ih =>
  intro S a w hw h;rw[Nat.add_right_comm];refine⟨fun h0=>absurd h0 h.1,fun i hi=>?_⟩;exact wpOp_of_qOp hw (fun a' w' hw' h'=>ih _ a' w' hw' h') (h.2 i hi).2
theorem headQ_first {i:Nat} {oi:Oper} {v:Value} (hi:ops[i]?=some oi) (hns:Region.noSelect ops=true) (hs:Region.sinkB md ops n=true) (hc:Region.chainB md ops n=true) (hn:n<ops.size) (hin:i<n)
 (hdone:∀ S a,L S a->∀ j∈Region.ready md ops S,n<=j) (f:Nat) :
 ∀ (S:Array Bool) (a:Act),HeadInv md ops n S ->
  (∀ j oj,ops[j]?=some oj->j≠i->S.getD j true=false->(∀ e∈oj.after,Region.binds md e=true->e.on≠i)->oi.apart ops oj=true) ->
  i∈Region.ready md ops S->YieldsIn P ops C oi v a->headQ P md ops C n L f (S.setIfInBounds i true) (a.put oi.dst v)->headQ P md ops C n L (f+1) S a:=by
 have hsel:=Region.noSelect_spec hns
 induction f with
 | zero =>
  intro S a inv _ hr hy H;have hun:=(mem_ready.1 hr).1;refine⟨fun h=>by rw[h] at hr;simp at hr,fun j hj=>?_⟩
  by_cases hji:j=i
  ·subst hji;exact⟨hin,hy.qOp hi H⟩
  ·have hjn:j<n:=Nat.lt_of_not_le fun h=>tail_waits hs hc hn inv _ i rfl hin hun j h hj
   have:=hdone _ _ H j (ready_mono hj hji)
   omega
 | succ f ih =>
  intro S a inv hap hr hy H;have hun:=(mem_ready.1 hr).1;refine⟨fun h=>by rw[h] at hr;simp at hr,fun j hj=>?_⟩
  by_cases hji:j=i
  ·subst hji;exact⟨hin,hy.qOp hi H⟩
  ·have hjn:j<n:=Nat.lt_of_not_le fun h=>tail_waits hs hc hn inv _ i rfl hin hun j h hj
   refine⟨hjn,?_⟩;obtain⟨hjun,oj,hoj,hall⟩:=mem_ready.1 hj
   have hne:∀ e∈oj.after,Region.binds md e=true->e.on≠i:=by
    intro e he hb heq;have h1:=hall e he hb;rw[heq,getD_both hun] at h1;exact absurd h1 (by simp)
   have hq:=qOp_put hoj (hap j oj hoj hji hjun hne) (fun cs b=>hsel i oi cs b hi) (fun cs b=>hsel j oj cs b hoj) hy (H.2 j (ready_mono hj hji)).2;refine qOp_mono (fun a' h'=>?_) hq;refine ih (S.setIfInBounds j true) a' (inv.set hj hjn) ?_ (ready_mono hr (Ne.symm hji)) h'.1 ?_
   ·intro k ok hk hki hkun hkne
    refine hap k ok hk hki ?_ hkne
    by_cases hjk:j=k
    ·subst hjk;exact hjun
    ·rw[getD_set_ne true hjk] at hkun;exact hkun
   ·rw[Array.setIfInBounds_comm _ _ hji]
    exact h'.2
theorem headQ_lex {g:Nat} {Lq:Act->Prop} (hns:Region.noSelect ops=true) (hs:Region.sinkB md ops n=true) (hc:Region.chainB md ops n=true) (hn:n<ops.size) (l:List Oper) :
 ∀ (k:Nat) (S:Array Bool) (a:Act),(∀ j,j<l.length->l[j]?=ops[k+j]?)->k+l.length=n->HeadInv md ops n S->Region.lexHead md ops g l.length k S=true->wpQuiet P ops C Lq l a ->
  headQ P md ops C n (fun S' a'=>Region.seqB md ops g n S'=true/\Lq a') l.length S a:=by
 induction l with
 | nil =>
  intro k S a _ hk _ hB h;obtain rfl:k=n:=by simpa using hk
  exact⟨hB,h⟩
 | cons o l ih =>
  intro k S a hl hk inv hB h;have h0:ops[k]?=some o:=by simpa using (hl 0 (by simp)).symm
  simp only[List.length_cons] at hk;simp only[List.length_cons,Region.lexHead,Bool.and_eq_true] at hB;have hr:k∈Region.ready md ops S:=by simpa using hB.1.1
  have hq:qOp P ops C k (wpQuiet P ops C Lq l) a:=by unfold qOp;simp only[h0];exact h
  obtain⟨v,hy,hK⟩:=yieldsIn_of_qOp h0 hq;refine headQ_first h0 hns hs hc hn (by omega) (fun S' a' hL=>seqB_ready hL.1) l.length S a inv (Region.free_spec h0 hB.1.2) hr hy ?_;refine ih (k+1) _ _ (fun j hj=>?_) (by omega) (inv.set hr (by omega)) hB.2 hK;have:=hl (j+1) (by simp;omega);simpa [Nat.add_assoc,Nat.add_comm 1 j] using this
theorem wp_region_qtail (C:World->Prop) {id:Nat} {Q:Exit->Act->World->Prop} {a:Act} {w:World} {l:List Oper} (n:Nat) (hm:P.follows .mixedOrders=true) (hB:Region.lexTailB .any l.toArray n=true) (hC:C w.drew)
 (h:wpQuiet P l.toArray C (fun a'=>∀ w',C w'->wpList P l.toArray Q (l.drop n) a' w') (l.take n) a):(Code.region id l.toArray true).wp P Q a w:=by
 simp only[Region.lexTailB,Bool.and_eq_true,decide_eq_true_eq] at hB;have hn:n<l.toArray.size:=hB.1.1.1.2;have hnl:n<l.length:=by simpa using hn
 have htl:(l.take n).length=n:=by rw[List.length_take];omega
 have hdl:(l.drop n).length=l.toArray.size - n:=by simp
 have inv:HeadInv .any l.toArray n (Array.replicate l.toArray.size false) :=
  ⟨by simp,fun j oj _ hl=>absurd hl (by rw[getD_replicate_false];simp),fun t _ ht=>getD_in (by simpa using ht) (getD_replicate_false _ _)⟩
 have H:=headQ_lex (g:=l.toArray.size - n) hB.1.1.1.1 hB.1.1.2 hB.1.2 hn (l.take n) 0 _ a (fun j hj=>by
  have hj':j<n:=by omega
  simp[hj']) (by omega) inv (by rw[htl];exact hB.2) h
 refine wp_region_any hm ?_
 have hA:=wpAny_of_headQ (Q:=Q) (g:=l.toArray.size - n) (fun S a' w' hw' hL=>by
  have:=wpAny_of_seq (md:=.any) (Q':=Q) (l.drop n) n S a' w' (fun j=>by simp[List.getElem?_drop]) (by rw[hdl];exact hL.1) (hL.2 w' hw')
  rwa [hdl] at this) _ _ _ _ hC H
 rw[htl,show n+(l.toArray.size - n)=l.toArray.size by omega] at hA;exact hA
end
set_option maxRecDepth 100000
set_option maxHeartbeats 4000000
inductive TR
 | nil
 | node (b:Nat) (l:TR) (i:Int) (v:ByteArray) (h s y:Int) (r:TR)
def TR.adr:TR->Option Addr
 | .nil=>none
 | .node b _ _ _ _ _ _ _=>some ⟨b,0,none⟩
def TR.ptr (t:TR):Value:=.pointer t.adr
def mx (a b:Int):Int:=if a<b then b else a
def TR.s:TR->Int
 | .nil=>0
 | .node _ _ _ _ _ s _ _=>s
def nodeC (l r:Value) (i:Int) (v:ByteArray) (h s y:Int):Array Value:=#[l,r,.int .i64 16,.string ⟨#[]⟩,.int .i64 i,.int .i64 0,.string ⟨#[]⟩,.string v,.int .i64 h,.int .i64 s,.int .i64 y]
def TRat (w:World):TR->Prop
 | .nil=>True
 | .node b l i v h s y r=>BoxN w b 191 (nodeC l.ptr r.ptr i v h s y)/\TRat w l/\TRat w r
theorem TRat.fr0 {w w':World} (hf:Fr [] w w'):∀ {t:TR},TRat w t->TRat w' t
 | .nil,_=>trivial
 | .node _ _ _ _ _ _ _ _,h=>⟨h.1.fr hf (by simp),TRat.fr0 hf h.2.1,TRat.fr0 hf h.2.2⟩
theorem sizeOf_any (t:TR) (w:World) (h:TRat w t):Calls prog 95 #[t.ptr] w fun e w'=>e=.returned (.int .i64 t.s)/\w'=w:=by
 cases t with
 | nil =>
  unfold TR.ptr TR.adr TR.s
  go_enter func95,ntmps95
  go_wp2_with fail
  go_ret
  exact⟨rfl,rfl⟩
 | node b l i v h0 s0 y0 r =>
  have c:=h.1.c 9;unfold nodeC at c;simp only[List.getElem?_toArray,List.getElem?_cons_zero,List.getElem?_cons_succ] at c;clear h;unfold TR.ptr TR.adr TR.s
  go_enter func95,ntmps95
  go_wp2_with fail
  go_ret
  exact⟨rfl,rfl⟩
theorem info_chg:∃ i,(prog).info? 95=some i/\i.zero=some (.agg #[.int .i64 0,.string ⟨#[]⟩,.int .i64 0,.int .i64 0,.string ⟨#[]⟩,.string ⟨#[]⟩,.bool false])/\i.size=7/\i.bytes=80:=info_parts (by kernel_rfl)
inductive RdCL:RS->CL->RS->Prop
 | nil {r r1:RS} (h:rdNum r.l.length r=(0,r1)):RdCL r .nil r1
 | one {r r1 r2 r3 r4:RS} {tn:Nm} {i:Int} {v:ByteArray} {a:Bool} (h1:rdNum r.l.length r=(1,r1)) (h2:rdText 16777216 r1=(tn,r2)) (h3:decO tn=(portN i,0)) (h4:rdFlag r2=(a,r3)) (h5:rdText 65536 r3=(v.data.toList,r4)):RdCL r (.one i v a) r4
theorem run_index2p (w:World) (x y v:Value) (i:Nat) (hi:i<2) (hv:(#[x,y]:Array Value)[i]?=some v):(Instr.index 300 (.agg #[x,y]) (.int .i64 (i:Int))).run prog w=.ok v w :=
 run_index_agg w 300 299 2 #[x,y] .i64 i v underlying300 (fun w=>by simp[go_sem]) (fun w=>by simp[go_sem]) hi hv
def actZ:Array Value:=#[.int .i64 0,.int .i64 0,.int .i64 0,.string ⟨#[]⟩,.slice none 0 0,.slice none 0 0]
def a0:AC:=⟨1,.nil,.one 1 ⟨#[120]⟩ false⟩
def a1:AC:=⟨2,.one 1 ⟨#[120]⟩ false,.one 2 ⟨#[121,122]⟩ false⟩
section
variable {P:Program} {C:World->Prop}
theorem wp_region_qall (C:World->Prop) {id:Nat} {Q:Exit->Act->World->Prop} {a:Act} {w:World} {l:List Oper} (hm:P.follows .mixedOrders=true) (hB:Region.lexB .any l.toArray=true) (hC:C w.drew)
 (h:wpQuiet P l.toArray C (fun a'=>∀ w',C w'->Q .normal a' w') l a):(Code.region id l.toArray true).wp P Q a w:=wp_region_quiet hm hB hC (by simpa using h)
end
end Go.Proofs.YtlpmiimgacfmkaaGreatDoor
