/- The iterator over the ordinals of a text (lineage.parts and its closure). -/
import Derived.RangeFuncNested
import Derived.RangeFuncBound
import Derived.RangeFuncCalls
import Derived.RangeFuncLeaves
import Derived.Shelf.Abstract
import Derived.Shelf.RegionOpen
import Derived.WalkKit
import Derived.OwnWalkIn
import Derived.TacticsInMore
import Derived.LoopNIn
import Derived.LoopIn
import Derived.Deep.Quiet
import Derived.StillTail
import Derived.StillTailTactics
import Derived.OrdersHeld
import Derived.Test.YtlpmiimgacfmkaaGreatDoorRLin1
import Derived.Test.YtlpmiimgacfmkaaGreatDoorRBoxes
set_option linter.all false
namespace Go.Proofs.YtlpmiimgacfmkaaGreatDoor
open Go.RowKit Go.Shelf
set_option maxRecDepth 100000
set_option maxHeartbeats 1000000
attribute [local go_sem] Oper.semAt_some
def KeepT (W W':World):Prop:=∀ (k:Nat) (cs:Array Value) (t:TypeId) (fz:Nat × Nat),(t=325 ∨ t=9)→W.heap[k]?=some (.cells cs t fz)→W'.heap[k]?=some (.cells cs t fz)
theorem keepT_t {A B C:World} (h:KeepT A B) (k:KeepT B C):KeepT A C:=fun i cs t fz ht hi=>k i cs t fz ht (h i cs t fz ht hi)
theorem keepT_b {w:World} (W:World) (l:Nat) (o o':Obj) (_:w.heap.size≤l) (h:W.heap[l]?=some o) (hc:o.isCells=false) (_:o.isWalk=false):KeepT W (W.putObj l o'):=by
 intro k cs t fz _ hk
 have hne:k≠l:=by
  rintro rfl
  rw[hk] at h
  injection h with h
  subst h
  simp[Obj.isCells] at hc
 rw[World.putObj_heap_other hne]
 exact hk
theorem keepT_refl (W:World):KeepT W W:=fun _ _ _ _ _ h=>h
theorem keepT_below {W W':World} (h:Below W.heap.size W W'):KeepT W W':=fun k cs t fz _ hk=>by
 have hlt:k<W.heap.size:=(Array.getElem?_eq_some_iff.1 hk).1
 rw[h.block k hlt];exact hk
theorem parts_in (n:Nat) (s:ByteArray) (w:World) :
 CallsIn Fence.wide n Tryz.prog 197 #[.string s] w fun e w'=>e=.returned (.func (.func 246) #[] #[.pointer (some ⟨w.heap.size,0,none⟩)])∧w'=w.alloc (.cells #[.string s] 9):=by
 refine callsIn_of_wp Tryz.func197 rfl trivial ?_ rfl
 simp only[Tryz.ntmps197,List.size_toArray,List.length_cons,List.length_nil,Nat.reduceAdd,Nat.reduceSub,Array.replicate_succ,Array.replicate_zero,List.push_toArray,List.append_toArray,List.nil_append,List.cons_append]
 gi_wp2
 go_ret
 exact⟨rfl,rfl⟩
theorem below_grown0 {a w:World} (h:Below a.heap.size a w):a.grownBy w none:=⟨h.os,h.tape,h.output,h.size,fun i hi _=>h.block i hi⟩
theorem parts1_in (n:Nat) (hn:1≤n) (l Bs:Nat) (s:ByteArray) (hs:s.size≤9223372036854775000) (hne:s.data.toList≠[]) (J Jx:List Part→World→Prop)
 (hJ:∀ pre (X Y:World),J pre X→Below X.heap.size X Y→J pre Y)
 (hY:∀ pre x W,J pre W→pre.length<(partsOf s.data.toList).length→YieldAt Fence.wide (n - 1) Tryz.prog l #[encPart x] W fun e W' =>
  (e=.returned (.bool true)∧J (pre++[x]) W'∧KeepT W W') ∨ (e=.returned (.bool false)∧Jx (pre++[x]) W'))
 (W:World) (hBs:W.heap[Bs]?=some (.cells #[.string s] 9 (0,0))) (h0:J [] W) :
 CallsIn Fence.wide n Tryz.prog 246 #[.func (.yield l) #[] #[],.pointer (some ⟨Bs,0,none⟩)] W fun e W'=>(∃ v,e=.returned v) ∧
  ((∃ ys,ys=partsOf s.data.toList∧J ys W') ∨ (∃ pre,pre <+: partsOf s.data.toList∧Jx pre W')):=by
 have hss:0<s.size:=by
  rw[←len_of_byte]
  exact List.length_pos_iff.2 hne
 refine callsIn_of_wp Tryz.func246 rfl trivial ?_ rfl
 simp only[Tryz.ntmps246,List.size_toArray,List.length_cons,List.length_nil,Nat.reduceAdd,Nat.reduceSub,Array.replicate_succ,Array.replicate_zero,List.push_toArray,List.append_toArray,List.nil_append,List.cons_append]
 gi_wp2
 gi_loopw [3,4] (fun at_ cn wr=>∃ (pre:List Part) (a c:Nat),at_=.int .i64 (a:Int)∧cn=.int .i64 (c:Int)∧a≤s.size∧c≤8∧partsOf s.data.toList=pre++partsN (9 - c) s.data.toList a c∧J pre wr∧wr.heap[Bs]?=some (.cells #[.string s] 9 (0,0)))
  (fun _ cn _=>9 - (intOf cn).toNat)
 case atStart=>exact⟨[],0,0,rfl,rfl,by omega,by omega,by simp[partsOf,hne],h0,hBs⟩
 case round =>
  obtain⟨pre,a,c,rfl,rfl,ha,hc8,hp,hJs,hB⟩:=hrel
  have HP:=Lib.hid hp
  have HB:=Lib.hid hB
  have hcell:wr.cell? ⟨Bs,0,none⟩=some (.string s):=by simp[World.cell?,hB]
  have hne':s.toList.isEmpty=false:=isEmpty_of_ne hne
  clear hp hB
  obtain⟨⟨⟨o,p,er⟩,en⟩,hf⟩:∃ r,firstP s.data.toList a c=r:=⟨_,rfl⟩
  have HF:=Lib.hid hf
  clear hf
  have hpl:pre.length<(partsOf s.data.toList).length:=by
   obtain⟨r,hr⟩:=partsN_head hc8 HF.out
   rw[HP.out,hr];simp
  gi_wp2_with (refine⟨trivial,?_⟩;gi_at_call 247;refine (callsIn_wide.2 (first_as s a c o p er en _ hs ha (by omega) HF.out)).mono ?_;rintro e w' ⟨rfl,hb1⟩)
  have hb2:Below wr.heap.size wr (w'.alloc (.cells #[.int .i64 (o:Int),.int .i64 (p:Int),.int .i64 (er:Int)] 325)):=hb1.alloc hb1.size _
  have hx:=World.alloc_heap_new w' (.cells #[.int .i64 (o:Int),.int .i64 (p:Int),.int .i64 (er:Int)] 325)
  have hB2:(w'.alloc (.cells #[.int .i64 (o:Int),.int .i64 (p:Int),.int .i64 (er:Int)] 325)).heap[Bs]?=some (.cells #[.string s] 9 (0,0)):=by
   have hlt:Bs<wr.heap.size:=(Array.getElem?_eq_some_iff.1 HB.out).1
   rw[hb2.block Bs hlt];exact HB.out
  obtain⟨fn,tmps,assign,body,hy,hR⟩:=hY pre (o,p,er) _ (hJ pre _ _ hJs hb2) hpl
  simp only[encPart] at hy
  have HX:=Lib.hid hx
  have HB2:=Lib.hid hB2
  clear hx hB2
  rw[hy]
  refine⟨fun _=>hn,hR.mono ?_⟩
  rintro e W3 (⟨rfl,hJ3,hk3⟩ | ⟨rfl,hJx3⟩)
  ·have hx3:=hk3 _ _ _ _ (.inl rfl) HX.out
   have hB3:=hk3 _ _ _ _ (.inr rfl) HB2.out
   have hc2:W3.cell? ⟨w'.heap.size,2,none⟩=some (.int .i64 (er:Int)):=by simp[World.cell?,hx3]
   have hcs:W3.cell? ⟨Bs,0,none⟩=some (.string s):=by simp[World.cell?,hB3]
   have HB3:=Lib.hid hB3
   have HX3:=Lib.hid hx3
   have HK:=Lib.hid hk3
   clear hx3 hB3 hk3 hy
   by_cases her:er=0
   ·have hn0:=firstP_zero (by rw[len_of_byte];exact ha) (her ▸ HF.out)
    rw[len_of_byte] at hn0
    have hen:=hn0.2
    have hc7:c≤7:=by omega
    have t1:((er:Int) != 0)=false:=by subst her;rfl
    have HER:=Lib.hid her
    clear her hn0
    by_cases hes:en=s.size
    ·have t2:((en:Int) == (s.size:Int))=true:=by simp[hes]
     have HES:=Lib.hid hes
     clear hes
     gi_wp2
     refine bodyPost_ret (results_none rfl _ _ _) rfl ?_
     exact⟨⟨_,rfl⟩,.inl ⟨_,by rw[HP.out,partsN_stop hc8 HF.out (.inr (by rw[len_of_byte];exact HES.out))],hJ3⟩⟩
    ·have hlt:en<s.size:=by omega
     have t2:((en:Int) == (s.size:Int))=false:=by simp;omega
     by_cases hdot:s[en]=46
     ·have t3:(((s[en]).toNat:Int) != 46)=false:=by rw[hdot];rfl
      have HDOT:=Lib.hid hdot
      clear hdot
      gi_wp2
      go_roundw
      case rel=>exact⟨pre++[(o,p,er)],en+1,c+1,by go_num,by go_num,by omega,by omega,by rw[HP.out,partsN_next hc8 HF.out HER.out (by rw[len_of_byte];exact hes) (by rw[get_of_byte hlt,HDOT.out])];simp,hJ3,HB3.out⟩
      case measure=>simp[intOf];omega
     ·have t3:(((s[en]).toNat:Int) != 46)=true:=by
       rw[bne_iff_ne]
       intro e
       exact hdot (UInt8.toNat_inj.1 (by simp;omega))
      have hpN:=partsN_byte hc8 HF.out HER.out (by rw[len_of_byte];exact hes) (by rw[get_of_byte hlt];simpa using hdot)
      obtain⟨fn',tmps',assign',body',hy',hR'⟩:=hY _ (0,en,6) W3 hJ3 (by rw[HP.out,hpN];simp)
      have hy2:(Instr.yield l #[.agg #[.int .i64 0,.int .i64 (en:Int),.int .i64 6]]).run Tryz.prog W3=.ok (.round l fn' tmps' assign' body') W3:=hy'
      clear hy'
      have HPN:=Lib.hid hpN
      clear hpN hdot
      gi_wp2
      refine hR'.mono ?_
      rintro e W4 (⟨rfl,hJ4,hk4⟩ | ⟨rfl,hJx4⟩)
      ·gi_wp2
       refine bodyPost_ret (results_none rfl _ _ _) rfl ?_
       exact⟨⟨_,rfl⟩,.inl ⟨_,by rw[HP.out,HPN.out];simp,hJ4⟩⟩
      ·gi_wp2
       refine bodyPost_ret (results_none rfl _ _ _) rfl ?_
       exact⟨⟨_,rfl⟩,.inr ⟨_,by rw[HP.out,HPN.out];simp,hJx4⟩⟩
   ·have t1:((er:Int) != 0)=true:=by rw[bne_iff_ne];omega
    gi_wp2
    refine bodyPost_ret (results_none rfl _ _ _) rfl ?_
    exact⟨⟨_,rfl⟩,.inl ⟨_,by rw[HP.out,partsN_stop hc8 HF.out (.inl her)],hJ3⟩⟩
  ·clear hy
   gi_wp2
   refine bodyPost_ret (results_none rfl _ _ _) rfl ?_
   obtain⟨r,hr⟩:=partsN_head hc8 HF.out
   exact⟨⟨_,rfl⟩,.inr ⟨_,⟨r,by rw[HP.out,hr];simp⟩,hJx3⟩⟩
end Go.Proofs.YtlpmiimgacfmkaaGreatDoor
namespace Go.Proofs.YtlpmiimgacfmkaaGreatDoor
open Go.RowKit
section
variable {P:Program} {ops:Array Oper} {md:Region.Mode} {C:World→Prop} {n:Nat} {L:Array Bool→Act→Prop}
def headQ (P:Program) (md:Region.Mode) (ops:Array Oper) (C:World→Prop) (n:Nat) (L:Array Bool→Act→Prop):Nat→Array Bool→Act→Prop
 | 0,S,a=>L S a
 | f+1,S,a=>Region.ready md ops S≠[]∧∀ i∈Region.ready md ops S,i<n∧qOp P ops C i (headQ P md ops C n L f (S.setIfInBounds i true)) a
theorem wpAny_of_headQ {g:Nat} {Q:Exit→Act→World→Prop} (hL:∀ S a w,C w→L S a→wpAny P md ops Q g S a w) (f:Nat) :
 ∀ (S:Array Bool) (a:Act) (w:World),C w→headQ P md ops C n L f S a→wpAny P md ops Q (f+g) S a w:=by
 induction f with
 | zero=>intro S a w hw h;rw[Nat.zero_add];exact hL S a w hw h
 | succ f ih =>
  intro S a w hw h
  rw[Nat.add_right_comm]
  refine⟨fun h0=>absurd h0 h.1,fun i hi=>?_⟩
  exact wpOp_of_qOp hw (fun a' w' hw' h'=>ih _ a' w' hw' h') (h.2 i hi).2
theorem headQ_first {i:Nat} {oi:Oper} {v:Value} (hi:ops[i]?=some oi) (hns:Region.noSelect ops=true) (hs:Region.sinkB md ops n=true) (hc:Region.chainB md ops n=true) (hn:n<ops.size) (hin:i<n)
 (hdone:∀ S a,L S a→∀ j∈Region.ready md ops S,n≤j) (f:Nat) :
 ∀ (S:Array Bool) (a:Act),HeadInv md ops n S →
  (∀ j oj,ops[j]?=some oj→j≠i→S.getD j true=false→(∀ e∈oj.after,Region.binds md e=true→e.on≠i)→oi.apart ops oj=true) →
  i∈Region.ready md ops S→YieldsIn P ops C oi v a→headQ P md ops C n L f (S.setIfInBounds i true) (a.put oi.dst v)→headQ P md ops C n L (f+1) S a:=by
 have hsel:=Region.noSelect_spec hns
 induction f with
 | zero =>
  intro S a inv _ hr hy H
  have hun:=(mem_ready.1 hr).1
  refine⟨fun h=>by rw[h] at hr;simp at hr,fun j hj=>?_⟩
  by_cases hji:j=i
  ·subst hji;exact⟨hin,hy.qOp hi H⟩
  ·have hjn:j<n:=Nat.lt_of_not_le fun h=>tail_waits hs hc hn inv _ i rfl hin hun j h hj
   have:=hdone _ _ H j (ready_mono hj hji)
   omega
 | succ f ih =>
  intro S a inv hap hr hy H
  have hun:=(mem_ready.1 hr).1
  refine⟨fun h=>by rw[h] at hr;simp at hr,fun j hj=>?_⟩
  by_cases hji:j=i
  ·subst hji;exact⟨hin,hy.qOp hi H⟩
  ·have hjn:j<n:=Nat.lt_of_not_le fun h=>tail_waits hs hc hn inv _ i rfl hin hun j h hj
   refine⟨hjn,?_⟩
   obtain⟨hjun,oj,hoj,hall⟩:=mem_ready.1 hj
   have hne:∀ e∈oj.after,Region.binds md e=true→e.on≠i:=by
    intro e he hb heq
    have h1:=hall e he hb
    rw[heq,getD_both hun] at h1
    exact absurd h1 (by simp)
   have hq:=qOp_put hoj (hap j oj hoj hji hjun hne) (fun cs b=>hsel i oi cs b hi) (fun cs b=>hsel j oj cs b hoj) hy (H.2 j (ready_mono hj hji)).2
   refine qOp_mono (fun a' h'=>?_) hq
   refine ih (S.setIfInBounds j true) a' (inv.set hj hjn) ?_ (ready_mono hr (Ne.symm hji)) h'.1 ?_
   ·intro k ok hk hki hkun hkne
    refine hap k ok hk hki ?_ hkne
    by_cases hjk:j=k
    ·subst hjk;exact hjun
    ·rw[getD_set_ne true hjk] at hkun;exact hkun
   ·rw[Array.setIfInBounds_comm _ _ hji]
    exact h'.2
theorem headQ_lex {g:Nat} {Lq:Act→Prop} (hns:Region.noSelect ops=true) (hs:Region.sinkB md ops n=true) (hc:Region.chainB md ops n=true) (hn:n<ops.size) (l:List Oper) :
 ∀ (k:Nat) (S:Array Bool) (a:Act),(∀ j,j<l.length→l[j]?=ops[k+j]?)→k+l.length=n→HeadInv md ops n S→Region.lexHead md ops g l.length k S=true→wpQuiet P ops C Lq l a →
  headQ P md ops C n (fun S' a'=>Region.seqB md ops g n S'=true∧Lq a') l.length S a:=by
 induction l with
 | nil =>
  intro k S a _ hk _ hB h
  obtain rfl:k=n:=by simpa using hk
  exact⟨hB,h⟩
 | cons o l ih =>
  intro k S a hl hk inv hB h
  have h0:ops[k]?=some o:=by simpa using (hl 0 (by simp)).symm
  simp only[List.length_cons] at hk
  simp only[List.length_cons,Region.lexHead,Bool.and_eq_true] at hB
  have hr:k∈Region.ready md ops S:=by simpa using hB.1.1
  have hq:qOp P ops C k (wpQuiet P ops C Lq l) a:=by unfold qOp;simp only[h0];exact h
  obtain⟨v,hy,hK⟩:=yieldsIn_of_qOp h0 hq
  refine headQ_first h0 hns hs hc hn (by omega) (fun S' a' hL=>seqB_ready hL.1) l.length S a inv (Region.free_spec h0 hB.1.2) hr hy ?_
  refine ih (k+1) _ _ (fun j hj=>?_) (by omega) (inv.set hr (by omega)) hB.2 hK
  have:=hl (j+1) (by simp;omega)
  simpa [Nat.add_assoc,Nat.add_comm 1 j] using this
theorem wp_region_qtail (C:World→Prop) {id:Nat} {Q:Exit→Act→World→Prop} {a:Act} {w:World} {l:List Oper} (n:Nat) (hm:P.follows .mixedOrders=true) (hB:Region.lexTailB .any l.toArray n=true) (hC:C w.drew)
 (h:wpQuiet P l.toArray C (fun a'=>∀ w',C w'→wpList P l.toArray Q (l.drop n) a' w') (l.take n) a):(Code.region id l.toArray true).wp P Q a w:=by
 simp only[Region.lexTailB,Bool.and_eq_true,decide_eq_true_eq] at hB
 have hn:n<l.toArray.size:=hB.1.1.1.2
 have hnl:n<l.length:=by simpa using hn
 have htl:(l.take n).length=n:=by rw[List.length_take];omega
 have hdl:(l.drop n).length=l.toArray.size - n:=by simp
 have inv:HeadInv .any l.toArray n (Array.replicate l.toArray.size false) :=
  ⟨by simp,fun j oj _ hl=>absurd hl (by rw[getD_replicate_false];simp),fun t _ ht=>getD_in (by simpa using ht) (getD_replicate_false _ _)⟩
 have H:=headQ_lex (g:=l.toArray.size - n) hB.1.1.1.1 hB.1.1.2 hB.1.2 hn (l.take n) 0 _ a (fun j hj=>by
  have hj':j<n:=by omega
  simp[hj']) (by omega) inv (by rw[htl];exact hB.2) h
 refine wp_region_any hm ?_
 have hA:=wpAny_of_headQ (Q:=Q) (g:=l.toArray.size - n) (fun S a' w' hw' hL=>by
  have:=wpAny_of_seq (md:=.any) (Q':=Q) (l.drop n) n S a' w' (fun j=>by simp[List.getElem?_drop]) (by rw[hdl];exact hL.1) (hL.2 w' hw')
  rwa [hdl] at this) _ _ _ _ hC H
 rw[htl,show n+(l.toArray.size - n)=l.toArray.size by omega] at hA
 exact hA
end
section
variable {P:Program} {ops:Array Oper} {md:Region.Mode} {Q:Exit→Act→World→Prop} {C:World→Prop} {n:Nat} {L:Array Bool→Act→World→Prop}
def headH (P:Program) (md:Region.Mode) (ops:Array Oper) (Q:Exit→Act→World→Prop) (C:World→Prop) (n:Nat) (L:Array Bool→Act→World→Prop):Nat→Array Bool→Act→World→Prop
 | 0,S,a,w=>L S a w
 | f+1,S,a,w=>Region.ready md ops S≠[]∧∀ i∈Region.ready md ops S,i<n∧wpOp P ops Q i (fun a' w'=>C w'∧headH P md ops Q C n L f (S.setIfInBounds i true) a' w') a w
theorem wpAny_of_headH {g:Nat} (hL:∀ S a w,L S a w→wpAny P md ops Q g S a w) (f:Nat):∀ (S:Array Bool) (a:Act) (w:World),headH P md ops Q C n L f S a w→wpAny P md ops Q (f+g) S a w:=by
 induction f with
 | zero=>intro S a w h;rw[Nat.zero_add];exact hL S a w h
 | succ f ih =>
  intro S a w h
  rw[Nat.add_right_comm]
  exact⟨fun h0=>absurd h0 h.1,fun i hi=>wpOp_mono (fun a' w' h'=>ih _ a' w' h'.2) (h.2 i hi).2⟩
theorem headH_first {i:Nat} {oi:Oper} {v:Value} (hi:ops[i]?=some oi) (hns:Region.noSelect ops=true) (hs:Region.sinkB md ops n=true) (hc:Region.chainB md ops n=true) (hn:n<ops.size) (hin:i<n)
 (hQ:∀ c a w,Q (.panic c) (a.put oi.dst v) w→Q (.panic c) a w) (hdone:∀ S a w,L S a w→∀ j∈Region.ready md ops S,n≤j) (f:Nat) :
 ∀ (S:Array Bool) (a:Act) (w:World),HeadInv md ops n S →
  (∀ j oj,ops[j]?=some oj→j≠i→S.getD j true=false→(∀ e∈oj.after,Region.binds md e=true→e.on≠i)→oi.apart ops oj=true) →
  i∈Region.ready md ops S→YieldsIf P ops C oi v a→C w→headH P md ops Q C n L f (S.setIfInBounds i true) (a.put oi.dst v) w→headH P md ops Q C n L (f+1) S a w:=by
 have hsel:=Region.noSelect_spec hns
 induction f with
 | zero =>
  intro S a w inv _ hr hy hC H
  have hun:=(mem_ready.1 hr).1
  refine⟨fun h=>by rw[h] at hr;simp at hr,fun j hj=>?_⟩
  by_cases hji:j=i
  ·subst hji;exact⟨hin,hy.wpOp hi hC ⟨hC,H⟩⟩
  ·have hjn:j<n:=Nat.lt_of_not_le fun h=>tail_waits hs hc hn inv _ i rfl hin hun j h hj
   have:=hdone _ _ _ H j (ready_mono hj hji)
   omega
 | succ f ih =>
  intro S a w inv hap hr hy hC H
  have hun:=(mem_ready.1 hr).1
  refine⟨fun h=>by rw[h] at hr;simp at hr,fun j hj=>?_⟩
  by_cases hji:j=i
  ·subst hji;exact⟨hin,hy.wpOp hi hC ⟨hC,H⟩⟩
  ·have hjn:j<n:=Nat.lt_of_not_le fun h=>tail_waits hs hc hn inv _ i rfl hin hun j h hj
   refine⟨hjn,?_⟩
   obtain⟨hjun,oj,hoj,hall⟩:=mem_ready.1 hj
   have hne:∀ e∈oj.after,Region.binds md e=true→e.on≠i:=by
    intro e he hb heq
    have h1:=hall e he hb
    rw[heq,getD_both hun] at h1
    exact absurd h1 (by simp)
   have hq:=wpOp_putIf hoj (hap j oj hoj hji hjun hne) (fun cs b=>hsel i oi cs b hi) (fun cs b=>hsel j oj cs b hoj) hQ hy (H.2 j (ready_mono hj hji)).2
   refine wpOp_mono (fun a' w' h'=>?_) hq
   refine⟨h'.2.1,ih (S.setIfInBounds j true) a' w' (inv.set hj hjn) ?_ (ready_mono hr (Ne.symm hji)) h'.1 h'.2.1 ?_⟩
   ·intro k ok hk hki hkun hkne
    refine hap k ok hk hki ?_ hkne
    by_cases hjk:j=k
    ·subst hjk;exact hjun
    ·rw[getD_set_ne true hjk] at hkun;exact hkun
   ·rw[Array.setIfInBounds_comm _ _ hji]
    exact h'.2.2
def headI (P:Program) (md:Region.Mode) (ops:Array Oper) (Q:Exit→Act→World→Prop) (C:World→Prop) (n:Nat) (L:Array Bool→Act→World→Prop) (f:Nat) (S:Array Bool) (a:Act) (w:World):Prop:=HeadInv md ops n S→headH P md ops Q C n L f S a w
theorem headI_take {i:Nat} {oi:Oper} {v:Value} {f:Nat} {S:Array Bool} {a:Act} {w:World} (hB:(Region.noSelect ops && Region.sinkB md ops n && Region.chainB md ops n && decide (n<ops.size))=true) (hdone:∀ S a w,L S a w→∀ j∈Region.ready md ops S,n≤j)
 (hi:ops[i]?=some oi) (hin:i<n) (hf:(Region.free md ops S i && (Region.ready md ops S).contains i)=true)
 (hQ:∀ c a w,Q (.panic c) (a.put oi.dst v) w→Q (.panic c) a w) (hy:YieldsIf P ops C oi v a) (hC:C w)
 (h:headI P md ops Q C n L f (S.setIfInBounds i true) (a.put oi.dst v) w):headI P md ops Q C n L (f+1) S a w:=by
 simp only[Bool.and_eq_true,decide_eq_true_eq] at hB hf
 intro inv
 have hr:i∈Region.ready md ops S:=by simpa using hf.2
 exact headH_first hi hB.1.1.1 hB.1.1.2 hB.1.2 hB.2 hin hQ hdone f S a w inv (Region.free_spec hi hf.1) hr hy hC (h (inv.set hr hin))
theorem headI_only {i:Nat} {oi:Oper} {f:Nat} {S:Array Bool} {a:Act} {w:World} (hr:Region.ready md ops S=[i]) (hin:i<n) (hi:ops[i]?=some oi)
 (h:∀ K:Act→World→Prop,(∀ a' w',C w'→headI P md ops Q C n L f (S.setIfInBounds i true) a' w'→K a' w')→if Region.wanted oi (yielded ops a.tmps)=true then oi.wp P a w K Q else K (a.put oi.dst undef) w):headI P md ops Q C n L (f+1) S a w:=by
 intro inv
 refine⟨by rw[hr];simp,fun j hj=>?_⟩
 rw[hr] at hj
 obtain rfl:j=i:=by simpa using hj
 refine⟨hin,?_⟩
 have hm:j∈Region.ready md ops S:=by rw[hr];simp
 exact wpOp_step hi fun K hK=>h K fun a' w' hC hW=>hK a' w' ⟨hC,hW (inv.set hm hin)⟩
theorem headI_two {i j:Nat} {oi oj:Oper} {f:Nat} {S:Array Bool} {a:Act} {w:World} (hr:Region.ready md ops S=[i,j]) (hin:i<n) (hjn:j<n) (hi:ops[i]?=some oi) (hj:ops[j]?=some oj)
 (h1:∀ K:Act→World→Prop,(∀ a' w',C w'→headI P md ops Q C n L f (S.setIfInBounds i true) a' w'→K a' w')→if Region.wanted oi (yielded ops a.tmps)=true then oi.wp P a w K Q else K (a.put oi.dst undef) w)
 (h2:∀ K:Act→World→Prop,(∀ a' w',C w'→headI P md ops Q C n L f (S.setIfInBounds j true) a' w'→K a' w')→if Region.wanted oj (yielded ops a.tmps)=true then oj.wp P a w K Q else K (a.put oj.dst undef) w):headI P md ops Q C n L (f+1) S a w:=by
 intro inv
 refine⟨by rw[hr];simp,fun m hm=>?_⟩
 have hi0:i∈Region.ready md ops S:=by rw[hr];simp
 have hj0:j∈Region.ready md ops S:=by rw[hr];simp
 rw[hr] at hm
 simp only[List.mem_cons,List.not_mem_nil,or_false] at hm
 rcases hm with rfl | rfl
 ·exact⟨hin,wpOp_step hi fun K hK=>h1 K fun a' w' hC hW=>hK a' w' ⟨hC,hW (inv.set hi0 hin)⟩⟩
 ·exact⟨hjn,wpOp_step hj fun K hK=>h2 K fun a' w' hC hW=>hK a' w' ⟨hC,hW (inv.set hj0 hjn)⟩⟩
theorem headI_done {S:Array Bool} {a:Act} {w:World} (h:L S a w):headI P md ops Q C n L 0 S a w:=fun _=>h
theorem wp_region_head (C:World→Prop) {id:Nat} {a:Act} {w:World} {l:List Oper} (n:Nat) (hm:P.follows .mixedOrders=true)
 (h:headI P .any l.toArray Q C n (fun S a w=>Region.seqB .any l.toArray (l.toArray.size - n) n S=true∧wpList P l.toArray Q (l.drop n) a w) n (Array.replicate l.toArray.size false) a w.drew) (hn:n≤l.length):(Code.region id l.toArray true).wp P Q a w:=by
 have inv:HeadInv .any l.toArray n (Array.replicate l.toArray.size false) :=
  ⟨by simp,fun j oj _ hl=>absurd hl (by rw[getD_replicate_false];simp),fun t _ ht=>getD_in (by simpa using ht) (getD_replicate_false _ _)⟩
 refine wp_region_any hm ?_
 have hdl:(l.drop n).length=l.toArray.size - n:=by simp
 have hA:=wpAny_of_headH (g:=l.toArray.size - n) (fun S a' w' hL=>by
  have:=wpAny_of_seq (md:=.any) (Q':=Q) (l.drop n) n S a' w' (fun j=>by simp[List.getElem?_drop]) (by rw[hdl];exact hL.1) hL.2
  rwa [hdl] at this) _ _ _ _ (h inv)
 rw[show n+(l.toArray.size - n)=l.toArray.size by simp;omega] at hA
 exact hA
theorem head_done {l:List Oper} {g n:Nat}:∀ (S:Array Bool) (a:Act) (w:World),(Region.seqB .any l.toArray g n S=true∧wpList P l.toArray Q (l.drop n) a w)→∀ j∈Region.ready .any l.toArray S,n≤j:=fun _ _ _ h=>seqB_ready h.1
end
abbrev headJ (_ : Nat) (P : Program) (md : Region.Mode) (ops : Array Oper) (Q : Exit → Act → World → Prop) (C : World → Prop) (n : Nat) (L : Array Bool → Act → World → Prop) (f : Nat) (S : Array Bool) (a : Act) (w : World) : Prop := headI P md ops Q C n L f S a w
theorem hdJ {P : Program} {ops : Array Oper} {Q : Exit → Act → World → Prop} {C : World → Prop} {n : Nat} {L : Array Bool → Act → World → Prop} {i : Nat} {oi : Oper} {v : Value} {f : Nat} {S : Array Bool} {a : Act} {w : World} (hi : ops[i]? = some oi) (hy : YieldsIf P ops C oi v a)
    (h : headJ (i + 1) P .any ops Q C n L f (S.setIfInBounds i true) (a.put oi.dst v) w) (hB : (Region.noSelect ops && Region.sinkB .any ops n && Region.chainB .any ops n && decide (n < ops.size)) = true := by kernel_rfl) (hdone : ∀ S a w, L S a w → ∀ j ∈ Region.ready .any ops S, n ≤ j := by exact head_done)
    (hin : i < n := by decide) (hf : (Region.free .any ops S i && (Region.ready .any ops S).contains i) = true := by kernel_rfl) (hQ : ∀ c a w, Q (.panic c) (a.put oi.dst v) w → Q (.panic c) a w := by exact fun _ _ _ h => h) (hC : C w := by assumption) : headJ i P .any ops Q C n L (f + 1) S a w :=
  headI_take hB hdone hi hin hf hQ hy hC h
open Go.RowKit Go.Shelf
section
variable {P:Program} {r n:Nat} {ops:Array Oper} {Q:Exit→Act→World→Prop} {md:Region.Mode}
def Oper.plainB (o:Oper):Bool:=match o.op with
 | .defer _=>false
 | _=>true
theorem Oper.plain_spec {o:Oper} (h:Oper.plainB o=true):∀ c,o.op≠.defer c:=by
 intro c hc
 simp[Oper.plainB,hc] at h
theorem oper_lift {o:Oper} {a:Act} {w:World} {K:Act→World→Prop} (hd:Oper.plainB o=true) (h:o.wp P a w K Q):o.wpIn (Fence.wide.inRound r) n P a w K Q:=by
 refine⟨fun _ _=>trivial,?_⟩
 rw[Oper.semAt_eq _ _ _ (Oper.plain_spec hd)]
 unfold Oper.wp at h
 generalize (execOp a.eval o).run P w=res at h ⊢
 cases res with
 | ok x w' =>
  cases x with
  | value v=>exact h
  | skip=>exact h
  | defer d=>exact h
  | enter f args=>exact⟨fun h=>by simp[Fence.wide] at h,callsIn_wide.2 h⟩
  | row rw args=>exact⟨fun h=>by simp[Fence.wide] at h,fun c cs _=>by
   obtain ⟨v, w'', h1, h2⟩ := h c cs
   exact ⟨v, w'', h1, stepsIn_wide.2 h2⟩⟩
  | _=>exact h.elim
 | halt x w'=>cases x <;> exact h
theorem wpOp_lift {i:Nat} {K:Act→World→Prop} {a:Act} {w:World} (hd:∀ o,ops[i]?=some o→Oper.plainB o=true) (hQ:∀ a w,¬ Q .outgrown a w) (h:wpOp P ops Q i K a w):wpOpIn (Fence.wide.inRound r) n P ops Q i K a w:=by
 unfold wpOp at h
 unfold wpOpIn
 cases ho:ops[i]? with
 | none=>simpa [ho] using h
 | some o =>
  simp only[ho] at h ⊢
  split at h
  ·rename_i hw
   rw[if_pos hw]
   rcases h with h | ⟨_,a0,w0,h⟩
   ·exact oper_lift (hd o ho) h
   ·exact absurd h (hQ a0 w0)
  ·rename_i hw
   rw[if_neg hw]
   exact⟨fun _ _=>trivial,h⟩
theorem wpAny_lift (hd:∀ (i:Nat) (o:Oper),ops[i]?=some o→Oper.plainB o=true) (hQ:∀ a w,¬ Q .outgrown a w) (f:Nat):∀ (S:Array Bool) (a:Act) (w:World),wpAny P md ops Q f S a w→wpAnyIn (Fence.wide.inRound r) n P md ops Q f S a w:=by
 induction f with
 | zero=>intro S a w h;exact h
 | succ f ih =>
  intro S a w h
  exact⟨h.1,fun i hi=>wpOpIn_mono (fun a' w' h'=>ih _ a' w' h') (wpOp_lift (hd i) hQ (h.2 i hi))⟩
end
section
variable {P:Program} {r m:Nat} {Q:Exit→Act→World→Prop}
theorem wpAny_head (C:World→Prop) {a:Act} {w:World} {l:List Oper} (n:Nat)
 (h:headI P .any l.toArray Q C n (fun S a w=>Region.seqB .any l.toArray (l.toArray.size - n) n S=true∧wpList P l.toArray Q (l.drop n) a w) n (Array.replicate l.toArray.size false) a w) (hn:n≤l.length):wpAny P .any l.toArray Q l.toArray.size (Array.replicate l.toArray.size false) a w:=by
 have inv:HeadInv .any l.toArray n (Array.replicate l.toArray.size false) :=
  ⟨by simp,fun j oj _ hl=>absurd hl (by rw[getD_replicate_false];simp),fun t _ ht=>getD_in (by simpa using ht) (getD_replicate_false _ _)⟩
 have hdl:(l.drop n).length=l.toArray.size - n:=by simp
 have hA:=wpAny_of_headH (g:=l.toArray.size - n) (fun S a' w' hL=>by
  have:=wpAny_of_seq (md:=.any) (Q':=Q) (l.drop n) n S a' w' (fun j=>by simp[List.getElem?_drop]) (by rw[hdl];exact hL.1) hL.2
  rwa [hdl] at this) _ _ _ _ (h inv)
 rw[show n+(l.toArray.size - n)=l.toArray.size by simp;omega] at hA
 exact hA
theorem wpIn_region_head (C:World→Prop) {id:Nat} {a:Act} {w:World} {l:List Oper} (n:Nat) (hm:P.follows .mixedOrders=true) (hd:l.all Oper.plainB=true) (hQ:∀ a w,¬ Q .outgrown a w)
 (h:headI P .any l.toArray Q C n (fun S a w=>Region.seqB .any l.toArray (l.toArray.size - n) n S=true∧wpList P l.toArray Q (l.drop n) a w) n (Array.replicate l.toArray.size false) a w.drew) (hn:n≤l.length):(Code.region id l.toArray true).wpIn (Fence.wide.inRound r) m P Q a w :=
 wpIn_region_any hm (wpAny_lift (fun i o ho=>by
  have:o∈l:=List.mem_of_getElem? (by simpa using ho)
  exact List.all_eq_true.1 hd o this) hQ _ _ _ _ (wpAny_head C n h hn))
end
theorem fr_putObj {w W:World} {r:Nat} (o:Obj) {S:List Nat} (h:Fr S w W) (hr:r∈S ∨ w.heap.size≤r):Fr S w (W.putObj r o) :=
 ⟨h.os,h.tape,h.output,by simpa using h.size,fun k hk hS=>(World.putObj_heap_other (by rintro rfl;rcases hr with hr | hr;exact hS hr;omega)).trans (h.block k hk hS)⟩
theorem wp_rangeFunc_list {α:Type} {P:Program} {g:Operand} {ps:Array Tmp} {assign body:Code} {Q:Exit→Act→World→Prop} {a:Act} {w:World} {gf:Nat} {lb:Array Value} (n:Nat) (xs:List α) (encs:α→Array Value)
 (hg:a.eval g=.func (.func gf) #[] lb) (eg:∀ args w,(callFunc gf args).run P w=.ok (.enter gf args) w) (hps:∀ x,(encs x).size=ps.size)
 (I:Nat→World→Prop) (hI:∀ k W W',I k W→Fr [w.heap.size,w.heap.size+1] W W'→I k W') (h0:I 0 w)
 (hseq:∀ (l:Nat) (J:Nat→World→Prop) (W:World),Fr [] w W→(∀ k x W1,xs[k]?=some x→J k W1→YieldAt Fence.wide (n - 1) P l (encs x) W1 fun e W'=>e=.returned (.bool true)∧J (k+1) W')→J 0 W →
  CallsIn Fence.wide n P gf (#[.func (.yield l) #[] #[]]++lb) W fun e W'=>(∃ v,e=.returned v)∧J xs.length W')
 (A:Nat→Act→World→Prop) (hA:∀ k a' W W',A k a' W→Fr [w.heap.size,w.heap.size+1] W W'→A k a' W')
 (hassign:∀ (l k:Nat) (x:α) (W:World) (K:Act→World→Prop),xs[k]?=some x→I k W→w.heap.size+2≤W.heap.size→(∀ a' W',Fr [] W W'→A k a' W'→K a' W') →
  assign.wpIn (Fence.wide.inRound l) (n - 1) P (Exit.then K (fun _ _ _=>False)) { tmps:=(ps.zip (encs x)).foldl (fun t (p,v)=>t.setIfInBounds p v) a.tmps,defers:=[] } W)
 (hbody:∀ (l k:Nat) (x:α) (a':Act) (W:World),xs[k]?=some x→A k a' W→w.heap.size+2≤W.heap.size→body.wpIn (Fence.wide.inRound l) (n - 1) P (fun e _ W'=>e=.normal∧I (k+1) W'∧(∃ S,Fr S W W'∧w.heap.size ∉ S∧w.heap.size+1 ∉ S)) a' W)
 (hdone:∀ (D:Nat) (W:World),w.heap.size≤D→I xs.length W→W.heap[D]?=some (.deferred (some []))→Q .normal { a with defers:={ target:=.collected D,args:=#[] }::a.defers } W) :
 (Code.rangeFunc g ps assign body).wp P Q a w:=by
 refine (wpIn_wide (n:=n+1)).1 (wpIn_rangeFunc fun fn hfn=>?_)
 obtain⟨rec,hrec⟩:∃ rec:LoopState→Option Code→Loop,rec=fun st pe=>{ state:=st,pending:=pe,fn,tmps:=a.tmps,params:=ps,assign,body,defers:=w.heap.size }:=⟨_,rfl⟩
 obtain⟨W1,hW1⟩:=nmd ((w.alloc (.deferred (some []))).alloc (.loop (rec .ready none)))
 have hL1:W1.heap[w.heap.size+1]?=some (.loop (rec .ready none)):=by
  rw[←hW1]
  have:=World.alloc_heap_new (w.alloc (.deferred (some []))) (.loop (rec .ready none))
  rwa [World.size_alloc] at this
 have hK1:W1.heap[w.heap.size]?=some (.deferred (some [])):=by
  rw[←hW1]
  exact (Below.heap_alloc _ _ _ (by simp)).trans (World.alloc_heap_new w _)
 have hf1:Fr [] w W1:=by rw[←hW1];exact ((Fr.refl [] w).alloc _).alloc _
 have hfD:∀ (W:World) (o:Obj),Fr [w.heap.size,w.heap.size+1] W (W.putObj (w.heap.size+1) o):=fun W o=>fr_putObj o (Fr.refl _ W) (.inl (by simp))
 refine⟨w.heap.size+1,[{ target:=.collected w.heap.size,args:=#[] }],W1,{ target:=.fn (.func gf) lb,args:=#[.func (.yield (w.heap.size+1)) #[] #[]] },W1,gf,#[.func (.yield (w.heap.size+1)) #[] #[]]++lb,W1,?_,?_,fun _ _=>trivial,?_,fun _=>Nat.succ_le_succ (Nat.zero_le n),?_⟩
 ·rw[←hW1,hrec];exact run_enterLoop_outer _ _ _ _ _
 ·simp only[resolve,hg]
  simp[go_sem]
 ·simp[invoke,go_sem,eg]
 ·refine (hseq (w.heap.size+1) (fun k W=>I k W∧W.heap[w.heap.size+1]?=some (.loop (rec .ready none))∧W.heap[w.heap.size]?=some (.deferred (some []))) W1 hf1 ?_ ⟨hI 0 w W1 h0 (hf1.mono (by simp)),hL1,hK1⟩).mono ?_
  ·rintro k x W hx ⟨hi,hl,hk⟩
   have hlt:w.heap.size+1<W.heap.size:=(Array.getElem?_eq_some_iff.1 hl).1
   have hy:=run_yield (P:=P) (args:=encs x) hl (by rw[hrec];exact hps x)
   rw[hrec] at hy
   refine⟨fn,_,assign,body,hy,roundIn_of_wpIn hfn (hassign _ k x W _ hx hi (by omega) ?_)⟩
   clear hy
   intro a' Wa hfa hax
   have hlta:w.heap.size+1<Wa.heap.size:=Nat.lt_of_lt_of_le hlt hfa.size
   replace hl:=(hfa.block _ (by omega) (by simp)).trans hl
   replace hk:=(hfa.block _ (by omega) (by simp)).trans hk
   refine⟨_,run_beginRound hl (by rw[hrec]),?_⟩
   have hl2:(Wa.putObj (w.heap.size+1) (.loop { rec .ready none with state:=.busy })).heap[w.heap.size+1]?=some (.loop { rec .ready none with state:=.busy }):=World.putObj_heap_same hlta
   have hk2:(Wa.putObj (w.heap.size+1) (.loop { rec .ready none with state:=.busy })).heap[w.heap.size]?=some (.deferred (some [])):=(World.putObj_heap_other (by omega)).trans hk
   refine wpIn_mono (hbody _ k x a' _ hx (hA k a' _ _ hax (hfD _ _)) (by simp;omega)) ?_
   rintro e a3 W3 ⟨rfl,hi3,S,hf3,hS0,hS1⟩
   have hl3:=(hf3.block _ (by simp;omega) hS1).trans hl2
   have hk3:=(hf3.block _ (by simp;omega) hS0).trans hk2
   have hr:=run_endRound (P:=P) none hl3
   refine⟨_,_,hr,rfl,hI _ _ _ hi3 (hfD _ _),?_,(World.putObj_heap_other (by omega)).trans hk3⟩
   have hs3:=(Array.getElem?_eq_some_iff.1 hl3).1
   exact (World.putObj_heap_same hs3).trans (by rw[hrec];rfl)
  ·rintro e W2 ⟨⟨v,rfl⟩,hi,hl,hk⟩
   refine⟨none,_,by have:=run_endLoop (P:=P) hl (by rw[hrec];simp);rw[hrec] at this;exact this,?_⟩
   exact hdone w.heap.size _ (Nat.le_refl _) (hI _ _ _ hi (hfD _ _)) ((World.putObj_heap_other (by omega)).trans hk)
theorem wp_rangeFunc_ret {α:Type} {P:Program} {g:Operand} {ps:Array Tmp} {assign body:Code} {Q:Exit→Act→World→Prop} {a:Act} {w:World} {gf:Nat} {lb:Array Value} (n:Nat) (T:List Nat) (hT:∀ q∈T,q<w.heap.size) (xs:List α) (encs:α→Array Value)
 (hg:a.eval g=.func (.func gf) #[] lb) (eg:∀ args w,(callFunc gf args).run P w=.ok (.enter gf args) w) (hps:∀ x,(encs x).size=ps.size)
 (I:Nat→World→Prop) (hI:∀ k W W' S,I k W→Fr S W W'→(∀ q∈S,w.heap.size≤q)→I k W') (h0:I 0 w)
 (hseq : ∀ (l : Nat) (J : Nat → World → Prop) (W : World), Fr [] w W → w.heap.size + 2 ≤ W.heap.size → (∀ k W' W'' S, J k W' → Fr S W' W'' → (∀ q ∈ S, W.heap.size ≤ q) → J k W'') → (∀ k x W1, xs[k]? = some x → J k W1 → YieldAt Fence.wide (n - 1) P l (encs x) W1 fun e W' => (k + 1 < xs.length → e = .returned (.bool true)) ∧ (k + 1 = xs.length → e = .returned (.bool false)) ∧ J (k + 1) W' ∧ Fr (w.heap.size :: (w.heap.size + 1) :: T) W1 W') → J 0 W →
  CallsIn Fence.wide n P gf (#[.func (.yield l) #[] #[]]++lb) W fun e W'=>(∃ v,e=.returned v)∧J xs.length W')
 (A:Nat→Act→World→Prop) (hA:∀ k a' W W',A k a' W→Fr [w.heap.size,w.heap.size+1] W W'→A k a' W')
 (hassign:∀ (l k:Nat) (x:α) (W:World) (K:Act→World→Prop),xs[k]?=some x→I k W→w.heap.size+2≤W.heap.size→(∀ a' W',Fr [] W W'→A k a' W'→K a' W') →
  assign.wpIn (Fence.wide.inRound l) (n - 1) P (Exit.then K (fun _ _ _=>False)) { tmps:=(ps.zip (encs x)).foldl (fun t (p,v)=>t.setIfInBounds p v) a.tmps,defers:=[] } W)
 (hbody:∀ (l k:Nat) (x:α) (a':Act) (W:World),xs[k]?=some x→k+1<xs.length→A k a' W→w.heap.size+2≤W.heap.size→body.wpIn (Fence.wide.inRound l) (n - 1) P (fun e _ W'=>e=.normal∧I (k+1) W'∧Fr T W W') a' W)
 (hlast:∀ (l k:Nat) (x:α) (a':Act) (W:World),xs[k]?=some x→k+1=xs.length→A k a' W→w.heap.size+2≤W.heap.size→body.wpIn (Fence.wide.inRound l) (n - 1) P (fun e _ W'=>e=Exit.ret∧I (k+1) W'∧Fr T W W') a' W)
 (hne:xs≠[])
 (hstop:∀ (D:Nat) (W:World),w.heap.size≤D→I xs.length W→W.heap[D]?=some (.deferred (some []))→(Code.ret).wp P Q { a with defers:={ target:=.collected D,args:=#[] }::a.defers } W) :
 (Code.rangeFunc g ps assign body).wp P Q a w:=by
 refine (wpIn_wide (n:=n+1)).1 (wpIn_rangeFunc fun fn hfn=>?_)
 obtain⟨rec,hrec⟩:∃ rec:LoopState→Option Code→Loop,rec=fun st pe=>{ state:=st,pending:=pe,fn,tmps:=a.tmps,params:=ps,assign,body,defers:=w.heap.size }:=⟨_,rfl⟩
 obtain⟨W1,hW1⟩:=nmd ((w.alloc (.deferred (some []))).alloc (.loop (rec .ready none)))
 have hL1:W1.heap[w.heap.size+1]?=some (.loop (rec .ready none)):=by
  rw[←hW1]
  have:=World.alloc_heap_new (w.alloc (.deferred (some []))) (.loop (rec .ready none))
  rwa [World.size_alloc] at this
 have hK1:W1.heap[w.heap.size]?=some (.deferred (some [])):=by
  rw[←hW1]
  exact (Below.heap_alloc _ _ _ (by simp)).trans (World.alloc_heap_new w _)
 have hf1:Fr [] w W1:=by rw[←hW1];exact ((Fr.refl [] w).alloc _).alloc _
 have hz1:W1.heap.size=w.heap.size+2:=by rw[←hW1];simp
 have hfD:∀ (W:World) (o:Obj),Fr [w.heap.size,w.heap.size+1] W (W.putObj (w.heap.size+1) o):=fun W o=>fr_putObj o (Fr.refl _ W) (.inl (by simp))
 have hlowD:∀ (W:World) (o:Obj),Fr (w.heap.size::(w.heap.size+1)::T) W (W.putObj (w.heap.size+1) o):=fun W o=>(hfD W o).mono (by simp)
 refine⟨w.heap.size+1,[{ target:=.collected w.heap.size,args:=#[] }],W1,{ target:=.fn (.func gf) lb,args:=#[.func (.yield (w.heap.size+1)) #[] #[]] },W1,gf,#[.func (.yield (w.heap.size+1)) #[] #[]]++lb,W1,?_,?_,fun _ _=>trivial,?_,fun _=>Nat.succ_le_succ (Nat.zero_le n),?_⟩
 ·rw[←hW1,hrec];exact run_enterLoop_outer _ _ _ _ _
 ·simp only[resolve,hg]
  simp[go_sem]
 ·simp[invoke,go_sem,eg]
 ·refine (hseq (w.heap.size+1) (fun k W=>I k W∧W.heap[w.heap.size+1]?=some (.loop (rec (if k=xs.length then .done else .ready) (if k=xs.length then some (Code.ret) else none)))∧W.heap[w.heap.size]?=some (.deferred (some []))) W1 hf1 (by omega) ?_ ?_ ⟨hI 0 w W1 [] h0 hf1 (by simp),?_,hK1⟩).mono ?_
  ·rintro k W W' S ⟨h1,h2,h3⟩ hS hq
   exact⟨hI _ _ _ _ h1 hS (fun q hm=>by have:=hq q hm;omega),(hS.block _ (Array.getElem?_eq_some_iff.1 h2).1 (fun hm=>by have:=hq _ hm;omega)).trans h2,(hS.block _ (Array.getElem?_eq_some_iff.1 h3).1 (fun hm=>by have:=hq _ hm;omega)).trans h3⟩
  ·rintro k x W hx ⟨hi,hl,hk⟩
   have hkl:k<xs.length:=(List.getElem?_eq_some_iff.1 hx).1
   have hkn0:¬ (k=xs.length):=by omega
   rw[if_neg hkn0,if_neg hkn0] at hl
   have hlt:w.heap.size+1<W.heap.size:=(Array.getElem?_eq_some_iff.1 hl).1
   have hy:=run_yield (P:=P) (args:=encs x) hl (by rw[hrec];exact hps x)
   rw[hrec] at hy
   refine⟨fn,_,assign,body,hy,roundIn_of_wpIn hfn (hassign _ k x W _ hx hi (by omega) ?_)⟩
   clear hy
   intro a' Wa hfa hax
   have hlta:w.heap.size+1<Wa.heap.size:=Nat.lt_of_lt_of_le hlt hfa.size
   replace hl:=(hfa.block _ (by omega) (by simp)).trans hl
   replace hk:=(hfa.block _ (by omega) (by simp)).trans hk
   refine⟨_,run_beginRound hl (by rw[hrec]),?_⟩
   have hl2:(Wa.putObj (w.heap.size+1) (.loop { rec .ready none with state:=.busy })).heap[w.heap.size+1]?=some (.loop { rec .ready none with state:=.busy }):=World.putObj_heap_same hlta
   have hk2:(Wa.putObj (w.heap.size+1) (.loop { rec .ready none with state:=.busy })).heap[w.heap.size]?=some (.deferred (some [])):=(World.putObj_heap_other (by omega)).trans hk
   have hlowa:Fr (w.heap.size::(w.heap.size+1)::T) W (Wa.putObj (w.heap.size+1) (.loop { rec .ready none with state:=.busy })):=(hfa.mono (by simp)).then (hlowD _ _)
   by_cases hkk:k+1<xs.length
   ·refine wpIn_mono (hbody _ k x a' _ hx hkk (hA k a' _ _ hax (hfD _ _)) (by simp;omega)) ?_
    rintro e a3 W3 ⟨rfl,hi3,hf3⟩
    have hl3:=(hf3.block _ (by simp;omega) (fun hm=>by have:=hT _ hm;omega)).trans hl2
    have hk3:=(hf3.block _ (by simp;omega) (fun hm=>by have:=hT _ hm;omega)).trans hk2
    have hr:=run_endRound (P:=P) none hl3
    have hs3:=(Array.getElem?_eq_some_iff.1 hl3).1
    refine⟨_,_,hr,fun _=>rfl,fun h=>absurd h (by omega),⟨hI _ _ _ _ hi3 (hfD _ _) (by simp),?_,(World.putObj_heap_other (by omega)).trans hk3⟩,hlowa.then ((hf3.mono (fun x hx=>.inl (by simp[hx]))).then (hlowD _ _))⟩
    have hkn:¬ (k+1=xs.length):=by omega
    rw[if_neg hkn,if_neg hkn]
    exact (World.putObj_heap_same hs3).trans (by rw[hrec];rfl)
   ·refine wpIn_mono (hlast _ k x a' _ hx (by omega) (hA k a' _ _ hax (hfD _ _)) (by simp;omega)) ?_
    rintro e a3 W3 ⟨rfl,hi3,hf3⟩
    have hl3:=(hf3.block _ (by simp;omega) (fun hm=>by have:=hT _ hm;omega)).trans hl2
    have hk3:=(hf3.block _ (by simp;omega) (fun hm=>by have:=hT _ hm;omega)).trans hk2
    have hr:=run_endRound (P:=P) (some (Code.ret)) hl3
    have hs3:=(Array.getElem?_eq_some_iff.1 hl3).1
    refine⟨_,_,hr,fun h=>absurd h (by omega),fun _=>rfl,⟨hI _ _ _ _ hi3 (hfD _ _) (by simp),?_,(World.putObj_heap_other (by omega)).trans hk3⟩,hlowa.then ((hf3.mono (fun x hx=>.inl (by simp[hx]))).then (hlowD _ _))⟩
    have hkn:k+1=xs.length:=by omega
    rw[if_pos hkn,if_pos hkn]
    exact (World.putObj_heap_same hs3).trans (by rw[hrec];rfl)
  ·have h0x:¬ (0=xs.length):=fun h=>hne (List.eq_nil_of_length_eq_zero h.symm)
   rw[if_neg h0x,if_neg h0x]
   exact hL1
  ·rintro e W2 ⟨⟨v,rfl⟩,hi,hl,hk⟩
   rw[if_pos rfl,if_pos rfl] at hl
   refine⟨some (Code.ret),_,by have:=run_endLoop (P:=P) hl (by rw[hrec];simp);rw[hrec] at this;exact this,?_⟩
   exact wpIn_wide.2 (hstop w.heap.size _ (Nat.le_refl _) (hI _ _ _ _ hi (hfD _ _) (by simp)) ((World.putObj_heap_other (by omega)).trans hk))
theorem wp_rangeFunc_exit (id:Nat){α:Type} {P:Program} {g:Operand} {ps:Array Tmp} {assign body:Code} {Q:Exit→Act→World→Prop} {a:Act} {w:World} {gf:Nat} {lb:Array Value} (n:Nat) (T:List Nat) (hT:∀ q∈T,q<w.heap.size) (xs:List α) (encs:α→Array Value)
 (hg:a.eval g=.func (.func gf) #[] lb) (eg:∀ args w,(callFunc gf args).run P w=.ok (.enter gf args) w) (hps:∀ x,(encs x).size=ps.size)
 (I:Nat→World→Prop) (hI:∀ k W W' S,I k W→Fr S W W'→(∀ q∈S,w.heap.size≤q)→I k W') (h0:I 0 w)
 (hseq : ∀ (l : Nat) (J : Nat → World → Prop) (W : World), Fr [] w W → w.heap.size + 2 ≤ W.heap.size → (∀ k W' W'' S, J k W' → Fr S W' W'' → (∀ q ∈ S, W.heap.size ≤ q) → J k W'') → (∀ k x W1, xs[k]? = some x → J k W1 → YieldAt Fence.wide (n - 1) P l (encs x) W1 fun e W' => (k + 1 < xs.length → e = .returned (.bool true)) ∧ (k + 1 = xs.length → e = .returned (.bool false)) ∧ J (k + 1) W' ∧ Fr (w.heap.size :: (w.heap.size + 1) :: T) W1 W') → J 0 W →
  CallsIn Fence.wide n P gf (#[.func (.yield l) #[] #[]]++lb) W fun e W'=>(∃ v,e=.returned v)∧J xs.length W')
 (A:Nat→Act→World→Prop) (hA:∀ k a' W W',A k a' W→Fr [w.heap.size,w.heap.size+1] W W'→A k a' W')
 (hassign:∀ (l k:Nat) (x:α) (W:World) (K:Act→World→Prop),xs[k]?=some x→I k W→w.heap.size+2≤W.heap.size→(∀ a' W',Fr [] W W'→A k a' W'→K a' W') →
  assign.wpIn (Fence.wide.inRound l) (n - 1) P (Exit.then K (fun _ _ _=>False)) { tmps:=(ps.zip (encs x)).foldl (fun t (p,v)=>t.setIfInBounds p v) a.tmps,defers:=[] } W)
 (hbody:∀ (l k:Nat) (x:α) (a':Act) (W:World),xs[k]?=some x→k+1<xs.length→A k a' W→w.heap.size+2≤W.heap.size→body.wpIn (Fence.wide.inRound l) (n - 1) P (fun e _ W'=>e=.normal∧I (k+1) W'∧Fr T W W') a' W)
 (hlast:∀ (l k:Nat) (x:α) (a':Act) (W:World),xs[k]?=some x→k+1=xs.length→A k a' W→w.heap.size+2≤W.heap.size→body.wpIn (Fence.wide.inRound l) (n - 1) P (fun e _ W'=>e=Exit.exit id∧I (k+1) W'∧Fr T W W') a' W)
 (hne:xs≠[])
 (hstop:∀ (D:Nat) (W:World),w.heap.size≤D→I xs.length W→W.heap[D]?=some (.deferred (some []))→(Code.exit id).wp P Q { a with defers:={ target:=.collected D,args:=#[] }::a.defers } W) :
 (Code.rangeFunc g ps assign body).wp P Q a w:=by
 refine (wpIn_wide (n:=n+1)).1 (wpIn_rangeFunc fun fn hfn=>?_)
 obtain⟨rec,hrec⟩:∃ rec:LoopState→Option Code→Loop,rec=fun st pe=>{ state:=st,pending:=pe,fn,tmps:=a.tmps,params:=ps,assign,body,defers:=w.heap.size }:=⟨_,rfl⟩
 obtain⟨W1,hW1⟩:=nmd ((w.alloc (.deferred (some []))).alloc (.loop (rec .ready none)))
 have hL1:W1.heap[w.heap.size+1]?=some (.loop (rec .ready none)):=by
  rw[←hW1]
  have:=World.alloc_heap_new (w.alloc (.deferred (some []))) (.loop (rec .ready none))
  rwa [World.size_alloc] at this
 have hK1:W1.heap[w.heap.size]?=some (.deferred (some [])):=by
  rw[←hW1]
  exact (Below.heap_alloc _ _ _ (by simp)).trans (World.alloc_heap_new w _)
 have hf1:Fr [] w W1:=by rw[←hW1];exact ((Fr.refl [] w).alloc _).alloc _
 have hz1:W1.heap.size=w.heap.size+2:=by rw[←hW1];simp
 have hfD:∀ (W:World) (o:Obj),Fr [w.heap.size,w.heap.size+1] W (W.putObj (w.heap.size+1) o):=fun W o=>fr_putObj o (Fr.refl _ W) (.inl (by simp))
 have hlowD:∀ (W:World) (o:Obj),Fr (w.heap.size::(w.heap.size+1)::T) W (W.putObj (w.heap.size+1) o):=fun W o=>(hfD W o).mono (by simp)
 refine⟨w.heap.size+1,[{ target:=.collected w.heap.size,args:=#[] }],W1,{ target:=.fn (.func gf) lb,args:=#[.func (.yield (w.heap.size+1)) #[] #[]] },W1,gf,#[.func (.yield (w.heap.size+1)) #[] #[]]++lb,W1,?_,?_,fun _ _=>trivial,?_,fun _=>Nat.succ_le_succ (Nat.zero_le n),?_⟩
 ·rw[←hW1,hrec];exact run_enterLoop_outer _ _ _ _ _
 ·simp only[resolve,hg]
  simp[go_sem]
 ·simp[invoke,go_sem,eg]
 ·refine (hseq (w.heap.size+1) (fun k W=>I k W∧W.heap[w.heap.size+1]?=some (.loop (rec (if k=xs.length then .done else .ready) (if k=xs.length then some (Code.exit id) else none)))∧W.heap[w.heap.size]?=some (.deferred (some []))) W1 hf1 (by omega) ?_ ?_ ⟨hI 0 w W1 [] h0 hf1 (by simp),?_,hK1⟩).mono ?_
  ·rintro k W W' S ⟨h1,h2,h3⟩ hS hq
   exact⟨hI _ _ _ _ h1 hS (fun q hm=>by have:=hq q hm;omega),(hS.block _ (Array.getElem?_eq_some_iff.1 h2).1 (fun hm=>by have:=hq _ hm;omega)).trans h2,(hS.block _ (Array.getElem?_eq_some_iff.1 h3).1 (fun hm=>by have:=hq _ hm;omega)).trans h3⟩
  ·rintro k x W hx ⟨hi,hl,hk⟩
   have hkl:k<xs.length:=(List.getElem?_eq_some_iff.1 hx).1
   have hkn0:¬ (k=xs.length):=by omega
   rw[if_neg hkn0,if_neg hkn0] at hl
   have hlt:w.heap.size+1<W.heap.size:=(Array.getElem?_eq_some_iff.1 hl).1
   have hy:=run_yield (P:=P) (args:=encs x) hl (by rw[hrec];exact hps x)
   rw[hrec] at hy
   refine⟨fn,_,assign,body,hy,roundIn_of_wpIn hfn (hassign _ k x W _ hx hi (by omega) ?_)⟩
   clear hy
   intro a' Wa hfa hax
   have hlta:w.heap.size+1<Wa.heap.size:=Nat.lt_of_lt_of_le hlt hfa.size
   replace hl:=(hfa.block _ (by omega) (by simp)).trans hl
   replace hk:=(hfa.block _ (by omega) (by simp)).trans hk
   refine⟨_,run_beginRound hl (by rw[hrec]),?_⟩
   have hl2:(Wa.putObj (w.heap.size+1) (.loop { rec .ready none with state:=.busy })).heap[w.heap.size+1]?=some (.loop { rec .ready none with state:=.busy }):=World.putObj_heap_same hlta
   have hk2:(Wa.putObj (w.heap.size+1) (.loop { rec .ready none with state:=.busy })).heap[w.heap.size]?=some (.deferred (some [])):=(World.putObj_heap_other (by omega)).trans hk
   have hlowa:Fr (w.heap.size::(w.heap.size+1)::T) W (Wa.putObj (w.heap.size+1) (.loop { rec .ready none with state:=.busy })):=(hfa.mono (by simp)).then (hlowD _ _)
   by_cases hkk:k+1<xs.length
   ·refine wpIn_mono (hbody _ k x a' _ hx hkk (hA k a' _ _ hax (hfD _ _)) (by simp;omega)) ?_
    rintro e a3 W3 ⟨rfl,hi3,hf3⟩
    have hl3:=(hf3.block _ (by simp;omega) (fun hm=>by have:=hT _ hm;omega)).trans hl2
    have hk3:=(hf3.block _ (by simp;omega) (fun hm=>by have:=hT _ hm;omega)).trans hk2
    have hr:=run_endRound (P:=P) none hl3
    have hs3:=(Array.getElem?_eq_some_iff.1 hl3).1
    refine⟨_,_,hr,fun _=>rfl,fun h=>absurd h (by omega),⟨hI _ _ _ _ hi3 (hfD _ _) (by simp),?_,(World.putObj_heap_other (by omega)).trans hk3⟩,hlowa.then ((hf3.mono (fun x hx=>.inl (by simp[hx]))).then (hlowD _ _))⟩
    have hkn:¬ (k+1=xs.length):=by omega
    rw[if_neg hkn,if_neg hkn]
    exact (World.putObj_heap_same hs3).trans (by rw[hrec];rfl)
   ·refine wpIn_mono (hlast _ k x a' _ hx (by omega) (hA k a' _ _ hax (hfD _ _)) (by simp;omega)) ?_
    rintro e a3 W3 ⟨rfl,hi3,hf3⟩
    have hl3:=(hf3.block _ (by simp;omega) (fun hm=>by have:=hT _ hm;omega)).trans hl2
    have hk3:=(hf3.block _ (by simp;omega) (fun hm=>by have:=hT _ hm;omega)).trans hk2
    have hr:=run_endRound (P:=P) (some (Code.exit id)) hl3
    have hs3:=(Array.getElem?_eq_some_iff.1 hl3).1
    refine⟨_,_,hr,fun h=>absurd h (by omega),fun _=>rfl,⟨hI _ _ _ _ hi3 (hfD _ _) (by simp),?_,(World.putObj_heap_other (by omega)).trans hk3⟩,hlowa.then ((hf3.mono (fun x hx=>.inl (by simp[hx]))).then (hlowD _ _))⟩
    have hkn:k+1=xs.length:=by omega
    rw[if_pos hkn,if_pos hkn]
    exact (World.putObj_heap_same hs3).trans (by rw[hrec];rfl)
  ·have h0x:¬ (0=xs.length):=fun h=>hne (List.eq_nil_of_length_eq_zero h.symm)
   rw[if_neg h0x,if_neg h0x]
   exact hL1
  ·rintro e W2 ⟨⟨v,rfl⟩,hi,hl,hk⟩
   rw[if_pos rfl,if_pos rfl] at hl
   refine⟨some (Code.exit id),_,by have:=run_endLoop (P:=P) hl (by rw[hrec];simp);rw[hrec] at this;exact this,?_⟩
   exact wpIn_wide.2 (hstop w.heap.size _ (Nat.le_refl _) (hI _ _ _ _ hi (hfD _ _) (by simp)) ((World.putObj_heap_other (by omega)).trans hk))
end Go.Proofs.YtlpmiimgacfmkaaGreatDoor
