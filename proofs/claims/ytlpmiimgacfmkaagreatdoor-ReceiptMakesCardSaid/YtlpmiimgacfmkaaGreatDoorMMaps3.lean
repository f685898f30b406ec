/- Maps: an entry of an old key; maps from names to lists (m[k] = append(m[k], x)). -/
import Derived.Test.YtlpmiimgacfmkaaGreatDoorMSp1
import Derived.Test.YtlpmiimgacfmkaaGreatDoorMGn
import Derived.Test.YtlpmiimgacfmkaaGreatDoorMHi1
import Derived.Test.YtlpmiimgacfmkaaGreatDoorMQt
import Derived.Test.YtlpmiimgacfmkaaGreatDoorMGs
set_option linter.all false
namespace Go.Proofs.YtlpmiimgacfmkaaGreatDoor
open Go.Proofs.Tryz
open Go.RowKit
section
variable {P:Program} {w w':World} {t k e:TypeId} {r:Nat} {key v0:Value} {kl:Lit} {l1 l2:List (Value × Value)}
theorem MapIs.entry_old (K:Maps.Keyed P k) (ht:P.underlying t=some (.map k e)) (h:MapIs P k w r (l1++(key,v0)::l2)) (hkey:keyOf P k key=some kl) :
 ∃ st w1,(Instr.mapEntry t (.map (some r)) key).run P w=.ok (.tuple #[v0,.int .i64 st]) w1/\Fr [r] w w1/\MapIs P k w1 r (l1++(key,v0)::l2) /\
  ∀ w2 val,w2.heap[r]?=w1.heap[r]?->∃ w3,(Instr.entryStore t (.map (some r)) (.int .i64 st) val).run P w2=.ok () w3/\Fr [r] w2 w3/\MapIs P k w3 r (l1++(key,val)::l2):=by
 obtain⟨es,clock,h1,h2,h3,h4⟩:=h;have hkk:es.toList.map (·.key)=(l1++(key,v0)::l2).map (·.1):=by rw[<-h4,List.map_map];rfl
 rcases K.find w hkey es.toList h3 with ⟨f1,f2⟩ | ⟨j,e0,f1,f2,f3⟩
 ·have:key∈es.toList.map (·.key):=by rw[hkk];simp
  obtain⟨x,hx,he⟩:=List.mem_map.1 this;exact absurd he (f2 x hx)
 ·have hj:es[j]?=some e0:=by simpa using f2
  have hjl:j=l1.length:=by
   have hnd:=h2.2.2;have a1:(es.toList.map (·.key))[j]?=some key:=by rw[List.getElem?_map,f2,<-f3];rfl
   have a2:(es.toList.map (·.key))[l1.length]?=some key:=by rw[hkk,List.getElem?_map];simp
   obtain⟨b1l,b1e⟩:=lgs.1 a1;obtain⟨b2l,b2e⟩:=lgs.1 a2;exact (List.getElem_inj hnd).1 (b1e.trans b2e.symm)
  have hv:e0.val=v0:=by
   have a1:(es.toList.map (fun x=>(x.key,x.val)))[j]?=some (e0.key,e0.val):=by rw[List.getElem?_map,f2];rfl
   rw[h4,hjl] at a1;simp at a1;exact a1.2.symm
  have hmod:(es.modify j fun e=>{ e with key:=key })=es:=by
   apply Array.ext_getElem?
   intro i;rw[Array.getElem?_modify];split
   ·rename_i he
    subst he;rw[hj]
    cases e0
    simp only at f3;subst f3;rfl
   ·rfl
  refine⟨((e0.born:Nat):Int),{ w with heap:=w.heap.setIfInBounds r (.map es clock) },by simp[Instr.mapEntry,run_underlying ht,MapKept.run_getObj_map h1,K.check w false hkey,f1,hv,hj,f3,K.stays w hkey,hmod,goInt,MapKept.run_setObj_map _ h1,Result.andThen],⟨rfl,rfl,rfl,by simp,fun i _ hi=>(MapKept.heap_set h1).2 i (by simpa using hi)⟩,⟨es,clock,(MapKept.heap_set h1).1,h2,h3,h4⟩,fun w2 val hw2=>?_⟩;have hw3:w2.heap[r]?=some (.map es clock):=hw2.trans (MapKept.heap_set h1).1
  have hidx:es.findIdx? (fun e=>((e.born:Nat):Int) == ((e0.born:Nat):Int))=some j:=by
   rw[WideElems.findIdx_arr];exact WideElems.findIdx_born h2.2.1 f2
  refine⟨{ w2 with heap:=w2.heap.setIfInBounds r (.map (es.modify j fun e=>{ e with val:=val }) clock) },?_,⟨rfl,rfl,rfl,by simp,fun i _ hi=>(MapKept.heap_set hw3).2 i (by simpa using hi)⟩,_,_,(MapKept.heap_set hw3).1,?_,?_,?_⟩
  ·simp[Instr.entryStore,MapKept.run_getObj_map hw3,asInt,asIntOf,hidx,MapKept.run_setObj_map _ hw3,Result.andThen]
  ·exact MapKept.stamped_modify h2 j _ (fun _ _=>rfl) (fun e he hje=>rfl)
  ·intro x hx
   rcases MapFrom.mem_modify hx with hx | ⟨y,hy,rfl⟩
   ·exact h3 x hx
   ·exact h3 y (by simpa using lmg (show es.toList[j]?=some y by simpa using hy))
  ·rw[Array.toList_modify]
   apply List.ext_getElem?
   intro i;have h4i:=congrArg (·[i]?) h4;simp only[List.getElem?_map] at h4i ⊢;rw[List.getElem?_modify];subst hjl
   by_cases hi:l1.length=i
   ·subst hi
    rw[f2];simp[f3]
   ·have hL:(l1++(key,val)::l2)[i]?=(l1++(key,v0)::l2)[i]?:=by
     rw[List.getElem?_append,List.getElem?_append];split
     ·rfl
     ·rename_i h0
      obtain⟨m,hm⟩:∃ m,i - l1.length=m+1:=⟨i - l1.length - 1,by omega⟩;rw[hm];rfl
    rw[hL,<-h4i];simp[hi]
end
structure NE (κ α:Type) where
 n:κ
 A:Option Addr
 c:Nat
 xs:List α
section
variable {κ α:Type} [DecidableEq κ]
def NE.kv (q:κ->Value) (x:NE κ α):Value × Value:=(q x.n,.slice x.A x.xs.length x.c)
def getL (es:List (NE κ α)) (n:κ):List α:=match es.find? (fun x=>decide (x.n=n)) with | some x=>x.xs | none=>[]
def blsL (es:List (NE κ α)):List Nat:=es.flatMap fun x=>blk x.A
structure ML (P:Program) (k:TypeId) (q:κ->Value) (e:TypeId) (size:Nat) (f:α->List Value) (w:World) (r:Nat) (es:List (NE κ α)):Prop where
 map:MapIs P k w r (es.map (NE.kv q))
 own:∀ x∈es,Own w e size x.A x.xs.length x.c (x.xs.flatMap f)
 dj:es.Pairwise fun x y=>∀ b∈blk x.A,b ∉ blk y.A
variable {P:Program} {k e t:TypeId} {q:κ->Value} {size:Nat} {f:α->List Value} {w w':World} {r:Nat} {es:List (NE κ α)} {S:List Nat}
theorem ML.fr0 (h:ML P k q e size f w r es) (hf:Fr [] w w'):ML P k q e size f w' r es:=⟨h.map.fr hf (by simp),fun x hx=>(h.own x hx).fr hf (by simp),h.dj⟩
theorem ML.lt (h:ML P k q e size f w r es):∀ b∈blsL es,b<w.heap.size:=fun b hb=>by
 obtain⟨x,hx,hm⟩:=List.mem_flatMap.1 hb;exact (h.own x hx).lt b hm
theorem ML.nil (h:MapIs P k w r []):ML P k q e size f w r ([]:List (NE κ α)):=⟨h,by simp,List.Pairwise.nil⟩
theorem ML.rb (h:ML P k q e size f w r es):r ∉ blsL es:=fun hb=>by
 obtain⟨x,hx,hm⟩:=List.mem_flatMap.1 hb;have:=NoT.map (ts:=[e]) h.map
 rcases (h.own x hx).2 with ⟨hv,_⟩ | ⟨g,cap,cur,hv,_,hg,_⟩
 ·injection hv with hv;rw[hv] at hm;simp[blk] at hm
 ·injection hv with hv
  rw[hv] at hm;simp only[blk,Option.map_some,Option.toList_some,lms] at hm;subst hm;exact this r (by simp) _ _ _ hg (by simp)
theorem find_split:∀ {es:List (NE κ α)} {n:κ} {x:NE κ α},es.find? (fun x=>decide (x.n=n))=some x->∃ l1 l2,es=l1++x::l2/\x.n=n/\∀ y∈l1,y.n≠n
 | [],n,x,h=>by simp at h
 | y::es,n,x,h=>by
  by_cases hy:y.n=n
  ·rw[List.find?_cons_of_pos (by simpa using hy)] at h
   injection h with h
   subst h;exact⟨[],es,rfl,hy,by simp⟩
  ·rw[List.find?_cons_of_neg (by simpa using hy)] at h
   obtain⟨l1,l2,rfl,h2,h3⟩:=find_split h;exact⟨y::l1,l2,rfl,h2,by intro z hz;rcases List.mem_cons.1 hz with rfl | hz;exact hy;exact h3 z hz⟩
def LStep (P:Program) (t k:TypeId) (q:κ->Value) (e:TypeId) (size:Nat) (f:α->List Value) (w:World) (r:Nat) (es:List (NE κ α)) (n:κ):Prop :=
 ∃ st A c w1,(Instr.mapEntry t (.map (some r)) (q n)).run P w=.ok (.tuple #[.slice A (getL es n).length c,.int .i64 st]) w1/\Fr [r] w w1/\Own w1 e size A (getL es n).length c ((getL es n).flatMap f)/\(∀ b∈blk A,b∈blsL es) /\
  ∀ v w2 A' c',Fr (blk A) w1 w2->Own w2 e size A' ((getL es n).length+1) c' ((getL es n).flatMap f++f v)->(∀ b∈blk A',b∈blk A \/ w1.heap.size<=b) ->
   ∃ w3 es',(Instr.entryStore t (.map (some r)) (.int .i64 st) (.slice A' ((getL es n).length+1) c')).run P w2=.ok () w3/\Fr [r] w2 w3/\ML P k q e size f w3 r es'/\(∀ m,getL es' m=if m=n then getL es n++[v] else getL es m)/\∀ b∈blsL es',b∈blsL es \/ w.heap.size<=b
theorem getL_none {es:List (NE κ α)} {n:κ} (h:es.find? (fun x=>decide (x.n=n))=none):getL es n=[]:=by unfold getL;rw[h]
theorem getL_some {es:List (NE κ α)} {n:κ} {x:NE κ α} (h:es.find? (fun x=>decide (x.n=n))=some x):getL es n=x.xs:=by unfold getL;rw[h]
theorem getL_app {l1 l2:List (NE κ α)} {n:κ} (h:∀ y∈l1,y.n≠n):getL (l1++l2) n=getL l2 n:=by
 unfold getL;rw[List.find?_append,List.find?_eq_none.2 (by simpa using h)];rfl
theorem getL_same {l1 l2 l3:List (NE κ α)} {n:κ} (h:¬ ∀ y∈l1,y.n≠n):getL (l1++l2) n=getL (l1++l3) n:=by
 unfold getL;rw[List.find?_append,List.find?_append]
 cases hf:l1.find? (fun x=>decide (x.n=n)) with
 | none=>exact absurd (by simpa using List.find?_eq_none.1 hf) h
 | some x=>rfl
theorem getL_cons (x:NE κ α) (l:List (NE κ α)) (n:κ):getL (x::l) n=if x.n=n then x.xs else getL l n:=by
 unfold getL
 by_cases h:x.n=n
 ·rw[List.find?_cons_of_pos (by simpa using h),if_pos h]
 ·rw[List.find?_cons_of_neg (by simpa using h),if_neg h]
theorem ML.step {et:TypeId} (hq:∀ a b,q a=q b->a=b) (K:Maps.Keyed P k) (ht:P.underlying t=some (.map k et)) (hz:∀ u:World,(zeroValue et).run P u=.ok (.slice none 0 0) u) (h:ML P k q e size f w r es) (n:κ) {kl:Lit} (hk:keyOf P k (q n)=some kl):LStep P t k q e size f w r es n:=by
 have hrl:=h.map.lt;have hrb:=h.rb
 cases hfd:es.find? (fun x=>decide (x.n=n)) with
 | none =>
  have hall:∀ y∈es,y.n≠n:=by simpa using List.find?_eq_none.1 hfd
  obtain⟨st,w1,h1,h2,h3,h4⟩:=MapIs.entry_new K ht hz h.map hk (by
   intro p hp he;obtain⟨y,hy,rfl⟩:=List.mem_map.1 hp;exact hall y hy (hq _ _ he))
  unfold LStep;rw[getL_none hfd];refine⟨st,none,0,w1,h1,h2,Own.nil _ _ _,by simp[blk],fun v w2 A' c' hf2 ho hb=>?_⟩;obtain⟨w3,h5,h6,h7⟩:=h4 w2 (.slice A' (0+1) c') (hf2.block r h3.lt (by simp[blk]));have hs1:=h2.size
  have hA':∀ b∈blk A',w.heap.size<=b:=fun b hm=>by
   rcases hb b hm with h | h
   ·simp[blk] at h
   ·omega
  refine⟨w3,es++[⟨n,A',c',[v]⟩],h5,h6,⟨?_,?_,?_⟩,fun m=>?_,fun b hm=>?_⟩
  ·rw[List.map_append];exact h7
  ·intro x hx
   rcases List.mem_append.1 hx with hx | hx
   ·have hxb:∀ b∈blk x.A,b≠r:=fun b hm he=>hrb (List.mem_flatMap.2 ⟨x,hx,by rw[<-he];exact hm⟩)
    exact (((h.own x hx).fr h2 (fun b hm=>by simpa using hxb b hm)).fr hf2 (by simp[blk])).fr h6 (fun b hm=>by simpa using hxb b hm)
   ·rw[lms] at hx
    subst hx;have:=ho.fr h6 (fun b hm=>by have:=hA' b hm;simp;omega);simpa using this
  ·rw[List.pairwise_append]
   refine⟨h.dj,List.pairwise_singleton _ _,fun x hx y hy b hm hm2=>?_⟩;rw[lms] at hy;subst hy;have h8:=hA' b hm2;have h9:=h.lt b (List.mem_flatMap.2 ⟨x,hx,hm⟩);omega
  ·by_cases hm:m=n
   ·subst hm
    rw[if_pos rfl,getL_app hall,getL_cons,if_pos rfl,List.nil_append]
   ·rw[if_neg hm]
    by_cases hh:∀ y∈es,y.n≠m
    ·rw[getL_app hh,getL_cons,if_neg (fun e=>hm e.symm)]
     have:getL es m=[]:=getL_none (List.find?_eq_none.2 (by simpa using hh));rw[this];rfl
    ·have:=getL_same (l2:=[⟨n,A',c',[v]⟩]) (l3:=[]) hh
     rw[this,List.append_nil]
  ·unfold blsL at hm
   rw[List.flatMap_append] at hm
   rcases List.mem_append.1 hm with hm | hm
   ·exact .inl hm
   ·simp only[List.flatMap_cons,List.flatMap_nil,List.append_nil] at hm
    exact .inr (hA' b hm)
 | some x =>
  obtain⟨l1,l2,rfl,rfl,hl1⟩:=find_split hfd;have hmp:=h.map;rw[List.map_append,List.map_cons] at hmp;obtain⟨st,w1,h1,h2,h3,h4⟩:=MapIs.entry_old K ht hmp hk;unfold LStep;rw[getL_some hfd];have hxm:x∈l1++x::l2:=by simp
  have hxb:∀ y∈l1++x::l2,∀ b∈blk y.A,b≠r:=fun y hy b hm he=>hrb (List.mem_flatMap.2 ⟨y,hy,by rw[<-he];exact hm⟩);have hs1:=h2.size;refine⟨st,x.A,x.c,w1,h1,h2,(h.own x hxm).fr h2 (fun b hm=>by simpa using hxb x hxm b hm),fun b hm=>List.mem_flatMap.2 ⟨x,hxm,hm⟩,fun v w2 A' c' hf2 ho hb=>?_⟩;obtain⟨w3,h5,h6,h7⟩:=h4 w2 (.slice A' (x.xs.length+1) c') (hf2.block r h3.lt (fun hm=>hxb x hxm r hm rfl));have hA':∀ b∈blk A',b∈blk x.A \/ w.heap.size<=b:=fun b hm=>(hb b hm).imp id (fun h=>by omega);obtain⟨d1,d2,d3⟩:=List.pairwise_append.1 h.dj;obtain⟨d4,d5⟩:=List.pairwise_cons.1 d2
  have keep:∀ y∈l1++x::l2,(∀ b∈blk y.A,b ∉ blk x.A)->Own w3 e size y.A y.xs.length y.c (y.xs.flatMap f):=fun y hy hd =>
   (((h.own y hy).fr h2 (fun b hm=>by simpa using hxb y hy b hm)).fr hf2 hd).fr h6 (fun b hm=>by simpa using hxb y hy b hm)
  have hnew:∀ y∈l1++x::l2,(∀ b∈blk y.A,b ∉ blk x.A)->∀ b∈blk y.A,b ∉ blk A':=fun y hy hd b hm hm2=>by
   rcases hA' b hm2 with h8 | h8
   ·exact hd b hm h8
   ·have h9:=h.lt b (List.mem_flatMap.2 ⟨y,hy,hm⟩)
    omega
  refine⟨w3,l1++⟨x.n,A',c',x.xs++[v]⟩::l2,h5,h6,⟨?_,?_,?_⟩,fun m=>?_,fun b hm=>?_⟩
  ·rw[List.map_append,List.map_cons]
   have:NE.kv q (⟨x.n,A',c',x.xs++[v]⟩:NE κ α)=(q x.n,.slice A' (x.xs.length+1) c'):=by simp[NE.kv]
   rw[this];exact h7
  ·intro y hy
   rcases List.mem_append.1 hy with hy | hy
   ·exact keep y (by simp[hy]) (fun b hm=>d3 y hy x (by simp) b hm)
   ·rcases List.mem_cons.1 hy with rfl | hy
    ·have:=ho.fr h6 (fun b hm=>by
      rcases hA' b hm with h8 | h8
      ·simpa using hxb x hxm b h8
      ·simp;omega)
     simpa using this
    ·exact keep y (by simp[hy]) (fun b hm hm2=>d4 y hy b hm2 hm)
  ·rw[List.pairwise_append]
   refine⟨d1,List.pairwise_cons.2 ⟨fun y hy b hm hm2=>hnew y (by simp[hy]) (fun b hm hm2=>d4 y hy b hm2 hm) b hm2 hm,d5⟩,fun y hy z hz b hm hm2=>?_⟩
   rcases List.mem_cons.1 hz with rfl | hz
   ·exact hnew y (by simp[hy]) (fun b hm=>d3 y hy x (by simp) b hm) b hm hm2
   ·exact d3 y hy z (by simp[hz]) b hm hm2
  ·by_cases hm:m=x.n
   ·subst hm
    rw[if_pos rfl,getL_app hl1,getL_cons,if_pos rfl]
   ·rw[if_neg hm]
    by_cases hh:∀ y∈l1,y.n≠m
    ·rw[getL_app hh,getL_app hh,getL_cons,getL_cons,if_neg (fun e=>hm e.symm),if_neg (fun e=>hm e.symm)]
    ·exact getL_same hh
  ·unfold blsL at hm ⊢
   rw[List.flatMap_append,List.flatMap_cons] at hm ⊢
   rcases List.mem_append.1 hm with hm | hm
   ·exact .inl (by simp[hm])
   ·rcases List.mem_append.1 hm with hm | hm
    ·rcases hA' b hm with h8 | h8
     ·exact .inl (by simp[h8])
     ·exact .inr h8
    ·exact .inl (by simp[hm])
theorem ML.look {et:TypeId} (hq:∀ a b,q a=q b->a=b) (K:Maps.Keyed P k) (ht:P.underlying t=some (.map k et)) (hz:∀ u:World,(zeroValue et).run P u=.ok (.slice none 0 0) u) (h:ML P k q e size f w r es) (n:κ) {kl:Lit} (hk:keyOf P k (q n)=some kl) :
 ∃ A c,(∀ W,W.heap[r]?=w.heap[r]?->(Instr.lookup t (.map (some r)) (q n) false).run P W=.ok (.slice A (getL es n).length c) W)/\Own w e size A (getL es n).length c ((getL es n).flatMap f)/\∀ b∈blk A,b∈blsL es:=by
 cases hfd:es.find? (fun x=>decide (x.n=n)) with
 | none =>
  have hall:∀ y∈es,y.n≠n:=by simpa using List.find?_eq_none.1 hfd
  rw[getL_none hfd];refine⟨none,0,fun W hW=>?_,Own.nil _ _ _,by simp[blk]⟩
  exact (h.map.at_ hW).look_none K ht hk (by
   intro p hp he;obtain⟨y,hy,rfl⟩:=List.mem_map.1 hp
   exact hall y hy (hq _ _ he)) (hz W) false
 | some x =>
  obtain⟨l1,l2,rfl,rfl,hl1⟩:=find_split hfd;rw[getL_some hfd];refine⟨x.A,x.c,fun W hW=>?_,h.own x (by simp),fun b hm=>List.mem_flatMap.2 ⟨x,by simp,hm⟩⟩;exact (h.map.at_ hW).look_some K ht hk (v:=.slice x.A x.xs.length x.c) (List.mem_map.2 ⟨x,by simp,rfl⟩) false
end
theorem encN_inj {a b:Nm} (h:encN a=encN b):a=b:=by
 obtain⟨s,h1,h2,_⟩:=str_of a;obtain⟨t,h3,h4,_⟩:=str_of b;rw[h1,h3] at h
 injection h with h
 rw[<-h2,<-h4,h]
theorem encO_inj (a b:ON) (h:encO a=encO b):a=b:=by
 unfold encO at h
 injection h with h
 have h2:=congrArg Array.toList h;simp only[List.cons.injEq,Value.int.injEq,true_and,and_true] at h2;obtain⟨h3,h4,h5,h6,h7⟩:=h2
 cases a
 cases b
 simp only at h3 h4 h5 h6 h7;subst h3 h5 h6;rw[encN_inj h4,encN_inj h7]
instance:DecidableEq ON:=fun a b=>if h:a.kind=b.kind/\a.owner=b.owner/\a.number=b.number/\a.index=b.index/\a.text=b.text then .isTrue (by cases a;cases b;simp only at h;obtain⟨rfl,rfl,rfl,rfl,rfl⟩:=h;rfl) else .isFalse (by rintro rfl;exact h ⟨rfl,rfl,rfl,rfl,rfl⟩)
theorem keyOf_check {n:ON} (h:checkO n=0):∃ l,keyOf prog 31 (encO n)=some l:=by
 have hv:=valid_len (valid_of_check h)
 have hkb:kindB n.kind=true:=by
  unfold checkO at h
  by_cases h':kindB n.kind=true
  ·exact h'
  ·rw[if_neg h'] at h
   simp at h
 unfold checkO at h;rw[if_pos hkb] at h
 obtain⟨k,hk,hk21⟩:∃ k:Nat,n.kind.toNat=k/\k<21:=by
  simp only[kindB,decide_eq_true_eq] at hkb;exact⟨n.kind.toNat,rfl,by omega⟩
 rw[hk] at h;have hm:=us_most hk21;obtain⟨z1,z2,z3⟩:=checkU_zero h
 have h2:tE2 (us k) n=false/\tE3 (us k) n=false/\tE4 (us k) n=false:=by
  unfold checkU at h;split at h
  ·simp at h
  split at h
  ·simp at h
  split at h
  ·simp at h
  split at h
  ·simp at h
  ·rename_i a b c d
   exact⟨by simpa using b,by simpa using c,by simpa using d⟩
 have hnum:0<=n.number/\n.number<=9223372036854775807:=by
  cases e:(us k).number with
  | true =>
   have:=z1 e;simp only[withinB,decide_eq_true_eq] at this
   omega
  | false =>
   have:=h2.1;unfold tE2 at this;rw[e] at this;simp at this;omega
 have hidx:0<=n.index/\n.index<=9223372036854775807:=by
  cases e:(us k).index with
  | true =>
   have:=z2 e;simp only[withinB,decide_eq_true_eq] at this
   omega
  | false =>
   have:=h2.2.1;unfold tE3 at this;rw[e] at this;simp at this;omega
 have htx:n.text.length<=1000:=by
  cases e:(us k).text with
  | true =>
   have:=z3 e;simp only[wordB,Bool.and_eq_true,decide_eq_true_eq] at this
   omega
  | false =>
   have:=h2.2.2;unfold tE4 at this;rw[e] at this;have h0:n.text=[]:=by simpa [neB] using this
   rw[h0];simp
 have hkd:0<=n.kind/\n.kind<=21:=by
  simp only[kindB,decide_eq_true_eq] at hkb;omega
 exact keyOf_name (wf_int (by omega) (by omega)) (wf_int (by omega) (by omega)) (wf_int (by omega) (by omega)) (by unfold maxLen;omega) (by unfold maxLen;omega)
section
variable {X Y Z:World} {b pb pl pl' mw mr n c n' c' kk kc kk' kc':Nat} {A A' K K':Option Addr} {cs cs' ks ks':List Value} {kw kr kw' kr':List (Value × Value)} {PW Q:World->Prop}
end
theorem noneV_any (b p:Nat) (w:World) (h:w.cell? ⟨b,0,none⟩=some (.pointer (some ⟨p,0,none⟩))):Calls prog 157 #[.pointer (some ⟨b,0,none⟩)] w fun e w'=>e=.returned (.bool false)/\w=w':=by
 go_enter func157,ntmps157
 go_wp2_with fail
 go_ret
 exact⟨rfl,rfl⟩
theorem info_ver:∃ i,(prog).info? 201=some i/\i.zero=some (.agg #[.int .i64 0,.string ⟨#[]⟩,.bool false])/\i.size=3/\i.bytes=32:=info_parts (by kernel_rfl)
theorem info_stp:∃ i,(prog).info? 86=some i/\i.zero=some (.pointer none)/\i.size=1/\i.bytes=8:=info_parts (by kernel_rfl)
theorem info_int:∃ i,(prog).info? 3=some i/\i.zero=some (.int .i64 0)/\i.size=1/\i.bytes=8:=info_parts (by kernel_rfl)
theorem zero_vers (u:World):(zeroValue 280).run prog u=.ok (.slice none 0 0) u:=by simp[go_sem]
theorem zero_ints (u:World):(zeroValue 36).run prog u=.ok (.slice none 0 0) u:=by simp[go_sem]
structure VX where
 i:Nat
 v:Nm
 a:Bool
def VX.cs (x:VX):List Value:=[.int .i64 (x.i:Int),encN x.v,.bool x.a]
def intC (i:Nat):List Value:=[.int .i64 (i:Int)]
def verOf (i:Nat) (n:ON) (l:List CH):List VX:=(l.filter fun c=>decide (c.n=n)).map fun c=>⟨i,c.v,c.a⟩
def verF:Nat->List AG->ON->List VX
 | _,[],_=>[]
 | i,a::r,n=>verOf i n a.w++verF (i+1) r n
def verL (l:List AG) (n:ON):List VX:=verF 0 l n
theorem verF_snoc (y:AG) (n:ON):∀ (l:List AG) (i:Nat),verF i (l++[y]) n=verF i l n++verOf (i+l.length) n y.w
 | [],i=>by simp[verF]
 | a::r,i=>by
  rw[List.cons_append,verF,verF_snoc y n r (i+1),verF,List.append_assoc,List.length_cons,show i+1+r.length=i+(r.length+1) by omega]
theorem verOf_snoc (i:Nat) (n:ON) (l:List CH) (c:CH):verOf i n (l++[c])=verOf i n l++(if c.n=n then [⟨i,c.v,c.a⟩] else []):=by
 unfold verOf;rw[List.filter_append,List.map_append]
 by_cases h:c.n=n
 ·simp[h]
 ·simp[h]
theorem vx_one (x:VX):∀ u∈x.cs,u.oneCell'=true:=by
 intro u hu;simp only[VX.cs,List.mem_cons,List.not_mem_nil,or_false] at hu
 rcases hu with rfl | rfl | rfl <;> first | rfl | exact encN_one _
def WML (w:World) (r:Nat) (es:List (NE ON VX)):Prop:=ML prog 31 encO 201 3 VX.cs w r es
def IML (w:World) (r:Nat) (es:List (NE ON Nat)):Prop:=ML prog 31 encO 3 1 intC w r es
section
variable {κ α:Type} {P:Program} {k e:TypeId} {q:κ->Value} {size:Nat} {f:α->List Value} {w w':World} {r:Nat} {es:List (NE κ α)} {S:List Nat} {ts:List TypeId}
theorem ML.noT (h:ML P k q e size f w r es) (ht:e ∉ ts):NoT ts w (blsL es):=fun b hb cur e2 z he=>by
 obtain⟨x,hx,hm⟩:=List.mem_flatMap.1 hb;exact NoT.own (h.own x hx) ht b hm cur e2 z he
theorem ML.frT (h:ML P k q e size f w r es) (hf:Fr S w w') (hr:r ∉ S) (hS:NoT [e] w S):ML P k q e size f w' r es :=
 ⟨h.map.fr hf hr,fun x hx=>(h.own x hx).frT hf hS (by simp),h.dj⟩
theorem ML.noMap {k2:TypeId} {r2:Nat} {kvs:List (Value × Value)} (h:ML P k q e size f w r es) (h2:MapIs P k2 w r2 kvs):r2 ∉ blsL es:=fun hb=>by
 obtain⟨x,hx,hm⟩:=List.mem_flatMap.1 hb;obtain⟨es2,clock,h3,_⟩:=h2
 rcases (h.own x hx).2 with ⟨hv,_⟩ | ⟨g,cap,cur,hv,_,hg,_⟩
 ·injection hv with hv;rw[hv] at hm;simp[blk] at hm
 ·injection hv with hv
  rw[hv] at hm;simp only[blk,Option.map_some,Option.toList_some,lms] at hm;subst hm;rw[hg] at h3
  cases h3
end
def VB (b mw mr:Nat) (A K:Option Addr) (ew:List (NE ON VX)) (er:List (NE ON Nat)):List Nat:=b::mw::mr::(blk A++(blk K++(blsL ew++blsL er)))
structure VS (w:World) (b pb pl mw mr:Nat) (A:Option Addr) (c:Nat) (K:Option Addr) (kk kc:Nat) (ks:List Value) (ys:List AX) (ew:List (NE ON VX)) (er:List (NE ON Nat)):Prop where
 box:BoxN w b 196 #[.pointer (some ⟨pb,0,none⟩),.slice A ys.length c,.slice K kk kc,.pointer (some ⟨pl,0,none⟩),.map (some mw),.map (some mr)]
 own:Own w 91 6 A ys.length c (ys.flatMap AX.cs)
 kown:Own w 86 1 K kk kc ks
 wm:WML w mw ew
 rm:IML w mr er
 ne:mw≠mr
section
variable {w w':World} {b pb pl mw mr:Nat} {A:Option Addr} {c:Nat} {K:Option Addr} {kk kc:Nat} {ks:List Value} {ys:List AX} {ew:List (NE ON VX)} {er:List (NE ON Nat)} {S:List Nat}
theorem VS.fr0 (h:VS w b pb pl mw mr A c K kk kc ks ys ew er) (hf:Fr [] w w'):VS w' b pb pl mw mr A c K kk kc ks ys ew er :=
 ⟨h.box.fr hf (by simp),h.own.fr hf (by simp),h.kown.fr hf (by simp),ML.fr0 h.wm hf,ML.fr0 h.rm hf,h.ne⟩
theorem VS.noT (h:VS w b pb pl mw mr A c K kk kc ks ys ew er) {ts:List TypeId} (h1:196 ∉ ts) (h2:91 ∉ ts) (h3:86 ∉ ts) (h4:201 ∉ ts) (h5:3 ∉ ts):NoT ts w (VB b mw mr A K ew er) :=
 (((((NoT.box h.box h1).app (NoT.map h.wm.map)).app (NoT.map h.rm.map)).app (NoT.own h.own h2)).app ((NoT.own h.kown h3).app ((ML.noT h.wm h4).app (ML.noT h.rm h5)))).mem (by
  intro k hk;simp only[VB,List.mem_cons,List.mem_append,lms,List.not_mem_nil,or_false] at hk ⊢
  rcases hk with h | h | h | h | h | h | h <;> simp[h])
theorem VS.noS (h:VS w b pb pl mw mr A c K kk kc ks ys ew er):NoT tyS w (VB b mw mr A K ew er):=h.noT (by decide) (by decide) (by decide) (by decide) (by decide)
theorem VS.lt (h:VS w b pb pl mw mr A c K kk kc ks ys ew er):∀ k∈VB b mw mr A K ew er,k<w.heap.size:=fun k hk=>by
 simp only[VB,List.mem_cons,List.mem_append] at hk
 rcases hk with rfl | rfl | rfl | hk | hk | hk | hk
 ·exact h.box.lt
 ·exact h.wm.map.lt
 ·exact h.rm.map.lt
 ·exact h.own.lt k hk
 ·exact h.kown.lt k hk
 ·exact ML.lt h.wm k hk
 ·exact ML.lt h.rm k hk
theorem VS.putW {ew':List (NE ON VX)} (h:VS w b pb pl mw mr A c K kk kc ks ys ew er) (hf:Fr (mw::blsL ew) w w') (hm:WML w' mw ew'):VS w' b pb pl mw mr A c K kk kc ks ys ew' er:=by
 have hN:∀ ts:List TypeId,201 ∉ ts->NoT ts w (mw::blsL ew):=fun ts ht=>((NoT.map h.wm.map).app (ML.noT h.wm ht)).mem (by simp)
 exact⟨h.box.frT hf (hN [196] (by decide)) (by simp),h.own.frT hf (hN [91] (by decide)) (by simp),h.kown.frT hf (hN [86] (by decide)) (by simp),hm,ML.frT h.rm hf (by
  simp only[List.mem_cons,not_or];exact⟨Ne.symm h.ne,ML.noMap h.wm h.rm.map⟩) (hN [3] (by decide)),h.ne⟩
theorem VS.putR {er':List (NE ON Nat)} (h:VS w b pb pl mw mr A c K kk kc ks ys ew er) (hf:Fr (mr::blsL er) w w') (hm:IML w' mr er'):VS w' b pb pl mw mr A c K kk kc ks ys ew er':=by
 have hN:∀ ts:List TypeId,3 ∉ ts->NoT ts w (mr::blsL er):=fun ts ht=>((NoT.map h.rm.map).app (ML.noT h.rm ht)).mem (by simp)
 exact⟨h.box.frT hf (hN [196] (by decide)) (by simp),h.own.frT hf (hN [91] (by decide)) (by simp),h.kown.frT hf (hN [86] (by decide)) (by simp),ML.frT h.wm hf (by
  simp only[List.mem_cons,not_or];exact⟨h.ne,ML.noMap h.rm h.wm.map⟩) (hN [201] (by decide)),hm,h.ne⟩
theorem VS.putLast {pl':Nat} (h:VS w b pb pl mw mr A c K kk kc ks ys ew er) (hf:Fr [b] w w') (hb:BoxN w' b 196 #[.pointer (some ⟨pb,0,none⟩),.slice A ys.length c,.slice K kk kc,.pointer (some ⟨pl',0,none⟩),.map (some mw),.map (some mr)]):VS w' b pb pl' mw mr A c K kk kc ks ys ew er:=by
 have hN:∀ ts:List TypeId,196 ∉ ts->NoT ts w [b]:=fun ts ht=>NoT.box h.box ht
 have hnm:∀ {k2:TypeId} {r2:Nat} {kvs:List (Value × Value)},MapIs prog k2 w r2 kvs->r2 ∉ [b]:=fun h2 hm=>by
  rw[lms] at hm;obtain⟨es2,clock,h3,_⟩:=h2;rw[hm,show w.heap[b]?=_ from h.box] at h3
  cases h3
 exact⟨hb,h.own.frT hf (hN [91] (by decide)) (by simp),h.kown.frT hf (hN [86] (by decide)) (by simp),ML.frT h.wm hf (hnm h.wm.map) (hN [201] (by decide)),ML.frT h.rm hf (hnm h.rm.map) (hN [3] (by decide)),h.ne⟩
theorem VS.putA {X:World} {A':Option Addr} {c':Nat} {ys':List AX} (h:VS w b pb pl mw mr A c K kk kc ks ys ew er) (f1:Fr (blk A) w X) (ho:Own X 91 6 A' ys'.length c' (ys'.flatMap AX.cs)) (hA:∀ k∈blk A',k∈blk A \/ w.heap.size<=k) (f2:Fr [b] X w')
 (hb:BoxN w' b 196 #[.pointer (some ⟨pb,0,none⟩),.slice A' ys'.length c',.slice K kk kc,.pointer (some ⟨pl,0,none⟩),.map (some mw),.map (some mr)]):VS w' b pb pl mw mr A' c' K kk kc ks ys' ew er:=by
 have hf:Fr (b::blk A) w w':=(f1.mono (fun k hk=>.inl (by simp[hk]))).trans f2 (by simp);have hN:∀ ts:List TypeId,196 ∉ ts->91 ∉ ts->NoT ts w (b::blk A):=fun ts h1 h2=>((NoT.box h.box h1).app (NoT.own h.own h2)).mem (by simp)
 have hnm:∀ {k2:TypeId} {r2:Nat} {kvs:List (Value × Value)},MapIs prog k2 w r2 kvs->r2 ∉ b::blk A:=fun h2 hm=>by
  obtain⟨es2,clock,h3,_⟩:=h2
  rcases List.mem_cons.1 hm with e | hm
  ·rw[e,show w.heap[b]?=_ from h.box] at h3
   cases h3
  ·rcases h.own.2 with ⟨hv,_⟩ | ⟨g,cap,cur,hv,_,hg,_⟩
   ·injection hv with hv;rw[hv] at hm;simp[blk] at hm
   ·injection hv with hv
    rw[hv] at hm;simp only[blk,Option.map_some,Option.toList_some,lms] at hm;rw[hm,hg] at h3
    cases h3
 have hbA:b ∉ blk A':=fun hm=>by
  rcases hA b hm with h1 | h1
  ·have:=NoT.own (ts:=[196]) h.own (by decide) b h1 _ _ _ h.box
   simp at this
  ·have:=h.box.lt;omega
 exact⟨hb,ho.fr f2 (fun k hk=>by simp only[lms];rintro rfl;exact hbA hk),h.kown.frT hf (hN [86] (by decide) (by decide)) (by simp),ML.frT h.wm hf (hnm h.wm.map) (hN [201] (by decide) (by decide)),ML.frT h.rm hf (hnm h.rm.map) (hN [3] (by decide) (by decide)),h.ne⟩
theorem VS.putK {X:World} {K':Option Addr} {kk' kc':Nat} {ks':List Value} (h:VS w b pb pl mw mr A c K kk kc ks ys ew er) (f1:Fr (blk K) w X) (ho:Own X 86 1 K' kk' kc' ks') (hA:∀ k∈blk K',k∈blk K \/ w.heap.size<=k) (f2:Fr [b] X w')
 (hb:BoxN w' b 196 #[.pointer (some ⟨pb,0,none⟩),.slice A ys.length c,.slice K' kk' kc',.pointer (some ⟨pl,0,none⟩),.map (some mw),.map (some mr)]):VS w' b pb pl mw mr A c K' kk' kc' ks' ys ew er:=by
 have hf:Fr (b::blk K) w w':=(f1.mono (fun k hk=>.inl (by simp[hk]))).trans f2 (by simp);have hN:∀ ts:List TypeId,196 ∉ ts->86 ∉ ts->NoT ts w (b::blk K):=fun ts h1 h2=>((NoT.box h.box h1).app (NoT.own h.kown h2)).mem (by simp)
 have hnm:∀ {k2:TypeId} {r2:Nat} {kvs:List (Value × Value)},MapIs prog k2 w r2 kvs->r2 ∉ b::blk K:=fun h2 hm=>by
  obtain⟨es2,clock,h3,_⟩:=h2
  rcases List.mem_cons.1 hm with e | hm
  ·rw[e,show w.heap[b]?=_ from h.box] at h3
   cases h3
  ·rcases h.kown.2 with ⟨hv,_⟩ | ⟨g,cap,cur,hv,_,hg,_⟩
   ·injection hv with hv;rw[hv] at hm;simp[blk] at hm
   ·injection hv with hv
    rw[hv] at hm;simp only[blk,Option.map_some,Option.toList_some,lms] at hm;rw[hm,hg] at h3
    cases h3
 have hbA:b ∉ blk K':=fun hm=>by
  rcases hA b hm with h1 | h1
  ·have:=NoT.own (ts:=[196]) h.kown (by decide) b h1 _ _ _ h.box
   simp at this
  ·have:=h.box.lt;omega
 exact⟨hb,h.own.frT hf (hN [91] (by decide) (by decide)) (by simp),ho.fr f2 (fun k hk=>by simp only[lms];rintro rfl;exact hbA hk),ML.frT h.wm hf (hnm h.wm.map) (hN [201] (by decide) (by decide)),ML.frT h.rm hf (hnm h.rm.map) (hN [3] (by decide) (by decide)),h.ne⟩
end
end Go.Proofs.YtlpmiimgacfmkaaGreatDoor
