/- Maps: a look-up, an update. -/
import Derived.Maps.Keyed
import Derived.MapKept
import Derived.DeepKeys4
import Derived.WideKeyEntry
import Derived.Test.YtlpmiimgacfmkaaGreatDoorRBoxes
set_option linter.all false
namespace Go.Proofs.YtlpmiimgacfmkaaGreatDoor
open Go.RowKit
def MapIs (P:Program) (k:TypeId) (w:World) (r:Nat) (kvs:List (Value × Value)):Prop :=
 ∃ es clock,w.heap[r]?=some (.map es clock)∧MapKept.Stamped es clock∧(∀ x∈es.toList,∃ l,keyOf P k x.key=some l)∧es.toList.map (fun x=>(x.key,x.val))=kvs
section
variable {P:Program} {w w':World} {t k e:TypeId} {r:Nat} {key z v:Value} {kl:Lit} {kvs:List (Value × Value)}
theorem MapIs.at_ (h:MapIs P k w r kvs) (hh:w'.heap[r]?=w.heap[r]?):MapIs P k w' r kvs:=by
 obtain⟨es,clock,h1,h2⟩:=h
 exact⟨es,clock,hh.trans h1,h2⟩
theorem MapIs.lt (h:MapIs P k w r kvs):r<w.heap.size:=by
 obtain⟨es,clock,h1,_⟩:=h
 exact (Array.getElem?_eq_some_iff.1 h1).1
theorem MapIs.new (w:World):MapIs P k (w.alloc (.map #[] 0)) w.heap.size []:=⟨#[],0,(MapKept.heap_alloc w _).1,MapKept.stamped_empty 0,by simp,rfl⟩
theorem MapIs.look_none (K:Maps.Keyed P k) (ht:P.underlying t=some (.map k e)) (h:MapIs P k w r kvs) (hkey:keyOf P k key=some kl) (hn:∀ p∈kvs,p.1≠key) (hz:(zeroValue e).run P w=.ok z w) (c:Bool) :
 (Instr.lookup t (.map (some r)) key c).run P w=.ok (if c then .tuple #[z,.bool false] else z) w:=by
 obtain⟨es,clock,h1,h2,h3,rfl⟩:=h
 rcases K.find w hkey es.toList h3 with ⟨f1,f2⟩ | ⟨j,e0,f1,f2,f3⟩
 ·simp[Instr.lookup,run_underlying ht,MapKept.run_getObj_map h1,K.check w _ hkey,f1,hz,Result.andThen]
 ·exact absurd f3 (hn _ (List.mem_map.2 ⟨e0,List.mem_of_getElem? f2,rfl⟩))
theorem MapIs.look_some (K:Maps.Keyed P k) (ht:P.underlying t=some (.map k e)) (h:MapIs P k w r kvs) (hkey:keyOf P k key=some kl) (hm:(key,v)∈kvs) (c:Bool) :
 (Instr.lookup t (.map (some r)) key c).run P w=.ok (if c then .tuple #[v,.bool true] else v) w:=by
 obtain⟨es,clock,h1,h2,h3,rfl⟩:=h
 obtain⟨x,hx,he⟩:=List.mem_map.1 hm
 injection he with he1 he2
 rcases K.find w hkey es.toList h3 with ⟨f1,f2⟩ | ⟨j,e0,f1,f2,f3⟩
 ·exact absurd he1 (f2 x hx)
 ·have hv:e0.val=v:=by
   have h0:=List.mem_of_getElem? f2
   have hp:=List.pairwise_map.1 h2.2.2
   obtain⟨j2,hj2⟩:=List.mem_iff_getElem?.1 hx
   have hjj:j=j2:=by
    have hnd:=h2.2.2
    have a1:(es.toList.map (·.key))[j]?=some key:=by rw[List.getElem?_map,f2,←f3];rfl
    have a2:(es.toList.map (·.key))[j2]?=some key:=by rw[List.getElem?_map,hj2,←he1];rfl
    have b1:=(List.getElem?_eq_some_iff.1 a1)
    have b2:=(List.getElem?_eq_some_iff.1 a2)
    obtain⟨b1l,b1e⟩:=b1
    obtain⟨b2l,b2e⟩:=b2
    exact (List.getElem_inj hnd).1 (b1e.trans b2e.symm)
   subst hjj
   rw[f2] at hj2
   injection hj2 with hj2
   rw[hj2]
   exact he2
  simp[Instr.lookup,run_underlying ht,MapKept.run_getObj_map h1,K.check w _ hkey,f1,Result.andThen,hv]
theorem MapIs.put_new (K:Maps.Keyed P k) (ht:P.underlying t=some (.map k e)) (h:MapIs P k w r kvs) (hkey:keyOf P k key=some kl) (hn:∀ p∈kvs,p.1≠key) :
 ∃ w',(Instr.mapUpdate t (.map (some r)) key v).run P w=.ok () w'∧Fr [r] w w'∧MapIs P k w' r (kvs++[(key,v)]):=by
 obtain⟨es,clock,h1,h2,h3,rfl⟩:=h
 rcases K.find w hkey es.toList h3 with ⟨f1,f2⟩ | ⟨j,e0,f1,f2,f3⟩
 ·refine⟨{ w with heap:=w.heap.setIfInBounds r (.map (es.push { key:=key,val:=v,born:=clock }) (clock+1)) },by simp[Instr.mapUpdate,run_underlying ht,MapKept.run_getObj_map h1,K.check w _ hkey,f1,MapKept.run_setObj_map _ h1,Result.andThen],⟨rfl,rfl,rfl,by simp,fun j _ hj=>(MapKept.heap_set h1).2 j (by simpa using hj)⟩,_,_,(MapKept.heap_set h1).1,MapKept.stamped_push h2 f2,?_,?_⟩
  ·intro x hx
   simp only[Array.toList_push,List.mem_append,List.mem_singleton] at hx
   rcases hx with hx | rfl
   ·exact h3 x hx
   ·exact⟨kl,hkey⟩
  ·simp
 ·exact absurd f3 (hn _ (List.mem_map.2 ⟨e0,List.mem_of_getElem? f2,rfl⟩))
end
section
variable {P:Program} {w w':World} {k:TypeId} {r:Nat} {S:List Nat} {kvs:List (Value × Value)}
theorem MapIs.fr (h:MapIs P k w r kvs) (hf:Fr S w w') (hS:r ∉ S):MapIs P k w' r kvs:=h.at_ (hf.block r h.lt hS)
end
theorem key_name:Maps.Keyed Tryz.prog 31:=Maps.Keyed.of_law (deep_law (m:=4) (by omega) (by kernel_rfl) (by kernel_rfl) (by kernel_rfl))
theorem key_part:Maps.Keyed Tryz.prog 270:=Maps.Keyed.of_law (deep_law (m:=4) (by omega) (by kernel_rfl) (by kernel_rfl) (by kernel_rfl))
theorem key_int:Maps.Keyed Tryz.prog 3:=Maps.int_keyed (q:=.i64) Tryz.underlying3
def portV (i:Int):Value:=.agg #[.int .i64 16,.string ⟨#[]⟩,.int .i64 i,.int .i64 0,.string ⟨#[]⟩]
theorem keyOf_port1:∃ l,keyOf Tryz.prog 31 (portV 1)=some l:=Option.isSome_iff_exists.1 (by kernel_rfl)
theorem keyOf_port2:∃ l,keyOf Tryz.prog 31 (portV 2)=some l:=Option.isSome_iff_exists.1 (by kernel_rfl)
theorem keyOf_port3:∃ l,keyOf Tryz.prog 31 (portV 3)=some l:=Option.isSome_iff_exists.1 (by kernel_rfl)
def partV (i j:Int):Value:=.agg #[.int .i64 i,.int .i64 j]
theorem keyOf_part10:∃ l,keyOf Tryz.prog 270 (partV 1 0)=some l:=Option.isSome_iff_exists.1 (by kernel_rfl)
theorem keyOf_part11:∃ l,keyOf Tryz.prog 270 (partV 1 1)=some l:=Option.isSome_iff_exists.1 (by kernel_rfl)
theorem keyOf_part20:∃ l,keyOf Tryz.prog 270 (partV 2 0)=some l:=Option.isSome_iff_exists.1 (by kernel_rfl)
theorem keyOf_int0:∃ l,keyOf Tryz.prog 3 (.int .i64 0)=some l:=Option.isSome_iff_exists.1 (by kernel_rfl)
theorem keyOf_int1:∃ l,keyOf Tryz.prog 3 (.int .i64 1)=some l:=Option.isSome_iff_exists.1 (by kernel_rfl)
section
variable {P:Program} {w w':World} {t k e:TypeId} {r:Nat} {key z v:Value} {kl:Lit} {kvs:List (Value × Value)}
theorem MapIs.entry_new (K:Maps.Keyed P k) (ht:P.underlying t=some (.map k e)) (hz:∀ u:World,(zeroValue e).run P u=.ok z u) (h:MapIs P k w r kvs) (hkey:keyOf P k key=some kl) (hn:∀ p∈kvs,p.1≠key) :
 ∃ st w1,(Instr.mapEntry t (.map (some r)) key).run P w=.ok (.tuple #[z,.int .i64 st]) w1∧Fr [r] w w1∧MapIs P k w1 r (kvs++[(key,z)]) ∧
  ∀ w2 val,w2.heap[r]?=w1.heap[r]?→∃ w3,(Instr.entryStore t (.map (some r)) (.int .i64 st) val).run P w2=.ok () w3∧Fr [r] w2 w3∧MapIs P k w3 r (kvs++[(key,val)]):=by
 obtain⟨es,clock,h1,h2,h3,rfl⟩:=h
 rcases K.find w hkey es.toList h3 with ⟨f1,f2⟩ | ⟨j,e0,f1,f2,f3⟩
 ·have hkeys:∀ u:Value,∀ x∈(es.push ⟨key,u,clock⟩).toList,∃ l,keyOf P k x.key=some l:=by
   intro u x hx
   simp only[Array.toList_push,List.mem_append,List.mem_singleton] at hx
   rcases hx with hx | rfl
   ·exact h3 x hx
   ·exact⟨kl,hkey⟩
  refine⟨((clock:Nat):Int),{ w with heap:=w.heap.setIfInBounds r (.map (es.push ⟨key,z,clock⟩) (clock+1)) },?_,⟨rfl,rfl,rfl,by simp,fun j _ hj=>(MapKept.heap_set h1).2 j (by simpa using hj)⟩,⟨_,_,(MapKept.heap_set h1).1,MapKept.stamped_push h2 f2,hkeys z,by simp⟩,fun w2 val hw2=>?_⟩
  ·simp[Instr.mapEntry,run_underlying ht,MapKept.run_getObj_map h1,K.check w false hkey,f1,hz,goInt,MapKept.run_setObj_map _ h1,Result.andThen]
  ·have hw3:w2.heap[r]?=some (.map (es.push ⟨key,z,clock⟩) (clock+1)):=hw2.trans (MapKept.heap_set h1).1
   have hidx:(es.push ⟨key,z,clock⟩).findIdx? (fun e=>((e.born:Nat):Int) == ((clock:Nat):Int))=some es.size:=by
    rw[WideElems.findIdx_arr]
    have:=WideElems.findIdx_born (l:=(es.push ⟨key,z,clock⟩).toList) (j:=es.size) (e0:=⟨key,z,clock⟩) (by
     simp only[Array.toList_push,List.map_append,List.map_cons,List.map_nil]
     refine List.nodup_append.2 ⟨h2.2.1,by simp,fun a ha c hc e1=>?_⟩
     simp only[List.mem_singleton] at hc
     obtain⟨x,hx,rfl⟩:=List.mem_map.1 ha
     have:=h2.1 x hx
     omega) (by simp)
    exact this
   have hmod:(es.push ⟨key,z,clock⟩).modify es.size (fun e=>{ e with val:=val })=es.push ⟨key,val,clock⟩:=by
    apply Array.ext'
    rw[Array.toList_modify,Array.toList_push,Array.toList_push,←Array.length_toList,WideElems.modify_last]
   refine⟨{ w2 with heap:=w2.heap.setIfInBounds r (.map (es.push ⟨key,val,clock⟩) (clock+1)) },?_,⟨rfl,rfl,rfl,by simp,fun j _ hj=>(MapKept.heap_set hw3).2 j (by simpa using hj)⟩,_,_,(MapKept.heap_set hw3).1,MapKept.stamped_push h2 f2,hkeys val,by simp⟩
   simp[Instr.entryStore,MapKept.run_getObj_map hw3,asInt,asIntOf,hidx,hmod,MapKept.run_setObj_map _ hw3,Result.andThen]
 ·exact absurd f3 (hn _ (List.mem_map.2 ⟨e0,List.mem_of_getElem? f2,rfl⟩))
end
end Go.Proofs.YtlpmiimgacfmkaaGreatDoor
