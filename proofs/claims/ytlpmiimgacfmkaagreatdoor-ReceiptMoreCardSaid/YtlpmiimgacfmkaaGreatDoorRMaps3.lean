/- Part of the proof. -/
import Derived.Test.YtlpmiimgacfmkaaGreatDoorRGq
set_option linter.all false
namespace Go.Proofs.YtlpmiimgacfmkaaGreatDoor
open Go.Proofs.Tryz
open Go.RowKit
section
variable {P:Program} {w w':World} {t k e:TypeId} {r:Nat} {key v0:Value} {kl:Lit} {l1 l2:List (Value × Value)}
theorem MapIs.entry_old(K:Maps.Keyed P k)(ht:P.underlying t=some (.map k e))(h:MapIs P k w r (l1++(key,v0)::l2))(hkey:keyOf P k key=some kl):
 ∃st w1,(Instr.mapEntry t (.map (some r)) key).run P w=.ok (.tuple #[v0,.int .i64 st]) w1/\Fr [r] w w1/\MapIs P k w1 r (l1++(key,v0)::l2) /\
  ∀w2 val,w2.heap[r]?=w1.heap[r]?->∃w3,(Instr.entryStore t (.map (some r)) (.int .i64 st) val).run P w2=.ok () w3/\Fr [r] w2 w3/\MapIs P k w3 r (l1++(key,val)::l2):=by
 obtain⟨es,clock,h1,h2,h3,h4⟩:=h;have hkk:es.toList.map (·.key)=(l1++(key,v0)::l2).map (·.1):=by rw[<-h4,List.map_map];rfl
 rcases K.find w hkey es.toList h3 with⟨f1,f2⟩|⟨j,e0,f1,f2,f3⟩
 ·have:key∈es.toList.map (·.key):=by rw[hkk];simp
  obtain⟨x,hx,he⟩:=List.mem_map.1 this;exact absurd he (f2 x hx)
 ·have hj:es[j]?=some e0:=by simpa using f2
  have hjl:j=l1.length:=by
   have hnd:=h2.2.2;have a1:(es.toList.map (·.key))[j]?=some key:=by rw[List.getElem?_map,f2,<-f3];rfl
   have a2:(es.toList.map (·.key))[l1.length]?=some key:=by rw[hkk,List.getElem?_map];simp
   obtain⟨b1l,b1e⟩:=i9.1 a1;obtain⟨b2l,b2e⟩:=i9.1 a2;exact(List.getElem_inj hnd).1 (b1e.trans b2e.symm)
  have hv:e0.val=v0:=by
   have a1:(es.toList.map (λx=>(x.key,x.val)))[j]?=some (e0.key,e0.val):=by rw[List.getElem?_map,f2];rfl
   rw[h4,hjl]at a1;simp at a1;exact a1.2.symm
  have hmod:(es.modify j λe=>{ e with key:=key })=es:=by
   apply Array.ext_getElem?
   intro i;rw[Array.getElem?_modify];split
   ·rename_i he
    subst he;rw[hj]
    cases e0
    simp only at f3;subst f3;rfl
   ·rfl
  refine⟨((e0.born:Nat):Int),{ w with heap:=w.heap.setIfInBounds r (.map es clock) },by simp[Instr.mapEntry,run_underlying ht,MapKept.run_getObj_map h1,K.check w false hkey,f1,hv,hj,f3,K.stays w hkey,hmod,goInt,MapKept.run_setObj_map _ h1,Result.andThen],⟨rfl,rfl,rfl,by simp,λi _ hi=>(MapKept.heap_set h1).2 i (by simpa using hi)⟩,⟨es,clock,(MapKept.heap_set h1).1,h2,h3,h4⟩,λw2 val hw2=>?_⟩;have hw3:w2.heap[r]?=some (.map es clock):=hw2.trans (MapKept.heap_set h1).1
  have hidx:es.findIdx? (λe=>((e.born:Nat):Int) == ((e0.born:Nat):Int))=some j:=by
   rw[WideElems.findIdx_arr];exact WideElems.findIdx_born h2.2.1 f2
  refine⟨{ w2 with heap:=w2.heap.setIfInBounds r (.map (es.modify j λe=>{ e with val:=val }) clock) },?_,⟨rfl,rfl,rfl,by simp,λi _ hi=>(MapKept.heap_set hw3).2 i (by simpa using hi)⟩,_,_,(MapKept.heap_set hw3).1,?_,?_,?_⟩
  ·simp[Instr.entryStore,MapKept.run_getObj_map hw3,asInt,asIntOf,hidx,MapKept.run_setObj_map _ hw3,Result.andThen]
  ·exact MapKept.stamped_modify h2 j _ (λ_ _=>rfl) (λe he hje=>rfl)
  ·intro x hx
   rcases MapFrom.mem_modify hx with hx|⟨y,hy,rfl⟩
   ·exact h3 x hx
   ·exact h3 y (by simpa using iu (show es.toList[j]?=some y by simpa using hy))
  ·rw[Array.toList_modify]
   apply List.ext_getElem?
   intro i;have h4i:=congrArg (·[i]?) h4;simp only[List.getElem?_map]at h4i ⊢;rw[List.getElem?_modify];subst hjl
   by_cases hi:l1.length=i
   ·subst hi
    rw[f2];simp[f3]
   ·have hL:(l1++(key,val)::l2)[i]?=(l1++(key,v0)::l2)[i]?:=by
     rw[List.getElem?_append,List.getElem?_append];split
     ·rfl
     ·rename_i h0
      obtain⟨m,hm⟩:∃m,i - l1.length=m+1:=⟨i - l1.length - 1,by omega⟩;rw[hm];rfl
    rw[hL,<-h4i];simp[hi]
end
structure NE(κ α:Type) where
 n:κ
 A:Option Addr
 c:Nat
 xs:List α
section
variable {κ α:Type} [DecidableEq κ]
def NE.kv(q:κ->Value)(x:NE κ α):Value × Value:=(q x.n,.slice x.A x.xs.length x.c)
def gJ(es:List (NE κ α))(n:κ):List α:=match es.find? (λx=>decide (x.n=n))with|some x=>x.xs|none=>[]
def gj(es:List (NE κ α)):List Nat:=es.flatMap λx=>eV x.A
structure ML(P:Program)(k:TypeId)(q:κ->Value)(e:TypeId)(size:Nat)(f:α->List Value)(w:World)(r:Nat)(es:List (NE κ α)):Prop where
 map:MapIs P k w r (es.map (NE.kv q))
 own:∀x∈es,Own w e size x.A x.xs.length x.c (x.xs.flatMap f)
 dj:es.Pairwise λx y=>∀b∈eV x.A,b ∉ eV y.A
variable {P:Program} {k e t:TypeId} {q:κ->Value} {size:Nat} {f:α->List Value} {w w':World} {r:Nat} {es:List (NE κ α)} {S:List Nat}
theorem ML.fr0(h:ML P k q e size f w r es)(a:Fr [] w w'):ML P k q e size f w' r es:=⟨h.map.fr a qs,λx b=>(h.own x b).fr a qs,h.dj⟩
theorem ML.lt(h:ML P k q e size f w r es):∀b∈gj es,b<w.heap.size:=λb a=>by
 obtain⟨x,d,c⟩:=List.mem_flatMap.1 a;exact(h.own x d).lt b c
theorem ML.nil(h:MapIs P k w r []):ML P k q e size f w r ([]:List (NE κ α)):=⟨h,qs,List.Pairwise.nil⟩
theorem ML.rb(h:ML P k q e size f w r es):r ∉ gj es:=λc=>by
 obtain⟨x,i,b⟩:=List.mem_flatMap.1 c;have:=NoT.map (ts:=[e]) h.map
 rcases (h.own x i).2 with⟨a,_⟩|⟨g,j,l,a,_,d,_⟩
 ·injection a with a;rw[a]at b;simp[eV]at b
 ·injection a with a
  rw[a]at b;simp only[eV,Option.map_some,Option.toList_some,gI]at b;subst b;exact this r qs _ _ _ d qs
theorem nv:∀ {es:List (NE κ α)} {n:κ} {x:NE κ α},es.find? (λx=>decide (x.n=n))=some x->∃l1 l2,es=l1++x::l2/\x.n=n/\∀y∈l1,y.n≠n
 | [],n,x,h=>by simp at h
 | y::es,n,x,h=>by
  by_cases a:y.n=n
  ·rw[List.find?_cons_of_pos (by simpa using a)]at h
   injection h with h
   subst h;exact⟨[],es,rfl,a,qs⟩
  ·rw[List.find?_cons_of_neg (by simpa using a)]at h
   obtain⟨l1,l2,rfl,c,d⟩:=nv h;exact⟨y::l1,l2,rfl,c,by intro z b;rcases List.mem_cons.1 b with rfl|b;exact a;exact d z b⟩
def BG(P:Program)(t k:TypeId)(q:κ->Value)(e:TypeId)(size:Nat)(f:α->List Value)(w:World)(r:Nat)(es:List (NE κ α))(n:κ):Prop :=
 ∃h A c a,(Instr.mapEntry t (.map (some r)) (q n)).run P w=.ok (.tuple #[.slice A (gJ es n).length c,.int .i64 h]) a/\Fr [r] w a/\Own a e size A (gJ es n).length c ((gJ es n).flatMap f)/\(∀b∈eV A,b∈gj es) /\
  ∀v w2 A' c',Fr (eV A) a w2->Own w2 e size A' ((gJ es n).length+1) c' ((gJ es n).flatMap f++f v)->(∀b∈eV A',b∈eV A \/ a.heap.size<=b) ->
   ∃g d,(Instr.entryStore t (.map (some r)) (.int .i64 h) (.slice A' ((gJ es n).length+1) c')).run P w2=.ok () g/\Fr [r] w2 g/\ML P k q e size f g r d/\(∀m,gJ d m=if m=n then gJ es n++[v]else gJ es m)/\∀b∈gj d,b∈gj es \/ w.heap.size<=b
theorem o8{es:List (NE κ α)}{n:κ}(h:es.find? (λx=>decide (x.n=n))=none):gJ es n=[]:=by unfold gJ;rw[h]
theorem sT{es:List (NE κ α)}{n:κ}{x:NE κ α}(h:es.find? (λx=>decide (x.n=n))=some x):gJ es n=x.xs:=by unfold gJ;rw[h]
theorem l9{l1 l2:List (NE κ α)}{n:κ}(h:∀y∈l1,y.n≠n):gJ (l1++l2) n=gJ l2 n:=by
 unfold gJ;rw[List.find?_append,List.find?_eq_none.2 (by simpa using h)];rfl
theorem sU{l1 l2 l3:List (NE κ α)}{n:κ}(h:¬∀y∈l1,y.n≠n):gJ (l1++l2) n=gJ (l1++l3) n:=by
 unfold gJ;rw[List.find?_append,List.find?_append]
 cases a:l1.find? (λx=>decide (x.n=n))with
 | none=>exact absurd (by simpa using List.find?_eq_none.1 a) h
 | some x=>rfl
theorem lh(x:NE κ α)(l:List (NE κ α))(n:κ):gJ (x::l) n=if x.n=n then x.xs else gJ l n:=by
 unfold gJ
 by_cases h:x.n=n
 ·rw[List.find?_cons_of_pos (by simpa using h),if_pos h]
 ·rw[List.find?_cons_of_neg (by simpa using h),if_neg h]
theorem ML.step{Z:TypeId}(hq:∀a b,q a=q b->a=b)(X:Maps.Keyed P k)(ht:P.underlying t=some (.map k Z))(H:∀u:World,(zeroValue Z).run P u=.ok (.slice none 0 0) u)(h:ML P k q e size f w r es)(n:κ){kl:Lit}(hk:keyOf P k (q n)=some kl):BG P t k q e size f w r es n:=by
 have ah:=h.map.lt;have ad:=h.rb
 cases I:es.find? (λx=>decide (x.n=n))with
 | none =>
  have aa:∀y∈es,y.n≠n:=by simpa using List.find?_eq_none.1 I
  obtain⟨V,W,L,o,M,N⟩:=MapIs.entry_new X ht H h.map hk (by
   intro p hp E;obtain⟨y,g,rfl⟩:=List.mem_map.1 hp;exact aa y g (hq _ _ E))
  unfold BG;rw[o8 I];refine⟨V,none,0,W,L,o,Own.nil _ _ _,by simp[eV],λv w2 A' c' F U R=>?_⟩;obtain⟨J,O,B,Q⟩:=N w2 (.slice A' (0+1) c') (F.block r M.lt (by simp[eV]));have ag:=o.size
  have C:∀b∈eV A',w.heap.size<=b:=λb d=>by
   rcases R b d with h|h
   ·simp[eV]at h
   ·omega
  refine⟨J,es++[⟨n,A',c',[v]⟩],O,B,⟨?_,?_,?_⟩,λm=>?_,λb d=>?_⟩
  ·rw[List.map_append];exact Q
  ·intro x l
   rcases List.mem_append.1 l with l|l
   ·have s:∀b∈eV x.A,b≠r:=λb d E=>ad (List.mem_flatMap.2 ⟨x,l,by rw[<-E];exact d⟩)
    exact(((h.own x l).fr o (λb d=>by simpa using s b d)).fr F (by simp[eV])).fr B (λb d=>by simpa using s b d)
   ·rw[gI]at l
    subst l;have:=U.fr B (λb d=>by have:=C b d;simp;omega);simpa using this
  ·rw[List.pairwise_append]
   refine⟨h.dj,List.pairwise_singleton _ _,λx l y g b d i=>?_⟩;rw[gI]at g;subst g;have j:=C b i;have h9:=h.lt b (List.mem_flatMap.2 ⟨x,l,d⟩);omega
  ·by_cases d:m=n
   ·subst d
    rw[if_pos rfl,l9 aa,lh,if_pos rfl,List.nil_append]
   ·rw[if_neg d]
    by_cases D:∀y∈es,y.n≠m
    ·rw[l9 D,lh,if_neg (λe=>d e.symm)]
     have:gJ es m=[]:=o8 (List.find?_eq_none.2 (by simpa using D));rw[this];rfl
    ·have:=sU (l2:=[⟨n,A',c',[v]⟩]) (l3:=[]) D
     rw[this,List.append_nil]
  ·unfold gj at d
   rw[List.flatMap_append]at d
   rcases List.mem_append.1 d with d|d
   ·exact .inl d
   ·simp only[List.flatMap_cons,List.flatMap_nil,List.append_nil]at d
    exact .inr (C b d)
 | some x =>
  obtain⟨l1,l2,rfl,rfl,af⟩:=nv I;have ab:=h.map;rw[List.map_append,List.map_cons]at ab;obtain⟨V,W,L,o,M,N⟩:=MapIs.entry_old X ht ab hk;unfold BG;rw[sT I];have G:x∈l1++x::l2:=qs
  have s:∀y∈l1++x::l2,∀b∈eV y.A,b≠r:=λy g b d E=>ad (List.mem_flatMap.2 ⟨y,g,by rw[<-E];exact d⟩);have ag:=o.size;refine⟨V,x.A,x.c,W,L,o,(h.own x G).fr o (λb d=>by simpa using s x G b d),λb d=>List.mem_flatMap.2 ⟨x,G,d⟩,λv w2 A' c' F U R=>?_⟩;obtain⟨J,O,B,Q⟩:=N w2 (.slice A' (x.xs.length+1) c') (F.block r M.lt (λd=>s x G r d rfl));have C:∀b∈eV A',b∈eV x.A \/ w.heap.size<=b:=λb d=>(R b d).imp id (λh=>by omega);obtain⟨d1,d2,K⟩:=List.pairwise_append.1 h.dj;obtain⟨Y,d5⟩:=List.pairwise_cons.1 d2
  have ae:∀y∈l1++x::l2,(∀b∈eV y.A,b ∉ eV x.A)->Own J e size y.A y.xs.length y.c (y.xs.flatMap f):=λy g T =>
   (((h.own y g).fr o (λb d=>by simpa using s y g b d)).fr F T).fr B (λb d=>by simpa using s y g b d)
  have ac:∀y∈l1++x::l2,(∀b∈eV y.A,b ∉ eV x.A)->∀b∈eV y.A,b ∉ eV A':=λy g T b d i=>by
   rcases C b i with j|j
   ·exact T b d j
   ·have h9:=h.lt b (List.mem_flatMap.2 ⟨y,g,d⟩)
    omega
  refine⟨J,l1++⟨x.n,A',c',x.xs++[v]⟩::l2,O,B,⟨?_,?_,?_⟩,λm=>?_,λb d=>?_⟩
  ·rw[List.map_append,List.map_cons]
   have:NE.kv q (⟨x.n,A',c',x.xs++[v]⟩:NE κ α)=(q x.n,.slice A' (x.xs.length+1) c'):=by simp[NE.kv]
   rw[this];exact Q
  ·intro y g
   rcases List.mem_append.1 g with g|g
   ·exact ae y (by simp[g]) (λb d=>K y g x qs b d)
   ·rcases List.mem_cons.1 g with rfl|g
    ·have:=U.fr B (λb d=>by
      rcases C b d with j|j
      ·simpa using s x G b j
      ·simp;omega)
     simpa using this
    ·exact ae y (by simp[g]) (λb d i=>Y y g b i d)
  ·rw[List.pairwise_append]
   refine⟨d1,List.pairwise_cons.2 ⟨λy g b d i=>ac y (by simp[g]) (λb d i=>Y y g b i d) b i d,d5⟩,λy g z H b d i=>?_⟩
   rcases List.mem_cons.1 H with rfl|H
   ·exact ac y (by simp[g]) (λb d=>K y g x qs b d) b d i
   ·exact K y g z (by simp[H]) b d i
  ·by_cases d:m=x.n
   ·subst d
    rw[if_pos rfl,l9 af,lh,if_pos rfl]
   ·rw[if_neg d]
    by_cases D:∀y∈l1,y.n≠m
    ·rw[l9 D,l9 D,lh,lh,if_neg (λe=>d e.symm),if_neg (λe=>d e.symm)]
    ·exact sU D
  ·unfold gj at d ⊢
   rw[List.flatMap_append,List.flatMap_cons]at d ⊢
   rcases List.mem_append.1 d with d|d
   ·exact .inl (by simp[d])
   ·rcases List.mem_append.1 d with d|d
    ·rcases C b d with j|j
     ·exact .inl (by simp[j])
     ·exact .inr j
    ·exact .inl (by simp[d])
theorem ML.look{i:TypeId}(B:∀a b,q a=q b->a=b)(K:Maps.Keyed P k)(l:P.underlying t=some (.map k i))(D:∀u:World,(zeroValue i).run P u=.ok (.slice none 0 0) u)(h:ML P k q e size f w r es)(n:κ){kl:Lit}(j:keyOf P k (q n)=some kl):
 ∃g c,(∀W,W.heap[r]?=w.heap[r]?->(Instr.lookup t (.map (some r)) (q n) false).run P W=.ok (.slice g (gJ es n).length c) W)/\Own w e size g (gJ es n).length c ((gJ es n).flatMap f)/\∀b∈eV g,b∈gj es:=by
 cases d:es.find? (λx=>decide (x.n=n))with
 | none =>
  have m:∀y∈es,y.n≠n:=by simpa using List.find?_eq_none.1 d
  rw[o8 d];refine⟨none,0,λW hW=>?_,Own.nil _ _ _,by simp[eV]⟩
  exact(h.map.at_ hW).look_none K l j (by
   intro p z o;obtain⟨y,C,rfl⟩:=List.mem_map.1 z
   exact m y C (B _ _ o)) (D W) false
 | some x =>
  obtain⟨l1,l2,rfl,rfl,E⟩:=nv d;rw[sT d];refine⟨x.A,x.c,λW hW=>?_,h.own x qs,λb s=>List.mem_flatMap.2 ⟨x,qs,s⟩⟩;exact(h.map.at_ hW).look_some K l j (v:=.slice x.A x.xs.length x.c) (List.mem_map.2 ⟨x,qs,rfl⟩) false
end
theorem uW{a b:Nm}(h:ft a=ft b):a=b:=by
 obtain⟨s,c,d,_⟩:=eT a;obtain⟨t,g,i,_⟩:=eT b;rw[c,g]at h
 injection h with h
 rw[<-d,<-i,h]
theorem ir(a b:ON)(h:fg a=fg b):a=b:=by
 unfold fg at h
 injection h with h
 have c:=congrArg Array.toList h;simp only[List.cons.injEq,Value.int.injEq,true_and,and_true]at c;obtain⟨d,g,i,j,l⟩:=c
 cases a
 cases b
 simp only at d g i j l;subst d i j;rw[uW g,uW l]
instance:DecidableEq ON:=λa b=>if h:a.kind=b.kind/\a.owner=b.owner/\a.number=b.number/\a.index=b.index/\a.text=b.text then .isTrue (by cases a;cases b;simp only at h;obtain⟨rfl,rfl,rfl,rfl,rfl⟩:=h;rfl)else .isFalse (by rintro rfl;exact h ⟨rfl,rfl,rfl,rfl,rfl⟩)
theorem fU{n:ON}(h:eX n=0):∃l,keyOf prog 31 (fg n)=some l:=by
 have C:=iq (fi h)
 have i:iP n.kind=true:=by
  unfold eX at h
  by_cases j:iP n.kind=true
  ·exact j
  ·rw[if_neg j]at h
   simp at h
 unfold eX at h;rw[if_pos i]at h
 obtain⟨k,o,p⟩:∃k:Nat,n.kind.toNat=k/\k<21:=by
  simp only[iP,decide_eq_true_eq]at i;exact⟨n.kind.toNat,rfl,qo⟩
 rw[o]at h;have z:=mM p;obtain⟨s,u,v⟩:=jr h
 have g:Ek (us k) n=false/\EC (us k) n=false/\Fa (us k) n=false:=by
  unfold kT at h;split at h
  ·simp at h
  split at h
  ·simp at h
  split at h
  ·simp at h
  split at h
  ·simp at h
  ·rename_i a b c d
   exact⟨by simpa using b,by simpa using c,by simpa using d⟩
 have A:0<=n.number/\n.number<=9223372036854775807:=by
  cases e:(us k).number with
  | true =>
   have:=s e;simp only[fO,decide_eq_true_eq]at this
   omega
  | false =>
   have:=g.1;unfold Ek at this;rw[e]at this;simp at this;omega
 have x:0<=n.index/\n.index<=9223372036854775807:=by
  cases e:(us k).index with
  | true =>
   have:=u e;simp only[fO,decide_eq_true_eq]at this
   omega
  | false =>
   have:=g.2.1;unfold EC at this;rw[e]at this;simp at this;omega
 have B:n.text.length<=1000:=by
  cases e:(us k).text with
  | true =>
   have:=v e;simp only[jB,Bool.and_eq_true,decide_eq_true_eq]at this
   omega
  | false =>
   have:=g.2.2;unfold Fa at this;rw[e]at this;have m:n.text=[]:=by simpa [qg]using this
   rw[m];simp
 have y:0<=n.kind/\n.kind<=21:=by
  simp only[iP,decide_eq_true_eq]at i;omega
 exact xA (jF qo qo) (jF qo qo) (jF qo qo) (by unfold maxLen;omega) (by unfold maxLen;omega)
section
variable {X Y Z:World} {b pb pl pl' mw mr n c n' c' kk kc kk' kc':Nat} {A A' K K':Option Addr} {cs cs' ks ks':List Value} {kw kr kw' kr':List (Value × Value)} {PW Q:World->Prop}
end
theorem o9(b p:Nat)(w:World)(h:w.cell? ⟨b,0,none⟩=some (.pointer (some ⟨p,0,none⟩))):Calls prog 157 #[.pointer (some ⟨b,0,none⟩)] w λe w'=>e=.returned (.bool false)/\w=w':=by
 go_enter func157,ntmps157
 go_wp2_with fail
 go_ret
 exact⟨rfl,rfl⟩
theorem uX:∃i,(prog).info? 201=some i/\i.zero=some (.agg #[.int .i64 0,.string ⟨#[]⟩,.bool false])/\i.size=3/\i.bytes=32:=info_parts qk
theorem BH:∃i,(prog).info? 86=some i/\i.zero=some (.pointer none)/\i.size=1/\i.bytes=8:=info_parts qk
theorem kt:∃i,(prog).info? 3=some i/\i.zero=some (.int .i64 0)/\i.size=1/\i.bytes=8:=info_parts qk
theorem sV(u:World):(zeroValue 280).run prog u=.ok (.slice none 0 0) u:=by simp[go_sem]
theorem pa(u:World):(zeroValue 36).run prog u=.ok (.slice none 0 0) u:=by simp[go_sem]
structure VX where
 i:Nat
 v:Nm
 a:Bool
def VX.cs(x:VX):List Value:=[.int .i64 (x.i:Int),ft x.v,.bool x.a]
def zy(i:Nat):List Value:=[.int .i64 (i:Int)]
def i7(i:Nat)(n:ON)(l:List CH):List VX:=(l.filter λc=>decide (c.n=n)).map λc=>⟨i,c.v,c.a⟩
def mP:Nat->List AG->ON->List VX
 | _,[],_=>[]
 | i,a::r,n=>i7 i n a.w++mP (i+1) r n
def oz(l:List AG)(n:ON):List VX:=mP 0 l n
theorem pk(y:AG)(n:ON):∀(l:List AG) (i:Nat),mP i (l++[y]) n=mP i l n++i7 (i+l.length) n y.w
 | [],i=>by simp[mP]
 | a::r,i=>by
  rw[List.cons_append,mP,pk y n r (i+1),mP,List.append_assoc,List.length_cons,show i+1+r.length=i+(r.length+1) by omega]
theorem rk(i:Nat)(n:ON)(l:List CH)(c:CH):i7 i n (l++[c])=i7 i n l++(if c.n=n then [⟨i,c.v,c.a⟩]else []):=by
 unfold i7;rw[List.filter_append,List.map_append]
 by_cases h:c.n=n
 ·simp[h]
 ·simp[h]
theorem BI(x:VX):∀u∈x.cs,u.oneCell'=true:=by
 intro u a;simp only[VX.cs,List.mem_cons,List.not_mem_nil,or_false]at a
 rcases a with rfl|rfl|rfl <;> first|rfl|exact encN_one _
def Gf(w:World)(r:Nat)(es:List (NE ON VX)):Prop:=ML prog 31 fg 201 3 VX.cs w r es
def EK(w:World)(r:Nat)(es:List (NE ON Nat)):Prop:=ML prog 31 fg 3 1 zy w r es
section
variable {κ α:Type} {P:Program} {k e:TypeId} {q:κ->Value} {size:Nat} {f:α->List Value} {w w':World} {r:Nat} {es:List (NE κ α)} {S:List Nat} {ts:List TypeId}
theorem ML.noT(h:ML P k q e size f w r es)(l:e ∉ ts):NoT ts w (gj es):=λb g a d z i=>by
 obtain⟨x,m,j⟩:=List.mem_flatMap.1 g;exact NoT.own (h.own x m) l b j a d z i
theorem ML.frT(h:ML P k q e size f w r es)(a:Fr S w w')(g:r ∉ S)(d:NoT [e] w S):ML P k q e size f w' r es :=
 ⟨h.map.fr a g,λx i=>(h.own x i).frT a d qs,h.dj⟩
theorem ML.noMap{o:TypeId}{r2:Nat}{p:List (Value × Value)}(i:ML P k q e size f w r es)(j:MapIs P o w r2 p):r2 ∉ gj es:=λl=>by
 obtain⟨x,n,d⟩:=List.mem_flatMap.1 l;obtain⟨u,clock,h,_⟩:=j
 rcases (i.own x n).2 with⟨a,_⟩|⟨g,s,t,a,_,m,_⟩
 ·injection a with a;rw[a]at d;simp[eV]at d
 ·injection a with a
  rw[a]at d;simp only[eV,Option.map_some,Option.toList_some,gI]at d;subst d;rw[m]at h
  cases h
end
def VB(b mw mr:Nat)(A K:Option Addr)(ew:List (NE ON VX))(er:List (NE ON Nat)):List Nat:=b::mw::mr::(eV A++(eV K++(gj ew++gj er)))
structure VS(w:World)(b pb pl mw mr:Nat)(A:Option Addr)(c:Nat)(K:Option Addr)(kk kc:Nat)(ks:List Value)(ys:List AX)(ew:List (NE ON VX))(er:List (NE ON Nat)):Prop where
 box:BoxN w b 196 #[.pointer (some ⟨pb,0,none⟩),.slice A ys.length c,.slice K kk kc,.pointer (some ⟨pl,0,none⟩),.map (some mw),.map (some mr)]
 own:Own w 91 6 A ys.length c (ys.flatMap AX.cs)
 kown:Own w 86 1 K kk kc ks
 wm:Gf w mw ew
 rm:EK w mr er
 ne:mw≠mr
section
variable {w w':World} {b pb pl mw mr:Nat} {A:Option Addr} {c:Nat} {K:Option Addr} {kk kc:Nat} {ks:List Value} {ys:List AX} {ew:List (NE ON VX)} {er:List (NE ON Nat)} {S:List Nat}
theorem VS.fr0(h:VS w b pb pl mw mr A c K kk kc ks ys ew er)(a:Fr [] w w'):VS w' b pb pl mw mr A c K kk kc ks ys ew er :=
 ⟨h.box.fr a qs,h.own.fr a qs,h.kown.fr a qs,ML.fr0 h.wm a,ML.fr0 h.rm a,h.ne⟩
theorem VS.noT(h:VS w b pb pl mw mr A c K kk kc ks ys ew er){ts:List TypeId}(d:196 ∉ ts)(g:91 ∉ ts)(i:86 ∉ ts)(j:201 ∉ ts)(l:3 ∉ ts):NoT ts w (VB b mw mr A K ew er) :=
 (((((NoT.box h.box d).app (NoT.map h.wm.map)).app (NoT.map h.rm.map)).app (NoT.own h.own g)).app ((NoT.own h.kown i).app ((ML.noT h.wm j).app (ML.noT h.rm l)))).mem (by
  intro k a;simp only[VB,List.mem_cons,List.mem_append,gI,List.not_mem_nil,or_false]at a ⊢
  rcases a with h|h|h|h|h|h|h <;> simp[h])
theorem VS.noS(h:VS w b pb pl mw mr A c K kk kc ks ys ew er):NoT sy w (VB b mw mr A K ew er):=h.noT qd qd qd qd qd
theorem VS.lt(h:VS w b pb pl mw mr A c K kk kc ks ys ew er):∀k∈VB b mw mr A K ew er,k<w.heap.size:=λk a=>by
 simp only[VB,List.mem_cons,List.mem_append]at a
 rcases a with rfl|rfl|rfl|a|a|a|a
 ·exact h.box.lt
 ·exact h.wm.map.lt
 ·exact h.rm.map.lt
 ·exact h.own.lt k a
 ·exact h.kown.lt k a
 ·exact ML.lt h.wm k a
 ·exact ML.lt h.rm k a
theorem VS.putW{g:List (NE ON VX)}(h:VS w b pb pl mw mr A c K kk kc ks ys ew er)(d:Fr (mw::gj ew) w w')(i:Gf w' mw g):VS w' b pb pl mw mr A c K kk kc ks ys g er:=by
 have a:∀ts:List TypeId,201 ∉ ts->NoT ts w (mw::gj ew):=λts j=>((NoT.map h.wm.map).app (ML.noT h.wm j)).mem qs
 exact⟨h.box.frT d (a [196] qd) qs,h.own.frT d (a [91] qd) qs,h.kown.frT d (a [86] qd) qs,i,ML.frT h.rm d (by
  simp only[List.mem_cons,not_or];exact⟨Ne.symm h.ne,ML.noMap h.wm h.rm.map⟩) (a [3] qd),h.ne⟩
theorem VS.putR{g:List (NE ON Nat)}(h:VS w b pb pl mw mr A c K kk kc ks ys ew er)(d:Fr (mr::gj er) w w')(i:EK w' mr g):VS w' b pb pl mw mr A c K kk kc ks ys ew g:=by
 have a:∀ts:List TypeId,3 ∉ ts->NoT ts w (mr::gj er):=λts j=>((NoT.map h.rm.map).app (ML.noT h.rm j)).mem qs
 exact⟨h.box.frT d (a [196] qd) qs,h.own.frT d (a [91] qd) qs,h.kown.frT d (a [86] qd) qs,ML.frT h.wm d (by
  simp only[List.mem_cons,not_or];exact⟨h.ne,ML.noMap h.rm h.wm.map⟩) (a [201] qd),i,h.ne⟩
theorem VS.putLast{pl':Nat}(h:VS w b pb pl mw mr A c K kk kc ks ys ew er)(d:Fr [b] w w')(m:BoxN w' b 196 #[.pointer (some ⟨pb,0,none⟩),.slice A ys.length c,.slice K kk kc,.pointer (some ⟨pl',0,none⟩),.map (some mw),.map (some mr)]):VS w' b pb pl' mw mr A c K kk kc ks ys ew er:=by
 have a:∀ts:List TypeId,196 ∉ ts->NoT ts w [b]:=λts n=>NoT.box h.box n
 have j:∀ {o:TypeId} {r2:Nat} {p:List (Value × Value)},MapIs prog o w r2 p->r2 ∉ [b]:=λl i=>by
  rw[gI]at i;obtain⟨s,clock,g,_⟩:=l;rw[i,show w.heap[b]?=_ from h.box]at g
  cases g
 exact⟨m,h.own.frT d (a [91] qd) qs,h.kown.frT d (a [86] qd) qs,ML.frT h.wm d (j h.wm.map) (a [201] qd),ML.frT h.rm d (j h.rm.map) (a [3] qd),h.ne⟩
theorem VS.putA{X:World}{A':Option Addr}{c':Nat}{ys':List AX}(h:VS w b pb pl mw mr A c K kk kc ks ys ew er)(t:Fr (eV A) w X)(z:Own X 91 6 A' ys'.length c' (ys'.flatMap AX.cs))(u:∀k∈eV A',k∈eV A \/ w.heap.size<=k)(p:Fr [b] X w')
 (v:BoxN w' b 196 #[.pointer (some ⟨pb,0,none⟩),.slice A' ys'.length c',.slice K kk kc,.pointer (some ⟨pl,0,none⟩),.map (some mw),.map (some mr)]):VS w' b pb pl mw mr A' c' K kk kc ks ys' ew er:=by
 have n:Fr (b::eV A) w w':=(t.mono (λk o=>.inl (by simp[o]))).trans p qs;have m:∀ts:List TypeId,196 ∉ ts->91 ∉ ts->NoT ts w (b::eV A):=λts i l=>((NoT.box h.box i).app (NoT.own h.own l)).mem qs
 have s:∀ {B:TypeId} {r2:Nat} {C:List (Value × Value)},MapIs prog B w r2 C->r2 ∉ b::eV A:=λl a=>by
  obtain⟨F,clock,j,_⟩:=l
  rcases List.mem_cons.1 a with e|a
  ·rw[e,show w.heap[b]?=_ from h.box]at j
   cases j
  ·rcases h.own.2 with⟨d,_⟩|⟨g,D,E,d,_,y,_⟩
   ·injection d with d;rw[d]at a;simp[eV]at a
   ·injection d with d
    rw[d]at a;simp only[eV,Option.map_some,Option.toList_some,gI]at a;rw[a,y]at j
    cases j
 have x:b ∉ eV A':=λa=>by
  rcases u b a with i|i
  ·have:=NoT.own (ts:=[196]) h.own qd b i _ _ _ h.box
   simp at this
  ·have:=h.box.lt;omega
 exact⟨v,z.fr p (λk o=>by simp only[gI];rintro rfl;exact x o),h.kown.frT n (m [86] qd qd) qs,ML.frT h.wm n (s h.wm.map) (m [201] qd qd),ML.frT h.rm n (s h.rm.map) (m [3] qd qd),h.ne⟩
theorem VS.putK{X:World}{K':Option Addr}{kk' kc':Nat}{ks':List Value}(h:VS w b pb pl mw mr A c K kk kc ks ys ew er)(t:Fr (eV K) w X)(z:Own X 86 1 K' kk' kc' ks')(u:∀k∈eV K',k∈eV K \/ w.heap.size<=k)(p:Fr [b] X w')
 (v:BoxN w' b 196 #[.pointer (some ⟨pb,0,none⟩),.slice A ys.length c,.slice K' kk' kc',.pointer (some ⟨pl,0,none⟩),.map (some mw),.map (some mr)]):VS w' b pb pl mw mr A c K' kk' kc' ks' ys ew er:=by
 have n:Fr (b::eV K) w w':=(t.mono (λk o=>.inl (by simp[o]))).trans p qs;have m:∀ts:List TypeId,196 ∉ ts->86 ∉ ts->NoT ts w (b::eV K):=λts i l=>((NoT.box h.box i).app (NoT.own h.kown l)).mem qs
 have s:∀ {B:TypeId} {r2:Nat} {C:List (Value × Value)},MapIs prog B w r2 C->r2 ∉ b::eV K:=λl a=>by
  obtain⟨F,clock,j,_⟩:=l
  rcases List.mem_cons.1 a with e|a
  ·rw[e,show w.heap[b]?=_ from h.box]at j
   cases j
  ·rcases h.kown.2 with⟨d,_⟩|⟨g,D,E,d,_,y,_⟩
   ·injection d with d;rw[d]at a;simp[eV]at a
   ·injection d with d
    rw[d]at a;simp only[eV,Option.map_some,Option.toList_some,gI]at a;rw[a,y]at j
    cases j
 have x:b ∉ eV K':=λa=>by
  rcases u b a with i|i
  ·have:=NoT.own (ts:=[196]) h.kown qd b i _ _ _ h.box
   simp at this
  ·have:=h.box.lt;omega
 exact⟨v,h.own.frT n (m [91] qd qd) qs,z.fr p (λk o=>by simp only[gI];rintro rfl;exact x o),ML.frT h.wm n (s h.wm.map) (m [201] qd qd),ML.frT h.rm n (s h.rm.map) (m [3] qd qd),h.ne⟩
end
end Go.Proofs.YtlpmiimgacfmkaaGreatDoor
