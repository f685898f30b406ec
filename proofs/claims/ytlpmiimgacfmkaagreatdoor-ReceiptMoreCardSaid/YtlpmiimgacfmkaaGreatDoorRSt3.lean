/- step: a key read. -/
import Derived.DeepKeys4
import Derived.Test.YtlpmiimgacfmkaaGreatDoorRWr4
set_option linter.all false
set_option maxHeartbeats 4000000
set_option maxRecDepth 100000
namespace Go.Proofs.YtlpmiimgacfmkaaGreatDoor
open Go.Proofs.Tryz
open Go.RowKit
def s8(r:RS):KY × RS :=
 let n:=ff 1073741824 r
 let i:=ff 2 n.2
 let j:=ff 999999 i.2
 let o:=gN 16777216 j.2
 (⟨n.1,i.1,j.1,o.1⟩,o.2)
structure KSt(w:World)(c0 c1 b D:Nat)(cs:Array Value)(r:RS)(W:World):Prop where
 rd:RdS c0 c1 b r W
 kb:BoxN W D 89 cs
 zb:BoxN W w.heap.size 89 #[.int .i64 0,.int .i64 0,.int .i64 0,.string ⟨#[]⟩]
 fr:Fr [b] w W
 h1:c1<=w.heap.size
 h2:w.heap.size<D
section
variable {w W W':World} {c0 c1 b D:Nat} {cs cs':Array Value} {r r':RS}
theorem KSt.bb(h:KSt w c0 c1 b D cs r W):c0<=b/\b<c1:=by obtain⟨A,_,a,c,_⟩:=h.rd;exact⟨a,c⟩
theorem KSt.called(h:KSt w c0 c1 b D cs r W)(e:RdS c0 c1 b r' W')(a:Fr [b] W W'):KSt w c0 c1 b D cs r' W':=by
 have f:=h.bb;have c:=h.h1;have d:=h.h2;exact⟨e,h.kb.fr a (by simp;omega),h.zb.fr a (by simp;omega),h.fr.then a,c,d⟩
theorem KSt.set(h:KSt w c0 c1 b D cs r W)(j:Nat)(v:Value)(e:cs.setIfInBounds j v=cs'):KSt w c0 c1 b D cs' r (W.setCell ⟨D,j,none⟩ v):=by
 have c:=h.h1;have d:=h.h2;have a:Fr [D] W (W.setCell ⟨D,j,none⟩ v):=(Fq [D] W).st _;refine⟨h.rd.fr a (by simp;omega),?_,h.zb.fr a (by simp;omega),h.fr.set (.inr (by show _<=D;omega)) _,c,d⟩;rw[<-e];exact h.kb.setAt j v
end
theorem xy(c0 c1 b:Nat)(r:RS)(w:World)(B:RdS c0 c1 b r w)(T:c1<=w.heap.size):
 Calls prog 176 #[.pointer (some ⟨b,0,none⟩)] w λe w'=>e=.returned (lK (s8 r).1)/\RdS c0 c1 b (s8 r).2 w'/\Fr [b] w w':=by
 unfold s8 lK;simp only;obtain⟨p,F,_,_⟩:=eT (gN 16777216 (ff 999999 (ff 2 (ff 1073741824 r).2).2).2).1;rw[F];have L:=Hd F;obtain⟨z,n⟩:=eR (w.alloc (.cells #[L0,L0,L0,S0] 89));obtain⟨w2,o⟩:=eR (z.alloc (.cells #[L0,L0,L0,S0] 89));have G:z.heap.size=w.heap.size+1:=by rw[<-n,kX]
 have a:KSt w c0 c1 b (w.heap.size+1) #[L0,L0,L0,S0] r w2:=by
  refine⟨?_,?_,?_,?_,T,qo⟩
  ·rw[<-o,<-n];exact B.fr0 (((Fq [] w).alloc _).alloc _)
  ·rw[<-o,<-G];exact BoxN.new z _ _
  ·rw[<-o,<-n];exact(BoxN.new w _ _).alloc _
  ·rw[<-o,<-n];exact((Fq [b] w).alloc _).alloc _
 have Q:=Hd n;have R:=Hd o;clear n o G B
 go_enter func176,ntmps176
 go_upto_region 2 with fail
 rw[Q.out,R.out];have y:=jI a.rd 1073741824;rw[show (((1073741824:Nat)):Int)=1073741824 from rfl]at y;have N:=Hd y;have J:=Hd a;clear y a
 go_upto_region 3 with((go_at_call 50;(with_reducible refine N.out.mono ?_);rintro e m ⟨rfl,k,i⟩;have d:=J.out.called k i;have j:=d.set (cs':=#[(ff 1073741824 r).1,L0,L0,S0]) 0 ((ff 1073741824 r).1) rfl;have h:=d.kb.c 0;have u:=d.kb.f 0;simp only[List.getElem?_toArray,List.getElem?_cons_zero,List.getElem?_cons_succ]at h;have g:=Hd j))
 obtain⟨s,l⟩:=eR (m.setCell ⟨w.heap.size+1,0,none⟩ ((ff 1073741824 r).1));have a:=g.out;rw[l]at a ⊢;have C:=jI a.rd 2;rw[show (((2:Nat)):Int)=2 from rfl]at C;have O:=Hd C;have HS2:=Hd a
 go_upto_region 4 with((go_at_call 50;(with_reducible refine O.out.mono ?_);rintro e m ⟨rfl,k,i⟩;have d:=HS2.out.called k i;have j:=d.set (cs':=#[(ff 1073741824 r).1,(ff 2 (ff 1073741824 r).2).1,L0,S0]) 1 ((ff 2 (ff 1073741824 r).2).1) rfl;have h:=d.kb.c 1;have u:=d.kb.f 1;simp only[List.getElem?_toArray,List.getElem?_cons_zero,List.getElem?_cons_succ]at h;have g:=Hd j))
 obtain⟨s,l⟩:=eR (m.setCell ⟨w.heap.size+1,1,none⟩ ((ff 2 (ff 1073741824 r).2).1));have a:=g.out;rw[l]at a ⊢;have E:=jI a.rd 999999;rw[show (((999999:Nat)):Int)=999999 from rfl]at E;have P:=Hd E;have K:=Hd a
 go_upto_region 5 with((go_at_call 50;(with_reducible refine P.out.mono ?_);rintro e m ⟨rfl,k,i⟩;have d:=K.out.called k i;have j:=d.set (cs':=#[(ff 1073741824 r).1,(ff 2 (ff 1073741824 r).2).1,(ff 999999 (ff 2 (ff 1073741824 r).2).2).1,S0]) 2 ((ff 999999 (ff 2 (ff 1073741824 r).2).2).1) rfl;have h:=d.kb.c 2;have u:=d.kb.f 2;simp only[List.getElem?_toArray,List.getElem?_cons_zero,List.getElem?_cons_succ]at h;have g:=Hd j))
 obtain⟨s,l⟩:=eR (m.setCell ⟨w.heap.size+1,2,none⟩ ((ff 999999 (ff 2 (ff 1073741824 r).2).2).1));have a:=g.out;rw[l]at a ⊢;have x:=oT a.rd 16777216;rw[show (((16777216:Nat)):Int)=16777216 from rfl]at x;rw[L.out]at x;have M:=Hd x;have q:=Hd a
 go_upto_region 6 with((go_at_call 49;(with_reducible refine M.out.mono ?_);rintro e m ⟨rfl,k,i⟩;have d:=q.out.called k i;have j:=d.set (cs':=#[(ff 1073741824 r).1,(ff 2 (ff 1073741824 r).2).1,(ff 999999 (ff 2 (ff 1073741824 r).2).2).1,p]) 3 p rfl;have h:=d.kb.c 3;have u:=d.kb.f 3;simp only[List.getElem?_toArray,List.getElem?_cons_zero,List.getElem?_cons_succ]at h;have g:=Hd j))
 obtain⟨s,l⟩:=eR (m.setCell ⟨w.heap.size+1,3,none⟩ p);have a:=g.out;rw[l]at a ⊢;obtain⟨Z,d1,d2,d3⟩:=a.kb.m4;obtain⟨y0,y1,y2,y3⟩:=a.zb.m4;have g0:=a.zb.f 0;have g1:=a.zb.f 1;have g2:=a.zb.f 2;have g3:=a.zb.f 3;have q:=Hd a
 go_wp2_with fail
 obtain⟨A,t⟩:=eR (((((s.setCell ⟨w.heap.size,0,none⟩ ((ff 1073741824 r).1)).setCell ⟨w.heap.size,1,none⟩ ((ff 2 (ff 1073741824 r).2).1)).setCell ⟨w.heap.size,2,none⟩ ((ff 999999 (ff 2 (ff 1073741824 r).2).2).1)).setCell ⟨w.heap.size,3,none⟩ p));have X:BoxN A w.heap.size 89 #[(ff 1073741824 r).1,(ff 2 (ff 1073741824 r).2).1,(ff 999999 (ff 2 (ff 1073741824 r).2).2).1,p]:=by rw[<-t];exact((((q.out.zb.setAt 0 _).setAt 1 _).setAt 2 _).setAt 3 _)
 have U:Fr [b] w A:=by rw[<-t];exact((((q.out.fr.set (.inr (fV _)) _).set (.inr (fV _)) _).set (.inr (fV _)) _).set (.inr (fV _)) _)
 have V:RdS c0 c1 b (gN 16777216 (ff 999999 (ff 2 (ff 1073741824 r).2).2).2).2 A:=by
  rw[<-t];refine q.out.rd.fr (S:=[w.heap.size]) ((((Fq _ s).st _).st _).st _ |>.st _) (by simp;omega)
 rw[t];obtain⟨Y,t1,t2,t3⟩:=X.m4;have I:=Hd V;have H:=Hd U;exact bodyPost_ret (v:=.agg #[(ff 1073741824 r).1,(ff 2 (ff 1073741824 r).2).1,(ff 999999 (ff 2 (ff 1073741824 r).2).2).1,p]) (by simp[results,results176,go_sem,Y,t1,t2,t3]) rfl ⟨rfl,I.out,H.out⟩
def jE(k:KY):Int :=
 if k.rnd<0 \/ 1073741824<k.rnd then 2 else if k.phase<0 \/ 2<k.phase then 11
 else if(k.idx<0 \/ 999999<k.idx) \/ (k.phase=0/\k.idx=0)then 2
 else if k.phase=0 then(if k.lin≠[]then 3 else 0)
 else if k.lin=[] \/ gp k.lin=false then 12
 else if k.phase=2/\k.idx≠0 then 3 else 0
theorem rD(k:KY)(w:World)(R:k.lin.length<=140737488355328):Calls prog 169 #[lK k] w (ol w (jE k)):=by
 obtain⟨r,u⟩:=eR (jE k);rw[u];unfold jE at u;obtain⟨n,i,j,o⟩:=k;unfold lK;simp only at R u ⊢;obtain⟨p,F,G,V⟩:=eT o;rw[F];obtain⟨T,H,B,E⟩:=kS w #[n,i,j,p] 89;obtain⟨W,X,Y,Z⟩:=B.m4;have d:=Hd E;have s:=Hd B;have D:=Hd H;have a:=Hd u;have h:=Hd G;clear H E B F u G
 go_enter func169,ntmps169
 go_upto_region 1 with fail
 rw[D.out];clear D
 by_cases J:n<0
 ·have e:=a.out
  rw[if_pos (.inl J)]at e;subst e;clear a
  go_wp2_with fail
  go_ret
  exact⟨rfl,d.out⟩
 by_cases K:1073741824<n
 ·have e:=a.out
  rw[if_pos (.inr K)]at e;subst e;clear a
  go_wp2_with fail
  go_ret
  exact⟨rfl,d.out⟩
 have e:=a.out;rw[if_neg qo]at e
 replace a:=Hd e
 clear e
 go_upto_region 3 with fail
 by_cases L:i<0
 ·have e:=a.out
  rw[if_pos (.inl L)]at e;subst e;clear a
  go_wp2_with fail
  go_ret
  exact⟨rfl,d.out⟩
 by_cases M:2<i
 ·have e:=a.out
  rw[if_pos (.inr M)]at e;subst e;clear a
  go_wp2_with fail
  go_ret
  exact⟨rfl,d.out⟩
 have e:=a.out;rw[if_neg qo]at e
 replace a:=Hd e
 clear e
 go_upto_region 5 with fail
 by_cases N:j<0
 ·have e:=a.out
  rw[if_pos (.inl (.inl N))]at e;subst e;clear a
  go_wp2_with fail
  go_ret
  exact⟨rfl,d.out⟩
 by_cases O:999999<j
 ·have e:=a.out
  rw[if_pos (.inl (.inr O))]at e;subst e;clear a
  go_wp2_with fail
  go_ret
  exact⟨rfl,d.out⟩
 by_cases y:i=0
 ·subst y
  by_cases z:j=0
  ·have e:=a.out
   rw[if_pos (.inr ⟨rfl,z⟩)]at e;subst e z;clear a
   go_wp2_with fail
   go_ret
   exact⟨rfl,d.out⟩
  ·have P:(j == 0)=false:=by simpa using z
   have e:=a.out;rw[if_neg qo,if_pos rfl]at e;clear a
   by_cases f:o=[]
   ·rw[if_neg (by simpa using f)]at e
    have g:p.data.toList=[]:=by rw[h.out];exact f
    have v:p.toList=[]:=by rw[ByteArray.toList_eq];exact g
    clear f g h;subst e
    go_wp2_with fail
    go_ret
    exact⟨rfl,d.out⟩
   ·rw[if_pos f]at e
    have g:p.data.toList≠[]:=by rw[h.out];exact f
    have v:p.toList≠[]:=by rw[ByteArray.toList_eq];exact g
    have S:(p.toList == [])=false:=by simpa using v
    clear f g h;subst e
    go_wp2_with fail
    go_ret
    exact⟨rfl,d.out⟩
 ·have P:(i == 0)=false:=by simpa using y
  have e:=a.out;rw[if_neg qo,if_neg y]at e
  replace a:=Hd e
  clear e
  by_cases f:o=[]
  ·have e:=a.out
   rw[if_pos (.inl f)]at e;have g:p.data.toList=[]:=by rw[h.out];exact f
   have v:p.toList=[]:=by rw[ByteArray.toList_eq];exact g
   clear f g h a;subst e
   go_wp2_with fail
   go_ret
   exact⟨rfl,d.out⟩
  ·have g:p.data.toList≠[]:=by rw[h.out];exact f
   have v:p.toList≠[]:=by rw[ByteArray.toList_eq];exact g
   have S:(p.toList == [])=false:=by simpa using v
   have m:=mG p T qo;rw[h.out]at m
   cases q:gp o with
   | false =>
    have e:=a.out;rw[if_pos (.inr q)]at e;rw[q]at m;have t:=Hd m;clear m f g h a q;subst e
    go_wp2_with ((go_at_call 115;(with_reducible refine t.out.mono ?_);rintro e C ⟨rfl,b⟩;have l:=Hd (d.out.then (Fr.of_below b));clear b))
    go_ret
    exact⟨rfl,l.out⟩
   | true =>
    have e:=a.out;rw[if_neg (by rw[q];simp[f])]at e;rw[q]at m;have t:=Hd m;clear m f g h a q
    by_cases A:i=2
    ·subst A
     by_cases x:j=0
     ·rw[if_neg (by simp[x])]at e
      subst x;subst e
      go_wp2_with ((go_at_call 115;(with_reducible refine t.out.mono ?_);rintro e C ⟨rfl,b⟩;have l:=Hd (d.out.then (Fr.of_below b));have I:=(s.out.later b).c 1;have U:=(s.out.later b).c 2;clear b))
      go_ret
      exact⟨rfl,l.out⟩
     ·rw[if_pos ⟨rfl,x⟩]at e
      have Q:(j != 0)=true:=by simpa using x
      subst e
      go_wp2_with ((go_at_call 115;(with_reducible refine t.out.mono ?_);rintro e C ⟨rfl,b⟩;have l:=Hd (d.out.then (Fr.of_below b));have I:=(s.out.later b).c 1;have U:=(s.out.later b).c 2;clear b))
      go_ret
      exact⟨rfl,l.out⟩
    ·rw[if_neg (by simp[A])]at e
     have Q:(i == 2)=false:=by simpa using A
     subst e
     go_wp2_with ((go_at_call 115;(with_reducible refine t.out.mono ?_);rintro e C ⟨rfl,b⟩;have l:=Hd (d.out.then (Fr.of_below b));have I:=(s.out.later b).c 1;clear b))
     go_ret
     exact⟨rfl,l.out⟩
def MapIs(P:Program)(k:TypeId)(w:World)(r:Nat)(kvs:List (Value × Value)):Prop :=
 ∃es clock,w.heap[r]?=some (.map es clock)/\MapKept.Stamped es clock/\(∀x∈es.toList,∃l,keyOf P k x.key=some l)/\es.toList.map (λx=>(x.key,x.val))=kvs
section
variable {P:Program} {w w':World} {t k e:TypeId} {r:Nat} {key z v:Value} {kl:Lit} {kvs:List (Value × Value)}
theorem MapIs.at_(h:MapIs P k w r kvs)(c:w'.heap[r]?=w.heap[r]?):MapIs P k w' r kvs:=by
 obtain⟨es,clock,a,b⟩:=h;exact⟨es,clock,c.trans a,b⟩
theorem MapIs.lt(h:MapIs P k w r kvs):r<w.heap.size:=by
 obtain⟨es,clock,a,_⟩:=h;exact(Array.getElem?_eq_some_iff.1 a).1
theorem MapIs.new(w:World):MapIs P k (w.alloc (.map #[] 0)) w.heap.size []:=⟨#[],0,(MapKept.heap_alloc w _).1,MapKept.stamped_empty 0,qs,rfl⟩
theorem MapIs.look_none(K:Maps.Keyed P k)(m:P.underlying t=some (.map k e))(h:MapIs P k w r kvs)(d:keyOf P k key=some kl)(l:∀p∈kvs,p.1≠key)(n:(zeroValue e).run P w=.ok z w)(c:Bool):
 (Instr.lookup t (.map (some r)) key c).run P w=.ok (if c then .tuple #[z,.bool false]else z) w:=by
 obtain⟨es,clock,g,o,i,rfl⟩:=h
 rcases K.find w d es.toList i with⟨a,b⟩|⟨j,e0,a,b,f⟩
 ·simp[Instr.lookup,run_underlying m,MapKept.run_getObj_map g,K.check w _ d,a,n,Result.andThen]
 ·exact absurd f (l _ (List.mem_map.2 ⟨e0,iu b,rfl⟩))
theorem MapIs.look_some(K:Maps.Keyed P k)(H:P.underlying t=some (.map k e))(u:MapIs P k w r kvs)(g:keyOf P k key=some kl)(F:(key,v)∈kvs)(c:Bool):
 (Instr.lookup t (.map (some r)) key c).run P w=.ok (if c then .tuple #[v,.bool true]else v) w:=by
 obtain⟨es,clock,y,A,B,rfl⟩:=u;obtain⟨x,h,C⟩:=List.mem_map.1 F
 injection C with f D
 rcases K.find w g es.toList B with⟨d,b⟩|⟨j,e0,d,b,s⟩
 ·exact absurd f (b x h)
 ·have I:e0.val=v:=by
   obtain⟨i,a⟩:=List.mem_iff_getElem?.1 h
   have E:j=i:=by
    have G:=A.2.2;have l:(es.toList.map (·.key))[j]?=some key:=by rw[List.getElem?_map,b,<-s];rfl
    have m:(es.toList.map (·.key))[i]?=some key:=by rw[List.getElem?_map,a,<-f];rfl
    have n:=(i9.1 l);have p:=(i9.1 m);obtain⟨J,o⟩:=n;obtain⟨L,q⟩:=p;exact(List.getElem_inj G).1 (o.trans q.symm)
   subst E;rw[b]at a
   injection a with a
   rw[a];exact D
  simp[Instr.lookup,run_underlying H,MapKept.run_getObj_map y,K.check w _ g,d,Result.andThen,I]
theorem MapIs.put_new(K:Maps.Keyed P k)(ht:P.underlying t=some (.map k e))(h:MapIs P k w r kvs)(hkey:keyOf P k key=some kl)(hn:∀p∈kvs,p.1≠key):
 ∃w',(Instr.mapUpdate t (.map (some r)) key v).run P w=.ok () w'/\Fr [r] w w'/\MapIs P k w' r (kvs++[(key,v)]):=by
 obtain⟨es,clock,h1,h2,h3,rfl⟩:=h
 rcases K.find w hkey es.toList h3 with⟨f1,f2⟩|⟨j,e0,f1,f2,f3⟩
 ·refine⟨{ w with heap:=w.heap.setIfInBounds r (.map (es.push { key:=key,val:=v,born:=clock }) (clock+1)) },by simp[Instr.mapUpdate,run_underlying ht,MapKept.run_getObj_map h1,K.check w _ hkey,f1,MapKept.run_setObj_map _ h1,Result.andThen],⟨rfl,rfl,rfl,by simp,λj _ hj=>(MapKept.heap_set h1).2 j (by simpa using hj)⟩,_,_,(MapKept.heap_set h1).1,MapKept.stamped_push h2 f2,?_,?_⟩
  ·intro x hx
   simp only[Array.toList_push,List.mem_append,gI]at hx
   rcases hx with hx|rfl
   ·exact h3 x hx
   ·exact⟨kl,hkey⟩
  ·simp
 ·exact absurd f3 (hn _ (List.mem_map.2 ⟨e0,iu f2,rfl⟩))
theorem MapIs.put_old{l1 l2:List (Value × Value)}{v0:Value}(K:Maps.Keyed P k)(ht:P.underlying t=some (.map k e))(h:MapIs P k w r (l1++(key,v0)::l2))(hkey:keyOf P k key=some kl):
 ∃w',(Instr.mapUpdate t (.map (some r)) key v).run P w=.ok () w'/\Fr [r] w w'/\MapIs P k w' r (l1++(key,v)::l2):=by
 obtain⟨es,clock,h1,h2,h3,h4⟩:=h;have hkk:es.toList.map (·.key)=(l1++(key,v0)::l2).map (·.1):=by rw[<-h4,List.map_map];rfl
 rcases K.find w hkey es.toList h3 with⟨f1,f2⟩|⟨j,e0,f1,f2,f3⟩
 ·have:key∈es.toList.map (·.key):=by rw[hkk];simp
  obtain⟨x,hx,he⟩:=List.mem_map.1 this;exact absurd he (f2 x hx)
 ·have hj:es[j]?=some e0:=by simpa using f2
  have hjl:j=l1.length:=by
   have hnd:=h2.2.2;have a1:(es.toList.map (·.key))[j]?=some key:=by rw[List.getElem?_map,f2,<-f3];rfl
   have a2:(es.toList.map (·.key))[l1.length]?=some key:=by rw[hkk,List.getElem?_map];simp
   obtain⟨b1l,b1e⟩:=i9.1 a1;obtain⟨b2l,b2e⟩:=i9.1 a2;exact(List.getElem_inj hnd).1 (b1e.trans b2e.symm)
  have hkey':∀e',es[j]?=some e'->({ e' with key:=key,val:=v }:MapEntry).key=e'.key:=λe' he'=>by rw[hj]at he';cases he';exact f3.symm
  refine⟨{ w with heap:=w.heap.setIfInBounds r (.map (es.modify j λe=>{ e with key:=key,val:=v }) clock) },by simp[Instr.mapUpdate,run_underlying ht,MapKept.run_getObj_map h1,K.check w _ hkey,f1,hj,f3,K.stays w hkey,MapKept.run_setObj_map _ h1,Result.andThen],⟨rfl,rfl,rfl,by simp,λi _ hi=>(MapKept.heap_set h1).2 i (by simpa using hi)⟩,_,_,(MapKept.heap_set h1).1,MapKept.stamped_modify h2 _ _ (λ_ _=>rfl) (λe' _ he'=>hkey' e' he'),?_,?_⟩
  ·intro x hx
   rcases MapFrom.mem_modify hx with hx|⟨y,hy,rfl⟩
   ·exact h3 x hx
   ·exact⟨kl,hkey⟩
  ·rw[Array.toList_modify]
   apply List.ext_getElem?
   intro i;have h4i:=congrArg (·[i]?) h4;simp only[List.getElem?_map]at h4i ⊢;rw[List.getElem?_modify];subst hjl
   by_cases hi:l1.length=i
   ·subst hi
    rw[f2];simp
   ·have hL:(l1++(key,v)::l2)[i]?=(l1++(key,v0)::l2)[i]?:=by
     rw[List.getElem?_append,List.getElem?_append];split
     ·rfl
     ·rename_i h0
      obtain⟨m,hm⟩:∃m,i - l1.length=m+1:=⟨i - l1.length - 1,by omega⟩;rw[hm];rfl
    rw[hL,<-h4i];simp[hi]
end
section
variable {P:Program} {w w':World} {k:TypeId} {r:Nat} {S:List Nat} {kvs:List (Value × Value)}
theorem MapIs.fr(h:MapIs P k w r kvs)(b:Fr S w w')(a:r ∉ S):MapIs P k w' r kvs:=h.at_ (b.block r h.lt a)
end
theorem iA:Maps.Keyed prog 31:=Maps.Keyed.of_law (deep_law (m:=4) qo qk qk qk)
theorem vD:Maps.Keyed prog 270:=Maps.Keyed.of_law (deep_law (m:=4) qo qk qk qk)
theorem oJ:Maps.Keyed prog 3:=Maps.int_keyed (q:=.i64) underlying3
def BW(i:Int):Value:=.agg #[.int .i64 16,.string ⟨#[]⟩,.int .i64 i,.int .i64 0,.string ⟨#[]⟩]
def je(i j:Int):Value:=.agg #[.int .i64 i,.int .i64 j]
def Cs(w:World)(b:Nat)(xs:List Value):Prop:=b<w.heap.size/\∀j v,xs[j]?=some v->w.cell? ⟨b,j,none⟩=some v
section
variable {w w':World} {b:Nat} {xs:List Value} {S:List Nat}
theorem Cs.fr(h:Cs w b xs)(a:Fr S w w')(c:b ∉ S):Cs w' b xs:=⟨Nat.lt_of_lt_of_le h.1 a.size,λj v d=>(a.fcell h.1 c j).trans (h.2 j v d)⟩
theorem Cs.fr0(h:Cs w b xs)(a:Fr [] w w'):Cs w' b xs:=h.fr a qs
theorem Cs.of_box{t:TypeId}{cs:Array Value}(h:BoxN w b t cs):Cs w b cs.toList:=⟨h.lt,λj v a=>by rw[h.c j];simpa using a⟩
theorem Cs.of_own{e:TypeId}{o n c:Nat}{A:Option Addr}(h:Own w e o A n c xs)(l:0<n):∃g,A=some ⟨g,0,none⟩/\Cs w g xs:=by
 obtain⟨b,off,d,k,i⟩:=h.row.2 l
 rcases h.2 with⟨a,f⟩|⟨g,p,q,a,_⟩
 ·omega
 ·injection a with a
  rw[d]at a
  injection a with a
  injection a with a f
  subst a f;exact⟨b,d,k,λj v m=>by have:=i j v m;rw[Nat.zero_add]at this;exact this⟩
end
def j5(i:Int):ON:=⟨16,[],i,0,[]⟩
def Fd(i:Int)(v:ByteArray)(a:Bool):List Value:=[.int .i64 16,.string ⟨#[]⟩,.int .i64 i,.int .i64 0,.string ⟨#[]⟩,.string v,.bool a]
inductive CL
 | nil
 | one (i:Int) (v:ByteArray) (a:Bool)
def CL.len:CL->Nat
 | .nil=>0
 | .one _ _ _=>1
def FD(w:World)(A:Option Addr):CL->Prop
 | .nil=>True
 | .one i v a=>∃b,A=some ⟨b,0,none⟩/\Cs w b (Fd i v a)
def CL.sl(l:CL)(A:Option Addr)(c:Nat):Value:=.slice A l.len c
structure AC where
 t:Int
 r:CL
 w:CL
theorem Gz{W : World}{b o : Nat}{v0 v1 v2 v3 v4 : Value}(h : ∀t, t < 5 -> W.cell? ⟨b, o + t, none⟩ = [v0, v1, v2, v3, v4][t]?): W.cell? ⟨b, o, none⟩ = some v0 /\ W.cell? ⟨b, o + 1, none⟩ = some v1 /\ W.cell? ⟨b, o + 2, none⟩ = some v2 /\ W.cell? ⟨b, o + 3, none⟩ = some v3 /\ W.cell? ⟨b, o + 4, none⟩ = some v4 := ⟨h 0 qo, h 1 qo, h 2 qo, h 3 qo, h 4 qo⟩
theorem F7{W : World}{b o : Nat}{v0 v1 v2 v3 v4 v5 : Value}(h : ∀t, t < 6 -> W.cell? ⟨b, o + t, none⟩ = [v0, v1, v2, v3, v4, v5][t]?): W.cell? ⟨b, o, none⟩ = some v0 /\ W.cell? ⟨b, o + 1, none⟩ = some v1 /\ W.cell? ⟨b, o + 2, none⟩ = some v2 /\ W.cell? ⟨b, o + 3, none⟩ = some v3 /\ W.cell? ⟨b, o + 4, none⟩ = some v4 /\ W.cell? ⟨b, o + 5, none⟩ = some v5 := ⟨h 0 qo, h 1 qo, h 2 qo, h 3 qo, h 4 qo, h 5 qo⟩
theorem AR{W : World}{b o : Nat}{v0 v1 v2 v3 v4 v5 v6 : Value}(h : ∀t, t < 7 -> W.cell? ⟨b, o + t, none⟩ = [v0, v1, v2, v3, v4, v5, v6][t]?): W.cell? ⟨b, o, none⟩ = some v0 /\ W.cell? ⟨b, o + 1, none⟩ = some v1 /\ W.cell? ⟨b, o + 2, none⟩ = some v2 /\ W.cell? ⟨b, o + 3, none⟩ = some v3 /\ W.cell? ⟨b, o + 4, none⟩ = some v4 /\ W.cell? ⟨b, o + 5, none⟩ = some v5 /\ W.cell? ⟨b, o + 6, none⟩ = some v6 := ⟨h 0 qo, h 1 qo, h 2 qo, h 3 qo, h 4 qo, h 5 qo, h 6 qo⟩
theorem Cs.k0{W : World}{b : Nat}{v0 : Value}{l : List Value}(h : Cs W b (v0 :: l)): W.cell? ⟨b, 0, none⟩ = some v0 := h.2 0 _ rfl
theorem Cs.k1{W : World}{b : Nat}{v0 v1 : Value}{l : List Value}(h : Cs W b (v0 :: v1 :: l)): W.cell? ⟨b, 1, none⟩ = some v1 := h.2 1 _ rfl
theorem Cs.k2{W : World}{b : Nat}{v0 v1 v2 : Value}{l : List Value}(h : Cs W b (v0 :: v1 :: v2 :: l)): W.cell? ⟨b, 2, none⟩ = some v2 := h.2 2 _ rfl
theorem Cs.k3{W : World}{b : Nat}{v0 v1 v2 v3 : Value}{l : List Value}(h : Cs W b (v0 :: v1 :: v2 :: v3 :: l)): W.cell? ⟨b, 3, none⟩ = some v3 := h.2 3 _ rfl
theorem Cs.k4{W : World}{b : Nat}{v0 v1 v2 v3 v4 : Value}{l : List Value}(h : Cs W b (v0 :: v1 :: v2 :: v3 :: v4 :: l)): W.cell? ⟨b, 4, none⟩ = some v4 := h.2 4 _ rfl
theorem Cs.k5{W : World}{b : Nat}{v0 v1 v2 v3 v4 v5 : Value}{l : List Value}(h : Cs W b (v0 :: v1 :: v2 :: v3 :: v4 :: v5 :: l)): W.cell? ⟨b, 5, none⟩ = some v5 := h.2 5 _ rfl
theorem Cs.k6{W : World}{b : Nat}{v0 v1 v2 v3 v4 v5 v6 : Value}{l : List Value}(h : Cs W b (v0 :: v1 :: v2 :: v3 :: v4 :: v5 :: v6 :: l)): W.cell? ⟨b, 6, none⟩ = some v6 := h.2 6 _ rfl
theorem Cs.k7{W : World}{b : Nat}{v0 v1 v2 v3 v4 v5 v6 v7 : Value}{l : List Value}(h : Cs W b (v0 :: v1 :: v2 :: v3 :: v4 :: v5 :: v6 :: v7 :: l)): W.cell? ⟨b, 7, none⟩ = some v7 := h.2 7 _ rfl
theorem Cs.k8{W : World}{b : Nat}{v0 v1 v2 v3 v4 v5 v6 v7 v8 : Value}{l : List Value}(h : Cs W b (v0 :: v1 :: v2 :: v3 :: v4 :: v5 :: v6 :: v7 :: v8 :: l)): W.cell? ⟨b, 8, none⟩ = some v8 := h.2 8 _ rfl
theorem Cs.k9{W : World}{b : Nat}{v0 v1 v2 v3 v4 v5 v6 v7 v8 v9 : Value}{l : List Value}(h : Cs W b (v0 :: v1 :: v2 :: v3 :: v4 :: v5 :: v6 :: v7 :: v8 :: v9 :: l)): W.cell? ⟨b, 9, none⟩ = some v9 := h.2 9 _ rfl
theorem Cs.k10{W : World}{b : Nat}{v0 v1 v2 v3 v4 v5 v6 v7 v8 v9 v10 : Value}{l : List Value}(h : Cs W b (v0 :: v1 :: v2 :: v3 :: v4 :: v5 :: v6 :: v7 :: v8 :: v9 :: v10 :: l)): W.cell? ⟨b, 10, none⟩ = some v10 := h.2 10 _ rfl
theorem Cs.k11{W : World}{b : Nat}{v0 v1 v2 v3 v4 v5 v6 v7 v8 v9 v10 v11 : Value}{l : List Value}(h : Cs W b (v0 :: v1 :: v2 :: v3 :: v4 :: v5 :: v6 :: v7 :: v8 :: v9 :: v10 :: v11 :: l)): W.cell? ⟨b, 11, none⟩ = some v11 := h.2 11 _ rfl
theorem Cs.m2{W : World}{b : Nat}{v0 v1 : Value}{l : List Value}(h : Cs W b (v0 :: v1 :: l)): W.cell? ⟨b, 0, none⟩ = some v0 /\ W.cell? ⟨b, 1, none⟩ = some v1 := ⟨h.2 0 _ rfl, h.2 1 _ rfl⟩
theorem Cs.m3{W : World}{b : Nat}{v0 v1 v2 : Value}{l : List Value}(h : Cs W b (v0 :: v1 :: v2 :: l)): W.cell? ⟨b, 0, none⟩ = some v0 /\ W.cell? ⟨b, 1, none⟩ = some v1 /\ W.cell? ⟨b, 2, none⟩ = some v2 := ⟨h.2 0 _ rfl, h.2 1 _ rfl, h.2 2 _ rfl⟩
theorem Cs.m4{W : World}{b : Nat}{v0 v1 v2 v3 : Value}{l : List Value}(h : Cs W b (v0 :: v1 :: v2 :: v3 :: l)): W.cell? ⟨b, 0, none⟩ = some v0 /\ W.cell? ⟨b, 1, none⟩ = some v1 /\ W.cell? ⟨b, 2, none⟩ = some v2 /\ W.cell? ⟨b, 3, none⟩ = some v3 := ⟨h.2 0 _ rfl, h.2 1 _ rfl, h.2 2 _ rfl, h.2 3 _ rfl⟩
theorem Cs.m5{W : World}{b : Nat}{v0 v1 v2 v3 v4 : Value}{l : List Value}(h : Cs W b (v0 :: v1 :: v2 :: v3 :: v4 :: l)): W.cell? ⟨b, 0, none⟩ = some v0 /\ W.cell? ⟨b, 1, none⟩ = some v1 /\ W.cell? ⟨b, 2, none⟩ = some v2 /\ W.cell? ⟨b, 3, none⟩ = some v3 /\ W.cell? ⟨b, 4, none⟩ = some v4 := ⟨h.2 0 _ rfl, h.2 1 _ rfl, h.2 2 _ rfl, h.2 3 _ rfl, h.2 4 _ rfl⟩
theorem Cs.m6{W : World}{b : Nat}{v0 v1 v2 v3 v4 v5 : Value}{l : List Value}(h : Cs W b (v0 :: v1 :: v2 :: v3 :: v4 :: v5 :: l)): W.cell? ⟨b, 0, none⟩ = some v0 /\ W.cell? ⟨b, 1, none⟩ = some v1 /\ W.cell? ⟨b, 2, none⟩ = some v2 /\ W.cell? ⟨b, 3, none⟩ = some v3 /\ W.cell? ⟨b, 4, none⟩ = some v4 /\ W.cell? ⟨b, 5, none⟩ = some v5 := ⟨h.2 0 _ rfl, h.2 1 _ rfl, h.2 2 _ rfl, h.2 3 _ rfl, h.2 4 _ rfl, h.2 5 _ rfl⟩
theorem Cs.m7{W : World}{b : Nat}{v0 v1 v2 v3 v4 v5 v6 : Value}{l : List Value}(h : Cs W b (v0 :: v1 :: v2 :: v3 :: v4 :: v5 :: v6 :: l)): W.cell? ⟨b, 0, none⟩ = some v0 /\ W.cell? ⟨b, 1, none⟩ = some v1 /\ W.cell? ⟨b, 2, none⟩ = some v2 /\ W.cell? ⟨b, 3, none⟩ = some v3 /\ W.cell? ⟨b, 4, none⟩ = some v4 /\ W.cell? ⟨b, 5, none⟩ = some v5 /\ W.cell? ⟨b, 6, none⟩ = some v6 := ⟨h.2 0 _ rfl, h.2 1 _ rfl, h.2 2 _ rfl, h.2 3 _ rfl, h.2 4 _ rfl, h.2 5 _ rfl, h.2 6 _ rfl⟩
theorem Cs.m8{W : World}{b : Nat}{v0 v1 v2 v3 v4 v5 v6 v7 : Value}{l : List Value}(h : Cs W b (v0 :: v1 :: v2 :: v3 :: v4 :: v5 :: v6 :: v7 :: l)): W.cell? ⟨b, 0, none⟩ = some v0 /\ W.cell? ⟨b, 1, none⟩ = some v1 /\ W.cell? ⟨b, 2, none⟩ = some v2 /\ W.cell? ⟨b, 3, none⟩ = some v3 /\ W.cell? ⟨b, 4, none⟩ = some v4 /\ W.cell? ⟨b, 5, none⟩ = some v5 /\ W.cell? ⟨b, 6, none⟩ = some v6 /\ W.cell? ⟨b, 7, none⟩ = some v7 := ⟨h.2 0 _ rfl, h.2 1 _ rfl, h.2 2 _ rfl, h.2 3 _ rfl, h.2 4 _ rfl, h.2 5 _ rfl, h.2 6 _ rfl, h.2 7 _ rfl⟩
theorem Cs.m9{W : World}{b : Nat}{v0 v1 v2 v3 v4 v5 v6 v7 v8 : Value}{l : List Value}(h : Cs W b (v0 :: v1 :: v2 :: v3 :: v4 :: v5 :: v6 :: v7 :: v8 :: l)): W.cell? ⟨b, 0, none⟩ = some v0 /\ W.cell? ⟨b, 1, none⟩ = some v1 /\ W.cell? ⟨b, 2, none⟩ = some v2 /\ W.cell? ⟨b, 3, none⟩ = some v3 /\ W.cell? ⟨b, 4, none⟩ = some v4 /\ W.cell? ⟨b, 5, none⟩ = some v5 /\ W.cell? ⟨b, 6, none⟩ = some v6 /\ W.cell? ⟨b, 7, none⟩ = some v7 /\ W.cell? ⟨b, 8, none⟩ = some v8 := ⟨h.2 0 _ rfl, h.2 1 _ rfl, h.2 2 _ rfl, h.2 3 _ rfl, h.2 4 _ rfl, h.2 5 _ rfl, h.2 6 _ rfl, h.2 7 _ rfl, h.2 8 _ rfl⟩
theorem Cs.m10{W : World}{b : Nat}{v0 v1 v2 v3 v4 v5 v6 v7 v8 v9 : Value}{l : List Value}(h : Cs W b (v0 :: v1 :: v2 :: v3 :: v4 :: v5 :: v6 :: v7 :: v8 :: v9 :: l)): W.cell? ⟨b, 0, none⟩ = some v0 /\ W.cell? ⟨b, 1, none⟩ = some v1 /\ W.cell? ⟨b, 2, none⟩ = some v2 /\ W.cell? ⟨b, 3, none⟩ = some v3 /\ W.cell? ⟨b, 4, none⟩ = some v4 /\ W.cell? ⟨b, 5, none⟩ = some v5 /\ W.cell? ⟨b, 6, none⟩ = some v6 /\ W.cell? ⟨b, 7, none⟩ = some v7 /\ W.cell? ⟨b, 8, none⟩ = some v8 /\ W.cell? ⟨b, 9, none⟩ = some v9 := ⟨h.2 0 _ rfl, h.2 1 _ rfl, h.2 2 _ rfl, h.2 3 _ rfl, h.2 4 _ rfl, h.2 5 _ rfl, h.2 6 _ rfl, h.2 7 _ rfl, h.2 8 _ rfl, h.2 9 _ rfl⟩
theorem Cs.m11{W : World}{b : Nat}{v0 v1 v2 v3 v4 v5 v6 v7 v8 v9 v10 : Value}{l : List Value}(h : Cs W b (v0 :: v1 :: v2 :: v3 :: v4 :: v5 :: v6 :: v7 :: v8 :: v9 :: v10 :: l)): W.cell? ⟨b, 0, none⟩ = some v0 /\ W.cell? ⟨b, 1, none⟩ = some v1 /\ W.cell? ⟨b, 2, none⟩ = some v2 /\ W.cell? ⟨b, 3, none⟩ = some v3 /\ W.cell? ⟨b, 4, none⟩ = some v4 /\ W.cell? ⟨b, 5, none⟩ = some v5 /\ W.cell? ⟨b, 6, none⟩ = some v6 /\ W.cell? ⟨b, 7, none⟩ = some v7 /\ W.cell? ⟨b, 8, none⟩ = some v8 /\ W.cell? ⟨b, 9, none⟩ = some v9 /\ W.cell? ⟨b, 10, none⟩ = some v10 := ⟨h.2 0 _ rfl, h.2 1 _ rfl, h.2 2 _ rfl, h.2 3 _ rfl, h.2 4 _ rfl, h.2 5 _ rfl, h.2 6 _ rfl, h.2 7 _ rfl, h.2 8 _ rfl, h.2 9 _ rfl, h.2 10 _ rfl⟩
theorem Cs.m12{W : World}{b : Nat}{v0 v1 v2 v3 v4 v5 v6 v7 v8 v9 v10 v11 : Value}{l : List Value}(h : Cs W b (v0 :: v1 :: v2 :: v3 :: v4 :: v5 :: v6 :: v7 :: v8 :: v9 :: v10 :: v11 :: l)): W.cell? ⟨b, 0, none⟩ = some v0 /\ W.cell? ⟨b, 1, none⟩ = some v1 /\ W.cell? ⟨b, 2, none⟩ = some v2 /\ W.cell? ⟨b, 3, none⟩ = some v3 /\ W.cell? ⟨b, 4, none⟩ = some v4 /\ W.cell? ⟨b, 5, none⟩ = some v5 /\ W.cell? ⟨b, 6, none⟩ = some v6 /\ W.cell? ⟨b, 7, none⟩ = some v7 /\ W.cell? ⟨b, 8, none⟩ = some v8 /\ W.cell? ⟨b, 9, none⟩ = some v9 /\ W.cell? ⟨b, 10, none⟩ = some v10 /\ W.cell? ⟨b, 11, none⟩ = some v11 := ⟨h.2 0 _ rfl, h.2 1 _ rfl, h.2 2 _ rfl, h.2 3 _ rfl, h.2 4 _ rfl, h.2 5 _ rfl, h.2 6 _ rfl, h.2 7 _ rfl, h.2 8 _ rfl, h.2 9 _ rfl, h.2 10 _ rfl, h.2 11 _ rfl⟩
def fm(w:World)(v:Value)(e:Ending)(w':World):Prop:=e=.returned v/\Fr [] w w'
theorem vE(a w:World)(b:Nat)(bs:Nm)(h:WrS a b bs w)(d:bs.length<=70368744177600):Calls prog 123 #[.pointer (some ⟨b,0,none⟩)] w (fm w (.tuple #[ft bs,.int .i64 0])):=by
 go_enter func123,ntmps123
 go_wp2_with ((go_at_call 58;(with_reducible refine(sd h d).mono ?_);rintro e j ⟨A',c',rfl,g,f,_⟩;have i:=fa g.row 49 5 underlying49 underlying5 9 underlying9 c';have c:=Hd f))
 go_ret2
 exact⟨rfl,c.out⟩
theorem rE(w:World)(x y v:Value)(i:Nat)(a:i<2)(b:(#[x,y]:Array Value)[i]?=some v):(Instr.index 231 (.agg #[x,y]) (.int .i64 (i:Int))).run prog w=.ok v w :=
 jK w 231 62 2 #[x,y] .i64 i v underlying231 (λw=>by simp[go_sem]) (λw=>by simp[go_sem]) a b
section
variable {P:Program} {ops:Array Oper} {md:Region.Mode} {C:World->Prop} {n:Nat} {L:Array Bool->Act->Prop}
def vF(P:Program)(md:Region.Mode)(ops:Array Oper)(C:World->Prop)(n:Nat)(L:Array Bool->Act->Prop):Nat->Array Bool->Act->Prop
 | 0,S,a=>L S a
 | f+1,S,a=>Region.ready md ops S≠[]/\∀i∈Region.ready md ops S,i<n/\qOp P ops C i (vF P md ops C n L f (S.setIfInBounds i true)) a
theorem rF{g:Nat}{Q:Exit->Act->World->Prop}(j:∀S a w,C w->L S a->wpAny P md ops Q g S a w)(f:Nat):
 ∀(S:Array Bool) (a:Act) (w:World),C w->vF P md ops C n L f S a->wpAny P md ops Q (f+g) S a w:=by
 induction f with
 | zero=>intro S a w b h;rw[Nat.zero_add];exact j S a w b h
 | succ f m =>
  intro S a w b h;rw[Nat.add_right_comm];refine⟨λe=>absurd e h.1,λi k=>?_⟩;exact wpOp_of_qOp b (λc w' l d=>m _ c w' l d) (h.2 i k).2
theorem vG{i:Nat}{m:Oper}{v:Value}(s:ops[i]?=some m)(V:Region.noSelect ops=true)(F:Region.sinkB md ops n=true)(z:Region.chainB md ops n=true)(E:n<ops.size)(o:i<n)
 (M:∀S a,L S a->∀j∈Region.ready md ops S,n<=j) (f:Nat) :
 ∀(S:Array Bool) (a:Act),HeadInv md ops n S ->
  (∀j l,ops[j]?=some l->j≠i->S.getD j true=false->(∀e∈l.after,Region.binds md e=true->e.on≠i)->m.apart ops l=true) ->
  i∈Region.ready md ops S->YieldsIn P ops C m v a->vF P md ops C n L f (S.setIfInBounds i true) (a.put m.dst v)->vF P md ops C n L (f+1) S a:=by
 have G:=Region.noSelect_spec V
 induction f with
 | zero =>
  intro S a r _ d q H;have p:=(mem_ready.1 d).1;refine⟨λh=>by rw[h]at d;simp at d,λj g=>?_⟩
  by_cases c:j=i
  ·subst c;exact⟨o,q.qOp s H⟩
  ·have t:=Nat.lt_of_not_le λh=>tail_waits F z E r _ i rfl o p j h g
   have:=M _ _ H j (ready_mono g c)
   omega
 | succ f X =>
  intro S a r y d q H;have p:=(mem_ready.1 d).1;refine⟨λh=>by rw[h]at d;simp at d,λj g=>?_⟩
  by_cases c:j=i
  ·subst c;exact⟨o,q.qOp s H⟩
  ·have t:=Nat.lt_of_not_le λh=>tail_waits F z E r _ i rfl o p j h g
   refine⟨t,?_⟩;obtain⟨B,l,u,J⟩:=mem_ready.1 g
   have U:∀e∈l.after,Region.binds md e=true->e.on≠i:=by
    intro e N K O;have x:=J e N K;rw[O,getD_both p]at x;exact absurd x qs
   have W:=qOp_put u (y j l u c B U) (λcs b=>G i m cs b s) (λcs b=>G j l cs b u) q (H.2 j (ready_mono g c)).2;refine qOp_mono (λI w=>?_) W;refine X (S.setIfInBounds j true) I (r.set g t) ?_ (ready_mono d (Ne.symm c)) w.1 ?_
   ·intro k Y Q R D T
    refine y k Y Q R ?_ T
    by_cases A:j=k
    ·subst A;exact B
    ·rw[getD_set_ne true A]at D;exact D
   ·rw[Array.setIfInBounds_comm _ _ c]
    exact w.2
theorem Ab{g:Nat}{d:Act->Prop}(w:Region.noSelect ops=true)(y:Region.sinkB md ops n=true)(t:Region.chainB md ops n=true)(u:n<ops.size)(l:List Oper):
 ∀(k:Nat) (S:Array Bool) (a:Act),(∀j,j<l.length->l[j]?=ops[k+j]?)->k+l.length=n->HeadInv md ops n S->Region.lexHead md ops g l.length k S=true->wpQuiet P ops C d l a ->
  vF P md ops C n (λf i=>Region.seqB md ops g n f=true/\d i) l.length S a:=by
 induction l with
 | nil =>
  intro k S a _ e _ b h;obtain rfl:k=n:=by simpa using e
  exact⟨b,h⟩
 | cons o l A =>
  intro k S a m e q b h;have c:ops[k]?=some o:=by simpa using (m 0 qs).symm
  simp only[List.length_cons]at e;simp only[List.length_cons,Region.lexHead,Bool.and_eq_true]at b;have p:k∈Region.ready md ops S:=by simpa using b.1.1
  have x:qOp P ops C k (wpQuiet P ops C d l) a:=by unfold qOp;simp only[c];exact h
  obtain⟨v,z,r⟩:=yieldsIn_of_qOp c x;refine vG c w y t u qo (λf i s=>seqB_ready s.1) l.length S a q (Region.free_spec c b.1.2) p z ?_;refine A (k+1) _ _ (λj B=>?_) qo (q.set p qo) b.2 r;have:=m (j+1) (by simp;omega);simpa [Nat.add_assoc,Nat.add_comm 1 j]using this
theorem jh(C:World->Prop){u:Nat}{Q:Exit->Act->World->Prop}{a:Act}{w:World}{l:List Oper}(n:Nat)(q:P.follows .mixedOrders=true)(b:Region.lexTailB .any l.toArray n=true)(m:C w.drew)
 (k:wpQuiet P l.toArray C (λc=>∀w',C w'->wpList P l.toArray Q (l.drop n) c w') (l.take n) a):(Code.region u l.toArray true).wp P Q a w:=by
 simp only[Region.lexTailB,Bool.and_eq_true,decide_eq_true_eq]at b;have h:=b.1.1.1.2;have y:n<l.length:=by simpa using h
 have i:(l.take n).length=n:=by rw[List.length_take];omega
 have f:(l.drop n).length=l.toArray.size - n:=qs
 have v:HeadInv .any l.toArray n (Array.replicate l.toArray.size false) :=
  ⟨qs,λj z _ p=>absurd p (by rw[getD_replicate_false];simp),λt _ r=>getD_in (by simpa using r) (getD_replicate_false _ _)⟩
 have H:=Ab (g:=l.toArray.size - n) b.1.1.1.1 b.1.1.2 b.1.2 h (l.take n) 0 _ a (λj x=>by
  have o:j<n:=qo
  simp[o]) qo v (by rw[i];exact b.2) k
 refine wp_region_any q ?_
 have d:=rF (Q:=Q) (g:=l.toArray.size - n) (λS c w' s e=>by
  have:=wpAny_of_seq (md:=.any) (Q':=Q) (l.drop n) n S c w' (λj=>by simp[List.getElem?_drop]) (by rw[f];exact e.1) (e.2 w' s)
  rwa [f]at this) _ _ _ _ m H
 rw[i,show n+(l.toArray.size - n)=l.toArray.size by omega]at d;exact d
end
inductive TR
 | nil
 | node (b:Nat) (l:TR) (i:Int) (v:ByteArray) (h s y:Int) (r:TR)
def TR.adr:TR->Option Addr
 | .nil=>none
 | .node b _ _ _ _ _ _ _=>some ⟨b,0,none⟩
def TR.ptr(t:TR):Value:=.pointer t.adr
def mx(a b:Int):Int:=if a<b then b else a
def TR.s:TR->Int
 | .nil=>0
 | .node _ _ _ _ _ s _ _=>s
def Er(l r:Value)(i:Int)(v:ByteArray)(h s y:Int):Array Value:=#[l,r,.int .i64 16,.string ⟨#[]⟩,.int .i64 i,.int .i64 0,.string ⟨#[]⟩,.string v,.int .i64 h,.int .i64 s,.int .i64 y]
def TRat(w:World):TR->Prop
 | .nil=>True
 | .node b l i v h s y r=>BoxN w b 191 (Er l.ptr r.ptr i v h s y)/\TRat w l/\TRat w r
theorem TRat.fr0{w w':World}(a:Fr [] w w'):∀ {t:TR},TRat w t->TRat w' t
 | .nil,_=>trivial
 | .node _ _ _ _ _ _ _ _,h=>⟨h.1.fr a qs,TRat.fr0 a h.2.1,TRat.fr0 a h.2.2⟩
theorem xz(t:TR)(w:World)(h:TRat w t):Calls prog 95 #[t.ptr] w λe w'=>e=.returned (.int .i64 t.s)/\w'=w:=by
 cases t with
 | nil =>
  unfold TR.ptr TR.adr TR.s
  go_enter func95,ntmps95
  go_wp2_with fail
  go_ret
  exact⟨rfl,rfl⟩
 | node b l i v a d f r =>
  have c:=h.1.c 9;unfold Er at c;simp only[List.getElem?_toArray,List.getElem?_cons_zero,List.getElem?_cons_succ]at c;clear h;unfold TR.ptr TR.adr TR.s
  go_enter func95,ntmps95
  go_wp2_with fail
  go_ret
  exact⟨rfl,rfl⟩
theorem oK:∃i,(prog).info? 95=some i/\i.zero=some (.agg #[.int .i64 0,.string ⟨#[]⟩,.int .i64 0,.int .i64 0,.string ⟨#[]⟩,.string ⟨#[]⟩,.bool false])/\i.size=7/\i.bytes=80:=info_parts qk
theorem pV(w:World)(x y v:Value)(i:Nat)(a:i<2)(b:(#[x,y]:Array Value)[i]?=some v):(Instr.index 300 (.agg #[x,y]) (.int .i64 (i:Int))).run prog w=.ok v w :=
 jK w 300 299 2 #[x,y] .i64 i v underlying300 (λw=>by simp[go_sem]) (λw=>by simp[go_sem]) a b
def rG:Array Value:=#[.int .i64 0,.int .i64 0,.int .i64 0,.string ⟨#[]⟩,.slice none 0 0,.slice none 0 0]
section
variable {P:Program} {C:World->Prop}
theorem eY(C:World->Prop){f:Nat}{Q:Exit->Act->World->Prop}{a:Act}{w:World}{l:List Oper}(e:P.follows .mixedOrders=true)(c:Region.lexB .any l.toArray=true)(d:C w.drew)
 (h:wpQuiet P l.toArray C (λb=>∀w',C w'->Q .normal b w') l a):(Code.region f l.toArray true).wp P Q a w:=wp_region_quiet e c d (by simpa using h)
end
end Go.Proofs.YtlpmiimgacfmkaaGreatDoor
