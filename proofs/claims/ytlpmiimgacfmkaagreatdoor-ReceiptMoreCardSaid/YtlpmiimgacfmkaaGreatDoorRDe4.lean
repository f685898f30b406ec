/- Part of the proof. -/
import Derived.Test.YtlpmiimgacfmkaaGreatDoorRDg3
set_option linter.all false
set_option maxHeartbeats 4000000
set_option maxRecDepth 100000
namespace Go.Proofs.YtlpmiimgacfmkaaGreatDoor
open Go.Proofs.Tryz
open Go.RowKit
def GM(g mw Lk Us:Nat)(K:Option Addr):List Nat:=g::mw::Lk::Us::eV K
structure GIs(w:World)(g mw Lk Us n c:Nat)(K:Option Addr)(ks:List Value)(l u:Array Value)(kv:List (Value × Value))(PW:World->Prop):Prop where
 box:BoxN w g 205 #[.slice K n c,.slice (some ⟨Lk,0,none⟩) 3 3,.slice (some ⟨Us,0,none⟩) 3 3,.map (some mw)]
 own:Own w 89 4 K n c ks
 lb:BoxN w Lk 61 l
 ub:BoxN w Us 61 u
 wm:MapIs prog 31 w mw kv
 d1:g≠mw/\g≠Lk/\g≠Us/\mw≠Lk/\mw≠Us/\Lk≠Us
 d2:g ∉ eV K/\mw ∉ eV K/\Lk ∉ eV K/\Us ∉ eV K
 kept:Kept (GM g mw Lk Us K) w PW
section
variable {X Y Z:World} {g mw Lk Us n n' c c':Nat} {K K':Option Addr} {ks ks':List Value} {l u l' u':Array Value} {kv kv':List (Value × Value)} {PW Q:World->Prop}
theorem GIs.lt(h:GIs X g mw Lk Us n c K ks l u kv PW):∀k∈GM g mw Lk Us K,k<X.heap.size:=λk a=>by
 simp only[GM,List.mem_cons]at a
 rcases a with rfl|rfl|rfl|rfl|a
 ·exact h.box.lt
 ·exact h.wm.lt
 ·exact h.lb.lt
 ·exact h.ub.lt
 ·exact h.own.lt k a
end
theorem wJ:∃i,(prog).info? 61=some i/\i.zero=some (.slice none 0 0)/\i.size=1/\i.bytes=24:=info_parts qk
theorem mB:∃i,(prog).info? 98=some i/\i.zero=some (.agg #[.int .i64 0,.int .i64 0,.int .i64 0,.string ⟨#[]⟩,.int .i64 0,.int .i64 0,.string ⟨#[]⟩])/\i.size=7/\i.bytes=72:=info_parts qk
theorem lX:∃i,(prog).info? 89=some i/\i.zero=some (.agg #[.int .i64 0,.int .i64 0,.int .i64 0,.string ⟨#[]⟩])/\i.size=4/\i.bytes=40:=info_parts qk
theorem uG{P:Program}{md:Region.Mode}{d:Array Oper}{Q:Exit->Act->World->Prop}{C:World->Prop}{n:Nat}{L:Array Bool->Act->World->Prop}{i j m:Nat}{o p q:Oper}{f:Nat}{S:Array Bool}{a:Act}{w:World}(k:Region.ready md d S=[i,j,m])(t:i<n)(v:j<n)(y:m<n)(D:d[i]?=some o)(F:d[j]?=some p)(H:d[m]?=some q)
 (z:∀K:Act->World->Prop,(∀b w',C w'->jb P md d Q C n L f (S.setIfInBounds i true) b w'->K b w')->if Region.wanted o (yielded d a.tmps)=true then o.wp P a w K Q else K (a.put o.dst undef) w)
 (A:∀K:Act->World->Prop,(∀b w',C w'->jb P md d Q C n L f (S.setIfInBounds j true) b w'->K b w')->if Region.wanted p (yielded d a.tmps)=true then p.wp P a w K Q else K (a.put p.dst undef) w)
 (B:∀K:Act->World->Prop,(∀b w',C w'->jb P md d Q C n L f (S.setIfInBounds m true) b w'->K b w')->if Region.wanted q (yielded d a.tmps)=true then q.wp P a w K Q else K (a.put q.dst undef) w):jb P md d Q C n L (f+1) S a w:=by
 intro s;refine⟨by rw[k];simp,λx r=>?_⟩;have E:i∈Region.ready md d S:=by rw[k];simp
 have G:j∈Region.ready md d S:=by rw[k];simp
 have I:m∈Region.ready md d S:=by rw[k];simp
 rw[k]at r;simp only[List.mem_cons,List.not_mem_nil,or_false]at r
 rcases r with rfl|rfl|rfl
 ·exact⟨t,wpOp_step D λK h=>z K λb w' e hW=>h b w' ⟨e,hW (s.set E t)⟩⟩
 ·exact⟨v,wpOp_step F λK h=>A K λb w' e hW=>h b w' ⟨e,hW (s.set G v)⟩⟩
 ·exact⟨y,wpOp_step H λK h=>B K λb w' e hW=>h b w' ⟨e,hW (s.set I y)⟩⟩
structure LK where
 f:Int
 t:Nat
 n:ON
def LK.cs(x:LK):List Value:=[.int .i64 x.f,.int .i64 (x.t:Int),.int .i64 x.n.kind,ft x.n.owner,.int .i64 x.n.number,.int .i64 x.n.index,ft x.n.text]
theorem wK(x:LK):x.cs.length=7:=rfl
theorem wL(x:LK):∀u∈x.cs,u.oneCell'=true:=by
 intro u a;simp only[LK.cs,List.mem_cons,List.not_mem_nil,or_false]at a
 rcases a with rfl|rfl|rfl|rfl|rfl|rfl|rfl <;> first|rfl|exact encN_one _
structure LR where
 A:Option Addr
 c:Nat
 xs:List LK
def LR.v(r:LR):Value:=.slice r.A r.xs.length r.c
def LR.own(w:World)(r:LR):Prop:=Own w 98 7 r.A r.xs.length r.c (r.xs.flatMap LK.cs)
def jU(rs:List LR):List Nat:=rs.flatMap λr=>eV r.A
structure RL(w:World)(B:Nat)(rs:List LR):Prop where
 box:BoxN w B 61 (rs.map LR.v).toArray
 own:∀r∈rs,r.own w
 dj:rs.Pairwise λr s=>∀k∈eV r.A,k ∉ eV s.A
section
variable {w w' w1 w2:World} {B:Nat} {rs:List LR} {S:List Nat} {ts:List TypeId}
theorem RL.fr(h:RL w B rs)(a:Fr S w w')(c:B ∉ S)(d:∀k∈jU rs,k ∉ S):RL w' B rs :=
 ⟨h.box.fr a c,λr b=>(h.own r b).fr a (λk e=>d k (List.mem_flatMap.2 ⟨r,b,e⟩)),h.dj⟩
theorem RL.fr0(h:RL w B rs)(a:Fr [] w w'):RL w' B rs:=h.fr a qs qs
theorem RL.frT(h:RL w B rs)(b:Fr S w w')(a:NoT [98,61] w S):RL w' B rs :=
 ⟨h.box.frT b a qs,λr c=>Own.frT (h.own r c) b a qs,h.dj⟩
theorem RL.noT(h:RL w B rs)(b:98 ∉ ts)(c:61 ∉ ts):NoT ts w (B::jU rs) :=
 ((NoT.box h.box c).app (T:=jU rs) λk f a e z d=>by
  obtain⟨r,j,i⟩:=List.mem_flatMap.1 f;exact NoT.own (h.own r j) b k i a e z d).mem qs
theorem RL.lt(h:RL w B rs):∀k∈jU rs,k<w.heap.size:=λk a=>by
 obtain⟨r,c,b⟩:=List.mem_flatMap.1 a;exact(h.own r c).lt k b
theorem RL.nB(h:RL w B rs):B ∉ jU rs:=λa=>by
 obtain⟨r,c,b⟩:=List.mem_flatMap.1 a;have:=NoT.own (ts:=[61]) (h.own r c) qd B b _ _ _ h.box;simp at this
theorem lY{a l2:List LR}{r:LR}{k:Nat}:k∈jU (a++r::l2) ↔ k∈jU a \/ k∈eV r.A \/ k∈jU l2:=by
 unfold jU;rw[List.flatMap_append,List.flatMap_cons,List.mem_append,List.mem_append]
theorem RL.put{d l2:List LR}{r:LR}{A':Option Addr}{c':Nat}{x:LK}(h:RL w B (d++r::l2))(p:Fr (eV r.A) w w1)(O:Own w1 98 7 A' (r.xs.length+1) c' (r.xs.flatMap LK.cs++x.cs))(i:∀k∈eV A',k∈eV r.A \/ w.heap.size<=k)(G:w1.setCell ⟨B,d.length,none⟩ (.slice A' (r.xs.length+1) c')=w2):
 RL w2 B (d++⟨A',c',r.xs++[x]⟩::l2)/\Fr (B::eV r.A) w w2/\∀k∈jU (d++⟨A',c',r.xs++[x]⟩::l2),k∈jU (d++r::l2) \/ w.heap.size<=k:=by
 have E:=h.nB;have u:B ∉ eV r.A:=λe=>E (lY.2 (.inr (.inl e)));have L:=h.box.fr p u;have q:Fr [B] w1 w2:=by rw[<-G];exact(Fq [B] w1).st _
 have P:=h.box.lt
 have J:B ∉ eV A':=λe=>by
  rcases i B e with a|a
  ·exact u a
  ·omega
 have y:=h.dj;rw[List.pairwise_append,List.pairwise_cons]at y;obtain⟨H,⟨o,I⟩,j⟩:=y;have z:Fr (B::eV r.A) w w2:=(p.mono (λk b=>.inl (by simp[b]))).trans q qs
 have F:∀s∈d++l2,s.own w2:=λs c=>by
  have e:s∈d++r::l2:=by
   rcases List.mem_append.1 c with a|a
   ·simp[a]
   ·simp[a]
  refine(h.own s e).fr z λk b N=>?_
  rcases List.mem_cons.1 N with rfl|C
  ·exact E (List.mem_flatMap.2 ⟨s,e,b⟩)
  ·rcases List.mem_append.1 c with a|a
   ·exact j s a r qs k b C
   ·exact o s a k C b
 have D:∀s∈d++l2,∀k∈eV s.A,k<w.heap.size:=λs c k b=>by
  have e:s∈d++r::l2:=by
   rcases List.mem_append.1 c with a|a
   ·simp[a]
   ·simp[a]
  exact(h.own s e).lt k b
 refine⟨⟨?_,?_,?_⟩,z,?_⟩
 ·have:=L.setAt d.length (.slice A' (r.xs.length+1) c')
  rw[G]at this
  have M:((d++r::l2).map LR.v).toArray.setIfInBounds d.length (.slice A' (r.xs.length+1) c')=((d++⟨A',c',r.xs++[x]⟩::l2).map LR.v).toArray:=by
   simp[LR.v]
  rw[M]at this;exact this
 ·intro s c
  rcases List.mem_append.1 c with a|a
  ·exact F s (by simp[a])
  ·rcases List.mem_cons.1 a with rfl|a
   ·show Own w2 98 7 A' (r.xs++[x]).length c' ((r.xs++[x]).flatMap LK.cs)
    rw[gG,List.flatMap_append];have:=O.fr q (λk b=>by simp only[gI];rintro rfl;exact J b);simpa using this
   ·exact F s (by simp[a])
 ·rw[List.pairwise_append,List.pairwise_cons]
  refine⟨H,⟨λs c k b f=>?_,I⟩,λs c t m k b f=>?_⟩
  ·rcases i k b with a|a
   ·exact o s c k a f
   ·have:=D s (by simp[c]) k f;omega
  ·rcases List.mem_cons.1 m with rfl|m
   ·rcases i k f with a|a
    ·exact j s c r qs k b a
    ·have:=D s (by simp[c]) k b;omega
   ·exact j s c t (by simp[m]) k b f
 ·intro k b
  rcases lY.1 b with a|a|a
  ·exact .inl (lY.2 (.inl a))
  ·rcases i k a with l|l
   ·exact .inl (lY.2 (.inr (.inl l)))
   ·exact .inr l
  ·exact .inl (lY.2 (.inr (.inr a)))
end
def GB(g mw Lk Us:Nat)(K:Option Addr)(Rl Ru:List LR)(er:List (NE ON Nat)):List Nat:=g::mw::Lk::Us::(eV K++(jU Rl++(jU Ru++gj er)))
structure GS(w:World)(g mw Lk Us n:Nat)(K:Option Addr)(nk kc:Nat)(ks:List Value)(Rl Ru:List LR)(er:List (NE ON Nat)):Prop where
 box:BoxN w g 205 #[.slice K nk kc,.slice (some ⟨Lk,0,none⟩) n n,.slice (some ⟨Us,0,none⟩) n n,.map (some mw)]
 own:Own w 89 4 K nk kc ks
 rl:RL w Lk Rl
 ru:RL w Us Ru
 wm:EK w mw er
 ne:Lk≠Us
 dj:∀k∈jU Rl,k ∉ jU Ru
 ln:Rl.length=n/\Ru.length=n
section
variable {w w' X:World} {g mw Lk Us n nk kc:Nat} {K:Option Addr} {ks:List Value} {Rl Ru:List LR} {er:List (NE ON Nat)} {S:List Nat} {ts:List TypeId}
theorem GS.fr0(h:GS w g mw Lk Us n K nk kc ks Rl Ru er)(a:Fr [] w w'):GS w' g mw Lk Us n K nk kc ks Rl Ru er :=
 ⟨h.box.fr a qs,h.own.fr a qs,h.rl.fr0 a,h.ru.fr0 a,ML.fr0 h.wm a,h.ne,h.dj,h.ln⟩
theorem GS.noT(h:GS w g mw Lk Us n K nk kc ks Rl Ru er)(d:205 ∉ ts)(e:89 ∉ ts)(a:98 ∉ ts)(b:61 ∉ ts)(f:3 ∉ ts):NoT ts w (GB g mw Lk Us K Rl Ru er) :=
 ((((NoT.box h.box d).app (NoT.map h.wm.map)).app ((h.rl.noT a b).app (h.ru.noT a b))).app ((NoT.own h.own e).app (ML.noT h.wm f))).mem (by
  intro k c;simp only[GB,List.mem_cons,List.mem_append,gI,List.not_mem_nil,or_false]at c ⊢
  rcases c with h|h|h|h|h|h|h|h <;> simp[h])
theorem GS.noS(h:GS w g mw Lk Us n K nk kc ks Rl Ru er):NoT (91::sy) w (GB g mw Lk Us K Rl Ru er):=h.noT qd qd qd qd qd
theorem GS.lt(h:GS w g mw Lk Us n K nk kc ks Rl Ru er):∀k∈GB g mw Lk Us K Rl Ru er,k<w.heap.size:=λk a=>by
 simp only[GB,List.mem_cons,List.mem_append]at a
 rcases a with rfl|rfl|rfl|rfl|a|a|a|a
 ·exact h.box.lt
 ·exact h.wm.map.lt
 ·exact h.rl.box.lt
 ·exact h.ru.box.lt
 ·exact h.own.lt k a
 ·exact h.rl.lt k a
 ·exact h.ru.lt k a
 ·exact ML.lt h.wm k a
theorem GS.putL{f:List LR}{r:LR}(h:GS w g mw Lk Us n K nk kc ks Rl Ru er)(j:Fr (Lk::eV r.A) w w')(m:r∈Rl)(y:RL w' Lk f)(u:∀k∈jU f,k∈jU Rl \/ w.heap.size<=k)(z:f.length=n):GS w' g mw Lk Us n K nk kc ks f Ru er:=by
 have p:∀k∈eV r.A,k∈jU Rl:=λk b=>List.mem_flatMap.2 ⟨r,m,b⟩
 have l:∀ts:List TypeId,98 ∉ ts->61 ∉ ts->NoT ts w (Lk::eV r.A):=λts i t=>(h.rl.noT i t).mem (by
  intro k b
  rcases List.mem_cons.1 b with rfl|b
  ·simp
  ·simp[p k b])
 have a:mw ∉ Lk::eV r.A:=λa=>by
  rcases List.mem_cons.1 a with e|a
  ·obtain⟨q,clock,d,_⟩:=h.wm.map
   rw[e,show w.heap[Lk]?=_ from h.rl.box]at d
   cases d
  ·rcases (h.rl.own r m).2 with⟨c,_⟩|⟨g,D,E,c,_,v,_⟩
   ·injection c with c;rw[c]at a;simp[eV]at a
   ·injection c with c
    rw[c]at a;simp only[eV,Option.map_some,Option.toList_some,gI]at a;obtain⟨q,clock,d,_⟩:=h.wm.map;rw[a,v]at d
    cases d
 refine⟨h.box.frT j (l [205] qd qd) qs,h.own.frT j (l [89] qd qd) qs,y,h.ru.fr j ?_ ?_,ML.frT h.wm j a (l [3] qd qd),h.ne,λk b o=>?_,⟨z,h.ln.2⟩⟩
 ·simp only[List.mem_cons,not_or]
  refine⟨Ne.symm h.ne,λa=>?_⟩;have:=NoT.own (ts:=[61]) (h.rl.own r m) qd Us a _ _ _ h.ru.box;simp at this
 ·intro k b a
  rcases List.mem_cons.1 a with rfl|a
  ·have:=h.ru.noT (ts:=[61]) qd
   obtain⟨s,C,x⟩:=List.mem_flatMap.1 b;have:=NoT.own (ts:=[61]) (h.ru.own s C) qd k x _ _ _ h.rl.box;simp at this
  ·exact h.dj k (p k a) b
 ·rcases u k b with i|i
  ·exact h.dj k i o
  ·have:=h.ru.lt k o;omega
theorem GS.putU{f:List LR}{r:LR}(h:GS w g mw Lk Us n K nk kc ks Rl Ru er)(j:Fr (Us::eV r.A) w w')(m:r∈Ru)(y:RL w' Us f)(t:∀k∈jU f,k∈jU Ru \/ w.heap.size<=k)(z:f.length=n):GS w' g mw Lk Us n K nk kc ks Rl f er:=by
 have o:∀k∈eV r.A,k∈jU Ru:=λk b=>List.mem_flatMap.2 ⟨r,m,b⟩
 have l:∀ts:List TypeId,98 ∉ ts->61 ∉ ts->NoT ts w (Us::eV r.A):=λts i q=>(h.ru.noT i q).mem (by
  intro k b
  rcases List.mem_cons.1 b with rfl|b
  ·simp
  ·simp[o k b])
 have a:mw ∉ Us::eV r.A:=λa=>by
  rcases List.mem_cons.1 a with e|a
  ·obtain⟨p,clock,d,_⟩:=h.wm.map
   rw[e,show w.heap[Us]?=_ from h.ru.box]at d
   cases d
  ·rcases (h.ru.own r m).2 with⟨c,_⟩|⟨g,D,E,c,_,u,_⟩
   ·injection c with c;rw[c]at a;simp[eV]at a
   ·injection c with c
    rw[c]at a;simp only[eV,Option.map_some,Option.toList_some,gI]at a;obtain⟨p,clock,d,_⟩:=h.wm.map;rw[a,u]at d
    cases d
 refine⟨h.box.frT j (l [205] qd qd) qs,h.own.frT j (l [89] qd qd) qs,h.rl.fr j ?_ ?_,y,ML.frT h.wm j a (l [3] qd qd),h.ne,λk b v=>?_,⟨h.ln.1,z⟩⟩
 ·simp only[List.mem_cons,not_or]
  refine⟨h.ne,λa=>?_⟩;have:=NoT.own (ts:=[61]) (h.ru.own r m) qd Lk a _ _ _ h.rl.box;simp at this
 ·intro k b a
  rcases List.mem_cons.1 a with rfl|a
  ·obtain⟨s,C,x⟩:=List.mem_flatMap.1 b
   have:=NoT.own (ts:=[61]) (h.rl.own s C) qd k x _ _ _ h.ru.box;simp at this
  ·exact h.dj k b (o k a)
 ·rcases t k v with i|i
  ·exact h.dj k b i
  ·have:=h.rl.lt k b;omega
theorem GS.putW{c:List (NE ON Nat)}(h:GS w g mw Lk Us n K nk kc ks Rl Ru er)(b:Fr (mw::gj er) w w')(d:EK w' mw c):GS w' g mw Lk Us n K nk kc ks Rl Ru c:=by
 have a:∀ts:List TypeId,3 ∉ ts->NoT ts w (mw::gj er):=λts e=>((NoT.map h.wm.map).app (ML.noT h.wm e)).mem qs;exact⟨h.box.frT b (a [205] qd) qs,h.own.frT b (a [89] qd) qs,h.rl.frT b (a _ qd),h.ru.frT b (a _ qd),d,h.ne,h.dj,h.ln⟩
theorem GS.putK{K':Option Addr}{l kc':Nat}{ks':List Value}(h:GS w g mw Lk Us n K nk kc ks Rl Ru er)(p:Fr (eV K) w X)(v:Own X 89 4 K' l kc' ks')(r:∀k∈eV K',k∈eV K \/ w.heap.size<=k)(m:Fr [g] X w')
 (s:BoxN w' g 205 #[.slice K' l kc',.slice (some ⟨Lk,0,none⟩) n n,.slice (some ⟨Us,0,none⟩) n n,.map (some mw)]):GS w' g mw Lk Us n K' l kc' ks' Rl Ru er:=by
 have j:Fr (g::eV K) w w':=(p.mono (λk d=>.inl (by simp[d]))).trans m qs;have i:∀ts:List TypeId,205 ∉ ts->89 ∉ ts->NoT ts w (g::eV K):=λts f q=>((NoT.box h.box f).app (NoT.own h.own q)).mem qs
 have a:mw ∉ g::eV K:=λa=>by
  rcases List.mem_cons.1 a with e|a
  ·obtain⟨o,clock,c,_⟩:=h.wm.map
   rw[e,show w.heap[g]?=_ from h.box]at c
   cases c
  ·rcases h.own.2 with⟨b,_⟩|⟨g,x,y,b,_,t,_⟩
   ·injection b with b;rw[b]at a;simp[eV]at a
   ·injection b with b
    rw[b]at a;simp only[eV,Option.map_some,Option.toList_some,gI]at a;obtain⟨o,clock,c,_⟩:=h.wm.map;rw[a,t]at c
    cases c
 have u:g ∉ eV K':=λd=>by
  rcases r g d with f|f
  ·have:=NoT.own (ts:=[205]) h.own qd g f _ _ _ h.box
   simp at this
  ·have:=h.box.lt;omega
 exact⟨s,v.fr m (by intro k d;simp only[gI];rintro rfl;exact u d),h.rl.frT j (i _ qd qd),h.ru.frT j (i _ qd qd),ML.frT h.wm j a (i [3] qd qd),h.ne,h.dj,h.ln⟩
end
theorem jk{P:Program}{c:Code}{K:Act->World->Prop}{Q:Exit->Act->World->Prop}{a:Act}{w:World}(R:Act->World->Prop)(h:c.wp P (Exit.then R (λ_ _ _=>False)) a w)(d:∀b w',R b w'->K b w'):c.wp P (Exit.then K Q) a w :=
 wp_mono h λe a w h=>by cases e <;> first|exact d _ _ h|exact h.elim
end Go.Proofs.YtlpmiimgacfmkaaGreatDoor
