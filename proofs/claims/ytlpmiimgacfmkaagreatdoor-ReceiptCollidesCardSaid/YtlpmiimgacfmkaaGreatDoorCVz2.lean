/- Part of the proof. -/
import Derived.Test.YtlpmiimgacfmkaaGreatDoorCCe2
import Derived.Test.YtlpmiimgacfmkaaGreatDoorCShelf3
set_option linter.all false
set_option maxHeartbeats 4000000
set_option maxRecDepth 100000
namespace Go.Proofs.YtlpmiimgacfmkaaGreatDoor
open Go.Proofs.Tryz List
open Go.RowKit Go.Shelf Go.Sort
section
variable {α:Type} [Inhabited α]
def xI{enc:α->List Value}{k:Nat}(hk:∀x,(enc x).length=k){xs:List α}{t:Nat}(ht:t<xs.length*k):(xs.flatMap enc)[t]?=some (flatK enc k xs.toArray)[t]!:=by
 have k0:0<k:=by rcases Nat.eq_zero_or_pos k with h|h;· subst h;simp at ht
                 ·exact h
 have hj:t / k<xs.length:=Nat.div_lt_of_lt_mul (by rw[Nat.mul_comm];exact ht);have ho:t % k<k:=Nat.mod_lt _ k0;rw[get_flatK _ _ _ t (by simpa using ht)];have h1:=ia hk (gg hj) ho;have h2:t / k*k+t % k=t:=by rw[Nat.mul_comm];exact Nat.div_add_mod t k
 rw[h2]at h1;rw[h1];have h3:(xs.toArray[t / k]!)=xs[t / k]:=by simp[hj]
 rw[h3];have h4:t % k<(enc xs[t / k]).length:=by rw[hk];exact ho
 rw[gg h4,getElem!_pos (enc (xs[t / k])) (t % k) h4]
def zm{enc:α->List Value}{k:Nat}(n:∀x,(enc x).length=k){w:World}{e:TypeId}{b c:Nat}{xs:List α}(i:Own w e k (some ⟨b,0,none⟩) xs.length c (xs.flatMap enc)):HoldsK enc k w b 0 xs.toArray:=by
 rcases i.2 with⟨a,_⟩|⟨g,q,r,a,_,f,_,_,_,o⟩
 ·simp at a
 ·injection a with j _ _
  injection j with l
  injection l with m
  subst m;intro t p;have h:t<xs.length*k:=by simpa using p
  refine⟨?_,by simp[World.frozen?,f]⟩;have d:=xI n h;rw[<-o,List.getElem?_take_of_lt h]at d;simp only[World.cell?,f,Nat.zero_add];simp only[Option.isSome_none,Bool.false_eq_true,if_false,id];rw[<-Array.getElem?_toList,d]
def xJ(enc:α->List Value)(k:Nat)(w:World)(b n:Nat)(d:Array α)(os:Array Obj):Fr [b] w (sortWorldK enc k w b 0 n d os):=by
 refine(Fq [b] w).grown (row:=some b) ⟨rfl,rfl,rfl,?_,λq c a=>?_⟩ qs
 ·unfold sortWorldK putRowK
  simp
 ·unfold sortWorldK putRowK
  rw[heap_grow_old _ _ (by simpa using c)];have:b≠q:=λe=>a (by rw[e]);simp[putRow,mapBlock,Sort.ahead,Array.getElem?_modify,this]
def ur{ρ:Ren}(L:SlLaysF0.n6 prog ρ){k:Nat}(aE:∀w,(isAgg (ρ.t 24)).run prog w=.ok true w)(zE:∀w,(Go.sizeOf (ρ.t 24)).run prog w=.ok k w){enc:α->List Value}(A:∀x,(enc x).length=k)(O:∀x,∀v∈enc x,v.oneCell'=true){cf:α->α->Int}(p:Tot cf){g:Nat}
 (N:∀args w,(callFunc g args).run prog w=.ok (.enter g args) w) (R:∀x y W,Calls prog g #[.agg (enc x).toArray,.agg (enc y).toArray] W (jg W (cf x y))) {e:TypeId} {b c:Nat} {xs:List α} {w:World} (ad:xs.length<=100000000) (E:Own w e k (some ⟨b,0,none⟩) xs.length c (xs.flatMap enc)) :
 Calls prog (ρ.f 6) #[.slice (some ⟨b,0,none⟩) xs.length c,.func (.func g) #[] #[]] w λe w'=>e=.returned (.tuple #[])/\∃D:List α,D.Perm xs/\(D.Pairwise λx y=>cf x y<=0)/\Cs w' b (D.flatMap enc)/\Fr [b] w w':=by
 have C:=E.lt b (by simp[eX]);have F:=zm A E
 have ab:SWO (ltOf cf):=by
  have u:∀x y,(ltOf cf x y=true ↔ cf x y<0):=λx y=>by simp[ltOf]
  have I:∀x y,(ltOf cf x y=false ↔ ¬cf x y<0):=λx y=>by simp[ltOf]
  refine⟨λx=>?_,λx y z a b=>?_,λx y z a b=>?_⟩
  ·rw[I]
   have:=p.anti x x;omega
  ·rw[u]at *
   have:=p.tr x y z qo qo;omega
  ·rw[I]at *
   have h:=p.anti x y;have s:=p.anti y z;have P:=p.anti x z;have:=p.tr z y x qo qo;omega
 have S:CmpLays prog g #[] enc k cf b 0 xs.toArray.size w:=λm os dk u x y=>by
  refine(yx (v:=(cf x y)) ((R x y _).mono λe M o=>⟨o.1,?_⟩)).mono λe M o=>o;exact⟨o.2.os,o.2.tape,o.2.output,o.2.size,λq Z=>o.2.block q Z qs⟩
 have u:=AnyQ.slices_SortFunc L k aE zE enc A O cf ab g #[] b 0 c xs.toArray w N S F C (by simp;omega);rw[show xs.toArray.size=xs.length by simp]at u;refine u.mono ?_;rintro e w' ⟨rfl,d,n,os,X,aa,rfl⟩;obtain⟨Y,ae,H⟩:=X;have B:d.size=xs.length:=by simpa using Y
 have T:d.extract 0 xs.length=d:=by rw[<-B];simp
 have ac:xs.toArray.extract 0 xs.length=xs.toArray:=by
  have:=Array.extract_size (xs:=xs.toArray);simp at this ⊢
 rw[T,ac]at H;have Q:=holdsK_sortWorldK_c enc k w b 0 xs.toArray d n os F C (by simpa using B);refine⟨rfl,d.toList,by simpa using H,?_,⟨Nat.lt_of_lt_of_le C (xJ enc k w b n d os).size,λt v K=>?_⟩,xJ enc k w b n d os⟩
 ·rw[List.pairwise_iff_getElem]
  intro i j U G V;have h:=aa i j (Nat.zero_le _) V (by rw[<-B];simpa using G);rw[getElem!_pos d j (by simpa using G),getElem!_pos d i (by simpa using U)]at h;have s:=p.anti d[i] d[j];have P:¬cf d[j] d[i]<0:=by simpa [ltOf]using h
  simp only[Array.getElem_toList];omega
 ·have J:t<d.toList.length*k:=by
   have h:=(gV.1 K).1
   have s:∀l:List α,(l.flatMap enc).length=l.length*k:=λl=>by
    induction l with
    | nil=>simp
    | cons a r ih=>rw[List.flatMap_cons,gu,A,ih,List.length_cons,Nat.add_mul];omega
   rw[s]at h;exact h
  have h:=xI A J;rw[K]at h;have s:=(Q t (by simpa using J)).1;rw[Nat.zero_add]at s;rw[s,Option.some.inj h];simp
end
def Gc(w:World)(a b:Int)(t:TypeId):Row ((w.alloc (.cells #[.int .i64 a,.int .i64 b] t))) (w.alloc (.cells #[.int .i64 a,.int .i64 b] t)).heap.size 1 (some ⟨w.heap.size,0,none⟩) 2 ([a,b].map vB):=by
 refine⟨qs,λ_=>⟨_,0,rfl,qs,λj u c=>?_⟩⟩;have:=jK w [a,b] t j u (by simpa [vB]using c);rw[fV]at this;rw[Nat.zero_add];exact this
def Gd(a b:CH)(w:World)(i:eY a.n=0)(j:eY b.n=0):Calls prog 129 #[.agg a.cs.toArray,.agg b.cs.toArray] w (jg w (gD a.n b.n)):=by
 have c:=λW=>pp a.n b.n W i j;generalize gD a.n b.n=r at c ⊢;clear i j;obtain⟨⟨G,K,I,E,t1⟩,S,y⟩:=a;obtain⟨⟨H,L,J,F,t2⟩,T,z⟩:=b;obtain⟨M,k,_,_⟩:=eS K;obtain⟨O,m,_,_⟩:=eS t1;obtain⟨Q,p,_,_⟩:=eS S;obtain⟨N,l,_,_⟩:=eS L;obtain⟨P,o,_,_⟩:=eS t2;obtain⟨R,q,_,_⟩:=eS T;unfold fu at c;unfold CH.cs;simp only[k,m,p,l,o,q]at c ⊢;have v:=Hd c;clear c k m p l o q;obtain⟨U,s,D,g,h⟩:=ir w #[.int .i64 G,.string M,.int .i64 I,.int .i64 E,.string O,.string Q,.bool y] 95 w.heap.size;obtain⟨w2,t,V,B,d⟩:=ir U #[.int .i64 H,.string N,.int .i64 J,.int .i64 F,.string P,.string R,.bool z] 95 (w.heap.size+1);have A:=g.fr d qs;have x:=Hd (h.then d);have f:=Hd (An s t);clear s t h d g
 go_enter func129,ntmps129
 go_upto_region 1 with fail
 rw[f.out.1,f.out.2]
 try rw[D]
 obtain⟨X,Y,p2,Z,p4⟩:=A.m5;obtain⟨q0,q1,q2,q3,q4⟩:=B.m5
 go_wp2_with (go_at_call 103;(with_reducible refine(v.out w2).mono ?_);rintro e w3 ⟨rfl,C⟩;have u:=Hd C)
 go_ret
 exact⟨rfl,x.out.then u.out⟩
def ls(a b:LK):Int:=Aa [Lib.compareInt (a.t:Int) (b.t:Int),gD a.n b.n]
def tot_cmpLK:Tot ls:=by
 have t1:=tot_int.pull (λx:LK=>(x.t:Int));have t:=t1.lex (tot_cmpO.pull LK.n);refine t.of λa b=>?_;unfold ls;rw[jl]
 have:(if gD a.n b.n≠0 then gD a.n b.n else Aa [])=gD a.n b.n:=by
  split
  ·rfl
  ·rename_i h;show (0:Int)=_;omega
 simp only[jl,this]
def Gf(a b:LK)(w:World)(O:eY a.n=0)(P:eY b.n=0):Calls prog 131 #[.agg a.cs.toArray,.agg b.cs.toArray] w (jg w (ls a b)):=by
 have j:=λW=>pp a.n b.n W O P;unfold ls;generalize gD a.n b.n=D at j ⊢;obtain⟨M,h,⟨o,Y,q,l,t1⟩⟩:=a;obtain⟨N,i,⟨p,Z,r,m,t2⟩⟩:=b;obtain⟨s,R,_,_⟩:=eS Y;obtain⟨u,T,_,_⟩:=eS t1;obtain⟨t,S,_,_⟩:=eS Z;obtain⟨v,U,_,_⟩:=eS t2;unfold fu at j;unfold LK.cs;simp only[R,T,S,U]at j ⊢;have x:=Hd (λW=>Tryz.cmp_Compare_int (h:Int) (i:Int) W);generalize Lib.compareInt (h:Int) (i:Int)=C at x ⊢;have K:=Hd j;obtain⟨w1,I,V,z,E⟩:=ir w #[M,h,o,s,q,l,u] 98 w.heap.size;obtain⟨w2,J,X,B,k⟩:=ir w1 #[N,i,p,t,r,m,v] 98 (w.heap.size+1);have A:=z.fr k qs
 have H:∀W,Fr [] w2 W->(W.cell? ⟨w.heap.size,1,none⟩=some h/\W.cell? ⟨w.heap.size,2,none⟩=some o/\W.cell? ⟨w.heap.size,3,none⟩=some s/\W.cell? ⟨w.heap.size,4,none⟩=some q/\W.cell? ⟨w.heap.size,5,none⟩=some l/\W.cell? ⟨w.heap.size,6,none⟩=some u)/\W.cell? ⟨w.heap.size+1,1,none⟩=some i/\W.cell? ⟨w.heap.size+1,2,none⟩=some p/\W.cell? ⟨w.heap.size+1,3,none⟩=some t/\W.cell? ⟨w.heap.size+1,4,none⟩=some r/\W.cell? ⟨w.heap.size+1,5,none⟩=some m/\W.cell? ⟨w.heap.size+1,6,none⟩=some v:=λW F =>
  have f:=A.fr F qs;have g:=B.fr F qs
  ⟨⟨f.c 1,f.c 2,f.c 3,f.c 4,f.c 5,f.c 6⟩,g.c 1,g.c 2,g.c 3,g.c 4,g.c 5,g.c 6⟩
 have HSS:=Hd H;have L:=Hd (E.then k);have y:=Hd (An I J);clear I J E k z A B H X
 go_enter func131,ntmps131
 go_upto_region 1 with fail
 rw[y.out.1,y.out.2]
 try rw[V]
 generalize hZ:w.heap.size=d at HSS ⊢
 go_region_held3 (λW=>(W.cell? ⟨d,1,none⟩=some h/\W.cell? ⟨d,2,none⟩=some o/\W.cell? ⟨d,3,none⟩=some s/\W.cell? ⟨d,4,none⟩=some q/\W.cell? ⟨d,5,none⟩=some l/\W.cell? ⟨d,6,none⟩=some u)/\W.cell? ⟨d+1,1,none⟩=some i/\W.cell? ⟨d+1,2,none⟩=some p/\W.cell? ⟨d+1,3,none⟩=some t/\W.cell? ⟨d+1,4,none⟩=some r/\W.cell? ⟨d+1,5,none⟩=some m/\W.cell? ⟨d+1,6,none⟩=some v) (with_reducible refine HSS.out _ ?_;(repeat(first|exact Fq _ _|exact G|refine Fr.drew ?_|refine Fr.alloc ?_ _));done) (first
  | (go_at_call 133;(with_reducible refine(x.out _).mono ?_);rintro e w7 ⟨rfl,rfl⟩)
  | (go_at_call 103;(with_reducible refine(K.out _).mono ?_);rintro e w3 ⟨rfl,Q⟩;have G:=(Fq [] w2).drew.then Q)
  | (go_at_call 132;(with_reducible refine(yP _ 2 2 _ [C,D] _ (Gc _ C D _) qo).mono ?_);rintro e w7 ⟨rfl,rfl⟩))
 all_goals
  go_wp2_with fail
  go_ret
  exact⟨rfl,by repeat(first|exact L.out.then G|refine Fr.drew ?_|refine Fr.alloc ?_ _)⟩
def Ez(x:CH):∀u∈x.cs,u.oneCell'=true:=by
 intro u a;simp only[CH.cs,List.mem_cons,List.not_mem_nil,or_false]at a
 rcases a with rfl|rfl|rfl|rfl|rfl|rfl|rfl <;> rfl
def EA(b c:Nat)(l:List CH)(w:World)(f:∀x∈l,eY x.n=0)(d:l.length<=100000000)(p:l≠[])(h:Own w 95 7 (some ⟨b,0,none⟩) l.length c (l.flatMap CH.cs)):
 Calls prog 128 #[.slice (some ⟨b,0,none⟩) l.length c,.func (.func 129) #[] #[]] w λe w'=>e=.returned (.tuple #[])/\∃a:List CH,a.Perm l/\(a.Pairwise λx y=>gD x.n y.n<=0)/\Cs w' b (a.flatMap CH.cs)/\Fr [b] w w':=by
 obtain⟨xs,rfl⟩:∃xs:List {x:CH // eY x.n=0},xs.map Subtype.val=l:=⟨l.attachWith _ f,qs⟩;obtain⟨g,t⟩:=List.exists_mem_of_ne_nil _ p
 letI:Inhabited {x:CH // eY x.n=0}:=⟨⟨g,f g t⟩⟩
 rw[List.length_map,List.flatMap_map]at h;rw[List.length_map]at d ⊢;have i:=enters_of func129 qk rfl;have r:=ur Tryz.lSortCH (k:=7) (aE:=Tryz.isAgg95) (zE:=Tryz.sizeOf95) (enc:=λx:{x:CH // eY x.n=0}=>x.1.cs) (λx=>rfl) (λx=>Ez x.1) (cf:=λx y=>gD x.1.n y.1.n) (tot_cmpO.pull λx:{x:CH // eY x.n=0}=>x.1.n) i (λx y W=>Gd x.1 y.1 W x.2 y.2) d h;refine r.mono ?_;rintro e w' ⟨m,a,q,s,j,o⟩;refine⟨m,a.map Subtype.val,q.map _,?_,?_,o⟩
 ·rw[List.pairwise_map]
  exact s
 ·rw[List.flatMap_map]
  exact j
def EB(b c:Nat)(l:List LK)(w:World)(f:∀x∈l,eY x.n=0)(d:l.length<=100000000)(p:l≠[])(h:Own w 98 7 (some ⟨b,0,none⟩) l.length c (l.flatMap LK.cs)):
 Calls prog 130 #[.slice (some ⟨b,0,none⟩) l.length c,.func (.func 131) #[] #[]] w λe w'=>e=.returned (.tuple #[])/\∃a:List LK,a.Perm l/\(a.Pairwise λx y=>ls x y<=0)/\Cs w' b (a.flatMap LK.cs)/\Fr [b] w w':=by
 obtain⟨xs,rfl⟩:∃xs:List {x:LK // eY x.n=0},xs.map Subtype.val=l:=⟨l.attachWith _ f,qs⟩;obtain⟨g,t⟩:=List.exists_mem_of_ne_nil _ p
 letI:Inhabited {x:LK // eY x.n=0}:=⟨⟨g,f g t⟩⟩
 rw[List.length_map,List.flatMap_map]at h;rw[List.length_map]at d ⊢;have i:=enters_of func131 qk rfl;have r:=ur Tryz.lSortLK (k:=7) (aE:=Tryz.isAgg98) (zE:=Tryz.sizeOf98) (enc:=λx:{x:LK // eY x.n=0}=>x.1.cs) (λx=>rfl) (λx=>EJ x.1) (cf:=λx y=>ls x.1 y.1) (tot_cmpLK.pull λx:{x:LK // eY x.n=0}=>x.1) i (λx y W=>Gf x.1 y.1 W x.2 y.2) d h;refine r.mono ?_;rintro e w' ⟨m,a,q,s,j,o⟩;refine⟨m,a.map Subtype.val,q.map _,?_,?_,o⟩
 ·rw[List.pairwise_map]
  exact s
 ·rw[List.flatMap_map]
  exact j
def xK{α:Type}{cf:α->α->Int}(i:Tot cf){xs d:List α}(c:d.Perm xs)(f:xs.Pairwise λx y=>cf x y<0)(g:d.Pairwise λx y=>cf x y<=0):d=xs:=by
 induction xs generalizing d with
 | nil=>exact c.eq_nil
 | cons a r k =>
  cases d with
  | nil=>exact absurd c.length_eq qs
  | cons b s =>
   have j:b=a:=by
    rcases List.mem_cons.1 (c.subset (List.mem_cons_self ..))with h|h
    ·exact h
    ·have l:=(List.pairwise_cons.1 f).1 b h
     rcases List.mem_cons.1 (c.symm.subset (List.mem_cons_self ..))with e|e
     ·exact e.symm
     ·have m:=(List.pairwise_cons.1 g).1 a e
      have n:=i.anti a b;omega
   subst j;rw[k (List.perm_cons b |>.1 c) (List.pairwise_cons.1 f).2 (List.pairwise_cons.1 g).2]
open Go.RowKit Go.Shelf
def xL(l:List AG)(a:List Nat)(i:Nat):∀(r:List CH) (d s:LS),kB l a i r d=some s->∃L:List LK,s.lks=d.lks++L/\L.map (λx=>(x.t,x.n))=r.map λc=>(a.getD i 0,c.n)
 | [],d,s,h=>by rw[kB]at h;rw[<-Option.some.inj h];exact⟨[],qs,rfl⟩
 | x::r,d,s,h=>by
  rw[kB]at h;have⟨k,b,e⟩:=Option.bind_eq_some_iff.1 h;have⟨L,f,g⟩:=xL l a i r k s e;rw[nT]at b;split at b
  ·cases b
  ·have j:=Option.some.inj b
   refine⟨⟨tb a (i7 l i x.n),a.getD i 0,x.n⟩::L,?_,?_⟩
   ·rw[f,<-j]
    simp
   ·rw[map_cons,map_cons,g]
def Gg{x y:LK}(h:x.t<y.t):ls x y<0:=by
 have a:Lib.compareInt (x.t:Int) (y.t:Int)=-1:=by unfold Lib.compareInt;rw[if_pos qo]
 unfold ls;rw[a,jl];simp
def Gh{x y:LK}(h:x.t=y.t)(b:gD x.n y.n<0):ls x y<0:=by
 have a:Lib.compareInt (x.t:Int) (y.t:Int)=0:=by unfold Lib.compareInt;rw[if_neg qo,if_neg qo]
 unfold ls;rw[a,jl,jl];simp only[ne_eq,not_true_eq_false,if_false];rw[if_pos qo];exact b
def qv{l:List AG}{d:List Nat}(A:∀a∈l,l6 a=true)(z:d.Pairwise (·<·))(B:l.length=d.length):∀ {i:Nat} {s:LS},j0 l d i=some s->(s.lks.Pairwise λx y=>ls x y<0)/\(∀x∈s.lks,eY x.n=0)/\∀x∈s.lks,∃j,j<i/\d[j]?=some x.t
 | 0,s,h=>by rw[j0]at h;rw[<-Option.some.inj h];simp[GQ]
 | i+1,s,h=>by
  rw[j0]at h;have⟨R,G,H⟩:=Option.bind_eq_some_iff.1 h;have⟨D,p2,u⟩:=qv A z B G;have⟨L,e,f⟩:=xL l d i _ R s H
  cases k:l[i]? with
  | none =>
   rw[k]at f;have:L=[]:=by simpa using f
   subst this;rw[append_nil]at e;rw[e]
   exact⟨D,p2,λx b=>by have⟨j,q,h⟩:=u x b;exact⟨j,qo,h⟩⟩
  | some a =>
   rw[k]at f;have J:i<d.length:=by rw[<-B];exact(gV.1 k).1
   have C:=A a (gH k);have P:=uO (gr C).1;have N:∀x∈a.r,eY x.n=0:=λx b=>(iT (gG (gr C).1 x b)).1;have v:d[i]?=some (d.getD i 0):=by rw[getD_eq_getElem?_getD,gg J];rfl
   have m:∀x∈L,x.t=d.getD i 0/\∃c∈a.r,x.n=c.n:=λx b=>by
    have g:(x.t,x.n)∈L.map λx=>(x.t,x.n):=mem_map.2 ⟨x,b,rfl⟩;rw[f]at g;have⟨c,o,p⟩:=mem_map.1 g
    injection p with E F
    exact⟨E.symm,c,o,F.symm⟩
   have O:L.Pairwise λx y=>ls x y<0:=by
    have g:(L.map λx=>(x.t,x.n)).Pairwise λx y=>x.1=y.1/\gD x.2 y.2<0:=by
     rw[f,pairwise_map];exact P.imp λh=>⟨rfl,h⟩
    rw[pairwise_map]at g;exact g.imp λh=>Gh h.1 h.2
   refine⟨?_,?_,?_⟩
   ·rw[e,pairwise_append]
    refine⟨D,O,λx b y Q=>Gg ?_⟩;have⟨j,q,M⟩:=u x b;rw[(m y Q).1];have⟨K,T⟩:=gV.1 M;have⟨I,S⟩:=gV.1 v;have:=pairwise_iff_getElem.1 z j i K I q;omega
   ·intro x b
    rw[e,mem_append]at b
    rcases b with b|b
    ·exact p2 x b
    ·have⟨_,c,o,p⟩:=m x b
     rw[p];exact N c o
   ·intro x b
    rw[e,mem_append]at b
    rcases b with b|b
    ·have⟨j,q,h⟩:=u x b
     exact⟨j,qo,h⟩
    ·exact⟨i,Nat.lt_succ_self _,by rw[(m x b).1];exact v⟩
def Ao(f:ON->Option CH)(l:List CH):Prop:=(l.Pairwise λa b=>gD a.n b.n<=0)/\(l.map CH.n).Nodup/\(∀n,uo l n=f n)/\∀x∈l,eY x.n=0/\x.v.length<=65536
structure RIg(w W:World)(c mu ma ri:Nat)(v0 v1 v2 v3:Value)(LA AA:Option Addr)(lc ac:Nat)(s:LS)(es l:List (ON × CH)):Prop where
 box:BoxN W c 64 #[v0,v1,v2,v3,.slice LA s.lks.length lc,.slice AA l.length ac]
 own:Own W 98 7 LA s.lks.length lc (s.lks.flatMap LK.cs)
 oa:Own W 95 7 AA l.length ac (l.flatMap λe=>e.2.cs)
 nl:l=[]->AA=none/\ac=0
 um:∃es,MM 3 (λm:Nat=>.int .i64 (m:Int)) (λ_:Unit=>.bool true) W mu es/\∀j,jd es j=if j∈s.used then some ()else none
 rg:RgM fu sZ W ri ma es l
 d:c<w.heap.size/\w.heap.size<=mu/\mu<ma/\ma<ri
 la:∀q∈eX LA,ma<q/\q<ri
 ab:∀q∈eX AA,ri<q
 fr:Fr [c] w W
section
variable {w X Y Z:World} {c mu ma ri lc ac ac':Nat} {v0 v1 v2 v3:Value} {LA AA AA':Option Addr} {s:LS} {es l:List (ON × CH)}
def RIg.put{g:World}{e:ON × CH}(h:RIg w X c mu ma ri v0 v1 v2 v3 LA AA lc ac s es l)(m:Fr [ri] X g)(o:RgM fu sZ g ri ma es (l++[e]))(j:Fr (eX AA) g Y)(x:Own Y 95 7 AA' (l.length+1) ac' ((l.flatMap λe=>e.2.cs)++e.2.cs))(t:∀q∈eX AA',q∈eX AA \/ g.heap.size<=q)
 (f:Fr [c] Y Z) (u:BoxN Z c 64 #[v0,v1,v2,v3,.slice LA s.lks.length lc,.slice AA' (l.length+1) ac']):RIg w Z c mu ma ri v0 v1 v2 v3 LA AA' lc ac' s es (l++[e]):=by
 have v:=h.d;have z:=o.lt.1;have⟨p,y,r⟩:=h.um;have k:∀q,q<=ri->q ∉ eX AA:=λq a b=>by have:=h.ab q b;omega
 have n:∀q∈eX AA',ri<q:=λq a=>by
  rcases t q a with i|i
  ·exact h.ab q i
  ·omega
 refine⟨by rw[gu];exact u,((h.own.fr m (λq a b=>by have:=h.la q a;simp at b;omega)).fr j (λq a=>k q (by have:=h.la q a;omega))).fr f (λq a b=>by have:=h.la q a;simp at b;omega),?_,qs,⟨p,((y.fr m (by simp;omega)).fr j (k _ qo)).fr f (by simp;omega),r⟩,(o.fr j (k _ qo) (k _ qo)).fr f (by simp;omega) (by simp;omega),v,h.la,n,?_⟩
 ·have i:=x.fr f (λq a b=>by have:=n q a;simp at b;omega)
  rw[gu,flatMap_append];simpa using i
 ·exact((h.fr.trans m (λq a=>.inr (by simp at a;omega))).trans j (λq a=>.inr (by have:=h.ab q a;omega))).then f
end
def Hp{f:ON->Option CH}{es l:List (ON × CH)}{d:List CH}(C:∀n,jd es n=f n)(b:∀e∈es,e.2.n=e.1/\e.2.v.length<=65536/\eY e.1=0)(F:(es.map Prod.fst).Nodup)(H:es.Perm l)(g:d.Perm (l.map Prod.snd))(I:d.Pairwise λx y=>gD x.n y.n<=0):Ao f d:=by
 have A:=g.trans (H.symm.map _);have i:∀x,x∈d ↔ ∃e∈es,e.2=x:=λx=>by rw[A.mem_iff,mem_map]
 have z:(d.map CH.n).Nodup:=by
  have h:(es.map Prod.snd).map CH.n=es.map Prod.fst:=by
   rw[map_map];exact map_congr_left λe a=>(b e a).1
  have m:=A.map CH.n;rw[h]at m;exact m.nodup_iff.2 F
 have G:∀x∈d,eY x.n=0/\x.v.length<=65536:=λx K=>by
  obtain⟨e,a,rfl⟩:=(i x).1 K;exact⟨by rw[(b e a).1];exact(b e a).2.2,(b e a).2.1⟩
 refine⟨I,z,λn=>?_,G⟩
 ·rw[<-C n]
  cases q:jd es n with
  | none =>
   have h:=kY q;refine xE λy g a=>?_;obtain⟨e,p,rfl⟩:=(i y).1 g
   exact h e p (by rw[<-(b e p).1];exact a)
  | some v =>
   have⟨L,l2,E⟩:=km q;have r:(n,v)∈es:=by rw[E];simp
   have J:=(i v).2 ⟨_,r,rfl⟩;have B:=(b _ r).1;have⟨j,t,u⟩:=getElem_of_mem J;refine xD (j:=j) (by rw[gg t,u]) B λy g a=>?_;obtain⟨k,D,rfl⟩:=getElem_of_mem g;rw[length_take]at D;rw[getElem_take]at a;have o:=pairwise_iff_getElem.1 z k j (by rw[length_map];omega) (by rw[length_map];exact t) qo;rw[getElem_map,getElem_map,u]at o;exact o (a.trans B.symm)
def ut{α:Type}[DecidableEq α]:∀ {l m:List α},l.Nodup->(∀x∈l,x∈m)->l.length<=m.length
 | [],m,_,_=>by simp
 | a::r,m,h,d=>by
  have b:=List.nodup_cons.1 h;have g:=ut (m:=m.erase a) b.2 λx f=>(List.mem_erase_of_ne (λe=>b.1 (by rw[<-e];exact f))).2 (d x (List.mem_cons_of_mem _ f));have c:=d a (List.mem_cons_self ..);rw[List.length_erase_of_mem c]at g;have i:=List.length_pos_of_mem c;simp only[List.length_cons];omega
def xM(l:List AG)(g:List Nat)(i:Nat):∀(r:List CH) (d s:LS),kB l g i r d=some s->∀n y,s.asm n=some y->d.asm n=some y \/ n∈r.map CH.n
 | [],d,s,h,n,y,c=>by rw[kB]at h;rw[<-Option.some.inj h]at c;exact .inl c
 | x::r,d,s,h,n,y,c=>by
  rw[kB]at h;obtain⟨k,b,j⟩:=Option.bind_eq_some_iff.1 h
  rcases xM l g i r k s j n y c with a|a
  ·rw[nT]at b
   split at b
   ·cases b
   ·rw[<-Option.some.inj b]at a
    unfold AH at a
    cases e:i7 l i x.n with
    | some p=>rw[e]at a;exact .inl a
    | none =>
     rw[e]at a;simp only at a
     by_cases f:x.n=n
     ·exact .inr (by rw[List.map_cons,<-f];exact List.mem_cons_self ..)
     ·rw[if_neg f]at a
      exact .inl a
  ·exact .inr (List.mem_cons_of_mem _ a)
def xN(l:List AG)(f:List Nat):∀ {i:Nat} {s:LS},j0 l f i=some s->∀n y,s.asm n=some y->n∈(l.flatMap λa=>a.r).map CH.n
 | 0,s,h,n,y,d=>by rw[j0]at h;rw[<-Option.some.inj h]at d;simp[GQ]at d
 | i+1,s,h,n,y,d=>by
  rw[j0]at h;obtain⟨m,g,j⟩:=Option.bind_eq_some_iff.1 h
  rcases xM l f i _ m s j n y d with b|b
  ·exact xN l f g n y b
  ·cases e:l[i]? with
   | none=>rw[e]at b;simp at b
   | some a =>
    rw[e]at b;obtain⟨c,k,rfl⟩:=List.mem_map.1 b;exact List.mem_map.2 ⟨c,List.mem_flatMap.2 ⟨a,gH e,k⟩,rfl⟩
def EC{K:Nat}{l:List AG}(h:∀a∈l,a.r.length<=K):(l.flatMap λa=>a.r).length<=K*l.length:=by
 induction l with
 | nil=>simp
 | cons a r c =>
  have d:=h a (List.mem_cons_self ..);have e:=c λx b=>h x (List.mem_cons_of_mem _ b);rw[List.flatMap_cons,gu,List.length_cons,Nat.mul_succ];omega
def Gi{K:Nat}{l:List AG}{g:List Nat}{i:Nat}{s:LS}{b:List (ON × CH)}(q:j0 l g i=some s)(h:∀a∈l,a.r.length<=K)(k:∀n,jd b n=s.asm n)(p:(b.map Prod.fst).Nodup):b.length<=K*l.length:=by
 have c:=ut (m:=(l.flatMap λa=>a.r).map CH.n) p λn o=>by
  obtain⟨e,j,rfl⟩:=List.mem_map.1 o
  cases f:s.asm e.1 with
  | some y=>exact xN l g q _ y f
  | none =>
   have d:=k e.1;rw[f]at d;exact absurd rfl (kY d e j)
 rw[List.length_map,List.length_map]at c;exact Nat.le_trans c (EC h)
def ED{w:World}{A:Option Addr}{m:Nat}:Rd w m A 0 []:=⟨qs,λh=>absurd h qo⟩
def EE{w:World}{b m n:Nat}{xs:List Value}(h:Cs w b xs)(a:xs.length=n*m):Rd w m (some ⟨b,0,none⟩) n xs:=⟨a,λ_=>⟨b,0,rfl,h.1,λj u c=>by rw[Nat.zero_add];exact h.2 j u c⟩⟩
def qw:∀l:List CH,(l.flatMap CH.cs).length=l.length*7
 | []=>rfl
 | a::r=>by rw[List.flatMap_cons,gu,qw r,List.length_cons];simp only[CH.cs,List.length_cons,List.length_nil];omega
def Gj(A:Option Addr)(c:Nat)(l:List CH)(w:World)(k:∀x∈l,eY x.n=0)(j:l.length<=100000000)(h:Own w 95 7 A l.length c (l.flatMap CH.cs)):
 Calls prog 128 #[.slice A l.length c,.func (.func 129) #[] #[]] w λe w'=>e=.returned (.tuple #[])/\∃a:List CH,a.Perm l/\(a.Pairwise λx y=>gD x.n y.n<=0)/\Rd w' 7 A l.length (a.flatMap CH.cs)/\Fr (eX A) w w':=by
 by_cases d:l=[]
 ·subst d
  refine(Io A 0 c _ qo w).mono ?_;rintro e w' ⟨rfl,rfl⟩;exact⟨rfl,[],List.Perm.refl _,List.Pairwise.nil,ED,Fq _ _⟩
 ·obtain⟨b,rfl,_⟩:=Cs.of_own h (by cases l with|nil=>exact absurd rfl d|cons _ _=>simp)
  refine(EA b c l w k j d h).mono ?_;rintro e w' ⟨rfl,a,f,m,g,i⟩;exact⟨rfl,a,f,m,EE g (by rw[qw,f.length_eq]),by simpa [eX]using i⟩
def Gl(A:Option Addr)(c:Nat)(l:List LK)(w:World)(i:∀x∈l,eY x.n=0)(k:l.Pairwise λx y=>ls x y<0)(g:l.length<=100000000)(h:Own w 98 7 A l.length c (l.flatMap LK.cs)):
 Calls prog 130 #[.slice A l.length c,.func (.func 131) #[] #[]] w λe w'=>e=.returned (.tuple #[])/\Rd w' 7 A l.length (l.flatMap LK.cs)/\Fr (eX A) w w':=by
 by_cases a:l=[]
 ·subst a
  refine(Ir A 0 c _ qo w).mono ?_;rintro e w' ⟨rfl,rfl⟩;exact⟨rfl,ED,Fq _ _⟩
 ·obtain⟨b,rfl,_⟩:=Cs.of_own h (by cases l with|nil=>exact absurd rfl a|cons _ _=>simp)
  refine(EB b c l w i g a h).mono ?_;rintro e w' ⟨rfl,o,j,m,d,f⟩;obtain rfl:=xK tot_cmpLK j k m;exact⟨rfl,EE d h.len,by simpa [eX]using f⟩
end Go.Proofs.YtlpmiimgacfmkaaGreatDoor
