/- Part of the proof. -/
import Derived.Test.YtlpmiimgacfmkaaGreatDoorCSp1
set_option linter.all false
set_option maxHeartbeats 4000000
set_option maxRecDepth 100000
namespace Go.Proofs.YtlpmiimgacfmkaaGreatDoor
open Go.Proofs.Tryz List
open Go.RowKit Go.ChangeShapes Go.WideShapes Go.Deep Go.Joins
def Row.of_add{w:World}{a:Addr}{n c:Nat}{xs:List Value}(e:xs.length=n*c)(i:0<c)(h:∀j u,xs[j]?=some u->w.cell? (a.add j)=some u):Row w w.heap.size c (some a) n xs:=by
 refine⟨e,λf=>?_⟩;have g:0<xs.length:=by rw[e];exact Nat.mul_pos f i
 obtain⟨b,off,m⟩:=a;have d:=h 0 xs[0] (gg g);have k:m=none:=by simpa [Addr.add]using World.cell?_spot d
 subst k;refine⟨b,off,rfl,?_,λj u l=>?_⟩
 ·have:=World.block_lt_of_cell? _ _ d
  simpa [Addr.add]using this
 ·have:=h j u l
  rwa [Go.WideShapes.add_plain]at this
def yR{α:Type}{f:α->List Value}{m:Nat}(b:∀x,(f x).length=m)(c:0<m){w:World}{a:Addr}{l:List α}(h:∀(k:Nat) (t:α),l[k]?=some t->∀(r:Nat) (u:Value),(f t)[r]?=some u->w.cell? (a.add (k*m+r))=some u):
 ∀j u,(l.flatMap f)[j]?=some u->w.cell? (a.add j)=some u:=by
 intro j u p;have s:=l5 b l;have g:=(gV.1 p).1;rw[s]at g;have q:j / m<l.length:=(Nat.div_lt_iff_lt_mul c).2 g;have i:=gg q;have v:j % m<m:=Nat.mod_lt _ c;have e:j / m*m+j % m=j:=by rw[Nat.mul_comm];exact Nat.div_add_mod j m
 have d:(l.flatMap f)[j / m*m+j % m]?=(f l[j / m])[j % m]?:=by
  have:∀(xs:List α) (j:Nat) (x:α) (o:Nat),o<m->xs[j]?=some x->(xs.flatMap f)[j*m+o]?=(f x)[o]?:=by
   intro xs
   induction xs with
   | nil=>intro j x o _ h;simp at h
   | cons y r z =>
    intro j x o n h
    cases j with
    | zero=>simp at h;subst h;rw[flatMap_cons,Nat.zero_mul,Nat.zero_add,List.getElem?_append_left (by rw[b];exact n)]
    | succ j=>rw[flatMap_cons,List.getElem?_append_right (by rw[b,Nat.add_mul];omega),b,show (j+1)*m+o - m=j*m+o by rw[Nat.add_mul];omega];exact z j x o n (by simpa using h)
  exact this l _ _ _ v i
 rw[e,p]at d;have:=h _ _ i _ _ d.symm
 rwa [e]at this
section
variable {H:Type} {enc:TypeId × Value->H} {w:World} {fuel:Nat} {cs:List Value} {x:DataW H × List MemPlace}
def Fits(t:TypeId)(d:DataW H):Prop:=∀k∈d.weights prog t,k<=reachBytes
def mg{e:TypeId}{d:DataW H}:∀ {l:List (DataW H)},d∈l->∀k∈d.weights prog e,k∈DataW.weightsAll prog e l
 | a::l,h,k,b=>by
  simp only[DataW.weightsAll,mem_append]
  rcases mem_cons.1 h with rfl|h
  ·exact .inl b
  ·exact .inr (mg h k b)
def Fits.slice{t e:TypeId}{a b:List (DataW H)}(c:prog.underlying t=some (.slice e))(h:Fits t (.slice a b)):(a.length+b.length)*prog.bytesOf e<=reachBytes :=
 h _ (by simp[DataW.weights,c])
def Fits.elem{t e:TypeId}{a g:List (DataW H)}(f:prog.underlying t=some (.slice e))(h:Fits t (.slice a g)){d:DataW H}(b:d∈a):Fits e d :=
 λk c=>h k (by
  simp only[DataW.weights,f,mem_cons,mem_append];exact .inr (.inl (mg b k c)))
def Fits.field{t:TypeId}{a:Array Field}{b:List (DataW H)}{j:Nat}{f:Field}{d:DataW H}(i:prog.underlying t=some (.struct a))(h:Fits t (.agg b))(e:a[j]?=some f)(c:b[j]?=some d):Fits f.type d :=
 λk g=>h k (by
  simp only[DataW.weights,i];exact DataW.weights_mem_each (t:=f.type) (by rw[List.getElem?_map,Array.getElem?_toList,e];rfl) c k g)
def Fits.str{t:TypeId}{s:Nm}(h:Fits (H:=H) t (.lit (.string s))):s.length<=140737488355328:=by
 have:=h s.length (by simp[DataW.weights]);unfold reachBytes at this;omega
def sF{α:Type}{f:α->List Value}{m:Nat}{P:α->Prop}{t e:TypeId}(p:∀x,(f x).length=m)(s:0<m)(b:prog.underlying t=some (.slice e))(J:prog.cellsOf e=m)(I:0<prog.bytesOf e)
 (L:∀(n:Nat) (cs':List Value) (y:DataW H × List MemPlace),Fits e y.1->DataW.trod enc prog w 0 (λ_=>true) true n e cs'=some y->∃z,cs'=f z/\P z)
 (D:Fits t x.1) (F:DataW.trod enc prog w 0 (λ_=>true) true fuel t cs=some x) :
 ∃A c,∃l:List α,cs=[.slice A l.length c]/\Rd w m A l.length (l.flatMap f)/\l.length<=140737488355328/\l.length<=c/\∀z∈l,P z:=by
 rcases open_slice b F with⟨h,_⟩|⟨a,g,q,E,n,T,U,h,_,N,_,B,rfl,v⟩
 ·exact⟨none,0,[],h,Row.nil_,qs,qs,λz d=>by simp at d⟩
 ·replace B:E=q:=by simpa using B
  have R:=D.slice b;simp only[length_map,length_range,reachBytes]at R;rw[J]at v
  have⟨l,o,C⟩:=qm (λi (z:α)=>P z/\∀(r:Nat) (u:Value),(f z)[r]?=some u->w.cell? (a.add (i*m+r))=some u) g (λi j=>by
   have⟨cs',K,S⟩:=v i qo;obtain⟨z,rfl,d⟩:=L n cs' _ (D.elem b (mem_map.2 ⟨i,mem_range.2 j,rfl⟩)) S;have⟨_,V,G⟩:=World.cells?_some K;refine⟨z,d,λr u b=>?_⟩;have Q:r<m:=by rw[<-p z];exact(gV.1 b).1
   rw[<-Go.Deep.add_add,G r Q,b])
  have O:(l.flatMap f).length=l.length*m:=l5 p l;have W:g*1<=(g+(E - g))*prog.bytesOf e:=Nat.mul_le_mul qo I;refine⟨some a,q,l,by rw[h,o],Row.of_add O s (yR p s λk t M=>(C k t M).2),by rw[o];omega,by rw[o];exact N,λz d=>?_⟩;have⟨i,j⟩:=mem_iff_getElem?.1 d;exact(C i z j).1
def IO(p:Fits 31 x.1)(B:DataW.trod enc prog w 0 (λ_=>true) true fuel 31 cs=some x):∃n:ON,cs=n.cs/\n.owner.length<=140737488355328/\n.text.length<=140737488355328:=by
 obtain⟨xs,n,_,rfl,D,F,a⟩:=DataW.trod_struct underlying31 B;have E:cs.length=5:=D.trans qk
 match cs,E with
 | [c0,c1,c2,c3,c4],_ =>
  have q:∀j,j<5->∃y,xs[j]?=some y:=λj C=>⟨_,gg (by rw[F];exact C)⟩;have⟨O,e0⟩:=q 0 qo;have⟨r,b⟩:=q 1 qo;have⟨P,z⟩:=q 2 qo;have⟨Q,A⟩:=q 3 qo;have⟨s,c⟩:=q 4 qo;have I:prog.cellsOf 3=1:=qk
  have G:prog.cellsOf 29=1:=qk
  have J:prog.cellsOf 9=1:=qk
  have d:DataW.trod enc prog w 0 (λ_=>true) true n 3 (([c0,c1,c2,c3,c4].drop 0).take (prog.cellsOf 3))=some O:=(a 0 _ rfl).trans e0;have e:DataW.trod enc prog w 0 (λ_=>true) true n 29 (([c0,c1,c2,c3,c4].drop 1).take (prog.cellsOf 29))=some r:=(a 1 _ rfl).trans b;have f:DataW.trod enc prog w 0 (λ_=>true) true n 3 (([c0,c1,c2,c3,c4].drop 2).take (prog.cellsOf 3))=some P:=(a 2 _ rfl).trans z;have g:DataW.trod enc prog w 0 (λ_=>true) true n 3 (([c0,c1,c2,c3,c4].drop 3).take (prog.cellsOf 3))=some Q:=(a 3 _ rfl).trans A;have h:DataW.trod enc prog w 0 (λ_=>true) true n 9 (([c0,c1,c2,c3,c4].drop 4).take (prog.cellsOf 9))=some s:=(a 4 _ rfl).trans c;rw[I]at d f g;rw[G]at e;rw[J]at h;have M:Fits 29 r.1:=p.field (j:=1) underlying31 rfl (by rw[List.getElem?_map,b];rfl);have N:Fits 9 s.1:=p.field (j:=4) underlying31 rfl (by rw[List.getElem?_map,c];rfl);have⟨t,i,_,_⟩:=DataW.trod_int underlying3 d;obtain⟨K,k,rfl,_⟩:=DataW.trod_string underlying29 e;have⟨u,l,_,_⟩:=DataW.trod_int underlying3 f;have⟨v,m,_,_⟩:=DataW.trod_int underlying3 g;obtain⟨L,o,rfl,_⟩:=DataW.trod_string underlying9 h;simp at i k l m o;subst i k l m o;exact⟨⟨t,K.data.toList,u,v,L.data.toList⟩,rfl,M.str,N.str⟩
def GI(k:Fits 95 x.1)(s:DataW.trod enc prog w 0 (λ_=>true) true fuel 95 cs=some x):∃c:CH,cs=c.cs/\c.fit:=by
 obtain⟨xs,n,_,rfl,u,z,a⟩:=DataW.trod_struct underlying95 s;have v:cs.length=7:=u.trans qk
 match cs,v with
 | [c0,c1,c2,c3,c4,c5,c6],_ =>
  have q:∀j,j<3->∃y,xs[j]?=some y:=λj t=>⟨_,gg (by rw[z];exact t)⟩;have⟨l,e0⟩:=q 0 qo;have⟨o,b⟩:=q 1 qo;have⟨I,r⟩:=q 2 qo;have B:prog.cellsOf 31=5:=qk
  have C:prog.cellsOf 9=1:=qk
  have A:prog.cellsOf 4=1:=qk
  have d:DataW.trod enc prog w 0 (λ_=>true) true n 31 (([c0,c1,c2,c3,c4,c5,c6].drop 0).take (prog.cellsOf 31))=some l:=(a 0 _ rfl).trans e0;have e:DataW.trod enc prog w 0 (λ_=>true) true n 9 (([c0,c1,c2,c3,c4,c5,c6].drop 5).take (prog.cellsOf 9))=some o:=(a 1 _ rfl).trans b;have f:DataW.trod enc prog w 0 (λ_=>true) true n 4 (([c0,c1,c2,c3,c4,c5,c6].drop 6).take (prog.cellsOf 4))=some I:=(a 2 _ rfl).trans r;rw[B]at d;rw[C]at e;rw[A]at f;have F:Fits 31 l.1:=k.field (j:=0) underlying95 rfl (by rw[List.getElem?_map,e0];rfl);have G:Fits 9 o.1:=k.field (j:=1) underlying95 rfl (by rw[List.getElem?_map,b];rfl);have⟨m,g,D,l2⟩:=IO F d;obtain⟨E,h,rfl,_⟩:=DataW.trod_string underlying9 e;obtain⟨p,i,rfl⟩:=DataW.trod_bool underlying4 f;simp[ON.cs]at g h i;obtain⟨rfl,rfl,rfl,rfl,rfl⟩:=g;subst h i;exact⟨⟨m,E.data.toList,p⟩,rfl,D,l2,G.str⟩
structure AIn(w:World)(x:AX):Prop where
 s:fg x.a.k.lin=.string x.sl
 r:Chs w x.A x.a.r
 w:Chs w x.B x.a.w
 lin:x.a.k.lin.length<=140737488355328
 rf:∀c∈x.a.r,c.fit
 wf:∀c∈x.a.w,c.fit
 rl:x.a.r.length<=140737488355328
 wl:x.a.w.length<=140737488355328
def AIn.fr0{w w':World}{x:AX}(h:AIn w x)(a:Fr [] w w'):AIn w' x:=⟨h.s,h.r.fr0 a,h.w.fr0 a,h.lin,h.rf,h.wf,h.rl,h.wl⟩
def AIn.fit{w:World}{x:AX}(h:AIn w x)(b:x.a.r.length<=10)(c:x.a.w.length<=10):x.a.fit:=⟨h.lin,h.rf,h.wf,qo,qo⟩
def Hf(a:Fits 91 x.1)(h:DataW.trod enc prog w 0 (λ_=>true) true fuel 91 cs=some x):∃z:AX,cs=z.cs/\AIn w z:=by
 obtain⟨xs,n,_,rfl,X,ae,f⟩:=DataW.trod_struct underlying91 h;have Y:cs.length=6:=X.trans qk
 match cs,Y with
 | [c0,c1,c2,c3,c4,c5],_ =>
  have q:∀j,j<3->∃y,xs[j]?=some y:=λj g=>⟨_,gg (by rw[ae];exact g)⟩;have⟨L,e0⟩:=q 0 qo;have⟨M,i⟩:=q 1 qo;have⟨N,k⟩:=q 2 qo;have k4:prog.cellsOf 89=4:=qk
  have k1:prog.cellsOf 62=1:=qk
  have l:DataW.trod enc prog w 0 (λ_=>true) true n 89 (([c0,c1,c2,c3,c4,c5].drop 0).take (prog.cellsOf 89))=some L:=(f 0 _ rfl).trans e0;have m:DataW.trod enc prog w 0 (λ_=>true) true n 62 (([c0,c1,c2,c3,c4,c5].drop 4).take (prog.cellsOf 62))=some M:=(f 1 _ rfl).trans i;have o:DataW.trod enc prog w 0 (λ_=>true) true n 62 (([c0,c1,c2,c3,c4,c5].drop 5).take (prog.cellsOf 62))=some N:=(f 2 _ rfl).trans k;rw[k4]at l;rw[k1]at m o;have w0:Fits 89 L.1:=a.field (j:=0) underlying91 rfl (by rw[List.getElem?_map,e0];rfl);have w1:Fits 62 M.1:=a.field (j:=1) underlying91 rfl (by rw[List.getElem?_map,i];rfl);have w2:Fits 62 N.1:=a.field (j:=2) underlying91 rfl (by rw[List.getElem?_map,k];rfl);obtain⟨ks,e,_,rfl,ai,ag,b⟩:=DataW.trod_struct underlying89 l;have p:∀j,j<4->∃y,ks[j]?=some y:=λj g=>⟨_,gg (by rw[ag];exact g)⟩;have⟨ah,U⟩:=p 0 qo;have⟨z1,V⟩:=p 1 qo;have⟨z2,W⟩:=p 2 qo;have⟨O,E⟩:=p 3 qo;have j3:prog.cellsOf 3=1:=qk
  have af:prog.cellsOf 29=1:=qk
  have G:DataW.trod enc prog w 0 (λ_=>true) true e 3 (([c0,c1,c2,c3].drop 0).take (prog.cellsOf 3))=some ah:=(b 0 _ rfl).trans U;have I:DataW.trod enc prog w 0 (λ_=>true) true e 3 (([c0,c1,c2,c3].drop 1).take (prog.cellsOf 3))=some z1:=(b 1 _ rfl).trans V;have J:DataW.trod enc prog w 0 (λ_=>true) true e 3 (([c0,c1,c2,c3].drop 2).take (prog.cellsOf 3))=some z2:=(b 2 _ rfl).trans W;have K:DataW.trod enc prog w 0 (λ_=>true) true e 29 (([c0,c1,c2,c3].drop 3).take (prog.cellsOf 29))=some O:=(b 3 _ rfl).trans E;rw[j3]at G I J;rw[af]at K;have v3:Fits 29 O.1:=w0.field (j:=3) underlying89 rfl (by rw[List.getElem?_map,E];rfl);have⟨R,s,_,_⟩:=DataW.trod_int underlying3 G;have⟨S,t,_,_⟩:=DataW.trod_int underlying3 I;have⟨T,u,_,_⟩:=DataW.trod_int underlying3 J;obtain⟨F,A,rfl,_⟩:=DataW.trod_string underlying29 K;have⟨Q,c,r,C,Z,ab,_,aa⟩:=sF (P:=CH.fit) i9 qo underlying62 qk (of_decide_eq_true qk) (λ_ _ _ a h=>GI a h) w1 m;have⟨B,d,v,D,hv,ad,_,ac⟩:=sF (P:=CH.fit) i9 qo underlying62 qk (of_decide_eq_true qk) (λ_ _ _ a h=>GI a h) w2 o;simp at s t u A C D;subst s t u A C D;exact⟨⟨⟨⟨R,S,T,F.data.toList⟩,r,v⟩,F,Q,c,B,d⟩,rfl,rfl,Z,hv,v3.str,aa,ac,ab,ad⟩
structure AIns(w:World)(A:Option Addr)(l:List AX):Prop where
 row:Rd w 6 A l.length (l.flatMap AX.cs)
 each:∀z∈l,AIn w z
 len:l.length<=140737488355328
def AIns.fr0{w w':World}{A:Option Addr}{l:List AX}(h:AIns w A l)(a:Fr [] w w'):AIns w' A l:=⟨h.row.fr0 a,λz b=>(h.each z b).fr0 a,h.len⟩
def FE{r:Reach}{e:Nat}{v:Value}{d:DataW H}{p:List MemPlace}(m:Value.okWide prog w r e 22 v)(b:Fits 22 d)(h:DataW.Trod enc prog w 0 (λ_=>true) true 22 v d p):∃A c l,v=.slice A l.length c/\AIns w A l:=by
 obtain⟨fuel,f⟩:=h;obtain⟨a,o,n,rfl⟩:=okWide_slice underlying22 m;have⟨A,c,l,g,k,i,_,j⟩:=sF (x:=(d,p)) (P:=AIn w) lx qo underlying22 qk (of_decide_eq_true qk) (λ_ _ _ b h=>Hf b h) b f;refine⟨A,c,l,?_,k,j,i⟩;simp[Value.cells]at g;obtain⟨rfl,rfl,rfl⟩:=g;rfl
end
open Go.RowKit
def BG(w:World)(e:Ending)(w':World):Prop:=∃b xs M,e=.returned (.tuple #[.pointer (some ⟨b,0,none⟩),.bool true])/\HG w' b xs M/\Fr [] w w'/\∀k∈M,w.heap.size<=k
def FF(L:Option Addr)(c:Nat)(l:List AX)(w:World)(am:Ok w)(h:AIns w L l):Calls prog 10 #[.slice L l.length c] w (BG w):=by
 have⟨n,ad⟩:=eR (l.length);have u:=Hd (An ad h);have O:=Hd am;rw[ad]
 go_enter func10,ntmps10
 go_upto_region 2 with(first
  | (go_at_call 33;(with_reducible refine(xA w).mono ?_);rintro e w1 ⟨rfl,an,ah⟩;have t:=Hd (An an ah))
  | (go_at_call 32;(with_reducible refine(GC w.heap.size w1 (O.out.fr0 t.out.2) t.out.1).mono ?_);rintro e w2 ⟨b,M0,rfl,U,ai,af⟩;have N:=Hd (An U (An (t.2.then ai) (show ∀k∈M0,w.heap.size<=k from λk g=>Nat.le_trans t.2.size (af k g))))))
 go_wp2
 go_loopw [6] (λi W=>∃(j:Nat) (xs:List AX) (M:List Nat),j<=n/\j<=12/\i=j/\HG W b xs M/\xs.length<=j/\Fr [] w W/\∀k∈M,w.heap.size<=k) (λi _=>12 - (intOf i).toNat)
 case atStart=>exact⟨0,[],M0,Nat.zero_le _,Nat.zero_le _,rfl,N.1,qs,N.2.1,N.2.2⟩
 case round =>
  obtain⟨j,xs,M,hj,aq,rfl,U,ak,aj,hM⟩:=hrel;have f:=Hd (An U (An ak (An aj hM)))
  by_cases V:j<n/\j<12
  ·obtain⟨V,au⟩:=V
   have al:(j:Int)<(n:Int):=qo
   have av:(j:Int)<12:=qo
   have S:=u.2.fr0 f.2.2.1;have Z:Row wr wr.heap.size 6 L n (l.flatMap AX.cs):=by have h:=S.row;unfold Rd at h;rw[u.1]at h;exact h
   obtain⟨bb,off,rfl,ap,T⟩:=fK lx Z qo;obtain⟨x,J⟩:∃x,l[j]?=some x:=⟨_,gg (by rw[u.1];exact V)⟩;have p:=u.2.each x (gH J);have o:=T j x J;have⟨m,E⟩:=eR (x.a.r.length);have⟨K,F⟩:=eR (x.a.w.length);have⟨ti,I⟩:=eR (x.a.k.rnd);have⟨ph,G⟩:=eR (x.a.k.phase);have⟨ix,D⟩:=eR (x.a.k.idx);have⟨ab,H⟩:=eR (x.sl);have⟨P,v⟩:=eR (x.A);have⟨Q,z⟩:=eR (x.B);have⟨rc,X⟩:=eR (x.c);have⟨rd,Y⟩:=eR (x.d);have aa:x.a.val ab P rc Q rd=.agg #[ti,ph,ix,ab,.slice P m rc,.slice Q K rd]:=by unfold AG.val;rw[I,G,D,E,F]
   unfold AX.cs at o;rw[I,G,D,H,v,z,X,Y,E,F]at o;have⟨y0,y1,y2,y3,y4,y5⟩:=Jl o;have aw:IntKind.i64.wrap ((j:Int)+1)=(j:Int)+1:=by simp[IntKind.wrap,IntKind.bits,IntKind.signed];omega
   by_cases ao:m<=10/\K<=10
   ·have ac:decide ((m:Int)<=10)=true:=by simp;omega
    have ag:decide ((K:Int)<=10)=true:=by simp;omega
    have R:=tY b xs M x.a ab P Q rc rd wr f.1 (O.fr0 f.2.2.1) (λk g=>Nat.le_trans O.low (f.2.2.2 k g)) (by rw[<-H];exact p.s) (p.fit qo qo) qo qo (by have:=f.2.1;omega)
     (λW hW=>by
      have hi:=p.fr0 (f.2.2.1.trans hW (λk g=>.inr (f.2.2.2 k g)));exact⟨by rw[<-v];exact hi.r,by rw[<-z];exact hi.w⟩)
    rw[aa]at R;have HA:=Hd R;clear R aa I G D H v z X Y E F o T Z J p S
    go_wp2_with (go_at_call 34;(with_reducible refine HA.out.mono ?_);rintro e w3 ⟨q,rfl,hq⟩;have HQ:=Hd hq;clear hq)
    go_roundw
    case rel =>
     rcases HQ.out with⟨_,_,C⟩|⟨_,_,M',y,_,hg,C,ae⟩
     ·exact⟨j+1,xs,M,qo,qo,by go_num,f.1.fr0 C,by have:=f.2.1;omega,f.2.2.1.then C,f.2.2.2⟩
     ·exact⟨j+1,xs++[y],M',qo,qo,by go_num,hg,by have:=f.2.1;simp;omega,f.2.2.1.trans C (λk g=>.inr (f.2.2.2 k g)),λk g=>(ae k g).elim (f.2.2.2 k) (λh=>Nat.le_trans f.2.2.1.size h)⟩
    case measure=>simp[intOf];omega
   ·clear aa I G D H v z X Y E F o T Z J p S
    by_cases h1:m<=10
    ·have ac:decide ((m:Int)<=10)=true:=by simp;omega
     have ag:decide ((K:Int)<=10)=false:=by simp;omega
     go_wp2
     go_roundw
     case rel=>exact⟨j+1,xs,M,qo,qo,by go_num,f.1,by have:=f.2.1;omega,f.2.2.1,f.2.2.2⟩
     case measure=>simp[intOf];omega
    ·have ac:decide ((m:Int)<=10)=false:=by simp;omega
     go_wp2
     go_roundw
     case rel=>exact⟨j+1,xs,M,qo,qo,by go_num,f.1,by have:=f.2.1;omega,f.2.2.1,f.2.2.2⟩
     case measure=>simp[intOf];omega
  ·by_cases ar:j<n
   ·obtain rfl:j=12:=qo
    have al:((12:Nat):Int)<(n:Int):=qo
    go_wp2
    go_ret2
    exact⟨b,xs,M,rfl,f.1,f.2.2.1,f.2.2.2⟩
   ·obtain rfl:j=n:=qo
    go_wp2
    go_ret2
    exact⟨b,xs,M,rfl,f.1,f.2.2.1,f.2.2.2⟩
end Go.Proofs.YtlpmiimgacfmkaaGreatDoor
