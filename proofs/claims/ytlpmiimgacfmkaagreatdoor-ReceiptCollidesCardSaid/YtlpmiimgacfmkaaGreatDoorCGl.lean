/- Part of the proof. -/
import Derived.Test.YtlpmiimgacfmkaaGreatDoorCGh
import Derived.Test.YtlpmiimgacfmkaaGreatDoorCPf3
set_option linter.all false
set_option maxHeartbeats 4000000
set_option maxRecDepth 100000
namespace Go.Proofs.YtlpmiimgacfmkaaGreatDoor
open Go.Proofs.Tryz List
open Go.RowKit Go.Shelf
attribute [local go_sem] Oper.semAt_some
def TG.bs:TG->List Nat
 | .nil=>[]
 | .node b l _ _ _ _ _ r=>l.bs++b::r.bs
def TG.bs_len:∀t:TG,t.bs.length=t.cnt
 | .nil=>rfl
 | .node b l _ _ _ _ _ r=>by simp[TG.bs,TG.cnt,TG.bs_len l,TG.bs_len r];omega
def GZ(l:Nat)(J:Nat->World->Prop):∀(t:TG) (n k:Nat) (W:World),(∀k W,J k W->TGat W t)->(∀i x d,t.bs[i]?=some x->J (k+i) d->YieldAt Fence.wide 0 prog l #[.pointer (some ⟨x,0,none⟩)] d λe u=>e=.returned (.bool true)/\J (k+i+1) u)->J k W ->
 CallsIn Fence.wide n prog 156 #[t.ptr,.func (.yield l) #[] #[]] W (Bo (J (k+t.cnt))):=by
 intro t
 induction t with
 | nil =>
  intro n k W _ _ o
  exact(qt n _ W).mono λe u ⟨g,j⟩=>⟨g,by rw[j];exact o⟩
 | node b a nm v H O Q f M N =>
  intro n k W p r o;have w:∀k W,J k W->W.cell? ⟨b,0,none⟩=some (.pointer a.adr)/\W.cell? ⟨b,1,none⟩=some (.pointer f.adr):=λk W h=>⟨(p k W h).1.c 0,(p k W h).1.c 1⟩;have A:=TG.bs_len a
  have y:=λn=>M n k W (λk W h=>(p k W h).2.1) (λi x d q=>r i x d (by
   show (a.bs++b::f.bs)[i]?=some x
   rw[List.getElem?_append_left (gV.1 q).1];exact q)) o
  have L:=λd=>r a.cnt b d (by
   show (a.bs++b::f.bs)[a.cnt]?=some b
   rw[<-A,List.getElem?_append_right (fW _)];simp)
  have z:=λn d g=>N n (k+a.cnt+1) d (λk W h=>(p k W h).2.2) (λi x m q j=>by
   have:=r (a.cnt+1+i) x m (by
    show (a.bs++b::f.bs)[a.cnt+1+i]?=some x
    rw[List.getElem?_append_right qo,A,show a.cnt+1+i - a.cnt=i+1 by omega,List.getElem?_cons_succ];exact q)
   rw[show k+(a.cnt+1+i)=k+a.cnt+1+i by omega]at this;exact this j) g
  rw[show k+(TG.node b a nm v H O Q f).cnt=k+a.cnt+1+f.cnt by show k+(a.cnt+1+f.cnt)=_;omega];have⟨Z,x1⟩:=w k W o;unfold TG.ptr at y z
  show CallsIn Fence.wide n prog 156 #[.pointer b,.func (.yield l) #[] #[]] W _
  have C:=Hd y;have G:=Hd L;have D:=Hd z;have s:=Hd w;refine callsIn_of_wp func156 rfl trivial ?_ rfl;simp only[ntmps156,size_toArray,length_cons,length_nil,Nat.reduceAdd,Nat.reduceSub,Array.replicate_succ,Array.replicate_zero,push_toArray,append_toArray,nil_append,cons_append]
  gi_wp2_with (first
   | (refine⟨trivial,λh=>absurd h (by simp[Fence.wide]),?_⟩;(with_reducible refine(C.out _).mono ?_);rintro e P ⟨rfl,g⟩;have⟨aa,z1⟩:=s.out _ P g;have⟨T,X,R,S,U,K⟩:=gC (m':=n - 1) (G.out _ g);have F:=Hd K)
   | fail)
  refine⟨λh=>absurd h (by simp[Fence.wide]),F.mono ?_⟩;rintro e m ⟨rfl,j⟩;have⟨_,V⟩:=s.out _ m j;have E:=Hd (λn=>D.out n m j)
  gi_wp2_with (refine⟨trivial,λh=>absurd h (by simp[Fence.wide]),?_⟩;(with_reducible refine(E.out _).mono ?_);rintro e Y ⟨rfl,I⟩;have B:=Hd I)
  go_ret
  exact⟨rfl,B.out⟩
def Bf(t:TG)(n b D:Nat)(w:World)(g:BoxN w D 86 #[.pointer (some ⟨b,0,none⟩)])(q:BoxN w b 184 #[t.ptr])(I:Nat->World->Prop)(j:∀k W,I k W->TGat W t)(l:Nat)(J:Nat->World->Prop)(W:World)(hW:Fr [] w W)(p:∀k a,J k a->I k a)
 (r:∀k x a,t.bs[k]?=some x->J k a->YieldAt Fence.wide (n - 1) prog l #[.pointer (some ⟨x,0,none⟩)] a λe d=>e=.returned (.bool true)/\J (k+1) d) (o:J 0 W) :
 CallsIn Fence.wide n prog 155 (#[.func (.yield l) #[] #[]]++#[.pointer (some ⟨D,0,none⟩)]) W λe d=>(∃v,e=.returned v)/\J t.bs.length d:=by
 have A:W.cell? ⟨D,0,none⟩=some (.pointer b):=(g.fr hW qs).c 0;have B:W.cell? ⟨b,0,none⟩=some (.pointer t.adr):=(q.fr hW qs).c 0
 have f:=λm=>GZ l J t m 0 W (λk W h=>j k W (p k W h)) (λi x a y h=>by
  rw[Nat.zero_add]at h ⊢;exact gC (r i x a y h)) o
 rw[TG.bs_len,show t.cnt=0+t.cnt from(Nat.zero_add _).symm];unfold TG.ptr at f;have s:=Hd f;clear g q r o hW f j p
 show CallsIn Fence.wide n prog 155 #[.func (.yield l) #[] #[],.pointer (some ⟨D,0,none⟩)] W _
 refine callsIn_of_wp func155 rfl trivial ?_ rfl;simp only[ntmps155,size_toArray,length_cons,length_nil,Nat.reduceAdd,Nat.reduceSub,Array.replicate_succ,Array.replicate_zero,push_toArray,append_toArray,nil_append,cons_append]
 gi_wp2_with (refine⟨trivial,λh=>absurd h (by simp[Fence.wide]),?_⟩;(with_reducible refine(s.out _).mono ?_);rintro e z ⟨rfl,u⟩)
 go_end0
 exact⟨⟨_,rfl⟩,u⟩
attribute [local go_sem] Oper.semAt_some
def ON.cs(n:ON):List Value:=[.int .i64 n.kind,fg n.owner,.int .i64 n.number,.int .i64 n.index,fg n.text]
def pq(n:ON):n.cs.length=5:=rfl
def Dt(n:ON):∀u∈n.cs,u.oneCell'=true:=by
 intro u a;simp only[ON.cs,mem_cons,not_mem_nil,or_false]at a
 rcases a with rfl|rfl|rfl|rfl|rfl <;> first|rfl|exact encN_one _
def TG.get{w:World}:∀ {t:TG} {k x:Nat},TGat w t->t.bs[k]?=some x->∃l r n v h s y,t.ns[k]?=some n/\BoxN w x 191 (jU l r n v h s y)
 | .nil,k,x,_,h=>by simp[TG.bs]at h
 | .node b l n v f s y r,k,x,a,h=>by
  have g:(TG.node b l n v f s y r).bs=l.bs++b::r.bs:=rfl;have i:(TG.node b l n v f s y r).ns=l.ns++n::r.ns:=rfl;have d:=TG.bs_len l;have e:=TG.cnt_ns l;rw[g]at h;rw[i]
  rcases Nat.lt_trichotomy k l.cnt with c|c|c
  ·rw[List.getElem?_append_left qo]at h ⊢
   exact TG.get a.2.1 h
  ·subst c
   rw[List.getElem?_append_right qo,d,Nat.sub_self,List.getElem?_cons_zero]at h;rw[List.getElem?_append_right qo,e,Nat.sub_self,List.getElem?_cons_zero]
   injection h with h
   subst h;exact⟨_,_,_,_,_,_,_,rfl,a.1⟩
  ·obtain⟨m,rfl⟩:∃m,k=l.cnt+1+m:=⟨k - l.cnt - 1,qo⟩
   rw[List.getElem?_append_right qo,d,show l.cnt+1+m - l.cnt=m+1 by omega,List.getElem?_cons_succ]at h;rw[List.getElem?_append_right qo,e,show l.cnt+1+m - l.cnt=m+1 by omega,List.getElem?_cons_succ];exact TG.get a.2.2 h
def Own.no_def{w:World}{e:TypeId}{i n c D:Nat}{A:Option Addr}{xs:List Value}{l:Option (List Deferred)}(h:Own w e i A n c xs)(d:w.heap[D]?=some (.deferred l)):D ∉ eX A:=by
 intro b
 rcases h.2 with⟨a,_⟩|⟨g,j,k,a,_,f,_⟩
 ·injection a with a;subst a;simp[eX]at b
 ·injection a with a
  subst a;simp only[eX,Option.map_some,Option.toList_some,ip]at b;subst b;rw[f]at d
  cases d
structure NmS(w:World)(t:TG)(B L k:Nat)(W:World):Prop where
 fr:Fr [] w W
 own:∃A c,BoxN W B 101 #[.slice A k c]/\Own W 31 5 A k c ((t.ns.take k).flatMap ON.cs)/\∀q∈eX A,L+2<=q
def NmS.fr2{w W b:World}{t:TG}{B L k:Nat}(h:NmS w t B L k W)(a:Fr [L,L+1] W b)(j:w.heap.size<=L)(i:B<L):NmS w t B L k b:=by
 have⟨A,c,e,f,d⟩:=h.own;exact⟨h.fr.trans a (by simp;omega),A,c,e.fr a (by simp;omega),f.fr a (λq g=>by have:=d q g;simp;omega),d⟩
def Du(w:World)(a:List ON)(e:Ending)(w':World):Prop:=∃A c,e=.returned (.slice A a.length c)/\Own w' 31 5 A a.length c (a.flatMap ON.cs)/\Fr [] w w'/\∀q∈eX A,w.heap.size<=q
def Fd:∃i,(prog).info? 31=some i/\i.zero=some (.agg #[.int .i64 0,.string ⟨#[]⟩,.int .i64 0,.int .i64 0,.string ⟨#[]⟩])/\i.size=5/\i.bytes=56:=info_parts qk
def Fe(b:Nat)(Z:List ON)(w:World)(h:SG w b Z)(hl:Z.length<=100000):Calls prog 39 #[.pointer (some ⟨b,0,none⟩)] w (Du w Z):=by
 obtain⟨rp,hh,hb,⟨t,rfl,ht,aQ,rfl,_⟩,hs⟩:=h;have hN:=λW=>callsIn_wide.1 (un 0 b W);have HN:=Hd hN;have HB:=Hd hb;have HT:=Hd ht;have aD:t.bs.length=t.ns.length:=by rw[TG.bs_len,TG.cnt_ns]
 have ab:=Hd aD;refine(callsIn_wide (n:=5)).1 ?_;refine callsIn_of_wp_marks func39 rfl trivial ?_ rfl;simp only[ntmps39,size_toArray,length_cons,length_nil,Nat.reduceAdd,Nat.reduceSub,Array.replicate_succ,Array.replicate_zero,push_toArray,append_toArray,nil_append,cons_append];refine wpIn_wide.2 ?_
 go_upto_region 2 with fail
 go_wp2_with (go_at_call 96;(with_reducible refine(HN.out _).mono ?_);rintro e w' ⟨rfl,rfl⟩)
 have⟨E,ar,aB,aG⟩:=kJ w #[gz] 101;have au:E.heap.size=w.heap.size+1:=by rw[<-ar,jZ]
 rw[ar];have⟨g,I⟩:=eR (E.alloc (.cells #[.pointer b] 86));have aL:g.heap.size=w.heap.size+2:=by rw[<-I,jZ,au]
 have ah:Fr [] E g:=by rw[<-I];exact(Fq [] E).alloc _
 have aF:BoxN g (w.heap.size+1) 86 #[.pointer b]:=by rw[<-I,<-au];exact BoxN.new E _ _
 have aC:=aB.fr ah qs;have ai:=aG.then ah;rw[I];have h0:NmS w t w.heap.size g.heap.size 0 g:=⟨ai,none,0,aC,Own.nil _ _ _,by simp[eX]⟩
 refine pH none (λ_=>True) (a:=?aa) 5 t.bs (λx:Nat=>#[.pointer x]) (lb:=#[.pointer (some ⟨w.heap.size+1,0,none⟩)]) ?_ (enters_of func155 qk rfl) ?_
  (λk W=>NmS w t w.heap.size g.heap.size k W) (λk W W' h P=>h.fr2 P qo qo) h0
  (λl ax W hW _ az _ hy hJ=>Bf t 5 b (w.heap.size+1) g aF (HB.fr ai qs) _ (λk W h=>HT.fr0 h.fr) l ax W hW az (λk x W1 r hj=>YieldAt.mono' (hy k x W1 r hj) λe W' h=>⟨h.1 λh=>absurd rfl h,h.2.2.1⟩) hJ)
  (λk N W=>(∃x:Nat,t.bs[k]?=some x/\N={ tmps:=((Act.tmps ?aa).setIfInBounds 7 (.pointer x)).setIfInBounds 4 (.pointer x),defers:=[] })/\NmS w t w.heap.size g.heap.size k W)
  (λk N W W' h P=>⟨h.1,h.2.fr2 P qo qo⟩) ?_ ?_ (λh=>absurd rfl h) ?_
 ·rfl
 ·intro x;rfl
 ·intro l k x W ay r m aK s
  gi_wp2_with fail
  exact s _ _ (Fq [] W) ⟨⟨x,r,rfl⟩,m⟩
 ·intro l k x N W r hA aK
  rw[show (if k+1=t.bs.length then xe none else Exit.normal)=.normal from ite_self _];obtain⟨⟨x',J,rfl⟩,m⟩:=hA;simp only[qA,qB,qC];rw[r]at J
  injection J with J
  subst J;have⟨A,c,y,B,H⟩:=m.own;have⟨vl,vr,n,v,vh,vs,vy,aJ,O⟩:=TG.get (HT.fr0 m.fr) r;have aI:k<t.ns.length:=by rw[<-ab.out];exact(gV.1 r).1
  have⟨so,ao,_,_⟩:=eS n.owner;have⟨st,ap,_,_⟩:=eS n.text;have aE:n.cs=[.int .i64 n.kind,.string so,.int .i64 n.number,.int .i64 n.index,.string st]:=by unfold ON.cs;rw[ao,ap]
  unfold jU at O;rw[ao,ap]at O;have hC:=(Fq [] W).drew
  have HSS:=Hd (λ(X:World) (hX:Fr [] W X)=>(show X.cell? ⟨w.heap.size,0,none⟩=some (.slice A k c)/\X.cell? ⟨x,2,none⟩=some n.kind/\X.cell? ⟨x,3,none⟩=some so/\X.cell? ⟨x,4,none⟩=some n.number/\X.cell? ⟨x,5,none⟩=some n.index/\X.cell? ⟨x,6,none⟩=some st from by
   have D:=O.fr hX qs;exact⟨(y.fr hX qs).c 0,D.c 2,D.c 3,D.c 4,D.c 5,D.c 6⟩))
  have L:=Hd (An aE (An aJ aI));have o:=Hd (An y (An B (An H m.fr)))
  gi_wp2_with fail
  refine iA (λX:World=>Fr [] W X) 6 qk qk (λ_ _ h=>by have h1:=And.left h;cases h1) ?_ qd
  show fc 0 ..
  iterate 5 (refine gJ rfl ?_;try simp only[qq])
  refine hO (i:=5) rfl λay s=>?_;go_simp
  have⟨X1,aA,ae,z⟩:=vC W #[n.kind,so,n.number,n.index,st] 31;rw[aA];refine s _ _ z ?_
  try simp only[qq]
  refine eV ⟨qk,?_⟩;simp only[qG,qH];obtain⟨ii,aH,aM,aN,aO⟩:=Fd;have ac:=Hd (o.2.1.fr z qs);have am:∀u∈[Value.int .i64 n.kind,so,n.number,n.index,st],u.oneCell'=true:=by rw[<-L.1];exact Dt n
  refine jN rfl (.tmp 8) (.tmp 13) 101 rfl 31 ii _ 5 56 underlying101 aH aM aN aO rfl qd A k c _ rfl ac.out ⟨W.heap.size,0,none⟩ 1 1 [n.kind,so,n.number,n.index,st] rfl rfl (λj u hu=>by rw[fV,ae.c j];simpa using hu) am (by unfold maxLen;omega) qo ?_;intro A' c' M al Q an;have G:=(o.1.fr z qs).fr Q (by intro C;have:=o.2.2.1 _ C;omega);have e0:=G.k0;have e1:=G.f 0;have⟨F,ad⟩:=eR (M.setCell ⟨w.heap.size,0,none⟩ (.slice A' (k+1) c'));have R:Fr [w.heap.size] M F:=by rw[<-ad];exact(Fq _ M).st _
  have af:BoxN F w.heap.size 101 #[.slice A' (k+1) c']:=by rw[<-ad];exact G.setAt 0 _
  have Y:∀q∈eX A',g.heap.size+2<=q:=λq d=>by
   rcases an q d with h|h
   ·exact o.2.2.1 q h
   ·have:=z.size;omega
  have V:=al.fr R (λq d=>by have:=Y q d;simp;omega);have U:=((z.mono qs).trans (Q.mono (T:=w.heap.size::eX A) (by intro q d;exact .inl (by simp[d]))) (λq d=>.inl d)).trans R qs
  have aj:=o.2.2.2.trans U (by
   intro q d
   rcases mem_cons.1 d with h|h
   ·exact .inr qo
   ·have:=o.2.2.1 q h;exact .inr qo)
  have aq:(t.ns.take (k+1)).flatMap ON.cs=(t.ns.take k).flatMap ON.cs++[Value.int .i64 n.kind,.string so,.int .i64 n.number,.int .i64 n.index,.string st]:=by
   rw[take_add_one,L.2.1,flatMap_append,<-L.1];simp
  rw[<-aq]at V;have av:=Hd (show NmS w t w.heap.size g.heap.size (k+1) F from⟨aj,A',c',af,V,Y⟩)
  have aw:=Hd (show ∃S,Fr S W F/\g.heap.size ∉ S/\g.heap.size+1 ∉ S from⟨_,U,by
   simp only[mem_cons,not_or];exact⟨qo,λC=>by have:=o.2.2.1 _ C;omega⟩,by
   simp only[mem_cons,not_or];exact⟨qo,λC=>by have:=o.2.2.1 _ C;omega⟩⟩)
  clear al Q an G R af Y V U aj aq ac am ae z HSS
  go_wp2
  rw[<-aL];exact⟨av.out,aw.out⟩
 ·intro K W hD m s
  have⟨A,c,y,B,H⟩:=m.own;have ak:t.bs.length=t.ns.length:=ab.out;rw[ak]at y B;rw[take_length]at B;have x0:=y.k0;have p:=Hd (An B (An m.fr (An H s)));clear y B H m s ak
  go_wp2
  have aP:K<W.heap.size:=(Array.getElem?_eq_some_iff.1 p.2.2.2).1;refine⟨qs,.inl ⟨_,_,rfl,run_takeDeferred p.2.2.2,?_⟩⟩;have ag:Fr [K] W (W.putObj K (.deferred none)):=i6 _ (Fq _ W) (.inl qs);refine⟨.slice A t.ns.length c,?_,A,c,rfl,?_,?_,λq d=>?_⟩
  ·simp[results,Tryz.f39,go_sem]
  ·exact p.1.fr ag (λq d=>by have:=Own.no_def p.1 p.2.2.2;simp only[ip];rintro rfl;exact this d)
  ·exact p.2.1.trans ag (by simp;omega)
  ·have:=p.2.2.1 q d;omega
open Go.RowKit
def Gz(l:CL)(A:Option Addr)(c:Nat):Prop:=l=.nil->A=none/\c=0
def wz(n c:Nat)(A:Option Addr)(xs:List Value)(w:World)(h:Rd w 7 A n xs)(o:∀u∈xs,u.oneCell'=true)(K:n<=1000000):Calls prog 154 #[.slice A n c] w λe w'=>∃A' c',e=.returned (.slice A' n c')/\Own w' 95 7 A' n c' xs/\Fr [] w w'/\∀k∈eX A',w.heap.size<=k:=by
 have s:=Lib.run_eql_slice_nil (P:=prog) w 62 95 A n c 0 0 underlying62
 cases A with
 | none =>
  have E:n=0:=by
   rcases Nat.eq_zero_or_pos n with d|d
   ·exact d
   ·have⟨b,off,e,_⟩:=h.2 d
    cases e
  subst E;have g:xs=[]:=by have:=h.1;simpa using this
  subst g;simp only[Option.isNone_none]at s
  go_enter func154,ntmps154
  go_wp2
  go_ret
  exact⟨none,0,rfl,Own.nil _ _ _,Fq _ _,by simp[eX]⟩
 | some a =>
  simp only[Option.isNone_some]at s;obtain⟨F,C,G,H,I⟩:=sM
  have p:∀j u,xs[j]?=some u->w.cell? (a.add j)=some u:=by
   intro j u i
   rcases Nat.eq_zero_or_pos n with d|d
   ·have:=h.1;rw[d]at this;have g:xs=[]:=by simpa using this
    subst g;simp at i
   ·have⟨b,off,e,J,B⟩:=h.2 d
    cases e
    rw[Addr.add_mid];exact B j u i
  have r:=h.1;have l:=Hd (An p (An o r));clear p o r h
  go_enter func154,ntmps154
  go_wp2_with (at_builtin;(with_reducible refine jN (w:=w.alloc (.cells #[] 95)) rfl (.tmp 5) (.tmp 6) 62 rfl 95 F _ 7 80 underlying62 C G H I rfl qd (some ⟨w.heap.size,0,none⟩) 0 0 [] rfl (Own.empty w _ _) a n c xs rfl l.out.2.2 (λj u i=>Lib.cell?_alloc_some _ (l.out.1 j u i)) l.out.2.1 (by unfold maxLen;omega) qo ?_);intro A2 z w2 f q t;have v:=Hd f;have m:=Hd q;have y:=Hd t;clear f q t)
  go_ret
  have f:=v.out;rw[nil_append]at f;have L:=m.size;refine⟨A2,z,rfl,by rw[Nat.zero_add]at f;exact f,((Fq [] w).alloc _).trans m.out (λx g=>.inr (by simp[eX]at g;omega)),λk D=>?_⟩
  rcases y.out k D with h|h
  ·simp[eX]at h;omega
  ·rw[jZ]at h;omega
def NoT(ts:List TypeId)(w:World)(S:List Nat):Prop:=∀k∈S,∀a e z,w.heap[k]?=some (.cells a e z)->e ∉ ts
section
variable {ts:List TypeId} {w w':World} {S T:List Nat}
def NoT.app(h:NoT ts w S)(b:NoT ts w T):NoT ts w (S++T):=λk a=>by
 rcases mem_append.1 a with a|a
 ·exact h k a
 ·exact b k a
def NoT.box{b:Nat}{t:TypeId}{cs:Array Value}(h:BoxN w b t cs)(d:t ∉ ts):NoT ts w [b]:=λk c f e z a=>by
 rw[ip]at c;subst c;rw[show w.heap[k]?=_ from h]at a
 cases a
 exact d
def NoT.own{e:TypeId}{l n c:Nat}{A:Option Addr}{xs:List Value}(h:Own w e l A n c xs)(j:e ∉ ts):NoT ts w (eX A):=λk b f o z d=>by
 rcases h.2 with⟨a,_⟩|⟨g,m,f,a,_,i,_⟩
 ·injection a with a;subst a;simp[eX]at b
 ·injection a with a
  subst a;simp only[eX,Option.map_some,Option.toList_some,ip]at b;subst b;rw[i]at d
  cases d
  exact j
def NoT.map{P:Program}{k:TypeId}{r:Nat}{d:List (Value × Value)}(h:MapIs P k w r d):NoT ts w [r]:=λk b f e z a=>by
 rw[ip]at b;subst b;obtain⟨es,clock,c,_⟩:=h;rw[c]at a
 cases a
def NoT.sub{ts':List TypeId}(h:NoT ts w S)(b:∀t∈ts',t∈ts):NoT ts' w S:=λk d a e z c f=>h k d a e z c (b e f)
def NoT.mem(h:NoT ts w S)(a:∀k∈T,k∈S):NoT ts w T:=λk b=>h k (a k b)
def BoxN.frT{b:Nat}{t:TypeId}{cs:Array Value}(h:BoxN w b t cs)(c:Fr S w w')(a:NoT ts w S)(e:t∈ts):BoxN w' b t cs:=h.fr c λd=>a b d _ _ _ h e
def Own.frT{e:TypeId}{d n c:Nat}{A:Option Addr}{xs:List Value}(h:Own w e d A n c xs)(i:Fr S w w')(f:NoT ts w S)(m:e∈ts):Own w' e d A n c xs:=h.fr i λk b l=>by
 rcases h.2 with⟨a,_⟩|⟨g,o,p,a,_,j,_⟩
 ·injection a with a;subst a;simp[eX]at b
 ·injection a with a
  subst a;simp only[eX,Option.map_some,Option.toList_some,ip]at b;subst b;exact f k l _ _ _ j m
def TGat.frT(b:Fr S w w')(a:NoT ts w S)(c:191∈ts):∀ {t:TG},TGat w t->TGat w' t
 | .nil,_=>trivial
 | .node _ _ _ _ _ _ _ _,h=>⟨h.1.frT b a c,TGat.frT b a c h.2.1,TGat.frT b a c h.2.2⟩
end
def xW:List TypeId:=[191,184,95]
def SG.frT{w w':World}{S:List Nat}{b:Nat}{d:List ON}(h:SG w b d)(c:Fr S w w')(a:NoT xW w S):SG w' b d:=by
 obtain⟨l,k,e,⟨t,f,g,i⟩,j⟩:=h;exact⟨l,k,e.frT c a (by simp[xW]),⟨t,f,g.frT c a (by simp[xW]),i⟩,j⟩
structure AX where
 a:AG
 sl:ByteArray
 A:Option Addr
 c:Nat
 B:Option Addr
 d:Nat
def AX.cs(x:AX):List Value:=[.int .i64 x.a.k.rnd,.int .i64 x.a.k.phase,.int .i64 x.a.k.idx,.string x.sl,.slice x.A x.a.r.length x.c,.slice x.B x.a.w.length x.d]
def lx(x:AX):x.cs.length=6:=rfl
def AX.v(x:AX):Value:=x.a.val x.sl x.A x.c x.B x.d
structure AX.ok(w:World)(x:AX):Prop where
 s:fg x.a.k.lin=.string x.sl
 r:Own w 95 7 x.A x.a.r.length x.c (x.a.r.flatMap CH.cs)
 w:Own w 95 7 x.B x.a.w.length x.d (x.a.w.flatMap CH.cs)
def AX.ok.fr0{w w':World}{x:AX}(h:x.ok w)(a:Fr [] w w'):x.ok w':=⟨h.s,h.r.fr a qs,h.w.fr a qs⟩
def AX.ok.frT{w w':World}{S:List Nat}{x:AX}(h:x.ok w)(b:Fr S w w')(a:NoT xW w S):x.ok w':=⟨h.s,h.r.frT b a (by simp[xW]),h.w.frT b a (by simp[xW])⟩
def AX.ok.chr{w:World}{x:AX}(h:x.ok w):Chs w x.A x.a.r:=h.r.rd
def AX.ok.chw{w:World}{x:AX}(h:x.ok w):Chs w x.B x.a.w:=h.w.rd
def Dv(l:List CH):∀u∈l.flatMap CH.cs,u.oneCell'=true:=by
 intro u b;have⟨c,_,a⟩:=mem_flatMap.1 b;simp only[CH.cs,mem_cons,not_mem_nil,or_false]at a
 rcases a with rfl|rfl|rfl|rfl|rfl|rfl|rfl <;> first|rfl|exact encN_one _
def zO(w:World)(a:AG)(e:Ending)(w':World):Prop:=∃x:AX,x.a=a/\e=.returned x.v/\x.ok w'/\Fr [] w w'
def rY{f:Nat}(hG:f=94 \/ f=159)(a:AG)(g:ByteArray)(A B:Option Addr)(c d:Nat)(w:World)(aj:fg a.k.lin=.string g)(s:Chs w A a.r)(t:Chs w B a.w)(M:a.fit):Calls prog f #[a.val g A c B d] w (zO w a):=by
 have ap:=Hd aj;have aB:=M.rl;have aC:=M.wl;have⟨H,R⟩:=eR (a.k.rnd);have⟨G,Q⟩:=eR (a.k.phase);have⟨F,O⟩:=eR (a.k.idx);have⟨j,z⟩:=eR (a.r.length);have⟨l,C⟩:=eR (a.w.length);have an:=Hd (An R (An Q (An O (An z C))));unfold Chs at s t;unfold AG.val;rw[R,Q,O,z,C];rw[z]at s aB;rw[C]at t aC;have⟨w1,ak,aD,n1,f1⟩:=ir w #[H,G,F,g,.slice A j c,.slice B l d] 91 w.heap.size;have⟨w2,al,aF,n2,J⟩:=ir w1 #[L0,L0,L0,S0,gz,gz] 91 (w.heap.size+1);have x:=f1.then J;have ac:∀W,Fr [] w2 W->Calls prog 154 #[.slice A j c] W _:=λW hW=>wz j c A _ W (s.fr0 (x.then hW)) (Dv a.r) qo;have ad:∀W,Fr [] w2 W->Calls prog 154 #[.slice B l d] W _:=λW hW=>wz l d B _ W (t.fr0 (x.then hW)) (Dv a.w) qo;have V:=Hd ac;have X:=Hd ad
 have HSS:=Hd (λ(W:World) (hW:Fr [] w2 W)=>(show W.cell? ⟨w.heap.size,0,none⟩=some H/\W.cell? ⟨w.heap.size,1,none⟩=some G/\W.cell? ⟨w.heap.size,2,none⟩=some F/\W.cell? ⟨w.heap.size,3,none⟩=some g/\W.cell? ⟨w.heap.size,4,none⟩=some (.slice A j c)/\W.cell? ⟨w.heap.size,5,none⟩=some (.slice B l d)from by
  have h:=(n1.fr J qs).fr hW qs;exact⟨h.c 0,h.c 1,h.c 2,h.c 3,h.c 4,h.c 5⟩))
 have U:=Hd n2;have HF:=Hd x;have aq:=Hd ak;have ar:=Hd al;have⟨R1,u⟩:=eR (w.heap.size+1);have ao:=Hd u;clear ac ad ak al n1 n2 f1 J x s t M aj R Q O z C
 rcases hG with rfl|rfl
 all_goals
  first
   | go_enter func94,ntmps94
   | go_enter func159,ntmps159
  go_upto_region 1 with fail
  rw[aq.out,ar.out];rw[u]at U
  try rw[u]
  clear u aD;have L:=(Fq [] w2).drew;refine eU (λW:World=>Fr [] w2 W) 8 qk ?_ qd
  show fc 0 ..
  iterate 4 (refine gJ rfl ?_;try simp only[qq])
  show fc 5 ..
  iterate 2 (refine gJ rfl ?_;try simp only[qq])
  refine hO (i:=4) rfl λK m=>?_;go_simp
  go_at_call 154
  (with_reducible refine(V.out _ L).mono ?_);rintro e y1 ⟨A1,p,rfl,aa,N,ah⟩;have D:=L.then N;refine m _ _ D ?_;clear m K
  try simp only[qq]
  refine hO (i:=7) rfl λK m=>?_;go_simp
  go_at_call 154
  (with_reducible refine(X.out _ D).mono ?_);rintro e y2 ⟨n,q,rfl,ab,y,ai⟩;have E:=D.then y;refine m _ _ E ?_;clear m K L
  try simp only[qq]
  refine eV ⟨qk,?_⟩;simp only[qG,qH];have b:=U.fr E qs;have⟨aH,z1,z2,z3,z4,z5⟩:=b.m6;have g0:=b.f 0;have g1:=b.f 1;have g2:=b.f 2;have g3:=b.f 3;have g4:=b.f 4;have g5:=b.f 5;have o:=Hd (An (aa.fr y qs) (An ab (An E b)));have Y:=Hd (An ah ai);have aE:=N.size;have aG:=y.size;clear aa ab N y ah ai D E b V X HSS
  go_wp2
  have⟨am,ae,au,I⟩:=rn (y2) (R1) o.2.2.2 H G F g (.slice A1 j p) (.slice n l q);rw[ae];clear ae;have⟨t0,t1,t2,t3,t4,t5⟩:=au.m6;have hR:=ao.out;have Z:w2.drew.heap.size=w2.heap.size:=rfl;have av:=o.1.fr I (λk P=>by have:=Y.1 k P;rw[Z]at this;simp only[ip];omega);have aw:=o.2.1.fr I (λk P=>by have:=Y.2 k P;rw[Z]at aE;simp only[ip];omega);have aA:=(HF.then o.2.2.1).trans I (by simp;omega);have⟨ax,ay,az,af,ag⟩:=an.out;refine bodyPost_ret (v:=.agg #[H,G,F,g,.slice A1 j p,.slice n l q]) (by simp[results,results94,results159,go_sem,t0,t1,t2,t3,t4,t5]) rfl ⟨⟨a,g,A1,p,n,q⟩,rfl,?_,⟨ap.out,?_,?_⟩,aA⟩
  ·unfold AX.v AG.val;simp only;rw[ax,ay,az,af,ag]
  ·show Own am _ 7 A1 a.r.length p _;rw[af];exact av
  ·show Own am _ 7 n a.w.length q _;rw[ag];exact aw
def Kept(M:List Nat)(w:World)(P:World->Prop):Prop:=∀W,Fr M w W->P W
section
variable {M M':List Nat} {w w':World} {P R:World->Prop}
def Kept.now(h:Kept M w P):P w:=h w (Fq M w)
def Kept.step(h:Kept M w P)(b:Fr M w w')(a:∀k∈M',k∈M \/ w.heap.size<=k):Kept M' w' P:=λW hW=>h W (b.trans hW a)
def Kept.fr0(h:Kept M w P)(a:Fr [] w w'):Kept M w' P:=λW hW=>h W ((a.mono qs).then hW)
def Kept.imp(h:Kept M w P)(f:∀W,P W->R W):Kept M w R:=λW hW=>f W (h W hW)
end
structure AV where
 a:AC
 A:Option Addr
 c:Nat
 B:Option Addr
 d:Nat
def AV.cs(x:AV):List Value:=[.int .i64 x.a.t,.int .i64 0,.int .i64 x.a.t,.string ⟨#[]⟩,x.a.r.sl x.A x.c,x.a.w.sl x.B x.d]
structure AV.ok(w:World)(x:AV):Prop where
 r:IR w x.A x.a.r
 w:IR w x.B x.a.w
 nr:Gz x.a.r x.A x.c
 nw:Gz x.a.w x.B x.d
section
variable {w w':World} {x:AV} {S:List Nat}
end
def TR.bl:TR->List Nat
 | .nil=>[]
 | .node b l _ _ _ _ _ r=>b::(l.bl++r.bl)
def TRat.fr{w w':World}{S:List Nat}(c:Fr S w w'):∀ {t:TR},TRat w t->(∀k∈t.bl,k ∉ S)->TRat w' t
 | .nil,_,_=>trivial
 | .node b _ _ _ _ _ _ _,h,a=>⟨h.1.fr c (a b (by simp[TR.bl])),TRat.fr c h.2.1 (λk d=>a k (by simp[TR.bl,d])),TRat.fr c h.2.2 (λk d=>a k (by simp[TR.bl,d]))⟩
def Hu(b:Nat)(t:TR):List Nat:=b::t.bl
def StAt.fr{w w':World}{b:Nat}{t:TR}{S:List Nat}(h:StAt w b t)(c:Fr S w w')(a:∀k∈Hu b t,k ∉ S):StAt w' b t:=⟨h.1.fr c (a b (by simp[Hu])),TRat.fr c h.2 (λk d=>a k (by simp[Hu,d]))⟩
def l9(w:World)(a b:ByteArray)(h:a.size+b.size<=9223372036854775807):(binOp .add 9 (.string a) (.string b)).run prog w=.ok (.string (a++b)) w:=by
 simp[binOp,go_sem,h]
def rZ(c:UInt8)(l:Nm):Value.string (⟨#[c]⟩++⟨l.toArray⟩)=fg (c::l):=by
 unfold fg
 congr 1
def tU(s:Nm)(w:World)(E:Ok w)(K:s.length<=1099511620000):Calls prog 93 #[fg s] w (fN w (gZ (1::s))):=by
 obtain⟨a,h⟩:=eR (w.alloc (.cells (qP) 57));have j:Fr [] w a:=by rw[<-h];exact(Fq [] w).alloc _
 obtain⟨I,n⟩:∃f,a.rowIs w.heap.size 57 32 f:=by rw[<-h];exact⟨_,gi w _ _⟩
 have c:=oP (1::s) a (E.fr0 j) (by simp;omega);obtain⟨d,r⟩:=eR (gZ (1::s));have g:d.length=32:=by rw[<-r];exact fy _
 rw[r]at c ⊢;have J:(eO d).length=32:=by rw[eP,g]
 have q:(binOp .add 9 (.string ⟨#[1]⟩) (fg s)).run prog a=.ok (fg (1::s)) a:=by
  rw[<-rZ 1 s];exact l9 a _ _ (by simp[<-ByteArray.size_data];omega)
 obtain⟨L,u⟩:=eR (fg s);obtain⟨N,y⟩:=eR (fg (1::s));rw[u]at q ⊢;rw[y]at q c;have z:=Hd c;have C:=Hd n;have A:=Hd j;have D:=Hd h;clear c n j h u y
 go_enter func93,ntmps93
 go_upto_region 1 with fail
 rw[D.out]
 go_wp2_with ((go_at_call 90;(with_reducible refine z.out.mono ?_);rintro e G ⟨rfl,k⟩;unfold fo;have i:=eT C.out k qs;have F:=fj (d:=d) i g;have l:=fp (d:=d) i g;obtain⟨H,m⟩:∃X,G.setCells w.heap.size 0 (eO d)=X:=⟨_,rfl⟩;have t:Fr [] w H:=(by rw[<-m];exact((A.out.then k).setCells (.inr (fW _)) _ _));rw[m]at F l;have HRD:=Hd l.1;have B:=Hd t;clear m l t i k))
 exact bodyPost_ret (v:=fo d) (fH (d:=.array 32 5) (p:=2) (ty:=57) (b:=w.heap.size) (o:=0) rfl rfl HRD.out qk rfl (by rw[eP,g];rfl)) rfl ⟨rfl,B.out⟩
structure HistIs(w:World)(b pb pl bt:Nat)(A:Option Addr)(c:Nat)(F:List Nat)(l:List AV)(t:TR)(ds:List Nm)(kvs:List (Value × Value)):Prop where
 box:BoxN w b 136 #[.pointer (some ⟨pb,0,none⟩),.slice A l.length c,.slice none 0 0,.pointer (some ⟨pl,0,none⟩),.pointer (some ⟨bt,0,none⟩)]
 own:Own w 91 6 A l.length c (l.flatMap AV.cs)
 tree:TreeM w bt ds kvs F
 nb:b ∉ eX A
 nF:b ∉ F
 dj:∀k∈eX A,k ∉ F
 st:StAt w pl t
 dst:∀k∈Hu pl t,k ∉ b::(eX A++F)
 kept:Kept (b::(eX A++F)) w λW=>StAt W pb .nil/\∀x∈l,x.ok W
def G0(w:World)(b:Nat)(l:List AV)(t:TR)(d:List Nm)(e:List (Value × Value))(M:List Nat):Prop:=∃f g a A c F,HistIs w b f g a A c F l t d e/\M=b::(eX A++F)
def kC(b p:Nat)(w:World)(h:w.cell? ⟨b,0,none⟩=some (.pointer (some ⟨p,0,none⟩))):Calls prog 59 #[.pointer (some ⟨b,0,none⟩)] w λe w'=>e=.returned (.bool false)/\w=w':=by
 go_enter func59,ntmps59
 go_wp2_with fail
 go_ret
 exact⟨rfl,rfl⟩
def sd:∃i,(prog).info? 91=some i/\i.zero=some (.agg lV)/\i.size=6/\i.bytes=88:=info_parts qk
def pt(w:World)(i n:Int)(s:Nm)(xs:List Nm)(e:Ending)(w':World):Prop :=
 ∃A c,e=.returned (.tuple #[.agg #[.int .i64 i,.int .i64 n,fg s,.slice A xs.length c],.int .i64 0])/\Own w' 57 32 A xs.length c (xs.flatMap eO)/\Fr [] w w'/\∀k∈eX A,w.heap.size<=k
def Bg(W:World)(d:Nm)(a:d.length=32):∃Y,(storeCells ⟨W.heap.size,0,none⟩ (eO d)).run prog (W.alloc (.cells (#[.int .u8 0,.int .u8 0,.int .u8 0,.int .u8 0,.int .u8 0,.int .u8 0,.int .u8 0,.int .u8 0,.int .u8 0,.int .u8 0,.int .u8 0,.int .u8 0,.int .u8 0,.int .u8 0,.int .u8 0,.int .u8 0,.int .u8 0,.int .u8 0,.int .u8 0,.int .u8 0,.int .u8 0,.int .u8 0,.int .u8 0,.int .u8 0,.int .u8 0,.int .u8 0,.int .u8 0,.int .u8 0,.int .u8 0,.int .u8 0,.int .u8 0,.int .u8 0]) 56))=.ok () Y/\Fr [] W Y/\Y.rowIs W.heap.size 56 32 (λj=>.int .u8 ((d.getD j 0).toNat:Int)):=by
 obtain⟨f,b⟩:∃f,(W.alloc (.cells (#[.int .u8 0,.int .u8 0,.int .u8 0,.int .u8 0,.int .u8 0,.int .u8 0,.int .u8 0,.int .u8 0,.int .u8 0,.int .u8 0,.int .u8 0,.int .u8 0,.int .u8 0,.int .u8 0,.int .u8 0,.int .u8 0,.int .u8 0,.int .u8 0,.int .u8 0,.int .u8 0,.int .u8 0,.int .u8 0,.int .u8 0,.int .u8 0,.int .u8 0,.int .u8 0,.int .u8 0,.int .u8 0,.int .u8 0,.int .u8 0,.int .u8 0,.int .u8 0]) 56)).rowIs W.heap.size 56 32 f:=⟨_,gi W _ _⟩;exact⟨_,fj b a,((Fq [] W).alloc _).setCells (.inr (fW _)) _ _,(fp b a).2⟩
def Bh{X:World}{L:Nat}{t:TypeId}{d:Nm}(b:X.rowIs L t 32 (λj=>.int .u8 ((d.getD j 0).toNat:Int)))(a:d.length=32):Row X X.heap.size 1 (some ⟨L,0,none⟩) 32 (eO d) :=
 ⟨by rw[eP,a],λ_=>⟨L,0,rfl,b.lt,fw b a⟩⟩
def leaf0:Nm:=gZ (0::stD0)
def Dw(p:Nat)(w:World)(I:Ok w)(h:StAt w p .nil):Calls prog 32 #[.pointer (some ⟨p,0,none⟩)] w λe w'=>∃b M,e=.returned (.tuple #[.pointer (some ⟨b,0,none⟩),.int .i64 0])/\G0 w' b [] .nil [leaf0] [] M/\Fr [] w w'/\∀k∈M,w.heap.size<=k:=by
 have f:stD0.length=32:=fy _;have ag:(eO stD0).length=32:=by rw[eP,f]
 have B:∀W,Fr [] w W->Calls prog 88 #[.pointer (some ⟨p,0,none⟩)] W (fN W stD0):=λW hW=>xp p W (I.fr0 hW) (h.fr0 hW);have l:∀W,Fr [] w W->Calls prog 90 #[fg (0::stD0)] W (fN W leaf0):=λW hW=>oP (0::stD0) W (I.fr0 hW) (by simp[f]);have H:leaf0.length=32:=fy _;generalize leaf0=Z at l H ⊢;generalize stD0=d at B l f ag
 have t:∀W,(binOp .add 9 (.string ⟨#[0]⟩) (fg d)).run prog W=.ok (fg (0::d)) W:=λW=>by
  rw[<-rZ 0 d];exact l9 W _ _ (by simp[<-ByteArray.size_data];omega)
 have⟨K,J⟩:=eR (fg d);have⟨s2,an⟩:=eR (fg (0::d));rw[J]at t;rw[an]at t l;have T:=Hd B;have V:=Hd l;have O:=Hd t;have X:=Hd J;have r:=Hd h
 go_enter func32,ntmps32
 go_upto_region 4 with((go_at_call 87;(with_reducible refine(xw w).mono ?_);rintro e g ⟨rfl,E,ah⟩;have R:=Hd E;have U:=Hd ah;have aw:=E.lt))
 have⟨w2,ap,ae,G⟩:=kJ g #[.pointer p,gz,gz,.pointer p,.pointer w.heap.size] 136;rw[ap];have n:=Hd (U.then G);have m:=Hd ae;have S:=Hd (R.fr G qs)
 go_upto_region 5 with((go_at_call 88;(with_reducible refine(T.out _ n.out).mono ?_);rintro e L ⟨rfl,ai⟩;unfold fo;have⟨x,av,aj,am⟩:=Bg L d f;have o:=Hd (ai.then aj);have q:=Hd am))
 have aq:=q.lt;generalize L.heap.size=Y at q aq ⊢;have z:=(Fq [] x).drew
 have aa:∀W,Fr [] x W->W.cell? ⟨g.heap.size,4,none⟩=some (.pointer w.heap.size)/\(convert 49 9 (.slice Y 32 32)).run prog W=.ok K W/\(binOp .add 9 (.string ⟨#[0]⟩) K).run prog W=.ok s2 W:=λW hW=>by
  have hb:=(m.fr o.out qs).fr hW qs;have hr:=eT q.out hW qs;have F:=eZ (P:=prog) (Bh hr f) 49 5 underlying49 underlying5 9 underlying9 32;rw[X.out]at F;exact⟨hb.c 4,F,O.out W⟩
 have HSS:=Hd aa;refine eU (λW:World=>Fr [] x W) 8 qk ?_ qd
 show fc 0 ..
 iterate 7 (refine gJ rfl ?_;try simp only[qq])
 refine hO (i:=7) rfl λar hK=>?_;go_simp
 go_at_call 90
 (with_reducible refine(V.out _ ((n.out.then o.out).then z)).mono ?_);rintro e N ⟨rfl,al⟩;have A:=z.then al;refine hK _ _ A ?_
 try simp only[qq]
 refine eV ⟨qk,?_⟩;simp only[qG,qH];have j:=o.then A;have ac:=S.fr j qs;have ad:TreeIs N w.heap.size none 0 none [] []:=⟨ac,Own.nil _ _ _,qs,by simp[eX],λ_=>rfl,qs⟩;have Q:=Hd (DH w.heap.size Z N ad H)
 go_wp2_with ((go_at_call 89;(with_reducible refine Q.out.mono ?_);rintro e w5 ⟨rfl,F',ao,ak,ab⟩;have s:=Hd (An ao ab);have y:=Hd ak))
 go_ret2
 have ax:=m.lt;have ay:=j.size;have au:=r.1.lt;have af:=(m.fr j qs).fr y.out (by simp;omega);have u:=(n.then j).trans y.out qs
 have C:∀k∈g.heap.size::(eX none++F'),w.heap.size<=k:=λk a=>by
  simp only[eX,Option.map_none,Option.toList_none,nil_append,mem_cons]at a
  rcases a with rfl|a
  ·omega
  ·rcases s.2 k a with rfl|h
   ·exact fW _
   ·omega
 have D:p ∉ g.heap.size::(eX none++F'):=λv=>by have:=C p v;omega
 refine⟨g.heap.size,_,rfl,⟨p,p,w.heap.size,none,0,F',⟨af,Own.nil _ _ _,s.1,by simp[eX],?_,by simp[eX],r.fr0 u,?_,?_⟩,rfl⟩,u,C⟩
 ·intro v
  rcases s.2 _ v with h|h
  ·omega
  ·omega
 ·intro k a
  simp only[Hu,TR.bl,mem_cons,not_mem_nil,or_false]at a;rw[a];exact D
 ·intro W hW
  exact⟨(r.fr0 u).fr hW (by simpa [Hu,TR.bl]using D),qs⟩
end Go.Proofs.YtlpmiimgacfmkaaGreatDoor
