/- Part of the proof. -/
import Derived.Test.YtlpmiimgacfmkaaGreatDoorRVy7
set_option linter.all false
set_option maxHeartbeats 8000000
set_option maxRecDepth 100000
namespace Go.Proofs.YtlpmiimgacfmkaaGreatDoor
open Go.Proofs.Tryz
open Go.RowKit
section
variable {P:Program} {ops:Array Oper} {md:Region.Mode} {Q:Exit->Act->World->Prop} {D E:World->Prop} {n st:Nat} {L:Array Bool->Act->World->Prop}
def vn(P:Program)(md:Region.Mode)(ops:Array Oper)(Q:Exit->Act->World->Prop)(D:World->Prop)(st n:Nat)(L:Array Bool->Act->World->Prop):Nat->Array Bool->Act->World->Prop
 | 0,S,a,w=>L S a w
 | f+1,S,a,w=>Region.ready md ops S≠[]/\∀i∈Region.ready md ops S,i<n/\wpOp P ops Q i (λb w'=>((S.setIfInBounds i true).getD st false=false->D w')/\vn P md ops Q D st n L f (S.setIfInBounds i true) b w') a w
theorem rz{g:Nat}(e:∀S a w,L S a w->wpAny P md ops Q g S a w)(f:Nat):∀(S:Array Bool) (a:Act) (w:World),vn P md ops Q D st n L f S a w->wpAny P md ops Q (f+g) S a w:=by
 induction f with
 | zero=>intro S a w h;rw[Nat.zero_add];exact e S a w h
 | succ f k =>
  intro S a w h;rw[Nat.add_right_comm];exact⟨λd=>absurd d h.1,λi j=>wpOp_mono (λb w' c=>k _ b w' c.2) (h.2 i j).2⟩
theorem pT{i:Nat}{r:Oper}{v:Value}(C:ops[i]?=some r)(ag:Region.noSelect ops=true)(W:Region.sinkB md ops n=true)(M:Region.chainB md ops n=true)(V:n<ops.size)(u:i<n)
 (hQ:∀c a w,Q (.panic c) (a.put r.dst v) w->Q (.panic c) a w) (ab:∀S a w,L S a w->∀j∈Region.ready md ops S,n<=j) (N:i≠st) (Z:(∀w,E w) \/ ((∀w,D w->E w)/\Region.waitsFor md ops st i=true)) (f:Nat) :
 ∀(S:Array Bool) (a:Act) (w:World),HeadInv md ops n S ->
  (∀j o,ops[j]?=some o->j≠i->S.getD j true=false->(∀e∈o.after,Region.binds md e=true->e.on≠i)->r.apart ops o=true) ->
  i∈Region.ready md ops S->YieldsIf P ops E r v a->(S.getD st false=false->D w)->vn P md ops Q D st n L f (S.setIfInBounds i true) (a.put r.dst v) w->vn P md ops Q D st n L (f+1) S a w:=by
 have X:=Region.noSelect_spec ag
 have ai:∀S,HeadInv md ops n S->S.getD i true=false->Region.waitsFor md ops st i=true->S.getD st false=false:=λS g d z=>by
  obtain⟨o,s,e,B,A,ah⟩:=Region.waitsFor_spec z
  cases hl:S.getD st false with
  | false=>rfl
  | true =>
   have G:=g.closed st o s hl e B A;rw[ah,getD_both d]at G
   cases G
 have J:∀S w,HeadInv md ops n S->S.getD i true=false->(S.getD st false=false->D w)->E w:=λS w g d l=>by
  rcases Z with h|⟨t,z⟩
  ·exact h w
  ·exact t w (l (ai S g d z))
 have T:∀(S:Array Bool) w,(S.getD st false=false->D w)->((S.setIfInBounds i true).getD st false=false->D w):=λS w l h=>l (by rwa [getD_set_ne false N]at h)
 induction f with
 | zero =>
  intro S a w g _ p x l H;have d:=(mem_ready.1 p).1;refine⟨λh=>by rw[h]at p;simp at p,λj q=>?_⟩
  by_cases m:j=i
  ·subst m;exact⟨u,x.wpOp C (J S w g d l) ⟨T S w l,H⟩⟩
  ·have F:=Nat.lt_of_not_le λh=>tail_waits W M V g _ i rfl u d j h q
   have:=ab _ _ _ H j (ready_mono q m)
   omega
 | succ f ih =>
  intro S a w g K p x l H;have d:=(mem_ready.1 p).1;refine⟨λh=>by rw[h]at p;simp at p,λj q=>?_⟩
  by_cases m:j=i
  ·subst m;exact⟨u,x.wpOp C (J S w g d l) ⟨T S w l,H⟩⟩
  ·have F:=Nat.lt_of_not_le λh=>tail_waits W M V g _ i rfl u d j h q
   refine⟨F,?_⟩;obtain⟨R,o,s,aa⟩:=mem_ready.1 q
   have af:∀e∈o.after,Region.binds md e=true->e.on≠i:=by
    intro e B A ac;have t:=aa e B A;rw[ac,getD_both d]at t;exact absurd t qs
   have hq:=wpOp_putIf s (K j o s m R af) (λcs b=>X i r cs b C) (λcs b=>X j o cs b s) hQ x (H.2 j (ready_mono q m)).2;refine wpOp_mono (λY w' y=>?_) hq;have I:(S.setIfInBounds j true).getD st false=false->D w':=λh=>y.2.1 (by rw[Array.setIfInBounds_comm _ _ (Ne.symm m),getD_set_ne false N];exact h);refine⟨I,ih (S.setIfInBounds j true) Y w' (g.set q F) ?_ (ready_mono p (Ne.symm m)) y.1 I ?_⟩
   ·intro k ok hk ad U ae
    refine K k ok hk ad ?_ ae
    by_cases O:j=k
    ·subst O;exact R
    ·rw[getD_set_ne true O]at U;exact U
   ·rw[Array.setIfInBounds_comm _ _ m]
    exact y.2.2
def kW(P:Program)(md:Region.Mode)(ops:Array Oper)(Q:Exit->Act->World->Prop)(D:World->Prop)(st n:Nat)(L:Array Bool->Act->World->Prop)(f:Nat)(S:Array Bool)(a:Act)(w:World):Prop:=HeadInv md ops n S->(S.getD st false=false->D w)->vn P md ops Q D st n L f S a w
theorem kO{i:Nat}{e:Oper}{v:Value}{f:Nat}{S:Array Bool}{a:Act}{w:World}(b:(Region.noSelect ops && Region.sinkB md ops n && Region.chainB md ops n && decide (n<ops.size))=true)(q:∀S a w,L S a w->∀j∈Region.ready md ops S,n<=j)
 (k:ops[i]?=some e) (l:i<n) (m:i≠st) (d:(Region.free md ops S i && (Region.ready md ops S).contains i && Region.waitsFor md ops st i)=true)
 (hQ:∀c a w,Q (.panic c) (a.put e.dst v) w->Q (.panic c) a w) (r:YieldsIf P ops D e v a)
 (h:kW P md ops Q D st n L f (S.setIfInBounds i true) (a.put e.dst v) w):kW P md ops Q D st n L (f+1) S a w:=by
 simp only[Bool.and_eq_true,decide_eq_true_eq]at b d;intro p g;have o:i∈Region.ready md ops S:=by simpa using d.1.2
 exact pT k b.1.1.1 b.1.1.2 b.1.2 b.2 l hQ q m (.inr ⟨λ_ h=>h,d.2⟩) f S a w p (Region.free_spec k d.1.1) o r g (h (p.set o l) (λh=>g (by rwa [getD_set_ne false m]at h)))
theorem vo{i:Nat}{d:Oper}{v:Value}{f:Nat}{S:Array Bool}{a:Act}{w:World}(b:(Region.noSelect ops && Region.sinkB md ops n && Region.chainB md ops n && decide (n<ops.size))=true)(q:∀S a w,L S a w->∀j∈Region.ready md ops S,n<=j)
 (k:ops[i]?=some d) (l:i<n) (m:i≠st) (e:(Region.free md ops S i && (Region.ready md ops S).contains i)=true)
 (hQ:∀c a w,Q (.panic c) (a.put d.dst v) w->Q (.panic c) a w) (r:YieldsIf P ops (λ_=>True) d v a)
 (h:kW P md ops Q D st n L f (S.setIfInBounds i true) (a.put d.dst v) w):kW P md ops Q D st n L (f+1) S a w:=by
 simp only[Bool.and_eq_true,decide_eq_true_eq]at b e;intro p g;have o:i∈Region.ready md ops S:=by simpa using e.2
 exact pT (E:=λ_=>True) k b.1.1.1 b.1.1.2 b.1.2 b.2 l hQ q m (.inl λ_=>trivial) f S a w p (Region.free_spec k e.1) o r g (h (p.set o l) (λh=>g (by rwa [getD_set_ne false m]at h)))
theorem ug{c:Oper}{f:Nat}{S:Array Bool}{a:Act}{w:World}(d:Region.ready md ops S=[st])(g:st<n)(e:ops[st]?=some c)
 (l:∀K:Act->World->Prop,(∀b w',kW P md ops Q D st n L f (S.setIfInBounds st true) b w'->K b w')->if Region.wanted c (yielded ops a.tmps)=true then c.wp P a w K Q else K (a.put c.dst undef) w):kW P md ops Q D st n L (f+1) S a w:=by
 intro k r;refine⟨by rw[d];simp,λj h=>?_⟩;rw[d]at h;obtain rfl:j=st:=by simpa using h
 refine⟨g,?_⟩;have q:j∈Region.ready md ops S:=by rw[d];simp
 have p:j<S.size:=by rw[k.size];exact(Array.getElem?_eq_some_iff.1 e).1
 have i:∀w':World,((S.setIfInBounds j true).getD j false=false->D w'):=λw' m=>by simp[p]at m
 exact wpOp_step e λK o=>l K λb w' hW=>o b w' ⟨i w',hW (k.set q g) (i w')⟩
theorem vp{i:Nat}{c:Oper}{f:Nat}{S:Array Bool}{a:Act}{w:World}(d:Region.ready md ops S=[i])(g:i<n)(r:i≠st)(m:ops[i]?=some c)
 (k:∀K:Act->World->Prop,(∀b w',D w'->kW P md ops Q D st n L f (S.setIfInBounds i true) b w'->K b w')->if Region.wanted c (yielded ops a.tmps)=true then c.wp P a w K Q else K (a.put c.dst undef) w):kW P md ops Q D st n L (f+1) S a w:=by
 intro p q;refine⟨by rw[d];simp,λj h=>?_⟩;rw[d]at h;obtain rfl:j=i:=by simpa using h
 refine⟨g,?_⟩;have o:j∈Region.ready md ops S:=by rw[d];simp
 exact wpOp_step m λK l=>k K λb w' e hW=>l b w' ⟨λ_=>e,hW (p.set o g) (λ_=>e)⟩
theorem vt{S:Array Bool}{a:Act}{w:World}(h:L S a w):kW P md ops Q D st n L 0 S a w:=λ_ _=>h
theorem ql(D:World->Prop){o:Nat}{a:Act}{w:World}{l:List Oper}(st n:Nat)(k:P.follows .mixedOrders=true)(f:D w.drew)
 (h:kW P .any l.toArray Q D st n (λS a w=>Region.seqB .any l.toArray (l.toArray.size - n) n S=true/\wpList P l.toArray Q (l.drop n) a w) n (Array.replicate l.toArray.size false) a w.drew) (q:n<=l.length):(Code.region o l.toArray true).wp P Q a w:=by
 have p:HeadInv .any l.toArray n (Array.replicate l.toArray.size false) :=
  ⟨qs,λj r _ i=>absurd i (by rw[getD_replicate_false];simp),λt _ m=>getD_in (by simpa using m) (getD_replicate_false _ _)⟩
 refine wp_region_any k ?_;have d:(l.drop n).length=l.toArray.size - n:=qs
 have b:=rz (g:=l.toArray.size - n) (λS e w' c=>by
  have:=wpAny_of_seq (md:=.any) (Q':=Q) (l.drop n) n S e w' (λj=>by simp[List.getElem?_drop]) (by rw[d];exact c.1) c.2
  rwa [d]at this) _ _ _ _ (h p (λ_=>f))
 rw[show n+(l.toArray.size - n)=l.toArray.size by simp;omega]at b;exact b
end
theorem TG.wf.names:∀ {t:TG},t.wf->∀x∈t.ns,eX x=0
 | .nil,_,x,a=>by simp[TG.ns]at a
 | .node _ l n v h s y r,e,x,a=>by
  obtain⟨⟨c,d⟩,_,_,_,b,_⟩:=e;simp only[TG.ns,List.mem_append,List.mem_cons]at a
  rcases a with a|rfl|a
  ·exact TG.wf.names c x a
  ·exact b
  ·exact TG.wf.names d x a
theorem SG.names{w:World}{b:Nat}{a:List ON}(h:SG w b a):∀x∈a,eX x=0:=by
 obtain⟨d,k,_,⟨t,_,_,c,rfl,_⟩,_⟩:=h;exact c.names
def Ep(nm:ON)(a b:ByteArray)(P:Int):Value:=.agg #[.int .i64 nm.kind,.string a,.int .i64 nm.number,.int .i64 nm.index,.string b,.int .i64 P]
def zX(k:Nat)(w:World)(e:Ending)(w':World):Prop:=∃(nm:ON) (a b:ByteArray) (P n:Nat),e=.returned (.tuple #[Ep nm a b (P:Int),.int .i64 (n:Int)])/\(eX nm=0/\fg nm=.agg #[.int .i64 nm.kind,.string a,.int .i64 nm.number,.int .i64 nm.index,.string b])/\P<65536/\n<=k/\Fr [] w w'
theorem Dp(l z at_:Int)(X:0<=l/\l<256)(Y:0<=z/\z<256)(h3:0<=at_/\at_<256)(b:Nat)(xs:List AX)(ap:List Nat)(w:World)(aG:Ok w)(h:HG w b xs ap):
 Calls prog 12 #[.agg #[.int .u8 l,.int .u8 z,.int .u8 at_],.pointer (some ⟨b,0,none⟩)] w (zX xs.length w):=by
 have aX:=h.len12;obtain⟨m,hm⟩:=eR (xs.length);rw[hm]at aX;obtain⟨w1,aK,aO,n1,f1⟩:=il w #[.int .u8 l,.int .u8 z,.int .u8 at_] 24 w.heap.size;obtain⟨w2,aL,bb,n2,f2⟩:=il w1 #[L0,S0,L0,L0,S0,L0] 33 (w.heap.size+1);have U:=Hd (f1.then f2);obtain⟨RB,Z⟩:=eR (w.heap.size+1);have aP:=n2.lt;have HZ:=Hd (An Z aP);rw[Z]at n2;have A:=Hd (An (n1.fr f2 qs) n2);have HW:=Hd (An aK (An aL (An aO Z)));have HH:=Hd (h.fr0 U.out);have aQ:=Hd (aG.fr0 U.out);have HM:=Hd hm;have D:=Hd (An X (An Y h3))
 have aD:∀W,Fr [] w2 W->Calls prog 19 #[.pointer b] W λe w'=>e=.returned m/\W=w':=λW hW=>by
  have h:=xY b xs ap W (HH.out.fr0 hW);rw[hm]at h;exact h
 have HL:=Hd aD;rw[hm];clear aK aL n1 n2 f1 f2 aO bb aP h aG hm aD
 go_enter func12,ntmps12
 go_upto_region 1 with fail
 rw[HW.out.1,HW.out.2.1]
 try rw[HW.out.2.2.1]
 try rw[Z]
 have ba:IntKind.i64.wrap ((m:Int)+1)=(m:Int)+1:=by simp[IntKind.wrap,IntKind.bits,IntKind.signed];omega
 have aS:IntKind.i64.wrap l=l:=by have:=D.out.1;simp[IntKind.wrap,IntKind.bits,IntKind.signed];omega
 have aY:((m:Int)+1=0)=False:=by simp;omega
 obtain⟨q,hq,a4⟩:∃q:Nat,l.tmod ((m:Int)+1)=(q:Int)/\q<=m:=by
  have X:=D.out.1.1;rw[Int.tmod_eq_emod_of_nonneg X];have Y:=Int.emod_nonneg l (show (m:Int)+1≠0 by omega);have h3:=Int.emod_lt_of_pos l (show 0<(m:Int)+1 by omega);exact⟨(l % ((m:Int)+1)).toNat,qo,qo⟩
 obtain⟨n0,aZ⟩:=eR (m - q);have a7:IntKind.i64.wrap ((m:Int) - (q:Int))=(n0:Int):=by simp[IntKind.wrap,IntKind.bits,IntKind.signed];omega
 have HSS:=Hd (λ(W:World) (hW:Fr [] w2 W)=>(⟨(A.out.1.fr hW qs).c 0,(A.out.1.fr hW qs).c 1,(A.out.1.fr hW qs).c 2⟩:W.cell? ⟨w.heap.size,0,none⟩=some (.int .u8 l)/\W.cell? ⟨w.heap.size,1,none⟩=some (.int .u8 z)/\W.cell? ⟨w.heap.size,2,none⟩=some (.int .u8 at_)));have J:Fr [] w2 w2.drew:=(Fq _ w2).drew;clear Z;refine eZ (λW=>Fr [] w2 W) 10 qk ?_ qd
 show fb 0 ..
 refine gB rfl ?_;try simp only[qq]
 show fb 2 ..
 iterate 4 (refine gB rfl ?_;try simp only[qq])
 refine hO (i:=1) rfl λK B=>?_;go_simp
 go_at_call 19
 (with_reducible refine(HL.out _ J).mono ?_);rintro e L ⟨rfl,rfl⟩;refine B _ _ J ?_;clear B K
 try simp only[qq]
 refine hO (i:=6) rfl λK B=>?_;go_simp
 go_at_call 19
 (with_reducible refine(HL.out _ J).mono ?_);rintro e L ⟨rfl,rfl⟩;refine B _ _ J ?_;clear B K
 try simp only[qq]
 show fb 7 ..
 iterate 3 (refine gB rfl ?_;try simp only[qq])
 refine eW ⟨qk,?_⟩;simp only[qG,qH];have aE:n0<=m:=qo
 clear ba aS aY hq a4 a7 aZ HSS;obtain⟨w3,aM⟩:=eR (w2.drew);rw[aM]at J ⊢;have S:=Hd J;clear aM J;have x0:=(A.out.1.fr S.out qs).c 0
 go_upto_if 26 with fail
 go_cut [6]from 26 to 28 (λs W=>(∃n1:Nat,n1<=m/\s=n1)/\W=w3)
 case first =>
  rcases Decidable.em (l % 4=3)with h4|h4
  ·go_wp2_with (go_at_call 19;(with_reducible refine(HL.out _ S.out).mono ?_);rintro e L ⟨rfl,rfl⟩)
   go_meet
   exact⟨⟨n0,aE,rfl⟩,rfl⟩
  ·have h5:(l % 4 == 3)=false:=by simpa using h4
   have h6:(l % 4 != 3)=true:=by simpa using h4
   go_wp2_with (go_at_call 19;(with_reducible refine(HL.out _ S.out).mono ?_);rintro e L ⟨rfl,rfl⟩)
   go_meet
   exact⟨⟨m,fV m,rfl⟩,rfl⟩
 case rest =>
  obtain⟨⟨n,ak,rfl⟩,aN⟩:=hcut;rw[aN];clear aN aE x0;have T:=C9 b xs ap n w3 (aQ.out.fr0 S.out) (HH.out.fr0 S.out) (by rw[HM.out];exact ak);have aR:=Hd T;clear T
  go_upto_region 5 with(go_at_call 37;(with_reducible refine aR.out.mono ?_);rintro e M ⟨sb,ns,rfl,aH,aF,E⟩;have F:=Hd (An aH (An aF (S.out.then E)));clear aH aF E)
  have ah:=Hd (Em sb ns M F.out.1);obtain⟨k,hk⟩:=eR (ns.length);rw[hk]at ah;have HK:=Hd hk
  rcases Nat.eq_zero_or_pos k with hz|a3
  ·subst hz
   go_upto_region 6 with(go_at_call 38;(with_reducible refine ah.out.mono ?_);rintro e L ⟨rfl,rfl⟩)
   have HSS:=Hd (λ(W:World) (hW:Fr [] M W)=>((A.out.1.fr (F.out.2.2.then hW) qs).c 2:W.cell? ⟨w.heap.size,2,none⟩=some (.int .u8 at_)));have bf:IntKind.i64.wrap at_=at_:=by have:=D.out.2.2;simp[IntKind.wrap,IntKind.bits,IntKind.signed];omega
   refine ql (λW=>Fr [] M W) 6 7 qk ((Fq _ M).drew) ?_ qd;refine kO (i:=1) (v:=?_) qk fC rfl qd qd qk (λ_ _ _ h=>h) (Or.inl ⟨qr,?_⟩) ?_
   rotate_left
   ·intro W hW
    obtain N:=HSS.out W hW;go_simp
    try with_reducible rfl
   try simp only[qq]
   refine kO (i:=2) (v:=?_) qk fC rfl qd qd qk (λ_ _ _ h=>h) (Or.inl ⟨qr,?_⟩) ?_
   rotate_left
   ·intro W hW
    obtain N:=HSS.out W hW;go_simp
    try with_reducible rfl
   try simp only[qq]
   refine kO (i:=3) (v:=?_) qk fC rfl qd qd qk (λ_ _ _ h=>h) (Or.inl ⟨qr,?_⟩) ?_
   rotate_left
   ·intro W hW
    obtain N:=HSS.out W hW;go_simp
    try with_reducible rfl
   try simp only[qq]
   refine vo (i:=5) (v:=?_) qk fC rfl qd qd qk (λ_ _ _ h=>h) (Or.inl ⟨qr,?_⟩) ?_
   rotate_left
   ·intro W hW
    go_simp
    try with_reducible rfl
   try simp only[qq]
   refine vp (i:=0) qk qd qd rfl (λK B=>?_);rw[if_pos qr];go_simp
   go_at_call 35
   (with_reducible refine(vN 1 M.drew).mono ?_);rintro e L ⟨rfl,aJ⟩;have aq:=((Fq _ M).drew).then aJ;refine B _ _ aq ?_;clear B K aJ
   try simp only[qq]
   unfold BW;refine kO (i:=4) (v:=?_) qk fC rfl qd qd qk (λ_ _ _ h=>h) (Or.inl ⟨qr,?_⟩) ?_
   rotate_left
   ·intro W hW
    obtain N:=HSS.out W hW;go_simp
    try with_reducible rfl
   try simp only[qq]
   have a:=A.out.2.fr (F.out.2.2.then aq) qs;obtain⟨o,p,t,u,y,C⟩:=a.m6;have ab:=a.f 0;have ac:=a.f 1;have ad:=a.f 2;have ae:=a.f 3;have af:=a.f 4;have ag:=a.f 5;refine ug qk qd rfl (λK B=>?_);rw[if_pos qr];go_simp
   obtain⟨u2,I,aa,V⟩:=qN (L) (RB) a (16:Int) S0 L1 L0 S0 at_;rw[I];clear I;refine B _ _ ?_;clear B K
   try simp only[qq]
   refine vt ⟨qk,?_⟩;simp only[qG,qH];clear o p t u y C ab ac ad ae af ag;obtain⟨o,p,t,u,y,C⟩:=aa.m6
   go_wp2_with fail
   obtain⟨P,hP⟩:∃P:Nat,at_=(P:Int):=⟨at_.toNat,by have:=D.out.2.2.1;omega⟩;subst hP;refine bodyPost_ret (v:=.tuple #[Ep (j5 1) ⟨#[]⟩ ⟨#[]⟩ (P:Int),n]) (by simp[results,results12,Ep,j5,go_sem,o,p,t,u,y,C]) rfl ?_;exact⟨j5 1,⟨#[]⟩,⟨#[]⟩,P,n,rfl,⟨qk,rfl⟩,by have:=D.out.2.2.2;omega,ak,(U.out.then (F.out.2.2.then aq)).trans V (by simp;have:=HZ.out;omega)⟩
  ·have bk:((k:Int) == 0)=false:=by simp;omega
   have bj:((k:Int)=0)=False:=by simp;omega
   go_upto_region 7 with(go_at_call 38;(with_reducible refine ah.out.mono ?_);rintro e L ⟨rfl,rfl⟩)
   have al:=Dw sb ns M F.out.1 (by have:=F.out.2.1;omega);unfold BZ at al;rw[HK.out]at al;have aB:=Hd al;clear al
   go_upto_region 8 with(go_at_call 39;(with_reducible refine aB.out.mono ?_);rintro e w5 ⟨bd,c,rfl,ho,E,hA⟩;have Q:=Hd (An ho (An (F.out.2.2.then E) E));clear ho E hA)
   obtain⟨j,hj,aW⟩:∃j:Nat,z % (k:Int)=(j:Int)/\j<k:=by
    have Y:=Int.emod_nonneg z (show (k:Int)≠0 by omega);have h3:=Int.emod_lt_of_pos z (show 0<(k:Int) by omega);exact⟨(z % (k:Int)).toNat,qo,qo⟩
   have bi:z.tmod (k:Int)=(j:Int):=by rw[Int.tmod_eq_emod_of_nonneg D.out.2.1.1];exact hj
   obtain⟨r3,a5,bn⟩:∃r:Nat,at_ % 3=(r:Int)/\r<3:=⟨(at_ % 3).toNat,qo,qo⟩;have bo:at_.tmod 3=(r3:Int):=by rw[Int.tmod_eq_emod_of_nonneg D.out.2.2.1];exact a5
   have bg:IntKind.i64.wrap z=z:=by have:=D.out.2.1;simp[IntKind.wrap,IntKind.bits,IntKind.signed];omega
   have bh:IntKind.i64.wrap at_=at_:=by have:=D.out.2.2;simp[IntKind.wrap,IntKind.bits,IntKind.signed];omega
   obtain⟨nm,aw⟩:∃x,ns[j]?=some x:=⟨_,gx (by rw[HK.out];exact aW)⟩;obtain⟨g,off,rfl,aV,aC⟩:=fo me (Q.out.1.rd) a3;have ai:=aC j nm aw;obtain⟨kd,av⟩:=eR (nm.kind);obtain⟨nu,ax⟩:=eR (nm.number);obtain⟨ix,au⟩:=eR (nm.index);obtain⟨G,ay,_,_⟩:=eT nm.owner;obtain⟨H,T,_,_⟩:=eT nm.text;unfold ON.cs at ai;rw[av,ax,au,ay,T]at ai;obtain⟨o,p,t,u,y⟩:=Gz ai;have s0:=A.out.1.fr Q.out.2.1 qs;have x1:=s0.k1;have N:=s0.k2;have a6:=s0.lt;clear s0 aC ai aB ah;have d:=Hd (An av (An ax (An au (An ay (An T aw)))));clear av ax au ay T aw
   go_region
   obtain⟨O,hD⟩:=eR (w5.heap.size);obtain⟨w6,am⟩:=eR ((w5.alloc (.cells #[kd,G,nu,ix,H,r3] 33)).drew);have n6:BoxN w6 O 33 #[kd,G,nu,ix,H,r3]:=by rw[<-am,<-hD];exact(BoxN.new w5 _ _).drew
   have f6:Fr [] w5 w6:=by rw[<-am];exact((Fq [] w5).alloc _).drew
   rw[am,hD];rw[hD]at a6;have H6:=Hd (An n6 (An (Q.out.2.1.then f6) (Q.out.2.2.then f6)))
   have be:O≠RB:=by
    have X:=Q.out.2.1.size;have Y:=A.out.2.lt;omega
   clear am f6 o p t u y x1 N aV;have ar:=F.out.1.names nm (iu d.out.2.2.2.2.2);have aj:=En sb ns nm w6 (F.out.1.fr0 H6.out.2.2) ar;unfold fg at aj;rw[d.out.1,d.out.2.1,d.out.2.2.1,d.out.2.2.2.1,d.out.2.2.2.2.1]at aj;have ao:=Hd aj;have aA:=Hd ar;obtain⟨az,z1,z2,z3,z4,z5⟩:=n6.m6;clear aj ar n6
   go_upto_region 10 with(go_at_call 40;(with_reducible refine ao.out.mono ?_);rintro e w7 ⟨s,fl,rfl,aI,_,E⟩;have R:=Hd (An aI (An (H6.out.2.1.then E) E));clear aI E)
   clear az z1 z2 z3 z4 z5;have n7:=H6.out.1.fr R.out.2.2 qs
   rcases Nat.eq_zero_or_pos s.size with hz|bm
   ·have aT:=decide_eq_false qo
    have aU:¬(0:Int)<(s.size:Int):=qo
    clear ao;have a:=A.out.2.fr (R.out.2.1) qs;obtain⟨o,p,t,u,y,C⟩:=a.m6;have ab:=a.f 0;have ac:=a.f 1;have ad:=a.f 2;have ae:=a.f 3;have af:=a.f 4;have ag:=a.f 5;obtain⟨az,z1,z2,z3,z4,z5⟩:=n7.m6
    go_wp2_with fail
    obtain⟨u2,I,aa,V⟩:=qN (w7) (RB) a kd G nu ix H r3;rw[I];clear I;clear o p t u y C ab ac ad ae af ag;obtain⟨o,p,t,u,y,C⟩:=aa.m6;refine bodyPost_ret (v:=.tuple #[Ep nm G H (r3:Int),n]) (by simp[results,results12,Ep,d.out.1,d.out.2.1,d.out.2.2.1,go_sem,o,p,t,u,y,C]) rfl ?_;exact⟨nm,G,H,r3,n,rfl,⟨aA.out,by unfold fg;rw[d.out.2.2.2.1,d.out.2.2.2.2.1]⟩,qo,ak,(U.out.then (R.out.2.1)).trans V (by simp;have:=HZ.out;omega)⟩
   ·have aT:=decide_eq_true qo
    have aU:(0:Int)<(s.size:Int):=qo
    obtain⟨v,hv,bp⟩:∃v:Nat,at_ % (s.size:Int)=(v:Int)/\v<s.size:=by
     have Y:=Int.emod_nonneg at_ (show (s.size:Int)≠0 by omega);have h3:=Int.emod_lt_of_pos at_ (show 0<(s.size:Int) by omega);exact⟨(at_ % (s.size:Int)).toNat,qo,qo⟩
    have a9:at_.tmod (s.size:Int)=(v:Int):=by rw[Int.tmod_eq_emod_of_nonneg D.out.2.2.1];exact hv
    have N:=(A.out.1.fr R.out.2.1 qs).c 2;have z5:=n7.c 5;have bc:=n7.f 5;clear ao
    go_upto_region 12 with fail
    obtain⟨w8,an⟩:=eR (w7.setCell ⟨O,5,none⟩ v);have n8:BoxN w8 O 33 #[kd,G,nu,ix,H,v]:=by rw[<-an];exact n7.setAt 5 _
    have f8:Fr [O] w7 w8:=by rw[<-an];exact(Fq [O] w7).st _
    have g8:=R.out.2.1.trans f8 (by simp;have X:=Q.out.2.1.size;omega);rw[an];have a8:v<65536:=by have:=R.out.1;omega
    clear an z5 bc N n7 hv a9;have a:=A.out.2.fr (g8) qs;obtain⟨o,p,t,u,y,C⟩:=a.m6;have ab:=a.f 0;have ac:=a.f 1;have ad:=a.f 2;have ae:=a.f 3;have af:=a.f 4;have ag:=a.f 5;obtain⟨az,z1,z2,z3,z4,z5⟩:=n8.m6
    go_wp2_with fail
    obtain⟨u2,I,aa,V⟩:=qN (w8) (RB) a kd G nu ix H v;rw[I];clear I;clear o p t u y C ab ac ad ae af ag;obtain⟨o,p,t,u,y,C⟩:=aa.m6;refine bodyPost_ret (v:=.tuple #[Ep nm G H (v:Int),n]) (by simp[results,results12,Ep,d.out.1,d.out.2.1,d.out.2.2.1,go_sem,o,p,t,u,y,C]) rfl ?_;exact⟨nm,G,H,v,n,rfl,⟨aA.out,by unfold fg;rw[d.out.2.2.2.1,d.out.2.2.2.2.1]⟩,a8,ak,(U.out.then (g8)).trans V (by simp;have:=HZ.out;omega)⟩
open Go.RowKit Go.Shelf
def cg(i:Int)(v:ByteArray)(a:Bool):CH:=⟨j5 i,v.data.toList,a⟩
def kg(i:Int)(r w:List CH):AG:=⟨⟨i,0,i,[]⟩,r,w⟩
def kg0:AG:=kg 1 [] [cg 1 ⟨#[120]⟩ false]
def kg1:AG:=kg 2 [cg 1 ⟨#[120]⟩ false] [cg 2 ⟨#[121,122]⟩ false]
def kg2:AG:=kg 3 [cg 3 ⟨#[]⟩ true] []
theorem Gr:mN kg0=true:=qk
theorem Gs:mN kg1=true:=qk
theorem Gy:mN kg2=true:=qk
theorem uh(i:Int)(v:ByteArray)(a:Bool)(h:v.size<=10):(cg i v a).fit:=⟨by simp[cg,j5],by simp[cg,j5],by show v.data.toList.length<=_;rw[Array.length_toList];exact Nat.le_trans h qo⟩
theorem Dq:kg0.fit:=⟨by simp[kg0,kg],by simp[kg0,kg],λx a=>by simp[kg0,kg]at a;rw[a];exact uh _ _ _ qd,by simp[kg0,kg],by simp[kg0,kg]⟩
theorem Dr:kg1.fit:=⟨by simp[kg1,kg],λx a=>by simp[kg1,kg]at a;rw[a];exact uh _ _ _ qd,λx a=>by simp[kg1,kg]at a;rw[a];exact uh _ _ _ qd,by simp[kg1,kg],by simp[kg1,kg]⟩
theorem Ds:kg2.fit:=⟨by simp[kg2,kg],λx a=>by simp[kg2,kg]at a;rw[a];exact uh _ _ _ qd,by simp[kg2,kg],by simp[kg2,kg],by simp[kg2,kg]⟩
theorem yn(W:World):Chs W none []:=Row.nil_
theorem qy{W:World}{b:Nat}{i:Int}{v:ByteArray}{a:Bool}(h:Cs W b (Fd i v a)):Chs W (some ⟨b,0,none⟩) [cg i v a]:=⟨rfl,λ_=>⟨b,0,rfl,h.1,λj u c=>by
 rw[Nat.zero_add];exact h.2 j u c⟩⟩
theorem xu(b:Nat)(xs:List AX)(M:List Nat)(a:AG)(d f:Option Addr)(g i:Nat)(w:World)(h:HG w b xs M)(t:Ok w)(s:∀k∈M,6<=k)(v:a.k.lin=[])(l:a.fit)(u:a.r.length<=10)(x:a.w.length<=10)(p:xs.length<=11)(o:qj xs a=true)
 (z:Kept M w λW=>Chs W d a.r/\Chs W f a.w):Calls prog 34 #[.pointer (some ⟨b,0,none⟩),a.val ⟨#[]⟩ d g f i] w λe w'=>e=.returned (.int .i64 0)/\∃c y,y.a=a/\HG w' b (xs++[y]) c/\Fr M w w'/\∀k∈c,k∈M \/ w.heap.size<=k:=by
 refine(sQ b xs M a ⟨#[]⟩ d f g i w h t s (by rw[v];rfl) l u x p z).mono ?_;rintro e w' ⟨q,rfl,h|⟨_,rfl,c,y,A,n,m,j⟩⟩
 ·rw[o]at h;cases h.1
 ·exact⟨rfl,c,y,A,n,m,j⟩
theorem vu{y:AX}{xs:List AX}{a:AG}(h:mN a=true)(b:0<pJ a.k y.a.k):qj (xs++[y]) a=true:=by
 unfold qj;rw[h,List.getLast?_concat];simpa using b
theorem vv{b c d:AX}(h:b.a=kg0)(i:c.a=kg1)(j:d.a=kg2):lV [b,c,d] (j5 2) 1 3=.inr [0,1]:=by
 unfold lV;simp only[List.map_cons,List.map_nil,h,i,j];have e:pw ([kg0,kg1,kg2].take 3) (j5 2) 1=⟨1,true,122⟩:=qk
 have f:uC (tA ([kg0,kg1,kg2].take 3)) 3 1 []=[1,0]:=qk
 have g:Bh [1,0]=[0,1]:=by simp[Bh,List.mergeSort,List.MergeSort.Internal.splitInTwo]
 show (if(3:Int)<0 \/ ((3:Nat):Int)<3 then _ else _)=_
 rw[if_neg qo,show (3:Int).toNat=3 from rfl,e,if_neg qs];unfold kZ;rw[show (1:Int).toNat=1 from rfl,f,g]
theorem pU(d:Nm)(b:d.length=32)(X:World):∃Y,(storeCells ⟨X.heap.size,0,none⟩ (eP d)).run prog (X.alloc (.cells (#[.int .u8 0,.int .u8 0,.int .u8 0,.int .u8 0,.int .u8 0,.int .u8 0,.int .u8 0,.int .u8 0,.int .u8 0,.int .u8 0,.int .u8 0,.int .u8 0,.int .u8 0,.int .u8 0,.int .u8 0,.int .u8 0,.int .u8 0,.int .u8 0,.int .u8 0,.int .u8 0,.int .u8 0,.int .u8 0,.int .u8 0,.int .u8 0,.int .u8 0,.int .u8 0,.int .u8 0,.int .u8 0,.int .u8 0,.int .u8 0,.int .u8 0,.int .u8 0]) 57))=.ok () Y/\Fr [] X Y/\Y.rowIs X.heap.size 57 32 (λj=>.int .u8 ((d.getD j 0).toNat:Int)):=by
 obtain⟨W,hW⟩:=eR (X.alloc (.cells (qm) 57));obtain⟨f,a⟩:∃f,W.rowIs X.heap.size 57 32 f:=by rw[<-hW];exact⟨_,gn X _ _⟩
 have hF:Fr [] X W:=by rw[<-hW];exact(Fq [] X).alloc _
 rw[hW];exact⟨_,fc a b,hF.trans ((Fq [X.heap.size] W).setCells (.inl qs) _ _) qs,(fh a b).2⟩
theorem zY(A:Option Addr)(b c d:Nat)(x:LK)(w:World)(a:Rd w 7 A 1 ([x].flatMap LK.cs))(e:Cs w b ([x].flatMap LK.cs)):
 Calls prog 36 #[.slice A 1 c,.slice (some ⟨b,0,none⟩) 1 d] w (fm w (.bool true)) :=
 td A (some ⟨b,0,none⟩) c d [x] w a (yC e rfl) qs
theorem xv:∃s:LS,ju (j5 2) 1 [0,1] [kg0,kg1]=.ok (122,s)/\s.lks=[⟨0,1,j5 1⟩]/\∀n,s.asm n=none:=by
 have f:∃s:LS,i6 [kg0,kg1] [0,1] 2=some s/\s.lks=[⟨0,1,j5 1⟩]/\s.used=[0]/\∀n,s.asm n=none:=⟨_,rfl,rfl,rfl,λn=>rfl⟩;obtain⟨s,b,c,d,e⟩:=f;refine⟨s,?_,c,e⟩;have h:=(rV (nm:=j5 2) (P:=1) (is:=[0,1]) (l:=[kg0,kg1]) (a:=kg1) (x:=cg 2 ⟨#[121,122]⟩ false) qk rfl rfl (λh=>h.elim (λh=>nomatch h) (λh=>absurd h qd))).2 s b;rw[h,d];rfl
theorem BT{f:ON->Option CH}{l:List CH}(h:kP f l)(a:∀n,f n=none):l=[]:=by
 cases l with
 | nil=>rfl
 | cons x r =>
  have:=h.2.2.1 x.n;rw[a]at this;simp[nA]at this
def Gu(a b c d L:Nat)(W:World):Prop:=Cs W a (Fd 1 ⟨#[120]⟩ false)/\Cs W b (Fd 1 ⟨#[120]⟩ false)/\Cs W c (Fd 2 ⟨#[121,122]⟩ false)/\Cs W d (Fd 3 ⟨#[]⟩ true)/\Cs W L [.int .i64 1,.int .i64 0,.int .i64 1,.string ⟨#[]⟩,.slice none 0 0,.slice (some ⟨a,0,none⟩) 1 1,.int .i64 2,.int .i64 0,.int .i64 2,.string ⟨#[]⟩,.slice (some ⟨b,0,none⟩) 1 1,.slice (some ⟨c,0,none⟩) 1 1,.int .i64 3,.int .i64 0,.int .i64 3,.string ⟨#[]⟩,.slice (some ⟨d,0,none⟩) 1 1,.slice none 0 0]
theorem yo(w:World)(bc:Ok w):Calls prog 11 #[] w (fm w (.bool true)):=by
 have z:=Hd bc;have Y:Hid (∀(i:Int) (W:World),Calls prog 35 #[.int .i64 i] W (fm W (.agg #[.int .i64 16,.string ⟨#[]⟩,.int .i64 i,.int .i64 0,.string ⟨#[]⟩]))):=Hd λi W=>vN i W;clear bc
 go_enter func11,ntmps11
 go_upto_region 4 with(first
  | (go_at_call 33;(with_reducible refine(uR w).mono ?_);rintro e w1 ⟨rfl,ap,a6⟩;have H1:=Hd (An ap a6);clear ap a6)
  | (go_at_call 32;(with_reducible refine(Eo w.heap.size w1 (z.out.fr0 H1.out.2) H1.out.1).mono ?_);rintro e w2 ⟨b,M0,rfl,q,a7,a3⟩;have H2:=Hd (An q (An (H1.out.2.then a7) (show ∀k∈M0,w.heap.size<=k from λk f=>Nat.le_trans H1.out.2.size (a3 k f))));clear q a7 a3))
 go_upto_region 5 with(first
  | (go_at_call 35;(with_reducible refine(Y.out 1 w2).mono ?_);rintro e C ⟨rfl,bd⟩;have ax:=Hd bd;clear bd)
  | (go_at_call 35;(with_reducible refine(Y.out 1 (C.alloc (.cells #[.int .i64 16,.string ⟨#[]⟩,.int .i64 1,.int .i64 0,.string ⟨#[]⟩,.string ⟨#[120]⟩,.bool false] 95))).mono ?_);rintro e p2 ⟨rfl,be⟩;have aj:=Hd be;clear be)
  | (go_at_call 35;(with_reducible refine(Y.out 2 (p2.alloc (.cells #[.int .i64 16,.string ⟨#[]⟩,.int .i64 1,.int .i64 0,.string ⟨#[]⟩,.string ⟨#[120]⟩,.bool false] 95))).mono ?_);rintro e D ⟨rfl,bf⟩;have ak:=Hd bf;clear bf)
  | (go_at_call 35;(with_reducible refine(Y.out 3 (D.alloc (.cells #[.int .i64 16,.string ⟨#[]⟩,.int .i64 2,.int .i64 0,.string ⟨#[]⟩,.string ⟨#[121,122]⟩,.bool false] 95))).mono ?_);rintro e T ⟨rfl,bg⟩;have al:=Hd bg;clear bg))
 have n1:=BoxN.new C 95 #[.int .i64 16,.string ⟨#[]⟩,.int .i64 1,.int .i64 0,.string ⟨#[]⟩,.string ⟨#[120]⟩,.bool false];have n2:=BoxN.new p2 95 #[.int .i64 16,.string ⟨#[]⟩,.int .i64 1,.int .i64 0,.string ⟨#[]⟩,.string ⟨#[120]⟩,.bool false];have n3:=BoxN.new D 95 #[.int .i64 16,.string ⟨#[]⟩,.int .i64 2,.int .i64 0,.string ⟨#[]⟩,.string ⟨#[121,122]⟩,.bool false];obtain⟨q1,bk,ae,n4,aY⟩:=il T #[.int .i64 16,.string ⟨#[]⟩,.int .i64 3,.int .i64 0,.string ⟨#[]⟩,.string ⟨#[]⟩,.bool true] 95 T.heap.size;rw[bk];obtain⟨B,bm,bK,nL,aA⟩:=il q1 #[.int .i64 1,.int .i64 0,.int .i64 1,.string ⟨#[]⟩,.slice none 0 0,.slice (some ⟨C.heap.size,0,none⟩) 1 1,.int .i64 2,.int .i64 0,.int .i64 2,.string ⟨#[]⟩,.slice (some ⟨p2.heap.size,0,none⟩) 1 1,.slice (some ⟨D.heap.size,0,none⟩) 1 1,.int .i64 3,.int .i64 0,.int .i64 3,.string ⟨#[]⟩,.slice (some ⟨T.heap.size,0,none⟩) 1 1,.slice none 0 0] 91 q1.heap.size;rw[bm];have g4:Fr [] T B:=aY.then aA;have g3:Fr [] D B:=(((Fq [] D).alloc _).then al.out).then g4;have g2:Fr [] p2 B:=(((Fq [] p2).alloc _).then ak.out).then g3;have g1:Fr [] C B:=(((Fq [] C).alloc _).then aj.out).then g2;have gw:Fr [] w2 B:=ax.out.then g1;have m1:BoxN B C.heap.size 95 #[.int .i64 16,.string ⟨#[]⟩,.int .i64 1,.int .i64 0,.string ⟨#[]⟩,.string ⟨#[120]⟩,.bool false]:=(n1.fr aj.out qs).fr g2 qs;have m2:BoxN B p2.heap.size 95 #[.int .i64 16,.string ⟨#[]⟩,.int .i64 1,.int .i64 0,.string ⟨#[]⟩,.string ⟨#[120]⟩,.bool false]:=(n2.fr ak.out qs).fr g3 qs;have m3:BoxN B D.heap.size 95 #[.int .i64 16,.string ⟨#[]⟩,.int .i64 2,.int .i64 0,.string ⟨#[]⟩,.string ⟨#[121,122]⟩,.bool false]:=(n3.fr al.out qs).fr g4 qs;have m4:=n4.fr aA qs;have ba:w2.heap.size<=C.heap.size:=ax.out.size;have aM:C.heap.size<p2.heap.size:=by have h:=aj.out.size;rw[kX]at h;omega
 have aN:p2.heap.size<D.heap.size:=by have h:=ak.out.size;rw[kX]at h;omega
 have aO:D.heap.size<T.heap.size:=by have h:=al.out.size;rw[kX]at h;omega
 have M:Gu C.heap.size p2.heap.size D.heap.size T.heap.size q1.heap.size B:=⟨Cs.of_box m1,Cs.of_box m2,Cs.of_box m3,Cs.of_box m4,Cs.of_box nL⟩
 try rw[ae]
 obtain⟨R,hL⟩:=eR (q1.heap.size);rw[<-ae,hL];rw[hL]at M ae;obtain⟨c1,aG⟩:=eR (C.heap.size);obtain⟨c2,aH⟩:=eR (p2.heap.size);obtain⟨c3,aI⟩:=eR (D.heap.size);obtain⟨c4,aJ⟩:=eR (T.heap.size);rw[aG,aH,aI,aJ]at M;rw[aG]at ba aM;rw[aH]at aM aN;rw[aI]at aN aO;rw[aJ]at aO ae;have aa:=H2.out.1.lt;have av:Hid (Kept M0 B (Gu c1 c2 c3 c4 R)):=Hd λW hW=>⟨M.1.fr hW (λr=>by have:=aa _ r;omega),M.2.1.fr hW (λr=>by have:=aa _ r;omega),M.2.2.1.fr hW (λr=>by have:=aa _ r;omega),M.2.2.2.1.fr hW (λr=>by have:=aa _ r;omega),M.2.2.2.2.fr hW (λr=>by have:=aa _ r;omega)⟩;have Q:=Hd (An (H2.out.1.fr0 gw) (An (H2.out.2.1.then gw) H2.out.2.2));clear n1 n2 n3 n4 nL bk bm aY aA ae bK g1 g2 g3 g4 gw m1 m2 m3 m4 ba aM aN aO M hL aG aH aI aJ aa H1 H2 ax aj ak al
 go_upto_region 6 with fail
 refine wp_loop_rounds 4 ?_;rw[rounds_succ];have m:=(av.out.now).2.2.2.2;obtain⟨ag,z1,z2,z3,z4,z5⟩:=m.m6;clear m;have aD:=xu b [] M0 kg0 none (some ⟨c1,0,none⟩) 0 1 B Q.out.1 (z.out.fr0 Q.out.2.1) (λk f=>Nat.le_trans z.out.low (Q.out.2.2 k f)) rfl Dq qd qd qs (by unfold qj;rw[Gr];rfl) (av.out.imp λW h=>⟨yn W,qy h.1⟩);rw[show kg0.val ⟨#[]⟩ none 0 (some ⟨c1,0,none⟩) 1=.agg #[.int .i64 1,.int .i64 0,.int .i64 1,.string ⟨#[]⟩,.slice none 0 0,.slice (some ⟨c1,0,none⟩) 1 1]from rfl]at aD;have HA:=Hd aD;clear aD
 go_wp2_with (go_at_call 34;(with_reducible refine HA.out.mono ?_);rintro e x1 ⟨rfl,M1,n,bu,q,t,N⟩;have H:=Hd (An bu (An q (An t N)));clear bu q t N)
 clear ag z1 z2 z3 z4 z5;have aw:=Hd (av.out.step H.out.2.2.1 H.out.2.2.2);have V:Hid (Fr [] w x1/\∀k∈M1,w.heap.size<=k):=Hd ⟨Q.out.2.1.trans H.out.2.2.1 (λk f=>.inr (Q.out.2.2 k f)),λk f=>(H.out.2.2.2 k f).elim (Q.out.2.2 k) (λh=>Nat.le_trans Q.out.2.1.size h)⟩;rw[rounds_succ];have m:=(aw.out.now).2.2.2.2;have ag:=m.k6;have z1:=m.k7;have z2:=m.k8;have z3:=m.k9;have z4:=m.k10;have z5:=m.k11;clear m;have aE:=xu b ([]++[n]) M1 kg1 (some ⟨c2,0,none⟩) (some ⟨c3,0,none⟩) 1 1 x1 H.out.2.1 (z.out.fr0 V.out.1) (λk f=>Nat.le_trans z.out.low (V.out.2 k f)) rfl Dr qd qd qs (vu Gs (by rw[H.out.1];decide)) (aw.out.imp λW h=>⟨qy h.2.1,qy h.2.2.1⟩);rw[show kg1.val ⟨#[]⟩ (some ⟨c2,0,none⟩) 1 (some ⟨c3,0,none⟩) 1=.agg #[.int .i64 2,.int .i64 0,.int .i64 2,.string ⟨#[]⟩,.slice (some ⟨c2,0,none⟩) 1 1,.slice (some ⟨c3,0,none⟩) 1 1]from rfl]at aE;have bA:=Hd aE;clear aE
 go_wp2_with (go_at_call 34;(with_reducible refine bA.out.mono ?_);rintro e O ⟨rfl,M2,o,bv,q,t,N⟩;have I:=Hd (An bv (An q (An t N)));clear bv q t N)
 clear ag z1 z2 z3 z4 z5;have aV:=Hd (aw.out.step I.out.2.2.1 I.out.2.2.2);have ai:Hid (Fr [] w O/\∀k∈M2,w.heap.size<=k):=Hd ⟨V.out.1.trans I.out.2.2.1 (λk f=>.inr (V.out.2 k f)),λk f=>(I.out.2.2.2 k f).elim (V.out.2 k) (λh=>Nat.le_trans V.out.1.size h)⟩;rw[rounds_succ];have m:=(aV.out.now).2.2.2.2;have ag:(O).cell? ⟨R,12,none⟩=some (.int .i64 3):=m.2 12 _ rfl;have z1:(O).cell? ⟨R,13,none⟩=some (.int .i64 0):=m.2 13 _ rfl;have z2:(O).cell? ⟨R,14,none⟩=some (.int .i64 3):=m.2 14 _ rfl;have z3:(O).cell? ⟨R,15,none⟩=some (.string ⟨#[]⟩):=m.2 15 _ rfl;have z4:(O).cell? ⟨R,16,none⟩=some (.slice (some ⟨c4,0,none⟩) 1 1):=m.2 16 _ rfl;have z5:(O).cell? ⟨R,17,none⟩=some (.slice none 0 0):=m.2 17 _ rfl;clear m;have aF:=xu b (([]++[n])++[o]) M2 kg2 (some ⟨c4,0,none⟩) none 1 0 O I.out.2.1 (z.out.fr0 ai.out.1) (λk f=>Nat.le_trans z.out.low (ai.out.2 k f)) rfl Ds qd qd qs (vu Gy (by rw[I.out.1];decide)) (aV.out.imp λW h=>⟨qy h.2.2.2.1,yn W⟩);rw[show kg2.val ⟨#[]⟩ (some ⟨c4,0,none⟩) 1 none 0=.agg #[.int .i64 3,.int .i64 0,.int .i64 3,.string ⟨#[]⟩,.slice (some ⟨c4,0,none⟩) 1 1,.slice none 0 0]from rfl]at aF;have bB:=Hd aF;clear aF
 go_wp2_with (go_at_call 34;(with_reducible refine bB.out.mono ?_);rintro e x3 ⟨rfl,M3,u,bw,q,t,N⟩;have az:=Hd (An bw (An q (An t N)));clear bw q t N)
 clear ag z1 z2 z3 z4 z5;have aU:Hid (Fr [] w x3):=Hd (ai.out.1.trans az.out.2.2.1 (λk f=>.inr (ai.out.2 k f)));rw[rounds_succ]
 go_upto_region 10 with fail
 have au:HG x3 b [n,o,u] M3:=az.out.2.1;have bC:=Hd au;have ay:Calls prog 21 #[.pointer (some ⟨b,0,none⟩),.int .i64 3] x3 (mH x3 (jQ [n,o,u] 3)):=BB b [n,o,u] M3 3 x3 au (z.out.fr0 aU.out) qs;obtain⟨ab,ao⟩:=eR (jQ [n,o,u] 3)
 have bo:Run [n,o,u]:=by
  obtain⟨pb,pl,bO,A0,c0,F0,ns,bP,bQ,q,_⟩:=au;exact q.run
 have an:ab.length=32:=by
  rw[<-ao];unfold jQ;exact jW (nj _) (3+1) 0 qo (by rw[lx];simp) qo
 rw[ao]at ay;have bG:(eP ab).length=32:=by rw[eU,an]
 have aX:=Hd (An ao bo);have bE:=Hd ay;clear ay ao au bo
 go_upto_region 11 with(go_at_call 21;(with_reducible refine bE.out.mono ?_);rintro e x4 ⟨rfl,aK⟩;obtain⟨x5,ap,aL,bn⟩:=pU ab an x4;unfold fu;have H5:=Hd (An (aU.out.then (aK.then aL)) (An (aK.then aL) bn));clear aK aL bn)
 clear ap
 have bD:Hid (∀X,Fr [] x5 X->Calls prog 13 #[.pointer (some ⟨b,0,none⟩),.agg #[.int .i64 16,.string ⟨#[]⟩,.int .i64 2,.int .i64 0,.string ⟨#[]⟩,.int .i64 1],.int .i64 3] X λe w'=>∃(ah:Option Addr) (c:Nat) (G:List PF),e=.returned (.tuple #[.agg #[.int .i64 16,.string ⟨#[]⟩,.int .i64 2,.int .i64 0,.string ⟨#[]⟩,.int .i64 1,.int .i64 3,.slice ah 2 c],.int .i64 0])/\PrL w' 3 ah c G/\(G.map λp=>(p.i,p.s,p.d))=[tH [n,o,u] 3 0,tH [n,o,u] 3 1]/\Fr [] X w'):=Hd λX hX=>by
  refine(Ey b [n,o,u] M3 (j5 2) ⟨#[]⟩ ⟨#[]⟩ 1 3 X (bC.out.fr0 (H5.out.2.1.then hX)) (z.out.fr0 (H5.out.1.then hX)) qk rfl qo).mono ?_;intro e w' r;unfold kj at r;rw[vv H.out.1 I.out.1 az.out.1]at r;obtain⟨ah,c,G,rfl,hp,F,t⟩:=r;exact⟨ah,c,G,rfl,hp,F,t⟩
 go_upto_region 12 with(first
  | (go_at_call 35;(with_reducible refine(Y.out 2 x5).mono ?_);rintro e x6 ⟨rfl,bh⟩;have H6:=Hd bh;clear bh)
  | (go_at_call 13;(with_reducible refine(bD.out x6 H6.out).mono ?_);rintro e x7 ⟨g,pc,G,rfl,bj,F,a8⟩;have H7:=Hd (An (H6.out.then a8) (An bj F));clear bj F a8))
 obtain⟨x8,bt,bL,n8,f8⟩:=il x7 #[.int .i64 16,.string ⟨#[]⟩,.int .i64 2,.int .i64 0,.string ⟨#[]⟩,.int .i64 1,.int .i64 3,.slice g 2 pc] 39 x7.heap.size;rw[bt];have aB:Fr [] x5 x8:=H7.out.1.then f8;have ar:Fr [] w x8:=H5.out.1.then aB;have aP:PrL x8 3 g pc G:=⟨H7.out.2.1.own.fr f8 qs,λp h=>(H7.out.2.1.ds p h).fr f8 qs⟩;have F:=H7.out.2.2;have aR:G.length=2:=by have:=congrArg List.length F;simpa using this
 have bi:G.map PF.i=[0,1]:=by
  have:=congrArg (List.map λx:Nat × Nm × List Nm=>x.1) F;rw[List.map_map]at this;exact this
 have E:=tv ab an (j5 2) ⟨#[]⟩ ⟨#[]⟩ 1 3 2 g pc G [kg0,kg1] x8 (z.out.fr0 ar) qk rfl qo aP aR qo qo rfl (by intro a ha;simp at ha;rcases ha with rfl|rfl;exact⟨Gr,qd,qd⟩;exact⟨Gs,qd,qd⟩)
  (λj p a aQ a5 W hW=>by
   have hj:j<2:=by rw[<-aR];exact(i9.1 aQ).1
   have f:((p.i,p.s,p.d):Nat × Nm × List Nm)=tH [n,o,u] 3 j:=by
    have:=congrArg (λl:List (Nat × Nm × List Nm)=>l[j]?) F;simp only[List.getElem?_map,aQ]at this
    rcases (show j=0 \/ j=1 by omega)with rfl|rfl <;> exact Option.some.inj this
   have bJ:∃y,[n,o,u][j]?=some y/\y.a=a:=by
    rcases (show j=0 \/ j=1 by omega)with rfl|rfl
    ·exact⟨n,rfl,H.out.1.trans (Option.some.inj a5)⟩
    ·exact⟨o,rfl,I.out.1.trans (Option.some.inj a5)⟩
   obtain⟨y,hy,rfl⟩:=bJ;have bI:=iu aQ;have ho:=(aP.ds p bI).fr hW qs;unfold tH at f;rw[hy]at f;simp only[Prod.mk.injEq]at f;obtain⟨k1,k2,k3⟩:=f;rw[k3]at ho;have h:=te [n,o,u] aX.out.2 j 3 y hy qo qs p.A p.c W (z.out.fr0 (ar.then hW)) ho;rw[aX.out.1]at h
   have e:Value.agg (p.cs 3).toArray=.agg #[.int .i64 (j:Int),.int .i64 ((3:Nat):Int),ft (fL y.a),.slice p.A (iz [n,o,u] j 3).length p.c]:=by
    unfold PF.cs;rw[k1,k2,k3]
   rw[e];exact h)
 obtain⟨sq,br,aS,bs⟩:=xv;rw[bi]at E;unfold kH at E;rw[br]at E
 have a4:Calls prog 22 #[fu ab,.agg #[.int .i64 16,.string ⟨#[]⟩,.int .i64 2,.int .i64 0,.string ⟨#[]⟩,.int .i64 1,.int .i64 3,.slice g 2 pc]] x8 λe w'=>∃(ac:Option Addr) (ic:Nat) (KK:Option Addr) (af:Nat) (J:Option Addr) (S:Nat) (U:Option Addr) (Z:Nat),e=.returned (.tuple #[.agg #[.int .u8 122,.int .i64 1,.slice ac 2 ic,.slice KK 2 af,.slice J 1 S,.slice U 0 Z],.int .i64 0])/\Rd w' 7 J 1 ([(⟨0,1,j5 1⟩:LK)].flatMap LK.cs)/\Fr [] x8 w':=by
  refine E.mono ?_;rintro e w' ⟨v,rfl,bH,t⟩;obtain⟨ac,KK,J,U,ic,af,S,Z,bN,rfl,_,_,hL,_,ho⟩:=bH.ex;obtain rfl:=BT ho bs;rw[aS]at hL;rw[aS];exact⟨ac,ic,KK,af,J,S,U,Z,rfl,hL,t⟩
 clear E;have E:=a4;clear a4 br aS bs bi aR F aP;unfold fu at E;have bF:=Hd E;have aW:=Hd (fH (eS H5.out.2.2 aB qs) an);have aT:=Hd (An n8 ar);obtain⟨r0,r1,r2,r3,r4,r5,r6,r7⟩:=n8.m8;obtain⟨DB,aZ⟩:=eR (x4.heap.size);rw[aZ]at aW ⊢;clear E aB ar n8 f8 bt bL aZ
 go_upto_region 13 with(first
  | (refine fF qr ?_;(with_reducible refine wp_load_mid 57 (.tmp 5) rfl DB 0 rfl (eP ab) (.array 32 5) aW.out qk rfl (by rw[bG];kernel_rfl) ?_))
  | (go_at_call 22;(with_reducible refine bF.out.mono ?_);rintro e x9 ⟨ac,ic,KK,af,J,S,U,Z,rfl,bb,a9⟩;have H9:=Hd (An bb a9);clear bb a9))
 obtain⟨y9,bx,bM,n9,f9⟩:=il x9 #[.int .u8 122,.int .i64 1,.slice ac 2 ic,.slice KK 2 af,.slice J 1 S,.slice U 0 Z] 64 x9.heap.size;rw[bx];have P:=Hd (An n9 (An (H9.out.1.fr0 f9) (An (aT.out.1.fr (H9.out.2.then f9) qs) (aT.out.2.then (H9.out.2.then f9)))));clear n9 bx f9 bM r0 r1 r2 r3 r4 r5 r6 r7;have HSS:=Hd (λ(W:World) (hW:Fr [] y9 W)=>(⟨(P.out.1.fr hW qs).c 0,(P.out.1.fr hW qs).c 1,(P.out.1.fr hW qs).c 4,(P.out.1.fr hW qs).c 5,(P.out.2.2.1.fr hW qs).c 7⟩:W.cell? ⟨x9.heap.size,0,none⟩=some (.int .u8 122)/\W.cell? ⟨x9.heap.size,1,none⟩=some (.int .i64 1)/\W.cell? ⟨x9.heap.size,4,none⟩=some (.slice J 1 S)/\W.cell? ⟨x9.heap.size,5,none⟩=some (.slice U 0 Z)/\W.cell? ⟨x7.heap.size,7,none⟩=some (.slice g 2 pc)));have K:Fr [] y9 y9.drew:=(Fq _ y9).drew;refine eZ (λW=>Fr [] y9 W) 40 qk ?_ qd
 show fb 0 ..
 iterate 29 (refine gB rfl ?_;try simp only[qq])
 refine hO (i:=29) rfl λad L=>?_;go_simp
 go_at_call 35
 (with_reducible refine(Y.out 1 _).mono ?_);rintro e u1 ⟨rfl,bp⟩;have aC:=K.then bp;refine L _ _ aC ?_;clear L ad K bp
 try simp only[qq]
 have K:=aC
 show fb 30 ..
 refine gB rfl ?_;try simp only[qq];refine hO (i:=31) rfl λad L=>?_;go_simp
 obtain⟨u2,aq⟩:=eR (u1.alloc (.cells #[.int .i64 0,.int .i64 1,.int .i64 16,.string ⟨#[]⟩,.int .i64 1,.int .i64 0,.string ⟨#[]⟩] 98));have bz:BoxN u2 u1.heap.size 98 #[.int .i64 0,.int .i64 1,.int .i64 16,.string ⟨#[]⟩,.int .i64 1,.int .i64 0,.string ⟨#[]⟩]:=by rw[<-aq];exact BoxN.new u1 _ _
 have am:Fr [] y9 u2:=by rw[<-aq];exact K.alloc _
 rw[aq];refine L _ _ am ?_;clear L ad K aC aq
 try simp only[qq]
 refine hO (i:=32) rfl λad L=>?_;go_simp
 go_at_call 36
 (with_reducible refine(zY J u1.heap.size S 1 ⟨0,1,j5 1⟩ u2 (P.out.2.1.fr0 am) (Cs.of_box bz)).mono ?_);rintro e u3 ⟨rfl,bq⟩;have K:=am.then bq;refine L _ _ K ?_;clear L ad bq am bz
 try simp only[qq]
 show fb 33 ..
 iterate 7 (refine gB rfl ?_;try simp only[qq])
 refine eW ⟨qk,?_⟩;simp only[qG,qH]
 go_wp2_with fail
 go_ret
 exact⟨rfl,P.out.2.2.2.then K⟩
end Go.Proofs.YtlpmiimgacfmkaaGreatDoor
