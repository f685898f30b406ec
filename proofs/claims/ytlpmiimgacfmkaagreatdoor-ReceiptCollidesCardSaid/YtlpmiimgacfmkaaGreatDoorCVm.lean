/- Part of the proof. -/
import Derived.Test.YtlpmiimgacfmkaaGreatDoorCVi
set_option linter.all false
set_option maxHeartbeats 8000000
set_option maxRecDepth 100000
namespace Go.Proofs.YtlpmiimgacfmkaaGreatDoor
open Go.Proofs.Tryz List
open Go.RowKit Go.Shelf
attribute [local go_sem] Oper.semAt_some
structure OS where
 og:Int
 fd:Bool
 vl:Int
def Jb:OS:=⟨0,false,0⟩
def ET(P:Nat)(v:Nm):Int:=((v.getD P 0).toNat:Int)
def OS.stop(P:Nat)(s:OS)(z:VZ):Prop:=z.a=true \/ z.v.length<=P \/ (s.fd=true/\ET P z.v≠s.vl)
instance (P:Nat) (s:OS) (z:VZ):Decidable (OS.stop P s z):=by unfold OS.stop;infer_instance
def OS.next(P:Nat)(z:VZ):OS:=⟨z.i,true,ET P z.v⟩
def OS.walk(P:Nat):List VZ->OS->OS
 | [],s=>s
 | z::r,s=>if OS.stop P s z then s else OS.walk P r (OS.next P z)
def Eo(P:Nat):∀(R:List VZ) (s:OS),(∃z∈R,z.a=true)->∃(K:Nat) (S:Nat->OS),1<=K/\K<=R.length/\S 0=s/\(∀k,k+1<K->∃z,R[k]?=some z/\¬OS.stop P (S k) z/\S (k+1)=OS.next P z)/\(∀k,k+1=K->∃z,R[k]?=some z/\OS.stop P (S k) z/\S (k+1)=S k)/\S K=OS.walk P R s
 | [],s,h=>by simp at h
 | z::r,s,h=>by
  by_cases b:OS.stop P s z
  ·refine⟨1,λ_=>s,qo,qs,rfl,λk c=>by omega,λk c=>⟨z,by rw[show k=0 by omega];rfl,b,rfl⟩,?_⟩
   rw[OS.walk,if_pos b]
  ·have l:∃y∈r,y.a=true:=by
    obtain⟨y,d,e⟩:=h
    rcases List.mem_cons.1 d with rfl|d
    ·exact absurd (.inl e) b
    ·exact⟨y,d,e⟩
   obtain⟨K,S,m,n,f,g,i,j⟩:=Eo P r (OS.next P z) l;refine⟨K+1,λk=>match k with|0=>s|k+1=>S k,qo,by simp;omega,rfl,λk c=>?_,λk c=>?_,?_⟩
   ·rcases k with _|k
    ·exact⟨z,rfl,b,f⟩
    ·exact g k qo
   ·rcases k with _|k
    ·omega
    ·exact i k qo
   ·rw[OS.walk,if_neg b]
    exact j
def pN(l:List AG)(n:ON)(P:Nat):OS:=OS.walk P (Cq l n).reverse Jb
def Ak{L:List VZ}{k:Nat}{z:VZ}(h:L.reverse[k]?=some z)(a:k<L.length):(xX L k).2=z:=by
 rw[List.getElem?_reverse a]at h;unfold xX;rw[List.getD_eq_getElem?_getD,h];rfl
def rj(n:ON):∀(l:List AG) (i:Nat),∀x∈mU i l n,x.i<i+l.length
 | [],i,x,h=>by simp[mU]at h
 | a::r,i,x,h=>by
  rw[mU]at h
  rcases List.mem_append.1 h with h|h
  ·unfold i8 at h
   obtain⟨c,_,rfl⟩:=List.mem_map.1 h;simp only[List.length_cons];omega
  ·have:=rj n r (i+1) x h
   simp only[List.length_cons];omega
def Hk(l:List AG)(n:ON):∀z∈Cq l n,z.i<(l.length:Int):=λz a=>by
 rcases List.mem_cons.1 a with rfl|a
 ·unfold z0
  simp only;omega
 ·obtain⟨x,b,rfl⟩:=List.mem_map.1 a
  have:=rj n l 0 x b;unfold IU;simp only;omega
def FX(b:Nat)(d:List AX)(M:List Nat)(n:ON)(w:World)(h:VG w b d M)(j:eY n=0):(Cq (d.map AX.a) n).length<=121:=by
 obtain⟨r,s,p,o,A,c,K,l,k,m,g,f,q,h,rfl⟩:=h;have e:=h.wl n;have i:=h.run.len;rw[h.wr]at e;unfold Cq oT at *;simp only[List.length_cons,List.length_map]at *;omega
structure OG(w W:World)(B4 B8 B9 B10:Nat)(pc:Array Value)(s:OS):Prop where
 fr:Fr [] w W
 pl:BoxN W B4 33 pc
 or:BoxN W B8 3 #[.int .i64 s.og]
 fd:BoxN W B9 4 #[.bool s.fd]
 va:BoxN W B10 5 #[.int .u8 s.vl]
def OG.frS{w W f:World}{c d e b:Nat}{g:Array Value}{s:OS}{S:List Nat}(h:OG w W c d e b g s)(a:Fr S W f)(m:∀q∈S,w.heap.size<=q)(j:c ∉ S)(k:d ∉ S)(l:e ∉ S)(i:b ∉ S):OG w f c d e b g s :=
 ⟨h.fr.trans a (λq n=>.inr (m q n)),h.pl.fr a j,h.or.fr a k,h.fd.fr a l,h.va.fr a i⟩
def Ep(b:Nat)(C:List AX)(ag:List Nat)(nm:ON)(P:Nat)(hP:P<=1000000)(w:World)(H:VG w b C ag)(aF:eY nm=0)(so st:ByteArray)(he:fu nm=.agg #[.int .i64 nm.kind,.string so,.int .i64 nm.number,.int .i64 nm.index,.string st]):Calls prog 44 #[.pointer (some ⟨b,0,none⟩),.agg #[.int .i64 nm.kind,.string so,.int .i64 nm.number,.int .i64 nm.index,.string st,.int .i64 (P:Int)],.int .i64 (C.length:Int)] w λe w'=>e=.returned (.tuple #[.int .i64 (if(pN (C.map AX.a) nm P).fd then(pN (C.map AX.a) nm P).og else 0),.int .i64 (if(pN (C.map AX.a) nm P).fd then 0 else 8)])/\Fr [] w w':=by
 obtain⟨L,hL⟩:=eR (Cq (C.map AX.a) nm);have a7:=FX b C ag nm w H aF;have ak:=Hk (C.map AX.a) nm;have a6:∃z∈L.reverse,z.a=true:=⟨z0,by rw[<-hL];simp[Cq],rfl⟩;unfold pN;rw[hL]at a7 ak ⊢;rw[List.length_map]at ak;obtain⟨K,S,a5,av,al,ba,a9,a8⟩:=Eo P L.reverse Jb a6;rw[List.length_reverse]at av
 have bk:∀k z,(Ch L K)[k]?=some z->k+1<K->¬OS.stop P (S k) z/\S (k+1)=OS.next P z:=λk z y hk=>by
  obtain⟨z2,g,h2,h3⟩:=ba k hk;rw[rh qo,Ak g qo]at y;obtain rfl:z2=z:=by simpa using y
  exact⟨h2,h3⟩
 have bj:∀k z,(Ch L K)[k]?=some z->k+1=K->OS.stop P (S k) z/\S (k+1)=S k:=λk z y hk=>by
  obtain⟨z2,g,h2,h3⟩:=a9 k hk;rw[rh qo,Ak g qo]at y;obtain rfl:z2=z:=by simpa using y
  exact⟨h2,h3⟩
 rw[<-a8];obtain⟨ro,aH⟩:=eR ((if(S K).fd=true then(S K).og else 0));obtain⟨re,aG⟩:∃x:Int,(if(S K).fd=true then 0 else 8)=x:=⟨_,rfl⟩;rw[aH,aG];have af:=Hd (An aH aG);clear aH aG;have bt:=Hd bk;have bs:=Hd bj;have bq:=Hd al;have Y:=Hd (An hL (An (show L.length<=1000 by omega) (An ak (An a5 av))));have aS:=Hd (An he aF);obtain⟨m,j⟩:=eR (C.length)
 have HM:=Hd j;have aW:=Hd (IV b C ag);have bF:decide ((m:Int)<0)=false:=qs
 have bH:decide ((P:Int)<0)=false:=qs
 clear bk bj al hL a7 ak a6 a8 ba a9 a5 av he aF hP;rw[j];obtain⟨A,bi,O,aA⟩:=kJ w #[nm.kind,so,nm.number,nm.index,st,P] 33;obtain⟨y0,y1,y2,y3,y4,y5⟩:=O.m6;have aD:=aW.out A (H.fr0 aA);rw[j]at aD;have aU:=Hd aD;have HV:=Hd H;have aP:=Hd O;have bp:=Hd aA;have br:=Hd bi;clear bi O aA H aD aW j;refine(callsIn_wide (n:=5)).1 ?_;refine callsIn_of_wp_marks func44 rfl trivial ?_ rfl;simp only[ntmps44,List.size_toArray,List.length_cons,List.length_nil,Nat.reduceAdd,Nat.reduceSub,Array.replicate_succ,Array.replicate_zero,List.push_toArray,List.append_toArray,List.nil_append,List.cons_append];refine wpIn_wide.2 ?_
 go_upto_region 1 with fail
 rw[br.out]
 go_upto_region 7 with((go_at_call 99;(with_reducible refine aU.out.mono ?_);rintro e w2 ⟨rfl,rfl⟩))
 obtain⟨r,T⟩:=eR (((A.alloc (.cells #[L0] 3)).alloc (.cells #[.bool false] 4)).alloc (.cells #[.int .u8 0] 5));have ay:BoxN r A.heap.size 3 #[L0]:=by rw[<-T];exact((BoxN.new A _ _).alloc _).alloc _
 have az:BoxN r (A.heap.size+1) 4 #[.bool false]:=by
  rw[<-T];have h:=(BoxN.new (A.alloc (.cells #[L0] 3)) 4 #[.bool false]).alloc (.cells #[.int .u8 0] 5)
  rwa [jZ]at h
 have ax:BoxN r (A.heap.size+1+1) 5 #[.int .u8 0]:=by
  rw[<-T];have h:=BoxN.new ((A.alloc (.cells #[L0] 3)).alloc (.cells #[.bool false] 4)) 5 #[.int .u8 0]
  rwa [jZ,jZ]at h
 have aB:Fr [] A r:=by rw[<-T];exact(((Fq [] A).alloc _).alloc _).alloc _
 have aL:r.heap.size=A.heap.size+3:=by rw[<-T];simp
 rw[T];clear T y0 y1 y2 y3 y4 y5;have O:=aP.out.fr aB qs;obtain⟨y0,y1,y2,y3,y4⟩:=O.m5;have aN:=aP.out.lt;obtain⟨d,a3⟩:=eR (A.heap.size);rw[a3]at ay az ax aL aN ⊢;have ae:=Hd (An O (An ay (An az ax)));have bu:=Hd (An aL aN);have aT:=Hd (bp.out.then aB);have bc:=xB b nm.kind nm.number nm.index so st (m:Int) r;have aQ:=Hd bc;clear bc O ay az ax aL aN aB a3
 go_wp2_with ((go_at_call 100;(with_reducible refine aQ.out.mono ?_);rintro e w5 ⟨rfl,bf,bg,bh,bd,bm⟩;have aq:=Hd (An bf (An bg bh));have V:=Hd bd;have bv:=Hd bm;clear bf bg bh bd bm))
 clear y0 y1 y2 y3 y4 aQ aU
 have al:OG w w5 w.heap.size d (d+1) (d+1+1) #[nm.kind,so,nm.number,nm.index,st,P] (S 0):=by
  rw[bq.out];exact⟨aT.out.then V.out,ae.out.1.fr V.out qs,ae.out.2.1.fr V.out qs,ae.out.2.2.1.fr V.out qs,ae.out.2.2.2.fr V.out qs⟩
 have hZ:w.heap.size<d/\d+2<w5.heap.size/\r.heap.size+3=w5.heap.size/\d+3=r.heap.size:=by have g:=bu.out;have h2:=bv.out;omega
 have o:=Hd hZ;clear hZ
 refine pH (some (some 0)) (λq=>q=d \/ q=d+1 \/ q=d+1+1) (a:=?aa) 5 (Ch L K) (λx:VZ=>#[.agg x.cs.toArray]) (lb:=#[.pointer r.heap.size,.pointer (some ⟨r.heap.size+1,0,none⟩),.pointer (some ⟨r.heap.size+2,0,none⟩)]) ?_ (enters_of func160 qk rfl) ?_
  (λk W=>OG w W w.heap.size d (d+1) (d+1+1) #[.int .i64 nm.kind,.string so,.int .i64 nm.number,.int .i64 nm.index,.string st,.int .i64 (P:Int)] (S k))
  (λk U U' h Q=>by have y:=o.out;exact h.frS Q (by simp;omega) (by simp;omega) (by simp;omega) (by simp;omega) (by simp;omega)) al
  (λl bw U hU ad bA hJ hy bz => IW 5 l r.heap.size (r.heap.size + 1) (r.heap.size + 2) b C ag nm so st (m : Int) L K Y.out.1 Y.out.2.1 Y.out.2.2.2.1 Y.out.2.2.2.2 (λz y => by rw [<- HM.out]; exact Y.out.2.2.1 z y) U (w5.heap.size :: (w5.heap.size + 1) :: [d, d + 1, d + 1 + 1]) (by have := o.out; simp; omega) (aq.out.1.fr hU qs) (aq.out.2.1.fr hU qs) aS.out.1 aS.out.2 (aq.out.2.2.fr hU qs) (by have := o.out; simp; omega) (HV.out.fr0 ((aT.out.then V.out).then hU)) bw (λk Z bx S h Q M => hJ k Z bx S h Q M ((bA k Z h).frS Q (λq j => by have := M q j; have := o.out; omega) (λj => by have := M _ j; have := o.out; omega) (λj => by have := M _ j; have := o.out; omega) (λj => by have := M _ j; have := o.out; omega) (λj => by have := M _ j; have := o.out; omega))) (λk x W1 B hj => YieldAt.mono' (hy k x W1 B hj) λe Z h => ⟨λg => h.1 λ_ => g, λg => h.2.1 qs g, h.2.2.1, by obtain ⟨S, hS, M⟩ := h.2.2.2; exact hS.mono (λq j => .inl (by rcases M q j with h|h|h|h|h <;> simp [h]))⟩) bz)
  (λk a' Z=>∃u,(∃x:VZ,(Ch L K)[k]?=some x/\a'={ tmps:=((Act.tmps ?aa).setIfInBounds 32 (.agg x.cs.toArray)).setIfInBounds 11 (.pointer (some ⟨u,0,none⟩)),defers:=[] }/\BoxN Z u 201 x.cs.toArray)/\w5.heap.size+2<=u/\OG w Z w.heap.size d (d+1) (d+1+1) #[.int .i64 nm.kind,.string so,.int .i64 nm.number,.int .i64 nm.index,.string st,.int .i64 (P:Int)] (S k))
  ?_ ?_ ?_ (λ_=>?_) ?_
 ·rfl
 ·intro x;rfl
 ·rintro k a' U U' ⟨u,⟨x,B,ha,hb⟩,ai,t⟩ Q
  have y:=o.out;exact⟨u,⟨x,B,ha,hb.fr Q (by simp;omega)⟩,ai,t.frS Q (by simp;omega) (by simp;omega) (by simp;omega) (by simp;omega) (by simp;omega)⟩
 ·intro l k z U K2 B I ad F
  unfold VZ.cs;obtain⟨sv,R,_,_⟩:=eS z.v;rw[R]
  gi_wp2_with fail
  exact F _ _ ((Fq [] U).alloc _) ⟨U.heap.size,⟨_,B,by simp only[VZ.cs,R];rfl,by simp only[VZ.cs,R];exact BoxN.new U _ _⟩,ad,I.frS ((Fq [] U).alloc _) qs qs qs qs qs⟩
 ·intro l k z a' U B hA ad
  obtain⟨u,⟨x',aK,rfl,ao⟩,ai,t⟩:=hA;rw[B]at aK;obtain rfl:z=x':=by simpa using aK
  obtain⟨E,hE⟩:=eR ((if k+1=(Ch L K).length then xe (some (some 0))else Exit.normal));obtain⟨s',aI⟩:=eR (S (k+1));obtain⟨s,aJ⟩:=eR (S k)
  have a4:(E=.exit 0/\OS.stop P s z/\s'=s) \/ (E=.normal/\¬OS.stop P s z/\s'=OS.next P z):=by
   have aE:=(gV.1 B).1;rw[<-hE,<-aI,<-aJ];rw[ra]at aE ⊢
   rcases Nat.lt_or_ge (k+1) K with h|h
   ·exact .inr ⟨if_neg qo,bt.out k z B h⟩
   ·exact .inl ⟨if_pos qo,bs.out k z B qo⟩
  rw[hE,aI];rw[aJ]at t;clear B aK hE aI aJ;obtain⟨ap,ac,vl⟩:=s;obtain⟨zi,p,za⟩:=z;obtain⟨sv,R,bD,bI⟩:=eS p
  have aC:∀h:P<sv.size,(((sv[P]'h).toNat:Nat):Int)=ET P p:=λh=>by
   unfold ET;rw[<-bD,List.getD_eq_getElem?_getD,gg (by rw[Array.length_toList];exact h)];rfl
  simp only[VZ.cs,R]at ao ⊢;have bG:(0:Int)<=(P:Int):=qo
  have HSS:=Hd (λ(X:World) (J:Fr [] U X)=>(show X.cell? ⟨u,0,none⟩=some zi/\X.cell? ⟨u,1,none⟩=some sv/\X.cell? ⟨u,2,none⟩=some (.bool za)/\X.cell? ⟨w.heap.size,5,none⟩=some P/\X.cell? ⟨d,0,none⟩=some ap/\X.cell? ⟨d+1,0,none⟩=some (.bool ac)/\X.cell? ⟨d+1+1,0,none⟩=some (.int .u8 vl)from by
   have N:=ao.fr J qs;exact⟨N.c 0,N.c 1,N.c 2,(t.pl.fr J qs).c 5,(t.or.fr J qs).c 0,(t.fd.fr J qs).c 0,(t.va.fr J qs).c 0⟩))
  have bn:=Hd ao;have D:=Hd t;have bo:=Hd (An ai ad);have aV:=Hd (An R a4);clear ao t ai ad R a4;simp only[qA,qB,qC]
  gi_upto_region 9 with fail
  gi_cut [54]from 33 (λs W=>s=.bool (decide (OS.stop P ⟨ap,ac,vl⟩ ⟨zi,p,za⟩))/\Fr [] U W)
  case first =>
   have hC:=(Fq [] U).drew;refine iA (λX:World=>Fr [] U X) 21 qk qk (λ_ _ h=>by have g:=And.left h;rcases aV.out.2 with⟨e,_⟩|⟨e,_⟩ <;> (rw[e]at g;cases g)) ?_ qd
   rcases za with _|_
   ·rcases Nat.lt_or_ge P p.length with aM|aM
    ·have be:decide (p.length<=P)=false:=by simp;omega
     have aE:(P:Int)<(p.length:Int):=qo
     rcases ac with _|_
     ·skip
      show fc 0 ..
      iterate 13 (refine gJ rfl ?_;try simp only[qq])
      refine mS (i:=13) rfl ?_
      try simp only[qq]
      refine mS (i:=14) rfl ?_
      try simp only[qq]
      refine mS (i:=15) rfl ?_
      try simp only[qq]
      refine mS (i:=16) rfl ?_
      try simp only[qq]
      refine mS (i:=17) rfl ?_
      try simp only[qq]
      refine mS (i:=18) rfl ?_
      try simp only[qq]
      refine mS (i:=19) rfl ?_
      try simp only[qq]
      show fc 20 ..
      refine gJ rfl ?_;try simp only[qq];refine eV ⟨qk,?_⟩;simp only[qG,qH]
      go_wp2_with fail
      gi_meet
      exact⟨congrArg Value.bool (decide_eq_false (by unfold OS.stop;simp;omega)).symm,(Fq [] U).drew⟩
     ·by_cases H:ET P p=vl
      ·subst H
       show fc 0 ..
       iterate 18 (refine gJ rfl ?_;try simp only[qq])
       try simp only[aC]
       show fc 18 ..
       iterate 3 (refine gJ rfl ?_;try simp only[qq])
       refine eV ⟨qk,?_⟩;simp only[qG,qH]
       go_wp2_with fail
       gi_meet
       exact⟨congrArg Value.bool (decide_eq_false (by unfold OS.stop;simp;omega)).symm,(Fq [] U).drew⟩
      ·have bB:(ET P p == vl)=false:=by simpa using H
       have bC:(ET P p != vl)=true:=by simpa using H
       show fc 0 ..
       iterate 18 (refine gJ rfl ?_;try simp only[qq])
       try simp only[aC]
       show fc 18 ..
       iterate 2 (refine gJ rfl ?_;try simp only[qq])
       try simp only[bB,bC,Bool.not_false]
       show fc 20 ..
       refine gJ rfl ?_;try simp only[qq];refine eV ⟨qk,?_⟩;simp only[qG,qH]
       go_wp2_with fail
       gi_meet
       exact⟨congrArg Value.bool (decide_eq_true (.inr (.inr ⟨rfl,H⟩))).symm,(Fq [] U).drew⟩
    ·have be:decide (p.length<=P)=true:=by simp;omega
     show fc 0 ..
     iterate 11 (refine gJ rfl ?_;try simp only[qq])
     refine mS (i:=11) rfl ?_
     try simp only[qq]
     refine mS (i:=12) rfl ?_
     try simp only[qq]
     refine mS (i:=13) rfl ?_
     try simp only[qq]
     refine mS (i:=14) rfl ?_
     try simp only[qq]
     refine mS (i:=15) rfl ?_
     try simp only[qq]
     refine mS (i:=16) rfl ?_
     try simp only[qq]
     refine mS (i:=17) rfl ?_
     try simp only[qq]
     refine mS (i:=18) rfl ?_
     try simp only[qq]
     refine mS (i:=19) rfl ?_
     try simp only[qq]
     refine mS (i:=20) rfl ?_
     try simp only[qq]
     refine eV ⟨qk,?_⟩;simp only[qG,qH]
     go_wp2_with fail
     gi_meet
     exact⟨congrArg Value.bool (decide_eq_true (.inr (.inl aM))).symm,(Fq [] U).drew⟩
   ·skip
    show fc 0 ..
    iterate 3 (refine gJ rfl ?_;try simp only[qq])
    refine mS (i:=3) rfl ?_
    try simp only[qq]
    refine mS (i:=4) rfl ?_
    try simp only[qq]
    refine mS (i:=5) rfl ?_
    try simp only[qq]
    refine mS (i:=6) rfl ?_
    try simp only[qq]
    refine mS (i:=7) rfl ?_
    try simp only[qq]
    refine mS (i:=8) rfl ?_
    try simp only[qq]
    show fc 9 ..
    iterate 2 (refine gJ rfl ?_;try simp only[qq])
    refine mS (i:=11) rfl ?_
    try simp only[qq]
    refine mS (i:=12) rfl ?_
    try simp only[qq]
    refine mS (i:=13) rfl ?_
    try simp only[qq]
    refine mS (i:=14) rfl ?_
    try simp only[qq]
    refine mS (i:=15) rfl ?_
    try simp only[qq]
    refine mS (i:=16) rfl ?_
    try simp only[qq]
    refine mS (i:=17) rfl ?_
    try simp only[qq]
    refine mS (i:=18) rfl ?_
    try simp only[qq]
    refine mS (i:=19) rfl ?_
    try simp only[qq]
    refine mS (i:=20) rfl ?_
    try simp only[qq]
    refine eV ⟨qk,?_⟩;simp only[qG,qH]
    go_wp2_with fail
    gi_meet
    exact⟨congrArg Value.bool (decide_eq_true (.inl rfl)).symm,(Fq [] U).drew⟩
  obtain⟨rfl,G⟩:=hcut
  rcases aV.out.2 with⟨rfl,ab,rfl⟩|⟨rfl,ab,rfl⟩
  ·rw[decide_eq_true ab]
   have HE:=Hd (An (D.out.frS G qs qs qs qs qs) G);clear G HSS
   gi_wp2_with fail
   exact⟨HE.out.1,[],HE.out.2,qs,qs,qs⟩
  ·rw[decide_eq_false ab]
   unfold OS.stop at ab;simp only[not_or,Bool.not_eq_true,Nat.not_le]at ab;obtain⟨bE,aM,_⟩:=ab;subst bE;have be:decide (p.length<=P)=false:=by simp;omega
   have aE:(P:Int)<(p.length:Int):=qo
   clear HSS
   gi_wp2_with fail
   have HSS:=Hd (λ(X:World) (J:Fr [d,d+1,d+1+1] U X)=>(show X.cell? ⟨u,0,none⟩=some (.int .i64 zi)/\X.cell? ⟨u,1,none⟩=some (.string sv)/\X.cell? ⟨u,2,none⟩=some (.bool false)/\X.cell? ⟨w.heap.size,5,none⟩=some (.int .i64 (P:Int))from by
    have y:=o.out;have N:=bn.out.fr J (by have:=bo.out;simp;omega);exact⟨N.c 0,N.c 1,N.c 2,(D.out.pl.fr J (by simp;omega)).c 5⟩))
   refine iA (λX:World=>Fr [d,d+1,d+1+1] U X) 9 qk qk (λ_ _ h=>by have g:=And.left h;cases g) ?_ qd;obtain⟨U2,aw⟩:=eR (wc.drew);have G:Fr [] U U2:=by rw[<-aw];exact G.drew
   rw[aw];clear aw;have hC:Fr [d,d+1,d+1+1] U U2:=G.mono qs
   show fc 0 ..
   iterate 7 (refine gJ rfl ?_;try simp only[qq])
   try simp only[aC]
   refine hO (i:=7) rfl λK F=>?_;have h8:=D.out.or.fr G qs;have e0:=h8.k0;have e1:=h8.f 0;go_simp
   obtain⟨U3,am⟩:=eR (U2.setCell ⟨d,0,none⟩ zi);have aY:BoxN U3 d 3 #[zi]:=by rw[<-am];exact h8.setAt 0 _
   have f3:Fr [d] U2 U3:=by rw[<-am];exact(Fq [d] U2).st _
   rw[am];have ar:=hC.trans f3 qs;refine F _ _ ar ?_;clear F K e0 e1 am
   try simp only[qq]
   refine hO (i:=8) rfl λK F=>?_;have ah:=(D.out.va.fr G qs).fr f3 (by simp;omega);have e0:=ah.k0;have e1:=ah.f 0;go_simp
   obtain⟨U4,an⟩:=eR (U3.setCell ⟨d+1+1,0,none⟩ (.int .u8 (ET P p)));have aX:BoxN U4 (d+1+1) 5 #[.int .u8 (ET P p)]:=by rw[<-an];exact ah.setAt 0 _
   have f4:Fr [d+1+1] U3 U4:=by rw[<-an];exact(Fq [d+1+1] U3).st _
   rw[an];have au:=ar.trans f4 qs;refine F _ _ au ?_;clear F K e0 e1 an
   try simp only[qq]
   refine eV ⟨qk,?_⟩;simp only[qG,qH];have h9:=((D.out.fd.fr G qs).fr f3 qs).fr f4 qs;have e0:=h9.k0;have e1:=h9.f 0;obtain⟨U5,bb⟩:=eR (U4.setCell ⟨d+1,0,none⟩ (.bool true));have aZ:BoxN U5 (d+1) 4 #[.bool true]:=by rw[<-bb];exact h9.setAt 0 _
   have f5:Fr [d+1] U4 U5:=by rw[<-bb];exact(Fq [d+1] U4).st _
   have aj:=au.trans f5 qs;have y:=o.out;have hE:OG w U5 w.heap.size d (d+1) (d+1+1) #[nm.kind,so,nm.number,nm.index,st,P] ⟨zi,true,ET P p⟩:=⟨D.out.fr.trans aj (by simp;omega),D.out.pl.fr aj (by simp;omega),(aY.fr f4 (by simp;omega)).fr f5 qs,aZ,aX.fr f5 qs⟩;have HE:=Hd (An hE aj);clear h8 aY h9 aZ ah aX f3 f4 f5 hC ar au aj hE y HSS
   go_wp2_with fail
   gi_wp2_with fail
   exact⟨HE.out.1,_,HE.out.2,by have:=o.out;simp;omega,by have:=o.out;simp;omega,qs⟩
 ·intro h
  have g:=ra L K;rw[h]at g;have h2:=Y.out.2.2.2.1;simp at g;omega
 ·intro aO U hD I F
  show (Code.exit 0).wp _ _ _ _
  rw[ra]at I;obtain⟨s,t⟩:=eR (S K);rw[t]at I;obtain⟨ap,ac,vl⟩:=s;have D:=Hd t;clear t;have e8:=I.or.k0;have e9:=I.fd.k0;have HI:=Hd I.fr;have HK:=Hd F;have aR:=Hd hD;clear I F hD
  rcases ac with _|_
  ·go_wp2_with fail
   refine⟨qs,.inl ⟨_,_,rfl,run_takeDeferred HK.out,?_⟩⟩;refine⟨.tuple #[L0,(8:Int)],by simp[results,results44,go_sem],by rw[<-af.out.1,<-af.out.2,D.out];rfl,?_⟩;exact HI.out.trans (i6 (S:=[aO]) _ (Fq _ U) (.inl qs)) (by simp;have:=o.out;have:=aR.out;omega)
  ·go_wp2_with fail
   refine⟨qs,.inl ⟨_,_,rfl,run_takeDeferred HK.out,?_⟩⟩;refine⟨.tuple #[ap,L0],by simp[results,results44,go_sem],by rw[<-af.out.1,<-af.out.2,D.out];rfl,?_⟩;exact HI.out.trans (i6 (S:=[aO]) _ (Fq _ U) (.inl qs)) (by simp;have:=o.out;have:=aR.out;omega)
def Ci(xs:List ON):Prop:=∀i x y,xs[i]?=some x->xs[i+1]?=some y->0<gD y x
def FY{a b:ON}(h:0<gD a b):a≠b:=λe=>by
 rw[e,mH]at h;omega
def xC{a b:ON}(h:eY a=0)(i:eY b=0)(l:a≠b)(w:World):(binOp .eql 31 (fu a) (fu b)).run prog w=.ok (.bool false) w:=by
 have⟨o,d⟩:=gx h;have⟨lb,e⟩:=gx i;have⟨r,f,k⟩:=run_equal_deep (P:=prog) w (m:=4) qo qk qk d e
 have n:r=false:=by
  cases r with
  | false=>rfl
  | true =>
   have j:=k.1 rfl;subst j;exact absurd (je _ _ (keyOf_inj_deep (P:=prog) (m:=4) qk qk d e)) l
 subst n;have g:∀xs c:Array Value,(binOp .eql 31 (.agg xs) (.agg c)).run prog w=((Op.equal 31 (.agg xs) (.agg c)).run prog w).andThen λb w'=>.ok (.bool b) w':=λxs c=>by simp[binOp]
 unfold fu at f ⊢;rw[g,f];rfl
def Hl(b c:Nat)(xs:List ON)(w:World)(z:Cs w b (xs.flatMap ON.cs))(B:∀x∈xs,eY x=0)(C:Ci xs)(J:xs.length<=12):Calls prog 220 #[.slice (some ⟨b,0,none⟩) xs.length c,.int .i64 0,.int .i64 xs.length,.func (.func 103) #[] #[]] w λe w'=>e=.returned (.tuple #[])/\Fr [] w w':=by
 have⟨n,v⟩:=eR (xs.length);have f:=Hd (An v (An B (An C z)));rw[v]at J ⊢;clear v B C z
 go_enter func220,ntmps220
 go_wp2
 go_loopw [8] (λi W=>∃m:Nat,1<=m/\m<=max n 1/\i=m/\Fr [] w W) (λi _=>n+1 - (intOf i).toNat)
 case atStart=>exact⟨1,qo,qo,rfl,Fq _ _⟩
 case round =>
  obtain⟨m,S,T,rfl,k⟩:=hrel
  by_cases I:m<n
  ·obtain⟨j,H⟩:∃j,j+1=m:=⟨m - 1,qo⟩
   have Q:(m:Int)<(n:Int):=qo
   have R:(j:Int)<(n:Int):=qo
   have P:decide (0<m)=true:=by simp;omega
   have U:(m:Int) - 1=(j:Int):=qo
   have X:IntKind.i64.wrap (m:Int)=(m:Int):=by simp only[IntKind.wrap_i64];omega
   have V:IntKind.i64.wrap (j:Int)=(j:Int):=by simp only[IntKind.wrap_i64];omega
   obtain⟨x,l⟩:∃x,xs[j]?=some x:=⟨_,gg (by rw[f.1];omega)⟩;obtain⟨y,p⟩:∃x,xs[m]?=some x:=⟨_,gg (by rw[f.1];exact I)⟩;have A:=f.2.2.1 j x y l (by rw[H];exact p);have⟨K,r,_,_⟩:=eS (x).owner;have⟨M,t,_,_⟩:=eS (x).text;have a:=λo (q:o<5)=>ia pq l q;unfold ON.cs at a;rw[r,t]at a;have⟨L,s,_,_⟩:=eS (y).owner;have⟨ty,u,_,_⟩:=eS (y).text;have d:=λo (q:o<5)=>ia pq p q;unfold ON.cs at d;rw[s,u]at d;have g:∀W,Calls prog 103 #[fu y,fu x] W (jg W (gD y x)):=λW=>pp y x W (f.2.1 y (gH p)) (f.2.1 x (gH l));rw[gc s u,gc r t]at g;generalize gD y x=G at A g;have N:decide (G<0)=false:=by simp;omega
   have HSS:=Hd (λ(W:World) (hW:Fr [] wr W)=>(show W.cell? ⟨b,j*5,none⟩=some x.kind/\W.cell? ⟨b,j*5+1,none⟩=some K/\W.cell? ⟨b,j*5+2,none⟩=some x.number/\W.cell? ⟨b,j*5+3,none⟩=some x.index/\W.cell? ⟨b,j*5+4,none⟩=some M/\W.cell? ⟨b,m*5,none⟩=some y.kind/\W.cell? ⟨b,m*5+1,none⟩=some L/\W.cell? ⟨b,m*5+2,none⟩=some y.number/\W.cell? ⟨b,m*5+3,none⟩=some y.index/\W.cell? ⟨b,m*5+4,none⟩=some ty from by
    have h:=f.2.2.2.fr0 (k.then hW);exact⟨h.2 _ _ (a 0 qo),h.2 _ _ (a 1 qo),h.2 _ _ (a 2 qo),h.2 _ _ (a 3 qo),h.2 _ _ (a 4 qo),h.2 _ _ (d 0 qo),h.2 _ _ (d 1 qo),h.2 _ _ (d 2 qo),h.2 _ _ (d 3 qo),h.2 _ _ (d 4 qo)⟩))
   have D:=Hd g;have E:=Hd k;clear g k A l p a d r t s u
   go_upto_region 4 with fail
   refine wp_loop_rounds 1 ?_;rw[rounds_succ]
   go_upto_region 4 with fail
   refine eW (λW=>Fr [] wr W) qk qk ((Fq _ wr).drew) ?_
   repeat(
    first
    | go_big_quiet_skip
    | (go_big_quiet_want;first|(go_big_quiet_op;go_big_quiet_on)|(apply Exists.intro;refine⟨λW hW=>?_,?_⟩;(· have⟨Y,Z,x2,x3,x4,y0,y1,y2,y3,y4⟩:=HSS.out W hW;go_simp;first|done|with_reducible exact rfl|with_reducible exact⟨rfl,rfl⟩|((go_at_call 103;(with_reducible refine(D.out W).mono ?_);rintro e w' ⟨rfl,h⟩;exact⟨rfl,hW.then h⟩)));simp only[qq];go_big_quiet_on))
    )
   refine wpQuiet_nil ?_;intro W hW;have F:=Hd (E.then hW);clear hW
   go_wp2
   go_roundw
   case rel=>exact⟨m+1,qo,qo,by go_num,F.out⟩
   case measure=>simp[intOf];omega
  ·have O:¬(m:Int)<(n:Int):=qo
   go_wp2
   go_end0
   exact⟨rfl,k⟩
def Hm(b c:Nat)(m:Int)(xs:List ON)(w:World)(d:Cs w b (xs.flatMap ON.cs))(h:∀x∈xs,eY x=0)(i:Ci xs)(g:xs.length<=12):Calls prog 179 #[.slice (some ⟨b,0,none⟩) xs.length c,.int .i64 0,.int .i64 xs.length,.int .i64 m,.func (.func 103) #[] #[]] w λe w'=>e=.returned (.tuple #[])/\Fr [] w w':=by
 have a:=Hl b c xs w d h i g;have⟨n,j⟩:=eR (xs.length);rw[j]at g a ⊢;have l:=Hd a;have o:decide (n<=12)=true:=by simp;omega
 have p:(n:Int)<=12:=qo
 have q:(n:Int) - 0=(n:Int):=qo
 clear j h i d a
 go_enter func179,ntmps179
 go_wp2
 refine wp_loop_rounds 1 ?_;rw[rounds_succ]
 go_wp2_with ((go_at_call 220;(with_reducible refine l.out.mono ?_);rintro e r ⟨rfl,f⟩;have k:=Hd f;clear f))
 try simp only[Exit.inBlock,Exit.then]
 refine bodyPost_ret (results_none rfl _ _ _) rfl ?_;exact⟨rfl,k.out⟩
def FZ(b c:Nat)(xs:List ON)(w:World)(d:Cs w b (xs.flatMap ON.cs))(h:∀x∈xs,eY x=0)(i:Ci xs)(g:xs.length<=12):Calls prog 137 #[.slice (some ⟨b,0,none⟩) xs.length c,.func (.func 103) #[] #[]] w λe w'=>e=.returned (.tuple #[])/\Fr [] w w':=by
 have a:=λo=>Hm b c o xs w d h i g;have⟨n,j⟩:=eR (xs.length);rw[j]at g a ⊢;have m:=Hd a;have k:=Hd (Tryz.bits_Len (n:Int) w qo qo);clear j h i d a
 go_enter func137,ntmps137
 go_wp2_with (first
  | (go_at_call 172;(with_reducible refine k.out.mono ?_);rintro e p ⟨rfl,rfl⟩)
  | (go_at_call 179;(with_reducible refine(m.out _).mono ?_);rintro e p ⟨rfl,f⟩;have l:=Hd f;clear f))
 go_end0
 exact⟨rfl,l.out⟩
def F1(b c:Nat)(xs:List ON)(w:World)(B:Cs w b (xs.flatMap ON.cs))(D:∀x∈xs,eY x=0)(E:Ci xs)(L:xs.length<=100000):Calls prog 138 #[.slice (some ⟨b,0,none⟩) xs.length c] w λe w'=>e=.returned (.slice (some ⟨b,0,none⟩) xs.length c)/\Fr [] w w':=by
 have⟨n,u⟩:=eR (xs.length);have f:=Hd (An u (An E B));have v:=Hd D;rw[u]at L ⊢;clear u E B D
 rcases Nat.lt_or_ge n 2 with H|H
 ·have z:decide (n<2)=true:=by simp;omega
  have A:(n:Int)<2:=qo
  go_enter func138,ntmps138
  go_wp2
  go_ret
  exact⟨rfl,Fq _ _⟩
 have z:decide (n<2)=false:=by simp;omega
 have A:¬(n:Int)<2:=qo
 go_enter func138,ntmps138
 go_wp2
 clear z A
 go_loopw [3] (λi W=>∃m:Nat,1<=m/\m<=n/\i=m/\Fr [] w W) (λi _=>n+1 - (intOf i).toNat)
 case atStart=>exact⟨1,qo,qo,rfl,Fq _ _⟩
 case round =>
  obtain⟨m,S,T,rfl,g⟩:=hrel
  by_cases K:m<n
  ·obtain⟨j,J⟩:∃j,j+1=m:=⟨m - 1,qo⟩
   have Q:(m:Int)<(n:Int):=qo
   have R:(j:Int)<(n:Int):=qo
   have U:(m:Int) - 1=(j:Int):=qo
   have X:IntKind.i64.wrap (m:Int)=(m:Int):=by simp only[IntKind.wrap_i64];omega
   have V:IntKind.i64.wrap (j:Int)=(j:Int):=by simp only[IntKind.wrap_i64];omega
   obtain⟨x,k⟩:∃x,xs[j]?=some x:=⟨_,gg (by rw[f.1];omega)⟩;obtain⟨y,l⟩:∃x,xs[m]?=some x:=⟨_,gg (by rw[f.1];exact K)⟩;have C:=Ne.symm (FY (f.2.1 j x y k (by rw[J];exact l)));have⟨M,q,_,_⟩:=eS (x).owner;have⟨O,s,_,_⟩:=eS (x).text;have a:=λo (p:o<5)=>ia pq k p;unfold ON.cs at a;rw[q,s]at a;have⟨N,r,_,_⟩:=eS (y).owner;have⟨ty,t,_,_⟩:=eS (y).text;have d:=λo (p:o<5)=>ia pq l p;unfold ON.cs at d;rw[r,t]at d
   have HSS:=Hd (λ(W:World) (hW:Fr [] wr W)=>(show W.cell? ⟨b,j*5,none⟩=some x.kind/\W.cell? ⟨b,j*5+1,none⟩=some M/\W.cell? ⟨b,j*5+2,none⟩=some x.number/\W.cell? ⟨b,j*5+3,none⟩=some x.index/\W.cell? ⟨b,j*5+4,none⟩=some O/\W.cell? ⟨b,m*5,none⟩=some y.kind/\W.cell? ⟨b,m*5+1,none⟩=some N/\W.cell? ⟨b,m*5+2,none⟩=some y.number/\W.cell? ⟨b,m*5+3,none⟩=some y.index/\W.cell? ⟨b,m*5+4,none⟩=some ty from by
    have h:=f.2.2.fr0 (g.then hW);exact⟨h.2 _ _ (a 0 qo),h.2 _ _ (a 1 qo),h.2 _ _ (a 2 qo),h.2 _ _ (a 3 qo),h.2 _ _ (a 4 qo),h.2 _ _ (d 0 qo),h.2 _ _ (d 1 qo),h.2 _ _ (d 2 qo),h.2 _ _ (d 3 qo),h.2 _ _ (d 4 qo)⟩))
   have I:=λW=>xC (v.out y (gH l)) (v.out x (gH k)) (Ne.symm C) W;rw[gc r t,gc q s]at I;have F:=Hd g;clear g k l a d q s r t C
   go_upto_region 6 with fail
   refine eW (λW=>Fr [] wr W) qk qk ((Fq _ wr).drew) ?_
   repeat(
    first
    | go_big_quiet_skip
    | (go_big_quiet_want;first|(go_big_quiet_op;go_big_quiet_on)|(apply Exists.intro;refine⟨λW hW=>?_,?_⟩;(· have⟨Y,Z,x2,x3,x4,y0,y1,y2,y3,y4⟩:=HSS.out W hW;go_simp;first|done|with_reducible exact rfl|with_reducible exact⟨rfl,rfl⟩ );simp only[qq];go_big_quiet_on))
    )
   refine wpQuiet_nil ?_;intro W hW;have G:=Hd (F.then hW);clear hW
   go_wp2
   go_roundw
   case rel=>exact⟨m+1,qo,qo,by go_num,G.out⟩
   case measure=>simp[intOf];omega
  ·have P:¬(m:Int)<(n:Int):=qo
   go_wp2
   go_ret
   exact⟨rfl,g⟩
def F6{a b:ON}(e:eY a=0)(i:eY b=0)(w:World):(binOp .eql 31 (fu a) (fu b)).run prog w=.ok (.bool (decide (a=b))) w:=by
 by_cases c:a=b
 ·subst c
  obtain⟨l,f⟩:=gx e;obtain⟨r,g,j⟩:=run_equal_deep (P:=prog) w (m:=4) qo qk qk f f;have k:=j.2 rfl;subst k;have h:∀xs d:Array Value,(binOp .eql 31 (.agg xs) (.agg d)).run prog w=((Op.equal 31 (.agg xs) (.agg d)).run prog w).andThen λb w'=>.ok (.bool b) w':=λxs d=>by simp[binOp]
  unfold fu at g ⊢;rw[h,g];simp[Result.andThen]
 ·rw[decide_eq_false c]
  exact xC e i c w
def Jq:Array Value:=#[.int .i64 0,.string ⟨#[]⟩,.int .i64 0,.int .i64 0,.string ⟨#[]⟩,.string ⟨#[]⟩,.bool false]
def uo(l:List CH)(n:ON):Option CH:=l.find? λx=>decide (x.n=n)
def Jr(o:Option CH):Value:=match o with
 | some x=>.tuple #[.agg x.cs.toArray,.bool true]
 | none=>.tuple #[.agg Jq,.bool false]
def xD{l:List CH}{n:ON}{j:Nat}{x:CH}(c:l[j]?=some x)(b:x.n=n)(h:∀y∈l.take j,y.n≠n):uo l n=some x:=by
 unfold uo;have a:=gV.1 c;rw[<-List.take_append_drop j l,List.find?_append,List.drop_eq_getElem_cons a.1,a.2];rw[List.find?_eq_none.2 (λy d=>by simpa using h y d)];simp[b]
def xE{l:List CH}{n:ON}(h:∀y∈l,y.n≠n):uo l n=none:=by
 unfold uo;exact List.find?_eq_none.2 λy a=>by simpa using h y a
def Ga{l:List CH}{n:ON}{j:Nat}{x:CH}(c:l[j]?=some x)(b:x.n≠n)(h:∀y∈l.take j,y.n≠n):∀y∈l.take (j+1),y.n≠n:=by
 intro y a;rw[List.take_add_one,c,List.mem_append]at a
 rcases a with a|a
 ·exact h y a
 ·simp at a
  subst a;exact b
def Gb(a:AG)(Q:ByteArray)(A B:Option Addr)(c d:Nat)(n:ON)(w:World)(hB:Chs w B a.w)(ay:eY n=0)(hv:∀x∈a.w,eY x.n=0)(hl:a.w.length<=2000000):
 Calls prog 64 #[a.val Q A c B d,fu n] w (fi w (Jr (uo a.w n))):=by
 obtain⟨ti,aF⟩:=eR (a.k.rnd);obtain⟨ph,aB⟩:=eR (a.k.phase);obtain⟨ix,aw⟩:=eR (a.k.idx);obtain⟨nr,az⟩:=eR (a.r.length);obtain⟨o,L⟩:=eR (a.w.length);obtain⟨kd,ax⟩:=eR (n.kind);obtain⟨nu,aA⟩:=eR (n.number);obtain⟨xx,aL⟩:=eR (n.index);obtain⟨so,aD,_,_⟩:=eS n.owner;obtain⟨st,aE,_,_⟩:=eS n.text;have ad:fu n=.agg #[kd,so,nu,xx,st]:=by unfold fu;rw[ax,aA,aL,aD,aE]
 have aG:a.val Q A c B d=.agg #[ti,ph,ix,Q,.slice A nr c,.slice B o d]:=by unfold AG.val;rw[aF,aB,aw,az,L]
 rw[aG,ad];obtain⟨w1,aH,aP,n1,f1⟩:=ir w #[ti,ph,ix,Q,.slice A nr c,.slice B o d] 91 w.heap.size;obtain⟨w2,aI,aQ,n2,X⟩:=ir w1 #[kd,so,nu,xx,st] 31 (w.heap.size+1);obtain⟨N1,ab⟩:=eR (w.heap.size+1);rw[ab]at n2;obtain⟨w3,aJ,aM,n3,I⟩:=ir w2 #[L0,S0,L0,L0,S0,S0,.bool false] 95 (w.heap.size+1+1);obtain⟨V,aq⟩:=eR (w.heap.size+1+1);rw[aq]at n3;have S:=Hd ((f1.then X).then I);have F:=Hd (An ((n1.fr X qs).fr I qs) (An (n2.fr I qs) n3));have U:=Hd (An aH (An aI aJ));have t:=Hd (An ad (An L (An ay hv)));have HB:=Hd hB;have ar:N1+1=V:=qo
 have G:=Hd (An ab (An ar aM));rw[L]at hl;clear ar aH aI aJ n1 n2 n3 f1 X I aP aQ aM aF aB aw az L ax aA aL aD aE aG hB ay hv ad
 go_enter func64,ntmps64
 go_upto_region 1 with fail
 rw[U.out.1,U.out.2.1,U.out.2.2]
 try rw[G.out.1]
 try rw[G.out.2.1]
 clear ab aq;have x5:=F.out.1.k5
 go_wp2_with fail
 clear x5
 go_loopw [11] (λi W=>∃(j:Nat),j<=o/\i=j/\Fr [] w3 W/\∀y∈a.w.take j,y.n≠n) (λi _=>o - (intOf i).toNat)
 case atStart=>exact⟨0,Nat.zero_le _,rfl,Fq _ _,qs⟩
 case round =>
  obtain⟨j,hj,rfl,av,u⟩:=hrel;have p:=Hd (An av u);clear av u
  by_cases aO:j<o
  ·have aS:(j:Int)<(o:Int):=qo
   have aC:Row wr wr.heap.size 7 B o (a.w.flatMap CH.cs):=by have aa:=HB.out.fr0 (S.out.then p.out.1);unfold Chs Rd at aa;rw[t.out.2.1]at aa;exact aa
   obtain⟨bb,off,rfl,aN,au⟩:=fK i9 aC qo;obtain⟨x,M⟩:∃x,a.w[j]?=some x:=⟨_,gg (by rw[t.out.2.1];exact aO)⟩;have K:=au j x M;have J:=λW=>F6 (t.out.2.2.2 x (gH M)) t.out.2.2.1 W;have HX:=Hd M;obtain⟨⟨O,ow,P,N,tx⟩,v,H⟩:=x;obtain⟨ao,ae,_,_⟩:=eS ow;obtain⟨ap,af,_,_⟩:=eS tx;obtain⟨sv,ag,_,_⟩:=eS v;rw[t.out.1]at J;unfold CH.cs at K;unfold fu at J;simp only[ae,af,ag]at K J;obtain⟨y0,y1,y2,y3,y4,y5,y6⟩:=FT K;obtain⟨w4,aK,aR,n4,f4⟩:=ir wr #[O,ao,P,N,ap,sv,.bool H] 95 wr.heap.size;have T:=Hd (An ae (An af ag));clear K au aC M aR ae af ag
   go_upto_region 4 with fail
   try rw[aK]
   clear y0 y1 y2 y3 y4 y5 y6 aN aK;have Y:=p.out.1.then f4;obtain⟨aT,z1,z2,z3,z4,z5,z6⟩:=n4.m7;have m2:=F.out.2.1.fr Y qs;obtain⟨e,g,h,l,m⟩:=m2.m5;have R:=Hd Y;clear Y f4 m2;obtain⟨eb,E⟩:=eR (decide ((⟨⟨O,ow,P,N,tx⟩,v,H⟩:CH).n=n));rw[E]at J
   cases eb with
   | true =>
    have D:=of_decide_eq_true E;have z:=Hd (xD HX.out D p.out.2);clear E D
    go_upto_region 5 with fail
    clear e g h l m;have b:=F.out.2.2.fr R.out qs;obtain⟨e,g,h,l,m,q,s⟩:=b.m7;have ah:=b.f 0;have ai:=b.f 1;have aj:=b.f 2;have ak:=b.f 3;have al:=b.f 4;have am:=b.f 5;have an:=b.f 6
    go_wp2_with fail
    obtain⟨u2,C,ac,Z⟩:=Hr (w4) (V) b O ao P N ap sv (.bool H);rw[C];clear C;clear e g h l m q s ah ai aj ak al am an;obtain⟨e,g,h,l,m,q,s⟩:=ac.m7;refine bodyPost_ret (v:=.tuple #[.agg #[O,ao,P,N,ap,sv,.bool H],.bool true]) (by simp[results,results64,go_sem,e,g,h,l,m,q,s]) rfl ?_;refine⟨?_,(S.out.then R.out).trans Z (by simp;have:=G.out;omega)⟩;rw[z.out];unfold Jr CH.cs
    simp only[T.out.1,T.out.2.1,T.out.2.2]
   | false =>
    have D:=of_decide_eq_false E;have z:=Hd (Ga HX.out D p.out.2);clear E D
    go_wp2_with fail
    go_roundw
    case rel=>exact⟨j+1,qo,by go_num,R.out,z.out⟩
    case measure=>simp[intOf];omega
  ·obtain rfl:j=o:=qo
   have u:=p.out.2;rw[List.take_of_length_le (by rw[t.out.2.1];exact fW _)]at u;have z:=Hd (xE u);clear u
   go_upto_region 7 with fail
   have b:=F.out.2.2.fr p.out.1 qs;obtain⟨e,g,h,l,m,q,s⟩:=b.m7;have ah:=b.f 0;have ai:=b.f 1;have aj:=b.f 2;have ak:=b.f 3;have al:=b.f 4;have am:=b.f 5;have an:=b.f 6
   go_wp2_with fail
   obtain⟨u2,C,ac,Z⟩:=Hr (wr) (V) b L0 S0 L0 L0 S0 S0 (.bool false);rw[C];clear C;clear e g h l m q s ah ai aj ak al am an;obtain⟨e,g,h,l,m,q,s⟩:=ac.m7;refine bodyPost_ret (v:=.tuple #[.agg Jq,.bool false]) (by simp[results,results64,Jq,go_sem,e,g,h,l,m,q,s]) rfl ?_;refine⟨?_,(S.out.then p.out.1).trans Z (by simp;have:=G.out;omega)⟩;rw[z.out];rfl
end Go.Proofs.YtlpmiimgacfmkaaGreatDoor
