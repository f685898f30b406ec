/- logtree: Node, Empty. -/
import Derived.Test.YtlpmiimgacfmkaaGreatDoorCSa5
set_option linter.all false
set_option maxHeartbeats 4000000
set_option maxRecDepth 100000
namespace Go.Proofs.YtlpmiimgacfmkaaGreatDoor
open Go.Proofs.Tryz List
open Go.RowKit
def Two(a b:Nat)(l r:Nm)(W:World):Prop:=Row W W.heap.size 1 (some ⟨a,0,none⟩) 32 (eO l)/\Row W W.heap.size 1 (some ⟨b,0,none⟩) 32 (eO r)/\a<W.heap.size/\b<W.heap.size
def Two.fr{b c:Nat}{l r:Nm}{S:List Nat}{W d:World}(h:Two b c l r W)(a:Fr S W d)(e:b ∉ S)(f:c ∉ S):Two b c l r d :=
 ⟨(h.1.fr a (fW _) (by simpa using e)).more a.size,(h.2.1.fr a (fW _) (by simpa using f)).more a.size,Nat.lt_of_lt_of_le h.2.2.1 a.size,Nat.lt_of_lt_of_le h.2.2.2 a.size⟩
def Two.alloc{a b:Nat}{l r:Nm}{W:World}(h:Two a b l r W)(o:Obj):Two a b l r (W.alloc o):=h.fr (S:=[]) ((Fq [] W).alloc o) qs qs
def gX(w:World){d:Nm}{t:TypeId}(h:(eO d).length=32):(w.alloc (.cells (eO d).toArray t)).rowIs w.heap.size t 32 (λj=>.int .u8 ((d.getD j 0).toNat:Int)):=by
 have b:d.length=32:=by rw[eP]at h;exact h
 have:=World.rowIs_alloc w (eO d).toArray t (λj=>.int .u8 ((d.getD j 0).toNat:Int)) (λi a=>by
  have c:i<d.length:=by rw[iV]at a;exact a
  have:=gO c;simpa using this)
 rw[iV,b]at this;exact this
def sx{w:World}{b:Nat}{t:TypeId}{d:Nm}(h:w.rowIs b t 32 (λj=>.int .u8 ((d.getD j 0).toNat:Int)))(a:d.length=32):Row w w.heap.size 1 (some ⟨b,0,none⟩) 32 (eO d) :=
 ⟨by rw[eP,a],λ_=>⟨b,0,rfl,h.lt,λj u c=>by
  have e:j<32:=by have:=(gV.1 c).1;rwa [eP,a]at this
  rw[Nat.zero_add,h.cell e,<-c,gO qo]⟩⟩
def G9{a b:Nat}{l r:Nm}{w:World}{t t':TypeId}(c:w.rowIs a t 32 (λj=>.int .u8 ((l.getD j 0).toNat:Int)))(d:w.rowIs b t' 32 (λj=>.int .u8 ((r.getD j 0).toNat:Int)))(e:l.length=32)(f:r.length=32):Two a b l r w :=
 ⟨sx c e,sx d f,c.lt,d.lt⟩
def py(w:World){l r:Nm}{a b:ByteArray}{t:TypeId}(c:fg l=.string a)(d:fg r=.string b):Row (w.alloc (.cells #[.string a,.string b] t)) (w.alloc (.cells #[.string a,.string b] t)).heap.size 1 (some ⟨w.heap.size,0,none⟩) 2 ([l,r].map fg):=by
 refine⟨qs,λ_=>⟨_,0,rfl,qs,λj u e=>?_⟩⟩;have:=jK w [a,b] t j u (by rw[<-c,<-d];simpa using e);rw[fV]at this;rw[Nat.zero_add];exact this
def DG{T:Prop}{G H:World->Nat->Prop}(b:(∀V D,H V D->G V D)->T)(a:∀V D,H V D->G V D):T:=b a
def Fo{T:Prop}{G:World->Nat->Nat->Prop}{H:World->Nat->Prop}(b:(∀V D p,H V D->G V D p)->T)(a:∀V D p,H V D->G V D p):T:=b a
def Fp(a:World)(d:Nm)(b:Value)(W:World):Prop:=∃D,b=.pointer (some ⟨D,0,none⟩)/\a.heap.size<=D/\D<W.heap.size/\W.rangeAt D 0 (eO d)/\Fr [] a W
def sy(l r:Nm)(w:World)(aL:Ok w)(hl:l.length=32)(hr:r.length=32):Calls prog 150 #[fo l,fo r] w (fN w (iO l r)):=by
 have⟨sl,s,_,aQ⟩:=eS l;have⟨sr,t,_,aR⟩:=eS r;have⟨L,am⟩:=eR (w.alloc (.cells (eO l).toArray 57));have⟨w2,ao⟩:=eR (L.alloc (.cells (eO r).toArray 57));have Z:(eO l).length=32:=by rw[eP,hl]
 have aK:(eO r).length=32:=by rw[eP,hr]
 unfold fo
 go_enter func150,ntmps150
 go_upto_region 1 with fail
 have⟨c,aa⟩:=eR (w2.alloc (.cells qP 57));rw[aa];have b0:L.rowIs w.heap.size 57 32 (λj=>.int .u8 ((l.getD j 0).toNat:Int)):=by rw[<-am];exact gX w Z
 have b1:w2.rowIs L.heap.size 57 32 (λj=>.int .u8 ((r.getD j 0).toNat:Int)):=by rw[<-ao];exact gX L aK
 obtain⟨fR,ae⟩:∃f,c.rowIs w2.heap.size 57 32 f:=by rw[<-aa];exact iW w2
 have A:Fr [] w L:=by rw[<-am];exact(Fq [] w).alloc _
 have x:Fr [] L w2:=by rw[<-ao];exact(Fq [] L).alloc _
 have V:Fr [] w2 c:=by rw[<-aa];exact(Fq [] w2).alloc _
 have aw:Two w.heap.size L.heap.size l r c:=G9 (eT (eT b0 x qs) V qs) (eT b1 V qs) hl hr;have ad:Fr [] w c:=(A.then x).then V;have av:w.heap.size<=w2.heap.size:=(A.then x).size;have aJ:w2.heap.size<c.heap.size:=ae.lt;have ai:j7 (gB 1 [l,r])=iO l r:=rfl;have ah:(iO l r).length=32:=fy _;have⟨d,hd⟩:=eR (iO l r);rw[hd]at ai ah;have ac:=Hd ai;have HD:=Hd hd;have Q:=Hd ah;have R:=Hd aw;have aE:=Hd ad;have aq:=Hd ae;have aj:Ok c:=aL.fr0 ad;clear am ao aa b0 b1 A x V ai hd ah aw ad ae;have ar:=Hd av;clear av;generalize w2.heap.size=RR at aq ar aJ ⊢;generalize w.heap.size=M at R ⊢;generalize L.heap.size=N at R ⊢
 go_cut [5]from 6 to 15 (λs5 W=>Fp c d s5 W)
 case first =>
  refine wp_region_held_drew (S:=λW=>Two M N l r W) qk R.out (λg=>?_);refine wpAnyH_take (i:=0) (v:=?_) rfl qk qk qk (λ_ _ _ h=>h) (Or.inl ⟨qr,?_⟩) (by assumption) ?_
  rotate_left
  ·intro y a
   have k:=eZ (P:=prog) a.1 49 5 underlying49 underlying5 9 underlying9 32;have m:=eZ (P:=prog) a.2.1 49 5 underlying49 underlying5 9 underlying9 32;rw[s]at k;rw[t]at m;go_simp
   try with_reducible rfl
  try simp only[qq]
  refine wpAnyH_take (i:=1) (v:=?_) rfl qk qk qk (λ_ _ _ h=>h) (Or.inl ⟨qr,?_⟩) (by assumption) ?_
  rotate_left
  ·intro y a
   have k:=eZ (P:=prog) a.1 49 5 underlying49 underlying5 9 underlying9 32;have m:=eZ (P:=prog) a.2.1 49 5 underlying49 underlying5 9 underlying9 32;rw[s]at k;rw[t]at m;go_simp
   try with_reducible rfl
  try simp only[qq]
  refine wpAnyH_take (i:=2) (v:=?_) rfl qk qk qk (λ_ _ _ h=>h) (Or.inl ⟨qr,?_⟩) (by assumption) ?_
  rotate_left
  ·intro y a
   have k:=eZ (P:=prog) a.1 49 5 underlying49 underlying5 9 underlying9 32;have m:=eZ (P:=prog) a.2.1 49 5 underlying49 underlying5 9 underlying9 32;rw[s]at k;rw[t]at m;go_simp
   try with_reducible rfl
  try simp only[qq]
  refine wpAnyH_take (i:=3) (v:=?_) rfl qk qk qk (λ_ _ _ h=>h) (Or.inl ⟨qr,?_⟩) (by assumption) ?_
  rotate_left
  ·intro y a
   have k:=eZ (P:=prog) a.1 49 5 underlying49 underlying5 9 underlying9 32;have m:=eZ (P:=prog) a.2.1 49 5 underlying49 underlying5 9 underlying9 32;rw[s]at k;rw[t]at m;go_simp
   try with_reducible rfl
  try simp only[qq]
  refine Fo (G:=?G) (H:=λX D=>(∃T,X.rowIs D 57 32 T)/\Fr [] c X/\c.heap.size<=D/\(M≠D/\N≠D)/\Two M N l r X) (λab=>?go) ?fin
  case go =>
   refine wpAnyH_ready (rs:=[4,9]) qk qs ?_;refine AllReadyH.cons rfl (λK n=>?_) (AllReadyH.cons rfl (λK n=>?_) AllReadyH.nil)
   ·-- an alloc has come up: its world is named
    go_simp
    refine n.out _ _ ?_ (λg=>?_)
    ·exact g.alloc _
    clear n K
    try simp only[qq]
    have⟨q,J⟩:=eR ((c.alloc (.cells #[.string sl,.string sr] 9)).drew);rw[J]at g ⊢;have aB:Row q q.heap.size 1 (some ⟨c.heap.size,0,none⟩) 2 ([l,r].map fg):=by rw[<-J];exact py c s t
    have A:Fr [] c q:=by rw[<-J];exact((Fq [] c).alloc _).drew
    clear J;refine wpAnyH_ready (rs:=[5,9]) qk qs ?_;refine AllReadyH.cons rfl (λK n=>?_) (AllReadyH.cons rfl (λK n=>?_) AllReadyH.nil)
    ·have B:=lH 1 _ 2 2 [l,r] (q) (aj.fr0 A) qo (aB) (by simp[gS];omega)
     rw[show (((1:UInt8).toNat:Nat):Int)=1 from rfl,ac.out]at B;go_simp
     go_at_call 151
     (with_reducible refine B.mono ?_);clear B;rintro e Y ⟨rfl,F⟩;unfold fo;refine n.out _ _ (g.fr F qs qs) (λg=>?_);clear n K
     try simp only[qq]
     refine wpAnyH_take (i:=6) (v:=?_) rfl qk qk qk (λ_ _ _ h=>h) (Or.inl ⟨qr,?_⟩) (by assumption) ?_
     rotate_left
     ·intro y a
      have k:=eZ (P:=prog) a.1 49 5 underlying49 underlying5 9 underlying9 32;have m:=eZ (P:=prog) a.2.1 49 5 underlying49 underlying5 9 underlying9 32;rw[s]at k;rw[t]at m;go_simp
      try with_reducible rfl
     try simp only[qq]
     refine wpAnyH_take (i:=7) (v:=?_) rfl qk qk qk (λ_ _ _ h=>h) (Or.inl ⟨qr,?_⟩) (by assumption) ?_
     rotate_left
     ·intro y a
      have k:=eZ (P:=prog) a.1 49 5 underlying49 underlying5 9 underlying9 32;have m:=eZ (P:=prog) a.2.1 49 5 underlying49 underlying5 9 underlying9 32;rw[s]at k;rw[t]at m;go_simp
      try with_reducible rfl
     try simp only[qq]
     refine wpAnyH_take (i:=8) (v:=?_) rfl qk qk qk (λ_ _ _ h=>h) (Or.inl ⟨qr,?_⟩) (by assumption) ?_
     rotate_left
     ·intro y a
      have k:=eZ (P:=prog) a.1 49 5 underlying49 underlying5 9 underlying9 32;have m:=eZ (P:=prog) a.2.1 49 5 underlying49 underlying5 9 underlying9 32;rw[s]at k;rw[t]at m;go_simp
      try with_reducible rfl
     try simp only[qq]
     have fY:=A.then F;refine wpAnyH_ready (rs:=[9]) qk qs ?_;refine AllReadyH.cons rfl (λK n=>?_) AllReadyH.nil;go_simp
     refine n.out _ _ ?_ (λg=>?_)
     ·exact g.alloc _
     clear n K
     try simp only[qq]
     have⟨z,u⟩:=eR (Y.alloc (.cells qP 57));rw[u]at g ⊢;obtain⟨T,E⟩:∃f,z.rowIs Y.heap.size 57 32 f:=by rw[<-u];exact iW Y
     have O:Fr [] c z:=by rw[<-u];exact fY.alloc _
     have C:c.heap.size<=Y.heap.size:=fY.size;have I:M≠Y.heap.size/\N≠Y.heap.size:=by have:=R.2.2;omega
     clear u;have⟨D,hD⟩:=eR (Y.heap.size);rw[hD]at E C I ⊢;have⟨p,hp⟩:=eR (c.heap.size);rw[hp];exact ab z D p ⟨⟨_,E⟩,O,C,I,g⟩
    ·-- an alloc has come up: its world is named
     go_simp
     refine n.out _ _ ?_ (λg=>?_)
     ·exact g.alloc _
     clear n K
     try simp only[qq]
     have⟨z,u⟩:=eR (q.alloc (.cells qP 57));rw[u]at g ⊢;obtain⟨T,aI⟩:∃f,z.rowIs q.heap.size 57 32 f:=by rw[<-u];exact iW q
     have x:Fr [] q z:=by rw[<-u];exact(Fq [] q).alloc _
     have ak:=(aB.fr x (fW _) qs).more x.size;clear u;refine wpAnyH_ready (rs:=[5]) qk qs ?_;refine AllReadyH.cons rfl (λK n=>?_) AllReadyH.nil;have B:=lH 1 _ 2 2 [l,r] (z) (aj.fr0 (A.then x)) qo (ak) (by simp[gS];omega);rw[show (((1:UInt8).toNat:Nat):Int)=1 from rfl,ac.out]at B;go_simp
     go_at_call 151
     (with_reducible refine B.mono ?_);clear B;rintro e Y ⟨rfl,F⟩;unfold fo;refine n.out _ _ (g.fr F qs qs) (λg=>?_);clear n K
     try simp only[qq]
     refine wpAnyH_take (i:=6) (v:=?_) rfl qk qk qk (λ_ _ _ h=>h) (Or.inl ⟨qr,?_⟩) (by assumption) ?_
     rotate_left
     ·intro y a
      have k:=eZ (P:=prog) a.1 49 5 underlying49 underlying5 9 underlying9 32;have m:=eZ (P:=prog) a.2.1 49 5 underlying49 underlying5 9 underlying9 32;rw[s]at k;rw[t]at m;go_simp
      try with_reducible rfl
     try simp only[qq]
     refine wpAnyH_take (i:=7) (v:=?_) rfl qk qk qk (λ_ _ _ h=>h) (Or.inl ⟨qr,?_⟩) (by assumption) ?_
     rotate_left
     ·intro y a
      have k:=eZ (P:=prog) a.1 49 5 underlying49 underlying5 9 underlying9 32;have m:=eZ (P:=prog) a.2.1 49 5 underlying49 underlying5 9 underlying9 32;rw[s]at k;rw[t]at m;go_simp
      try with_reducible rfl
     try simp only[qq]
     refine wpAnyH_take (i:=8) (v:=?_) rfl qk qk qk (λ_ _ _ h=>h) (Or.inl ⟨qr,?_⟩) (by assumption) ?_
     rotate_left
     ·intro y a
      have k:=eZ (P:=prog) a.1 49 5 underlying49 underlying5 9 underlying9 32;have m:=eZ (P:=prog) a.2.1 49 5 underlying49 underlying5 9 underlying9 32;rw[s]at k;rw[t]at m;go_simp
      try with_reducible rfl
     try simp only[qq]
     have E:=eT aI F qs;have O:Fr [] c Y:=(A.then x).then F;have C:c.heap.size<=q.heap.size:=A.size;have I:M≠q.heap.size/\N≠q.heap.size:=by have:=R.2.2;omega
     exact ab _ _ _ ⟨⟨_,E⟩,O,C,I,g⟩
   ·-- an alloc has come up: its world is named
    go_simp
    refine n.out _ _ ?_ (λg=>?_)
    ·exact g.alloc _
    clear n K
    try simp only[qq]
    have⟨q,J⟩:=eR ((c.alloc (.cells qP 57)).drew);rw[J]at g ⊢;obtain⟨T,aH⟩:∃f,q.rowIs c.heap.size 57 32 f:=by rw[<-J];have⟨f,U⟩:=iW c;exact⟨f,U.drew⟩
    have A:Fr [] c q:=by rw[<-J];exact((Fq [] c).alloc _).drew
    clear J;refine wpAnyH_ready (rs:=[4]) qk qs ?_;refine AllReadyH.cons rfl (λK n=>?_) AllReadyH.nil;go_simp
    refine n.out _ _ ?_ (λg=>?_)
    ·exact g.alloc _
    clear n K
    try simp only[qq]
    have⟨z,u⟩:=eR (q.alloc (.cells #[.string sl,.string sr] 9));rw[u]at g ⊢;have ak:Row z z.heap.size 1 (some ⟨q.heap.size,0,none⟩) 2 ([l,r].map fg):=by rw[<-u];exact py q s t
    have x:Fr [] q z:=by rw[<-u];exact(Fq [] q).alloc _
    clear u;refine wpAnyH_ready (rs:=[5]) qk qs ?_;refine AllReadyH.cons rfl (λK n=>?_) AllReadyH.nil;have B:=lH 1 _ 2 2 [l,r] (z) (aj.fr0 (A.then x)) qo (ak) (by simp[gS];omega);rw[show (((1:UInt8).toNat:Nat):Int)=1 from rfl,ac.out]at B;go_simp
    go_at_call 151
    (with_reducible refine B.mono ?_);clear B;rintro e Y ⟨rfl,F⟩;unfold fo;refine n.out _ _ (g.fr F qs qs) (λg=>?_);clear n K
    try simp only[qq]
    refine wpAnyH_take (i:=6) (v:=?_) rfl qk qk qk (λ_ _ _ h=>h) (Or.inl ⟨qr,?_⟩) (by assumption) ?_
    rotate_left
    ·intro y a
     have k:=eZ (P:=prog) a.1 49 5 underlying49 underlying5 9 underlying9 32;have m:=eZ (P:=prog) a.2.1 49 5 underlying49 underlying5 9 underlying9 32;rw[s]at k;rw[t]at m;go_simp
     try with_reducible rfl
    try simp only[qq]
    refine wpAnyH_take (i:=7) (v:=?_) rfl qk qk qk (λ_ _ _ h=>h) (Or.inl ⟨qr,?_⟩) (by assumption) ?_
    rotate_left
    ·intro y a
     have k:=eZ (P:=prog) a.1 49 5 underlying49 underlying5 9 underlying9 32;have m:=eZ (P:=prog) a.2.1 49 5 underlying49 underlying5 9 underlying9 32;rw[s]at k;rw[t]at m;go_simp
     try with_reducible rfl
    try simp only[qq]
    refine wpAnyH_take (i:=8) (v:=?_) rfl qk qk qk (λ_ _ _ h=>h) (Or.inl ⟨qr,?_⟩) (by assumption) ?_
    rotate_left
    ·intro y a
     have k:=eZ (P:=prog) a.1 49 5 underlying49 underlying5 9 underlying9 32;have m:=eZ (P:=prog) a.2.1 49 5 underlying49 underlying5 9 underlying9 32;rw[s]at k;rw[t]at m;go_simp
     try with_reducible rfl
    try simp only[qq]
    have E:=eT aH (x.then F) qs;have O:Fr [] c Y:=(A.then x).then F;have C:c.heap.size<=c.heap.size:=fW _;have I:M≠c.heap.size/\N≠c.heap.size:=by have:=R.2.2;omega
    exact ab _ _ _ ⟨⟨_,E⟩,O,C,I,g⟩
  intro X D p ⟨⟨T,E⟩,O,C,I,g⟩;refine wpAnyH_ready (rs:=[10]) qk qs ?_;refine AllReadyH.cons rfl (λK n=>?_) AllReadyH.nil;rw[if_pos qr];have ag:(eO d).toArray.size=32:=by rw[iV,Q.out]
  refine wp_store_mid 57 (.tmp 5) (.tmp 14) rfl (D) 0 (eO d).toArray rfl rfl (by rw[ag];exact iJ E qo) (by rw[ag];kernel_rfl) (all_oneCell_toArray (gN d)) ?_;rw[show (eO d).toArray.toList=eO d from rfl];have aC:=fp (d:=d) E Q.out;have aA:Fr [] c ((X).setCells (D) 0 (eO d)):=O.setCells (.inr C) _ _;have aN:(X).heap.size=((X).setCells (D) 0 (eO d)).heap.size:=(jO _ _ _ _).symm;have aP:=E.lt;have ax:Two M N l r ((X).setCells (D) 0 (eO d)):=g.fr ((Fq [D] (X)).setCells qs _ _) (by simpa using I.1) (by simpa using I.2);have⟨XX,ay⟩:=eR ((X).setCells (D) 0 (eO d));rw[ay]at aC aA aN ax ⊢;clear g;refine n.out _ _ ax (λg=>?_);clear n K ay
  try simp only[qq]
  refine wpAnyH_take (i:=11) (v:=?_) rfl qk qk qk (λ_ _ _ h=>h) (Or.inl ⟨qr,?_⟩) (by assumption) ?_
  rotate_left
  ·intro y a
   have k:=eZ (P:=prog) a.1 49 5 underlying49 underlying5 9 underlying9 32;have m:=eZ (P:=prog) a.2.1 49 5 underlying49 underlying5 9 underlying9 32;rw[s]at k;rw[t]at m;go_simp
   try with_reducible rfl
  try simp only[qq]
  refine wpAnyH_done qk ?_ _
  go_wp2
  go_meet
  exact⟨_,rfl,C,qo,aC.1,aA⟩
 case rest =>
  obtain⟨D,rfl,C,aO,az,U⟩:=hcut;have af:=eT aq.out U qs;have aM:=fj (d:=d) af Q.out;have al:=fp (d:=d) af Q.out;have⟨w6,ap⟩:=eR (wc.setCells RR 0 (eO d));have au:Fr [] w w6:=by rw[<-ap];exact(aE.then U).setCells (.inr ar.out) _ _
  rw[ap]at aM al;have aD:=Hd az;have aG:=Hd al.1;have aF:=Hd au;have Z:(eO d).length=32:=by rw[eP,Q.out]
  have ag:(eO d).toArray.size=32:=by rw[iV,Q.out]
  clear af al ap au az U
  go_wp2_with (first
   | (with_reducible refine wpList_load_mid rfl 57 (.tmp 5) rfl D 0 rfl (eO d) (.array 32 5) aD.out qk rfl (by rw[Z];kernel_rfl) ?_))
  exact bodyPost_ret (v:=fo d) (fH (d:=.array 32 5) (p:=4) (ty:=57) (b:=RR) (o:=0) rfl rfl aG.out qk rfl (by rw[Z];rfl)) rfl ⟨by rw[HD.out],aF.out⟩
def oC:∃i,(prog).info? 57=some i/\i.zero=some (.agg (#[.int .u8 0,.int .u8 0,.int .u8 0,.int .u8 0,.int .u8 0,.int .u8 0,.int .u8 0,.int .u8 0,.int .u8 0,.int .u8 0,.int .u8 0,.int .u8 0,.int .u8 0,.int .u8 0,.int .u8 0,.int .u8 0,.int .u8 0,.int .u8 0,.int .u8 0,.int .u8 0,.int .u8 0,.int .u8 0,.int .u8 0,.int .u8 0,.int .u8 0,.int .u8 0,.int .u8 0,.int .u8 0,.int .u8 0,.int .u8 0,.int .u8 0,.int .u8 0]))/\i.size=32/\i.bytes=32:=info_parts qk
def gy(w:World)(t:TypeId):(Instr.makeMap t none).run prog w=.ok (.map (some w.heap.size)) (w.alloc (.map #[] 0)):=by simp[Instr.makeMap,Result.andThen]
def oD(l:List Value):∀(k:Nat) (z:Array Value),k+l.length<=z.size->∀i,((l.zipIdx k).foldl (λcs x=>cs.setIfInBounds x.2 x.1) z)[i]?=if k<=i/\i<k+l.length then l[i - k]? else z[i]?:=by
 induction l with
 | nil =>
  intro k z _ i;simp only[zipIdx_nil,foldl_nil,length_nil]
  rw[if_neg qo]
 | cons x l d =>
  intro k z c i;simp only[length_cons]at c;rw[zipIdx_cons,foldl_cons,d (k+1) _ (by simp;omega)];simp only[length_cons]
  by_cases a:k+1<=i/\i<k+1+l.length
  ·rw[if_pos a,if_pos qo,show i - k=(i - (k+1))+1 by omega,List.getElem?_cons_succ]
  ·rw[if_neg a]
   by_cases b:i=k
   ·subst b
    rw[if_pos qo,Nat.sub_self,List.getElem?_cons_zero,Array.getElem?_setIfInBounds_self_of_lt qo]
   ·rw[if_neg qo,Array.getElem?_setIfInBounds_ne qo]
def mK{d:Nm}{z:Array Value}(c:z.size=32)(a:d.length=32):(List.foldl (λcs x=>cs.setIfInBounds x.snd x.fst) z (eO d).zipIdx)=(eO d).toArray:=by
 have b:(eO d).length=32:=by rw[eP,a]
 apply Array.ext_getElem?
 intro i;rw[oD (eO d) 0 z qo i];simp only[Nat.zero_add,Nat.zero_le,true_and,Nat.sub_zero,List.getElem?_toArray];split
 ·rfl
 ·rw[Array.getElem?_eq_none qo,List.getElem?_eq_none qo]
def pz(a:List Nm)(d:Nm):(a++[d]).flatMap eO=a.flatMap eO++eO d:=qs
def TreeM(w:World)(b:Nat)(a:List Nm)(d:List (Value × Value))(F:List Nat):Prop:=∃A c r,TreeIs w b A c (some r) a d/\F=b::(eX A++(some r).toList)
def TreeM.at_{w:World}{b:Nat}{a:List Nm}{d:List (Value × Value)}{F:List Nat}(h:TreeM w b a d F):TreeAt w b a d F:=by
 obtain⟨A,c,r,e,f⟩:=h;exact⟨A,c,some r,e,f⟩
def TreeM.fr{w w':World}{b:Nat}{a:List Nm}{d:List (Value × Value)}{F S:List Nat}(h:TreeM w b a d F)(g:Fr S w w')(f:∀k∈F,k ∉ S):TreeM w' b a d F:=by
 obtain⟨A,c,r,e,rfl⟩:=h;exact⟨A,c,r,e.fr g f,rfl⟩
def TreeM.lt{w:World}{b:Nat}{d:List Nm}{f:List (Value × Value)}{F:List Nat}(h:TreeM w b d f F):∀k∈F,k<w.heap.size:=by
 obtain⟨A,c,r,a,rfl⟩:=h;intro k e
 rcases mem_cons.1 e with h|h
 ·rw[h];exact a.box.lt
 ·rcases mem_append.1 h with h|h
  ·exact a.own.lt k h
  ·have:k=r:=by simpa using h
   rw[this];exact(a.ms r rfl).1.lt
def DH(b:Nat)(d:Nm)(w:World)(h:TreeIs w b none 0 none [] [])(A:d.length=32):Calls prog 89 #[.pointer (some ⟨b,0,none⟩),fo d] w λe w'=>e=.returned (.int .i64 0)/\∃F',TreeM w' b [d] [] F'/\Fr [b] w w'/\∀k∈F',k=b \/ w.heap.size<=k:=by
 have z:(eO d).length=32:=by rw[eP,A]
 have aQ:(eO d).toArray.size=32:=by rw[iV,A]
 have y:=h.box;have aP:=y.lt;have x0:=y.k0;unfold fo;have⟨a,E⟩:=eR (w.alloc (.cells (eO d).toArray 57));have ag:a.rowIs w.heap.size 57 32 (λj=>.int .u8 ((d.getD j 0).toNat:Int)):=by rw[<-E];exact gX w z
 have V:Fr [] w a:=by rw[<-E];exact(Fq [] w).alloc _
 have t:=y.fr V qs;have⟨y0,y1⟩:=t.m2;have g1:=t.f 1;have av:=Hd E;have I:=Hd t;have J:=Hd V;have ac:=Hd ag;clear E t V ag y h x0
 go_enter func89,ntmps89
 go_upto_region 1 with fail
 rw[av.out];have qT:∀(w:World) (r:Option Nat),(binOp .eql 235 (.map r) (.map none)).run prog w=.ok (.bool r.isNone) w:=λw r=>run_eql_map_nil w _ _ _ r underlying235;have R:=I.alloc (.map #[] 0);have aO:=R.k1;have ay:=R.f 1;have qM:=gy a 235
 go_upto_region 7 with fail
 have⟨w2,F⟩:=eR (a.alloc (.map #[] 0));have al:MapIs prog 270 w2 a.heap.size []:=by rw[<-F];exact MapIs.new a
 have B:Fr [] a w2:=by rw[<-F];exact(Fq [] a).alloc _
 have⟨p,G⟩:=eR (w2.setCell ⟨b,1,none⟩ (.map (some a.heap.size)));have C:Fr [b] w2 p:=by rw[<-G];exact(Fq [b] w2).st _
 have S:BoxN p b 237 #[.slice none 0 0,.map (some a.heap.size)]:=by rw[<-G];exact(I.fr B qs).setAt 1 _
 have Y:a.heap.size≠b:=by have:=J.size;omega
 have am:=al.fr C (by simpa using Y);rw[F,G];have u0:=S.k0;have ak:=J.then B;have aj:Fr [b] w p:=(ak.mono qs).then C;have ap:=Hd (eT (eT ac.out B qs) C (by simp;omega));have ab:=Hd S;have ad:=Hd (An am Y);have K:=Hd aj;clear F al B G C S am ak aj y0 y1 g1 aO ay R qM I ac
 go_upto_region 8 with fail
 have⟨q,aK,aI,l⟩:=kJ p #[.int .i64 0,.int .i64 0] 270;rw[aK];have aC:(q.drew).cell? ⟨b,0,none⟩=some (.slice none 0 0):=(ab.fr l qs).c 0;have O:=eT ap.out l qs;have s:=Hd (ab.fr l qs);have au:Hid (Own q 57 32 none 0 0 []):=Hd (Own.nil _ _ _);have Z:b ∉ eX none:=by simp[eX]
 have aF:w.heap.size ∉ eX none:=by simp[eX]
 have aa:∀X:World,X.rowIs w.heap.size 57 32 (λj=>.int .u8 ((d.getD j 0).toNat:Int))->X.rangeAt w.heap.size 0 (eO d):=λX o j v hv=>by
  rw[Nat.zero_add];have hj:j<32:=by have:=(gV.1 hv).1;rw[z]at this;exact this
  rw[o.cell hj,<-hv,gO qo]
 have hC:(λX:World=>X.cell? ⟨b,0,none⟩=some gz/\X.rangeAt w.heap.size 0 (eO d)) q.drew:=⟨aC,aa _ O.drew⟩;have HSS:=Hd (λ(X:World) (P:X.cell? ⟨b,0,none⟩=some gz/\X.rangeAt w.heap.size 0 (eO d))=>An P.1 trivial);refine eU (λX:World=>X.cell? ⟨b,0,none⟩=some gz/\X.rangeAt w.heap.size 0 (eO d)) 10 qk ?_ qd
 show fc 0 ..
 iterate 5 (refine gJ rfl ?_;try simp only[qq])
 refine fm (i:=5) (v:=.agg (eO d).toArray) qk fh rfl qd qk (λ_ _ _ h=>h) (yieldsIf_load_mid qr 57 (.tmp 3) rfl w.heap.size (0) rfl (eO d) (.array 32 5) (λX P=>P.2) qk rfl (by rw[z];kernel_rfl)) (by assumption) ?_
 try simp only[qq]
 refine hO (i:=6) rfl λaw N=>?_;go_simp
 rw[mK qr A];have⟨X5,aB,n5,g⟩:=vC q (eO d).toArray 57;have az:X5.cell? ⟨b,0,none⟩=some gz/\X5.rangeAt w.heap.size 0 (eO d):=⟨(s.fr g qs).c 0,aa _ (eT O g qs)⟩;rw[aB];refine N _ _ az ?_
 try simp only[qq]
 refine hO (i:=7) rfl λaw N=>?_;obtain⟨ii,aE,aL,aM,aN⟩:=oC;have aq:=Hd (au.fr g qs);refine ja (.tmp 37) (.tmp 39) 51 rfl 57 ii _ 32 32 underlying51 aE aL aM aN rfl qd none 0 0 ([]) rfl aq.out ⟨q.heap.size,0,none⟩ 1 1 (eO d) rfl (by rw[z]) (λj u hu=>by rw[fV,n5.c j];simpa using hu) (gN d) (by unfold maxLen;omega) qo ?_;intro A' c' m an D af;rw[show (0+1:Nat)=1 from rfl]at an ⊢;have aA:m.cell? ⟨b,0,none⟩=some gz/\m.rangeAt w.heap.size 0 (eO d):=⟨((s.fr g qs).fr D Z).c 0,aa _ (eT (eT O g qs) D aF)⟩;refine N _ _ aA ?_
 try simp only[qq]
 show fc 8 ..
 iterate 2 (refine gJ rfl ?_;try simp only[qq])
 refine eV ⟨qk,?_⟩;simp only[qG,qH];have U:=(s.fr g qs).fr D Z;have e0:=U.k0;have e1:=U.f 0;have⟨X7,Q⟩:=eR (m.setCell ⟨b,0,none⟩ (.slice A' 1 c'));have ae:Fr [b] m X7:=by rw[<-Q];exact(Fq [b] m).st _
 have ah:=U.setAt 0 (.slice A' 1 c')
 have ai:b ∉ eX A':=by
  intro W
  rcases af b W with h|h
  ·exact Z h
  ·have:=s.lt;have:=g.size;omega
 have aH:=an.fr ae (by intro k n;simp only[ip];rintro rfl;exact ai n);have ax:=((g.mono qs).trans (D.mono (T:=b::eX none) (by intro x hx;exact .inl (by simp[hx]))) (λx hx=>.inl hx)).trans ae qs;rw[Q]at ah;have ao:=Hd ah;have ar:=Hd aH;have L:=Hd ax;have H:=Hd (An ai (λk n=>(af k n).imp id (λh=>Nat.le_trans g.size h)));have hP:p.heap.size ∉ b::eX none:=by have:=K.size;simp[eX];omega
 have aJ:=aI.fr L.out hP;have q1:=aJ.k1
 go_wp2
 try rw[Q]
 refine wp_loop_rounds 1 ?_;rw[rounds_succ]
 go_wp2
 go_ret
 have aD:=(K.then (l.mono qs)).then (L.mono (by simp[eX]));have aG:=(ad.1.fr l qs).fr L.out (by simp[eX];omega);refine⟨rfl,b::(eX A'++(some a.heap.size).toList),⟨A',c',a.heap.size,⟨ao.out,by simpa using ar.out,by simpa using A,H.1,qs,λr o=>?_⟩,rfl⟩,aD,λk n=>?_⟩
 ·injection o with o
  subst o;refine⟨aG,Y,λW=>?_⟩
  rcases H.2 _ W with h|h
  ·simp[eX]at h
  ·have h1:=ad.1.lt;have M:=l.size;omega
 ·rcases mem_cons.1 n with h|h
  ·exact .inl h
  ·rcases mem_append.1 h with h|h
   ·rcases H.2 _ h with M|M
    ·simp[eX]at M
    ·right;have:=K.size;have:=l.size;omega
   ·right
    have:k=a.heap.size:=by simpa using h
    have:=J.size;omega
def fw{X:World}{L:Nat}{t:TypeId}{d:Nm}(e:X.rowIs L t 32 (λj=>.int .u8 ((d.getD j 0).toNat:Int)))(b:d.length=32):X.rangeAt L 0 (eO d):=λj v a=>by
 rw[Nat.zero_add];have c:j<32:=by have:=(gV.1 a).1;rw[eP,b]at this;exact this
 rw[e.cell c,<-a,gO qo]
def mL(W:World)(d:Nm)(a:d.length=32):∃Y,(storeCells ⟨W.heap.size,0,none⟩ (eO d)).run prog (W.alloc (.cells (#[.int .u8 0,.int .u8 0,.int .u8 0,.int .u8 0,.int .u8 0,.int .u8 0,.int .u8 0,.int .u8 0,.int .u8 0,.int .u8 0,.int .u8 0,.int .u8 0,.int .u8 0,.int .u8 0,.int .u8 0,.int .u8 0,.int .u8 0,.int .u8 0,.int .u8 0,.int .u8 0,.int .u8 0,.int .u8 0,.int .u8 0,.int .u8 0,.int .u8 0,.int .u8 0,.int .u8 0,.int .u8 0,.int .u8 0,.int .u8 0,.int .u8 0,.int .u8 0]) 57))=.ok () Y/\Fr [] W Y/\Y.rowIs W.heap.size 57 32 (λj=>.int .u8 ((d.getD j 0).toNat:Int)):=by
 have⟨f,b⟩:=iW W;exact⟨_,fj b a,((Fq [] W).alloc _).setCells (.inr (fW _)) _ _,(fp b a).2⟩
def wL(w:World)(a:List Nm)(e:Ending)(w':World):Prop:=∃A c,e=.returned (.slice A a.length c)/\Own w' 57 32 A a.length c (a.flatMap eO)/\Fr [] w w'/\∀k∈eX A,w.heap.size<=k
def Ft(b:Nat)(i f:Int)(w:World):Calls prog 125 #[.pointer (some ⟨b,0,none⟩),.int .i64 i,.int .i64 f,.int .i64 1] w (wL w []):=by
 go_enter func125,ntmps125
 go_wp2
 go_ret
 exact⟨none,0,rfl,Own.nil _ _ _,Fq [] w,by simp[eX]⟩
def ue(w:World)(a:List Nm)(e:Ending)(w':World):Prop:=∃A c,e=.returned (.tuple #[.slice A a.length c,.int .i64 0])/\Own w' 57 32 A a.length c (a.flatMap eO)/\Fr [] w w'/\∀k∈eX A,w.heap.size<=k
open Go.RowKit Go.Shelf
attribute [local go_sem] Oper.semAt_some
def gC{m m':Nat}{P:Program}{l:Nat}{args:Array Value}{W:World}{R:Ending->World->Prop}(h:YieldAt Fence.wide m P l args W R):YieldAt Fence.wide m' P l args W R:=by
 obtain⟨e,g,b,d,f,a⟩:=h;exact⟨e,g,b,d,f,a.1,λc cs _=>a.2 c cs (room_wide _)⟩
def Bo(R:World->Prop)(e:Ending)(w':World):Prop:=e=.returned (.bool true)/\R w'
def Bp(n:Nat)(i:Int)(f:Value)(W:World)(R:World->Prop)(h:R W):CallsIn Fence.wide n prog 259 #[.int .i64 i,.int .i64 1,f] W (Bo R):=by
 refine callsIn_wide.2 ?_
 go_enter func259,ntmps259
 go_wp2
 go_ret
 exact⟨rfl,h⟩
def Bq(i n:Int)(w:World):Calls prog 218 #[.int .i64 i,.int .i64 n] w λe w'=>e=.returned (.func (.func 258) #[] #[.pointer (some ⟨w.heap.size,0,none⟩),.pointer (some ⟨w.heap.size+1,0,none⟩)])/\w'=(w.alloc (.cells #[.int .i64 i] 3)).alloc (.cells #[.int .i64 n] 3):=by
 go_enter func218,ntmps218
 go_wp2
 go_ret
 exact⟨rfl,rfl⟩
def jt{P:Program}{d:Nat}{t:TypeId}{i:Int}(h:P.underlying t=some (.int .i64))(b:0<d)(a:(Lit.int .i64 i).wf=true):P.keyLits d t [.int .i64 i]=some [.int .i64 i]:=by
 obtain⟨d,rfl⟩:∃e,d=e+1:=⟨d - 1,qo⟩;unfold Program.keyLits;rw[h];simp[a]
def lj{P:Program}{d:Nat}{t:TypeId}{s:ByteArray}(h:P.underlying t=some .string)(b:0<d)(a:s.size<=maxLen):P.keyLits d t [.string s]=some [.string s.data.toList]:=by
 obtain⟨d,rfl⟩:∃e,d=e+1:=⟨d - 1,qo⟩;unfold Program.keyLits;rw[h];simp[a]
def uf {P : Program} {k : TypeId} {fs : Array Field} {cs : Array Value} (h : P.underlying k = some (.struct fs)) (hk : P.keyType k = true) (hc : cs.toList.length = P.cellsOf k) (hn : fs.all (·.name != "_") = true)
 (c:(P.types.size == 0)=false) (e:∀d,0<d->∃a,(fs.toList.mapM λf=>P.keyLits d f.type ((cs.toList.drop f.offset).take (P.cellsOf f.type)))=some a):∃l,keyOf P k (.agg cs)=some l:=by
 have⟨a,b⟩:=e P.types.size (Nat.pos_of_ne_zero (by simpa using c));unfold keyOf;rw[h];simp only[hk,Value.formed,h,Bool.true_and,show (Value.agg cs).cells=cs from rfl];rw[if_pos (by simpa using hc)];unfold Program.keyLits;rw[h];simp only;rw[if_pos ⟨hc,hn⟩,b];exact⟨_,rfl⟩
def jL{i:Int}(c:-9223372036854775808<=i)(d:i<=9223372036854775807):(Lit.int .i64 i).wf=true:=by
 have a:IntKind.i64.min=-9223372036854775808:=qd
 have b:IntKind.i64.max=9223372036854775807:=qd
 show (decide (IntKind.i64.min<=i) && decide (i<=IntKind.i64.max))=true
 rw[a,b];simp[c,d]
def sz{i j:Int}(e:(Lit.int .i64 i).wf=true)(f:(Lit.int .i64 j).wf=true):∃l,keyOf prog 270 (jf i j)=some l:=by
 have g:=underlying270;refine uf g qk qk qk qk (λd a=>?_);have c:(prog).cellsOf 3=1:=qk
 have b:=underlying3;simp only[mapM_cons,mapM_nil,c,qG,qH,take_succ_cons,take_zero,jt b a e,jt b a f];exact⟨_,rfl⟩
def yI{n:ON}(c:(Lit.int .i64 n.kind).wf=true)(e:(Lit.int .i64 n.number).wf=true)(f:(Lit.int .i64 n.index).wf=true)(s:n.owner.length<=maxLen)(t:n.text.length<=maxLen):∃l,keyOf prog 31 (fu n)=some l:=by
 have p:=underlying31;have⟨q,k,_,u⟩:=eS n.owner;have⟨r,m,_,v⟩:=eS n.text;unfold fu;rw[k,m];refine uf p qk qk qk qk (λd a=>?_);have g:(prog).cellsOf 3=1:=qk
 have b:=underlying3;have j:q.size<=maxLen:=qo
 have o:r.size<=maxLen:=qo
 have h:(prog).cellsOf 29=1:=qk
 have i:(prog).cellsOf 9=1:=qk
 simp only[mapM_cons,mapM_nil,g,h,i,qG,qH,take_succ_cons,take_zero,jt b a c,jt b a e,jt b a f,lj underlying29 a j,lj underlying9 a o];exact⟨_,rfl⟩
def pB{i:Int}(h:(Lit.int .i64 i).wf=true):∃l,keyOf prog 3 (.int .i64 i)=some l:=by
 unfold keyOf mapKey;rw[underlying3];simp[h]
def qV{x:Nat}(a:1<=x)(h:x<=1048576):1<=Lib.bitLen x/\2 ^ (Lib.bitLen x - 1)<=x/\x<2 ^ Lib.bitLen x :=
 Lib.bitLenAux_bounds 64 x qo qo
def gj{n:Nat}(e:2<=n)(f:n<=1048576):1<=fb n/\fb n<n/\n<=2*fb n:=by
 have⟨a,b,c⟩:=qV (x:=n - 1) qo qo;unfold fb;obtain⟨m,d⟩:∃m,Lib.bitLen (n - 1)=m+1:=⟨Lib.bitLen (n - 1) - 1,qo⟩;rw[d]at b c ⊢;rw[Nat.pow_succ]at c;simp only[Nat.add_sub_cancel]at b ⊢;have:=Nat.one_le_two_pow (n:=m);omega
def zV{b k x:Nat}(a:2 ^ b<=x)(c:x<2 ^ (b+1))(d:2 ^ k<=x)(e:x<2 ^ (k+1)):b=k:=by
 rcases Nat.lt_trichotomy b k with h|h|h
 ·have:2 ^ (b+1)<=2 ^ k:=Nat.pow_le_pow_right qo h
  omega
 ·exact h
 ·have:2 ^ (k+1)<=2 ^ b:=Nat.pow_le_pow_right qo h
  omega
def Br{l:Nat}(h:2 ^ (l+1)<=1048576):fb (2 ^ (l+1))=2 ^ l:=by
 have e:=Nat.one_le_two_pow (n:=l);have⟨a,b,c⟩:=qV (x:=2 ^ (l+1) - 1) qo qo;unfold fb;obtain⟨m,d⟩:∃m,Lib.bitLen (2 ^ (l+1) - 1)=m+1:=⟨Lib.bitLen (2 ^ (l+1) - 1) - 1,qo⟩;rw[d]at b c ⊢;simp only[Nat.add_sub_cancel]at b ⊢;rw[zV (k:=l) b c qo qo]
def Bs{n a:Nat}(f:2 ^ a<n)(g:n<2 ^ (a+1))(h:n<=1048576):fb n=2 ^ a:=by
 have i:=Nat.one_le_two_pow (n:=a);have⟨j,c,d⟩:=qV (x:=n - 1) qo qo;unfold fb;obtain⟨m,e⟩:∃m,Lib.bitLen (n - 1)=m+1:=⟨Lib.bitLen (n - 1) - 1,qo⟩;rw[e]at c d ⊢;simp only[Nat.add_sub_cancel]at c ⊢;rw[zV (b:=m) (k:=a) c d qo qo]
def rt(a:List Nm)(f n:Nat):Nm :=
 if b:n<=1 \/ 1048576<n then a.getD f []else iO (rt a f (fb n)) (rt a (f+fb n) (n - fb n))
termination_by n
decreasing_by
 ·exact(gj qo qo).2.1
 ·have:=gj (n:=n) qo qo;omega
def pC(a:List Nm)(f:Nat):rt a f 1=a.getD f []:=by rw[rt,dif_pos qo]
def pD(a:List Nm)(f n:Nat)(b:2<=n)(c:n<=1048576):rt a f n=iO (rt a f (fb n)) (rt a (f+fb n) (n - fb n)):=by rw[rt,dif_neg qo]
def Ha(a:List Nm)(f l:Nat)(h:2 ^ (l+1)<=1048576):rt a f (2 ^ (l+1))=iO (rt a f (2 ^ l)) (rt a (f+2 ^ l) (2 ^ l)):=by
 have b:=Nat.one_le_two_pow (n:=l);rw[pD _ _ _ qo h,Br h,show 2 ^ (l+1) - 2 ^ l=2 ^ l by omega]
def Fu(a es:List Nm):∀(n f:Nat),1<=n->f+n<=a.length->n<=1048576->rt (a++es) f n=rt a f n:=by
 intro n
 induction n using Nat.strongRecOn with
 | _ n c =>
  intro f e g b
  by_cases d:n=1
  ·subst d
   rw[pC,pC,getD_eq_getElem?_getD,getD_eq_getElem?_getD,List.getElem?_append_left qo]
  ·have h:=gj (n:=n) qo b
   rw[pD _ _ _ qo b,pD _ _ _ qo b,c (fb n) qo f qo qo qo,c (n - fb n) qo (f+fb n) qo qo qo]
def kD{a:List Nm}(c:∀d∈a,d.length=32):∀(n f:Nat),1<=n->f+n<=a.length->n<=1048576->(rt a f n).length=32:=by
 intro n f g h b
 by_cases e:n=1
 ·subst e
  rw[pC,getD_eq_getElem?_getD,gg qo];exact c _ (getElem_mem _)
 ·rw[pD _ _ _ qo b];exact fy _
def mY(a:List Nm)(b:List (Value × Value)):Prop:=∀l i:Nat,(i+1)*2 ^ l<=a.length->PartIs a b l i (rt a (i*2 ^ l) (2 ^ l))
def Fv{l:Nat}(h:2 ^ l<=1048576):wrap64 (2 ^ l)=((2 ^ l:Nat):Int):=by
 have a:((2:Int) ^ l)=((2 ^ l:Nat):Int):=qs
 rw[a];generalize (2:Nat) ^ l=z at h ⊢;simp only[wrap64];omega
def yJ(b:Nat)(c:List Nm)(al:List (Value × Value))(F:List Nat)(hP:mY c al)(ac:∀d∈c,d.length=32)(aH:c.length<=1048576):∀(n f:Nat) (w:World),TreeAt w b c al F->Ok w->1<=n->f+n<=c.length->(∃e,n<=2 ^ e/\2 ^ e ∣ f) ->
 Calls prog 127 #[.pointer (some ⟨b,0,none⟩),.int .i64 (f:Int),.int .i64 (n:Int)] w (fN w (rt c f n)):=by
 intro n
 induction n using Nat.strongRecOn with
 | _ n R =>
 intro f w E ag h1 h2 he;obtain⟨e,q,h⟩:=he;have⟨b1,H,j⟩:=qV (x:=n) h1 qo;obtain⟨g,P⟩:∃m,Lib.bitLen n=m+1:=⟨Lib.bitLen n - 1,qo⟩;rw[P]at H j;simp only[Nat.add_sub_cancel]at H;have L:=λW=>Tryz.bits_Len (n:Int) W qo qo;rw[Int.toNat_natCast,P]at L;have r:=Fv (l:=g) qo
 have t:g<=20:=by
  have:2 ^ g<2 ^ 21:=qo
  exact Nat.le_of_lt_succ ((Nat.pow_lt_pow_iff_right qo).1 this)
 have u:IntKind.i64.wrap (((g+1:Nat):Int) - 1)=(g:Int):=by simp only[IntKind.wrap_i64];omega
 have⟨D,G⟩:=eR (w.alloc (.cells (qP) 57));have M:Fr [] w D:=by rw[<-G];exact(Fq [] w).alloc _
 obtain⟨fR,V⟩:∃f,D.rowIs w.heap.size 57 32 f:=by rw[<-G];exact⟨_,gi w _ _⟩
 have HB:=Hd L;have ao:=Hd V;have S:=Hd M;have ap:=Hd G
 by_cases Q:n=2 ^ g
 ·have aC:2 ^ g ∣ f:=Nat.dvd_trans (Nat.pow_dvd_pow 2 (by
   have:2 ^ g<=2 ^ e:=qo
   exact(Nat.pow_le_pow_iff_right qo).1 this)) h
  obtain⟨i,N⟩:=aC;rw[Nat.mul_comm]at N;have a:=hP g i (by rw[Nat.add_mul];omega);rw[<-N,<-Q]at a;have J:=lG b g i c al F _ D (E.fr0 M) a;have⟨d,C⟩:=eR (rt c f n);rw[C]at J a ⊢;have z:=a.1;have aa:(eO d).length=32:=by rw[eP,z]
  unfold jf at J;have HC:=Hd J;have aK:wrap64 (2 ^ g)=(n:Int):=by rw[r,<-Q]
  have aL:(f:Int) / 2 ^ g=(i:Int):=by
   have h4:((2:Int) ^ g)=((2 ^ g:Nat):Int):=qs
   rw[h4,N,<-Int.natCast_ediv,Nat.mul_div_cancel _ qo]
  clear L V M G J a Q N r R q h b1 H j P E C
  go_enter func127,ntmps127
  go_upto_region 1 with fail
  rw[ap.out]
  go_upto_region 2 with(first
  | (go_at_call 172;(with_reducible refine(HB.out _).mono ?_);rintro e D ⟨rfl,rfl⟩))
  go_wp2_with (first
  | (go_at_call 149;(with_reducible refine HC.out.mono ?_);rintro e w3 ⟨rfl,A⟩;unfold fo;have Y:=eT ao.out A qs;have ai:=fj (d:=d) Y z;have B:=fp (d:=d) Y z;obtain⟨w4,aj⟩:∃X,w3.setCells w.heap.size 0 (eO d)=X:=⟨_,rfl⟩;have aq:Fr [] w w4:=(by rw[<-aj];exact((S.then A).setCells (.inr (fW _)) _ _));rw[aj]at ai B;have HRD:=Hd B.1;have az:=Hd aq;clear aj B aq Y A))
  exact bodyPost_ret (v:=fo d) (fH (d:=.array 32 5) (p:=6) (ty:=57) (b:=w.heap.size) (o:=0) rfl rfl HRD.out qk rfl (by rw[aa];rfl)) rfl ⟨rfl,az.out⟩
 ·have⟨p,a⟩:=eR (2 ^ g)
  rw[a]at r H Q;have aJ:1<=p:=by rw[<-a];exact Nat.one_le_two_pow
  have af:2<=n:=by clear r u t q h j a;omega
  have⟨I,T,c3⟩:=gj (n:=n) af qo;have av:p<n:=by clear r u t q h j a;omega
  have O:fb n=p:=by rw[<-a];exact Bs (by rw[a];exact av) j (by clear r u t q h j a;omega)
  have U:=λW=>g9 n af qo W;have⟨k,hk⟩:=eR (fb n);have ah:=pD c f n af qo;rw[hk]at I T c3 U O ah;have y:2 ^ g<=2 ^ e:=by rw[a];exact Nat.le_trans (Nat.le_of_lt av) q
  have ab:2 ^ g ∣ f:=Nat.dvd_trans (Nat.pow_dvd_pow 2 ((Nat.pow_le_pow_iff_right qd).1 y)) h;rw[a]at ab;have au:f+k+(n - k)<=c.length:=by clear r u t q h j a y;omega
  have aD:n - k<=p:=by clear r u t q h j a y;omega
  have aE:k<=2 ^ e:=by rw[O,<-a];exact y
  have s:f+k<=c.length/\1<=n - k/\n - k<n/\k<=1048576/\n - k<=1048576/\n<=1048576/\k<=n:=by clear r u t q h j a y;omega
  have hA:∀W,Fr [] w W->Calls prog 127 #[.pointer (some ⟨b,0,none⟩),.int .i64 (f:Int),.int .i64 (k:Int)] W (fN W (rt c f k)):=λW hW=>R k T f W (E.fr0 hW) (ag.fr0 hW) I s.1 ⟨e,aE,h⟩
  have hB:∀W,Fr [] w W->Calls prog 127 #[.pointer (some ⟨b,0,none⟩),.int .i64 ((f:Int)+(k:Int)),.int .i64 ((n:Int) - (k:Int))] W (fN W (rt c (f+k) (n - k))):=λW hW=>by
   have:=R (n - k) s.2.2.1 (f+k) W (E.fr0 hW) (ag.fr0 hW) s.2.1 au ⟨g,by rw[a];exact aD,by rw[a,O];exact Nat.dvd_add ab (Nat.dvd_refl p)⟩;rw[Int.natCast_add,Int.natCast_sub s.2.2.2.2.2.2]at this;exact this
  have K:∀W,Fr [] w W->Calls prog 150 #[fo (rt c f k),fo (rt c (f+k) (n - k))] W (fN W (iO (rt c f k) (rt c (f+k) (n - k)))):=λW hW=>sy _ _ W (ag.fr0 hW) (kD ac k f I s.1 s.2.2.2.1) (kD ac (n - k) (f+k) s.2.1 au s.2.2.2.2.1);rw[<-ah]at K;have⟨d,C⟩:=eR (rt c f n);have z:d.length=32:=by rw[<-C];exact kD ac n f h1 h2 s.2.2.2.2.2.1
  have aa:(eO d).length=32:=by rw[eP,z]
  rw[C]at K ⊢
  have aI:((n:Int) == (p:Int))=false:=by
   clear r u t q h j a y;simp;omega
  have HL:=Hd U;have HA:=Hd hA;have aw:=Hd hB;have aB:=Hd K;have aF:0<=(f:Int)+k/\(f:Int)+k<=1048576:=by clear r u t q h j a y;omega
  have aG:0<=(n:Int) - k/\(n:Int) - k<=1048576:=by clear r u t q h j a y;omega
  clear L V M G P a j q U hA hB K C ah ab O h I T c3 R E hP
  go_enter func127,ntmps127
  go_upto_region 1 with fail
  rw[ap.out]
  go_upto_region 2 with(first
  | (go_at_call 172;(with_reducible refine(HB.out _).mono ?_);rintro e D ⟨rfl,rfl⟩))
  go_upto_region 4 with fail
  go_upto_region 5 with(first
  | (go_at_call 171;(with_reducible refine(HL.out _).mono ?_);rintro e D ⟨rfl,rfl⟩))
  go_wp2_with (first
  | (go_at_call 127;(with_reducible refine(HA.out _ S.out).mono ?_);rintro e w2 ⟨rfl,ad⟩;have am:=Hd (S.then ad);have ax:=Hd ad;clear ad)
  | (go_at_call 127;(with_reducible refine(aw.out _ am.out).mono ?_);rintro e w3 ⟨rfl,A⟩;have an:=Hd (am.then A);have ay:=Hd (ax.then A);clear A)
  | (go_at_call 150;(with_reducible refine(aB.out _ an.out).mono ?_);rintro e w5 ⟨rfl,ae⟩;unfold fo;have Z:=eT ao.out (ay.then ae) qs;have ai:=fj (d:=d) Z z;have B:=fp (d:=d) Z z;obtain⟨w6,ak⟩:∃X,w5.setCells w.heap.size 0 (eO d)=X:=⟨_,rfl⟩;have ar:Fr [] w w6:=(by rw[<-ak];exact((an.then ae).setCells (.inr (fW _)) _ _));rw[ak]at ai B;have HRD:=Hd B.1;have aA:=Hd ar;clear ak B ar Z ae))
  exact bodyPost_ret (v:=fo d) (fH (d:=.array 32 5) (p:=6) (ty:=57) (b:=w.heap.size) (o:=0) rfl rfl HRD.out qk rfl (by rw[aa];rfl)) rfl ⟨rfl,aA.out⟩
end Go.Proofs.YtlpmiimgacfmkaaGreatDoor
