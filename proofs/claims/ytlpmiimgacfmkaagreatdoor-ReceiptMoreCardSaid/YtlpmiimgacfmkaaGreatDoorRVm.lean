/- Part of the proof. -/
import Derived.Test.YtlpmiimgacfmkaaGreatDoorRRf2
set_option linter.all false
set_option maxHeartbeats 8000000
set_option maxRecDepth 100000
namespace Go.Proofs.YtlpmiimgacfmkaaGreatDoor
open Go.Proofs.Tryz
open Go.RowKit Go.Shelf
attribute [local go_sem] Oper.semAt_some
structure OS where
 og:Int
 fd:Bool
 vl:Int
def F9:OS:=⟨0,false,0⟩
def wD(P:Nat)(v:Nm):Int:=((v.getD P 0).toNat:Int)
def OS.stop(P:Nat)(s:OS)(z:VZ):Prop:=z.a=true \/ z.v.length<=P \/ (s.fd=true/\wD P z.v≠s.vl)
instance (P:Nat) (s:OS) (z:VZ):Decidable (OS.stop P s z):=by unfold OS.stop;infer_instance
def OS.next(P:Nat)(z:VZ):OS:=⟨z.i,true,wD P z.v⟩
def OS.walk(P:Nat):List VZ->OS->OS
 | [],s=>s
 | z::r,s=>if OS.stop P s z then s else OS.walk P r (OS.next P z)
theorem Cb(P:Nat):∀(R:List VZ) (s:OS),(∃z∈R,z.a=true)->∃(K:Nat) (S:Nat->OS),1<=K/\K<=R.length/\S 0=s/\(∀k,k+1<K->∃z,R[k]?=some z/\¬OS.stop P (S k) z/\S (k+1)=OS.next P z)/\(∀k,k+1=K->∃z,R[k]?=some z/\OS.stop P (S k) z/\S (k+1)=S k)/\S K=OS.walk P R s
 | [],s,h=>by simp at h
 | z::r,s,h=>by
  by_cases b:OS.stop P s z
  ·refine⟨1,λ_=>s,qo,qs,rfl,λk c=>by omega,λk c=>⟨z,by rw[show k=0 by omega];rfl,b,rfl⟩,?_⟩
   rw[OS.walk,if_pos b]
  ·have l:∃y∈r,y.a=true:=by
    obtain⟨y,d,e⟩:=h
    rcases List.mem_cons.1 d with rfl|d
    ·exact absurd (.inl e) b
    ·exact⟨y,d,e⟩
   obtain⟨K,S,m,n,f,g,i,j⟩:=Cb P r (OS.next P z) l;refine⟨K+1,λk=>match k with|0=>s|k+1=>S k,qo,by simp;omega,rfl,λk c=>?_,λk c=>?_,?_⟩
   ·rcases k with _|k
    ·exact⟨z,rfl,b,f⟩
    ·exact g k qo
   ·rcases k with _|k
    ·omega
    ·exact i k qo
   ·rw[OS.walk,if_neg b]
    exact j
def pw(l:List AG)(n:ON)(P:Nat):OS:=OS.walk P (AS l n).reverse F9
theorem yt{L:List VZ}{k:Nat}{z:VZ}(h:L.reverse[k]?=some z)(a:k<L.length):(ww L k).2=z:=by
 rw[List.getElem?_reverse a]at h;unfold ww;rw[List.getD_eq_getElem?_getD,h];rfl
theorem qK(n:ON):∀(l:List AG) (i:Nat),∀x∈mP i l n,x.i<i+l.length
 | [],i,x,h=>by simp[mP]at h
 | a::r,i,x,h=>by
  rw[mP]at h
  rcases List.mem_append.1 h with h|h
  ·unfold i7 at h
   obtain⟨c,_,rfl⟩:=List.mem_map.1 h;simp only[List.length_cons];omega
  ·have:=qK n r (i+1) x h
   simp only[List.length_cons];omega
theorem EW(l:List AG)(n:ON):∀z∈AS l n,z.i<(l.length:Int):=λz a=>by
 rcases List.mem_cons.1 a with rfl|a
 ·unfold z0
  simp only;omega
 ·obtain⟨x,b,rfl⟩:=List.mem_map.1 a
  have:=qK n l 0 x b;unfold FE;simp only;omega
theorem DD(b:Nat)(d:List AX)(M:List Nat)(n:ON)(w:World)(h:VG w b d M)(j:eX n=0):(AS (d.map AX.a) n).length<=121:=by
 obtain⟨r,s,p,o,A,c,K,l,k,m,g,f,q,h,rfl⟩:=h;have e:=h.wl n;have i:=h.run.len;rw[h.wr]at e;unfold AS oz at *;simp only[List.length_cons,List.length_map]at *;omega
structure OG(w W:World)(B4 B8 B9 B10:Nat)(pc:Array Value)(s:OS):Prop where
 fr:Fr [] w W
 pl:BoxN W B4 33 pc
 or:BoxN W B8 3 #[.int .i64 s.og]
 fd:BoxN W B9 4 #[.bool s.fd]
 va:BoxN W B10 5 #[.int .u8 s.vl]
theorem OG.frS{w W f:World}{c d e b:Nat}{g:Array Value}{s:OS}{S:List Nat}(h:OG w W c d e b g s)(a:Fr S W f)(m:∀q∈S,w.heap.size<=q)(j:c ∉ S)(k:d ∉ S)(l:e ∉ S)(i:b ∉ S):OG w f c d e b g s :=
 ⟨h.fr.trans a (λq n=>.inr (m q n)),h.pl.fr a j,h.or.fr a k,h.fd.fr a l,h.va.fr a i⟩
theorem Cc(b:Nat)(ys:List AX)(aC:List Nat)(nm:ON)(P:Nat)(hP:P<=1000000)(w:World)(hv:VG w b ys aC)(aP:eX nm=0)(L M:ByteArray)(he:fg nm=.agg #[.int .i64 nm.kind,.string L,.int .i64 nm.number,.int .i64 nm.index,.string M]):Calls prog 44 #[.pointer (some ⟨b,0,none⟩),.agg #[.int .i64 nm.kind,.string L,.int .i64 nm.number,.int .i64 nm.index,.string M,.int .i64 (P:Int)],.int .i64 (ys.length:Int)] w λe w'=>e=.returned (.tuple #[.int .i64 (if(pw (ys.map AX.a) nm P).fd then(pw (ys.map AX.a) nm P).og else 0),.int .i64 (if(pw (ys.map AX.a) nm P).fd then 0 else 8)])/\Fr [] w w':=by
 obtain⟨ae,hL⟩:=eR (AS (ys.map AX.a) nm);have ba:=DD b ys aC nm w hv aP;have aD:=EW (ys.map AX.a) nm;have a9:∃z∈ae.reverse,z.a=true:=⟨z0,by rw[<-hL];simp[AS],rfl⟩;unfold pw;rw[hL]at ba aD ⊢;rw[List.length_map]at aD;obtain⟨K,S,a8,aI,aE,bd,bc,bb⟩:=Cb P ae.reverse F9 a9;rw[List.length_reverse]at aI
 have bo:∀k z,(AQ ae K)[k]?=some z->k+1<K->¬OS.stop P (S k) z/\S (k+1)=OS.next P z:=λk z F hk=>by
  obtain⟨z2,t,h2,h3⟩:=bd k hk;rw[qz qo,yt t qo]at F;obtain rfl:z2=z:=by simpa using F
  exact⟨h2,h3⟩
 have bn:∀k z,(AQ ae K)[k]?=some z->k+1=K->OS.stop P (S k) z/\S (k+1)=S k:=λk z F hk=>by
  obtain⟨z2,t,h2,h3⟩:=bc k hk;rw[qz qo,yt t qo]at F;obtain rfl:z2=z:=by simpa using F
  exact⟨h2,h3⟩
 rw[<-bb];obtain⟨ro,aR⟩:=eR ((if(S K).fd=true then(S K).og else 0));obtain⟨re,aQ⟩:∃x:Int,(if(S K).fd=true then 0 else 8)=x:=⟨_,rfl⟩;rw[aR,aQ];have aB:=Hd (An aR aQ);clear aR aQ;have bw:=Hd bo;have bv:=Hd bn;have bt:=Hd aE;have ar:=Hd (An hL (An (show ae.length<=1000 by omega) (An aD (An a8 aI))));have a3:=Hd (An he aP);obtain⟨m,E⟩:=eR (ys.length)
 have HM:=Hd E;have a6:=Hd (FF b ys aC);have bI:decide ((m:Int)<0)=false:=qs
 have bJ:decide ((P:Int)<0)=false:=qs
 clear bo bn aE hL ba aD a9 bb bd bc a8 aI he aP hP;rw[E];obtain⟨T,bm,an,aM⟩:=kS w #[.int .i64 nm.kind,.string L,.int .i64 nm.number,.int .i64 nm.index,.string M,.int .i64 (P:Int)] 33;obtain⟨y0,y1,y2,y3,y4,y5⟩:=an.m6;have aO:=a6.out T (hv.fr0 aM);rw[E]at aO;have a5:=Hd aO;have HV:=Hd hv;have aX:=Hd an;have bs:=Hd aM;have bu:=Hd bm;clear bm an aM hv aO a6 E;refine(callsIn_wide (n:=5)).1 ?_;refine callsIn_of_wp_marks func44 rfl trivial ?_ rfl;simp only[ntmps44,List.size_toArray,List.length_cons,List.length_nil,Nat.reduceAdd,Nat.reduceSub,Array.replicate_succ,Array.replicate_zero,List.push_toArray,List.append_toArray,List.nil_append,List.cons_append];refine wpIn_wide.2 ?_
 go_upto_region 1 with fail
 rw[bu.out]
 go_upto_region 7 with((go_at_call 99;(with_reducible refine a5.out.mono ?_);rintro e w2 ⟨rfl,rfl⟩))
 obtain⟨G,ao⟩:=eR (((T.alloc (.cells #[.int .i64 0] 3)).alloc (.cells #[.bool false] 4)).alloc (.cells #[.int .u8 0] 5));have aK:BoxN G T.heap.size 3 #[.int .i64 0]:=by rw[<-ao];exact((BoxN.new T _ _).alloc _).alloc _
 have aL:BoxN G (T.heap.size+1) 4 #[.bool false]:=by
  rw[<-ao];have o:=(BoxN.new (T.alloc (.cells #[.int .i64 0] 3)) 4 #[.bool false]).alloc (.cells #[.int .u8 0] 5)
  rwa [kX]at o
 have aJ:BoxN G (T.heap.size+1+1) 5 #[.int .u8 0]:=by
  rw[<-ao];have o:=BoxN.new ((T.alloc (.cells #[.int .i64 0] 3)).alloc (.cells #[.bool false] 4)) 5 #[.int .u8 0]
  rwa [kX,kX]at o
 have aN:Fr [] T G:=by rw[<-ao];exact(((Fq [] T).alloc _).alloc _).alloc _
 have aT:G.heap.size=T.heap.size+3:=by rw[<-ao];simp
 rw[ao];clear ao y0 y1 y2 y3 y4 y5;have an:=aX.out.fr aN qs;obtain⟨y0,y1,y2,y3,y4⟩:=an.m5;have aV:=aX.out.lt;obtain⟨d,a7⟩:=eR (T.heap.size);rw[a7]at aK aL aJ aT aV ⊢;have aA:=Hd (An an (An aK (An aL aJ)));have bx:=Hd (An aT aV);have a4:=Hd (bs.out.then aN);have be:=vw b nm.kind nm.number nm.index L M (m:Int) G;have aY:=Hd be;clear be an aK aL aJ aT aV aN a7
 go_wp2_with ((go_at_call 100;(with_reducible refine aY.out.mono ?_);rintro e w5 ⟨rfl,bh,bi,bj,bf,bp⟩;have aH:=Hd (An bh (An bi bj));have aq:=Hd bf;have bz:=Hd bp;clear bh bi bj bf bp))
 clear y0 y1 y2 y3 y4 aY a5
 have aE:OG w w5 w.heap.size d (d+1) (d+1+1) #[.int .i64 nm.kind,.string L,.int .i64 nm.number,.int .i64 nm.index,.string M,.int .i64 (P:Int)] (S 0):=by
  rw[bt.out];exact⟨a4.out.then aq.out,aA.out.1.fr aq.out qs,aA.out.2.1.fr aq.out qs,aA.out.2.2.1.fr aq.out qs,aA.out.2.2.2.fr aq.out qs⟩
 have hZ:w.heap.size<d/\d+2<w5.heap.size/\G.heap.size+3=w5.heap.size/\d+3=G.heap.size:=by have t:=bx.out;have h2:=bz.out;omega
 have A:=Hd hZ;clear hZ
 refine oG 0 (a:=?aa) 5 [d,d+1,d+1+1] (by have:=A.out;simp;omega) (AQ ae K) (λx:VZ=>#[.agg x.cs.toArray]) (lb:=#[.pointer (some ⟨G.heap.size,0,none⟩),.pointer (some ⟨G.heap.size+1,0,none⟩),.pointer (some ⟨G.heap.size+2,0,none⟩)]) ?_ (enters_of func160 qk rfl) ?_
  (λk W=>OG w W w.heap.size d (d+1) (d+1+1) #[.int .i64 nm.kind,.string L,.int .i64 nm.number,.int .i64 nm.index,.string M,.int .i64 (P:Int)] (S k))
  (λk U U' S o hf hq=>o.frS hf (λq E=>by have:=hq q E;have:=A.out;omega) (λE=>by have:=hq _ E;have:=A.out;omega) (λE=>by have:=hq _ E;have:=A.out;omega) (λE=>by have:=hq _ E;have:=A.out;omega) (λE=>by have:=hq _ E;have:=A.out;omega)) aE
  (λl bA U hU ab hJ hy bB=>FC 5 l G.heap.size (G.heap.size+1) (G.heap.size+2) b ys aC nm L M (m:Int) ae K ar.out.1 ar.out.2.1 ar.out.2.2.2.1 ar.out.2.2.2.2 (λz F=>by rw[<-HM.out];exact ar.out.2.2.1 z F) U (w5.heap.size::(w5.heap.size+1)::[d,d+1,d+1+1]) (by have:=A.out;simp;omega) (aH.out.1.fr hU qs) (aH.out.2.1.fr hU qs) a3.out.1 a3.out.2 (aH.out.2.2.fr hU qs) (by have:=A.out;simp;omega) (HV.out.fr0 ((a4.out.then aq.out).then hU)) bA hJ hy bB)
  (λk a' W'=>∃p,(∃x:VZ,(AQ ae K)[k]?=some x/\a'={ tmps:=((Act.tmps ?aa).setIfInBounds 32 (.agg x.cs.toArray)).setIfInBounds 11 (.pointer (some ⟨p,0,none⟩)),defers:=[] }/\BoxN W' p 201 x.cs.toArray)/\w5.heap.size+2<=p/\OG w W' w.heap.size d (d+1) (d+1+1) #[.int .i64 nm.kind,.string L,.int .i64 nm.number,.int .i64 nm.index,.string M,.int .i64 (P:Int)] (S k))
  ?_ ?_ ?_ ?_ ?_ ?_
 ·rfl
 ·intro x;rfl
 ·rintro k a' U U' ⟨p,⟨x,hx,ha,hb⟩,ad,g⟩ hf
  have F:=A.out;exact⟨p,⟨x,hx,ha,hb.fr hf (by simp;omega)⟩,ad,g.frS hf (by simp;omega) (by simp;omega) (by simp;omega) (by simp;omega) (by simp;omega)⟩
 ·intro l k z U K2 hx hI ab y
  unfold VZ.cs;obtain⟨N,Q,_,_⟩:=eT z.v;rw[Q]
  gi_wp2_with fail
  exact y _ _ ((Fq [] U).alloc _) ⟨U.heap.size,⟨_,hx,by simp only[VZ.cs,Q];rfl,by simp only[VZ.cs,Q];exact BoxN.new U _ _⟩,ab,hI.frS ((Fq [] U).alloc _) qs qs qs qs qs⟩
 ·intro l k z a' U hx hk hA ab
  obtain⟨p,⟨x',ap,rfl,C⟩,ad,g⟩:=hA;rw[hx]at ap;obtain rfl:z=x':=by simpa using ap
  rw[oH]at hk;obtain⟨O,az⟩:=bw.out k z hx hk;rw[az];clear hx ap az hk;generalize S k=s at g O;obtain⟨ac,af,R⟩:=s;unfold OS.stop at O;simp only[not_or,Bool.not_eq_true,Nat.not_le,not_and,ne_eq,Decidable.not_not]at O;obtain⟨bq,aU,br⟩:=O;obtain⟨H,u,za⟩:=z;simp only at bq aU br;subst bq;obtain⟨N,Q,aS,bG⟩:=eT u
  have ay:∀o:P<N.size,(((N[P]'o).toNat:Nat):Int)=wD P u:=λo=>by
   unfold wD;rw[<-aS,List.getD_eq_getElem?_getD,gx (by rw[Array.length_toList];exact o)];rfl
  simp only[VZ.cs,Q,OS.next]at C ⊢;have bg:decide (u.length<=P)=false:=by simp;omega
  have bE:(P:Int)<(u.length:Int):=qo
  have bF:(0:Int)<=(P:Int):=qo
  rcases af with _|_
  ·
   have HSS:=Hd (λ(X:World) (h:Fr [] U X)=>(show X.cell? ⟨p,0,none⟩=some (.int .i64 H)/\X.cell? ⟨p,1,none⟩=some (.string N)/\X.cell? ⟨p,2,none⟩=some (.bool false)/\X.cell? ⟨w.heap.size,5,none⟩=some (.int .i64 (P:Int))/\X.cell? ⟨d,0,none⟩=some (.int .i64 ac)/\X.cell? ⟨d+1,0,none⟩=some (.bool false)/\X.cell? ⟨d+1+1,0,none⟩=some (.int .u8 R)from by
    have r:=C.fr h qs;exact⟨r.c 0,r.c 1,r.c 2,(g.pl.fr h qs).c 5,(g.or.fr h qs).c 0,(g.fd.fr h qs).c 0,(g.va.fr h qs).c 0⟩))
   have aF:=Hd C;have j:=Hd g;have aG:=Hd (An ad ab);clear C g ad ab Q;simp only[qA,qB,qC]
   gi_wp2_with fail
   have B:Fr [] U U.drew:=(Fq [] U).drew;refine fE (λX:World=>Fr [] U X) 21 qk qk (λ_ _ o=>by have t:=And.left o;cases t) ?_ qd
   show fb 0 ..
   iterate 13 (refine gB rfl ?_;try simp only[qq])
   refine mO (i:=13) rfl ?_
   try simp only[qq]
   refine mO (i:=14) rfl ?_
   try simp only[qq]
   refine mO (i:=15) rfl ?_
   try simp only[qq]
   refine mO (i:=16) rfl ?_
   try simp only[qq]
   refine mO (i:=17) rfl ?_
   try simp only[qq]
   refine mO (i:=18) rfl ?_
   try simp only[qq]
   refine mO (i:=19) rfl ?_
   try simp only[qq]
   show fb 20 ..
   refine gB rfl ?_;try simp only[qq];refine eW ⟨qk,?_⟩;simp only[qG,qH]
   go_wp2_with fail
   gi_wp2_with fail
   clear B HSS
   have HSS:=Hd (λ(X:World) (h:Fr [d,d+1,d+1+1] U X)=>(show X.cell? ⟨p,0,none⟩=some (.int .i64 H)/\X.cell? ⟨p,1,none⟩=some (.string N)/\X.cell? ⟨p,2,none⟩=some (.bool false)/\X.cell? ⟨w.heap.size,5,none⟩=some (.int .i64 (P:Int))from by
    have F:=A.out;have r:=aF.out.fr h (by have:=aG.out;simp;omega);exact⟨r.c 0,r.c 1,r.c 2,(j.out.pl.fr h (by simp;omega)).c 5⟩))
   refine fE (λX:World=>Fr [d,d+1,d+1+1] U X) 9 qk qk (λ_ _ o=>by have t:=And.left o;cases t) ?_ qd;obtain⟨Y,am⟩:=eR (U.drew.drew);have Z:Fr [] U Y:=by rw[<-am];exact(Fq [] U).drew.drew
   rw[am];have B:Fr [d,d+1,d+1+1] U Y:=Z.mono qs;clear am
   show fb 0 ..
   iterate 7 (refine gB rfl ?_;try simp only[qq])
   try simp only[ay]
   refine hO (i:=7) rfl λK y=>?_;have h8:=j.out.or.fr Z qs;have e0:=h8.k0;have e1:=h8.f 0;go_simp
   obtain⟨I,ai⟩:=eR (Y.setCell ⟨d,0,none⟩ (.int .i64 H));have av:BoxN I d 3 #[.int .i64 H]:=by rw[<-ai];exact h8.setAt 0 _
   have f3:Fr [d] Y I:=by rw[<-ai];exact(Fq [d] Y).st _
   rw[ai];have ak:Fr [d,d+1,d+1+1] U I:=B.trans f3 qs;refine y _ _ ak ?_;clear y K e0 e1 ai
   try simp only[qq]
   refine hO (i:=8) rfl λK y=>?_;have ag:=(j.out.va.fr Z qs).fr f3 (by simp;omega);have e0:=ag.k0;have e1:=ag.f 0;go_simp
   obtain⟨J,aj⟩:=eR (I.setCell ⟨d+1+1,0,none⟩ (.int .u8 (wD P u)));have au:BoxN J (d+1+1) 5 #[.int .u8 (wD P u)]:=by rw[<-aj];exact ag.setAt 0 _
   have f4:Fr [d+1+1] I J:=by rw[<-aj];exact(Fq [d+1+1] I).st _
   rw[aj];have al:Fr [d,d+1,d+1+1] U J:=ak.trans f4 qs;refine y _ _ al ?_;clear y K e0 e1 aj
   try simp only[qq]
   refine eW ⟨qk,?_⟩;simp only[qG,qH];have h9:=((j.out.fd.fr Z qs).fr f3 qs).fr f4 qs;have e0:=h9.k0;have e1:=h9.f 0;obtain⟨U5,ax⟩:=eR (J.setCell ⟨d+1,0,none⟩ (.bool true));have aw:BoxN U5 (d+1) 4 #[.bool true]:=by rw[<-ax];exact h9.setAt 0 _
   have f5:Fr [d+1] J U5:=by rw[<-ax];exact(Fq [d+1] J).st _
   have ah:Fr [d,d+1,d+1+1] U U5:=al.trans f5 qs;have F:=A.out;have D:OG w U5 w.heap.size d (d+1) (d+1+1) #[.int .i64 nm.kind,.string L,.int .i64 nm.number,.int .i64 nm.index,.string M,.int .i64 (P:Int)] ⟨H,true,wD P u⟩:=⟨j.out.fr.trans ah (by simp;omega),j.out.pl.fr ah (by simp;omega),(av.fr f4 (by simp;omega)).fr f5 qs,aw,au.fr f5 qs⟩;have V:=Hd (An D ah);clear h8 av h9 aw ag au Z f3 f4 f5 B ak al ah D F HSS
   go_wp2_with fail
   gi_wp2_with fail
   exact⟨V.out.1,V.out.2⟩
  ·
   have bH:=br rfl;subst bH
   have HSS:=Hd (λ(X:World) (h:Fr [] U X)=>(show X.cell? ⟨p,0,none⟩=some (.int .i64 H)/\X.cell? ⟨p,1,none⟩=some (.string N)/\X.cell? ⟨p,2,none⟩=some (.bool false)/\X.cell? ⟨w.heap.size,5,none⟩=some (.int .i64 (P:Int))/\X.cell? ⟨d,0,none⟩=some (.int .i64 ac)/\X.cell? ⟨d+1,0,none⟩=some (.bool true)/\X.cell? ⟨d+1+1,0,none⟩=some (.int .u8 (wD P u))from by
    have r:=C.fr h qs;exact⟨r.c 0,r.c 1,r.c 2,(g.pl.fr h qs).c 5,(g.or.fr h qs).c 0,(g.fd.fr h qs).c 0,(g.va.fr h qs).c 0⟩))
   have aF:=Hd C;have j:=Hd g;have aG:=Hd (An ad ab);clear C g ad ab Q;simp only[qA,qB,qC]
   gi_wp2_with fail
   have B:Fr [] U U.drew:=(Fq [] U).drew;refine fE (λX:World=>Fr [] U X) 21 qk qk (λ_ _ o=>by have t:=And.left o;cases t) ?_ qd
   show fb 0 ..
   iterate 18 (refine gB rfl ?_;try simp only[qq])
   try simp only[ay]
   show fb 18 ..
   iterate 3 (refine gB rfl ?_;try simp only[qq])
   refine eW ⟨qk,?_⟩;simp only[qG,qH]
   go_wp2_with fail
   gi_wp2_with fail
   clear B HSS
   have HSS:=Hd (λ(X:World) (h:Fr [d,d+1,d+1+1] U X)=>(show X.cell? ⟨p,0,none⟩=some (.int .i64 H)/\X.cell? ⟨p,1,none⟩=some (.string N)/\X.cell? ⟨p,2,none⟩=some (.bool false)/\X.cell? ⟨w.heap.size,5,none⟩=some (.int .i64 (P:Int))from by
    have F:=A.out;have r:=aF.out.fr h (by have:=aG.out;simp;omega);exact⟨r.c 0,r.c 1,r.c 2,(j.out.pl.fr h (by simp;omega)).c 5⟩))
   refine fE (λX:World=>Fr [d,d+1,d+1+1] U X) 9 qk qk (λ_ _ o=>by have t:=And.left o;cases t) ?_ qd;obtain⟨Y,am⟩:=eR (U.drew.drew);have Z:Fr [] U Y:=by rw[<-am];exact(Fq [] U).drew.drew
   rw[am];have B:Fr [d,d+1,d+1+1] U Y:=Z.mono qs;clear am
   show fb 0 ..
   iterate 7 (refine gB rfl ?_;try simp only[qq])
   try simp only[ay]
   refine hO (i:=7) rfl λK y=>?_;have h8:=j.out.or.fr Z qs;have e0:=h8.k0;have e1:=h8.f 0;go_simp
   obtain⟨I,ai⟩:=eR (Y.setCell ⟨d,0,none⟩ (.int .i64 H));have av:BoxN I d 3 #[.int .i64 H]:=by rw[<-ai];exact h8.setAt 0 _
   have f3:Fr [d] Y I:=by rw[<-ai];exact(Fq [d] Y).st _
   rw[ai];have ak:Fr [d,d+1,d+1+1] U I:=B.trans f3 qs;refine y _ _ ak ?_;clear y K e0 e1 ai
   try simp only[qq]
   refine hO (i:=8) rfl λK y=>?_;have ag:=(j.out.va.fr Z qs).fr f3 (by simp;omega);have e0:=ag.k0;have e1:=ag.f 0;go_simp
   obtain⟨J,aj⟩:=eR (I.setCell ⟨d+1+1,0,none⟩ (.int .u8 (wD P u)));have au:BoxN J (d+1+1) 5 #[.int .u8 (wD P u)]:=by rw[<-aj];exact ag.setAt 0 _
   have f4:Fr [d+1+1] I J:=by rw[<-aj];exact(Fq [d+1+1] I).st _
   rw[aj];have al:Fr [d,d+1,d+1+1] U J:=ak.trans f4 qs;refine y _ _ al ?_;clear y K e0 e1 aj
   try simp only[qq]
   refine eW ⟨qk,?_⟩;simp only[qG,qH];have h9:=((j.out.fd.fr Z qs).fr f3 qs).fr f4 qs;have e0:=h9.k0;have e1:=h9.f 0;obtain⟨U5,ax⟩:=eR (J.setCell ⟨d+1,0,none⟩ (.bool true));have aw:BoxN U5 (d+1) 4 #[.bool true]:=by rw[<-ax];exact h9.setAt 0 _
   have f5:Fr [d+1] J U5:=by rw[<-ax];exact(Fq [d+1] J).st _
   have ah:Fr [d,d+1,d+1+1] U U5:=al.trans f5 qs;have F:=A.out;have D:OG w U5 w.heap.size d (d+1) (d+1+1) #[.int .i64 nm.kind,.string L,.int .i64 nm.number,.int .i64 nm.index,.string M,.int .i64 (P:Int)] ⟨H,true,wD P u⟩:=⟨j.out.fr.trans ah (by simp;omega),j.out.pl.fr ah (by simp;omega),(av.fr f4 (by simp;omega)).fr f5 qs,aw,au.fr f5 qs⟩;have V:=Hd (An D ah);clear h8 av h9 aw ag au Z f3 f4 f5 B ak al ah D F HSS
   go_wp2_with fail
   gi_wp2_with fail
   exact⟨V.out.1,V.out.2⟩
 ·intro l k z a' U hx hk hA ab
  obtain⟨p,⟨x',ap,rfl,C⟩,ad,g⟩:=hA;rw[hx]at ap;obtain rfl:z=x':=by simpa using ap
  rw[oH]at hk;obtain⟨O,az⟩:=bv.out k z hx hk;rw[az];clear hx ap az hk;generalize S k=s at g O ⊢;obtain⟨ac,af,R⟩:=s;unfold OS.stop at O;obtain⟨H,u,za⟩:=z;simp only at O;obtain⟨N,Q,aS,bG⟩:=eT u
  have ay:∀o:P<N.size,(((N[P]'o).toNat:Nat):Int)=wD P u:=λo=>by
   unfold wD;rw[<-aS,List.getD_eq_getElem?_getD,gx (by rw[Array.length_toList];exact o)];rfl
  simp only[VZ.cs,Q]at C ⊢;have bF:(0:Int)<=(P:Int):=qo
  rcases za with _|_
  ·rcases Nat.lt_or_ge P u.length with aU|aU
   ·obtain⟨hf,bk⟩:af=true/\wD P u≠R:=by
     rcases O with o|o|o
     ·simp at o
     ·omega
     ·exact o
    subst hf;have bg:decide (u.length<=P)=false:=by simp;omega
    have bE:(P:Int)<(u.length:Int):=qo
    have bC:(wD P u == R)=false:=by simpa using bk
    have bD:(wD P u != R)=true:=by simpa using bk
    clear O
    have HSS:=Hd (λ(X:World) (h:Fr [] U X)=>(show X.cell? ⟨p,0,none⟩=some (.int .i64 H)/\X.cell? ⟨p,1,none⟩=some (.string N)/\X.cell? ⟨p,2,none⟩=some (.bool false)/\X.cell? ⟨w.heap.size,5,none⟩=some (.int .i64 (P:Int))/\X.cell? ⟨d,0,none⟩=some (.int .i64 ac)/\X.cell? ⟨d+1,0,none⟩=some (.bool true)/\X.cell? ⟨d+1+1,0,none⟩=some (.int .u8 R)from by
     have r:=C.fr h qs;exact⟨r.c 0,r.c 1,r.c 2,(g.pl.fr h qs).c 5,(g.or.fr h qs).c 0,(g.fd.fr h qs).c 0,(g.va.fr h qs).c 0⟩))
    have j:=Hd g;clear C g ad ab Q;simp only[qA,qB,qC]
    gi_wp2_with fail
    have B:Fr [] U U.drew:=(Fq [] U).drew;refine fE (λX:World=>Fr [] U X) 21 qk qk (λ_ _ o=>by have t:=And.left o;cases t) ?_ qd
    show fb 0 ..
    iterate 18 (refine gB rfl ?_;try simp only[qq])
    try simp only[ay]
    show fb 18 ..
    iterate 2 (refine gB rfl ?_;try simp only[qq])
    try simp only[bC,bD,Bool.not_false]
    show fb 20 ..
    refine gB rfl ?_;try simp only[qq];refine eW ⟨qk,?_⟩;simp only[qG,qH]
    go_wp2_with fail
    have D:OG w U.drew w.heap.size d (d+1) (d+1+1) #[.int .i64 nm.kind,.string L,.int .i64 nm.number,.int .i64 nm.index,.string M,.int .i64 (P:Int)] ⟨ac,true,R⟩:=⟨j.out.fr.drew,j.out.pl.drew,j.out.or.drew,j.out.fd.drew,j.out.va.drew⟩;have V:=Hd D;clear D B HSS
    gi_wp2_with fail
    exact⟨V.out,(Fq _ U).drew⟩
   ·have bg:decide (u.length<=P)=true:=by simp;omega
    clear O
    have HSS:=Hd (λ(X:World) (h:Fr [] U X)=>(show X.cell? ⟨p,0,none⟩=some (.int .i64 H)/\X.cell? ⟨p,1,none⟩=some (.string N)/\X.cell? ⟨p,2,none⟩=some (.bool false)/\X.cell? ⟨w.heap.size,5,none⟩=some (.int .i64 (P:Int))/\X.cell? ⟨d,0,none⟩=some (.int .i64 ac)/\X.cell? ⟨d+1,0,none⟩=some (.bool af)/\X.cell? ⟨d+1+1,0,none⟩=some (.int .u8 R)from by
     have r:=C.fr h qs;exact⟨r.c 0,r.c 1,r.c 2,(g.pl.fr h qs).c 5,(g.or.fr h qs).c 0,(g.fd.fr h qs).c 0,(g.va.fr h qs).c 0⟩))
    have j:=Hd g;clear C g ad ab Q;simp only[qA,qB,qC]
    gi_wp2_with fail
    have B:Fr [] U U.drew:=(Fq [] U).drew;refine fE (λX:World=>Fr [] U X) 21 qk qk (λ_ _ o=>by have t:=And.left o;cases t) ?_ qd
    show fb 0 ..
    iterate 11 (refine gB rfl ?_;try simp only[qq])
    refine mO (i:=11) rfl ?_
    try simp only[qq]
    refine mO (i:=12) rfl ?_
    try simp only[qq]
    refine mO (i:=13) rfl ?_
    try simp only[qq]
    refine mO (i:=14) rfl ?_
    try simp only[qq]
    refine mO (i:=15) rfl ?_
    try simp only[qq]
    refine mO (i:=16) rfl ?_
    try simp only[qq]
    refine mO (i:=17) rfl ?_
    try simp only[qq]
    refine mO (i:=18) rfl ?_
    try simp only[qq]
    refine mO (i:=19) rfl ?_
    try simp only[qq]
    refine mO (i:=20) rfl ?_
    try simp only[qq]
    refine eW ⟨qk,?_⟩;simp only[qG,qH]
    go_wp2_with fail
    have D:OG w U.drew w.heap.size d (d+1) (d+1+1) #[.int .i64 nm.kind,.string L,.int .i64 nm.number,.int .i64 nm.index,.string M,.int .i64 (P:Int)] ⟨ac,af,R⟩:=⟨j.out.fr.drew,j.out.pl.drew,j.out.or.drew,j.out.fd.drew,j.out.va.drew⟩;have V:=Hd D;clear D B HSS
    gi_wp2_with fail
    exact⟨V.out,(Fq _ U).drew⟩
  ·clear O
   have HSS:=Hd (λ(X:World) (h:Fr [] U X)=>(show X.cell? ⟨p,0,none⟩=some (.int .i64 H)/\X.cell? ⟨p,1,none⟩=some (.string N)/\X.cell? ⟨p,2,none⟩=some (.bool true)/\X.cell? ⟨w.heap.size,5,none⟩=some (.int .i64 (P:Int))/\X.cell? ⟨d,0,none⟩=some (.int .i64 ac)/\X.cell? ⟨d+1,0,none⟩=some (.bool af)/\X.cell? ⟨d+1+1,0,none⟩=some (.int .u8 R)from by
    have r:=C.fr h qs;exact⟨r.c 0,r.c 1,r.c 2,(g.pl.fr h qs).c 5,(g.or.fr h qs).c 0,(g.fd.fr h qs).c 0,(g.va.fr h qs).c 0⟩))
   have j:=Hd g;clear C g ad ab Q;simp only[qA,qB,qC]
   gi_wp2_with fail
   have B:Fr [] U U.drew:=(Fq [] U).drew;refine fE (λX:World=>Fr [] U X) 21 qk qk (λ_ _ o=>by have t:=And.left o;cases t) ?_ qd
   show fb 0 ..
   iterate 3 (refine gB rfl ?_;try simp only[qq])
   refine mO (i:=3) rfl ?_
   try simp only[qq]
   refine mO (i:=4) rfl ?_
   try simp only[qq]
   refine mO (i:=5) rfl ?_
   try simp only[qq]
   refine mO (i:=6) rfl ?_
   try simp only[qq]
   refine mO (i:=7) rfl ?_
   try simp only[qq]
   refine mO (i:=8) rfl ?_
   try simp only[qq]
   show fb 9 ..
   iterate 2 (refine gB rfl ?_;try simp only[qq])
   refine mO (i:=11) rfl ?_
   try simp only[qq]
   refine mO (i:=12) rfl ?_
   try simp only[qq]
   refine mO (i:=13) rfl ?_
   try simp only[qq]
   refine mO (i:=14) rfl ?_
   try simp only[qq]
   refine mO (i:=15) rfl ?_
   try simp only[qq]
   refine mO (i:=16) rfl ?_
   try simp only[qq]
   refine mO (i:=17) rfl ?_
   try simp only[qq]
   refine mO (i:=18) rfl ?_
   try simp only[qq]
   refine mO (i:=19) rfl ?_
   try simp only[qq]
   refine mO (i:=20) rfl ?_
   try simp only[qq]
   refine eW ⟨qk,?_⟩;simp only[qG,qH]
   go_wp2_with fail
   have D:OG w U.drew w.heap.size d (d+1) (d+1+1) #[.int .i64 nm.kind,.string L,.int .i64 nm.number,.int .i64 nm.index,.string M,.int .i64 (P:Int)] ⟨ac,af,R⟩:=⟨j.out.fr.drew,j.out.pl.drew,j.out.or.drew,j.out.fd.drew,j.out.va.drew⟩;have V:=Hd D;clear D B HSS
   gi_wp2_with fail
   exact⟨V.out,(Fq _ U).drew⟩
 ·intro o
  have t:=oH ae K;rw[o]at t;have h2:=ar.out.2.2.2.1;simp at t;omega
 ·intro aW U hD hI y
  rw[oH]at hI;obtain⟨s,g⟩:=eR (S K);rw[g]at hI;obtain⟨ac,af,R⟩:=s;have j:=Hd g;clear g;have e8:=hI.or.k0;have e9:=hI.fd.k0;have HI:=Hd hI.fr;have HK:=Hd y;have aZ:=Hd hD;clear hI y hD
  rcases af with _|_
  ·go_wp2_with fail
   refine⟨qs,.inl ⟨_,_,rfl,run_takeDeferred HK.out,?_⟩⟩;refine⟨.tuple #[.int .i64 0,.int .i64 8],by simp[results,results44,go_sem],by rw[<-aB.out.1,<-aB.out.2,j.out];rfl,?_⟩;exact HI.out.trans (jn (S:=[aW]) _ (Fq _ U) (.inl qs)) (by simp;have:=A.out;have:=aZ.out;omega)
  ·go_wp2_with fail
   refine⟨qs,.inl ⟨_,_,rfl,run_takeDeferred HK.out,?_⟩⟩;refine⟨.tuple #[.int .i64 ac,.int .i64 0],by simp[results,results44,go_sem],by rw[<-aB.out.1,<-aB.out.2,j.out];rfl,?_⟩;exact HI.out.trans (jn (S:=[aW]) _ (Fq _ U) (.inl qs)) (by simp;have:=A.out;have:=aZ.out;omega)
theorem FG(A:Option Addr)(n c:Nat)(f:Value)(a:n<=1)(w:World):Calls prog 220 #[.slice A n c,.int .i64 0,.int .i64 n,f] w λe w'=>e=.returned (.tuple #[])/\w=w':=by
 obtain rfl|rfl:n=0 \/ n=1:=qo
 all_goals
  simp only[Int.ofNat_zero,Int.ofNat_one,Int.natCast_zero,Int.natCast_one]
  go_enter func220,ntmps220
  go_wp2_with fail
  refine wp_loop_rounds 1 ?_;rw[rounds_succ]
  go_wp2_with fail
  go_end0
  exact⟨rfl,rfl⟩
theorem FH(A:Option Addr)(n c:Nat)(m:Int)(f:Value)(d:n<=1)(w:World):Calls prog 179 #[.slice A n c,.int .i64 0,.int .i64 n,.int .i64 m,f] w λe w'=>e=.returned (.tuple #[])/\w=w':=by
 obtain rfl|rfl:n=0 \/ n=1:=qo
 all_goals
  simp only[Int.ofNat_zero,Int.ofNat_one,Int.natCast_zero,Int.natCast_one]
 ·have a:=Hd (FG A 0 c f qo w)
  simp only[Int.ofNat_zero,Int.natCast_zero]at a
  go_enter func179,ntmps179
  go_wp2_with fail
  refine wp_loop_rounds 1 ?_;rw[rounds_succ]
  go_wp2_with ((go_at_call 220;(with_reducible refine a.out.mono ?_);rintro e b ⟨rfl,rfl⟩))
  try simp only[Exit.inBlock,Exit.then]
  refine bodyPost_ret (results_none rfl _ _ _) rfl ?_;exact⟨rfl,rfl⟩
 ·have a:=Hd (FG A 1 c f qo w)
  simp only[Int.ofNat_one,Int.natCast_one]at a
  go_enter func179,ntmps179
  go_wp2_with fail
  refine wp_loop_rounds 1 ?_;rw[rounds_succ]
  go_wp2_with ((go_at_call 220;(with_reducible refine a.out.mono ?_);rintro e b ⟨rfl,rfl⟩))
  try simp only[Exit.inBlock,Exit.then]
  refine bodyPost_ret (results_none rfl _ _ _) rfl ?_;exact⟨rfl,rfl⟩
theorem Et(A:Option Addr)(n c:Nat)(f:Value)(g:n<=1)(w:World):Calls prog 137 #[.slice A n c,f] w λe w'=>e=.returned (.tuple #[])/\w=w':=by
 obtain rfl|rfl:n=0 \/ n=1:=qo
 ·have b:=Hd (Tryz.bits_Len 0 w qo qo)
  have a:=Hd (λm=>FH A 0 c m f qo w);simp only[Int.ofNat_zero,Int.natCast_zero]at a
  go_enter func137,ntmps137
  go_wp2_with (first
   | (go_at_call 172;(with_reducible refine b.out.mono ?_);rintro e d ⟨rfl,rfl⟩)
   | (go_at_call 179;(with_reducible refine(a.out _).mono ?_);rintro e d ⟨rfl,rfl⟩))
  go_end0
  exact⟨rfl,rfl⟩
 ·have b:=Hd (Tryz.bits_Len 1 w qo qo)
  have a:=Hd (λm=>FH A 1 c m f qo w);simp only[Int.ofNat_one,Int.natCast_one]at a
  go_enter func137,ntmps137
  go_wp2_with (first
   | (go_at_call 172;(with_reducible refine b.out.mono ?_);rintro e d ⟨rfl,rfl⟩)
   | (go_at_call 179;(with_reducible refine(a.out _).mono ?_);rintro e d ⟨rfl,rfl⟩))
  go_end0
  exact⟨rfl,rfl⟩
theorem FI(A:Option Addr)(n c:Nat)(f:Value)(a:n<=1)(w:World):Calls prog 200 #[.slice A n c,.int .i64 0,.int .i64 n,f] w λe w'=>e=.returned (.tuple #[])/\w=w':=by
 obtain rfl|rfl:n=0 \/ n=1:=qo
 all_goals
  simp only[Int.ofNat_zero,Int.ofNat_one,Int.natCast_zero,Int.natCast_one]
  go_enter func200,ntmps200
  go_wp2_with fail
  refine wp_loop_rounds 1 ?_;rw[rounds_succ]
  go_wp2_with fail
  go_end0
  exact⟨rfl,rfl⟩
theorem FJ(A:Option Addr)(n c:Nat)(m:Int)(f:Value)(d:n<=1)(w:World):Calls prog 173 #[.slice A n c,.int .i64 0,.int .i64 n,.int .i64 m,f] w λe w'=>e=.returned (.tuple #[])/\w=w':=by
 obtain rfl|rfl:n=0 \/ n=1:=qo
 all_goals
  simp only[Int.ofNat_zero,Int.ofNat_one,Int.natCast_zero,Int.natCast_one]
 ·have a:=Hd (FI A 0 c f qo w)
  simp only[Int.ofNat_zero,Int.natCast_zero]at a
  go_enter func173,ntmps173
  go_wp2_with fail
  refine wp_loop_rounds 1 ?_;rw[rounds_succ]
  go_wp2_with ((go_at_call 200;(with_reducible refine a.out.mono ?_);rintro e b ⟨rfl,rfl⟩))
  try simp only[Exit.inBlock,Exit.then]
  refine bodyPost_ret (results_none rfl _ _ _) rfl ?_;exact⟨rfl,rfl⟩
 ·have a:=Hd (FI A 1 c f qo w)
  simp only[Int.ofNat_one,Int.natCast_one]at a
  go_enter func173,ntmps173
  go_wp2_with fail
  refine wp_loop_rounds 1 ?_;rw[rounds_succ]
  go_wp2_with ((go_at_call 200;(with_reducible refine a.out.mono ?_);rintro e b ⟨rfl,rfl⟩))
  try simp only[Exit.inBlock,Exit.then]
  refine bodyPost_ret (results_none rfl _ _ _) rfl ?_;exact⟨rfl,rfl⟩
theorem FK(A:Option Addr)(n c:Nat)(f:Value)(g:n<=1)(w:World):Calls prog 128 #[.slice A n c,f] w λe w'=>e=.returned (.tuple #[])/\w=w':=by
 obtain rfl|rfl:n=0 \/ n=1:=qo
 ·have b:=Hd (Tryz.bits_Len 0 w qo qo)
  have a:=Hd (λm=>FJ A 0 c m f qo w);simp only[Int.ofNat_zero,Int.natCast_zero]at a
  go_enter func128,ntmps128
  go_wp2_with (first
   | (go_at_call 172;(with_reducible refine b.out.mono ?_);rintro e d ⟨rfl,rfl⟩)
   | (go_at_call 173;(with_reducible refine(a.out _).mono ?_);rintro e d ⟨rfl,rfl⟩))
  go_end0
  exact⟨rfl,rfl⟩
 ·have b:=Hd (Tryz.bits_Len 1 w qo qo)
  have a:=Hd (λm=>FJ A 1 c m f qo w);simp only[Int.ofNat_one,Int.natCast_one]at a
  go_enter func128,ntmps128
  go_wp2_with (first
   | (go_at_call 172;(with_reducible refine b.out.mono ?_);rintro e d ⟨rfl,rfl⟩)
   | (go_at_call 173;(with_reducible refine(a.out _).mono ?_);rintro e d ⟨rfl,rfl⟩))
  go_end0
  exact⟨rfl,rfl⟩
theorem FL(A:Option Addr)(n c:Nat)(f:Value)(a:n<=1)(w:World):Calls prog 208 #[.slice A n c,.int .i64 0,.int .i64 n,f] w λe w'=>e=.returned (.tuple #[])/\w=w':=by
 obtain rfl|rfl:n=0 \/ n=1:=qo
 all_goals
  simp only[Int.ofNat_zero,Int.ofNat_one,Int.natCast_zero,Int.natCast_one]
  go_enter func208,ntmps208
  go_wp2_with fail
  refine wp_loop_rounds 1 ?_;rw[rounds_succ]
  go_wp2_with fail
  go_end0
  exact⟨rfl,rfl⟩
theorem FM(A:Option Addr)(n c:Nat)(m:Int)(f:Value)(d:n<=1)(w:World):Calls prog 174 #[.slice A n c,.int .i64 0,.int .i64 n,.int .i64 m,f] w λe w'=>e=.returned (.tuple #[])/\w=w':=by
 obtain rfl|rfl:n=0 \/ n=1:=qo
 all_goals
  simp only[Int.ofNat_zero,Int.ofNat_one,Int.natCast_zero,Int.natCast_one]
 ·have a:=Hd (FL A 0 c f qo w)
  simp only[Int.ofNat_zero,Int.natCast_zero]at a
  go_enter func174,ntmps174
  go_wp2_with fail
  refine wp_loop_rounds 1 ?_;rw[rounds_succ]
  go_wp2_with ((go_at_call 208;(with_reducible refine a.out.mono ?_);rintro e b ⟨rfl,rfl⟩))
  try simp only[Exit.inBlock,Exit.then]
  refine bodyPost_ret (results_none rfl _ _ _) rfl ?_;exact⟨rfl,rfl⟩
 ·have a:=Hd (FL A 1 c f qo w)
  simp only[Int.ofNat_one,Int.natCast_one]at a
  go_enter func174,ntmps174
  go_wp2_with fail
  refine wp_loop_rounds 1 ?_;rw[rounds_succ]
  go_wp2_with ((go_at_call 208;(with_reducible refine a.out.mono ?_);rintro e b ⟨rfl,rfl⟩))
  try simp only[Exit.inBlock,Exit.then]
  refine bodyPost_ret (results_none rfl _ _ _) rfl ?_;exact⟨rfl,rfl⟩
theorem FN(A:Option Addr)(n c:Nat)(f:Value)(g:n<=1)(w:World):Calls prog 130 #[.slice A n c,f] w λe w'=>e=.returned (.tuple #[])/\w=w':=by
 obtain rfl|rfl:n=0 \/ n=1:=qo
 ·have b:=Hd (Tryz.bits_Len 0 w qo qo)
  have a:=Hd (λm=>FM A 0 c m f qo w);simp only[Int.ofNat_zero,Int.natCast_zero]at a
  go_enter func130,ntmps130
  go_wp2_with (first
   | (go_at_call 172;(with_reducible refine b.out.mono ?_);rintro e d ⟨rfl,rfl⟩)
   | (go_at_call 174;(with_reducible refine(a.out _).mono ?_);rintro e d ⟨rfl,rfl⟩))
  go_end0
  exact⟨rfl,rfl⟩
 ·have b:=Hd (Tryz.bits_Len 1 w qo qo)
  have a:=Hd (λm=>FM A 1 c m f qo w);simp only[Int.ofNat_one,Int.natCast_one]at a
  go_enter func130,ntmps130
  go_wp2_with (first
   | (go_at_call 172;(with_reducible refine b.out.mono ?_);rintro e d ⟨rfl,rfl⟩)
   | (go_at_call 174;(with_reducible refine(a.out _).mono ?_);rintro e d ⟨rfl,rfl⟩))
  go_end0
  exact⟨rfl,rfl⟩
def uk(xs:List ON):Prop:=∀i x y,xs[i]?=some x->xs[i+1]?=some y->0<fW y x
theorem DE{a b:ON}(h:0<fW a b):a≠b:=λe=>by
 rw[e,mE]at h;omega
theorem vJ{a b:ON}(h:eX a=0)(i:eX b=0)(l:a≠b)(w:World):(binOp .eql 31 (fg a) (fg b)).run prog w=.ok (.bool false) w:=by
 obtain⟨o,d⟩:=fU h;obtain⟨lb,e⟩:=fU i;obtain⟨r,f,k⟩:=run_equal_deep (P:=prog) w (m:=4) qo qk qk d e
 have n:r=false:=by
  cases r with
  | false=>rfl
  | true =>
   have j:=k.1 rfl;subst j;exact absurd (ir _ _ (keyOf_inj_deep (P:=prog) (m:=4) qk qk d e)) l
 subst n;have g:∀xs c:Array Value,(binOp .eql 31 (.agg xs) (.agg c)).run prog w=((Op.equal 31 (.agg xs) (.agg c)).run prog w).andThen λb w'=>.ok (.bool b) w':=λxs c=>by simp[binOp]
 unfold fg at f ⊢;rw[g,f];rfl
theorem EX(b c:Nat)(xs:List ON)(w:World)(z:Cs w b (xs.flatMap ON.cs))(B:∀x∈xs,eX x=0)(C:uk xs)(J:xs.length<=12):Calls prog 220 #[.slice (some ⟨b,0,none⟩) xs.length c,.int .i64 0,.int .i64 xs.length,.func (.func 103) #[] #[]] w λe w'=>e=.returned (.tuple #[])/\Fr [] w w':=by
 obtain⟨n,v⟩:=eR (xs.length);have f:=Hd (An v (An B (An C z)));rw[v]at J ⊢;clear v B C z
 go_enter func220,ntmps220
 go_wp2_with fail
 go_loopw [8] (λi W=>∃m:Nat,1<=m/\m<=max n 1/\i=m/\Fr [] w W) (λi _=>n+1 - (intOf i).toNat)
 case atStart=>exact⟨1,qo,qo,rfl,Fq _ _⟩
 case round =>
  obtain⟨m,S,T,rfl,k⟩:=hrel
  by_cases I:m<n
  ·obtain⟨j,H⟩:∃j,j+1=m:=⟨m - 1,qo⟩
   have Q:(m:Int)<(n:Int):=qo
   have R:(j:Int)<(n:Int):=qo
   have P:decide (0<m)=true:=by simp;omega
   have U:(m:Int) - 1=(j:Int):=qo
   have X:IntKind.i64.wrap (m:Int)=(m:Int):=by simp only[IntKind.wrap_i64];omega
   have V:IntKind.i64.wrap (j:Int)=(j:Int):=by simp only[IntKind.wrap_i64];omega
   obtain⟨x,l⟩:∃x,xs[j]?=some x:=⟨_,gx (by rw[f.out.1];omega)⟩;obtain⟨y,p⟩:∃x,xs[m]?=some x:=⟨_,gx (by rw[f.out.1];exact I)⟩;have A:=f.out.2.2.1 j x y l (by rw[H];exact p);obtain⟨K,r,_,_⟩:=eT (x).owner;obtain⟨M,t,_,_⟩:=eT (x).text;have a:=λo (q:o<5)=>jz me l q;unfold ON.cs at a;rw[r,t]at a;obtain⟨L,s,_,_⟩:=eT (y).owner;obtain⟨ty,u,_,_⟩:=eT (y).text;have d:=λo (q:o<5)=>jz me p q;unfold ON.cs at d;rw[s,u]at d;have g:∀W,Calls prog 103 #[fg y,fg x] W (ja W (fW y x)):=λW=>nh y x W (f.out.2.1 y (iu p)) (f.out.2.1 x (iu l));rw[gc s u,gc r t]at g;generalize fW y x=G at A g;have N:decide (G<0)=false:=by simp;omega
   have HSS:=Hd (λ(W:World) (hW:Fr [] wr W)=>(show W.cell? ⟨b,j*5,none⟩=some x.kind/\W.cell? ⟨b,j*5+1,none⟩=some K/\W.cell? ⟨b,j*5+2,none⟩=some x.number/\W.cell? ⟨b,j*5+3,none⟩=some x.index/\W.cell? ⟨b,j*5+4,none⟩=some M/\W.cell? ⟨b,m*5,none⟩=some y.kind/\W.cell? ⟨b,m*5+1,none⟩=some L/\W.cell? ⟨b,m*5+2,none⟩=some y.number/\W.cell? ⟨b,m*5+3,none⟩=some y.index/\W.cell? ⟨b,m*5+4,none⟩=some ty from by
    have h:=f.out.2.2.2.fr0 (k.then hW);exact⟨h.2 _ _ (a 0 qo),h.2 _ _ (a 1 qo),h.2 _ _ (a 2 qo),h.2 _ _ (a 3 qo),h.2 _ _ (a 4 qo),h.2 _ _ (d 0 qo),h.2 _ _ (d 1 qo),h.2 _ _ (d 2 qo),h.2 _ _ (d 3 qo),h.2 _ _ (d 4 qo)⟩))
   have D:=Hd g;have E:=Hd k;clear g k A l p a d r t s u
   go_upto_region 4 with fail
   refine wp_loop_rounds 1 ?_;rw[rounds_succ]
   go_upto_region 4 with fail
   refine eY (λW=>Fr [] wr W) qk qk ((Fq _ wr).drew) ?_
   repeat(
    first
    | go_big_quiet_skip
    | (go_big_quiet_want;first|(go_big_quiet_op;go_big_quiet_on)|(apply Exists.intro;refine⟨λW hW=>?_,?_⟩;(· obtain⟨Y,Z,x2,x3,x4,y0,y1,y2,y3,y4⟩:=HSS.out W hW;go_simp;first|done|with_reducible exact rfl|with_reducible exact⟨rfl,rfl⟩|((go_at_call 103;(with_reducible refine(D.out W).mono ?_);rintro e w' ⟨rfl,h⟩;exact⟨rfl,hW.then h⟩)));simp only[qq];go_big_quiet_on))
    )
   refine wpQuiet_nil ?_;intro W hW;have F:=Hd (E.out.then hW);clear hW
   go_wp2_with fail
   go_roundw
   case rel=>exact⟨m+1,qo,qo,by go_num,F.out⟩
   case measure=>simp[intOf];omega
  ·have O:¬(m:Int)<(n:Int):=qo
   go_wp2_with fail
   go_end0
   exact⟨rfl,k⟩
theorem EY(b c:Nat)(m:Int)(xs:List ON)(w:World)(d:Cs w b (xs.flatMap ON.cs))(h:∀x∈xs,eX x=0)(i:uk xs)(g:xs.length<=12):Calls prog 179 #[.slice (some ⟨b,0,none⟩) xs.length c,.int .i64 0,.int .i64 xs.length,.int .i64 m,.func (.func 103) #[] #[]] w λe w'=>e=.returned (.tuple #[])/\Fr [] w w':=by
 have a:=EX b c xs w d h i g;obtain⟨n,j⟩:=eR (xs.length);rw[j]at g a ⊢;have l:=Hd a;have o:decide (n<=12)=true:=by simp;omega
 have p:(n:Int)<=12:=qo
 have q:(n:Int) - 0=(n:Int):=qo
 clear j h i d a
 go_enter func179,ntmps179
 go_wp2_with fail
 refine wp_loop_rounds 1 ?_;rw[rounds_succ]
 go_wp2_with ((go_at_call 220;(with_reducible refine l.out.mono ?_);rintro e r ⟨rfl,f⟩;have k:=Hd f;clear f))
 try simp only[Exit.inBlock,Exit.then]
 refine bodyPost_ret (results_none rfl _ _ _) rfl ?_;exact⟨rfl,k.out⟩
theorem DF(b c:Nat)(xs:List ON)(w:World)(d:Cs w b (xs.flatMap ON.cs))(h:∀x∈xs,eX x=0)(i:uk xs)(g:xs.length<=12):Calls prog 137 #[.slice (some ⟨b,0,none⟩) xs.length c,.func (.func 103) #[] #[]] w λe w'=>e=.returned (.tuple #[])/\Fr [] w w':=by
 have a:=λo=>EY b c o xs w d h i g;obtain⟨n,j⟩:=eR (xs.length);rw[j]at g a ⊢;have m:=Hd a;have k:=Hd (Tryz.bits_Len (n:Int) w qo qo);clear j h i d a
 go_enter func137,ntmps137
 go_wp2_with (first
  | (go_at_call 172;(with_reducible refine k.out.mono ?_);rintro e p ⟨rfl,rfl⟩)
  | (go_at_call 179;(with_reducible refine(m.out _).mono ?_);rintro e p ⟨rfl,f⟩;have l:=Hd f;clear f))
 go_end0
 exact⟨rfl,l.out⟩
theorem yu(b c:Nat)(xs:List ON)(w:World)(B:Cs w b (xs.flatMap ON.cs))(D:∀x∈xs,eX x=0)(E:uk xs)(L:xs.length<=100000):Calls prog 138 #[.slice (some ⟨b,0,none⟩) xs.length c] w λe w'=>e=.returned (.slice (some ⟨b,0,none⟩) xs.length c)/\Fr [] w w':=by
 obtain⟨n,u⟩:=eR (xs.length);have f:=Hd (An u (An E B));have v:=Hd D;rw[u]at L ⊢;clear u E B D
 rcases Nat.lt_or_ge n 2 with H|H
 ·have z:decide (n<2)=true:=by simp;omega
  have A:(n:Int)<2:=qo
  go_enter func138,ntmps138
  go_wp2_with fail
  go_ret
  exact⟨rfl,Fq _ _⟩
 have z:decide (n<2)=false:=by simp;omega
 have A:¬(n:Int)<2:=qo
 go_enter func138,ntmps138
 go_wp2_with fail
 clear z A
 go_loopw [3] (λi W=>∃m:Nat,1<=m/\m<=n/\i=m/\Fr [] w W) (λi _=>n+1 - (intOf i).toNat)
 case atStart=>exact⟨1,qo,qo,rfl,Fq _ _⟩
 case round =>
  obtain⟨m,S,T,rfl,g⟩:=hrel
  by_cases K:m<n
  ·obtain⟨j,J⟩:∃j,j+1=m:=⟨m - 1,qo⟩
   have Q:(m:Int)<(n:Int):=qo
   have R:(j:Int)<(n:Int):=qo
   have U:(m:Int) - 1=(j:Int):=qo
   have X:IntKind.i64.wrap (m:Int)=(m:Int):=by simp only[IntKind.wrap_i64];omega
   have V:IntKind.i64.wrap (j:Int)=(j:Int):=by simp only[IntKind.wrap_i64];omega
   obtain⟨x,k⟩:∃x,xs[j]?=some x:=⟨_,gx (by rw[f.out.1];omega)⟩;obtain⟨y,l⟩:∃x,xs[m]?=some x:=⟨_,gx (by rw[f.out.1];exact K)⟩;have C:=Ne.symm (DE (f.out.2.1 j x y k (by rw[J];exact l)));obtain⟨M,q,_,_⟩:=eT (x).owner;obtain⟨O,s,_,_⟩:=eT (x).text;have a:=λo (p:o<5)=>jz me k p;unfold ON.cs at a;rw[q,s]at a;obtain⟨N,r,_,_⟩:=eT (y).owner;obtain⟨ty,t,_,_⟩:=eT (y).text;have d:=λo (p:o<5)=>jz me l p;unfold ON.cs at d;rw[r,t]at d
   have HSS:=Hd (λ(W:World) (hW:Fr [] wr W)=>(show W.cell? ⟨b,j*5,none⟩=some x.kind/\W.cell? ⟨b,j*5+1,none⟩=some M/\W.cell? ⟨b,j*5+2,none⟩=some x.number/\W.cell? ⟨b,j*5+3,none⟩=some x.index/\W.cell? ⟨b,j*5+4,none⟩=some O/\W.cell? ⟨b,m*5,none⟩=some y.kind/\W.cell? ⟨b,m*5+1,none⟩=some N/\W.cell? ⟨b,m*5+2,none⟩=some y.number/\W.cell? ⟨b,m*5+3,none⟩=some y.index/\W.cell? ⟨b,m*5+4,none⟩=some ty from by
    have h:=f.out.2.2.fr0 (g.then hW);exact⟨h.2 _ _ (a 0 qo),h.2 _ _ (a 1 qo),h.2 _ _ (a 2 qo),h.2 _ _ (a 3 qo),h.2 _ _ (a 4 qo),h.2 _ _ (d 0 qo),h.2 _ _ (d 1 qo),h.2 _ _ (d 2 qo),h.2 _ _ (d 3 qo),h.2 _ _ (d 4 qo)⟩))
   have I:=λW=>vJ (v.out y (iu l)) (v.out x (iu k)) (Ne.symm C) W;rw[gc r t,gc q s]at I;have F:=Hd g;clear g k l a d q s r t C
   go_upto_region 6 with fail
   refine eY (λW=>Fr [] wr W) qk qk ((Fq _ wr).drew) ?_
   repeat(
    first
    | go_big_quiet_skip
    | (go_big_quiet_want;first|(go_big_quiet_op;go_big_quiet_on)|(apply Exists.intro;refine⟨λW hW=>?_,?_⟩;(· obtain⟨Y,Z,x2,x3,x4,y0,y1,y2,y3,y4⟩:=HSS.out W hW;go_simp;first|done|with_reducible exact rfl|with_reducible exact⟨rfl,rfl⟩ );simp only[qq];go_big_quiet_on))
    )
   refine wpQuiet_nil ?_;intro W hW;have G:=Hd (F.out.then hW);clear hW
   go_wp2_with fail
   go_roundw
   case rel=>exact⟨m+1,qo,qo,by go_num,G.out⟩
   case measure=>simp[intOf];omega
  ·have P:¬(m:Int)<(n:Int):=qo
   go_wp2_with fail
   go_ret
   exact⟨rfl,g⟩
end Go.Proofs.YtlpmiimgacfmkaaGreatDoor
