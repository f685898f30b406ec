/- Part of the proof. -/
import Derived.Test.YtlpmiimgacfmkaaGreatDoorCCa2
set_option linter.all false
set_option maxHeartbeats 8000000
set_option maxRecDepth 100000
namespace Go.Proofs.YtlpmiimgacfmkaaGreatDoor
open Go.Proofs.Tryz List
open Go.RowKit
def oW(l:List AG):xY (ux l):=λi x b=>by
 unfold ux at b
 cases h:l[i]? with
 | none=>rw[h]at b;simp at b
 | some a =>
  rw[h]at b;obtain⟨c,_,rfl⟩:=mem_map.1 b;simp only
  rcases qx (Ar (l.take i) c.n)with d|⟨v,e,d⟩
  ·rw[d];omega
  ·rw[d]
   have:=zp c.n v e;rw[length_take]at this;omega
def Gp{l:List AG}(h:∀a∈l,a.r.length<=10)(i:Nat):(ux l i).length<=10:=by
 unfold ux
 cases b:l[i]? with
 | none=>simp
 | some a=>rw[length_map];exact h a (gH b)
structure PF where
 i:Nat
 s:Nm
 A:Option Addr
 c:Nat
 d:List Nm
def PF.cs(n:Nat)(p:PF):List Value:=[.int .i64 (p.i:Int),.int .i64 (n:Int),fg p.s,.slice p.A p.d.length p.c]
def zt(n:Nat)(p:PF):(p.cs n).length=4:=rfl
def oX(xs:List AX)(n i:Nat):Nat × Nm × List Nm:=(i,(match xs[i]? with|some y=>gv y.a|none=>[]),jH xs i n)
structure PrL(w:World)(n:Nat)(A:Option Addr)(c:Nat)(ps:List PF):Prop where
 own:Own w 53 4 A ps.length c (ps.flatMap (PF.cs n))
 ds:∀p∈ps,Own w 57 32 p.A p.d.length p.c (p.d.flatMap eO)
def jX(xs:List AX)(nm:ON)(P:Nat)(b:Int):Int ⊕ List Nat :=
 if b<0 \/ (xs.length:Int)<b then .inl 2
 else if(pN ((xs.map AX.a).take b.toNat) nm P).fd=false \/ (pN ((xs.map AX.a).take b.toNat) nm P).og=-1 then .inl 8
 else .inr (kK (ux ((xs.map AX.a).take b.toNat)) b.toNat (pN ((xs.map AX.a).take b.toNat) nm P).og.toNat)
def EU:Value:=.agg #[.int .i64 0,.string ⟨#[]⟩,.int .i64 0,.int .i64 0,.string ⟨#[]⟩,.int .i64 0,.int .i64 0,.slice none 0 0]
def tw(k:Int)(c:ByteArray)(b a:Int)(d:ByteArray)(P n:Int)(v:Value):Value:=.agg #[.int .i64 k,.string c,.int .i64 b,.int .i64 a,.string d,.int .i64 P,.int .i64 n,v]
def jY(w:World)(xs:List AX)(nm:ON)(f g:ByteArray)(P:Nat)(a:Int)(e:Ending)(w':World):Prop :=
 match jX xs nm P a with
 | .inl q=>e=.returned (.tuple #[EU,.int .i64 q])/\Fr [] w w'
 | .inr L=>∃A c b,e=.returned (.tuple #[tw nm.kind f nm.number nm.index g (P:Int) a (.slice A L.length c),.int .i64 0])/\PrL w' a.toNat A c b/\(b.map λp=>(p.i,p.s,p.d))=L.map (oX xs a.toNat)/\Fr [] w w'
def GN(P:Nat):∀(R:List VZ) (s:OS),s.fd=true->(OS.walk P R s).fd=true/\((OS.walk P R s).og=s.og \/ ∃z∈R,(OS.walk P R s).og=z.i)
 | [],s,h=>⟨h,.inl rfl⟩
 | z::r,s,h=>by
  rw[OS.walk];split
  ·exact⟨h,.inl rfl⟩
  ·have⟨b,a⟩:=GN P r (OS.next P z) rfl
   refine⟨b,.inr ?_⟩
   rcases a with a|⟨y,c,a⟩
   ·exact⟨z,qs,a⟩
   ·exact⟨y,by simp[c],a⟩
def xR{l:List AG}{n:ON}{z:VZ}(h:z∈Cq l n):z.i=-1 \/ ∃v:Nat,v<l.length/\z.i=(v:Int):=by
 rcases mem_cons.1 h with rfl|h
 ·exact .inl rfl
 ·obtain⟨x,a,rfl⟩:=mem_map.1 h
  have:=rj n l 0 x a;exact .inr ⟨x.i,qo,rfl⟩
def sS(l:List AG)(n:ON)(P:Nat)(h:(pN l n P).fd=true):(pN l n P).og=-1 \/ ∃v:Nat,v<l.length/\(pN l n P).og=(v:Int):=by
 unfold pN at h ⊢
 cases b:(Cq l n).reverse with
 | nil=>rw[b]at h;simp[OS.walk,Jb]at h
 | cons z r =>
  rw[b]at h;have d:∀y∈z::r,y∈Cq l n:=λy c=>by rw[<-mem_reverse,b];exact c
  rw[OS.walk]at h ⊢;split at h
  ·simp[Jb]at h
  ·rename_i e
   rw[if_neg e]
   rcases (GN P r (OS.next P z) rfl).2 with a|⟨y,c,a⟩
   ·rw[a];exact xR (d z qs)
   ·rw[a];exact xR (d y (by simp[c]))
def EL(b:Nat)(xs:List AX)(am:List Nat)(nm:ON)(E G:ByteArray)(P:Nat)(kk:Int)(w:World)(M:HG w b xs am)(bD:Ok w)(bA:eY nm=0)(he:fu nm=.agg #[.int .i64 nm.kind,.string E,.int .i64 nm.number,.int .i64 nm.index,.string G])(hP:P<=1000000):
 Calls prog 13 #[.pointer (some ⟨b,0,none⟩),.agg #[.int .i64 nm.kind,.string E,.int .i64 nm.number,.int .i64 nm.index,.string G,.int .i64 (P:Int)],.int .i64 kk] w (jY w xs nm E G P kk):=by
 have⟨k,hk⟩:=eR (nm.kind);have⟨nu,aX⟩:=eR (nm.number);have⟨ix,aU⟩:=eR (nm.index);have ae:=Hd (An he (An hk (An aX aU)));rw[hk,aX,aU];have ce:=M.len12;have⟨m,hm⟩:=eR (xs.length);rw[hm]at ce;have⟨w1,bP,bV,n1,f1⟩:=ir w #[.int .i64 k,.string E,.int .i64 nu,.int .i64 ix,.string G,.int .i64 (P:Int)] 33 w.heap.size;have⟨w2,bQ,a7,n2,f2⟩:=ir w1 #[.int .i64 0,.string ⟨#[]⟩,.int .i64 0,.int .i64 0,.string ⟨#[]⟩,.int .i64 0,.int .i64 0,.slice none 0 0] 39 (w.heap.size+1);have ac:=Hd (f1.then f2);have⟨o,ag⟩:=eR (w.heap.size+1);have⟨PB,b8⟩:=eR (w.heap.size);have a7:w.heap.size+1<w2.heap.size:=n2.lt;have HZ:=Hd (An ag a7);rw[ag]at n2;have HN:=Hd (An (n1.fr f2 qs) n2);have HW:=Hd (An bP (An bQ (An bV ag)));have HH:=Hd (M.fr0 ac.out);have bc:=Hd (bD.fr0 ac.out);have HC:=Hd (An bA hP);have HM:=Hd hm;have ao:=GA b xs am w2 HH.out;rw[hm]at ao;have HL:=Hd ao;have HA:=Hd (Bl b xs am w2 HH.out);clear bP bQ n1 n2 f1 f2 bV a7 M bD he hk aX aU bA hP ao hm b8
 go_enter func13,ntmps13
 go_upto_region 1 with fail
 rw[HW.1,HW.2.1]
 try rw[HW.2.2.1]
 try rw[ag]
 obtain bB|cx:kk<0 \/ 0<=kk:=qo
 ·have aR:decide (kk<0)=true:=by simpa using bB
  have aa:=Hd (show jX xs nm P kk=.inl 2 by unfold jX;rw[if_pos (.inl bB)]);clear ag
  go_upto_region 4 with((go_at_call 19;(with_reducible refine HL.out.mono ?_);rintro e w3 ⟨rfl,rfl⟩))
  have h:=HN.2.fr (Fq [] w2) qs;have u0:=h.k0;have v0:=h.f 0;have u1:=h.k1;have v1:=h.f 1;have u2:=h.k2;have v2:=h.f 2;have u3:=h.k3;have v3:=h.f 3;have u4:=h.k4;have v4:=h.f 4;have u5:=h.k5;have v5:=h.f 5;have u6:=h.k6;have v6:=h.f 6;have u7:=h.k7;have v7:=h.f 7;have af:=Hd (An h (Fq [] w2));clear h
  go_wp2
  have⟨x,t⟩:=eR (((((((((w2.setCell ⟨o,0,none⟩ (.int .i64 0)).setCell ⟨o,1,none⟩ (.string ⟨#[]⟩)).setCell ⟨o,2,none⟩ (.int .i64 0)).setCell ⟨o,3,none⟩ (.int .i64 0)).setCell ⟨o,4,none⟩ (.string ⟨#[]⟩)).setCell ⟨o,5,none⟩ (.int .i64 0)).setCell ⟨o,6,none⟩ (.int .i64 0)).setCell ⟨o,7,none⟩ (.slice none 0 0)));have N:BoxN x o 39 #[.int .i64 0,.string ⟨#[]⟩,.int .i64 0,.int .i64 0,.string ⟨#[]⟩,.int .i64 0,.int .i64 0,.slice none 0 0]:=by rw[<-t];exact(((((((af.1.setAt 0 _).setAt 1 _).setAt 2 _).setAt 3 _).setAt 4 _).setAt 5 _).setAt 6 _).setAt 7 _
  have C:Fr [o] w2 x:=by rw[<-t];exact(((((((((Fq [o] w2).st _).st _).st _).st _).st _).st _).st _).st _)
  try rw[t]
  have⟨T,t1,t2,t3,U,V,X,Y⟩:=N.m8;refine bodyPost_ret (v:=.tuple #[EU,.int .i64 2]) (by simp[results,results13,EU,go_sem,T,t1,t2,t3,U,V,X,Y]) rfl ?_;have Q:=aa.out;unfold jY;rw[Q];exact⟨rfl,(ac.then (Fq [] w2)).trans C (by simp;have:=HZ.out;omega)⟩
 obtain⟨n,rfl⟩:∃n:Nat,kk=(n:Int):=⟨kk.toNat,qo⟩
 rcases Nat.lt_or_ge m n with cb|cr
 ·have aR:decide (m<n)=true:=by simpa using cb
  have aa:=Hd (show jX xs nm P (n:Int)=.inl 2 by unfold jX;rw[if_pos (.inr (by rw[HM.out];omega))]);clear ag
  go_upto_region 4 with((go_at_call 19;(with_reducible refine HL.out.mono ?_);rintro e w3 ⟨rfl,rfl⟩))
  have h:=HN.2.fr (Fq [] w2) qs;have u0:=h.k0;have v0:=h.f 0;have u1:=h.k1;have v1:=h.f 1;have u2:=h.k2;have v2:=h.f 2;have u3:=h.k3;have v3:=h.f 3;have u4:=h.k4;have v4:=h.f 4;have u5:=h.k5;have v5:=h.f 5;have u6:=h.k6;have v6:=h.f 6;have u7:=h.k7;have v7:=h.f 7;have af:=Hd (An h (Fq [] w2));clear h
  go_wp2
  have⟨x,t⟩:=eR (((((((((w2.setCell ⟨o,0,none⟩ (.int .i64 0)).setCell ⟨o,1,none⟩ (.string ⟨#[]⟩)).setCell ⟨o,2,none⟩ (.int .i64 0)).setCell ⟨o,3,none⟩ (.int .i64 0)).setCell ⟨o,4,none⟩ (.string ⟨#[]⟩)).setCell ⟨o,5,none⟩ (.int .i64 0)).setCell ⟨o,6,none⟩ (.int .i64 0)).setCell ⟨o,7,none⟩ (.slice none 0 0)));have N:BoxN x o 39 #[.int .i64 0,.string ⟨#[]⟩,.int .i64 0,.int .i64 0,.string ⟨#[]⟩,.int .i64 0,.int .i64 0,.slice none 0 0]:=by rw[<-t];exact(((((((af.1.setAt 0 _).setAt 1 _).setAt 2 _).setAt 3 _).setAt 4 _).setAt 5 _).setAt 6 _).setAt 7 _
  have C:Fr [o] w2 x:=by rw[<-t];exact(((((((((Fq [o] w2).st _).st _).st _).st _).st _).st _).st _).st _)
  try rw[t]
  have⟨T,t1,t2,t3,U,V,X,Y⟩:=N.m8;refine bodyPost_ret (v:=.tuple #[EU,.int .i64 2]) (by simp[results,results13,EU,go_sem,T,t1,t2,t3,U,V,X,Y]) rfl ?_;have Q:=aa.out;unfold jY;rw[Q];exact⟨rfl,(ac.then (Fq [] w2)).trans C (by simp;have:=HZ.out;omega)⟩
 have⟨l,hl⟩:=eR ((xs.map AX.a).take n);have aR:decide (m<n)=false:=by simp;omega
 have ct:(n:Int)<=(m:Int):=qo
 have av:=HA.out;unfold si at av;rw[HM.out]at av;have b3:=Hd av;clear av ag
 go_upto_region 6 with(first
  | (go_at_call 19;(with_reducible refine HL.out.mono ?_);rintro e w' ⟨rfl,rfl⟩)
  | (go_at_call 41;(with_reducible refine b3.out.mono ?_);rintro e w3 ⟨be,ys,rfl,bS,hL,bp,bh⟩;have HY:=Hd (An bS (An hL bh));have aG:=Hd bp;clear bS hL bp bh))
 clear aR
 have cl:ys.length=m:=by
  have:=congrArg List.length HY.1;simpa [HM.out]using this
 have bK:Run xs:=by
  have⟨pb,pl,cp,co,c,F,ns,cq,cz,M,_⟩:=HH.out;exact M.run
 have a4:Run (ys.take n):=(Run.congr HY.1.symm bK).take n;have⟨aD,aC⟩:=eR (ys.take n);have bU:aD.length=n:=by rw[<-aC,length_take];omega
 have bT:aD.map AX.a=l:=by rw[<-aC,map_take,HY.1,hl]
 have aN:=HY.2.1.take n;rw[aC]at aN a4;have A:=Hd (An bU (An bT (An aN a4)));have HB:=Hd (G4 b xs am w3 (HH.fr0 aG.out));clear cl bK a4 aC bU bT aN
 go_upto_region 9 with(first
  | (go_at_call 43;(with_reducible refine HB.out.mono ?_);rintro e w' ⟨p,rfl,bL,rfl⟩;have a6:=Em p be m _ aD w3 (bc.fr0 aG.out) bL A.2.2.1 A.2.2.2;rw[A.1]at a6;have HV:=Hd a6;clear bL a6)
  | (go_at_call 42;(with_reducible refine HV.out.mono ?_);rintro e w4 ⟨vb,b6,zs,rfl,bW,bN,ak,cj⟩;have al:=Hd (An bW (An bN ak));clear bW bN ak cj))
 have ak:Fr [] w2 w4:=aG.then al.2.2;have ap:=HN.1.fr ak qs;have⟨x0,x1,x2,x3,x4,x5⟩:=ap.m6
 have bX:zs.length=n:=by
  have:=congrArg List.length al.1;rw[length_map,length_map,A.1]at this;exact this
 have aw:=Ep vb zs b6 nm P HC.2 w4 al.2.1 HC.1 E G ae.1;rw[al.1,A.2.1,bX,ae.2.1,ae.2.2.1,ae.2.2.2]at aw;have ao:l.length=n:=by rw[<-A.2.1,length_map,A.1]
 have⟨s,R⟩:=eR (pN l nm P)
 have bm:(s.fd=false \/ s.og=-1) \/ (s.fd=true/\∃v:Nat,v<n/\s.og=(v:Int)):=by
  cases aT:s.fd with
  | false=>exact .inl (.inl rfl)
  | true =>
   rcases sS l nm P (by rw[R];exact aT)with u|⟨v,hv,u⟩
   ·exact .inl (.inr (by rw[<-R];exact u))
   ·exact .inr ⟨rfl,v,qo,by rw[<-R];exact u⟩
 have bx:jX xs nm P (n:Int)=if s.fd=false \/ s.og=-1 then .inl 8 else .inr (kK (ux l) n s.og.toNat):=by
  unfold jX;rw[if_neg (by rw[HM.out];omega),Int.toNat_natCast,hl,R]
 rw[R]at aw;obtain⟨cn,b7,vl⟩:=s;have ba:=Hd bx;have aH:=Hd ak;have HO:=Hd aw;clear aw ak ap bX R bx hl ao;simp only at bm
 rcases bm with bk|⟨aT,v,bO,ck⟩
 ·have aa:=Hd (show jX xs nm P (n:Int)=.inl 8 by rw[ba.out,if_pos bk])
  cases b7 with
  | false =>
   simp only[Bool.false_eq_true,if_false]at HO
   go_upto_region 11 with(go_at_call 44;(with_reducible refine HO.out.mono ?_);rintro e Z ⟨rfl,O⟩;have K:=Hd (aH.then O);clear O)
   clear x0 x1 x2 x3 x4 x5;have h:=HN.2.fr K.out qs;have u0:=h.k0;have v0:=h.f 0;have u1:=h.k1;have v1:=h.f 1;have u2:=h.k2;have v2:=h.f 2;have u3:=h.k3;have v3:=h.f 3;have u4:=h.k4;have v4:=h.f 4;have u5:=h.k5;have v5:=h.f 5;have u6:=h.k6;have v6:=h.f 6;have u7:=h.k7;have v7:=h.f 7;have af:=Hd (An h K.out);clear h
   go_wp2
   have⟨x,t⟩:=eR (((((((((Z.setCell ⟨o,0,none⟩ (.int .i64 0)).setCell ⟨o,1,none⟩ (.string ⟨#[]⟩)).setCell ⟨o,2,none⟩ (.int .i64 0)).setCell ⟨o,3,none⟩ (.int .i64 0)).setCell ⟨o,4,none⟩ (.string ⟨#[]⟩)).setCell ⟨o,5,none⟩ (.int .i64 0)).setCell ⟨o,6,none⟩ (.int .i64 0)).setCell ⟨o,7,none⟩ (.slice none 0 0)));have N:BoxN x o 39 #[.int .i64 0,.string ⟨#[]⟩,.int .i64 0,.int .i64 0,.string ⟨#[]⟩,.int .i64 0,.int .i64 0,.slice none 0 0]:=by rw[<-t];exact(((((((af.1.setAt 0 _).setAt 1 _).setAt 2 _).setAt 3 _).setAt 4 _).setAt 5 _).setAt 6 _).setAt 7 _
   have C:Fr [o] Z x:=by rw[<-t];exact(((((((((Fq [o] Z).st _).st _).st _).st _).st _).st _).st _).st _)
   try rw[t]
   have⟨T,t1,t2,t3,U,V,X,Y⟩:=N.m8;refine bodyPost_ret (v:=.tuple #[EU,.int .i64 8]) (by simp[results,results13,EU,go_sem,T,t1,t2,t3,U,V,X,Y]) rfl ?_;have Q:=aa.out;unfold jY;rw[Q]
   exact⟨rfl,(ac.then K.out).trans C (by simp;have:=HZ.out;omega)⟩
  | true =>
   have cf:cn=-1:=by rcases bk with M|M;cases M;exact M
   subst cf;simp only[if_true]at HO
   go_upto_region 13 with(go_at_call 44;(with_reducible refine HO.out.mono ?_);rintro e Z ⟨rfl,O⟩;have K:=Hd (aH.then O);clear O)
   clear x0 x1 x2 x3 x4 x5;have h:=HN.2.fr K.out qs;have u0:=h.k0;have v0:=h.f 0;have u1:=h.k1;have v1:=h.f 1;have u2:=h.k2;have v2:=h.f 2;have u3:=h.k3;have v3:=h.f 3;have u4:=h.k4;have v4:=h.f 4;have u5:=h.k5;have v5:=h.f 5;have u6:=h.k6;have v6:=h.f 6;have u7:=h.k7;have v7:=h.f 7;have af:=Hd (An h K.out);clear h
   go_wp2
   have⟨x,t⟩:=eR (((((((((Z.setCell ⟨o,0,none⟩ (.int .i64 0)).setCell ⟨o,1,none⟩ (.string ⟨#[]⟩)).setCell ⟨o,2,none⟩ (.int .i64 0)).setCell ⟨o,3,none⟩ (.int .i64 0)).setCell ⟨o,4,none⟩ (.string ⟨#[]⟩)).setCell ⟨o,5,none⟩ (.int .i64 0)).setCell ⟨o,6,none⟩ (.int .i64 0)).setCell ⟨o,7,none⟩ (.slice none 0 0)));have N:BoxN x o 39 #[.int .i64 0,.string ⟨#[]⟩,.int .i64 0,.int .i64 0,.string ⟨#[]⟩,.int .i64 0,.int .i64 0,.slice none 0 0]:=by rw[<-t];exact(((((((af.1.setAt 0 _).setAt 1 _).setAt 2 _).setAt 3 _).setAt 4 _).setAt 5 _).setAt 6 _).setAt 7 _
   have C:Fr [o] Z x:=by rw[<-t];exact(((((((((Fq [o] Z).st _).st _).st _).st _).st _).st _).st _).st _)
   try rw[t]
   have⟨T,t1,t2,t3,U,V,X,Y⟩:=N.m8;refine bodyPost_ret (v:=.tuple #[EU,.int .i64 8]) (by simp[results,results13,EU,go_sem,T,t1,t2,t3,U,V,X,Y]) rfl ?_;have Q:=aa.out;unfold jY;rw[Q];exact⟨rfl,(ac.then K.out).trans C (by simp;have:=HZ.out;omega)⟩
 subst aT;subst ck;have cw:((v:Int) == -1)=false:=qs
 simp only[if_true]at HO
 go_upto_region 14 with(go_at_call 44;(with_reducible refine HO.out.mono ?_);rintro e Z ⟨rfl,O⟩;have K:=Hd (aH.then O);have b5:=Hd (al.2.2.then O);clear O)
 clear x0 x1 x2 x3 x4 x5 HO HV HB HA HL;have aQ:=EK be m _ aD Z (A.2.2.1.fr0 b5.out) A.2.2.2;rw[A.1,A.2.1]at aQ;have HD:=Hd aQ;clear aQ
 go_upto_region 17 with(go_at_call 45;(with_reducible refine HD.out.mono ?_);rintro e w6 ⟨g,mw,Lk,Us,KO,cm,ks,Rl,Ru,er,rfl,bt,bq⟩;have b4:=Hd (K.then bq);have aJ:=Hd bt;clear bt bq)
 have bI:∀a∈l,a.r.length<=10:=λa ha=>by
  rw[<-A.2.1]at ha;obtain⟨y,hy,rfl⟩:=mem_map.1 ha;exact(A.2.2.2.wf y hy).2.2.1
 have bw:∀(i:Nat) (r:LR),Rl[i]?=some r->r.xs=ux l i:=λi r hr=>by
  have u:=aJ.lk i r hr
  have h2:i<n:=by
   have h3:=(gV.1 hr).1;rw[aJ.s.ln.1]at h3;exact h3
  rw[if_pos h2]at u;exact u
 have az:=Cx w6.heap.size 1 g n v n (ux l) mw Lk Us cm KO ks Rl Ru er qo (Gp bI) (oW l) bw bO (w6.alloc (.cells #[.int .i64 (v:Int)] 3)) (Cs.of_box (BoxN.new w6 3 #[.int .i64 (v:Int)])) (aJ.s.fr0 ((Fq [] w6).alloc _)) rfl;have⟨L,ay⟩:=eR (kK (ux l) n v);have⟨nc,aV⟩:=eR (L.length);have an:=oY (oW l) bO;rw[ay]at az an;rw[aV]at az an
 have bz:jX xs nm P (n:Int)=.inr L:=by
  rw[ba.out,if_neg (by simp only[Bool.true_eq_false,false_or];omega)];simp only[Int.toNat_natCast];rw[ay]
 have aa:=Hd bz;have ar:=Hd (An an (An aV ay));have a9:=Hd az;have cv:nc<=12:=by have:=an.1;omega
 have b9:decide (4096<nc)=false:=by simp;omega
 have ca:decide ((4096:Int)<(nc:Int))=false:=by simp;omega
 clear az an bz ay aV bw bI HD
 go_upto_region 22 with(go_at_call 46;(with_reducible refine a9.out.mono ?_);rintro e w7 ⟨r,rc,rfl,hr,br⟩;have aI:Hid (Fr [] w2 w7):=Hd ((b4.alloc _).then br);have bd:=Hd hr;clear hr br)
 clear b9 ca a9;have ap:=HN.1.fr aI.out qs;have⟨x0,x1,x2,x3,x4,x5⟩:=ap.m6
 go_upto_region 23 with fail
 have⟨w8,bR,n8,f8⟩:=kJ w7 #[.int .i64 k,.string E,.int .i64 nu,.int .i64 ix,.string G,.int .i64 (P:Int),.int .i64 (n:Int),.slice none 0 0] 39;rw[bR];have bg:Fr [] w2 w8:=aI.then f8;have a8:=aI.size;have⟨D,hD⟩:=eR (w7.heap.size);rw[hD]at n8 a8 ⊢;have aF:=Hd (An hD a8);have aE:=Hd (An n8 (An bg (bd.fr0 f8)));clear bR x0 x1 x2 x3 x4 x5 ap hD a8 n8 f8 bg
 go_wp2
 go_loopw [89] (λjx W=>∃(j:Nat) (B:Option Addr) (S:Nat) (ps:List PF),j<=nc/\jx=.int .i64 (j:Int)/\BoxN W D 39 #[.int .i64 k,.string E,.int .i64 nu,.int .i64 ix,.string G,.int .i64 (P:Int),.int .i64 (n:Int),.slice B j S]/\PrL W n B S ps/\ps.length=j/\(ps.map λp=>(p.i,p.s,p.d))=(L.take j).map (oX xs n)/\Fr [] w2 W/\(∀q∈eX B,D<q)/\Cs W r (ke L)) (λj _=>nc - (intOf j).toNat)
 case atStart=>exact⟨0,none,0,[],Nat.zero_le _,rfl,aE.1,⟨Own.nil _ _ _,qs⟩,rfl,rfl,aE.2.1,by simp[eX],aE.2.2⟩
 case round =>
  obtain⟨j,B,S,ps,hj,rfl,hb,aA,bE,ai,ah,aZ,aB⟩:=hrel
  by_cases cd:j<nc
  ·have cu:(j:Int)<(nc:Int):=qo
   have cy:IntKind.i64.wrap (j:Int)=(j:Int):=by simp only[IntKind.wrap_i64];omega
   obtain⟨i,hi⟩:∃y,L[j]?=some y:=⟨_,gg (by rw[ar.2.1];exact cd)⟩;have cc:i<n:=ar.1.2 i (gH hi);obtain⟨y,hy⟩:∃y,xs[i]?=some y:=⟨_,gg (by rw[HM.out];omega)⟩;have hP:=Fh b xs am i n y wr (HH.fr0 ah) (bc.fr0 ah) hy cc (by rw[HM.out];omega);have a3:oX xs n i=(i,gv y.a,jH xs i n):=by unfold oX;rw[hy]
   have⟨sv,a5,_,_⟩:=eS (gv y.a);have⟨d,hd⟩:=eR (jH xs i n);have⟨nd,aW⟩:=eR (d.length);unfold pt at hP;rw[hd,aW,a5]at hP;rw[hd]at a3;have HP:=Hd hP;have zr:wr.cell? ⟨r,j,none⟩=some (.int .i64 (i:Int)):=aB.2 j _ (by rw[mB,List.getElem?_map,hi];rfl);have z:=Hd (An hb (An aA (An bE (An ai (An ah (An aZ aB))))));have HI:=Hd (An hi (An a3 (An a5 aW)));clear hb aA bE ai ah aZ aB hi hy hP a3 a5 hd aW
   go_upto_region 29 with(go_at_call 20;(with_reducible refine HP.out.mono ?_);rintro e v9 ⟨H,I,rfl,bC,bs,bv⟩;have bb:=Hd (An bC (An bs bv));clear bC bs bv)
   clear zr HP;have⟨b2,bM,b1,aL⟩:=kJ v9 #[.int .i64 (i:Int),.int .i64 (n:Int),.string sv,.slice H nd I] 53;rw[bM];have au:=bb.2.1.then aL;have aS:=z.1.fr au qs;have⟨y0,y1,y2,y3⟩:=b1.m4;have y7:=aS.k7;have aY:=z.2.1.own;rw[z.2.2.1]at aY;have aK:=Hd (aY.fr au qs);have bf:D ∉ eX B:=λhm=>by have:=z.2.2.2.2.2.1 D hm;omega
   have ab:=Hd (An aS (An bf au));have HQ:=Hd (bb.1.fr aL qs);clear bM b1 aL au aS aY bf;obtain⟨ii,bu,bY,bZ,b0⟩:=jI
   go_upto_region 30 with(at_builtin;(with_reducible refine fC (w:=b2) rfl (.tmp 105) (.tmp 107) 37 rfl 53 ii _ 4 56 underlying37 bu bY bZ b0 rfl qd B j S _ rfl aK.out 1 1 [.int .i64 (i:Int),.int .i64 (n:Int),.string sv,.slice H nd I] 53 rfl rfl (by simp[Value.oneCell']) (by unfold maxLen;omega) qo ?_);intro AN cN aq ho hf R;have ax:=ab.1.fr hf ab.2.1;have e0:aq.cell? ⟨D,7,none⟩=some (.slice B j S):=ax.c 7;have e1:=ax.f 7;have J:=Hd (An ho (An hf (An R ax)));clear ho hf R ax)
   have⟨aj,hY⟩:=eR (aq.setCell ⟨D,7,none⟩ (.slice AN (j+1) cN));have bj:BoxN aj D 39 #[.int .i64 k,.string E,.int .i64 nu,.int .i64 ix,.string G,.int .i64 (P:Int),.int .i64 (n:Int),.slice AN (j+1) cN]:=by rw[<-hY];exact J.2.2.2.setAt 7 _
   have fY:Fr [D] aq aj:=by rw[<-hY];exact(Fq [D] aq).st _
   try rw[hY]
   clear y0 y1 y2 y3 y7 e0 e1 hY bY bZ b0 bu
   have aM:∀q∈eX AN,D<q:=λq hq=>by
    rcases J.2.2.1 q hq with u|u
    ·exact z.2.2.2.2.2.1 q u
    ·have:=ab.1.lt;omega
   have aP:NoT [57] b2 (eX B):=NoT.own aK.out qd;have aO:NoT [57] aq [D]:=NoT.box J.2.2.2 qd;have bn:PF.cs n ⟨i,gv y.a,H,I,d⟩=[.int .i64 (i:Int),.int .i64 (n:Int),.string sv,.slice H nd I]:=by unfold PF.cs;simp only[HI.2.2.1,HI.2.2.2]
   have bH:PrL aj n AN cN (ps++[⟨i,gv y.a,H,I,d⟩]):=by
    refine⟨?_,λp hp=>?_⟩
    ·rw[gu,flatMap_append,z.2.2.1]
     have u:[PF.mk i (gv y.a) H I d].flatMap (PF.cs n)=[.int .i64 (i:Int),.int .i64 (n:Int),.string sv,.slice H nd I]:=by rw[<-bn];simp
     rw[u];exact J.1.fr fY (by intro q hq;simp only[ip];rintro rfl;exact absurd (aM _ hq) (Nat.lt_irrefl _))
    ·rcases mem_append.1 hp with hp|hp
     ·exact Own.frT (Own.frT ((z.2.1.ds p hp).fr ab.2.2 qs) J.2.1 aP qs) fY aO qs
     ·rw[ip]at hp
      subst hp;have u:=HQ.out
      show Own aj 57 32 H d.length I (d.flatMap eO)
      rw[HI.2.2.2];exact Own.frT (Own.frT u J.2.1 aP qs) fY aO qs
   have bF:(ps++[PF.mk i (gv y.a) H I d]).length=j+1:=by rw[gu,z.2.2.1];rfl
   have bG:((ps++[PF.mk i (gv y.a) H I d]).map λp=>(p.i,p.s,p.d))=(L.take (j+1)).map (oX xs n):=by
    rw[map_append,z.2.2.2.1,take_add_one,HI.1,map_append];simp[HI.2.1]
   have bo:Fr [] w2 aj:=((z.2.2.2.2.1.then ab.2.2).trans J.2.1 (λq hq=>.inr (by have u:=z.2.2.2.2.2.1 q hq;have h2:=aF.2;omega))).trans fY (by simp;have h2:=aF.2;omega);have ch:r<D:=by have u:=bd.1;have h2:=aF.1;omega
   have bJ:Cs aj r (ke L):=((z.2.2.2.2.2.2.fr0 ab.2.2).fr J.2.1 (λhm=>by have:=z.2.2.2.2.2.1 r hm;omega)).fr fY (by simp;omega);have ad:=Hd (An bj (An bH (An bF (An bG (An bo (An aM bJ))))));clear bj bH bF bG bo aM bJ ch fY aP aO bn J HQ ab aK
   go_wp2
   go_roundw
   case rel=>exact⟨j+1,AN,cN,_,qo,by go_num,ad.1,ad.2.1,ad.2.2.1,ad.2.2.2.1,ad.2.2.2.2.1,ad.2.2.2.2.2.1,ad.2.2.2.2.2.2⟩
   case measure=>simp[intOf];omega
  ·obtain rfl:j=nc:=qo
   have h:=HN.2.fr ah qs;have⟨g0,g1,g2,g3,g4,g5,g6,g7⟩:=hb.m8;have u0:=h.k0;have v0:=h.f 0;have u1:=h.k1;have v1:=h.f 1;have u2:=h.k2;have v2:=h.f 2;have u3:=h.k3;have v3:=h.f 3;have u4:=h.k4;have v4:=h.f 4;have u5:=h.k5;have v5:=h.f 5;have u6:=h.k6;have v6:=h.f 6;have u7:=h.k7;have v7:=h.f 7;have HU:=Hd (An h (An aA (An ai ah)));clear h hb aA ai ah aZ aB
   go_wp2
   have⟨x,t⟩:=eR ((((((((((wr.setCell ⟨o,0,none⟩ (.int .i64 k)).setCell ⟨o,1,none⟩ (.string E)).setCell ⟨o,2,none⟩ (.int .i64 nu)).setCell ⟨o,3,none⟩ (.int .i64 ix)).setCell ⟨o,4,none⟩ (.string G)).setCell ⟨o,5,none⟩ (.int .i64 (P:Int))).setCell ⟨o,6,none⟩ (.int .i64 (n:Int))).setCell ⟨o,7,none⟩ (.slice B j S))));have N:BoxN x o 39 #[.int .i64 k,.string E,.int .i64 nu,.int .i64 ix,.string G,.int .i64 (P:Int),.int .i64 (n:Int),.slice B j S]:=by rw[<-t];exact(((((((HU.1.setAt 0 _).setAt 1 _).setAt 2 _).setAt 3 _).setAt 4 _).setAt 5 _).setAt 6 _).setAt 7 _
   have C:Fr [o] wr x:=by rw[<-t];exact(((((((((Fq [o] wr).st _).st _).st _).st _).st _).st _).st _).st _)
   try rw[t]
   have⟨T,t1,t2,t3,U,V,X,Y⟩:=N.m8;have bi:NoT [53,57] wr [o]:=NoT.box HU.1 qd;refine bodyPost_ret (v:=.tuple #[tw k E nu ix G (P:Int) (n:Int) (.slice B j S),.int .i64 0]) (by simp[results,results13,tw,go_sem,T,t1,t2,t3,U,V,X,Y]) rfl ?_;have Q:=aa.out;unfold jY;rw[Q];have ci:L.take j=L:=take_of_length_le (by rw[ar.2.1];exact fW _);have ai:=HU.2.2.1;rw[ci]at ai;exact⟨B,S,ps,by rw[ar.2.1,ae.2.1,ae.2.2.1,ae.2.2.2],⟨Own.frT HU.2.1.own C bi qs,λp hp=>Own.frT (HU.2.1.ds p hp) C bi qs⟩,ai,(ac.then HU.2.2.2).trans C (by simp;have:=HZ.out;omega)⟩
open Go.RowKit Go.Shelf
def Gq{n:ON}(h:eY n=0):n.text.length<=32:=by
 have⟨k,_,_,_,b⟩:=vd h
 cases a:(us k).text with
 | true =>
  have:=(ju b).2.2 a;simp only[jG,Bool.and_eq_true,decide_eq_true_eq]at this
  omega
 | false=>rw[(mb b).2.2.2 a];simp
def sT(xs:List Nat):Bool:=(List.range xs.length).all λj=>decide (j=0 \/ xs.getD (j - 1) 0<xs.getD j 0)
def IX(xs:List Nat)(j:Nat):Prop:=∀k,k<j->k=0 \/ xs.getD (k - 1) 0<xs.getD k 0
def EM{xs:List Nat}(h:IX xs xs.length):sT xs=true:=by
 unfold sT;rw[all_eq_true];intro k a;exact decide_eq_true (h k (mem_range.1 a))
structure ActO(w:World)(A:Option Addr)(n c:Nat)(ys:List AX):Prop where
 own:Own w 91 6 A n c (ys.flatMap AX.cs)
 each:∀y∈ys,y.ok w
 len:ys.length=n
def ActO.fr0{w w':World}{A:Option Addr}{n c:Nat}{b:List AX}(h:ActO w A n c b)(a:Fr [] w w'):ActO w' A n c b:=⟨h.own.fr a qs,λy d=>(h.each y d).fr0 a,h.len⟩
def vv(w:World)(m:Nat)(is:List Nat)(d:List AG)(e:Ending)(w':World):Prop :=
 if sT is=true then ∃A c b,e=.returned (.tuple #[.slice A m c,.int .i64 0])/\ActO w' A m c b/\b.map AX.a=d/\Fr [] w w'/\∀q∈eX A,w.heap.size<=q
 else e=.returned (.tuple #[.slice none 0 0,.int .i64 32])/\Fr [] w w'
end Go.Proofs.YtlpmiimgacfmkaaGreatDoor
