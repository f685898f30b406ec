/- The law's ReceiptGrows: it returns true. -/
import Derived.Test.YtlpmiimgacfmkaaGreatDoorORm0
import Derived.Test.YtlpmiimgacfmkaaGreatDoorOQh2
set_option linter.all false
namespace Go.Proofs.YtlpmiimgacfmkaaGreatDoor
set_option maxRecDepth 100000
set_option maxHeartbeats 16000000
open Go.Proofs.Tryz
open Go.RowKit Go.Shelf
theorem Grows_any (aT:Option Addr) (c:Nat) (l:List AX) (au aB at_ ai:Int) (h1:0<=au/\au<256) (B:0<=aB/\aB<256) (h3:0<=at_/\at_<256) (w:World) (bf:Ok w) (o:AIns w aT l) :
 Calls prog 7 #[.slice aT l.length c,.agg #[.int .u8 au,.int .u8 aB,.int .u8 at_],.int .i64 ai] w (RetPost w (.bool true)):=by
 obtain⟨w1,b6,cK,n1,f1⟩:=bxz w #[.int .u8 au,.int .u8 aB,.int .u8 at_] 24 w.heap.size;have bx:=Hd (Small_g aT c l w1 (bf.fr0 f1) (o.fr0 f1));have aX:=Hd (An n1 f1);have cr:=Hd b6;have ae:=Hd bf;have aV:=Hd (An h1 (An B h3));obtain⟨nl,bX⟩:=nmd (l.length);rw[bX] at bx ⊢;clear bX b6 n1 f1 cK bf o h1 B h3
 go_enter func7,ntmps7
 go_upto_region 1 with fail
 rw[cr.out]
 go_upto_region 4 with (first
  | (go_at_call 10;(with_reducible refine bx.out.mono ?_);rintro e w2 ⟨b,xs,Y,rfl,hh,h,hM⟩;have H2:=Hd (An hh (An (aX.out.2.then h) (aX.out.1.fr h qs)));have ci:=Hd (fun k (hk:k∈Y)=>Nat.lt_of_lt_of_le aX.out.1.lt (hM k hk));clear hh h hM)
  | (go_at_call 11;(with_reducible refine (Known_g w2 (ae.out.fr0 H2.out.2.1)).mono ?_);rintro e w3 ⟨rfl,h⟩;have H3:=Hd (An (H2.out.1.fr0 h) (An (H2.out.2.1.then h) (H2.out.2.2.fr h qs)));clear h))
 have x0:=H3.out.2.2.k0;have g0:=H3.out.2.2.f 0
 go_upto_region 5 with fail
 obtain⟨av,a4⟩:=nmd (au.tmod 60*4 % 256+3)
 have bI:0<=av/\av<256:=by
  have:=aV.out.1;rw[<-a4,Int.tmod_eq_emod_of_nonneg qo];omega
 rw[a4];obtain⟨w4,br⟩:=nmd (w3.setCell ⟨w.heap.size,0,none⟩ (.int .u8 av));have n4:=H3.out.2.2.setAt 0 (.int .u8 av);have f4:Fr [w.heap.size] w3 w4:=by rw[<-br];exact (Fq [w.heap.size] w3).st _
 rw[br] at n4 ⊢;have ca:=n4;have bU:=H3.out.1.frS f4 (fun k hk=>by have:=ci.out k hk;simp only[lms];omega) (NoT.box H3.out.2.2 qd);have H4:=Hd (An bU (H3.out.2.1.trans f4 qs));obtain⟨y0,y1,y2⟩:=ca.m3;have HP:=Hd (Place_g av aB at_ bI aV.out.2.1 aV.out.2.2 b xs Y w4 (ae.out.fr0 H4.out.2) H4.out.1);clear x0 g0 a4 bI br n4 ca f4 bU
 go_upto_region 6 with (go_at_call 12;(with_reducible refine HP.out.mono ?_);rintro e w5 ⟨nm,I,J,P,m,rfl,⟨bN,bP⟩,hP,hm,a9⟩;unfold plV;have H5:=Hd (An bN (An bP (An hP hm)));have aD:=Hd (An (H4.out.1.fr0 a9) (H4.out.2.then a9));clear bN bP hP hm a9)
 obtain⟨T,aL⟩:=nmd (nm.kind);obtain⟨U,aM⟩:=nmd (nm.number);obtain⟨S,aK⟩:=nmd (nm.index);have ad:=Hd (An aL (An aM aK));rw[aL,aM,aK];obtain⟨w6,b7,bu,n6,f6⟩:=bxz w5 #[T,I,U,S,J,P] 33 w5.heap.size
 try rw[b7]
 obtain⟨PB,bF⟩:=nmd (w5.heap.size);rw[bF] at n6 ⊢;obtain⟨cb,z1,z2,z3,z4,z5⟩:=n6.m6;have R:=Make_g b xs Y nm I J P (m:Int) w6 (aD.out.1.fr0 f6) (ae.out.fr0 (aD.out.2.then f6)) H5.out.1 H5.out.2.1 (by have:=H5.out.2.2.1;omega);rw[aL,aM,aK] at R;unfold MakePost at R;have H6:=Hd (An (aD.out.1.fr0 f6) (aD.out.2.then f6));clear y0 y1 y2 aL aM aK n6 f6 b7 bu bF;obtain⟨r,N⟩:=nmd (makeM xs nm P (m:Int));rw[N] at R
 cases r with
 | inl q =>
  simp only at R
  have D:q=2 \/ q=8:=by
   unfold makeM at N;split at N
   ·injection N with N;exact .inl N.symm
   ·split at N
    ·injection N with N;exact .inr N.symm
    ·cases N
  unfold rcZ at R;have HM:=Hd R;clear R N
  go_upto_region 7 with (go_at_call 13;(with_reducible refine HM.out.mono ?_);rintro e w7 ⟨rfl,h⟩;have H7:=Hd (H6.out.2.then h);clear h)
  obtain⟨w8,G,aa,n8,Z⟩:=bxz w7 #[L0,S0,L0,L0,S0,L0,L0,gz] 39 w7.heap.size
  try rw[G]
  obtain⟨RA,F⟩:=nmd (w7.heap.size);rw[F] at n8 ⊢;clear G aa F;have t:=Hd (H7.out.then Z);clear n8 Z cb z1 z2 z3 z4 z5;have c4:((q:Int) == 0)=false:=by rcases D with rfl | rfl <;> rfl
  go_wp2_with fail
  go_ret
  exact⟨rfl,t.out⟩
 | inr C =>
  simp only at R;unfold rcV at R;rw[ad.out.1,ad.out.2.1,ad.out.2.2] at R;obtain⟨_,aJ,bc⟩:=makeM_inr N;obtain⟨bO,aH⟩:=makeM_pos N;have cC:=H6.out.1.len12;rw[Int.toNat_natCast] at R aJ bc aH;obtain⟨u,aI⟩:=nmd (C.length);rw[aI] at R bc bO;have HM:=Hd R;have X:=Hd (An aJ (An cC (An aI (An bc (An bO aH)))));clear R N
  go_upto_region 7 with (go_at_call 13;(with_reducible refine HM.out.mono ?_);rintro e w7 ⟨A1,c1,K,rfl,E,b0,h⟩;have H7:=Hd (An (H6.out.2.then h) (H6.out.1.fr0 h));have bw:=Hd (An E b0);clear h E b0)
  obtain⟨w8,G,aa,n8,Z⟩:=bxz w7 #[T,I,U,S,J,P,m,.slice A1 u c1] 39 w7.heap.size
  try rw[G]
  obtain⟨RA,F⟩:=nmd (w7.heap.size);rw[F] at n8 ⊢;clear G aa F;obtain⟨bg,bY⟩:=pf_each aJ aH bw.out.2;have bZ:K.length=u:=by rw[<-aI,<-bg,List.length_map]
  have t:=Hd (An n8 (An (H7.out.1.then Z) (An (H7.out.2.fr0 Z) (An (bw.out.1.fr0 Z) (An bZ (An bg bY))))));obtain⟨x0,x1,x2,x3,x4,x5,x6,x7⟩:=n8.m8
  have b3:Run xs:=by
   obtain⟨pb,pl,cT,A0,c0,F0,ns,cW,c7,hh,_⟩:=t.out.2.2.1;exact hh.run
  have aq:=Hd b3;obtain⟨ar,hL⟩:=nmd (xs.length);have ac:=Hd hL;have HL:=Hd (fun (W:World) (o:HG W b xs Y)=>(hL ▸ Len_h b xs Y W o:Calls prog 19 #[.pointer b] W fun e w'=>e=.returned ar/\W=w'));rw[hL] at aJ;clear n8 Z bg bY bZ cb z1 z2 z3 z4 z5 b3 aI aH
  by_cases bJ:ai<(m:Int) \/ (ar:Int)<ai
  ·have hg:=Grow_range b xs Y T U S (P:Int) (m:Int) ai I J A1 u c1 w8 t.out.2.2.1 (by rw[hL];exact bJ)
   unfold rcV rcZ at hg;have aW:=Hd hg;clear hg hL
   go_upto_region 10 with (go_at_call 25;(with_reducible refine aW.out.mono ?_);rintro e w9 ⟨rfl,h⟩;have H9:=Hd (An (t.out.2.1.then h) (t.out.2.2.1.fr0 h));clear h)
   obtain⟨wa,G,aa,na,fa⟩:=bxz w9 #[L0,S0,L0,L0,S0,L0,L0,gz] 39 w9.heap.size
   try rw[G]
   obtain⟨RB,F⟩:=nmd (w9.heap.size);rw[F] at na ⊢;clear G aa F;obtain⟨y0,y1,y2,y3,y4,y5,y6,y7⟩:=na.m8;have z:=Hd (An (H9.out.1.then fa) (H9.out.2.fr0 fa));have a8:=Equal_zero wa;unfold rcZ at a8;have HE:=Hd a8;clear na fa a8 x0 x1 x2 x3 x4 x5 x6 x7
   by_cases c3:ai<(m:Int)
   ·go_wp2_with (go_at_call 15;(with_reducible refine HE.out.mono ?_);rintro e cP ⟨rfl,h⟩;have aU:=Hd (z.out.1.then h);clear h)
    go_ret
    exact⟨rfl,aU.out⟩
   ·have cZ:(ar:Int)<ai:=qo
    go_wp2_with (first
     | (go_at_call 19;(with_reducible refine (HL.out _ z.out.2).mono ?_);rintro e w' ⟨rfl,rfl⟩)
     | (go_at_call 15;(with_reducible refine HE.out.mono ?_);rintro e cP ⟨rfl,h⟩;have aU:=Hd (z.out.1.then h);clear h))
    go_ret
    exact⟨rfl,aU.out⟩
  ·obtain⟨n,rfl⟩:∃ n:Nat,ai=(n:Int):=⟨ai.toNat,qo⟩
   have bd:m<=n:=qo
   have bV:n<=ar:=qo
   have hg:=(Grow_g true b xs Y T U S (P:Int) I J m n u c1 A1 K w8 t.out.2.2.1 (ae.out.fr0 t.out.2.1) bd (by rw[ac.out];exact bV) t.out.2.2.2.1 t.out.2.2.2.2.1 (by have:=X.out.2.1;have:=X.out.2.2.2.1;omega) (fun p E=>by
    obtain⟨h1,y,B,h3,_⟩:=t.out.2.2.2.2.2.2 p E;exact⟨qo,y,B,fun _=>h3⟩) (fun o=>by cases o)).mono fun e w' o=>(show GrowPost w8 xs T I U S J (P:Int) n K e w' from by unfold GrowR at o;rw[if_pos rfl] at o;exact o)
   unfold GrowPost rcV at hg;rw[t.out.2.2.2.2.1] at hg;have aW:=Hd hg;have cX:decide (n<m)=false:=by simp;omega
   have cY:decide (ar<n)=false:=by simp;omega
   clear hg bJ
   go_upto_region 10 with (go_at_call 25;(with_reducible refine aW.out.mono ?_);rintro e w9 ⟨A2,c2,q1,rfl,D,b2,h⟩;have H9:=Hd (An (t.out.2.1.then h) (An (t.out.2.2.1.fr0 h) (An D b2)));have bv:=Hd (An (t.out.1.fr h qs) (t.out.2.2.2.1.fr0 h));clear h D b2)
   obtain⟨wa,G,aa,na,fa⟩:=bxz w9 #[T,I,U,S,J,P,n,.slice A2 u c2] 39 w9.heap.size
   try rw[G]
   obtain⟨RB,F⟩:=nmd (w9.heap.size);rw[F] at na ⊢;clear G aa F;have z:=Hd (An (H9.out.1.then fa) (An (H9.out.2.1.fr0 fa) (An (H9.out.2.2.1.fr0 fa) (An (bv.out.2.fr0 fa) (An na (bv.out.1.fr fa qs))))));clear na fa x0 x1 x2 x3 x4 x5 x6 x7
   have b1:q1.map PF.i=C/\q1.length=u/\∀ p∈q1,p.i<n/\∃ y,xs[p.i]?=some y/\p.s=encAG y.a/\p.d=pathX xs p.i n:=by
    have e1:=congrArg (List.map fun x:Nat × Nm × List Nm=>x.1) H9.out.2.2.2;rw[List.map_map,List.map_map] at e1;have e2:=e1.trans t.out.2.2.2.2.2.1;refine⟨e2,by rw[<-X.out.2.2.1,<-e2,List.length_map],fun p E=>?_⟩;have h1:(p.i,p.s,p.d)∈K.map (fun p=>(p.i,p.s,pathX xs p.i n)):=by rw[<-H9.out.2.2.2];exact List.mem_map.2 ⟨p,E,rfl⟩
    obtain⟨p',cH,B⟩:=List.mem_map.1 h1;simp only[Prod.mk.injEq] at B;obtain⟨h3,y,h4,h5,_⟩:=t.out.2.2.2.2.2.2 p' cH;rw[<-B.1,<-B.2.1,<-B.2.2];exact⟨qo,y,h4,h5,rfl⟩
   have aY:=Hd b1;clear b1;obtain⟨kq,is,lq,bq,sq,b5,ak⟩:=verp_vq nm P C (actsOf xs C) (by unfold actsOf;rw[List.length_map];have:=X.out;omega) (by unfold actsOf;rw[List.length_map]) (acts_ok aq.out fun i hi=>by have:=X.out.2.2.2.2.2 i hi;have:=ac.out;omega)
   have aP:∀ W,Fr [] wa W->Calls prog 22 #[encD (rootX xs m),rcV T I U S J (P:Int) (m:Int) (.slice A1 u c1)] W (VQ kq is lq bq sq W):=fun W hW=>by
    have o:=one_g xs aq.out nm I J P m u A1 c1 K H5.out.1 H5.out.2.1 H5.out.2.2.1 (by rw[ac.out];omega) t.out.2.2.2.2.1 X.out.2.2.2.2.1 (by have:=X.out;omega) W (ae.out.fr0 (z.out.1.then hW)) (z.out.2.2.2.1.fr0 hW) t.out.2.2.2.2.2.2;rw[t.out.2.2.2.2.2.1,ad.out.1,ad.out.2.1,ad.out.2.2] at o;exact o.mono fun e w' o=>ak W e w' o
   have aQ:∀ W,Fr [] wa W->Calls prog 22 #[encD (rootX xs n),rcV T I U S J (P:Int) (n:Int) (.slice A2 u c2)] W (VQ kq is lq bq sq W):=fun W hW=>by
    have o:=one_g xs aq.out nm I J P n u A2 c2 q1 H5.out.1 H5.out.2.1 H5.out.2.2.1 (by rw[ac.out];omega) aY.out.2.1 X.out.2.2.2.2.1 (by have:=X.out;omega) W (ae.out.fr0 (z.out.1.then hW)) (z.out.2.2.1.fr0 hW) aY.out.2.2;rw[aY.out.1,ad.out.1,ad.out.2.1,ad.out.2.2] at o;exact o.mono fun e w' o=>ak W e w' o
   have bj:∀ W,Fr [] wa W->Calls prog 21 #[.pointer b,m] W (TagPost W (rootX xs m)):=fun W hW=>Root_h b xs Y m W (z.out.2.1.fr0 hW) (ae.out.fr0 (z.out.1.then hW)) (by rw[ac.out];omega);have bk:∀ W,Fr [] wa W->Calls prog 21 #[.pointer b,n] W (TagPost W (rootX xs n)):=fun W hW=>Root_h b xs Y n W (z.out.2.1.fr0 hW) (ae.out.fr0 (z.out.1.then hW)) (by rw[ac.out];omega)
   have aZ:∀ q,q<=xs.length->(rootX xs q).length=32:=fun q D=>by
    unfold rootX;exact rt_len (dsX_32 xs) (q+1) 0 qo (by rw[dsX_len];omega) (by have:=aq.out.len;omega)
   obtain⟨r1,bh⟩:=nmd (rootX xs m);obtain⟨r2,bi⟩:=nmd (rootX xs n);have a6:r1.length=32:=by rw[<-bh];exact aZ m (by rw[ac.out];omega)
   have a7:r2.length=32:=by rw[<-bi];exact aZ n (by rw[ac.out];omega)
   have cE:(dCells r1).length=32:=by rw[dcells_len,a6]
   have cF:(dCells r2).length=32:=by rw[dcells_len,a7]
   rw[bh] at aP bj;rw[bi] at aQ bk;unfold rcV encD at aP aQ;have cp:=Hd aP;have cq:=Hd aQ;have cj:=Hd bj;have ck:=Hd bk;have aE:=Hd b5;clear aP aQ bj bk aZ bh bi b5 ak hL
   go_upto_region 13 with (first
    | (go_at_call 19;(with_reducible refine (HL.out _ z.out.2.1).mono ?_);rintro e w' ⟨rfl,rfl⟩)
    | (go_at_call 21;(with_reducible refine (cj.out _ (Fq _ _)).mono ?_);rintro e v1 ⟨rfl,an⟩;obtain⟨v2,bo,ao,aA⟩:=put_new_dig r1 a6 v1;unfold encD;have I2:=Hd (An (an.then ao) aA);clear an ao aA))
   clear bo
   go_upto_region 14 with (go_at_call 21;(with_reducible refine (ck.out _ I2.out.1).mono ?_);rintro e v3 ⟨rfl,an⟩;obtain⟨v4,bo,ao,aA⟩:=put_new_dig r2 a7 v3;unfold encD;have I4:=Hd (An (I2.out.1.then (an.then ao)) (An (rowIs_fr I2.out.2 (an.then ao) qs) aA));clear an ao aA)
   clear bo;obtain⟨ov,aN⟩:∃ v:Int,((is.getLastD 0:Nat):Int)=v:=⟨_,rfl⟩;obtain⟨D1,bC⟩:=nmd (v1.heap.size);obtain⟨D2,bD⟩:=nmd (v3.heap.size);rw[bC] at I2 I4 ⊢;rw[bD] at I4 ⊢;have cm:=Hd (row_range I4.out.2.1 a6);have ay:=z.out.2.2.2.2.2.fr I4.out.1 qs;obtain⟨x0,x1,x2,x3,x4,x5,x6,x7⟩:=ay.m8;clear ay bC bD
   go_upto_region 15 with (first
    | (refine wpList_wanted qr ?_;(with_reducible refine wp_load_mid 57 (.tmp 15) rfl D1 0 rfl (dCells r1) (.array 32 5) cm.out qk rfl (by rw[cE];kernel_rfl) ?_))
    | (go_at_call 22;(with_reducible refine (cp.out v4 I4.out.1).mono ?_);rintro e v5 ⟨v,rfl,al,h⟩;obtain⟨ct,KK,LA,AA,ic,cN,lc,cx,cA,bp,_⟩:=al.ex;subst bp;rw[aN];have I5:=Hd (An al h);clear al h))
   obtain⟨v6,b8,bu,n6,f6⟩:=bxz v5 #[.int .u8 (bq.toNat:Int),ov,.slice ct is.length ic,.slice KK lq.length cN,.slice LA sq.lks.length lc,.slice AA cA.length cx] 64 v5.heap.size
   try rw[b8]
   obtain⟨cR,bA⟩:=nmd (v5.heap.size);rw[bA] at n6 ⊢;have a3:=I5.out.2.then f6;have I6:=Hd (An n6 (An (I4.out.1.then a3) (I5.out.1.fz f6)));have cn:=Hd (row_range (rowIs_fr I4.out.2.2 a3 qs) a7);have az:=z.out.2.2.2.2.1.fr I6.out.2.1 qs;clear x0 x1 x2 x3 x4 x5 x6 x7 n6 b8 f6 bu bA a3;obtain⟨x0,x1,x2,x3,x4,x5,x6,x7⟩:=az.m8;clear az
   go_upto_region 16 with (first
    | (refine wpList_wanted qr ?_;(with_reducible refine wp_load_mid 57 (.tmp 17) rfl D2 0 rfl (dCells r2) (.array 32 5) cn.out qk rfl (by rw[cF];kernel_rfl) ?_))
    | (go_at_call 22;(with_reducible refine (cq.out v6 I6.out.2.1).mono ?_);rintro e v7 ⟨v,rfl,al,h⟩;obtain⟨I',cu,cv,cc,cM,kc',cO,cy,cB,bp,_⟩:=al.ex;subst bp;rw[aN];have I7:=Hd (An al h);clear al h))
   obtain⟨v8,b9,cL,n8,Z⟩:=bxz v7 #[.int .u8 (bq.toNat:Int),ov,.slice I' is.length cM,.slice cu lq.length kc',.slice cv sq.lks.length cO,.slice cc cB.length cy] 64 v7.heap.size
   try rw[b9]
   obtain⟨cS,bB⟩:=nmd (v7.heap.size);rw[bB] at n8 ⊢;have aF:=I7.out.2.then Z;have cl:=Hd aN;have I8:=Hd (An n8 (An (I6.out.1.fr aF qs) (An (I6.out.2.1.then aF) (An (I7.out.1.fz Z) (I6.out.2.2.fz aF)))));clear x0 x1 x2 x3 x4 x5 x6 x7 n8 b9 Z cL bB aF aN
   go_cut [23] from 23 to 115 (fun s W=>∃ (L Q:Nat) (A3:Option Addr),s=.pointer L/\BoxN W L 39 #[T,I,U,S,J,P,m,.slice A3 u Q]/\Own W 53 4 A3 u Q (K.flatMap (PF.cs m))/\Fr [] v8 W/\(∀ q∈blk A3,v8.heap.size<=q))
   case first =>
    have HSS:=Hd (fun (W:World) (hW:Fr [] v8 W)=>(show W.cell? ⟨RA,0,none⟩=some T/\W.cell? ⟨RA,1,none⟩=some I/\W.cell? ⟨RA,2,none⟩=some U/\W.cell? ⟨RA,3,none⟩=some S/\W.cell? ⟨RA,4,none⟩=some J/\W.cell? ⟨RA,5,none⟩=some P/\W.cell? ⟨RA,6,none⟩=some m/\W.cell? ⟨RA,7,none⟩=some (.slice A1 u c1) from by
     have o:=z.out.2.2.2.2.2.fr (I8.out.2.2.1.then hW) qs;exact⟨o.c 0,o.c 1,o.c 2,o.c 3,o.c 4,o.c 5,o.c 6,o.c 7⟩))
    have aC:=Hd (fun (W:World) (hW:Fr [] v8 W)=>(CloneP_g u c1 A1 (K.flatMap (PF.cs m)) W (by have o:=(z.out.2.2.2.1.own.fr (I8.out.2.2.1.then hW) qs).rd;rw[t.out.2.2.2.2.1] at o;exact o) (pf_one m K) (by have:=X.out;omega)));have hC:=(Fq [] v8).drew;refine wp_region_head (fun W:World=>Fr [] v8 W) 9 qk ?_ qd
    show headJ 0 ..
    iterate 6 (refine hdL rfl ?_;try simp only[qq])
    refine headI_two (i:=6) (j:=8) qk qd qd rfl rfl (fun aj hK=>?_) (fun aj hK=>?_)
    ·rw[if_pos qr]
     go_simp
     go_at_call 26
     (with_reducible refine (aC.out _ hC).mono ?_);rintro e y1 ⟨A3,Q,rfl,ho,h,hs⟩;have af:=hC.then h;refine hK _ _ af ?_;clear hK aj
     try simp only[qq]
     show headJ 7 ..
     refine hdL rfl ?_;try simp only[qq];refine hO (i:=8) rfl fun aj hK=>?_;go_simp
     obtain⟨bz,hY,H,fY⟩:=bxn y1 #[L0,S0,L0,L0,S0,L0,L0,gz] 39;obtain⟨L,ah⟩:=nmd (y1.heap.size);rw[ah] at H ⊢;rw[hY];refine hK _ _ (af.then fY) ?_;clear hK aj hY
     try simp only[qq]
     refine headI_done ⟨qk,?_⟩;simp only[qG,qH];have O:=Hd (An H (An (ho.fr fY qs) (An (af.then fY) (An hs (An (fun q (D:q∈blk A3)=>(by have:=ho.lt q D;omega:q<L)) (show v8.heap.size<=L by have:=af.size;omega))))));obtain⟨t0,t1,t2,t3,t4,t5,t6,t7⟩:=H.m8;have g0:=H.f 0;have g1:=H.f 1;have g2:=H.f 2;have M:=H.f 3;have g4:=H.f 4;have g5:=H.f 5;have g6:=H.f 6;have g7:=H.f 7;clear H fY ho h hs af ah hC HSS aC
     go_wp2_with fail
     obtain⟨cw,aw,nZ,fZ⟩:=sx8 (bz) (L) O.out.1 T I U S J P m (.slice A3 u Q);rw[aw];clear aw
     go_meet
     exact⟨L,Q,A3,rfl,nZ,O.out.2.1.fr fZ (fun q D=>by have:=O.out.2.2.2.2.1 q D;simp only[lms];omega),O.out.2.2.1.trans fZ (by simp;have:=O.out.2.2.2.2.2;omega),fun q D=>O.out.2.2.2.1 q D⟩
    ·rw[if_pos qr]
     go_simp
     obtain⟨bz,hY,H,fY⟩:=bxd v8 #[L0,S0,L0,L0,S0,L0,L0,gz] 39;have bH:=hY;obtain⟨L,ah⟩:=nmd (v8.heap.size);rw[ah] at H
     try rw[show (v8.drew).heap.size=L from ah]
     try rw[ah]
     try rw[hY]
     try rw[bH]
     refine hK _ _ fY ?_;clear hK aj hY bH
     try simp only[qq]
     refine hO (i:=6) rfl fun aj hK=>?_;go_simp
     go_at_call 26
     (with_reducible refine (aC.out _ fY).mono ?_);rintro e y1 ⟨A3,Q,rfl,ho,h,hs⟩;have af:=fY.then h;refine hK _ _ af ?_;clear hK aj
     try simp only[qq]
     show headJ 7 ..
     refine hdL rfl ?_;try simp only[qq];refine headI_done ⟨qk,?_⟩;simp only[qG,qH];have mY:=H.fr h qs;have O:=Hd (An mY (An ho (An af (An (fun q (D:q∈blk A3)=>(by have:=hs q D;have:=H.lt;omega:L<q)) ah))));obtain⟨t0,t1,t2,t3,t4,t5,t6,t7⟩:=mY.m8;have g0:=mY.f 0;have g1:=mY.f 1;have g2:=mY.f 2;have M:=mY.f 3;have g4:=mY.f 4;have g5:=mY.f 5;have g6:=mY.f 6;have g7:=mY.f 7;clear H mY fY ho h hs af ah hC HSS aC
     go_wp2_with fail
     obtain⟨cw,aw,nZ,fZ⟩:=sx8 (y1) (L) O.out.1 T I U S J P m (.slice A3 u Q);rw[aw];clear aw
     go_meet
     exact⟨L,Q,A3,rfl,nZ,O.out.2.1.fr fZ (fun q D=>by have:=O.out.2.2.2.1 q D;simp only[lms];omega),O.out.2.2.1.trans fZ (by simp;have:=O.out.2.2.2.2;omega),fun q D=>by have:=O.out.2.2.2.1 q D;have:=O.out.2.2.2.2;omega⟩
   obtain⟨L,Q,A3,rfl,a5,ax,bQ,b4⟩:=hcut
   have cD:∃ g,A3=some ⟨g,0,none⟩:=by
    rcases ax.2 with ⟨_,h0⟩ | ⟨g,cU,cV,e,_⟩
    ·omega
    ·injection e with e1
     exact⟨g,e1⟩
   obtain⟨M,rfl⟩:=cD
   obtain⟨V,pt,aO⟩:∃ a l,K=a::l:=by
    cases E:K with
    | nil=>have o:=t.out.2.2.2.2.1;rw[E] at o;simp at o;omega
    | cons a r=>exact⟨a,r,rfl⟩
   obtain⟨sp,bn,_,cJ⟩:=str_of V.s
   have c5:sp.size<=2000000:=by
    have hE:=t.out.2.2.2.2.2.2 V (by rw[aO];simp);obtain⟨_,y,hy,hs,_⟩:=hE;have aS:=aq.out.wf y (lmg hy);rw[cJ,hs];exact encAG_len aS.1 aS.2.1 aS.2.2.1 aS.2.2.2
   have c6:¬ 9223372036854775807<V.s.length+1:=qo
   have cI:wc.cell? ⟨M,2,none⟩=some (.string sp):=by
    have o:=World.ownsRow.cellAt (show wc.ownsRow 0 53 4 (.slice (some ⟨M,0,none⟩) u Q) u _ from ax) 2 qo;rw[aO] at o;rw[<-bn];exact o
   have cG:=World.ownsRow.frozenAt (show wc.ownsRow 0 53 4 (.slice M u Q) u _ from ax) 2;have x7:=a5.k7;have ab:=Hd (An aO bn);have ag:=Hd (An a5 (An ax (An bQ b4)));clear aO bn a5 ax bQ b4
   go_upto_region 18 with fail
   obtain⟨wd,aR⟩:=nmd (wc.setCell ⟨M,2,none⟩ (.string (sp++⟨#[120]⟩)));have be:=World.ownsRow.stored (show wc.ownsRow 0 53 4 (.slice M u Q) u _ from ag.out.2.1) 2 (.string (sp++⟨#[120]⟩));have fd:Fr [M] wc wd:=by rw[<-aR];exact (Fq [M] wc).st _
   rw[aR] at be
   try rw[aR]
   have bS:L ∉ [M]:=fun hm=>by
    have:=NoT.own (ts:=[39]) ag.out.2.1 qd L (by simpa [blk] using hm) _ _ _ ag.out.1;simp at this
   have bK:=ag.out.1.fr fd bS;have bW:∀ ts:List TypeId,53 ∉ ts->NoT ts wc [M]:=fun ts o=>by have:=NoT.own (ts:=ts) ag.out.2.1 o;simpa [blk] using this
   have bR:=ag.out.2.2.2 M (by simp[blk]);have aG:=I8.out.2.2.1.then ag.out.2.2.1
   have bT:∀ k∈Y,k ∉ [M]:=fun k hk=>by
    have h1:=z.out.2.1.lt k hk;have B:=I8.out.2.2.1.size;simp only[lms];omega
   have bE:=(z.out.2.1.fr0 aG).frS fd bT (bW tyS qd);have bt:=(z.out.1.then aG).trans fd (by simp;have h1:=z.out.1.size;have B:=I8.out.2.2.1.size;omega)
   have bG:PrL wd m (some ⟨M,0,none⟩) Q (wrongP K):=by
    refine⟨?_,fun p E=>?_⟩
    ·have B:((K.flatMap (PF.cs m)).set 2 (.string (sp++⟨#[120]⟩)))=(wrongP K).flatMap (PF.cs m):=by
      rw[ab.out.1];exact wrong_cs m V pt _ (str_x ab.out.2).symm
     have hl:(wrongP K).length=u:=by rw[ab.out.1];have:=t.out.2.2.2.2.1;rw[ab.out.1] at this;exact this
     rw[hl,<-B];exact be.1
    ·have ak:∀ q∈K,Own wd 57 32 q.A q.d.length q.c (q.d.flatMap dCells):=fun q D=>((z.out.2.2.2.1.ds q D).fr aG qs).frT fd (bW [57] qd) qs
     rw[ab.out.1] at E ak
     rcases List.mem_cons.1 E with rfl | E
     ·exact ak V qs
     ·exact ak p (by simp[E])
   have hE:=t.out.2.2.2.2.2.2;rw[ab.out.1] at hE
   have bb:=(Grow_g false b xs Y T U S (P:Int) I J m n u Q (some ⟨M,0,none⟩) (wrongP K) wd bE (ae.out.fr0 bt) bd (by rw[ac.out];exact bV) bG (by rw[ab.out.1];have:=t.out.2.2.2.2.1;rw[ab.out.1] at this;exact this) (by have:=X.out;omega) (fun p E=>by
    rw[ab.out.1] at E
    rcases List.mem_cons.1 E with rfl | E
    ·obtain⟨h1,y,B,_⟩:=hE V qs
     exact⟨Nat.lt_of_lt_of_le h1 bd,y,B,fun o=>by cases o⟩
    ·obtain⟨h1,y,B,_⟩:=hE p (by simp[E])
     exact⟨qo,y,B,fun o=>by cases o⟩) (fun _=>by
    obtain⟨h1,y,B,h3,_⟩:=hE V qs;refine⟨⟨V.i,V.s++[120],V.A,V.c,V.d⟩,y,by rw[ab.out.1];rfl,B,fun o=>?_⟩;have:=congrArg List.length o;rw[h3] at this;simp at this)).mono fun e w' o=>(show RetPost wd (.tuple #[rcZ,(3:Int)]) e w' from by unfold GrowR at o;rw[if_neg qs] at o;exact o)
   unfold rcV rcZ at bb;have ch:=Hd bb;obtain⟨y0,y1,y2,y3,y4,y5,y6,y7⟩:=bK.m8;have ap:=ag.out.2.2.1.trans fd (by simp;exact bR);have bs:=I8.out.2.2.1.then ap;have JD:=Hd (An (z.out.2.2.2.2.2.fr bs qs) (An (z.out.2.2.2.2.1.fr bs qs) (An (I8.out.2.1.fr ap qs) (An (I8.out.1.fr ap qs) bt))));have KC:=Hd (An (I8.out.2.2.2.2.fz ap) (I8.out.2.2.2.1.fz ap));clear x7 cI cG be fd bK bS aG bT bE bt bG hE bb bR aR ap bs
   go_upto_region 19 with (go_at_call 25;(with_reducible refine ch.out.mono ?_);rintro e we ⟨rfl,h⟩;have JE:=Hd h;clear h)
   obtain⟨cQ,G,aa,ne,fe⟩:=bxz we #[L0,S0,L0,L0,S0,L0,L0,gz] 39 we.heap.size
   try rw[G]
   obtain⟨RE,F⟩:=nmd (we.heap.size);rw[F] at ne ⊢;clear G aa F;have JF:=Hd (JE.out.then fe);have ay:=JD.out.1.fr JF.out qs;clear y0 y1 y2 y3 y4 y5 y6 y7 ne fe;obtain⟨x0,x1,x2,x3,x4,x5,x6,x7⟩:=ay.m8;have ba:=Grow_nil2 T U S (P:Int) (m:Int) (n:Int) I J A1 u c1 cQ;unfold rcV rcZ at ba;have cf:=Hd ba;clear ay ba
   go_upto_region 20 with (go_at_call 25;(with_reducible refine cf.out.mono ?_);rintro e wg ⟨rfl,h⟩;have JG:=Hd (JF.out.then h);clear h)
   obtain⟨wh,G,aa,nh,fh⟩:=bxz wg #[L0,S0,L0,L0,S0,L0,L0,gz] 39 wg.heap.size
   try rw[G]
   obtain⟨RH,F⟩:=nmd (wg.heap.size);rw[F] at nh ⊢;clear G aa F;have am:=JG.out.then fh;have az:=JD.out.2.1.fr am qs;have bL:=JD.out.2.2.1.fr am qs;have bM:=JD.out.2.2.2.1.fr am qs;clear x0 x1 x2 x3 x4 x5 x6 x7 nh fh;have y6:=az.k6;obtain⟨u0,u1,u2,u3,u4,u5⟩:=bL.m6;obtain⟨v0,v1,v2,v3,v4,v5⟩:=bM.m6;have bm:=Same_g wh is lq bq sq _ _ (KC.out.1.fz am) (KC.out.2.fz am) (by have:=aE.out.i;omega) (by have:=aE.out.l;omega) (by have:=aE.out.k;omega) (fun cz o=>by have:=aE.out.a cz o;omega);rw[cl.out] at bm;have co:=Hd bm;have cd:=Hd (JD.out.2.2.2.2.then am);clear bm am az bL bM
   go_wp2_with (go_at_call 24;(with_reducible refine co.out.mono ?_);rintro e wi ⟨rfl,h⟩;have ce:=Hd (cd.out.then h);clear h)
   go_ret
   exact⟨rfl,ce.out⟩
end Go.Proofs.YtlpmiimgacfmkaaGreatDoor
