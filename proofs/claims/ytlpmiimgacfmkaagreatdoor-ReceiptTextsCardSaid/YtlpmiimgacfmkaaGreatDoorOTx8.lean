import Derived.Test.YtlpmiimgacfmkaaGreatDoorOTx4
import Derived.Test.YtlpmiimgacfmkaaGreatDoorOQh2
set_option linter.all false
namespace Go.Proofs.YtlpmiimgacfmkaaGreatDoor
set_option maxRecDepth 100000
set_option maxHeartbeats 16000000
open Go.Proofs.Tryz
open Go.RowKit Go.Shelf
theorem iG(aD:Option Addr)(c:Nat)(l:List AX)(af an at_:Int)(R:0<=af/\af<256)(S:0<=an/\an<256)(A:0<=at_/\at_<256)(w:World)(aN:Ok w)(bn:Pw w)(j:AIns w aD l):
 Calls prog 9 #[.slice aD l.length c,.agg #[.int .u8 af,.int .u8 an,.int .u8 at_]] w (RetPost w (.bool true)):=by
 obtain⟨w1,bt,bE,n1,f1⟩:=bxz w #[.int .u8 af,.int .u8 an,.int .u8 at_] 24 w.heap.size;have a3:=Hd (jA aD c l w1 (aN.fr0 f1) (j.fr0 f1));have aY:=Hd (An n1 f1);have bB:=Hd bt;have Q:=Hd aN;have aq:=Hd bn;have aE:=Hd (An R (An S A));obtain⟨nl,bi⟩:=nmd (l.length);rw[bi]at a3 ⊢;clear bi bt n1 f1 bE aN bn j R S A
 go_enter func9,ntmps9
 go_upto_region 1 with fail
 rw[bB.out]
 go_upto_region 4 with(first
  |(go_at_call 10;(with_reducible refine a3.out.mono ?_);rintro e w2 ⟨b,xs,aH,rfl,hh,g,hM⟩;have H2:=Hd (An hh (An (aY.out.2.then g) (aY.out.1.fr g qs)));clear hh g hM)
  |(go_at_call 11;(with_reducible refine(jo w2 (Q.out.fr0 H2.out.2.1)).mono ?_);rintro e w3 ⟨rfl,g⟩;have H3:=Hd (An (H2.out.1.fr0 g) (An (H2.out.2.1.then g) (H2.out.2.2.fr g qs)));clear g))
 obtain⟨y0,y1,y2⟩:=H3.out.2.2.m3;have HP:=Hd (jk af an at_ aE.out.1 aE.out.2.1 aE.out.2.2 b xs aH w3 (Q.out.fr0 H3.out.2.1) H3.out.1)
 go_upto_region 5 with(go_at_call 12;(with_reducible refine HP.out.mono ?_);rintro e w5 ⟨nm,so,ao,P,m,rfl,⟨bc,be⟩,hP,hm,aK⟩;unfold jB;have N:=Hd (An bc (An be (An hP hm)));have ap:=Hd (An (H3.out.1.fr0 aK) (H3.out.2.1.then aK));clear bc be hP hm aK)
 obtain⟨nk,aA⟩:=nmd (nm.kind);obtain⟨nn,aB⟩:=nmd (nm.number);obtain⟨ni,az⟩:=nmd (nm.index);have ad:=Hd (An aA (An aB az));rw[aA,aB,az];obtain⟨w6,bu,bG,n6,U⟩:=bxz w5 #[nk,so,nn,ni,ao,P] 33 w5.heap.size
 try rw[bu]
 obtain⟨PB,a5⟩:=nmd (w5.heap.size);rw[a5]at n6 ⊢;obtain⟨bw,z1,z2,z3,z4,z5⟩:=n6.m6;have z:=Make_g b xs aH nm so ao P (m:Int) w6 (ap.out.1.fr0 U) (Q.out.fr0 (ap.out.2.then U)) N.out.1 N.out.2.1 (by have:=N.out.2.2.1;omega);rw[aA,aB,az]at z;unfold MakePost at z;have H6:=Hd (An (ap.out.1.fr0 U) (ap.out.2.then U))
 have aQ:Run xs:=by
  obtain⟨pb,pl,bI,A0,c0,F0,ns,ds,bL,hh,_⟩:=H6.out.1;exact hh.run
 have aF:=Hd aQ;have bJ:=aQ.len;obtain⟨T,aC⟩:=nmd (rootX xs m)
 have ae:T.length=32:=by
  rw[<-aC];unfold rootX;exact rt_len (dsX_32 xs) (m+1) 0 qo (by rw[dsX_len];have:=N.out.2.2.2;omega) (by have:=N.out.2.2.2;omega)
 have bb:(dCells T).length=32:=by rw[dcells_len,ae]
 have br:∀W,Fr [] w6 W->Calls prog 21 #[.pointer b,m] W (TagPost W T):=λW hW=>aC ▸ Root_h b xs aH m W (H6.out.1.fr0 hW) (Q.out.fr0 (H6.out.2.then hW)) N.out.2.2.2;have HO:=Hd br;have bz:=Hd aC;clear y0 y1 y2 aA aB az n6 U bu bG a5 aQ br aC;obtain⟨r,t⟩:=nmd (makeM xs nm P (m:Int));rw[t]at z
 cases r with
 |inl q=>
  simp only at z
  have hq:q=2\/q=8:=by
   unfold makeM at t;split at t
   ·injection t with t;exact .inl t.symm
   ·split at t
    ·injection t with t;exact .inr t.symm
    ·cases t
  unfold rcZ at z;have HM:=Hd z;clear z t
  go_upto_region 6 with(go_at_call 13;(with_reducible refine HM.out.mono ?_);rintro e w7 ⟨rfl,g⟩;have H7:=Hd g;clear g)
  obtain⟨w8,al,aX,n8,f8⟩:=bxz w7 #[L0,S0,L0,L0,S0,L0,L0,gz] 39 w7.heap.size
  try rw[al]
  obtain⟨RA,ah⟩:=nmd (w7.heap.size);rw[ah]at n8 ⊢;clear al aX ah;have O:=Hd (An n8 (H7.out.then f8));clear n8 f8 bw z1 z2 z3 z4 z5
  go_upto_region 7 with(go_at_call 21;(with_reducible refine(HO.out _ O.out.2).mono ?_);rintro e v1 ⟨rfl,V⟩;obtain⟨v2,aT,X,ak⟩:=ff T ae v1;unfold encD;have F:=Hd (An (V.then X) ak);clear V X ak)
  clear aT;obtain⟨D1,ag⟩:=nmd (v1.heap.size);rw[ag]at F ⊢;have aG:=Hd (row_range F.out.2 ae);have aj:=O.out.1.fr F.out.1 qs;obtain⟨x0,x1,x2,x3,x4,x5,x6,x7⟩:=aj.m8;have hv:=gA T ae 0 0 0 0 0 ⟨#[]⟩ ⟨#[]⟩ none 0 v2;unfold encD fe at hv;have HV:=Hd hv;clear aj ag hv
  go_upto_region 8 with(first
   |(refine wpList_wanted qr ?_;(with_reducible refine wp_load_mid 57 (.tmp 11) rfl D1 0 rfl (dCells T) (.array 32 5) aG.out qk rfl (by rw[bb];kernel_rfl) ?_))
   |(go_at_call 22;(with_reducible refine HV.out.mono ?_);rintro e v3 ⟨rfl,g⟩;have B:=Hd (F.out.1.then g);clear g))
  obtain⟨v4,am,aW,n4,f4⟩:=bxz v3 #[.int .u8 0,L0,gz,gz,gz,gz] 64 v3.heap.size
  try rw[am]
  have I4:=Hd (((H6.out.2.then O.out.2).then B.out).then f4);clear x0 x1 x2 x3 x4 x5 x6 x7 n4 am f4 aW;have bC:((q:Int)==0)=false:=by rcases hq with rfl|rfl <;> rfl
  have bK:¬(q:Int)=0:=qo
  go_wp2_with fail
  go_ret
  exact⟨rfl,I4.out⟩
 |inr C=>
  simp only at z;unfold rcV at z;rw[ad.out.1,ad.out.2.1,ad.out.2.2]at z;obtain⟨_,ay,aM⟩:=iz t;obtain⟨aJ,ab⟩:=iA t;rw[Int.toNat_natCast]at z ay aM ab;obtain⟨cl,au⟩:=nmd (C.length);rw[au]at z aM aJ;have HM:=Hd z;have bH:=Hd (An ay (An au (An aM (An aJ ab))));clear z t
  go_upto_region 6 with(go_at_call 13;(with_reducible refine HM.out.mono ?_);rintro e w7 ⟨A1,c1,p1,rfl,hp,bm,g⟩;have H7:=Hd g;have aZ:=Hd (An hp bm);clear g hp bm)
  obtain⟨w8,al,aX,n8,f8⟩:=bxz w7 #[nk,so,nn,ni,ao,P,m,.slice A1 cl c1] 39 w7.heap.size
  try rw[al]
  obtain⟨RA,ah⟩:=nmd (w7.heap.size);rw[ah]at n8 ⊢;clear al aX ah;obtain⟨aP,bj⟩:=jq ay ab aZ.out.2;have bk:p1.length=cl:=by rw[<-au,<-aP,List.length_map]
  have O:=Hd (An n8 (An (H7.out.then f8) (aZ.out.1.fr0 f8)));obtain⟨kq,is,p,h,s,bs,ba⟩:=ju nm P C (fa xs C) (by unfold fa;rw[List.length_map];omega) (by unfold fa;rw[List.length_map]) (jv aF.out λi hi=>by have:=ab i hi;omega) (jp aF.out λi hi=>by have:=ab i hi;omega) (λi hi=>by have:=ab i hi;omega)
  have aU:∀W,Fr [] w8 W->Calls prog 22 #[encD T,rcV nk so nn ni ao (P:Int) (m:Int) (.slice A1 cl c1)] W (VQ kq is p h s W):=λW hW=>by
   have j:=jI xs aF.out nm so ao P m cl A1 c1 p1 N.out.1 N.out.2.1 N.out.2.2.1 ay bk aJ qo W (Q.out.fr0 ((H6.out.2.then O.out.2.1).then hW)) (O.out.2.2.fr0 hW) bj;rw[aP,ad.out.1,ad.out.2.1,ad.out.2.2,bz.out]at j;exact j.mono λe w' j=>ba W e w' j
  unfold rcV encD at aU;have HV:=Hd aU;have bA:=Hd bs;clear n8 f8 aP bj bk bw z1 z2 z3 z4 z5 au ab aU bs ba
  go_upto_region 7 with(go_at_call 21;(with_reducible refine(HO.out _ O.out.2.1).mono ?_);rintro e v1 ⟨rfl,V⟩;obtain⟨v2,aT,X,ak⟩:=ff T ae v1;unfold encD;have F:=Hd (An (V.then X) ak);clear V X ak)
  clear aT;obtain⟨D1,ag⟩:=nmd (v1.heap.size);rw[ag]at F ⊢;have aG:=Hd (row_range F.out.2 ae);have aj:=O.out.1.fr F.out.1 qs;obtain⟨x0,x1,x2,x3,x4,x5,x6,x7⟩:=aj.m8;obtain⟨o,aO⟩:∃v:Int,((is.getLastD 0:Nat):Int)=v:=⟨_,rfl⟩;clear aj ag
  go_upto_region 8 with(first
   |(refine wpList_wanted qr ?_;(with_reducible refine wp_load_mid 57 (.tmp 11) rfl D1 0 rfl (dCells T) (.array 32 5) aG.out qk rfl (by rw[bb];kernel_rfl) ?_))
   |(go_at_call 22;(with_reducible refine(HV.out v2 F.out.1).mono ?_);rintro e v3 ⟨v,rfl,bd,g⟩;obtain⟨Z,G,H,E,ic,K,L,I,J,bD,bo,bp,bq,_⟩:=bd.ex;subst bD;rw[aO];have B:=Hd (An bo (An bp (An bq (F.out.1.then g))));clear bd g bo bp bq))
  obtain⟨v4,am,aW,n4,f4⟩:=bxz v3 #[.int .u8 (h.toNat:Int),o,.slice Z is.length ic,.slice G p.length K,.slice H s.lks.length L,.slice E J.length I] 64 v3.heap.size
  try rw[am]
  obtain⟨ac,a4⟩:=nmd (v3.heap.size);rw[a4]at n4 ⊢;have I4:=Hd (An n4 (An f4 (((H6.out.2.then O.out.2.1).then B.out.2.2.2).then f4)));clear x0 x1 x2 x3 x4 x5 x6 x7 n4 am f4 aW a4
  by_cases bh:kq=0
  ·subst bh
   go_upto_region 10 with fail
   obtain⟨u0,u1,u2,u3,u4,u5⟩:=I4.out.1.m6
   go_upto_region 11 with fail
   obtain⟨v5,bv,bF,n5,f5⟩:=bxz v4 #[.int .u8 (h.toNat:Int),o,.slice Z is.length ic,.slice G p.length K,.slice H s.lks.length L,.slice E J.length I] 64 v4.heap.size
   try rw[bv]
   obtain⟨M,aI⟩:=nmd (v4.heap.size);rw[aI]at n5 ⊢;have g2:=n5.f 2;have e2:=n5.k2
   go_upto_region 12 with fail
   have n6:=n5.setAt 2 gz;obtain⟨Y,aV⟩:=nmd (v5.setCell ⟨M,2,none⟩ gz);have U:Fr [M] v5 Y:=by rw[<-aV];exact(Fq [M] v5).st _
   rw[aV]at n6 ⊢;have ar:=f5.trans U (by simp[<-aI]);have u:=Hd (An (I4.out.1.fr ar qs) (An n6 (An (I4.out.2.1.then ar) (I4.out.2.2.then ar))));have d:=bA.out
   have ai:gc o:=by
    rw[<-aO];rw[List.getLastD_eq_getLast?]
    cases hl:is.getLast? with
    |none=>exact⟨qs,qs⟩
    |some x=>have:=d.i x (List.mem_of_getLast? hl);refine⟨?_,?_⟩ <;> simp only[Option.getD_some] <;> omega
   obtain⟨s1,aR,_,_⟩:=str_of (fm h o is (p.map AG.k) s.lks);obtain⟨s2,aS,_,_⟩:=str_of (eT h o)
   have a6:∀W,Fr [] Y W->Calls prog 30 #[.agg #[.int .u8 (h.toNat:Int),o,.slice Z is.length ic,.slice G p.length K,.slice H s.lks.length L,.slice E J.length I]] W (RetPost W s1):=λW hW=>by
    have A:=u.out.2.2.1.then hW;have j:=iV h o Z G H E is.length ic p.length K s.lks.length L J.length I is (p.map AG.k) s.lks W (Q.out.fr0 (u.out.2.2.2.then hW)) (aq.out.fr0 (u.out.2.2.2.then hW)) ai (B.out.1.fr0 A) (by rw[ie];exact B.out.2.1.fr0 A) (B.out.2.2.1.fr0 A) rfl (List.length_map _) rfl d.n (by rw[d.e];exact d.n) d.k d.i (λk hk=>by obtain⟨a,ha,rfl⟩:=List.mem_map.1 hk;exact d.y a ha) d.x;rw[aR]at j;exact j
   have a7:∀W,Fr [] Y W->Calls prog 31 #[.agg #[.int .u8 (h.toNat:Int),o,.slice Z is.length ic,.slice G p.length K,.slice H s.lks.length L,.slice E J.length I]] W (RetPost W s1):=λW hW=>by
    have A:=u.out.2.2.1.then hW;have j:=ir h o Z G H E is.length ic p.length K s.lks.length L J.length I is (p.map AG.k) s.lks W (Q.out.fr0 (u.out.2.2.2.then hW)) (aq.out.fr0 (u.out.2.2.2.then hW)) ai (B.out.1.fr0 A) (by rw[ie];exact B.out.2.1.fr0 A) (B.out.2.2.1.fr0 A) rfl (List.length_map _) rfl (by rw[d.e];exact nlr _) d.n d.k d.i (λk hk=>by obtain⟨a,ha,rfl⟩:=List.mem_map.1 hk;exact d.y a ha) d.x;rw[aR]at j;exact j
   have a8:∀W,Fr [] Y W->Calls prog 30 #[.agg #[.int .u8 (h.toNat:Int),o,gz,.slice G p.length K,.slice H s.lks.length L,.slice E J.length I]] W (RetPost W s2):=λW hW=>by
    have A:=u.out.2.2.1.then hW;have j:=iV h o none G H E 0 0 p.length K s.lks.length L J.length I [] (p.map AG.k) s.lks W (Q.out.fr0 (u.out.2.2.2.then hW)) (aq.out.fr0 (u.out.2.2.2.then hW)) ai rd_nil (by rw[ie];exact B.out.2.1.fr0 A) (B.out.2.2.1.fr0 A) rfl (List.length_map _) rfl qo (by rw[d.e];exact d.n) d.k qs (λk hk=>by obtain⟨a,ha,rfl⟩:=List.mem_map.1 hk;exact d.y a ha) d.x;rw[show fm h o [] (p.map AG.k) s.lks=eT h o from by unfold fm;simp,aS]at j;exact j
   have a9:∀W,Fr [] Y W->Calls prog 31 #[.agg #[.int .u8 (h.toNat:Int),o,gz,gz,gz,gz]] W (RetPost W s2):=λW hW=>by
    have j:=ir h o none none none none 0 0 0 0 0 0 0 0 [] [] [] W (Q.out.fr0 (u.out.2.2.2.then hW)) (aq.out.fr0 (u.out.2.2.2.then hW)) ai rd_nil rd_nil rd_nil rfl rfl rfl qo qo qo qs qs qs;rw[show fm h o [] [] []=eT h o from by unfold fm;simp,aS]at j;exact j
   have HT:=Hd (An a6 (An a7 (An a8 a9)))
   have HSS:=Hd (λ(W:World) (hW:Fr [] Y W)=>(show (W.cell? ⟨ac,0,none⟩=some (.int .u8 (h.toNat:Int))/\W.cell? ⟨ac,1,none⟩=some o/\W.cell? ⟨ac,2,none⟩=some (.slice Z is.length ic)/\W.cell? ⟨ac,3,none⟩=some (.slice G p.length K)/\W.cell? ⟨ac,4,none⟩=some (.slice H s.lks.length L)/\W.cell? ⟨ac,5,none⟩=some (.slice E J.length I))/\W.cell? ⟨M,0,none⟩=some (.int .u8 (h.toNat:Int))/\W.cell? ⟨M,1,none⟩=some o/\W.cell? ⟨M,2,none⟩=some gz/\W.cell? ⟨M,3,none⟩=some (.slice G p.length K)/\W.cell? ⟨M,4,none⟩=some (.slice H s.lks.length L)/\W.cell? ⟨M,5,none⟩=some (.slice E J.length I)from by
    have R:=u.out.1.fr hW qs;have S:=u.out.2.1.fr hW qs;exact⟨⟨R.c 0,R.c 1,R.c 2,R.c 3,R.c 4,R.c 5⟩,S.c 0,S.c 1,S.c 2,S.c 3,S.c 4,S.c 5⟩))
   have hC:=(Fq [] Y).drew;clear u0 u1 u2 u3 u4 u5 n5 bv f5 bF aI g2 e2 n6 aV U ar d ai aO aR aS a6 a7 a8 a9;refine wp_region_head (λW:World=>Fr [] Y W) 16 qk ?_ qd
   show headJ 0 ..
   refine hdL rfl ?_;try simp only[qq]
   show headJ 2 ..
   refine hdL rfl ?_;try simp only[qq];refine hO (i:=1) rfl λaa D=>?_;go_simp
   go_at_call 30
   (with_reducible refine(HT.out.1 _ hC).mono ?_);rintro e y1 ⟨rfl,V⟩;have av:=hC.then V;refine D _ _ av ?_;clear D aa
   try simp only[qq]
   refine hO (i:=3) rfl λaa D=>?_;go_simp
   go_at_call 31
   (with_reducible refine(HT.out.2.1 _ av).mono ?_);rintro e y2 ⟨rfl,X⟩;have aw:=av.then X;refine D _ _ aw ?_;clear D aa
   try simp only[qq]
   show headJ 4 ..
   iterate 2 (refine hdL rfl ?_;try simp only[qq])
   show headJ 6 ..
   refine hdL rfl ?_;try simp only[qq]
   show headJ 8 ..
   iterate 4 (refine hdL rfl ?_;try simp only[qq])
   show headJ 12 ..
   refine hdL rfl ?_;try simp only[qq];refine hO (i:=7) rfl λaa D=>?_;go_simp
   go_at_call 30
   (with_reducible refine(HT.out.2.2.1 _ aw).mono ?_);rintro e y3 ⟨rfl,bf⟩;have ax:=aw.then bf;refine D _ _ ax ?_;clear D aa
   try simp only[qq]
   refine hO (i:=13) rfl λaa D=>?_;go_simp
   go_at_call 31
   (with_reducible refine(HT.out.2.2.2 _ ax).mono ?_);rintro e y4 ⟨rfl,bg⟩;have aL:=ax.then bg;refine D _ _ aL ?_;clear D aa
   try simp only[qq]
   show headJ 14 ..
   iterate 2 (refine hdL rfl ?_;try simp only[qq])
   refine headI_done ⟨qk,?_⟩;simp only[qG,qH];have bx:=Hd (u.out.2.2.2.then aL);clear hC av aw ax aL V X bf bg
   go_wp2_with fail
   go_ret
   exact⟨rfl,bx.out⟩
  ·have bC:(kq==0)=false:=by simpa using bh
   go_wp2_with fail
   go_ret
   exact⟨rfl,I4.out.2.2⟩
end Go.Proofs.YtlpmiimgacfmkaaGreatDoor
