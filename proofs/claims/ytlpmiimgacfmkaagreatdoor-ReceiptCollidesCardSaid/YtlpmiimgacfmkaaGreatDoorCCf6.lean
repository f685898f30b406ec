/- Part of the proof. -/
import Derived.Lay
import Derived.Test.YtlpmiimgacfmkaaGreatDoorCCf4
import Derived.Test.YtlpmiimgacfmkaaGreatDoorCOpm
import Derived.Test.YtlpmiimgacfmkaaGreatDoorCards
import Derived.Test.YtlpmiimgacfmkaaGreatDoorTie
set_option linter.all false
set_option maxHeartbeats 16000000
set_option maxRecDepth 100000
namespace Go.Proofs.YtlpmiimgacfmkaaGreatDoor
open Go.Proofs.Tryz List
open Go.RowKit Go.Shelf
def JA(w:World)(B o:Nat)(v0 v1 v2 v3 v4 v5 v6 v7 v8 v9 v10 v11 v12 v13 v14 v15:Value):Prop:=w.cell? ⟨B,o,none⟩=some v0/\w.cell? ⟨B,o+1,none⟩=some v1/\w.cell? ⟨B,o+2,none⟩=some v2/\w.cell? ⟨B,o+3,none⟩=some v3/\w.cell? ⟨B,o+4,none⟩=some v4/\w.cell? ⟨B,o+5,none⟩=some v5/\w.cell? ⟨B,o+6,none⟩=some v6/\w.cell? ⟨B,o+7,none⟩=some v7/\w.cell? ⟨B,o+8,none⟩=some v8/\w.cell? ⟨B,o+9,none⟩=some v9/\w.cell? ⟨B,o+10,none⟩=some v10/\w.cell? ⟨B,o+11,none⟩=some v11/\w.cell? ⟨B,o+12,none⟩=some v12/\w.cell? ⟨B,o+13,none⟩=some v13/\w.cell? ⟨B,o+14,none⟩=some v14/\w.cell? ⟨B,o+15,none⟩=some v15
def BoxN.m16{w:World}{B:Nat}{t:TypeId}{v0 v1 v2 v3 v4 v5 v6 v7 v8 v9 v10 v11 v12 v13 v14 v15:Value}(h:BoxN w B t #[v0,v1,v2,v3,v4,v5,v6,v7,v8,v9,v10,v11,v12,v13,v14,v15]):w.cell? ⟨B,0,none⟩=some v0/\w.cell? ⟨B,1,none⟩=some v1/\w.cell? ⟨B,2,none⟩=some v2/\w.cell? ⟨B,3,none⟩=some v3/\w.cell? ⟨B,4,none⟩=some v4/\w.cell? ⟨B,5,none⟩=some v5/\w.cell? ⟨B,6,none⟩=some v6/\w.cell? ⟨B,7,none⟩=some v7/\w.cell? ⟨B,8,none⟩=some v8/\w.cell? ⟨B,9,none⟩=some v9/\w.cell? ⟨B,10,none⟩=some v10/\w.cell? ⟨B,11,none⟩=some v11/\w.cell? ⟨B,12,none⟩=some v12/\w.cell? ⟨B,13,none⟩=some v13/\w.cell? ⟨B,14,none⟩=some v14/\w.cell? ⟨B,15,none⟩=some v15 :=
 ⟨h.c 0,h.c 1,h.c 2,h.c 3,h.c 4,h.c 5,h.c 6,h.c 7,h.c 8,h.c 9,h.c 10,h.c 11,h.c 12,h.c 13,h.c 14,h.c 15⟩
def KX(rt:Nm)(a b:RX):Prop:=a.n=b.n/\a.err rt=0/\b.err rt=0/\tc a.ps b.ps
def KX.sym{rt:Nm}{a b:RX}(h:KX rt a b):KX rt b a:=⟨h.1.symm,h.2.2.1,h.2.1,C8 h.2.2.2⟩
def AJ{rt:Nm}{a b:RX}(hR:vU a b){r:Nat}(hr:r<3):∃(X Y:RX) (col:Bool),(r=0/\X=a/\Y=b \/ r=1/\X=b/\Y=a \/ r=2/\X=a/\Y=a)/\(KX rt X Y ↔ col=true)/\(col=true->KX rt a b)/\(KX rt a b->∀w,a.ok w->b.ok w->Calls prog 15 #[X.v,Y.v] w (fi w (.bool (!col)))):=by
 obtain⟨cb,hcb⟩:∃cb:Bool,KX rt a b ↔ cb=true:=by
  by_cases h:KX rt a b
  ·exact⟨true,by simp[h]⟩
  ·exact⟨false,by simp[h]⟩
 rcases (by omega:r=0 \/ r=1 \/ r=2)with rfl|rfl|rfl
 ·refine⟨a,b,cb,.inl ⟨rfl,rfl,rfl⟩,hcb,hcb.2,λhk w ha hb=>?_⟩
  obtain⟨hs,k,hka,h⟩:=rJ hR hk.2.1 hk.2.2.1 hk.2.2.2;have h1:=uS (rt:=rt) a b w k ha hb hk.2.1 hk.2.2.1 hs (Nat.le_of_lt hka) (λj p q hj hp hq=>⟨(h j p q hp hq).1,(h j p q hp hq).2.1,(h j p q hp hq).2.2.trans ⟨λh=>by omega,λh=>by omega⟩⟩)
  rwa [decide_eq_false (Nat.ne_of_lt hka),show false=!cb by rw[hcb.1 hk];rfl]at h1
 ·refine⟨b,a,cb,.inr (.inl ⟨rfl,rfl,rfl⟩),⟨λh=>hcb.1 h.sym,λh=>(hcb.2 h).sym⟩,hcb.2,λhk w ha hb=>?_⟩
  obtain⟨⟨s1,s2,s3,s4,s5,s6⟩,k,hka,h⟩:=rJ hR hk.2.1 hk.2.2.1 hk.2.2.2;have h1:=uS (rt:=rt) b a w k hb ha hk.2.2.1 hk.2.1 ⟨s1.symm,s2.symm,s3.symm,s4.symm,s5.symm,s6.symm⟩ (by omega) (λj p q hj hp hq=>⟨(h j q p hq hp).1.symm,(h j q p hq hp).2.1.symm,⟨λe=>by have:=(h j q p hq hp).2.2.1 e.symm;omega,λe=>((h j q p hq hp).2.2.2 (by omega)).symm⟩⟩)
  rwa [decide_eq_false (by omega),show false=!cb by rw[hcb.1 hk];rfl]at h1
 ·refine⟨a,a,false,.inr (.inr ⟨rfl,rfl,rfl⟩),⟨λh=>absurd h.2.2.2 (C7 h.2.1),λh=>(by cases h)⟩,λh=>(by cases h),λhk w ha _=>?_⟩
  have h1:=uS (rt:=rt) a a w a.ps.length ha ha hk.2.1 hk.2.1 ⟨rfl,rfl,rfl,rfl,rfl,rfl⟩ (fW _) (λj p q hj hp hq=>by rw[hp]at hq;injection hq with hq;subst hq;exact⟨rfl,rfl,λ_=>(gV.1 hp).1,λ_=>rfl⟩)
  rwa [decide_eq_true rfl]at h1
def uR(A:Option Addr)(c:Nat)(l:List AX)(af nmi at_:Int)(kd ta bb:Nat)(tx:ByteArray)(h1:0<=af/\af<256)(h2:0<=nmi/\nmi<256)(h3:0<=at_/\at_<256)(hkd:kd<256)(hta:ta<256)(hbb:bb<256)(w:World)(hok:Ok w)(h:AIns w A l):
 Calls prog 8 #[.slice A l.length c,.agg #[.int .u8 af,.int .u8 nmi,.int .u8 at_],.agg #[.int .u8 (kd:Int),.int .u8 (ta:Int),.int .u8 (bb:Int),.string tx]] w (fi w (.bool true)):=by
 obtain⟨w0,hw0,hz0,n0,f0⟩:=ir w #[.int .u8 af,.int .u8 nmi,.int .u8 at_] 24 w.heap.size;obtain⟨w1,hw1,hz1,n1,f1⟩:=ir w0 #[.int .u8 (kd:Int),.int .u8 (ta:Int),.int .u8 (bb:Int),.string tx] 73 (w.heap.size+1);have HS:=Hd (FF A c l w1 (hok.fr0 (f0.then f1)) (h.fr0 (f0.then f1)));have HN1:=Hd (An (An (n0.fr f1 (by simp)) n1) (f0.then f1));have HW1:=Hd (An hw0 hw1);have HOK:=Hd hok;have HAF:=Hd (An h1 (An h2 h3));have HKD:=Hd (An hkd (An hta hbb));obtain⟨nl,hnl⟩:=eR (l.length);rw[hnl]at HS ⊢;clear hnl hw0 hw1 n0 n1 f0 f1 hz0 hz1 hok h h1 h2 h3 hkd hta hbb
 go_enter func8,ntmps8
 go_upto_region 1 with fail
 rw[HW1.out.1,HW1.out.2]
 go_upto_region 4 with(first
  | (go_at_call 10;(with_reducible refine HS.out.mono ?_);rintro e w2 ⟨b,xs,M,rfl,hh,hf,hM⟩;have H2:=Hd (An hh (An (HN1.out.2.then hf) (An (HN1.out.1.1.fr hf (by simp)) (HN1.out.1.2.fr hf (by simp)))));clear hh hf hM)
  | (go_at_call 11;(with_reducible refine(FQ w2 (HOK.out.fr0 H2.out.2.1)).mono ?_);rintro e w3 ⟨rfl,hf⟩;have H3:=Hd (An (H2.out.1.fr0 hf) (An (H2.out.2.1.then hf) (An (H2.out.2.2.1.fr hf (by simp)) (H2.out.2.2.2.fr hf (by simp)))));clear hf))
 obtain⟨y0,y1,y2⟩:=H3.out.2.2.1.m3;have HP:=Hd (FM af nmi at_ HAF.out.1 HAF.out.2.1 HAF.out.2.2 b xs M w3 (HOK.out.fr0 H3.out.2.1) H3.out.1)
 go_upto_region 5 with(go_at_call 12;(with_reducible refine HP.out.mono ?_);rintro e w5 ⟨nm,so,st,P,m,rfl,⟨hck,hen⟩,hP,hm,hf5⟩;unfold GJ;have H5:=Hd (An hck (An hen (An hP hm)));have HF5:=Hd (An (H3.out.1.fr0 hf5) (An (H3.out.2.1.then hf5) (H3.out.2.2.2.fr hf5 (by simp))));clear hck hen hP hm hf5)
 obtain⟨nk,hnk⟩:=eR (nm.kind);obtain⟨nn,hnn⟩:=eR (nm.number);obtain⟨ni,hni⟩:=eR (nm.index);have HNM:=Hd (An hnk (An hnn hni));rw[hnk,hnn,hni];obtain⟨w6,hw6,hz6,n6,f6⟩:=ir w5 #[.int .i64 nk,.string so,.int .i64 nn,.int .i64 ni,.string st,.int .i64 (P:Int)] 33 w5.heap.size
 try rw[hw6]
 obtain⟨PB,hPB⟩:=eR (w5.heap.size);rw[hPB]at n6 ⊢;obtain⟨z0,z1,z2,z3,z4,z5⟩:=n6.m6;have hMk:=EL b xs M nm so st P (m:Int) w6 (HF5.out.1.fr0 f6) (HOK.out.fr0 (HF5.out.2.1.then f6)) H5.out.1 H5.out.2.1 (by have:=H5.out.2.2.1;omega);rw[hnk,hnn,hni]at hMk;unfold jY at hMk;have H6:=Hd (An (HF5.out.1.fr0 f6) (An (HF5.out.2.1.then f6) (HF5.out.2.2.fr f6 (by simp))));clear y0 y1 y2 hnk hnn hni n6 f6 hw6 hz6 hPB;obtain⟨r,hr⟩:=eR (jX xs nm P (m:Int));rw[hr]at hMk
 cases r with
 | inl q =>
  simp only at hMk
  have hq:q=2 \/ q=8:=by
   unfold jX at hr;split at hr
   ·injection hr with hr;exact .inl hr.symm
   ·split at hr
    ·injection hr with hr;exact .inr hr.symm
    ·cases hr
  unfold EU at hMk;have HM:=Hd hMk;clear hMk hr
  go_upto_region 6 with(go_at_call 13;(with_reducible refine HM.out.mono ?_);rintro e w7 ⟨rfl,hf⟩;have H7:=Hd (H6.out.2.1.then hf);clear hf)
  obtain⟨w8,hw9,hz9,n8,f8⟩:=ir w7 #[.int .i64 0,.string ⟨#[]⟩,.int .i64 0,.int .i64 0,.string ⟨#[]⟩,.int .i64 0,.int .i64 0,.slice none 0 0] 39 w7.heap.size
  try rw[hw9]
  obtain⟨RA,hR9⟩:=eR (w7.heap.size);rw[hR9]at n8 ⊢;clear hw9 hz9 hR9;have H8:=Hd (H7.out.then f8);clear n8 f8 z0 z1 z2 z3 z4 z5;have hq0:((q:Int) == 0)=false:=by rcases hq with rfl|rfl <;> rfl
  have hq1:¬(q:Int)=0:=by omega
  go_wp2_with fail
  go_ret
  exact⟨rfl,H8.out⟩
 | inr C =>
  simp only at hMk;unfold tw at hMk;rw[HNM.out.1,HNM.out.2.1,HNM.out.2.2]at hMk;obtain⟨_,hkn,hkl⟩:=AL hr;obtain⟨hcp,hci⟩:=AM hr;have h12:=H6.out.1.len12;rw[Int.toNat_natCast]at hMk hkn hkl hci;obtain⟨cl,hcl⟩:=eR (C.length);rw[hcl]at hMk hkl hcp;have HM:=Hd hMk;have HKN:=Hd (An hkn (An h12 (An hcl (An hkl (An hcp hci)))));clear hMk hr
  go_upto_region 6 with(go_at_call 13;(with_reducible refine HM.out.mono ?_);rintro e w7 ⟨A1,c1,p1,rfl,hp,hpm,hf⟩;have H7:=Hd (An (H6.out.2.1.then hf) (An (H6.out.1.fr0 hf) (H6.out.2.2.fr hf (by simp))));have HP1:=Hd (An hp hpm);clear hf hp hpm)
  obtain⟨w8,hw9,hz9,n8,f8⟩:=ir w7 #[.int .i64 nk,.string so,.int .i64 nn,.int .i64 ni,.string st,.int .i64 (P:Int),.int .i64 (m:Int),.slice A1 cl c1] 39 w7.heap.size
  try rw[hw9]
  obtain⟨RA,hR9⟩:=eR (w7.heap.size);rw[hR9]at n8 ⊢;clear hw9 hz9 hR9;obtain⟨hpC,hpE⟩:=Fa hkn hci HP1.out.2;have hpl:p1.length=cl:=by rw[<-hcl,<-hpC,List.length_map]
  have hrun:Run xs:=by
   obtain⟨pb,pl,bt,A0,c0,F0,ns,ds,kvs,hh,_⟩:=H7.out.2.1;exact hh.run
  obtain⟨ha8,ht8⟩:=RX.of_make (w:=w8) hrun (so:=so) (st:=st) (P:=P) (m:=m) (c:=c1) (A:=A1) (ps:=p1) H5.out.1 H5.out.2.1 H5.out.2.2.1 hkn (HP1.out.1.fr0 f8) (by omega) (by omega) hpE;obtain⟨a,hae⟩:∃a:RX,(⟨nm,so,st,(P:Int),(m:Int),A1,c1,p1.map (lS m)⟩:RX)=a:=⟨_,rfl⟩;rw[hae]at ha8 ht8
  have hav:a.v=.agg #[.int .i64 nk,.string so,.int .i64 nn,.int .i64 ni,.string st,.int .i64 (P:Int),.int .i64 (m:Int),.slice A1 cl c1]:=by
   rw[<-hae];unfold RX.v tw;simp only[List.length_map,hpl];rw[HNM.out.1,HNM.out.2.1,HNM.out.2.2]
  have haA:a.A=A1/\a.c=c1/\a.ps.length=cl/\a.n=(m:Int):=by rw[<-hae];exact⟨rfl,rfl,by simp only[List.length_map];exact hpl,rfl⟩
  have hAP:=E7 a kd ta bb tx w8 HKD.out.1 HKD.out.2.1 HKD.out.2.2 ha8 ht8;rw[hav]at hAP;have HAP:=Hd hAP;have HAV:=Hd (An hav haA);have H8:=Hd (An n8 (An (H7.out.1.then f8) (An (H7.out.2.1.fr0 f8) (An (H7.out.2.2.fr f8 (by simp)) (An ha8 ht8)))));obtain⟨x0,x1,x2,x3,x4,x5,x6,x7⟩:=n8.m8;have hchb:=H8.out.2.2.2.1;obtain⟨y0,y1,y2,y3⟩:=hchb.m4;have HR:=Hd hrun;clear n8 f8 hpC hpE hpl z0 z1 z2 z3 z4 z5 hrun hcl hci hAP hav haA hae ha8 ht8 hchb
  go_upto_region 9 with(go_at_call 27;(with_reducible refine HAP.out.mono ?_);rintro e w9 ⟨b2,rfl,hbo,hbr,hf⟩;have HB2:=Hd (An hbo hbr);have HF9:=Hd hf;clear hbo hbr hf;unfold RX.v tw;obtain⟨k2,hk2⟩:∃v,b2.nm.kind=v:=⟨_,rfl⟩;obtain⟨o2,ho2⟩:∃v,b2.so=v:=⟨_,rfl⟩;obtain⟨u2,hu2⟩:∃v,b2.nm.number=v:=⟨_,rfl⟩;obtain⟨i2,hi2⟩:∃v,b2.nm.index=v:=⟨_,rfl⟩;obtain⟨t2,ht2⟩:∃v,b2.st=v:=⟨_,rfl⟩;obtain⟨P2,hP2⟩:∃v,b2.P=v:=⟨_,rfl⟩;obtain⟨n2,hn2⟩:∃v,b2.n=v:=⟨_,rfl⟩;obtain⟨A2,hA2⟩:∃v,b2.A=v:=⟨_,rfl⟩;obtain⟨m2,hm2⟩:∃v,b2.ps.length=v:=⟨_,rfl⟩;obtain⟨c2,hc2⟩:∃v,b2.c=v:=⟨_,rfl⟩;rw[hk2,ho2,hu2,hi2,ht2,hP2,hn2,hA2,hm2,hc2];have HBV:=Hd (An (show b2.v=.agg #[.int .i64 k2,.string o2,.int .i64 u2,.int .i64 i2,.string t2,.int .i64 P2,.int .i64 n2,.slice A2 m2 c2] by unfold RX.v tw;rw[hk2,ho2,hu2,hi2,ht2,hP2,hn2,hA2,hm2,hc2]) (An hA2 (An hc2 (An hm2 hn2))));clear hk2 ho2 hu2 hi2 ht2 hP2 hn2 hA2 hm2 hc2)
  obtain⟨wa,hw9,hz9,na,fa⟩:=ir w9 #[.int .i64 k2,.string o2,.int .i64 u2,.int .i64 i2,.string t2,.int .i64 P2,.int .i64 n2,.slice A2 m2 c2] 39 w9.heap.size
  try rw[hw9]
  obtain⟨RB,hR9⟩:=eR (w9.heap.size);rw[hR9]at na ⊢;clear hw9 hz9 hR9;obtain⟨rt,hrt⟩:=eR (lN xs m)
  have hr32:rt.length=32:=by
   rw[<-hrt];unfold lN;exact kD (pu xs) (m+1) 0 (by omega) (by rw[mI];have:=HKN.out.1;omega) (by have:=HR.out.len;have:=HKN.out.1;omega)
  have hcr:(eO rt).length=32:=by rw[eP,hr32]
  have hf8:Fr [] w8 wa:=HF9.out.then fa;have HO1:=Hd (hrt ▸ DA b xs M m wa (H8.out.2.2.1.fr0 hf8) (HOK.out.fr0 (H8.out.2.1.then hf8)) HKN.out.1);obtain⟨ea,hea⟩:=eR (a.err rt);obtain⟨eb,heb⟩:=eR (b2.err rt);have hVA:=λ(W:World) (hW:Fr [] wa W)=>nV rt hr32 a W (HOK.out.fr0 (H8.out.2.1.then (hf8.then hW))) (H8.out.2.2.2.2.1.fr0 (hf8.then hW));have hVB:=λ(W:World) (hW:Fr [] wa W)=>nV rt hr32 b2 W (HOK.out.fr0 (H8.out.2.1.then (hf8.then hW))) (HB2.out.1.fr0 (fa.then hW));rw[hea,HAV.out.1]at hVA;rw[heb,HBV.out.1]at hVB;unfold fo at hVA hVB;have HVA:=Hd hVA;have HVB:=Hd hVB;have HE:=Hd (An hea heb);have HA:=Hd (An (H8.out.2.1.then hf8) (An (H8.out.1.fr hf8 (by simp)) (An na (An (H8.out.2.2.2.2.1.fr0 hf8) (An (HB2.out.1.fr0 fa) (H8.out.2.2.1.fr0 hf8))))));clear hrt hea heb hVA hVB na fa hf8 x0 x1 x2 x3 x4 x5 x6 x7 y0 y1 y2 y3
  go_upto_region 10 with(go_at_call 21;(with_reducible refine HO1.out.mono ?_);rintro e v1 ⟨rfl,hf1⟩;obtain⟨v2,hst,hf2,hrow⟩:=qj rt hr32 v1;unfold fo;have I2:=Hd (An (hf1.then hf2) hrow);clear hf1 hf2 hrow)
  clear hst;obtain⟨D1,hD1⟩:=eR (v1.heap.size);rw[hD1]at I2 ⊢;have HRT:=Hd (fw I2.out.2 hr32);have hra:=HA.out.2.1.fr I2.out.1 (by simp);obtain⟨x0,x1,x2,x3,x4,x5,x6,x7⟩:=hra.m8;clear hra hD1
  go_upto_region 11 with(first
   | (refine fG (by rfl) ?_;(with_reducible refine wp_load_mid 57 (.tmp 14) rfl D1 0 rfl (eO rt) (.array 32 5) HRT.out (by kernel_rfl) rfl (by rw[hcr];kernel_rfl) ?_))
   | (go_at_call 22;(with_reducible refine(HVA.out v2 I2.out.1).mono ?_);rintro e v3 ⟨v,rfl,⟨vb,vo,B1,B2,B3,B4,nx1,cy1,nx2,cy2,nx3,cy3,nx4,cy4,rfl⟩,hfy⟩;have I3:=Hd hfy;clear hfy))
  obtain⟨v4,hw4,hz4,n4,f4⟩:=ir v3 #[.int .u8 vb,.int .i64 vo,.slice B1 nx1 cy1,.slice B2 nx2 cy2,.slice B3 nx3 cy3,.slice B4 nx4 cy4] 64 v3.heap.size
  try rw[hw4]
  have I4:=Hd (I3.out.then f4);clear n4 hw4 f4 hz4 x0 x1 x2 x3 x4 x5 x6 x7;have HRT2:=Hd (fw (eT I2.out.2 I4.out (by simp)) hr32);have hrb:=HA.out.2.2.1.fr (I2.out.1.then I4.out) (by simp);obtain⟨y0,y1,y2,y3,y4,y5,y6,y7⟩:=hrb.m8;clear hrb
  go_upto_region 12 with(first
   | (refine fG (by rfl) ?_;(with_reducible refine wp_load_mid 57 (.tmp 14) rfl D1 0 rfl (eO rt) (.array 32 5) HRT2.out (by kernel_rfl) rfl (by rw[hcr];kernel_rfl) ?_))
   | (go_at_call 22;(with_reducible refine(HVB.out v4 (I2.out.1.then I4.out)).mono ?_);rintro e v5 ⟨v,rfl,⟨wb,wo,C1,C2,C3,C4,mx1,dy1,mx2,dy2,mx3,dy3,mx4,dy4,rfl⟩,hfy⟩;have I5:=Hd hfy;clear hfy))
  obtain⟨v6,hw6,hz6,n6,f6⟩:=ir v5 #[.int .u8 wb,.int .i64 wo,.slice C1 mx1 dy1,.slice C2 mx2 dy2,.slice C3 mx3 dy3,.slice C4 mx4 dy4] 64 v5.heap.size
  try rw[hw6]
  have I6:=Hd (An (I2.out.1.then (I4.out.then (I5.out.then f6))) (eT I2.out.2 (I4.out.then (I5.out.then f6)) (by simp)));clear n6 hw6 f6 hz6 y0 y1 y2 y3 y4 y5 y6 y7;have hcl12:cl<=12:=by have:=HKN.out;omega
  have hm2:m2<=13:=by have h:=HA.out.2.2.2.2.1.len;rw[HBV.out.2.2.2.1]at h;exact h
  go_upto_region 14 with fail
  go_loopw [20,21] (λdv iv W=>∃(j:Nat) (d:Bool),j<=cl/\iv=.int .i64 (j:Int)/\dv=.bool d/\(d=true ↔ AO a.ps b2.ps j)/\Fr [] v6 W) (λ_ iv _=>cl - (intOf iv).toNat)
  case atStart=>exact⟨0,false,Nat.zero_le _,rfl,rfl,⟨λh=>(by cases h),λh=>absurd h AP⟩,Fq _ _⟩
  case round =>
   obtain⟨j,d,hj,rfl,rfl,hd,hfr⟩:=hrel;have HJ:=Hd (An hd hfr);clear hd hfr;have ra7:wr.cell? ⟨RA,7,none⟩=some (.slice A1 cl c1):=(HA.out.2.1.fr (I6.out.1.then HJ.out.2) (by simp)).c 7
   by_cases hjl:j<cl
   ·have hlt:(j:Int)<(cl:Int):=by omega
    have hwj:IntKind.i64.wrap (j:Int)=(j:Int):=by simp only[IntKind.wrap_i64];omega
    obtain⟨p,hp⟩:∃p,a.ps[j]?=some p:=⟨_,gg (by rw[HAV.out.2.2.2.1];exact hjl)⟩;have HPJ:=Hd hp;clear hp
    go_upto_region 17 with fail
    go_loopw [20,22] (λdv tv W=>∃(t:Nat) (d:Bool),t<=m2/\tv=.int .i64 (t:Int)/\dv=.bool d/\(d=true ↔ AO a.ps b2.ps j \/ ∃u q,u<t/\b2.ps[u]?=some q/\p.i=q.i/\p.s≠q.s)/\Fr [] v6 W) (λ_ tv _=>m2 - (intOf tv).toNat)
    case atStart=>exact⟨0,d,Nat.zero_le _,rfl,rfl,⟨λh=>.inl (HJ.out.1.1 h),λh=>HJ.out.1.2 (by rcases h with h|⟨u,q,h,_⟩;exact h;omega)⟩,HJ.out.2⟩
    case round =>
     obtain⟨t,d',ht,rfl,rfl,hd',hfr'⟩:=hrel;have hf6:=I6.out.1.then hfr';have rb7:wr.cell? ⟨RB,7,none⟩=some (.slice A2 m2 c2):=(HA.out.2.2.1.fr hf6 (by simp)).c 7;have ra7:wr.cell? ⟨RA,7,none⟩=some (.slice A1 cl c1):=(HA.out.2.1.fr hf6 (by simp)).c 7;have HT:=Hd (An hd' hfr');clear hd' hfr'
     by_cases htl:t<m2
     ·as_aux_lemma =>
       have hlt2:(t:Int)<(m2:Int):=by omega
       have hwt:IntKind.i64.wrap (t:Int)=(t:Int):=by simp only[IntKind.wrap_i64];omega
       go_upto_region 19 with fail
       obtain⟨q,hq⟩:∃q,b2.ps[t]?=some q:=⟨_,gg (by rw[HBV.out.2.2.2.1];exact htl)⟩;have hpra:=(HA.out.2.2.2.1.pr.fr0 hf6).own;have hprb:=(HA.out.2.2.2.2.1.pr.fr0 hf6).own;rw[HAV.out.2.1,HAV.out.2.2.1,HAV.out.2.2.2.1]at hpra;rw[HBV.out.2.1,HBV.out.2.2.1,HBV.out.2.2.2.1]at hprb;obtain⟨ga,rfl,hca⟩:=Cs.of_own hpra (by omega);obtain⟨gb,rfl,hcb⟩:=Cs.of_own hprb (by omega);have ec:=λo (ho:o<4)=>ia iP HPJ.out ho;have ed:=λo (ho:o<4)=>ia iP hq ho;unfold PX.cs at ec ed;obtain⟨sp,hsp,hsp1,_⟩:=eS p.s;obtain⟨sq,hsq,hsq1,_⟩:=eS q.s;obtain⟨pi,hpi⟩:=eR (p.i);obtain⟨qi,hqi⟩:=eR (q.i);rw[hsp,hpi]at ec;rw[hsq,hqi]at ed;have HSS:=Hd (λ(W:World) (hW:Fr [] wr W)=>(show W.cell? ⟨RA,7,none⟩=some (.slice (some ⟨ga,0,none⟩) cl c1)/\W.cell? ⟨RB,7,none⟩=some (.slice (some ⟨gb,0,none⟩) m2 c2)/\W.cell? ⟨ga,j*4,none⟩=some (.int .i64 pi)/\W.cell? ⟨ga,j*4+2,none⟩=some (.string sp)/\W.cell? ⟨gb,t*4,none⟩=some (.int .i64 qi)/\W.cell? ⟨gb,t*4+2,none⟩=some (.string sq)from⟨(HA.out.2.1.fr (hf6.then hW) (by simp)).c 7,(HA.out.2.2.1.fr (hf6.then hW) (by simp)).c 7,(hW.cell (p:=⟨ga,_,none⟩) hca.1 (by simp)).trans (hca.2 _ _ (ec 0 (by omega))),(hW.cell (p:=⟨ga,_,none⟩) hca.1 (by simp)).trans (hca.2 _ _ (ec 2 (by omega))),(hW.cell (p:=⟨gb,_,none⟩) hcb.1 (by simp)).trans (hcb.2 _ _ (ed 0 (by omega))),(hW.cell (p:=⟨gb,_,none⟩) hcb.1 (by simp)).trans (hcb.2 _ _ (ed 2 (by omega)))⟩))
       have hss:(sp.toList == sq.toList)=true ↔ p.s=q.s:=by
        rw[beq_iff_eq,ByteArray.toList_eq,ByteArray.toList_eq,hsp1,hsq1]
       obtain⟨sb,hsb⟩:=eR ((sp.toList == sq.toList));rw[hsb]at hss;have HQ:=Hd (An hq (An hpi (An hqi hss)));clear hq hpi hqi hss hca hcb ec ed hsp hsp1 hsq hsq1 hpra hprb ra7 rb7 hf6
       cases d' with
       | true =>
        refine eW (λW=>Fr [] wr W) (by kernel_rfl) (by kernel_rfl) ((Fq _ wr).drew) ?_
        repeat(
         first
         | go_big_quiet_skip
         | (go_big_quiet_want;first|(go_big_quiet_op;go_big_quiet_on)|(apply Exists.intro;refine⟨λW hW=>?_,?_⟩;(· obtain⟨a0',a1',a2',a3',a4',a5'⟩:=HSS.out W hW;go_simp;first|done|with_reducible exact rfl|with_reducible exact⟨rfl,rfl⟩ );simp only[qq];go_big_quiet_on))
         )
        refine wpQuiet_nil ?_;intro v7 hv7;have HV7:=Hd hv7;clear hv7
        go_wp2_with fail
        go_roundw
        case rel =>
         refine⟨t+1,_,by omega,by go_num,rfl,?_,HT.out.2.then HV7.out⟩;exact⟨λ_=>(by rcases HT.out.1.1 rfl with h|⟨u,q',h,h'⟩;exact .inl h;exact .inr ⟨u,q',by omega,h'⟩),λ_=>rfl⟩
        case measure=>simp[intOf];omega
       | false =>
        by_cases hpq:pi=qi
        ·subst hpq
         cases sb with
         | true =>
          have zU:=HQ.out.2.2.2.1 rfl;have HS1:=Hd zU;clear zU;refine eW (λW=>Fr [] wr W) (by kernel_rfl) (by kernel_rfl) ((Fq _ wr).drew) ?_
          repeat(
           first
           | go_big_quiet_skip
           | (go_big_quiet_want;first|(go_big_quiet_op;go_big_quiet_on)|(apply Exists.intro;refine⟨λW hW=>?_,?_⟩;(· obtain⟨a0',a1',a2',a3',a4',a5'⟩:=HSS.out W hW;go_simp;first|done|with_reducible exact rfl|with_reducible exact⟨rfl,rfl⟩ );simp only[qq];go_big_quiet_on))
           )
          refine wpQuiet_nil ?_;intro v7 hv7;have HV7:=Hd hv7;clear hv7
          go_wp2_with fail
          go_roundw
          case rel =>
           refine⟨t+1,_,by omega,by go_num,rfl,?_,HT.out.2.then HV7.out⟩;exact⟨λh=>(by cases h),λh=>HT.out.1.2 (by rcases h with h|⟨u,q',h,hq',hi,hs⟩;exact .inl h;rcases Nat.lt_or_eq_of_le (Nat.le_of_lt_succ h)with h1|rfl;exact .inr ⟨u,q',h1,hq',hi,hs⟩;rw[HQ.out.1]at hq';injection hq' with hq';subst hq';exact absurd HS1.out hs)⟩
          case measure=>simp[intOf];omega
         | false =>
          have zU:p.s≠q.s:=λh=>by have h1:=HQ.out.2.2.2.2 h;cases h1
          have HS1:=Hd zU;clear zU;refine eW (λW=>Fr [] wr W) (by kernel_rfl) (by kernel_rfl) ((Fq _ wr).drew) ?_
          repeat(
           first
           | go_big_quiet_skip
           | (go_big_quiet_want;first|(go_big_quiet_op;go_big_quiet_on)|(apply Exists.intro;refine⟨λW hW=>?_,?_⟩;(· obtain⟨a0',a1',a2',a3',a4',a5'⟩:=HSS.out W hW;go_simp;first|done|with_reducible exact rfl|with_reducible exact⟨rfl,rfl⟩ );simp only[qq];go_big_quiet_on))
           )
          refine wpQuiet_nil ?_;intro v7 hv7;have HV7:=Hd hv7;clear hv7
          go_wp2_with fail
          go_roundw
          case rel =>
           refine⟨t+1,_,by omega,by go_num,rfl,?_,HT.out.2.then HV7.out⟩;exact⟨λ_=>.inr ⟨t,q,by omega,HQ.out.1,HQ.out.2.1.trans HQ.out.2.2.1.symm,HS1.out⟩,λ_=>rfl⟩
          case measure=>simp[intOf];omega
        ·have hne:(pi == qi)=false:=by simpa using hpq
         have HNE:=Hd hpq;clear hpq;refine eW (λW=>Fr [] wr W) (by kernel_rfl) (by kernel_rfl) ((Fq _ wr).drew) ?_
         repeat(
          first
          | go_big_quiet_skip
          | (go_big_quiet_want;first|(go_big_quiet_op;go_big_quiet_on)|(apply Exists.intro;refine⟨λW hW=>?_,?_⟩;(· obtain⟨a0',a1',a2',a3',a4',a5'⟩:=HSS.out W hW;go_simp;first|done|with_reducible exact rfl|with_reducible exact⟨rfl,rfl⟩ );simp only[qq];go_big_quiet_on))
          )
         refine wpQuiet_nil ?_;intro v7 hv7;have HV7:=Hd hv7;clear hv7
         go_wp2_with fail
         go_roundw
         case rel =>
          refine⟨t+1,_,by omega,by go_num,rfl,?_,HT.out.2.then HV7.out⟩;exact⟨λh=>(by cases h),λh=>HT.out.1.2 (by rcases h with h|⟨u,q',h,hq',hi,hs⟩;exact .inl h;rcases Nat.lt_or_eq_of_le (Nat.le_of_lt_succ h)with h1|rfl;exact .inr ⟨u,q',h1,hq',hi,hs⟩;rw[HQ.out.1]at hq';injection hq' with hq';subst hq';exact absurd (HQ.out.2.1.symm.trans (hi.trans HQ.out.2.2.1)) HNE.out)⟩
         case measure=>simp[intOf];omega
     ·obtain rfl:t=m2:=by omega
      go_wp2_with fail
      go_roundw
      case rel=>exact⟨j+1,d',by omega,by go_num,rfl,(by rw[AQ HPJ.out,HBV.out.2.2.2.1];exact HT.out.1),HT.out.2⟩
      case measure=>simp[intOf];omega
   ·obtain rfl:j=cl:=by omega
    have hra:=HA.out.2.1.fr (I6.out.1.then HJ.out.2) (by simp);have hrb:=HA.out.2.2.1.fr (I6.out.1.then HJ.out.2) (by simp);obtain⟨x0,x1,x2,x3,x4,x5,x6,x7⟩:=hra.m8;obtain⟨y0,y1,y2,y3,y4,y5,y6,y7⟩:=hrb.m8;clear hra hrb
    go_upto_region 21 with fail
    clear x0 x1 x2 x3 x4 x5 x6 x7 y0 y1 y2 y3 y4 y5 y6 y7;obtain⟨vx,hwx,hzx,nx,fx⟩:=ir wr (List.toArray (.int .i64 nk::.string so::.int .i64 nn::.int .i64 ni::.string st::.int .i64 (P:Int)::.int .i64 (m:Int)::.slice A1 j c1::.int .i64 k2::.string o2::.int .i64 u2::.int .i64 i2::.string t2::.int .i64 P2::.int .i64 n2::.slice A2 m2 c2::.int .i64 k2::.string o2::.int .i64 u2::.int .i64 i2::.string t2::.int .i64 P2::.int .i64 n2::.slice A2 m2 c2::.int .i64 nk::.string so::.int .i64 nn::.int .i64 ni::.string st::.int .i64 (P:Int)::.int .i64 (m:Int)::.slice A1 j c1::.int .i64 nk::.string so::.int .i64 nn::.int .i64 ni::.string st::.int .i64 (P:Int)::.int .i64 (m:Int)::.slice A1 j c1::.int .i64 nk::.string so::.int .i64 nn::.int .i64 ni::.string st::.int .i64 (P:Int)::.int .i64 (m:Int)::.slice A1 j c1::[])) 75 wr.heap.size
    try rw[hwx]
    obtain⟨XB,hXB⟩:=eR (wr.heap.size);rw[hXB]at nx ⊢;have hax:Fr [] wa vx:=I6.out.1.then (HJ.out.2.then fx);have HX:=Hd (An nx (An hax (eT I6.out.2 (HJ.out.2.then fx) (by simp))));have hdB:d=true ↔ tc a.ps b2.ps:=by rw[<-Da,HAV.out.2.2.2.1];exact HJ.out.1
    have HDB:=Hd hdB;clear nx hwx fx hzx hax hXB hdB;have hEab:a.n=(m:Int)/\b2.n=n2/\a.err rt=ea/\b2.err rt=eb:=⟨HAV.out.2.2.2.2,HBV.out.2.2.2.2,HE.out.1,HE.out.2⟩;have HEAB:=Hd hEab;clear hEab
    go_loopw [131] (λiv W=>∃r:Nat,r<=3/\iv=.int .i64 (r:Int)/\Fr [] vx W) (λiv _=>3 - (intOf iv).toNat)
    case atStart=>exact⟨0,by omega,rfl,Fq _ _⟩
    case round =>
     obtain⟨r,hr3,rfl,hfr⟩:=hrel;obtain⟨wr2,hwr2⟩:=eR (wr);rw[hwr2]at hfr ⊢;clear hwr2
     by_cases hr:r<3
     case neg =>
      obtain rfl:r=3:=by omega
      have HFR:=Hd hfr;clear hfr
      go_wp2_with fail
      go_ret
      exact⟨rfl,HA.out.1.then (HX.out.2.1.then HFR.out)⟩
     obtain⟨X,Y,col,hcase,hK,hKC,hQ⟩:=AJ (rt:=rt) HB2.out.2 hr
     obtain⟨k3,o3,u3,i3,t3,P3,n3,A3,m3,c3,k4,o4,u4,i4,t4,P4,n4,A4,m4,c4,hX,hY,hR16,hXo,hYo⟩:∃(k3:Int) (o3:ByteArray) (u3 i3:Int) (t3:ByteArray) (P3 n3:Int) (A3:Option Addr) (m3 c3:Nat) (k4:Int) (o4:ByteArray) (u4 i4:Int) (t4:ByteArray) (P4 n4:Int) (A4:Option Addr) (m4 c4:Nat),X.v=.agg #[.int .i64 k3,.string o3,.int .i64 u3,.int .i64 i3,.string t3,.int .i64 P3,.int .i64 n3,.slice A3 m3 c3]/\Y.v=.agg #[.int .i64 k4,.string o4,.int .i64 u4,.int .i64 i4,.string t4,.int .i64 P4,.int .i64 n4,.slice A4 m4 c4]/\JA wr2 XB (r*16) (.int .i64 k3) (.string o3) (.int .i64 u3) (.int .i64 i3) (.string t3) (.int .i64 P3) (.int .i64 n3) (.slice A3 m3 c3) (.int .i64 k4) (.string o4) (.int .i64 u4) (.int .i64 i4) (.string t4) (.int .i64 P4) (.int .i64 n4) (.slice A4 m4 c4)/\X.ok wa/\Y.ok wa:=by
      have hb:=HX.out.1.fr hfr (by simp)
      rcases hcase with⟨rfl,rfl,rfl⟩|⟨rfl,rfl,rfl⟩|⟨rfl,rfl,rfl⟩
      ·exact⟨_,_,_,_,_,_,_,_,_,_,_,_,_,_,_,_,_,_,_,_,HAV.out.1,HBV.out.1,⟨hb.c _,hb.c _,hb.c _,hb.c _,hb.c _,hb.c _,hb.c _,hb.c _,hb.c _,hb.c _,hb.c _,hb.c _,hb.c _,hb.c _,hb.c _,hb.c _⟩,HA.out.2.2.2.1,HA.out.2.2.2.2.1⟩
      ·exact⟨_,_,_,_,_,_,_,_,_,_,_,_,_,_,_,_,_,_,_,_,HBV.out.1,HAV.out.1,⟨hb.c _,hb.c _,hb.c _,hb.c _,hb.c _,hb.c _,hb.c _,hb.c _,hb.c _,hb.c _,hb.c _,hb.c _,hb.c _,hb.c _,hb.c _,hb.c _⟩,HA.out.2.2.2.2.1,HA.out.2.2.2.1⟩
      ·exact⟨_,_,_,_,_,_,_,_,_,_,_,_,_,_,_,_,_,_,_,_,HAV.out.1,HAV.out.1,⟨hb.c _,hb.c _,hb.c _,hb.c _,hb.c _,hb.c _,hb.c _,hb.c _,hb.c _,hb.c _,hb.c _,hb.c _,hb.c _,hb.c _,hb.c _,hb.c _⟩,HA.out.2.2.2.1,HA.out.2.2.2.1⟩
     have hCol:∀W,Fr [] vx W->Calls prog 28 #[.agg (eO rt).toArray,.agg #[.int .i64 k3,.string o3,.int .i64 u3,.int .i64 i3,.string t3,.int .i64 P3,.int .i64 n3,.slice A3 m3 c3],.agg #[.int .i64 k4,.string o4,.int .i64 u4,.int .i64 i4,.string t4,.int .i64 P4,.int .i64 n4,.slice A4 m4 c4]] W (λe w'=>∃xx yy:Nm,e=.returned (.tuple #[fg xx,fg yy,.bool col])/\Fr [] W w'/\if col=true then xx≠yy/\j7 xx=j7 yy/\xx.length<=5000000/\yy.length<=5000000 else xx=[]/\yy=[]):=λW hW=>by
      have h:=vT rt hr32 X Y W (HOK.out.fr0 (HA.out.1.then (HX.out.2.1.then hW))) (hXo.fr0 (HX.out.2.1.then hW)) (hYo.fr0 (HX.out.2.1.then hW));rw[hX,hY]at h;refine h.mono λe w' h=>?_
      cases col with
      | true =>
       obtain⟨xx,yy,h1,h2,h3⟩:=h.1 (hK.2 rfl)
       exact⟨xx,yy,h1,h2,by rw[if_pos rfl];exact h3⟩
      | false =>
       obtain⟨h1,h2⟩:=h.2 (λhk=>by cases hK.1 hk);exact⟨[],[],h1,h2,by rw[if_neg (by simp)];exact⟨rfl,rfl⟩⟩
     have hKE:KX rt a b2->n2=(m:Int)/\ea=0/\eb=0/\d=true:=λh=>⟨by rw[<-HEAB.out.1,<-HEAB.out.2.1];exact h.1.symm,HEAB.out.2.2.1.symm.trans h.2.1,HEAB.out.2.2.2.symm.trans h.2.2.1,HDB.out.2 h.2.2.2⟩;have hQ2:=λhk (W:World) (hW:Fr [] vx W)=>hQ hk W (HA.out.2.2.2.1.fr0 (HX.out.2.1.then hW)) (HA.out.2.2.2.2.1.fr0 (HX.out.2.1.then hW));rw[hX,hY]at hQ2;obtain⟨qz0,qz1,qz2,qz3,qz4,qz5,qz6,qz7,qz8,qz9,qz10,qz11,qz12,qz13,qz14,qz15⟩:=hR16;have HCOL:=Hd hCol;have HQ:=Hd hQ2;have HK:=Hd (An hKC hKE);have HFR:=Hd hfr;have hrl:(r:Int)<3:=by omega
     clear hCol hQ hQ2 hKC hKE hfr hX hY hXo hYo hK hcase
     as_aux_lemma =>
      go_upto_region 23 with fail
      obtain⟨w7',hw7⟩:=eR ((wr2).alloc (.cells #[.int .i64 k3,.string o3,.int .i64 u3,.int .i64 i3,.string t3,.int .i64 P3,.int .i64 n3,.slice A3 m3 c3,.int .i64 k4,.string o4,.int .i64 u4,.int .i64 i4,.string t4,.int .i64 P4,.int .i64 n4,.slice A4 m4 c4] 75));have hz7:(w7').heap.size=wr2.heap.size+1:=by rw[<-hw7,jZ];try omega
      have n7:BoxN w7' (wr2.heap.size) 75 #[.int .i64 k3,.string o3,.int .i64 u3,.int .i64 i3,.string t3,.int .i64 P3,.int .i64 n3,.slice A3 m3 c3,.int .i64 k4,.string o4,.int .i64 u4,.int .i64 i4,.string t4,.int .i64 P4,.int .i64 n4,.slice A4 m4 c4]:=by have h0:=BoxN.new (wr2) 75 #[.int .i64 k3,.string o3,.int .i64 u3,.int .i64 i3,.string t3,.int .i64 P3,.int .i64 n3,.slice A3 m3 c3,.int .i64 k4,.string o4,.int .i64 u4,.int .i64 i4,.string t4,.int .i64 P4,.int .i64 n4,.slice A4 m4 c4];rw[hw7]at h0;rw[show wr2.heap.size=(wr2).heap.size from by first|rfl|omega];exact h0
      have f7:Fr [] (wr2) w7':=by rw[<-hw7];exact(Fq [] (wr2)).alloc _
      try rw[hw7]
      obtain⟨YB,hYB⟩:=eR (wr2.heap.size);rw[hYB]at n7 ⊢;clear qz0 qz1 qz2 qz3 qz4 qz5 qz6 qz7 qz8 qz9 qz10 qz11 qz12 qz13 qz14 qz15;obtain⟨qz0,qz1,qz2,qz3,qz4,qz5,qz6,qz7,qz8,qz9,qz10,qz11,qz12,qz13,qz14,qz15⟩:=n7.m16;have hf7:=HFR.out.then f7;have HRT3:=Hd (fw (eT HX.out.2.2 hf7 (by simp)) hr32);have H7:=Hd (An n7 hf7);clear n7 hw7 f7 hz7 hYB hf7
      go_upto_region 24 with(first|(refine fG (by rfl) ?_;(with_reducible refine wp_load_mid 57 (.tmp 14) rfl D1 0 rfl (eO rt) (.array 32 5) HRT3.out (by kernel_rfl) rfl (by rw[hcr];kernel_rfl) ?_))|(go_at_call 28;(with_reducible refine(HCOL.out _ H7.out.2).mono ?_);rintro e w8' ⟨xx,yy,rfl,hf8,hxy⟩;have H8':=Hd (H7.out.2.then hf8);have HY8:=Hd (H7.out.1.fr hf8 (by simp));have HXY:=Hd hxy;clear hf8 hxy))
      clear qz0 qz1 qz2 qz3 qz4 qz5 qz6 qz7 qz8 qz9 qz10 qz11 qz12 qz13 qz14 qz15
      cases col with
      | true =>
       have HKK:=Hd (HK.out.1 rfl);obtain⟨rfl,rfl,rfl,rfl⟩:=HK.out.2 HKK.out;have hxy:=HXY.out;rw[if_pos rfl]at hxy;have HXY:=Hd hxy;clear hxy;have hS1:=λ(W:World) (hW:Fr [] vx W)=>oz xx W (HOK.out.fr0 (HA.out.1.then (HX.out.2.1.then hW))) (by have:=HXY.out.2.2.1;omega);have hS2:=λ(W:World) (hW:Fr [] vx W)=>oz yy W (HOK.out.fr0 (HA.out.1.then (HX.out.2.1.then hW))) (by have:=HXY.out.2.2.2;omega);rw[<-HXY.out.2.1]at hS2;obtain⟨xb,hxb1,hxb2,_⟩:=eS xx;obtain⟨yb,hyb1,hyb2,_⟩:=eS yy;rw[hxb1]at hS1;rw[hyb1]at hS2;rw[hxb1,hyb1];have hxne:(xb.toList == yb.toList)=false:=beq_eq_false_iff_ne.2 λe=>HXY.out.1 (by rw[ByteArray.toList_eq,ByteArray.toList_eq,hxb2,hyb2]at e;exact e);unfold fN fo at hS1 hS2;obtain⟨dg,hdg⟩:=eR (j7 xx);have hdg32:dg.length=32:=by rw[<-hdg];exact fy xx
       rw[hdg]at hS1 hS2;have hne:=λW=>nh W hdg32;have HS1:=Hd hS1;have HS2:=Hd hS2;clear hS1 hS2 hxb1 hxb2 hyb1 hyb2 hdg hdg32
       go_upto_region 26 with(first|(go_at_call 29;(with_reducible refine(HS1.out _ H8'.out).mono ?_);rintro e w9' ⟨rfl,hf9⟩;have H9':=Hd (An (H8'.out.then hf9) (HY8.out.fr hf9 (by simp)));clear hf9)|(go_at_call 29;(with_reducible refine(HS2.out _ H9'.out.1).mono ?_);rintro e wA' ⟨rfl,hf9⟩;have HA':=Hd (An (H9'.out.1.then hf9) (H9'.out.2.fr hf9 (by simp)));clear hf9))
       obtain⟨qz0,qz1,qz2,qz3,qz4,qz5,qz6,qz7,qz8,qz9,qz10,qz11,qz12,qz13,qz14,qz15⟩:=HA'.out.2.m16;have x6:wA'.cell? ⟨RA,6,none⟩=some (.int .i64 (m:Int)):=(HA.out.2.1.fr (HX.out.2.1.then HA'.out.1) (by simp)).c 6;have y6:wA'.cell? ⟨RB,6,none⟩=some (.int .i64 (m:Int)):=(HA.out.2.2.1.fr (HX.out.2.1.then HA'.out.1) (by simp)).c 6
       go_wp2_with (go_at_call 15;(with_reducible refine(HQ.out HKK.out _ HA'.out.1).mono ?_);rintro e wB' ⟨rfl,hfB⟩;have HB':=Hd (HA'.out.1.then hfB);clear hfB)
       go_roundw
       case rel=>exact⟨r+1,by omega,by go_num,HB'.out⟩
       case measure=>simp[intOf];omega
      | false =>
       have hxy:=HXY.out;rw[if_neg (by simp)]at hxy;obtain⟨rfl,rfl⟩:=hxy;simp only[show fg []=.string ⟨#[]⟩from rfl]
       go_upto_region 26 with fail
       obtain⟨qz0,qz1,qz2,qz3,qz4,qz5,qz6,qz7,qz8,qz9,qz10,qz11,qz12,qz13,qz14,qz15⟩:=HY8.out.m16;have x6:w8'.cell? ⟨RA,6,none⟩=some (.int .i64 (m:Int)):=(HA.out.2.1.fr (HX.out.2.1.then H8'.out) (by simp)).c 6;have y6:w8'.cell? ⟨RB,6,none⟩=some (.int .i64 n2):=(HA.out.2.2.1.fr (HX.out.2.1.then H8'.out) (by simp)).c 6
       by_cases hk:KX rt a b2
       ·obtain⟨rfl,rfl,rfl,rfl⟩:=HK.out.2 hk
        have HKK:=Hd hk;clear hk
        go_wp2_with (go_at_call 15;(with_reducible refine(HQ.out HKK.out _ H8'.out).mono ?_);rintro e wB' ⟨rfl,hfB⟩;have HB':=Hd (H8'.out.then hfB);clear hfB)
        go_roundw
        case rel=>exact⟨r+1,by omega,by go_num,HB'.out⟩
        case measure=>simp[intOf];omega
       have HNC:=Hd hk;clear hk
       by_cases g1:ea=0
       case neg =>
        have g1':(ea == 0)=false:=by simpa using g1
        go_wp2_with fail
        go_roundw
        case rel=>exact⟨r+1,by omega,by go_num,H8'.out⟩
        case measure=>simp[intOf];omega
       subst g1
       by_cases g2:eb=0
       case neg =>
        have g2':(eb == 0)=false:=by simpa using g2
        go_wp2_with fail
        go_roundw
        case rel=>exact⟨r+1,by omega,by go_num,H8'.out⟩
        case measure=>simp[intOf];omega
       subst g2
       by_cases g3:(m:Int)=n2
       case neg =>
        have g3':((m:Int) == n2)=false:=by simpa using g3
        go_wp2_with fail
        go_roundw
        case rel=>exact⟨r+1,by omega,by go_num,H8'.out⟩
        case measure=>simp[intOf];omega
       have g4:d=false:=by
        cases hdd:d with
        | false=>rfl
        | true=>exact absurd ⟨HEAB.out.1.trans (g3.trans HEAB.out.2.1.symm),HEAB.out.2.2.1,HEAB.out.2.2.2,HDB.out.1 hdd⟩ HNC.out
       subst g4 g3
       go_wp2_with fail
       go_roundw
       case rel=>exact⟨r+1,by omega,by go_num,H8'.out⟩
       case measure=>simp[intOf];omega
open Go.RowKit Go.ChangeShapes Go.WideShapes Go.Deep Go.Joins
def td{H:Type}{enc:TypeId × Value->H}{a:Assume}{C:Checked}{os:Os}{f:FuncId}{fn:Func}{s:ChangeSpec}{conds:List PathCond}{apart fresh handsOn again:Bool}{laid:List (String × DataW Unit)}
 (own:ownKnob C.prog.godebug=none) (started:os.Started) (noInit:C.prog.inits.idxOf? f=none) (hfn:C.prog.funcs[f]?=some fn)
 (witness:∃(w:World) (tape:Tape) (i:Input),w.os=os/\(w.forCall tape i).Shaped C.prog/\i.vars=[]/\Input.okWide C.prog (w.forCall tape i) .any w.heap.size f i /\
  ((s.pre enc C.prog fn conds apart (w.forCall tape i).memory i.args/\laidMetH C.prog laid (w.forCall tape i).memory)/\sizedMet enc C.prog fn (OpenSpec.ofChange s) apart (w.forCall tape i).memory i.args)/\a.holds C.prog (lone (Frame.enter C.prog f i.args .normal) [] (w.forCall tape i)))
 (contract:∀(W:World) (base:Nat) (args:Array Value) (ds gs:List (DataW H)) (before:List MemPlace),
  (∀(j:Nat) t v,fn.params[j]?=some t->args[j]?=some v->Value.okWide C.prog W .any base t v) ->
  DataW.Whole enc C.prog fn.params.toList s.vars apart W args.toList ds gs before ->
  (DataW.weightsEach C.prog (fn.params.toList++s.plain.varTypes C.prog) (ds++gs)).all (·<=reachBytes)=true ->
  laidMetH C.prog laid W->W.ShapedOpen C.prog ->
  Calls C.prog f args W λe W'=>∃v,e=.returned v/\s.post enc C.prog fn apart fresh handsOn again W args v W') :
 ReturnsInHanded a C os f .any (λw args=>(s.pre enc C.prog fn conds apart w args/\laidMetH C.prog laid w)/\sizedMet enc C.prog fn (OpenSpec.ofChange s) apart w args) (s.post enc C.prog fn apart fresh handsOn again) :=
 returnsInHanded_of_row (s:=OpenSpec.ofChange s) (F:=λ_ _ _=>0) (conds:=conds) (laid:=laid) own started noInit hfn witness
  λW base args ds gs before h1 h2 _ _ h5 h6 h7 _=>contract W base args ds gs before h1 h2 h5 h6 h7
def Tryz.own:ownKnob prog.godebug=none:=by kernel_rfl
def Tryz.laidOut:laidOutB prog=true:=by kernel_rfl
def E8{H:Type}{enc:TypeId × Value->H}{w:World}{r:Reach}{b0:Nat}{v:Value}{d:DataW H}{p:List MemPlace}(hv:Value.okWide prog w r b0 24 v)(h:DataW.Trod enc prog w 0 (λ_=>true) true 24 v d p):
 ∃a b c:Int,v=.agg #[.int .u8 a,.int .u8 b,.int .u8 c]/\(0<=a/\a<256)/\(0<=b/\b<256)/\(0<=c/\c<256):=by
 obtain⟨cs,rfl,hsz⟩:=okWide_struct underlying24 hv;obtain⟨l⟩:=cs;have hC:prog.cellsOf 24=3:=by kernel_rfl
 match l,hsz.trans hC with
 | [c0,c1,c2],_ =>
  obtain⟨fuel,hf⟩:=h;obtain⟨xs,n,_,hx,_,hxl,hg⟩:=DataW.trod_struct underlying24 hf;have q:∀j,j<3->∃y,xs[j]?=some y:=λj hj=>⟨_,gg (by rw[hxl];exact hj)⟩;obtain⟨y0,e0⟩:=q 0 (by omega);obtain⟨y1,e1⟩:=q 1 (by omega);obtain⟨y2,e2⟩:=q 2 (by omega);have k3:prog.cellsOf 5=1:=by kernel_rfl
  have f0:DataW.trod enc prog w 0 (λ_=>true) true n 5 (([c0,c1,c2].drop 0).take (prog.cellsOf 5))=some y0:=(hg 0 _ rfl).trans e0;have f1:DataW.trod enc prog w 0 (λ_=>true) true n 5 (([c0,c1,c2].drop 1).take (prog.cellsOf 5))=some y1:=(hg 1 _ rfl).trans e1;have f2:DataW.trod enc prog w 0 (λ_=>true) true n 5 (([c0,c1,c2].drop 2).take (prog.cellsOf 5))=some y2:=(hg 2 _ rfl).trans e2;rw[k3]at f0 f1 f2;obtain⟨a0,g0,_,w0⟩:=DataW.trod_int underlying5 f0;obtain⟨a1,g1,_,w1⟩:=DataW.trod_int underlying5 f1;obtain⟨a2,g2,_,w2⟩:=DataW.trod_int underlying5 f2;simp at g0 g1 g2;subst g0 g1 g2;exact⟨a0,a1,a2,rfl,kz w0,kz w1,kz w2⟩
def GR{H:Type}{enc:TypeId × Value->H}{w:World}{r:Reach}{b0:Nat}{v:Value}{d:DataW H}{p:List MemPlace}(hv:Value.okWide prog w r b0 73 v)(h:DataW.Trod enc prog w 0 (λ_=>true) true 73 v d p):
 ∃(a b c:Nat) (s:ByteArray),v=.agg #[.int .u8 (a:Int),.int .u8 (b:Int),.int .u8 (c:Int),.string s]/\a<256/\b<256/\c<256:=by
 obtain⟨cs,rfl,hsz⟩:=okWide_struct underlying73 hv;obtain⟨l⟩:=cs;have hC:prog.cellsOf 73=4:=by kernel_rfl
 match l,hsz.trans hC with
 | [c0,c1,c2,c3],_ =>
  obtain⟨fuel,hf⟩:=h;obtain⟨xs,n,_,hx,_,hxl,hg⟩:=DataW.trod_struct underlying73 hf;have q:∀j,j<4->∃y,xs[j]?=some y:=λj hj=>⟨_,gg (by rw[hxl];exact hj)⟩;obtain⟨y0,e0⟩:=q 0 (by omega);obtain⟨y1,e1⟩:=q 1 (by omega);obtain⟨y2,e2⟩:=q 2 (by omega);obtain⟨y3,e3⟩:=q 3 (by omega);have k3:prog.cellsOf 5=1:=by kernel_rfl
  have k9:prog.cellsOf 9=1:=by kernel_rfl
  have f0:DataW.trod enc prog w 0 (λ_=>true) true n 5 (([c0,c1,c2,c3].drop 0).take (prog.cellsOf 5))=some y0:=(hg 0 _ rfl).trans e0;have f1:DataW.trod enc prog w 0 (λ_=>true) true n 5 (([c0,c1,c2,c3].drop 1).take (prog.cellsOf 5))=some y1:=(hg 1 _ rfl).trans e1;have f2:DataW.trod enc prog w 0 (λ_=>true) true n 5 (([c0,c1,c2,c3].drop 2).take (prog.cellsOf 5))=some y2:=(hg 2 _ rfl).trans e2;have f3:DataW.trod enc prog w 0 (λ_=>true) true n 9 (([c0,c1,c2,c3].drop 3).take (prog.cellsOf 9))=some y3:=(hg 3 _ rfl).trans e3;rw[k3]at f0 f1 f2;rw[k9]at f3;obtain⟨a0,g0,_,w0⟩:=DataW.trod_int underlying5 f0;obtain⟨a1,g1,_,w1⟩:=DataW.trod_int underlying5 f1;obtain⟨a2,g2,_,w2⟩:=DataW.trod_int underlying5 f2;obtain⟨s3,g3,_,_⟩:=DataW.trod_string underlying9 f3;simp at g0 g1 g2 g3;subst g0 g1 g2 g3;have b0:=kz w0;have b1:=kz w1;have b2:=kz w2;exact⟨a0.toNat,a1.toNat,a2.toNat,s3,by rw[Int.toNat_of_nonneg b0.1,Int.toNat_of_nonneg b1.1,Int.toNat_of_nonneg b2.1],by omega,by omega,by omega⟩
def rG{H:Type}{enc:TypeId × Value->H}(W:World)(base:Nat)(args:Array Value)(ds gs:List (DataW H))(before:List MemPlace)
 (hval0:∀(j:Nat) t v,Tryz.f8.params[j]?=some t->args[j]?=some v->Value.okWide prog W .any base t v)
 (hW:DataW.Whole enc prog Tryz.f8.params.toList Rows.receiptCollidesSpec.vars false W args.toList ds gs before)
 (hsz0:(DataW.weightsEach prog (Tryz.f8.params.toList++Rows.receiptCollidesSpec.plain.varTypes prog) (ds++gs)).all (·<=reachBytes)=true)
 (hL:laidMetH prog qp W) (hsh:W.ShapedOpen prog) :
 Calls prog 8 args W λe W'=>∃v,e=.returned v/\Rows.receiptCollidesSpec.post enc prog Tryz.f8 false true false false W args v W':=by
 have hval:=hval0;have hW':=hW;have hsz:=hsz0;obtain⟨p,q,hA,hV0,rfl,_,_⟩:=hW;rw[params8]at hA hval hsz;obtain⟨v0,v1,v2,d0,d1,d2,p0,p1,p2,rfl,rfl,rfl,h0,h1,h2⟩:=trodAll_three hA;obtain⟨rfl,rfl⟩:=trodVars_none hV0;clear hV0 hval0 hsz0;simp only[List.append_nil]at hW' hsz;have hlt:∀x∈p0++p1++p2,x.block<W.heap.size:=λx hx=>by simpa using hW'.lt x hx
 have hf0:Fits 22 d0:=λk hk=>by
  have:=List.all_eq_true.1 hsz k (DataW.weights_mem_each (t:=22) (j:=0) rfl rfl k hk);simpa using this
 obtain⟨A,c,l,rfl,hl⟩:=FE (hval 0 22 v0 rfl rfl) hf0 h0;obtain⟨af,nmi,at_,rfl,b1,b2,b3⟩:=E8 (hval 1 24 v1 rfl rfl) h1;obtain⟨kd,ta,bb,tx,rfl,b4,b5,b6⟩:=GR (hval 2 73 v2 rfl rfl) h2;have hok:=IQ hsh hL;refine(uR A c l af nmi at_ kd ta bb tx b1 b2 b3 b4 b5 b6 W hok hl).mono ?_;rintro e W' ⟨rfl,hfr⟩;have bel:=hfr.below0;have e1:Rows.receiptCollidesSpec.fn H ([d0,d1,d2]++[])={ results:=[.lit (.bool true)],args:=[d0,d1,d2] }:=rfl;refine⟨_,rfl,_,_,_,[],p0++p1++p2,[],hW',?_,?_,?_,bel.frame _,λh=>by cases h⟩
 ·rw[e1];exact trodAll_mk1 (shut_bool underlying4 true)
 ·rw[e1,params8,List.append_assoc];exact trodAll_mk3 (Below.trod Tryz.laidOut (by kernel_rfl) (of_decide_eq_true (by kernel_rfl)) h0 bel (λx hx=>hlt x (by simp[hx]))) (Below.trod Tryz.laidOut (by kernel_rfl) (of_decide_eq_true (by kernel_rfl)) h1 bel (λx hx=>hlt x (by simp[hx]))) (Below.trod Tryz.laidOut (by kernel_rfl) (of_decide_eq_true (by kernel_rfl)) h2 bel (λx hx=>hlt x (by simp[hx])))
 ·rw[e1];rfl
def o0(os:Os){H:Type}(enc:TypeId × Value->H):∃(w:World) (tape:Tape) (i:Input),w.os=os/\(w.forCall tape i).Shaped prog/\i.vars=[]/\Input.okWide prog (w.forCall tape i) .any w.heap.size 8 i /\
 ((Rows.receiptCollidesSpec.pre enc prog Tryz.f8 [] false (w.forCall tape i).memory i.args/\laidMetH prog qp (w.forCall tape i).memory)/\sizedMet enc prog Tryz.f8 (OpenSpec.ofChange Rows.receiptCollidesSpec) false (w.forCall tape i).memory i.args)/\({ modest:=false }:Assume).holds prog (lone (Frame.enter prog 8 i.args .normal) [] (w.forCall tape i)) :=
 ChangeSpec.witness_shaped (enc:=enc) (C:=Tryz.checked) (os:=os) (X:=λw _=>laidMetH prog qp w) false (World.laidAll prog os qp) #[.slice none 0 0,.agg #[.int .u8 0,.int .u8 0,.int .u8 0],.agg #[.int .u8 0,.int .u8 0,.int .u8 0,.string ⟨#[]⟩]] 8 (World.laidAll_os _ _ _) (World.shaped_of_ZipB (by kernel_rfl) (by kernel_rfl)) (by kernel_rfl) (by kernel_rfl) (by kernel_rfl) (by rw[MakeChecks.laidMetH_plain _ _ _ (by kernel_rfl)];exact laidMet_laidAll _ (by kernel_rfl) (by kernel_rfl))
def qy(os:Os)(started:os.Started)(H:Type)(enc:TypeId × Value->H):
 ReturnsInHanded {} Tryz.checked os 8 .any (λw args=>(Rows.receiptCollidesSpec.pre enc prog Tryz.f8 [] false w args/\laidMetH prog qp w)/\sizedMet enc prog Tryz.f8 (OpenSpec.ofChange Rows.receiptCollidesSpec) false w args)
  (Rows.receiptCollidesSpec.post enc prog Tryz.f8 false true false false) :=
 td (C:=Tryz.checked) (s:=Rows.receiptCollidesSpec) (conds:=[]) (laid:=qp) Tryz.own started (by kernel_rfl) func8 (o0 os enc) rG
def vX:(Rows.receiptCollidesRow.inPlace == prog.inPlace 8)=true:=by kernel_rfl
def vY:(Rows.receiptCollidesRow.unfollowed == prog.unfollowed 8)=true:=by kernel_rfl
def vZ:(Rows.receiptCollidesRow.recurses == prog.recurses 8)=true:=by kernel_rfl
def we:(Rows.receiptCollidesRow.named == prog.varsNamed 8)=true:=by kernel_rfl
def rH:joinedFacts prog 8 Tryz.f8 Rows.receiptCollidesSpec Rows.receiptCollidesRow=true:=by
 unfold joinedFacts;rw[vX,vY,vZ,we]
 kernel_rfl
def te:false=Rows.receiptCollidesRow.goesBy prog:=by kernel_rfl
def tf:Rows.ReceiptCollidesSaid :=
 OpenClaim.holds_of_wide 8 Tryz.f8 rfl rfl rfl rfl rfl rfl rfl ⟨rfl,rfl,rfl,rfl,rfl⟩ rfl rfl rfl rfl rfl (by kernel_rfl) func8 rH
  (of_decide_eq_true (by kernel_rfl)) (by unfold Func.isWrapper;rw[if_neg (of_decide_eq_false (by kernel_rfl))];exact⟨rfl,rfl⟩)
  (λos started H enc _=>qy os started H enc)
theorem receiptCollides_card:Rows.ReceiptCollidesCardSaid :=
 Claim7.holds_tied_plain_at .later [] [.data, .data, .data] true (true, "57061b68ad7336fc6bdaa26409ad1cf0e60500f7215cca129de044d70fe20d39") false
  tf (λ_ h=>by cases h) (by kernel_rfl) (λ_ h=>by cases h) receiptCollides_row_tie rfl ⟨rfl,rfl⟩ (by kernel_rfl) rfl
  (λf fn hf hfn=>by
   obtain rfl : f = 8 := Option.some.inj ((show prog.funcNamed "replevin/replevinlaw55.ReceiptCollides" = some 8 by kernel_rfl).symm.trans hf) |>.symm;obtain rfl:fn=Tryz.f8:=(Option.some.inj (func8.symm.trans hfn)).symm
   exact⟨by kernel_rfl,λj t ht=>by
    rw[params8]at ht;have hm:t∈[22,24,73]:=by simpa using Array.mem_of_getElem? ht
    have hall:([22,24,73].all λu=>!prog.wantsStandIn u)=true:=by kernel_rfl
    exact(show prog.wantsStandIn t=false by simpa using List.all_eq_true.1 hall t hm)⟩)
  te
#print axioms receiptCollides_card
end Go.Proofs.YtlpmiimgacfmkaaGreatDoor
