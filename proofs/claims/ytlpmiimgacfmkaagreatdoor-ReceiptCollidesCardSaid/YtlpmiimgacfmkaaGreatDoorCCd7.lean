/- Part of the proof. -/
import Derived.Shelf.Spec.SlicesInsertGrow
import Derived.Test.YtlpmiimgacfmkaaGreatDoorCWi
set_option linter.all false
set_option maxHeartbeats 4000000
set_option maxRecDepth 100000
namespace Go.Proofs.YtlpmiimgacfmkaaGreatDoor
open Go.Proofs.Tryz List
open Go.RowKit
structure PX where
 i:Int
 n:Int
 s:Nm
 A:Option Addr
 c:Nat
 d:List Nm
def PX.cs(p:PX):List Value:=[.int .i64 p.i,.int .i64 p.n,fg p.s,.slice p.A p.d.length p.c]
def iP(p:PX):p.cs.length=4:=rfl
structure PX.ok(p:PX):Prop where
 i:-1000<=p.i/\p.i<=1000
 n:1<=p.n/\p.n<=13
 s:p.s.length<=2000000
 d:0<p.d.length/\p.d.length<=1000
 e:∀x∈p.d,x.length=32
structure PrX(w:World)(A:Option Addr)(c:Nat)(ps:List PX):Prop where
 own:Own w 53 4 A ps.length c (ps.flatMap PX.cs)
 ds:∀p∈ps,Own w 57 32 p.A p.d.length p.c (p.d.flatMap eO)
def PrX.fr0{w w':World}{A:Option Addr}{c:Nat}{ps:List PX}(h:PrX w A c ps)(hf:Fr [] w w'):PrX w' A c ps:=⟨h.own.fr hf (by simp),λp hp=>(h.ds p hp).fr hf (by simp)⟩
def lK(rt:Nm)(p:PX):Except Int AG:=if p.i<0 \/ p.n<=p.i then .error 2 else qh rt p.i.toNat p.n.toNat p.s p.d
def vH(rt s:Nm)(i n:Int)(N:Nat)(A:Option Addr)(c:Nat)(w:World)(hr32:rt.length=32)(hn:1<=n/\n<=13)(hi:-1000<=i/\i<=1000)(hb:i<0 \/ n<=i):
 Calls prog 66 #[fo rt,.agg #[.int .i64 i,.int .i64 n,fg s,.slice A N c]] w (fi w (.tuple #[Dd,.int .i64 2])):=by
 have hcr:(eO rt).length=32:=by rw[eP,hr32]
 have⟨tx,htx⟩:=eR ((⟨s.toArray⟩:ByteArray));unfold fg fo;rw[htx];have⟨w1,hw1⟩:=eR ((w).alloc (.cells (eO rt).toArray 57));have hz1:(w1).heap.size=w.heap.size+1:=by rw[<-hw1,jZ];try omega
 have n1:(w1).rowIs (w.heap.size) 57 32 (λj=>.int .u8 ((rt.getD j 0).toNat:Int)):=by have h0:=gX (t:=57) (w) hcr;rw[show w.heap.size=(w).heap.size from by first|rfl|omega,<-hw1];exact h0
 have f1:Fr [] (w) w1:=by rw[<-hw1];exact(Fq [] (w)).alloc _
 have⟨w2,hw2,hz2,n2,f2⟩:=ir w1 #[.int .i64 i,.int .i64 n,.string tx,.slice A N c] 53 (w.heap.size+1);have⟨w3,hw3,hz3,n3,f3⟩:=ir w2 #[.int .i64 0,.int .i64 0,.int .i64 0,.string ⟨#[]⟩,.slice none 0 0,.slice none 0 0] 91 (w.heap.size+1+1);have m2:=n2.fr f3 (by simp);have⟨x0,x1⟩:=m2.m2;have⟨z0,z1,z2,z3,z4,z5⟩:=n3.m6;have g0:=n3.f 0;have g1:=n3.f 1;have g2:=n3.f 2;have g3:=n3.f 3;have g4:=n3.f 4;have g5:=n3.f 5;have hg1:decide (n<1)=false:=by simp;omega
 have hg2:decide ((65536:Int)<n)=false:=by simp;omega
 have HW:=Hd (An hw1 (An hw2 hw3));have HF:=Hd ((f1.then f2).then f3);have HN3:=Hd n3;clear hw1 hw2 hw3 n1 n2 n3 m2 f1 f2 f3 hz1 hz2 hz3
 go_enter func66,ntmps66
 go_upto_region 1 with fail
 rw[HW.1,HW.2.1,HW.2.2]
 by_cases hi0:i<0
 ·have hg3:decide (i<0)=true:=by simpa using hi0
  go_wp2
  have⟨Z9,hW2,n9,f9⟩:=rn (w3) (w.heap.size+1+1) HN3.out (.int .i64 0) (.int .i64 0) (.int .i64 0) (.string ⟨#[]⟩) (.slice none 0 0) (.slice none 0 0);rw[hW2];clear hW2;have⟨t0,t1,t2,t3,t4,t5⟩:=n9.m6;refine bodyPost_ret (v:=.tuple #[.agg #[.int .i64 0,.int .i64 0,.int .i64 0,.string ⟨#[]⟩,.slice none 0 0,.slice none 0 0],.int .i64 2]) (by simp[results,results66,go_sem,t0,t1,t2,t3,t4,t5]) rfl ?_;exact⟨rfl,HF.trans f9 (by simp;omega)⟩
 ·have hg3:decide (i<0)=false:=by simpa using hi0
  have hg4:decide (n<=i)=true:=by simp;omega
  go_wp2
  have⟨Z9,hW2,n9,f9⟩:=rn (w3) (w.heap.size+1+1) HN3.out (.int .i64 0) (.int .i64 0) (.int .i64 0) (.string ⟨#[]⟩) (.slice none 0 0) (.slice none 0 0);rw[hW2];clear hW2;have⟨t0,t1,t2,t3,t4,t5⟩:=n9.m6;refine bodyPost_ret (v:=.tuple #[.agg #[.int .i64 0,.int .i64 0,.int .i64 0,.string ⟨#[]⟩,.slice none 0 0,.slice none 0 0],.int .i64 2]) (by simp[results,results66,go_sem,t0,t1,t2,t3,t4,t5]) rfl ?_;exact⟨rfl,HF.trans f9 (by simp;omega)⟩
def vI(rt:Nm)(p:PX)(w:World)(hok:Ok w)(hr32:rt.length=32)(hp:p.ok)(ho:Own w 57 32 p.A p.d.length p.c (p.d.flatMap eO)):
 Calls prog 66 #[fo rt,.agg p.cs.toArray] w (ze w (lK rt p)):=by
 unfold lK
 by_cases hb:p.i<0 \/ p.n<=p.i
 ·rw[if_pos hb]
  exact vH rt p.s p.i p.n p.d.length p.A p.c w hr32 hp.n hp.i hb
 ·rw[if_neg hb]
  have h:=BW rt p.s p.d p.i.toNat p.n.toNat p.d.length p.A p.c w hok hr32 hp.s (by omega) (by have:=hp.n;omega) hp.d.1 hp.d.2 rfl hp.e ho;rw[show ((p.i.toNat:Nat):Int)=p.i by omega,show ((p.n.toNat:Nat):Int)=p.n by have:=hp.n;omega]at h;exact h
def tA{rt:Nm}{p:PX}{k:Int}(h:lK rt p=.error k):k=2 \/ k=3 \/ k=35:=by
 unfold lK qh at h;split at h
 ·injection h with h;exact .inl h.symm
 ·split at h
  ·injection h with h;exact .inr (.inl h.symm)
  ·split at h
   ·cases h
   ·injection h with h;exact .inr (.inr h.symm)
def uH(rt:Nm)(n:Int)(ps:List PX):Nat->Except Int (List AG)
 | 0=>.ok []
 | j+1=>match uH rt n ps j with
  | .error k=>.error k
  | .ok l=>match ps[j]? with
   | none=>.ok l
   | some p=>if p.n≠n then .error 3 else if 0<j/\(ps.map PX.i).getD j 0<=(ps.map PX.i).getD (j - 1) 0 then .error 32 else match lK rt p with
    | .error k=>.error k
    | .ok a=>.ok (l++[a])
def zw{rt:Nm}{n:Int}{ps:List PX}{k:Int}{j:Nat}(h:uH rt n ps j=.error k):∀d,uH rt n ps (j+d)=.error k
 | 0=>h
 | d+1=>by rw[<-Nat.add_assoc,uH,zw h d]
def xZ{rt:Nm}{n:Int}{ps:List PX}{k:Int}{j m:Nat}(h:uH rt n ps (j+1)=.error k)(hj:j<m):uH rt n ps m=.error k:=by
 have h2:=zw h (m - (j+1))
 rwa [show j+1+(m - (j+1))=m by omega]at h2
def Cz(rt:Nm)(nm:ON)(P n:Int)(ps:List PX):Except Int (List AG) :=
 if ps.length=0 then .error 1 else if eY nm≠0 then .error (eY nm)else if P<0 \/ 65536<=P then .error 2 else uH rt n ps ps.length
def E4(w:World)(m:Nat)(r:Except Int (List AG))(e:Ending)(w':World):Prop:=match r with
 | .error k=>e=.returned (.tuple #[.slice none 0 0,.int .i64 k])/\Fr [] w w'
 | .ok l=>∃A c ys,e=.returned (.tuple #[.slice A m c,.int .i64 0])/\ActO w' A m c ys/\ys.map AX.a=l/\Fr [] w w'/\∀q∈eX A,w.heap.size<=q
def ry(rt:Nm)(hr32:rt.length=32)(nm:ON)(so st:ByteArray)(P n:Int)(m:Nat)(A:Option Addr)(c:Nat)(ps:List PX)(w:World)(hok:Ok w)(hno:nm.owner.length<=140737488355328)(hnt:nm.text.length<=140737488355328)(hen:fu nm=.agg #[.int .i64 nm.kind,.string so,.int .i64 nm.number,.int .i64 nm.index,.string st])(hP:P<65536)(hp:PrX w A c ps)(hpo:∀p∈ps,p.ok)(hpl:ps.length=m)(hm13:m<=13):
 Calls prog 63 #[tw nm.kind so nm.number nm.index st P n (.slice A m c),fo rt] w (E4 w m (Cz rt nm P n ps)):=by
 have hV:∀(j:Nat) (p:PX),ps[j]?=some p->∀W,Fr [] w W->Calls prog 66 #[fo rt,.agg p.cs.toArray] W (ze W (lK rt p)):=λj p h W hW =>
  vI rt p W (hok.fr0 hW) hr32 (hpo p (gH h)) ((hp.ds p (gH h)).fr hW (by simp))
 have⟨vr,hvr⟩:=eR (Cz rt nm P n ps);rw[hvr];unfold Cz at hvr;rw[hpl]at hvr;have⟨ck,hck0⟩:=eR (eY nm);rw[hck0]at hvr;have hcr:(eO rt).length=32:=by rw[eP,hr32]
 have⟨kd,hkd⟩:=eR (nm.kind);have⟨nu,hnu⟩:=eR (nm.number);have⟨xx,hxx⟩:=eR (nm.index);rw[hkd,hnu,hxx]at hen ⊢;have⟨w1,hw1,hz1,n1,f1⟩:=ir w #[.int .i64 kd,.string so,.int .i64 nu,.int .i64 xx,.string st,.int .i64 P,.int .i64 n,.slice A m c] 39 w.heap.size;have⟨w2,hw2⟩:=eR (w1.alloc (.cells (eO rt).toArray 57));have hL2:w2.rowIs (w.heap.size+1) 57 32 (λj=>.int .u8 ((rt.getD j 0).toNat:Int)):=by rw[<-hw2,<-hz1];exact gX w1 hcr
 have f2:Fr [] w1 w2:=by rw[<-hw2];exact(Fq [] w1).alloc _
 have n2:=n1.fr f2 (by simp);have⟨x0,x1,x2,x3,x4,x5,x6,x7⟩:=n2.m8;have hck:=ld nm w2 (hok.fr0 (f1.then f2)) hno hnt;rw[hen,hck0]at hck;have HC:=Hd hck;have HW:=Hd (An hw1 hw2);have HN:=Hd (An n2 (An hL2 (f1.then f2)));have HOK:=Hd hok;have HP:=Hd (An hp (An hpl hpo));have HVR:=Hd hvr;have HV:=Hd hV;have hm2:decide ((4096:Int)<(m:Int))=false:=by simp;omega
 clear hV;clear hw1 hw2 n1 n2 f1 f2 hL2 hz1 hok hp hen hkd hnu hxx hck hpl hno hnt hpo hvr hck0;unfold tw fo
 go_enter func63,ntmps63
 go_upto_region 1 with fail
 rw[HW.1,HW.2]
 by_cases hm0:m=0
 ·subst hm0
  have hv:vr=.error 1:=by rw[<-HVR.out,if_pos rfl]
  subst hv
  go_wp2
  go_ret2
  exact⟨rfl,HN.2.2⟩
 have hm1:((m:Int) == 0)=false:=by simp;omega
 have HV2:=HVR.out;rw[if_neg hm0]at HV2
 by_cases hck:ck=0
 case neg =>
  have hk1:(ck == 0)=false:=by simpa using hck
  rw[if_pos hck]at HV2;subst HV2;clear HVR
  go_wp2_with (go_at_call 53;(with_reducible refine HC.out.mono ?_);rintro e w3 ⟨rfl,hf3⟩;have H3:=Hd hf3;have m3:=HN.1.fr hf3 (by simp);have y5:w3.cell? ⟨w.heap.size,5,none⟩=some (.int .i64 P):=m3.c 5;have y7:w3.cell? ⟨w.heap.size,7,none⟩=some (.slice A m c):=m3.c 7;clear hf3 m3)
  go_ret2
  exact⟨rfl,HN.2.2.then H3.out⟩
 subst hck;rw[if_neg (λh=>h rfl)]at HV2
 go_upto_region 8 with(go_at_call 53;(with_reducible refine HC.out.mono ?_);rintro e w3 ⟨rfl,hf3⟩;have H3:=Hd hf3;have m3:=HN.1.fr hf3 (by simp);have y5:w3.cell? ⟨w.heap.size,5,none⟩=some (.int .i64 P):=m3.c 5;have y7:w3.cell? ⟨w.heap.size,7,none⟩=some (.slice A m c):=m3.c 7;clear hf3 m3)
 clear x0 x1 x2 x3 x4 x5 x6 x7
 by_cases hPP:P<0 \/ 65536<=P
 ·rw[if_pos hPP]at HV2
  subst HV2;clear HVR;have hP1:decide (P<0)=true:=by simp;omega
  go_wp2
  go_ret2
  exact⟨rfl,HN.2.2.then H3.out⟩
 rw[if_neg hPP]at HV2;have hP1:decide (P<0)=false:=by simp;omega
 have hP2:decide ((65536:Int)<=P)=false:=by simp;omega
 clear HVR;have HVR:=Hd HV2;clear HV2
 go_wp2
 clear y5 y7 hP1 hP2 hm1 hm2
 go_loopw [7,40] (λs i W=>∃(j c':Nat) (A':Option Addr) (ys:List AX),j<=m/\i=.int .i64 (j:Int)/\s=.slice A' j c'/\ActO W A' j c' ys/\uH rt n ps j=.ok (ys.map AX.a)/\Fr [] w3 W/\(∀q∈eX A',w3.heap.size<=q)/\True) (λ_ i _=>m - (intOf i).toNat)
 case atStart=>exact⟨0,0,none,[],Nat.zero_le _,rfl,rfl,⟨Own.nil _ _ _,by simp,rfl⟩,rfl,Fq _ _,by simp[eX],True.intro⟩
 case round =>
  obtain⟨j,c',A',ys,hj,rfl,rfl,hao,hya,hfr,hA',hasc⟩:=hrel;have HF:=Hd (An hao (An hya (An hfr (An hA' hasc))));clear hao hya hfr hA' hasc
  by_cases hlt:j<m
  ·have hlt3:(j:Int)<(m:Int):=by omega
   have hwr3:Fr [] w wr:=HN.2.2.then (H3.then HF.2.2.1);have hrow:Row wr wr.heap.size 4 A m (ps.flatMap (PX.cs)):=by have h:=(HP.1.own.fr hwr3 (by simp)).rd;unfold Rd at h;rw[HP.2.1]at h;exact h
   obtain⟨g,off,rfl,hgl,hcl⟩:=fK (iP) hrow (by omega);obtain⟨p,hpj⟩:∃x,ps[j]?=some x:=⟨_,gg (by rw[HP.2.1];exact hlt)⟩;have hvc:=HV.out j p hpj;have hpok:=HP.2.2 p (gH hpj);have hcx:=hcl j p hpj;have hgi:(ps.map PX.i).getD j 0=p.i:=by rw[getD_eq_getElem?_getD,List.getElem?_map,hpj];rfl
   have HX:=Hd (An hpj (An trivial hgi));have⟨s,hs,_,_⟩:=eS p.s;have⟨pi,hpi⟩:=eR (p.i);have⟨pn,hpn⟩:=eR (p.n);have⟨vh,hvh⟩:=eR (lK rt p);have HVH:=Hd hvh;rw[hvh]at hvc;clear hvh;have⟨PA,hPA⟩:=eR (p.A);have⟨pd,hpd⟩:=eR (p.d.length);have⟨pc,hpc⟩:=eR (p.c);unfold PX.cs at hcx hvc;unfold fo at hvc;rw[hs,hpi,hpn,hPA,hpd,hpc]at hcx hvc;have z0:wr.cell? ⟨g,off+j*4,none⟩=some (.int .i64 pi):=hcx 0 (by omega);have z1:wr.cell? ⟨g,off+j*4+1,none⟩=some (.int .i64 pn):=hcx 1 (by omega);have z2:wr.cell? ⟨g,off+j*4+2,none⟩=some (.string s):=hcx 2 (by omega);have z3:wr.cell? ⟨g,off+j*4+3,none⟩=some (.slice PA pd pc):=hcx 3 (by omega);have⟨w4,hw4,hz4,n4,f4⟩:=ir wr #[.int .i64 pi,.int .i64 pn,.string s,.slice PA pd pc] 53 wr.heap.size;have HVC:=Hd hvc;have HCL:=Hd hcl;have HPI:=Hd (An hpi hpn);clear hvc hcl hcx hrow hpj hgi hs hpi hpn hpok hPA hpd hpc hz4
   go_upto_region 14 with fail
   try rw[hw4]
   clear z0 z1 z2 z3 hw4;have h24:Fr [] w2 w4:=(H3.then HF.2.2.1).then f4;have hm4:=HN.1.fr h24 (by simp);have p1:=n4.k1;have r6:=hm4.k6;have HN4:=Hd (An n4 (An hm4 (An f4 (An h24 (hwr3.then f4)))));clear n4 hm4 f4 h24 hwr3;have⟨PB,hPB⟩:=eR (wr.heap.size);rw[hPB]at HN4 p1 hgl ⊢
   by_cases hnn:pn=n
   case neg =>
    have hne:(pn == n)=false:=by simpa using hnn
    have hv:vr=.error 3:=by
     rw[<-HVR.out];exact xZ (j:=j) (by rw[uH,HF.2.1];simp only;rw[HX.1];simp only;rw[if_pos (by rw[HPI.2];exact hnn)]) hlt
    subst hv;have HFW:=Hd HN4.2.2.2.2;clear HVR HVH HVC HCL HPI HX HN4 HP
    go_wp2
    go_ret2
    exact⟨rfl,HFW.out⟩
   subst hnn
   go_upto_region 16 with fail
   clear p1 r6;have⟨gb,hgb⟩:=eR (decide (0<j/\(ps.map PX.i).getD j 0<=(ps.map PX.i).getD (j - 1) 0))
   go_cut [63]from 50 to 63 (λs W=>s=.bool gb/\Fr [] w4 W)
   case first =>
    rcases Nat.eq_zero_or_pos j with hj0|hj0
    ·have hd0:decide ((0:Int)<(j:Int))=false:=by simp;omega
     have hd1:decide (0<j)=false:=by simp;omega
     have HG:=Hd (show gb=false by rw[<-hgb];simp;omega);clear hgb;have HSS:=Hd (λ(W:World) (hW:Fr [] w4 W)=>((HN4.1.fr hW (by simp)).c 0:W.cell? ⟨PB,0,none⟩=some (.int .i64 pi)));refine eW (λW=>Fr [] w4 W) (by kernel_rfl) (by kernel_rfl) ((Fq _ w4).drew) ?_
     repeat(
      first
      | go_big_quiet_skip
      | (go_big_quiet_want;first|(go_big_quiet_op;go_big_quiet_on)|(apply Exists.intro;refine⟨λW hW=>?_,?_⟩;(· obtain a0':=HSS.out W hW;go_simp;first|done|with_reducible exact rfl|with_reducible exact⟨rfl,rfl⟩ );simp only[qq];go_big_quiet_on))
      )
     refine wpQuiet_nil ?_;intro v5 hv5;have HV5:=Hd hv5;clear hv5
     go_wp2
     go_meet
     exact⟨by rw[HG.out],HV5.out⟩
    ·have⟨jm,hjm⟩:=eR (j - 1)
     have hd0:decide ((0:Int)<(j:Int))=true:=by simp;omega
     have hd1:decide (0<j)=true:=by simp;omega
     have hwj:IntKind.i64.wrap ((j:Int) - 1)=(jm:Int):=by simp[IntKind.wrap,IntKind.bits,IntKind.signed];omega
     have hwm:IntKind.i64.wrap (jm:Int)=(jm:Int):=by simp[IntKind.wrap,IntKind.bits,IntKind.signed];omega
     have hjmm:(jm:Int)<(m:Int):=by omega
     have hjm2:jm<m:=by omega
     obtain⟨q,hqj⟩:∃x,ps[jm]?=some x:=⟨_,gg (by rw[HP.2.1];exact hjm2)⟩;have hqc:=HCL.out jm q hqj 0 (by omega);have hq0:(ps.map PX.i).getD jm 0=q.i:=by rw[getD_eq_getElem?_getD,List.getElem?_map,hqj];rfl
     have⟨qi,hqi⟩:=eR (q.i);unfold PX.cs at hqc;rw[hqi]at hqc hq0;have hgl2:g<wr.heap.size:=by rw[hPB];exact hgl
     have zq:∀W,Fr [] w4 W->W.cell? ⟨g,off+jm*4,none⟩=some (.int .i64 qi):=λW hW=>((HN4.2.2.1.then hW).cell (p:=⟨g,off+jm*4,none⟩) hgl2 (by simp)).trans hqc;have HG:=Hd (show decide (pi<=qi)=gb by rw[<-hgb,HX.2.2,hjm,hq0,HPI.1];simp[hj0]);have hle:decide ((pi:Int)<=(qi:Int))=decide (pi<=qi):=by simp
     clear hgb hqj hqc hq0 hqi hgl2;have HSS:=Hd (λ(W:World) (hW:Fr [] w4 W)=>(⟨(HN4.1.fr hW (by simp)).c 0,(HN4.2.1.fr hW (by simp)).c 7,zq W hW⟩:W.cell? ⟨PB,0,none⟩=some (.int .i64 pi)/\W.cell? ⟨w.heap.size,7,none⟩=some (.slice (some ⟨g,off,none⟩) m c)/\W.cell? ⟨g,off+jm*4,none⟩=some (.int .i64 qi)));clear zq;refine eW (λW=>Fr [] w4 W) (by kernel_rfl) (by kernel_rfl) ((Fq _ w4).drew) ?_
     repeat(
      first
      | go_big_quiet_skip
      | (go_big_quiet_want;first|(go_big_quiet_op;go_big_quiet_on)|(apply Exists.intro;refine⟨λW hW=>?_,?_⟩;(· have⟨a0',b0',c0'⟩:=HSS.out W hW;go_simp;first|done|with_reducible exact rfl|with_reducible exact⟨rfl,rfl⟩ );simp only[qq];go_big_quiet_on))
      )
     refine wpQuiet_nil ?_;intro v5 hv5;have HV5:=Hd hv5;clear hv5
     go_wp2
     go_meet
     exact⟨by rw[HG.out],HV5.out⟩
   case rest =>
    obtain⟨rfl,hwc⟩:=hcut
    cases gb with
    | true =>
     have hbad:=of_decide_eq_true hgb
     have hv:vr=.error 32:=by
      rw[<-HVR.out];exact xZ (j:=j) (by rw[uH,HF.2.1];simp only;rw[HX.1];simp only;rw[if_neg (λh=>h HPI.2),if_pos hbad]) hlt
     subst hv;have HWC:=Hd (HN4.2.2.2.2.then hwc);clear hgb hbad hwc
     go_wp2
     go_ret2
     exact⟨rfl,HWC.out⟩
    | false =>
     have hgood:=of_decide_eq_false hgb;have HGD:=Hd hgood;have⟨v5,hv5⟩:=eR (wc);rw[hv5]at hwc ⊢;have n5:=HN4.1.fr hwc (by simp);have HV5:=Hd (An (HN4.2.2.2.1.then hwc) (An (HN4.2.2.2.2.then hwc) (HN4.2.2.1.then hwc)));clear hgb hgood hwc hv5;have⟨p0,p1,p2,p3⟩:=n5.m4;have HRT:=Hd (fw (eT HN.2.1 HV5.1 (by simp)) hr32);have hvv:=HVC.out v5 HV5.2.1;have HVv:=Hd hvv
     cases vh with
     | error k =>
      have hk3:=tA HVH.out;have hk0:(k == 0)=false:=by rcases hk3 with rfl|rfl|rfl <;> rfl
      have hv:vr=.error k:=by
       rw[<-HVR.out];exact xZ (j:=j) (by rw[uH,HF.2.1];simp only;rw[HX.1];simp only;rw[if_neg (λh=>h HPI.2),if_neg HGD.out,HVH.out]) hlt
      subst hv;have HFW:=Hd HV5.2.1;clear HVR HVH HVC HCL HPI HX HN4 HP HV5 hk3 n5 hvv
      go_wp2_with (first
       | (refine fG (by rfl) ?_;(with_reducible refine wp_load_mid 57 (.tmp 3) rfl (w.heap.size+1) 0 rfl (eO rt) (.array 32 5) HRT.out (by kernel_rfl) rfl (by rw[hcr];kernel_rfl) ?_))
       | (go_at_call 66;(with_reducible refine HVv.out.mono ?_);rintro e v6 ⟨rfl,hf6⟩;have HF6:=Hd (HFW.then hf6);clear hf6;unfold Dd))
      go_ret2
      exact⟨rfl,HF6.alloc _⟩
     | ok a =>
     have⟨ti,hti⟩:=eR (a.k.rnd);have⟨ph,hph⟩:=eR (a.k.phase);have⟨ix,hix⟩:=eR (a.k.idx);have⟨nr,hnr⟩:=eR (a.r.length);have⟨nw,hnw⟩:=eR (a.w.length);have hvl:∀x:AX,x.a=a->x.v=.agg #[.int .i64 ti,.int .i64 ph,.int .i64 ix,.string x.sl,.slice x.A nr x.c,.slice x.B nw x.d]/\x.cs=[.int .i64 ti,.int .i64 ph,.int .i64 ix,.string x.sl,.slice x.A nr x.c,.slice x.B nw x.d]:=λx hx=>by unfold AX.v AG.val AX.cs;rw[hx,hti,hph,hix,hnr,hnw];exact⟨rfl,rfl⟩
     have HVL:=Hd hvl;clear n5 hvv hvl hti hph hix hnr hnw HVC HCL
     go_upto_region 19 with(first
      | (refine fG (by rfl) ?_;(with_reducible refine wp_load_mid 57 (.tmp 3) rfl (w.heap.size+1) 0 rfl (eO rt) (.array 32 5) HRT.out (by kernel_rfl) rfl (by rw[hcr];kernel_rfl) ?_))
      | (go_at_call 66;(with_reducible refine HVv.out.mono ?_);rintro e v6 ⟨x,hxa,rfl,hxo,hf6,_,_⟩;have HX6:=Hd (An hxa (An hxo (An hf6 (HVL.out x hxa).2)));rw[(HVL.out x hxa).1];clear hxo hf6))
     clear p0 p1 p2 p3;have⟨sl,hsl⟩:=eR (x.sl);have⟨XA,hXA⟩:=eR (x.A);have⟨XB,hXB⟩:=eR (x.B);have⟨xc,hxc⟩:=eR (x.c);have⟨xd,hxd⟩:=eR (x.d);have hcs:=HX6.2.2.2;rw[hsl,hXA,hXB,hxc,hxd]at hcs ⊢;have⟨v7,hw7,hz7,n7,f7⟩:=ir v6 #[.int .i64 ti,.int .i64 ph,.int .i64 ix,.string sl,.slice XA nr xc,.slice XB nw xd] 91 v6.heap.size
     try rw[hw7]
     have⟨q0,q1,q2,q3,q4,q5⟩:=n7.m6;have h37:Fr [] wr v7:=(HV5.2.2.then HX6.2.2.1).then f7;have HCS:=Hd hcs;have HO7:=Hd (An (HF.1.own.fr h37 (by simp)) (An h37 f7));clear hcs hw7 hz7 n7 f7 h37 hsl hXA hXB hxc hxd hxa;obtain⟨ii,hii,iz0,iz1,iz2⟩:∃i,(prog).info? 91=some i/\i.zero=some (.agg lV)/\i.size=6/\i.bytes=88:=info_parts (by kernel_rfl)
     go_upto_region 22 with(at_builtin;(with_reducible refine fC (w:=v7) rfl (.tmp 73) (.tmp 75) 22 rfl 91 ii _ 6 88 underlying22 hii iz0 iz1 iz2 rfl (by decide) A' j c' (ys.flatMap AX.cs) rfl HO7.out.1 1 1 [.int .i64 ti,.int .i64 ph,.int .i64 ix,.string sl,.slice XA nr xc,.slice XB nw xd] 91 rfl rfl (by simp[Value.oneCell']) (by unfold maxLen;omega) (by omega) ?_);intro A2 c2 v8 ho hf hs;have H8:=Hd (An ho (An hf hs));clear ho hf hs)
     clear q0 q1 q2 q3 q4 q5
     go_wp2
     go_roundw
     case rel =>
      have hnt:NoT xW v7 (eX A'):=NoT.own HO7.1 (by decide);refine⟨j+1,c2,A2,ys++[x],by omega,by go_num,rfl,⟨?_,λy hy=>?_,by simp[HF.1.len]⟩,?_,(HF.2.2.1.then HO7.2.1).trans H8.2.1 (λq hq=>.inr (HF.2.2.2.1 q hq)),λq hq=>?_,True.intro⟩
      ·have h:=H8.1
       rw[<-HCS.out]at h;rw[flatMap_append];simpa using h
      ·rcases mem_append.1 hy with hy|hy
       ·exact((HF.1.each y hy).fr0 HO7.2.1).frT H8.2.1 hnt
       ·obtain rfl:y=x:=by simpa using hy
        exact(HX6.2.1.fr0 HO7.2.2).frT H8.2.1 hnt
      ·rw[uH,HF.2.1]
       simp only;rw[HX.1];simp only;rw[if_neg (λh=>h HPI.2),if_neg HGD.out,HVH.out];simp[HX6.1]
      ·rcases H8.2.2 q hq with h|h
       ·exact HF.2.2.2.1 q h
       ·exact Nat.le_trans (HF.2.2.1.then HO7.2.1).size h
     case measure=>simp[intOf];omega
  ·obtain rfl:j=m:=by omega
   have hv:vr=.ok (ys.map AX.a):=by rw[<-HVR.out];exact HF.2.1
   subst hv
   go_wp2
   go_ret2
   exact⟨A',c',ys,rfl,HF.1,rfl,HN.2.2.then (H3.then HF.2.2.1),λq hq=>Nat.le_trans (HN.2.2.then H3.out).size (HF.2.2.2.1 q hq)⟩
open Go.RowKit Go.Shelf
def RowL(w:World)(g:Nat)(e:TypeId)(L:List Value):Prop:=w.heap[g]?=some (.cells L.toArray e (0,0))
section
variable {w:World} {g:Nat} {e:TypeId} {L:List Value}
def RowL.cell(h:RowL w g e L){j:Nat}{u:Value}(a:L[j]?=some u):w.cell? ⟨g,j,none⟩=some u:=by
 unfold RowL at h;simp[World.cell?,h,a]
def RowL.sm(h:RowL w g e L){j:Nat}(a:j<L.length):(w.cell? ⟨g,j,none⟩).isSome=true:=by
 rw[h.cell (gg a)];rfl
def RowL.free(h:RowL w g e L)(j:Nat):w.frozen? ⟨g,j,none⟩=false:=by
 unfold RowL at h;simp[World.frozen?,h]
def RowL.set:∀ {vs:List Value} {o:Nat} {w:World} {L:List Value},RowL w g e L->o+vs.length<=L.length->RowL (w.setCells g o vs) g e (L.take o++vs++L.drop (o+vs.length))
 | [],o,w,L,h,_=>by
  simp only[World.setCells,append_nil,length_nil,Nat.add_zero,take_append_drop]
  exact h
 | v::r,o,w,L,h,d=>by
  rw[length_cons]at d
  have b:RowL (w.setCell ⟨g,o,none⟩ v) g e (L.set o v):=by
   unfold RowL at h ⊢;rw[setCell_eq_setRow w g o _ e (0,0) v h,setRow_heap w g _ _ e _ h];simp
  have c:=RowL.set (vs:=r) (o:=o+1) b (by rw[length_set];omega);rw[World.setCells];have a:=list_seg_step L o v r qo;rw[<-show (L.set o v).take (o+1)++r++(L.set o v).drop (o+1+r.length)=L.take o++v::r++L.drop (o+(v::r).length)from by simpa using a];exact c
def Own.rowL{w:World}{e:TypeId}{d n c g:Nat}{xs:List Value}(j:Own w e d (some ⟨g,0,none⟩) n c xs):∃L,RowL w g e L/\L.length=c*d/\L.take (n*d)=xs/\n<=c/\c<=maxLen:=by
 rcases j.2 with⟨b,f⟩|⟨r,p,h,b,_,f,k,l,m,o⟩
 ·injection b with b;cases b
 ·injection b with a q i
  injection a with a
  injection a with a
  subst a i;exact⟨h.toList,by unfold RowL;rw[Array.toArray_toList];exact f,by rw[Array.length_toList,m],o,k,l⟩
def RowL.own{w:World}{e:TypeId}{a n c g:Nat}{L xs:List Value}(h:RowL w g e L)(d:L.length=c*a)(f:L.take (n*a)=xs)(b:n<=c)(i:c<=maxLen):Own w e a (some ⟨g,0,none⟩) n c xs:=by
 have k:L.toArray.size=c*a:=by rw[size_toArray,d]
 have j:xs.length=n*a:=by rw[<-f,length_take,d,Nat.min_eq_left (Nat.mul_le_mul_right _ b)]
 exact An j (Or.inr ⟨g,c,L.toArray,rfl,Nat.zero_le _,h,b,i,k,f⟩)
end
def pfZ:List Value:=[.int .i64 0,.int .i64 0,.string ⟨#[]⟩,.slice none 0 0]
def uI(w:World)(t ty:TypeId)(f:(prog).underlying t=some (.slice 53))(g o c:Nat)(L:List Value)(h:RowL w g 53 L)(k:o+4<=L.length):
 (Builtin.clear_ #[t] ty #[.slice (some ⟨g,o,none⟩) 1 c]).run prog w=.ok (.tuple #[]) (w.setCells g o pfZ):=by
 have d:=run_storeCells_cells (P:=prog) g o pfZ 0 w (λj b=>by simpa using h.sm (j:=o+j) (by simp[pfZ]at b;omega)) (λj b=>by simpa using h.free (o+j)) (by intro v a;simp[pfZ]at a;rcases a with rfl|rfl|rfl|rfl <;> rfl);have a:∀w,(zeroValue 53).run prog w=.ok (.agg pfZ.toArray) w:=Tryz.zeroValue53
 have i:(Builtin.zeroCells (Value.agg pfZ.toArray).cells 1).toList=pfZ:=by
  simp[Builtin.zeroCells,pfZ,Value.cells,range_succ]
 simp only[Nat.add_zero]at d;simp[Builtin.clear_,run_underlying f,a,i,d]
def CA(w:World)(g c a i:Nat)(xs:List Value)(r:Own w 53 4 (some ⟨g,0,none⟩) a c xs)(E:∀u∈xs,u.oneCell'=true)(Z:i<a)(aa:a<=1000):
 Calls prog 74 #[.slice (some ⟨g,0,none⟩) a c,.int .i64 (i:Int),.int .i64 ((i:Int)+1)] w λe w'=>e=.returned (.slice (some ⟨g,0,none⟩) (a - 1) c)/\Own w' 53 4 (some ⟨g,0,none⟩) (a - 1) c (xs.take (i*4)++xs.drop ((i+1)*4))/\Fr [g] w w':=by
 have⟨L,k,m,s,ab,G⟩:=r.rowL;have J:=r.1;obtain⟨K,H,ac,M,ad⟩:=jI;have⟨b,n⟩:=eR (xs.drop ((i+1)*4));have f:b.length=(a - (i+1))*4:=by rw[<-n,length_drop,J,Nat.sub_mul]
 obtain⟨A,X,I⟩:∃A:Addr,(if c=i+1 then some (⟨g,0,none⟩:Addr)else some ⟨g,(i+1)*4,none⟩)=some A/\Hid (∀t u,b[t]?=some u->w.drew.cell? (A.add t)=some u):=by
  by_cases y:c=i+1
  ·refine⟨⟨g,0,none⟩,by simp[y],λt u d=>?_⟩
   have D:b.length=0:=by rw[f];omega
   rw[length_eq_zero_iff.1 D]at d;simp at d
  ·refine⟨⟨g,(i+1)*4,none⟩,by simp[y],λt u d=>?_⟩
   rw[Addr.add_lit];refine RowL.cell (w:=w.drew) (L:=L) k ?_;rw[<-n,List.getElem?_drop,<-s,List.getElem?_take]at d;split at d
   ·exact d
   ·cases d
 have⟨l,q⟩:=eR (w.drew.setCells g (0+i*4) b)
 have v:RowL l g 53 (L.take (i*4)++b++L.drop (i*4+b.length)):=by
  rw[<-q,Nat.zero_add];exact RowL.set (w:=w.drew) k (by rw[m,f];omega)
 have x:(L.take (i*4)++b++L.drop (i*4+b.length)).length=c*4:=by
  rw[gu,gu,length_take,length_drop,m,f];omega
 have Y:∀ty p,(Builtin.clear_ #[37] ty #[.slice (some ⟨g,(i+(a - (i+1)))*4,none⟩) (a - (i+(a - (i+1)))) p]).run prog l=.ok (.tuple #[]) (l.setCells g ((a - 1)*4) pfZ):=λty p=>by
  rw[show i+(a - (i+1))=a - 1 by omega,show a - (a - 1)=1 by omega];exact uI l _ ty underlying37 g _ p _ v (by rw[x];omega)
 have h:=Hd (An I.out (An f (An (show ∀u∈b,u.oneCell'=true from λu d=>E u (by rw[<-n]at d;exact mem_of_mem_drop d)) (show ∀j,j<b.length->(w.drew.cell? ⟨g,0+i*4+j,none⟩).isSome=true/\w.drew.frozen? ⟨g,0+i*4+j,none⟩=false from λj hj=>by
  rw[Nat.zero_add];exact⟨RowL.sm (w:=w.drew) k (by rw[m];omega),RowL.free (w:=w.drew) k _⟩))))
 have C:=Hd (An v (An x (An k (An m (An s (An G (An q n)))))));have F:=Hd q;have ae:(prog).follows Departure.mixedOrders=true:=qk
 have Q:(i:Int)<=(i:Int)+1:=qo
 have R:(i:Int)+1<=(a:Int):=qo
 have S:(0:Int)<=(i:Int)+1:=qo
 have T:((i:Int)+1).toNat=i+1:=qo
 have U:¬((i:Int)=(i:Int)+1):=qo
 have V:i<=c:=qo
 have W:i+1<=c:=qo
 go_enter func74,ntmps74
 go_wp2
 go_region_law_o (refine step_append_room rfl (.tmp 22) (.tmp 25) 37 rfl 53 K 4 underlying37 H M g 0 i c (by simp[Act.eval,Act.put]) A (a - (i+1)) (c - (i+1)) b (by simp[Act.eval,Act.put]) h.2.1 h.1 h.2.2.1 qo h.2.2.2 ?_;rw[F.out])
 go_wp2
 go_ret
 have⟨r1,r2,r3,z,B,N,O,P⟩:=C.out;have f:=h.2.1
 refine⟨by rw[show i+(a - (i+1))=a - 1 by omega];rfl,?_,?_⟩
 ·refine RowL.own (r1.set (vs:=pfZ) (o:=(a - 1)*4) (by rw[r2];simp[pfZ];omega)) (by rw[gu,gu,length_take,length_drop,r2];simp[pfZ];omega) ?_ qo N
  rw[append_assoc,take_append_of_le_length (by rw[length_take,r2];omega),take_take,Nat.min_self,take_append_of_le_length (by rw[gu,length_take,z,f];omega),take_of_length_le (by rw[gu,length_take,z,f];omega),<-B,take_take,Nat.min_eq_left qo,B,P]
 ·rw[<-O]
  exact(((Fq [g] w).drew.setCells (.inl qs) _ _).setCells (.inl qs) _ _)
def kL(w:World)(c y ty:TypeId)(t:(prog).underlying c=some (.slice 53))(g o b e d x k:Nat)(a:Addr)(cs:List Value)(n:k=Nat.min d b)(q:cs.length=k*4)
 (r:∀j v,cs[j]?=some v->w.cell? (a.add j)=some v) (h:∀j,j<cs.length->(w.cell? ⟨g,o+j,none⟩).isSome=true) (l:∀j,j<cs.length->w.frozen? ⟨g,o+j,none⟩=false) (f:∀v∈cs,v.oneCell'=true) :
 (Builtin.copy_ #[c,y] ty #[.slice (some ⟨g,o,none⟩) b e,.slice (some a) d x]).run prog w=.ok (goInt k) (w.setCells g o cs):=by
 have p:=run_loadCells_list (P:=prog) w a cs r;have s:=run_storeCells_cells (P:=prog) g o cs 0 w (by simpa using h) (by simpa using l) f;obtain⟨i,m,z,u,A⟩:=jI;simp[Builtin.copy_,run_underlying t,Builtin.lenOf,Builtin.firstCells,sizeOf,typeInfo,m,u,<-n,<-q,p,s]
def uJ{L vs:List Value}{o:Nat}(h:o+vs.length<=L.length):(L.take o++vs++L.drop (o+vs.length)).length=L.length:=by
 rw[gu,gu,length_take,length_drop];omega
def RowL.shape{w:World}{g:Nat}{e:TypeId}{L:List Value}(h:RowL w g e L):w.shape? g=some (e,L.length):=by
 unfold RowL at h;simp[World.shape?,h]
def RowL.lt{w:World}{g:Nat}{e:TypeId}{L:List Value}(h:RowL w g e L):g<w.heap.size:=(Array.getElem?_eq_some_iff.1 h).1
def RowL.other{w:World}{g a:Nat}{e:TypeId}{L vs:List Value}{o:Nat}(h:RowL w g e L)(b:g≠a):RowL (w.setCells a o vs) g e L:=by
 unfold RowL at h ⊢;rw[((Fq [a] w).setCells (.inl qs) vs o).block g (Array.getElem?_eq_some_iff.1 h).1 (by simpa using b)];exact h
def vJ{L:List Value}{j o:Nat}{u:Value}{n:Nat}(h:((L.take n).drop o)[j]?=some u):L[o+j]?=some u:=by
 rw[List.getElem?_drop,List.getElem?_take]at h;split at h
 ·exact h
 ·cases h
def vK(w:World)(g c a i v:Nat)(xs vs:List Value)(t:Own w 53 4 (some ⟨g,0,none⟩) a c xs)(C:∀u∈xs,u.oneCell'=true)(p:RowL w v 53 vs)(z:vs.length=4)(D:∀u∈vs,u.oneCell'=true)(H:v≠g)(hi:i<a)(aa:a<=1000)(hc:a+1<=c):
 Calls prog 75 #[.slice (some ⟨g,0,none⟩) a c,.int .i64 (i:Int),.slice (some ⟨v,0,none⟩) 1 1] w λe w'=>e=.returned (.slice (some ⟨g,0,none⟩) (a+1) c)/\Own w' 53 4 (some ⟨g,0,none⟩) (a+1) c (xs.take (i*4)++vs++xs.drop (i*4))/\Fr [g] w w':=by
 have⟨L,f,h,x,ab,F⟩:=t.rowL;have A:=t.1
 have R:∀lb s,(callFunc 139 #[.slice v 1 1,.slice (some ⟨g,(i+1)*4,none⟩) lb s]).run prog w=.ok (.value (.bool false)) w:=λlb s=>by
  rw[run_callFunc_extern (P:=prog) func139 qk qk qk (e:=Extern.SlicesOverlaps.overlaps #[37,37] #[4]) qk,
   Lib.run_overlaps_apart w 37 4 53 underlying37 4 (λW=>by obtain⟨ii,O,ac,T,ad⟩:=jI;simp[sizeOf,typeInfo,O,T]) ⟨v,0,none⟩ ⟨g,(i+1)*4,none⟩ 1 1 lb s H _ _ _ _ p.shape f.shape (by rw[h];omega) (p.free 0) (p.free _)]
  rfl
 have n:(xs.drop (i*4)).length=(a - i)*4:=by rw[length_drop,A,Nat.sub_mul]
 have G:∀ty d B,(Builtin.copy_ #[37,37] ty #[.slice (some ⟨g,(i+1)*4,none⟩) (a - i) d,.slice (some ⟨g,i*4,none⟩) (a+1 - i) B]).run prog w.drew=.ok (goInt ((a - i:Nat):Int)) (w.drew.setCells g ((i+1)*4) (xs.drop (i*4))):=λty d B =>
  kL w.drew _ _ ty underlying37 g ((i+1)*4) _ d _ B (a - i) ⟨g,i*4,none⟩ _ (by simp only[Nat.min_def];split <;> omega) n
   (λj u b=>by rw[Addr.add_lit];rw[<-x]at b;exact RowL.cell (w:=w.drew) f (vJ b))
   (λj b=>RowL.sm (w:=w.drew) f (by rw[h];omega)) (λj b=>RowL.free (w:=w.drew) f _) (λu S=>C u (mem_of_mem_drop S))
 have⟨k,m⟩:=eR (w.drew.setCells g ((i+1)*4) (xs.drop (i*4)))
 have q:RowL k g 53 (L.take ((i+1)*4)++xs.drop (i*4)++L.drop ((i+1)*4+(xs.drop (i*4)).length)):=by
  rw[<-m];exact RowL.set (w:=w.drew) f (by rw[h,n];omega)
 have y:(L.take ((i+1)*4)++xs.drop (i*4)++L.drop ((i+1)*4+(xs.drop (i*4)).length)).length=c*4:=by
  rw[gu,gu,length_take,length_drop (l:=L),h,n];omega
 have E:RowL k v 53 vs:=by rw[<-m];exact RowL.other (w:=w.drew) p H
 have N:∀ty d,(Builtin.copy_ #[37,37] ty #[.slice (some ⟨g,i*4,none⟩) (a+1 - i) d,.slice v 1 1]).run prog k=.ok (goInt ((1:Nat):Int)) (k.setCells g (i*4) vs):=λty d =>
  kL k _ _ ty underlying37 g (i*4) _ d _ 1 1 ⟨v,0,none⟩ _ (by simp only[Nat.min_def];split <;> omega) z
   (λj u b=>by rw[Addr.add_lit,Nat.zero_add];exact E.cell b)
   (λj b=>q.sm (by rw[y];omega)) (λj b=>q.free _) D
 rw[m]at G;have J:=Hd (An q (An y (An h (An x (An F (An m (An n (An z A))))))));clear q y f h x F m n t C D E p z A;have ae:(prog).follows Departure.mixedOrders=true:=qk
 have e1:(i:Int)<=(a:Int):=qo
 have e3:¬((c:Int)<(a:Int)+1):=qo
 have e9:IntKind.i64.wrap ((i:Int)+1)=(i:Int)+1:=by rw[IntKind.wrap_i64];omega
 have e4:((i:Int)+1).toNat=i+1:=qo
 have e5:(0:Int)<=(i:Int)+1:=qo
 have e6:(i:Int)<=(a:Int)+1:=qo
 have e7:¬(c=i+1):=qo
 have e8:¬(c=i):=qo
 go_enter func75,ntmps75
 go_wp2_with (simp only[R])
 go_region_law_o (refine step_copy_runI rfl _ _ 37 37 rfl _ _ (by simp[Act.eval,Act.put]) (by simp[Act.eval,Act.put]) (G _ _ _) ?_)
 go_wp2_with (at_builtin;refine wpList_copy_runI _ rfl _ _ 37 37 rfl _ _ rfl rfl (N _ _) ?_)
 go_ret
 have⟨r1,r2,I,V,X,Y,Z,r,U⟩:=J.out;refine⟨rfl,?_,?_⟩
 ·refine RowL.own (r1.set (vs:=vs) (o:=i*4) (by rw[r2,r];omega)) ((uJ (by rw[r2,r];omega)).trans r2) ?_ qo X
  have Q:(xs.take (i*4)).length=i*4:=by rw[length_take,U];omega
  have K:(L.take ((i+1)*4)++xs.drop (i*4)++L.drop ((i+1)*4+(xs.drop (i*4)).length)).take (i*4)=xs.take (i*4):=by
   rw[append_assoc,take_append_of_le_length (by rw[length_take,I];omega),take_take,Nat.min_eq_left qo,<-V,take_take,Nat.min_eq_left qo]
  have M:(L.take ((i+1)*4)++xs.drop (i*4)++L.drop ((i+1)*4+(xs.drop (i*4)).length)).drop (i*4+vs.length)=xs.drop (i*4)++L.drop ((i+1)*4+(xs.drop (i*4)).length):=by
   rw[append_assoc];exact drop_left' (by rw[length_take,I,r];omega)
  rw[K,M,<-append_assoc];exact take_left' (by rw[gu,gu,Q,r,Z];omega)
 ·rw[<-Y]
  exact(((Fq [g] w).drew.setCells (.inl qs) _ _).setCells (.inl qs) _ _)
def vL(w:World)(g c a i v:Nat)(xs vs:List Value)(h:Own w 53 4 (some ⟨g,0,none⟩) a c xs)(T:∀u∈xs,u.oneCell'=true)(x:RowL w v 53 vs)(K:vs.length=4)(U:∀u∈vs,u.oneCell'=true)(hi:i<a)(am:a<=1000)(hc:c<a+1):
 Calls prog 75 #[.slice (some ⟨g,0,none⟩) a c,.int .i64 (i:Int),.slice (some ⟨v,0,none⟩) 1 1] w λe w'=>∃A' c',e=.returned (.slice (some A') (a+1) c')/\Own w' 53 4 (some A') (a+1) c' (xs.take (i*4)++vs++xs.drop (i*4))/\Fr [g] w w':=by
 have⟨L,m,af,E,an,ah⟩:=h.rowL;have y:xs.length=a*4:=h.1;obtain⟨O,Z,ab,P,Q⟩:=jI;have⟨N,s⟩:=eR (w.heap.size);have aj:g≠N:=by have:=m.lt;omega
 have ao:v≠N:=by have:=x.lt;omega
 have I:(xs.drop (i*4)).length=(a - i)*4:=by rw[length_drop,y,Nat.sub_mul]
 have q:(xs.take (i*4)).length=i*4:=by rw[length_take,y];omega
 have aa:(Builtin.firstCells O.size i (.slice (some ⟨g,0,none⟩) i c)).run prog w.drew=.ok (xs.take (i*4)).toArray w.drew:=by
  rw[P]
  exact run_firstCells_some w.drew 4 i ⟨g,0,none⟩ i c _ q (λj u b=>by
   rw[Addr.add_lit,Nat.zero_add];rw[<-E,take_take,List.getElem?_take]at b;split at b
   ·exact RowL.cell (w:=w.drew) m b
   ·cases b)
 obtain⟨z,M⟩:∃z,O.zero=some z/\z.cells.size=4:=⟨_,ab,rfl⟩
 have t:∀ty,(Builtin.append_ #[37,3] ty #[.slice (some ⟨g,0,none⟩) i c,.int .i64 ((a:Int)+1 - (i:Int))]).run prog w =
  .ok (.slice (some ⟨N,0,none⟩) (a+1) (grownCap w (a+1) c 53)) (w.drew.alloc (.cells ((xs.take (i*4)).toArray++Builtin.zeroCells z.cells (a+1 - i)++Builtin.zeroCells z.cells (grownCap w (a+1) c 53 - (a+1))) 53)):=λty=>by
  have h:=Lib.run_append_grow_zeros w 37 3 ty 53 O _ .i64 .i64 underlying37 underlying3 Z M.1 (some ⟨g,0,none⟩) i c _ aa (a+1 - i) qo (by rw[P];omega) qo qo (by rw[Q];omega) (by rw[Q,show i+(a+1 - i)=a+1 by omega];exact growslice_fits hc qo);rw[show i+(a+1 - i)=a+1 by omega,s]at h;rw[show (a:Int)+1 - (i:Int)=((a+1 - i:Nat):Int) by omega];exact h
 have ae:a+1<=grownCap w (a+1) c 53:=grownCap_ge w _ _ _;have r:grownCap w (a+1) c 53<=maxLen:=grownCap_le_maxLen w _ _ _ (by unfold maxLen;omega);have⟨G,V⟩:=eR (grownCap w (a+1) c 53);rw[V]at t ae r;have al:((G:Nat):Int)<=9223372036854775807:=by unfold maxLen at r;omega
 obtain⟨R,k⟩:∃R:List Value,(xs.take (i*4)).toArray++Builtin.zeroCells z.cells (a+1 - i)++Builtin.zeroCells z.cells (G - (a+1))=R.toArray/\R.length=G*4/\R.take (i*4)=xs.take (i*4):=by
  refine⟨((xs.take (i*4)).toArray++Builtin.zeroCells z.cells (a+1 - i)++Builtin.zeroCells z.cells (G - (a+1))).toList,qs,?_,?_⟩
  ·rw[Array.length_toList,Array.size_append,Array.size_append,size_zeroCells,size_zeroCells,M.2,size_toArray,q];omega
  ·rw[Array.toList_append,Array.toList_append,append_assoc,toList_toArray]
   exact take_left' q
 rw[k.1]at t;have ag:∀W:World,W.heap[N]?=some (.cells R.toArray 53 (0,0))->RowL W N 53 R:=λW h=>h
 have p:RowL (w.alloc (.cells R.toArray 53)).drew N 53 R:=by
  unfold RowL;rw[<-s];exact heap_alloc_new _ _
 have C:RowL (w.alloc (.cells R.toArray 53)).drew g 53 L:=by
  unfold RowL;exact(Below.heap_alloc _ _ _ m.lt).trans m
 have F:RowL (w.alloc (.cells R.toArray 53)).drew v 53 vs:=by
  unfold RowL;exact(Below.heap_alloc _ _ _ x.lt).trans x
 have A:Fr [g] w (w.alloc (.cells R.toArray 53)).drew:=((Fq [g] w).alloc _).drew;have⟨l,H⟩:=eR ((w.alloc (.cells R.toArray 53)).drew);have ak:∀ty,(Builtin.append_ #[37,3] ty #[.slice (some ⟨g,0,none⟩) i c,.int .i64 ((a:Int)+1 - (i:Int))]).run prog w=.ok (.slice (some ⟨N,0,none⟩) (a+1) G) l:=λty=>(t ty).trans (by rw[<-H];rfl);rw[H]at p C F A
 have Y:∀ty f,(Builtin.copy_ #[37,37] ty #[.slice (some ⟨N,i*4,none⟩) (a+1 - i) f,.slice (some ⟨v,0,none⟩) 1 1]).run prog l=.ok (goInt ((1:Nat):Int)) (l.setCells N (i*4) vs):=λty f =>
  kL l _ _ ty underlying37 N (i*4) _ f _ 1 1 ⟨v,0,none⟩ _ (by simp only[Nat.min_def];split <;> omega) K
   (λj u b=>by rw[Addr.add_lit,Nat.zero_add];exact F.cell b)
   (λj b=>p.sm (by rw[k.2.1];omega)) (λj b=>p.free _) U
 have n:=p.set (vs:=vs) (o:=i*4) (by rw[k.2.1];omega);have J:=uJ (L:=R) (vs:=vs) (o:=i*4) (by rw[k.2.1];omega);have D:=C.other (vs:=vs) (o:=i*4) aj;have B:Fr [g] w (l.setCells N (i*4) vs):=A.setCells (.inr qo) _ _;have⟨d,X⟩:=eR (l.setCells N (i*4) vs);rw[X]at Y n D B
 have ai:∀ty f S,(Builtin.copy_ #[37,37] ty #[.slice (some ⟨N,(i+1)*4,none⟩) (a - i) f,.slice (some ⟨g,i*4,none⟩) (a - i) S]).run prog d.drew=.ok (goInt ((a - i:Nat):Int)) (d.drew.setCells N ((i+1)*4) (xs.drop (i*4))):=λty f S =>
  kL d.drew _ _ ty underlying37 N ((i+1)*4) _ f _ S (a - i) ⟨g,i*4,none⟩ _ (by simp only[Nat.min_def];split <;> omega) I
   (λj u b=>by rw[Addr.add_lit];rw[<-E]at b;exact RowL.cell (w:=d.drew) D (vJ b))
   (λj b=>RowL.sm (w:=d.drew) n (by rw[J,k.2.1];omega)) (λj b=>RowL.free (w:=d.drew) n _) (λu hu=>T u (mem_of_mem_drop hu))
 have ac:=Hd (An n (An J (An k (An r (An B (An q (An I (An K (An s y)))))))));clear n J k B q I K s y D A C F p H t ag m af E h T U x aa M Z ab P Q V ah r X;have ap:(prog).follows Departure.mixedOrders=true:=qk
 have e1:(i:Int)<=(a:Int):=qo
 have e3:(c:Int)<(a:Int)+1:=qo
 have e9:IntKind.i64.wrap ((i:Int)+1)=(i:Int)+1:=by rw[IntKind.wrap_i64];omega
 have e4:((i:Int)+1).toNat=i+1:=qo
 have e5:(0:Int)<=(i:Int)+1:=qo
 have e6:(i:Int)<=(a:Int)+1:=qo
 have e7:¬(G=i+1):=qo
 have e8:¬(G=i):=qo
 have ea:¬(c=i):=qo
 have eb:i<=c:=qo
 go_enter func75,ntmps75
 go_wp2_with (first
  | (at_builtin;refine Lib.wpList_append_run _ rfl _ _ _ _ rfl _ _ rfl rfl _ _ (ak _) ?_)
  | (at_builtin;refine wpList_copy_runI _ rfl _ _ 37 37 rfl _ _ rfl rfl (Y _ _) ?_))
 go_region_law_o (refine step_copy_runI rfl _ _ 37 37 rfl _ _ (by simp[Act.eval,Act.put]) (by simp[Act.eval,Act.put]) (ai _ _ _) ?_)
 go_wp2
 go_ret
 have⟨r1,r2,r3,r4,r5,r6,r7,r8,r9,aq⟩:=ac.out;refine⟨⟨N,0,none⟩,G,rfl,?_,?_⟩
 ·have q1:RowL d.drew N 53 _:=r1
  refine RowL.own (q1.set (vs:=xs.drop (i*4)) (o:=(i+1)*4) (by rw[r2,r3.2.1];omega)) ((uJ (by rw[r2,r3.2.1];omega)).trans (r2.trans r3.2.1)) ?_ qo r4
  have ad:(R.take (i*4)++vs++R.drop (i*4+vs.length)).take ((i+1)*4)=xs.take (i*4)++vs:=by
   rw[r3.2.2];exact take_left' (by rw[gu,r6];omega)
  rw[ad];exact take_left' (by rw[gu,gu,r6,r7];omega)
 ·exact r5.drew.setCells (.inr qo) _ _
def nN(l r:Nm)(w:World)(k:l.length=32)(x:r.length=32):Calls prog 181 #[.agg (fF l r).toArray] w (fi w (fg (gB 1 [l,r]))):=by
 obtain⟨z,m,_,M⟩:=eS l;obtain⟨A,n,_,N⟩:=eS r;obtain⟨a,y,t,v⟩:=kJ w (fF l r).toArray 308;obtain⟨st,o,_,_⟩:=eS (gB 1 [l,r])
 have HSS:=Hd (λ(X:World) (H:Fr [] a X)=>(show (convert 49 9 (.slice w.heap.size 32 32)).run prog X=.ok z X/\(convert 49 9 (.slice (some ⟨w.heap.size,32,none⟩) 32 32)).run prog X=.ok A X from by
  have d:=t.fr H qs;have F:Row X X.heap.size 1 (some ⟨w.heap.size,0,none⟩) 32 (eO l):=⟨by rw[eP,k],λ_=>⟨_,0,rfl,d.lt,λj u p=>ug d j u p⟩⟩;have b:Row X X.heap.size 1 (some ⟨w.heap.size,32,none⟩) 32 (eO r):=⟨by rw[eP,x],λ_=>⟨_,32,rfl,d.lt,λj u p=>sB k d j u p⟩⟩;rw[<-m,<-n];exact⟨eZ (P:=prog) F 49 5 underlying49 underlying5 9 underlying9 32,eZ (P:=prog) b 49 5 underlying49 underlying5 9 underlying9 32⟩))
 have E:=Hd y;have B:=Hd v;rw[o];have f:=Hd (An o (An m n));have D:=Hd (An k x);clear y t v o m n
 go_enter func181,ntmps181
 go_upto_region 1 with fail
 rw[E.out];have G:Fr [] a a.drew:=(Fq [] a).drew;refine kj ?_;refine eU (λW:World=>Fr [] a W) 12 qk ?_ qd
 show fc 0 ..
 iterate 6 (refine gJ rfl ?_;try simp only[qq])
 refine hO (i:=6) rfl λK g=>?_;go_simp
 obtain⟨c,h⟩:=eR ((a.alloc (.cells #[z,A] 9)).drew);have J:Row c c.heap.size 1 (some ⟨a.heap.size,0,none⟩) 2 ([l,r].map fg):=by rw[<-h];exact py a f.out.2.1 f.out.2.2
 have q:Fr [] a c:=by rw[<-h];exact((Fq [] a).alloc _).drew
 have s:=oO 1 (some ⟨a.heap.size,0,none⟩) 2 2 [l,r] c qo J (by have:=D.out;simp[gS];omega);rw[show (((1:UInt8).toNat:Nat):Int)=1 from rfl]at s;have C:=Hd s;rw[h];refine g _ _ q ?_
 try simp only[qq]
 refine hO (i:=7) rfl λK g=>?_;go_simp
 go_at_call 143
 (with_reducible refine C.out.mono ?_);rintro e L ⟨rfl,I⟩;rw[f.out.1];have b:=q.then I;refine g _ _ b ?_
 try simp only[qq]
 have G:=b
 show fc 8 ..
 iterate 4 (refine gJ rfl ?_;try simp only[qq])
 refine eV ⟨qk,?_⟩;simp only[qG,qH]
 go_wp2_with fail
 go_ret
 exact⟨rfl,B.out.then b⟩
def tB(c d e:Value)(s:Nm)(w:World)(p:s.length<=1099511620000)(m:c.oneCell'=true)(n:d.oneCell'=true)(o:e.oneCell'=true):Calls prog 141 #[.agg #[c,d,fg s,e]] w (fi w (fg (1::s))):=by
 obtain⟨f,b,a,h⟩:=kJ w #[c,d,fg s,e] 53
 have g:(binOp .add 9 (.string ⟨#[1]⟩) (fg s)).run prog f=.ok (fg (1::s)) f:=by
  rw[<-rZ 1 s];exact l9 f _ _ (by simp[<-ByteArray.size_data];omega)
 obtain⟨q,i⟩:=eR (fg s);obtain⟨r,j⟩:=eR (fg (1::s));rw[i]at g a b ⊢;rw[j]at g ⊢;have t:=a.k2;have l:=Hd b;have k:=Hd h;clear b a h i j
 go_enter func141,ntmps141
 go_upto_region 1 with fail
 rw[l.out]
 go_wp2_with fail
 go_ret
 exact⟨rfl,k.out⟩
end Go.Proofs.YtlpmiimgacfmkaaGreatDoor
