/- Part of the proof. -/
import Derived.Test.YtlpmiimgacfmkaaGreatDoorRVm
set_option linter.all false
set_option maxHeartbeats 4000000
set_option maxRecDepth 100000
namespace Go.Proofs.YtlpmiimgacfmkaaGreatDoor
open Go.Proofs.Tryz
open Go.RowKit Go.Shelf
theorem yv{a b:ON}(e:eX a=0)(i:eX b=0)(w:World):(binOp .eql 31 (fg a) (fg b)).run prog w=.ok (.bool (decide (a=b))) w:=by
 by_cases c:a=b
 ·subst c
  obtain⟨l,f⟩:=fU e;obtain⟨r,g,j⟩:=run_equal_deep (P:=prog) w (m:=4) qo qk qk f f;have k:=j.2 rfl;subst k;have h:∀xs d:Array Value,(binOp .eql 31 (.agg xs) (.agg d)).run prog w=((Op.equal 31 (.agg xs) (.agg d)).run prog w).andThen λb w'=>.ok (.bool b) w':=λxs d=>by simp[binOp]
  unfold fg at g ⊢;rw[h,g];simp[Result.andThen]
 ·rw[decide_eq_false c]
  exact vJ e i c w
def FQ:Array Value:=#[.int .i64 0,.string ⟨#[]⟩,.int .i64 0,.int .i64 0,.string ⟨#[]⟩,.string ⟨#[]⟩,.bool false]
def nA(l:List CH)(n:ON):Option CH:=l.find? λx=>decide (x.n=n)
def FR(o:Option CH):Value:=match o with
 | some x=>.tuple #[.agg x.cs.toArray,.bool true]
 | none=>.tuple #[.agg FQ,.bool false]
theorem oM{l:List CH}{n:ON}{j:Nat}{x:CH}(c:l[j]?=some x)(b:x.n=n)(h:∀y∈l.take j,y.n≠n):nA l n=some x:=by
 unfold nA;have a:=i9.1 c;rw[<-List.take_append_drop j l,List.find?_append,List.drop_eq_getElem_cons a.1,a.2];rw[List.find?_eq_none.2 (λy d=>by simpa using h y d)];simp[b]
theorem rM{l:List CH}{n:ON}(h:∀y∈l,y.n≠n):nA l n=none:=by
 unfold nA;exact List.find?_eq_none.2 λy a=>by simpa using h y a
theorem yx{l:List CH}{n:ON}{j:Nat}{x:CH}(c:l[j]?=some x)(b:x.n≠n)(h:∀y∈l.take j,y.n≠n):∀y∈l.take (j+1),y.n≠n:=by
 intro y a;rw[List.take_add_one,c,List.mem_append]at a
 rcases a with a|a
 ·exact h y a
 ·simp at a
  subst a;exact b
theorem DI(a:AG)(Q:ByteArray)(E B:Option Addr)(c d:Nat)(n:ON)(w:World)(hB:Chs w B a.w)(ay:eX n=0)(hv:∀x∈a.w,eX x.n=0)(hl:a.w.length<=100000):
 Calls prog 64 #[a.val Q E c B d,fg n] w (fm w (FR (nA a.w n))):=by
 obtain⟨ti,aF⟩:=eR (a.k.rnd);obtain⟨ph,aB⟩:=eR (a.k.phase);obtain⟨ix,aw⟩:=eR (a.k.idx);obtain⟨nr,az⟩:=eR (a.r.length);obtain⟨o,L⟩:=eR (a.w.length);obtain⟨kd,ax⟩:=eR (n.kind);obtain⟨nu,aA⟩:=eR (n.number);obtain⟨xx,aL⟩:=eR (n.index);obtain⟨so,aD,_,_⟩:=eT n.owner;obtain⟨st,aE,_,_⟩:=eT n.text;have ad:fg n=.agg #[kd,so,nu,xx,st]:=by unfold fg;rw[ax,aA,aL,aD,aE]
 have aG:a.val Q E c B d=.agg #[ti,ph,ix,Q,.slice E nr c,.slice B o d]:=by unfold AG.val;rw[aF,aB,aw,az,L]
 rw[aG,ad];obtain⟨w1,aH,aP,n1,f1⟩:=il w #[ti,ph,ix,Q,.slice E nr c,.slice B o d] 91 w.heap.size;obtain⟨w2,aI,aQ,n2,X⟩:=il w1 #[kd,so,nu,xx,st] 31 (w.heap.size+1);obtain⟨N1,ab⟩:=eR (w.heap.size+1);rw[ab]at n2;obtain⟨w3,aJ,aM,n3,I⟩:=il w2 #[L0,S0,L0,L0,S0,S0,.bool false] 95 (w.heap.size+1+1);obtain⟨V,aq⟩:=eR (w.heap.size+1+1);rw[aq]at n3;have S:=Hd ((f1.then X).then I);have F:=Hd (An ((n1.fr X qs).fr I qs) (An (n2.fr I qs) n3));have U:=Hd (An aH (An aI aJ));have t:=Hd (An ad (An L (An ay hv)));have HB:=Hd hB;have ar:N1+1=V:=qo
 have G:=Hd (An ab (An ar aM));rw[L]at hl;clear ar aH aI aJ n1 n2 n3 f1 X I aP aQ aM aF aB aw az L ax aA aL aD aE aG hB ay hv ad
 go_enter func64,ntmps64
 go_upto_region 1 with fail
 rw[U.out.1,U.out.2.1,U.out.2.2]
 try rw[G.out.1]
 try rw[G.out.2.1]
 clear ab aq;have x5:=F.out.1.k5
 go_wp2_with fail
 clear x5
 go_loopw [11] (λi W=>∃(j:Nat),j<=o/\i=j/\Fr [] w3 W/\∀y∈a.w.take j,y.n≠n) (λi _=>o - (intOf i).toNat)
 case atStart=>exact⟨0,Nat.zero_le _,rfl,Fq _ _,qs⟩
 case round =>
  obtain⟨j,hj,rfl,av,u⟩:=hrel;have p:=Hd (An av u);clear av u
  by_cases aO:j<o
  ·have aS:(j:Int)<(o:Int):=qo
   have aC:Row wr wr.heap.size 7 B o (a.w.flatMap CH.cs):=by have aa:=HB.out.fr0 (S.out.then p.out.1);unfold Chs Rd at aa;rw[t.out.2.1]at aa;exact aa
   obtain⟨bb,off,rfl,aN,au⟩:=fo ip aC qo;obtain⟨x,M⟩:∃x,a.w[j]?=some x:=⟨_,gx (by rw[t.out.2.1];exact aO)⟩;have K:=au j x M;have J:=λW=>yv (t.out.2.2.2 x (iu M)) t.out.2.2.1 W;have HX:=Hd M;obtain⟨⟨O,ow,P,N,tx⟩,v,H⟩:=x;obtain⟨ao,ae,_,_⟩:=eT ow;obtain⟨ap,af,_,_⟩:=eT tx;obtain⟨sv,ag,_,_⟩:=eT v;rw[t.out.1]at J;unfold CH.cs at K;unfold fg at J;simp only[ae,af,ag]at K J;obtain⟨y0,y1,y2,y3,y4,y5,y6⟩:=AR K;obtain⟨w4,aK,aR,n4,f4⟩:=il wr #[O,ao,P,N,ap,sv,.bool H] 95 wr.heap.size;have T:=Hd (An ae (An af ag));clear K au aC M aR ae af ag
   go_upto_region 4 with fail
   try rw[aK]
   clear y0 y1 y2 y3 y4 y5 y6 aN aK;have Y:=p.out.1.then f4;obtain⟨aT,z1,z2,z3,z4,z5,z6⟩:=n4.m7;have m2:=F.out.2.1.fr Y qs;obtain⟨e,g,h,l,m⟩:=m2.m5;have R:=Hd Y;clear Y f4 m2;obtain⟨eb,D⟩:=eR (decide ((⟨⟨O,ow,P,N,tx⟩,v,H⟩:CH).n=n));rw[D]at J
   cases eb with
   | true =>
    have C:=of_decide_eq_true D;have z:=Hd (oM HX.out C p.out.2);clear D C
    go_upto_region 5 with fail
    clear e g h l m;have b:=F.out.2.2.fr R.out qs;obtain⟨e,g,h,l,m,q,s⟩:=b.m7;have ah:=b.f 0;have ai:=b.f 1;have aj:=b.f 2;have ak:=b.f 3;have al:=b.f 4;have am:=b.f 5;have an:=b.f 6
    go_wp2_with fail
    obtain⟨u2,A,ac,Z⟩:=AP (w4) (V) b O ao P N ap sv (.bool H);rw[A];clear A;clear e g h l m q s ah ai aj ak al am an;obtain⟨e,g,h,l,m,q,s⟩:=ac.m7;refine bodyPost_ret (v:=.tuple #[.agg #[O,ao,P,N,ap,sv,.bool H],.bool true]) (by simp[results,results64,go_sem,e,g,h,l,m,q,s]) rfl ?_;refine⟨?_,(S.out.then R.out).trans Z (by simp;have:=G.out;omega)⟩;rw[z.out];unfold FR CH.cs
    simp only[T.out.1,T.out.2.1,T.out.2.2]
   | false =>
    have C:=of_decide_eq_false D;have z:=Hd (yx HX.out C p.out.2);clear D C
    go_wp2_with fail
    go_roundw
    case rel=>exact⟨j+1,qo,by go_num,R.out,z.out⟩
    case measure=>simp[intOf];omega
  ·obtain rfl:j=o:=qo
   have u:=p.out.2;rw[List.take_of_length_le (by rw[t.out.2.1];exact fV _)]at u;have z:=Hd (rM u);clear u
   go_upto_region 7 with fail
   have b:=F.out.2.2.fr p.out.1 qs;obtain⟨e,g,h,l,m,q,s⟩:=b.m7;have ah:=b.f 0;have ai:=b.f 1;have aj:=b.f 2;have ak:=b.f 3;have al:=b.f 4;have am:=b.f 5;have an:=b.f 6
   go_wp2_with fail
   obtain⟨u2,A,ac,Z⟩:=AP (wr) (V) b L0 S0 L0 L0 S0 S0 (.bool false);rw[A];clear A;clear e g h l m q s ah ai aj ak al am an;obtain⟨e,g,h,l,m,q,s⟩:=ac.m7;refine bodyPost_ret (v:=.tuple #[.agg FQ,.bool false]) (by simp[results,results64,FQ,go_sem,e,g,h,l,m,q,s]) rfl ?_;refine⟨?_,(S.out.then p.out.1).trans Z (by simp;have:=G.out;omega)⟩;rw[z.out];rfl
theorem vO(a:AG)(sl:ByteArray)(A B:Option Addr)(c d:Nat)(n:ON)(w:World)(hB:Chs w B a.w)(hn:eX n=0)(hv:∀x∈a.w,eX x.n=0)(hl:a.w.length<=100000):
 Calls prog 67 #[a.val sl A c B d,fg n] w (fm w (FR (nA a.w n))):=by
 obtain⟨ti,hti⟩:=eR (a.k.rnd);obtain⟨ph,hph⟩:=eR (a.k.phase);obtain⟨ix,hix⟩:=eR (a.k.idx);obtain⟨nr,hnr⟩:=eR (a.r.length);obtain⟨nw,hnw⟩:=eR (a.w.length);obtain⟨kd,hkd⟩:=eR (n.kind);obtain⟨nu,hnu⟩:=eR (n.number);obtain⟨xx,hxx⟩:=eR (n.index);obtain⟨so,hso,_,_⟩:=eT n.owner;obtain⟨st,hst,_,_⟩:=eT n.text;have hen:fg n=.agg #[.int .i64 kd,.string so,.int .i64 nu,.int .i64 xx,.string st]:=by unfold fg;rw[hkd,hnu,hxx,hso,hst]
 have hval:a.val sl A c B d=.agg #[.int .i64 ti,.int .i64 ph,.int .i64 ix,.string sl,.slice A nr c,.slice B nw d]:=by unfold AG.val;rw[hti,hph,hix,hnr,hnw]
 rw[hval,hen];obtain⟨w1,hw1,hz1,n1,f1⟩:=il w #[.int .i64 ti,.int .i64 ph,.int .i64 ix,.string sl,.slice A nr c,.slice B nw d] 91 w.heap.size;obtain⟨w2,hw2,hz2,n2,f2⟩:=il w1 #[.int .i64 kd,.string so,.int .i64 nu,.int .i64 xx,.string st] 31 (w.heap.size+1);obtain⟨N1,hN1⟩:=eR (w.heap.size+1);rw[hN1]at n2;obtain⟨w3,hw3,hz3,n3,f3⟩:=il w2 #[.int .i64 0,.string ⟨#[]⟩,.int .i64 0,.int .i64 0,.string ⟨#[]⟩,.string ⟨#[]⟩,.bool false] 95 (w.heap.size+1+1);obtain⟨N2,hN2⟩:=eR (w.heap.size+1+1);rw[hN2]at n3;have HF3:=Hd ((f1.then f2).then f3);have HN:=Hd (An ((n1.fr f2 (by simp)).fr f3 (by simp)) (An (n2.fr f3 (by simp)) n3));have HW:=Hd (An hw1 (An hw2 hw3));have HE:=Hd (An hen (An hnw (An hn hv)));have HB:=Hd hB;have hN3:N1+1=N2:=by omega
 have HZ:=Hd (An hN1 (An hN3 hz3));rw[hnw]at hl;clear hN3 hw1 hw2 hw3 n1 n2 n3 f1 f2 f3 hz1 hz2 hz3 hti hph hix hnr hnw hkd hnu hxx hso hst hval hB hn hv hen
 go_enter func67,ntmps67
 go_upto_region 1 with fail
 rw[HW.out.1,HW.out.2.1,HW.out.2.2]
 try rw[HZ.out.1]
 try rw[HZ.out.2.1]
 clear hN1 hN2
 go_wp2_with fail
 go_loopw [6] (λi W=>∃(j:Nat),j<=nw/\i=.int .i64 (j:Int)/\Fr [] w3 W/\∀y∈a.w.take j,y.n≠n) (λi _=>nw - (intOf i).toNat)
 case atStart=>exact⟨0,Nat.zero_le _,rfl,Fq _ _,by simp⟩
 case round =>
  obtain⟨j,hj,rfl,hfr,hne⟩:=hrel;have HF:=Hd (An hfr hne);clear hfr hne;have x5:wr.cell? ⟨w.heap.size,5,none⟩=some (.slice B nw d):=(HN.out.1.fr HF.out.1 (by simp)).c 5
  by_cases hlt:j<nw
  ·have hlt3:(j:Int)<(nw:Int):=by omega
   have hrow:Row wr wr.heap.size 7 B nw (a.w.flatMap CH.cs):=by have h:=HB.out.fr0 (HF3.out.then HF.out.1);unfold Chs Rd at h;rw[HE.out.2.1]at h;exact h
   obtain⟨bb,off,rfl,kG,hcl⟩:=fo ip hrow (by omega);obtain⟨x,hx⟩:∃x,a.w[j]?=some x:=⟨_,gx (by rw[HE.out.2.1];exact hlt)⟩;have hcx:=hcl j x hx;have hEQ:=λW=>yv (HE.out.2.2.2 x (iu hx)) HE.out.2.2.1 W;have HX:=Hd hx;obtain⟨⟨k2,ow,nu2,ix2,tx⟩,v,ab⟩:=x;obtain⟨so2,hso2,_,_⟩:=eT ow;obtain⟨st2,hst2,_,_⟩:=eT tx;obtain⟨sv,hsv,_,_⟩:=eT v;rw[HE.out.1]at hEQ;unfold CH.cs at hcx;unfold fg at hEQ;simp only[hso2,hst2,hsv]at hcx hEQ;obtain⟨y0,y1,y2,y3,y4,y5,y6⟩:=AR hcx;have HSV:=Hd (An hso2 (An hst2 hsv));have m2:=HN.out.2.1.fr HF.out.1 (by simp);obtain⟨q0,q1,q2,q3,q4⟩:=m2.m5;clear hcx hcl hrow hx hso2 hst2 hsv m2;obtain⟨eb,heb⟩:=eR (decide ((⟨⟨k2,ow,nu2,ix2,tx⟩,v,ab⟩:CH).n=n));rw[heb]at hEQ
   cases eb with
   | true =>
    have he:=of_decide_eq_true heb;have HR:=Hd (oM HX.out he HF.out.2);clear heb he
    go_upto_region 4 with fail
    have HSS:=Hd (λ(W:World) (hW:Fr [] wr W)=>(show (W.cell? ⟨bb,off+j*7,none⟩=some (.int .i64 k2)/\W.cell? ⟨bb,off+j*7+1,none⟩=some (.string so2)/\W.cell? ⟨bb,off+j*7+2,none⟩=some (.int .i64 nu2)/\W.cell? ⟨bb,off+j*7+3,none⟩=some (.int .i64 ix2)/\W.cell? ⟨bb,off+j*7+4,none⟩=some (.string st2))/\(W.cell? ⟨N1,0,none⟩=some (.int .i64 kd)/\W.cell? ⟨N1,1,none⟩=some (.string so)/\W.cell? ⟨N1,2,none⟩=some (.int .i64 nu)/\W.cell? ⟨N1,3,none⟩=some (.int .i64 xx)/\W.cell? ⟨N1,4,none⟩=some (.string st))/\W.cell? ⟨w.heap.size,5,none⟩=some (.slice (some ⟨bb,off,none⟩) nw d)from by
     have hm:=HN.out.2.1.fr (HF.out.1.then hW) (by simp);exact⟨⟨(hW.cell kG (by simp)).trans y0,(hW.cell kG (by simp)).trans y1,(hW.cell kG (by simp)).trans y2,(hW.cell kG (by simp)).trans y3,(hW.cell kG (by simp)).trans y4⟩,⟨hm.c 0,hm.c 1,hm.c 2,hm.c 3,hm.c 4⟩,(HN.out.1.fr (HF.out.1.then hW) (by simp)).c 5⟩))
    refine eY (λW=>Fr [] wr W) (by kernel_rfl) (by kernel_rfl) ((Fq _ wr).drew) ?_
    repeat(
     first
     | go_big_quiet_skip
     | (go_big_quiet_want;first|(go_big_quiet_op;go_big_quiet_on)|(apply Exists.intro;refine⟨λW hW=>?_,?_⟩;(· obtain⟨⟨m0,m1,m2,m3,m4⟩,⟨n0,n1,n2,n3,n4⟩,s5⟩:=HSS.out W hW;go_simp;first|done|with_reducible exact rfl|with_reducible exact⟨rfl,rfl⟩ );simp only[qq];go_big_quiet_on))
     )
    refine wpQuiet_nil ?_;intro w4 hW;have HQ:=Hd hW;have HY:=Hd (An y0 (An y1 (An y2 (An y3 (An y4 (An y5 y6))))));have y0':=(hW.cell kG (by simp)).trans y0;have y1':=(hW.cell kG (by simp)).trans y1;have y2':=(hW.cell kG (by simp)).trans y2;have y3':=(hW.cell kG (by simp)).trans y3;have y4':=(hW.cell kG (by simp)).trans y4;have y5':=(hW.cell kG (by simp)).trans y5;have y6':=(hW.cell kG (by simp)).trans y6;have x5':w4.cell? ⟨w.heap.size,5,none⟩=some (.slice (some ⟨bb,off,none⟩) nw d):=(HN.out.1.fr (HF.out.1.then hW) (by simp)).c 5;clear hW HSS
    go_upto_region 5 with fail
    clear q0 q1 q2 q3 q4;have hrz:=HN.out.2.2.fr (HF.out.1.then HQ.out) (by simp);obtain⟨q0,q1,q2,q3,q4,q5,q6⟩:=hrz.m7;have qf0:=hrz.f 0;have qf1:=hrz.f 1;have qf2:=hrz.f 2;have qf3:=hrz.f 3;have qf4:=hrz.f 4;have qf5:=hrz.f 5;have qf6:=hrz.f 6
    go_wp2_with fail
    obtain⟨u2,hW2,hb2,g2⟩:=AP (w4) (N2) hrz (.int .i64 k2) (.string so2) (.int .i64 nu2) (.int .i64 ix2) (.string st2) (.string sv) (.bool ab);rw[hW2];clear hW2;clear q0 q1 q2 q3 q4 q5 q6 qf0 qf1 qf2 qf3 qf4 qf5 qf6;obtain⟨q0,q1,q2,q3,q4,q5,q6⟩:=hb2.m7;refine bodyPost_ret (v:=.tuple #[.agg #[.int .i64 k2,.string so2,.int .i64 nu2,.int .i64 ix2,.string st2,.string sv,.bool ab],.bool true]) (by simp[results,results67,go_sem,q0,q1,q2,q3,q4,q5,q6]) rfl ?_;refine⟨?_,(HF3.out.then (HF.out.1.then HQ.out)).trans g2 (by simp;have:=HZ.out;omega)⟩;rw[HR.out];unfold FR CH.cs
    simp only[HSV.out.1,HSV.out.2.1,HSV.out.2.2]
   | false =>
    have he:=of_decide_eq_false heb;have HR:=Hd (yx HX.out he HF.out.2);clear heb he
    go_upto_region 4 with fail
    have HSS:=Hd (λ(W:World) (hW:Fr [] wr W)=>(show (W.cell? ⟨bb,off+j*7,none⟩=some (.int .i64 k2)/\W.cell? ⟨bb,off+j*7+1,none⟩=some (.string so2)/\W.cell? ⟨bb,off+j*7+2,none⟩=some (.int .i64 nu2)/\W.cell? ⟨bb,off+j*7+3,none⟩=some (.int .i64 ix2)/\W.cell? ⟨bb,off+j*7+4,none⟩=some (.string st2))/\(W.cell? ⟨N1,0,none⟩=some (.int .i64 kd)/\W.cell? ⟨N1,1,none⟩=some (.string so)/\W.cell? ⟨N1,2,none⟩=some (.int .i64 nu)/\W.cell? ⟨N1,3,none⟩=some (.int .i64 xx)/\W.cell? ⟨N1,4,none⟩=some (.string st))/\W.cell? ⟨w.heap.size,5,none⟩=some (.slice (some ⟨bb,off,none⟩) nw d)from by
     have hm:=HN.out.2.1.fr (HF.out.1.then hW) (by simp);exact⟨⟨(hW.cell kG (by simp)).trans y0,(hW.cell kG (by simp)).trans y1,(hW.cell kG (by simp)).trans y2,(hW.cell kG (by simp)).trans y3,(hW.cell kG (by simp)).trans y4⟩,⟨hm.c 0,hm.c 1,hm.c 2,hm.c 3,hm.c 4⟩,(HN.out.1.fr (HF.out.1.then hW) (by simp)).c 5⟩))
    refine eY (λW=>Fr [] wr W) (by kernel_rfl) (by kernel_rfl) ((Fq _ wr).drew) ?_
    repeat(
     first
     | go_big_quiet_skip
     | (go_big_quiet_want;first|(go_big_quiet_op;go_big_quiet_on)|(apply Exists.intro;refine⟨λW hW=>?_,?_⟩;(· obtain⟨⟨m0,m1,m2,m3,m4⟩,⟨n0,n1,n2,n3,n4⟩,s5⟩:=HSS.out W hW;go_simp;first|done|with_reducible exact rfl|with_reducible exact⟨rfl,rfl⟩ );simp only[qq];go_big_quiet_on))
     )
    refine wpQuiet_nil ?_;intro w4 hW;have HQ:=Hd hW;have HY:=Hd (An y0 (An y1 (An y2 (An y3 (An y4 (An y5 y6))))));have y0':=(hW.cell kG (by simp)).trans y0;have y1':=(hW.cell kG (by simp)).trans y1;have y2':=(hW.cell kG (by simp)).trans y2;have y3':=(hW.cell kG (by simp)).trans y3;have y4':=(hW.cell kG (by simp)).trans y4;have y5':=(hW.cell kG (by simp)).trans y5;have y6':=(hW.cell kG (by simp)).trans y6;have x5':w4.cell? ⟨w.heap.size,5,none⟩=some (.slice (some ⟨bb,off,none⟩) nw d):=(HN.out.1.fr (HF.out.1.then hW) (by simp)).c 5;clear hW HSS
    go_wp2_with fail
    go_roundw
    case rel=>exact⟨j+1,by omega,by go_num,HF.out.1.then HQ.out,HR.out⟩
    case measure=>simp[intOf];omega
  ·obtain rfl:j=nw:=by omega
   have hne:=HF.out.2;rw[List.take_of_length_le (by rw[HE.out.2.1];exact fV _)]at hne;have HR:=Hd (rM hne);clear hne
   go_upto_region 6 with fail
   have hrz:=HN.out.2.2.fr HF.out.1 (by simp);obtain⟨q0,q1,q2,q3,q4,q5,q6⟩:=hrz.m7;have qf0:=hrz.f 0;have qf1:=hrz.f 1;have qf2:=hrz.f 2;have qf3:=hrz.f 3;have qf4:=hrz.f 4;have qf5:=hrz.f 5;have qf6:=hrz.f 6
   go_wp2_with fail
   obtain⟨u2,hW2,hb2,g2⟩:=AP (wr) (N2) hrz (.int .i64 0) (.string ⟨#[]⟩) (.int .i64 0) (.int .i64 0) (.string ⟨#[]⟩) (.string ⟨#[]⟩) (.bool false);rw[hW2];clear hW2;clear q0 q1 q2 q3 q4 q5 q6 qf0 qf1 qf2 qf3 qf4 qf5 qf6;obtain⟨q0,q1,q2,q3,q4,q5,q6⟩:=hb2.m7;refine bodyPost_ret (v:=.tuple #[.agg FQ,.bool false]) (by simp[results,results67,FQ,go_sem,q0,q1,q2,q3,q4,q5,q6]) rfl ?_;refine⟨?_,(HF3.out.then HF.out.1).trans g2 (by simp;have:=HZ.out;omega)⟩;rw[HR.out];rfl
attribute [local go_sem] Oper.semAt_some
def bl(x n:Nat):List Bool :=
 if h:n<=1 \/ 1048576<n then []else if x<fe n then bl x (fe n)++[true]else bl (x - fe n) (n - fe n)++[false]
termination_by n
decreasing_by
 all_goals have:=gv (n:=n) qo qo;omega
theorem Cg(x:Nat):bl x 1=[]:=by rw[bl,dif_pos qo]
theorem xE(x n:Nat)(a:2<=n)(b:n<=1048576):bl x n=if x<fe n then bl x (fe n)++[true]else bl (x - fe n) (n - fe n)++[false]:=by rw[bl,dif_neg qo]
theorem Ch(m l x n k:Nat)(W:World)(R b:World->Prop)(z:2<=n)(B:n<=1048576)(g:fe n=k)(C:x<k)(i:∀m,CallsIn Fence.wide m prog 259 #[.int .i64 (x:Int),.int .i64 (k:Int),.func (.yield l) #[] #[]] W (CP R))
 (j:∀W,R W->YieldAt Fence.wide 0 prog l #[.bool true] W (CP b)):CallsIn Fence.wide m prog 259 #[.int .i64 (x:Int),.int .i64 (n:Int),.func (.yield l) #[] #[]] W (CP b):=by
 have a:=j8 n qo qo W;rw[g]at a;have p:=Hd a;have q:=Hd i;have s:=Hd j;have A:((n:Int) == 1)=false:=by simp;omega
 have D:(x:Int)<(k:Int):=qo
 clear a i j g;refine callsIn_of_wp func259 rfl trivial ?_ rfl;simp only[ntmps259,List.size_toArray,List.length_cons,List.length_nil,Nat.reduceAdd,Nat.reduceSub,Array.replicate_succ,Array.replicate_zero,List.push_toArray,List.append_toArray,List.nil_append,List.cons_append]
 gi_wp2_with (first
  | (refine⟨trivial,λh=>absurd h (by simp[Fence.wide]),?_⟩;(with_reducible refine(callsIn_wide.2 p.out).mono ?_);rintro e t ⟨rfl,rfl⟩)
  | (refine⟨trivial,λh=>absurd h (by simp[Fence.wide]),?_⟩;(with_reducible refine(q.out _).mono ?_);rintro e t ⟨rfl,c⟩;obtain⟨y,F,v,w,E,f⟩:=iY (m':=m - 1) (s.out _ c);have r:=Hd f;clear c f))
 refine⟨λh=>absurd h (by simp[Fence.wide]),r.out.mono ?_⟩;rintro e u ⟨rfl,d⟩;have o:=Hd d;clear d
 gi_wp2_with fail
 go_ret
 exact⟨rfl,o.out⟩
theorem Ci(m l x n k y r:Nat)(W:World)(R b:World->Prop)(B:2<=n)(D:n<=1048576)(g:fe n=k)(H:x<n)(J:k<=x)(L:x - k=y)(E:n - k=r)(i:∀m,CallsIn Fence.wide m prog 259 #[.int .i64 (y:Int),.int .i64 (r:Int),.func (.yield l) #[] #[]] W (CP R))
 (j:∀W,R W->YieldAt Fence.wide 0 prog l #[.bool false] W (CP b)):CallsIn Fence.wide m prog 259 #[.int .i64 (x:Int),.int .i64 (n:Int),.func (.yield l) #[] #[]] W (CP b):=by
 have a:=j8 n qo qo W;rw[g]at a;have p:=Hd a;have q:=Hd i;have t:=Hd j;have C:((n:Int) == 1)=false:=by simp;omega
 have K:¬(x:Int)<(k:Int):=qo
 have I:decide (x<k)=false:=by simp;omega
 have F:IntKind.i64.wrap ((x:Int) - (k:Int))=(y:Int):=by simp[IntKind.wrap,IntKind.bits,IntKind.signed];omega
 have G:IntKind.i64.wrap ((n:Int) - (k:Int))=(r:Int):=by simp[IntKind.wrap,IntKind.bits,IntKind.signed];omega
 clear a i j g;refine callsIn_of_wp func259 rfl trivial ?_ rfl;simp only[ntmps259,List.size_toArray,List.length_cons,List.length_nil,Nat.reduceAdd,Nat.reduceSub,Array.replicate_succ,Array.replicate_zero,List.push_toArray,List.append_toArray,List.nil_append,List.cons_append]
 gi_wp2_with (first
  | (refine⟨trivial,λh=>absurd h (by simp[Fence.wide]),?_⟩;(with_reducible refine(callsIn_wide.2 p.out).mono ?_);rintro e u ⟨rfl,rfl⟩)
  | (refine⟨trivial,λh=>absurd h (by simp[Fence.wide]),?_⟩;(with_reducible refine(q.out _).mono ?_);rintro e u ⟨rfl,c⟩;obtain⟨A,N,w,z,M,f⟩:=iY (m':=m - 1) (t.out _ c);have s:=Hd f;clear c f))
 refine⟨λh=>absurd h (by simp[Fence.wide]),s.out.mono ?_⟩;rintro e v ⟨rfl,d⟩;have o:=Hd d;clear d
 gi_wp2_with fail
 go_ret
 exact⟨rfl,o.out⟩
theorem DJ(l:Nat):∀(n x:Nat) (m:Nat) (W:World) (R:Nat->World->Prop),1<=n->n<=1048576->x<n->R 0 W ->
 (∀(j:Nat) (b:Bool) (a:World),(bl x n)[j]?=some b->R j a->YieldAt Fence.wide 0 prog l #[.bool b] a (CP (R (j+1)))) ->
 CallsIn Fence.wide m prog 259 #[.int .i64 (x:Int),.int .i64 (n:Int),.func (.yield l) #[] #[]] W (CP (R (bl x n).length)):=by
 intro n
 induction n using Nat.strongRecOn with
 | ind n o =>
  intro x m W R p f r i d
  rcases Nat.eq_or_lt_of_le p with rfl|g
  ·rw[Cg]
   exact Ac m _ _ W (R 0) i
  ·have q:=gv (n:=n) g f
   rw[xE x n g f]at d ⊢
   by_cases h:x<fe n
   ·rw[if_pos h]at d ⊢
    rw[gG];refine Ch m l x n (fe n) W (R (bl x (fe n)).length) _ g f rfl h (λk=>o (fe n) qo x k W R q.1 qo h i (λj b a e c=>d j b a ?_ c)) (λa c=>d _ true a ?_ c)
    ·rw[List.getElem?_append_left (i9.1 e).1];exact e
    ·rw[List.getElem?_append_right (fV _),Nat.sub_self];rfl
   ·rw[if_neg h]at d ⊢
    rw[gG];refine Ci m l x n (fe n) (x - fe n) (n - fe n) W (R (bl (x - fe n) (n - fe n)).length) _ g f rfl r qo rfl rfl (λk=>o (n - fe n) qo (x - fe n) k W R qo qo qo i (λj b a e c=>d j b a ?_ c)) (λa c=>d _ false a ?_ c)
    ·rw[List.getElem?_append_left (i9.1 e).1];exact e
    ·rw[List.getElem?_append_right (fV _),Nat.sub_self];rfl
theorem FT(n g h i a:Nat)(w:World)(z:i<a)(A:a<=1048576)(p:BoxN w g 3 #[.int .i64 (i:Int)])(f:BoxN w h 3 #[.int .i64 (a:Int)])(l:Nat)(J:Nat->World->Prop)(W:World)(hW:Fr [] w W)
 (r:∀k x d,(bl i a)[k]?=some x->J k d->YieldAt Fence.wide (n - 1) prog l #[.bool x] d λe o=>e=.returned (.bool true)/\J (k+1) o) (q:J 0 W) :
 CallsIn Fence.wide n prog 258 (#[.func (.yield l) #[] #[]]++#[.pointer (some ⟨g,0,none⟩),.pointer (some ⟨h,0,none⟩)]) W λe o=>(∃v,e=.returned v)/\J (bl i a).length o:=by
 have C:=(p.fr hW qs).c 0;have D:=(f.fr hW qs).c 0
 have s:=Hd (λm =>
  DJ l a i m W J qo A z q (λj b d y u=>iY (r j b d y u)))
 clear p f r q hW
 show CallsIn Fence.wide n prog 258 #[.func (.yield l) #[] #[],.pointer g,.pointer h] W _
 refine callsIn_of_wp func258 rfl trivial ?_ rfl;simp only[ntmps258,List.size_toArray,List.length_cons,List.length_nil,Nat.reduceAdd,Nat.reduceSub,Array.replicate_succ,Array.replicate_zero,List.push_toArray,List.append_toArray,List.nil_append,List.cons_append]
 gi_wp2_with (refine⟨trivial,λt=>absurd t (by simp[Fence.wide]),?_⟩;(with_reducible refine(s.out _).mono ?_);rintro e B ⟨rfl,f⟩)
 go_end0
 exact⟨⟨_,rfl⟩,f⟩
open Go.RowKit
def gu(l r:Nm):List Value:=eP l++eP r
theorem mK{l r:Nm}(a:l.length=32)(b:r.length=32):(gu l r).length=64:=by
 unfold gu;rw[gG,eU,eU,a,b]
theorem lj(l r:Nm):∀u∈gu l r,u.oneCell'=true:=by
 intro u a
 rcases List.mem_append.1 a with h|h
 ·exact gL l u h
 ·exact gL r u h
theorem As(off:Nat)(l:List Value):∀(k:Nat) (z:Array Value),off+k+l.length<=z.size->∀i,((l.zipIdx k).foldl (λcs x=>cs.setIfInBounds (off+x.2) x.1) z)[i]?=if off+k<=i/\i<off+k+l.length then l[i - (off+k)]? else z[i]?:=by
 induction l with
 | nil =>
  intro k z _ i;simp only[List.zipIdx_nil,List.foldl_nil,List.length_nil]
  rw[if_neg qo]
 | cons x l d =>
  intro k z c i;simp only[List.length_cons]at c;rw[List.zipIdx_cons,List.foldl_cons,d (k+1) _ (by simp;omega)];simp only[List.length_cons]
  by_cases a:off+(k+1)<=i/\i<off+(k+1)+l.length
  ·rw[if_pos a,if_pos qo,show i - (off+k)=(i - (off+(k+1)))+1 by omega,List.getElem?_cons_succ]
  ·rw[if_neg a]
   by_cases b:i=off+k
   ·subst b
    rw[if_pos qo,Nat.sub_self,List.getElem?_cons_zero,Array.getElem?_setIfInBounds_self_of_lt qo]
   ·rw[if_neg qo,Array.getElem?_setIfInBounds_ne qo]
theorem rN(l:List Value):∀(k:Nat) (z:Array Value),((l.zipIdx k).foldl (λcs x=>cs.setIfInBounds x.2 x.1) z).size=z.size:=by
 induction l with
 | nil=>intro k z;rfl
 | cons x l a=>intro k z;rw[List.zipIdx_cons,List.foldl_cons,a];simp
theorem Au{l r:Nm}(d:l.length=32)(e:r.length=32)(z:Array Value)(g:z.size=64):
 ((eP r).zipIdx).foldl (λcs x=>cs.setIfInBounds (32+x.2) x.1) (((eP l).zipIdx).foldl (λcs x=>cs.setIfInBounds x.2 x.1) z)=(gu l r).toArray:=by
 have b:(eP l).length=32:=by rw[eU,d]
 have c:(eP r).length=32:=by rw[eU,e]
 have h:=rN (eP l) 0 z
 apply Array.ext_getElem?
 intro i;rw[As 32 (eP r) 0 _ qo i,rI (eP l) 0 z qo i,b,c];simp only[gu,List.getElem?_toArray,List.getElem?_append,b,Nat.add_zero,Nat.zero_add,Nat.sub_zero,Nat.zero_le,true_and]
 by_cases a:i<32
 ·rw[if_neg qo,if_pos a,if_pos a]
 ·rw[if_neg a]
  by_cases f:i<64
  ·rw[if_pos qo,if_neg a]
  ·rw[if_neg qo,if_neg a,Array.getElem?_eq_none qo,List.getElem?_eq_none qo]
theorem kC(W:World){l r:Nm}(a:l.length=32)(b:r.length=32):(Instr.build 308 #[(0,.agg (eP l).toArray),(1,.agg (eP r).toArray)]).run prog W=.ok (.agg (gu l r).toArray) W:=by
 have c:(eP l).length=32:=by rw[eU,a]
 have d:(eP r).length=32:=by rw[eU,b]
 simp[Instr.build,go_sem,c,d,rN];exact Au a b _ rfl
theorem Av{W:World}{B:Nat}{l r:Nm}(h:BoxN W B 308 (gu l r).toArray):W.rangeAt B 0 (eP l):=λj v a=>by
 rw[Nat.zero_add,h.c j];have b:=(i9.1 a).1;simp only[gu,List.getElem?_toArray];rw[List.getElem?_append_left b];exact a
theorem xF{W:World}{B:Nat}{l r:Nm}(b:l.length=32)(h:BoxN W B 308 (gu l r).toArray):W.rangeAt B 32 (eP r):=λj v d=>by
 have a:(eP l).length=32:=by rw[eU,b]
 rw[h.c (32+j)];simp only[gu,List.getElem?_toArray];rw[List.getElem?_append_right qo,a,Nat.add_sub_cancel_left];exact d
theorem mg(l r:Nm)(w:World)(S:Ok w)(t:l.length=32)(G:r.length=32):Calls prog 219 #[.agg (gu l r).toArray] w (gh w (ig l r)):=by
 obtain⟨a,x,E,q⟩:=kS w (gu l r).toArray 308;obtain⟨w2,g⟩:=eR (a.alloc (.cells (qm) 57));have c:Fr [] a w2:=by rw[<-g];exact(Fq [] a).alloc _
 obtain⟨W,D⟩:∃f,w2.rowIs a.heap.size 57 32 f:=by rw[<-g];exact⟨_,gn a _ _⟩
 have H:a.heap.size=w.heap.size+1:=by rw[<-x];exact kX _ _
 have k:=E.fr c qs;have h:=rC l r w2 (S.fr0 (q.then c)) t G;obtain⟨d,m⟩:=eR (ig l r);have n:d.length=32:=by rw[<-m];exact fw _
 rw[m]at h ⊢;have Q:(eP d).length=32:=by rw[eU,n]
 have O:(eP l).length=32:=by rw[eU,t]
 have P:(eP r).length=32:=by rw[eU,G]
 have K:=Hd (Av k);have L:=Hd (xF t k);have z:=Hd h;have A:=Hd D;have I:=Hd (q.then c);have M:=Hd x;have N:=Hd g;obtain⟨R,j⟩:=eR (a.heap.size);rw[j]at A;have B:=Hd j;have C:=Hd H;clear h D q c x g E k m H j;unfold fu at z
 go_enter func219,ntmps219
 go_upto_region 1 with fail
 rw[M.out,N.out,<-C.out,B.out]
 go_wp2_with (first
  | (with_reducible refine wpList_load_mid rfl 57 (.tmp 3) rfl w.heap.size 0 rfl (eP l) (.array 32 5) K.out qk rfl (by rw[O];kernel_rfl) ?_)
  | (with_reducible refine wpList_load_mid rfl 57 (.tmp 5) rfl w.heap.size 32 rfl (eP r) (.array 32 5) L.out qk rfl (by rw[P];kernel_rfl) ?_)
  | (go_at_call 150;(with_reducible refine z.out.mono ?_);rintro e U ⟨rfl,s⟩;unfold fu;have i:=eS A.out s qs;have T:=fc (d:=d) i n;have u:=fh (d:=d) i n;obtain⟨V,y⟩:∃X,U.setCells R 0 (eP d)=X:=⟨_,rfl⟩;have F:Fr [] w V:=(by rw[<-y];exact((I.out.then s).setCells (.inr (by have:=B.out;have:=C.out;omega)) _ _));rw[y]at T u;have HRD:=Hd u.1;have J:=Hd F;clear y u F i s))
 exact bodyPost_ret (v:=fu d) (fy (d:=.array 32 5) (p:=2) (ty:=57) (b:=R) (o:=0) rfl rfl HRD.out qk rfl (by rw[Q];rfl)) rfl ⟨rfl,J.out⟩
attribute [local go_sem] Oper.semAt_some
theorem rO{P:Program}{b:Func}{p q u:Tmp}{t1 t2 t3:TypeId}{a:Array Value}{w:World}{A1 A2 A3:Addr}{c d e:Value}(h:b.results=#[.cell p t1,.cell q t2,.cell u t3])(j:a.getD p undef=.pointer (some A1))(l:a.getD q undef=.pointer (some A2))(o:a.getD u undef=.pointer (some A3))
 (f:(loadVar t1 A1).run P w=.ok c w) (g:(loadVar t2 A2).run P w=.ok d w) (i:(loadVar t3 A3).run P w=.ok e w):(results b a).run P w=.ok (.tuple #[c,d,e]) w:=by
 have k:a[p]?.getD undef=.pointer (some A1):=by rw[<-Array.getD_eq_getD_getElem?];exact j
 have n:a[q]?.getD undef=.pointer (some A2):=by rw[<-Array.getD_eq_getD_getElem?];exact l
 have s:a[u]?.getD undef=.pointer (some A3):=by rw[<-Array.getD_eq_getD_getElem?];exact o
 simp only[results,h];simp[Sem.run_bind,Result.andThen,k,n,s,asAddr,f,g,i]
section
variable {P:Program} {r m:Nat} {Q:Exit->Act->World->Prop} {ops:Array Oper}
theorem iZ{o:Oper}{rest:List Oper}{a:Act}{w:World}(c:o.guard=none)(b:Oper.plainB o=true)(h:o.wp P a w (wpListIn (Fence.wide.inRound r) m P ops Q rest) Q):wpListIn (Fence.wide.inRound r) m P ops Q (o::rest) a w:=by
 unfold wpListIn;have d:Region.wanted o (yielded ops a.tmps)=true:=by simp[Region.wanted,c]
 rw[if_pos d];exact sO b h
end
theorem tf(l:List Value)(z:Array Value)(h:z.size=l.length):(l.zipIdx).foldl (λcs x=>cs.setIfInBounds x.2 x.1) z=l.toArray:=by
 apply Array.ext_getElem?
 intro i;rw[rI l 0 z qo i];simp only[Nat.zero_add,Nat.zero_le,true_and,Nat.sub_zero,List.getElem?_toArray];split
 ·rfl
 ·rw[Array.getElem?_eq_none qo,List.getElem?_eq_none qo]
theorem tg:∃i,(prog).info? 308=some i/\i.zero=some (.agg ((List.toArray (.int .u8 0::.int .u8 0::.int .u8 0::.int .u8 0::.int .u8 0::.int .u8 0::.int .u8 0::.int .u8 0::.int .u8 0::.int .u8 0::.int .u8 0::.int .u8 0::.int .u8 0::.int .u8 0::.int .u8 0::.int .u8 0::.int .u8 0::.int .u8 0::.int .u8 0::.int .u8 0::.int .u8 0::.int .u8 0::.int .u8 0::.int .u8 0::.int .u8 0::.int .u8 0::.int .u8 0::.int .u8 0::.int .u8 0::.int .u8 0::.int .u8 0::.int .u8 0::.int .u8 0::.int .u8 0::.int .u8 0::.int .u8 0::.int .u8 0::.int .u8 0::.int .u8 0::.int .u8 0::.int .u8 0::.int .u8 0::.int .u8 0::.int .u8 0::.int .u8 0::.int .u8 0::.int .u8 0::.int .u8 0::.int .u8 0::.int .u8 0::.int .u8 0::.int .u8 0::.int .u8 0::.int .u8 0::.int .u8 0::.int .u8 0::.int .u8 0::.int .u8 0::.int .u8 0::.int .u8 0::.int .u8 0::.int .u8 0::.int .u8 0::.int .u8 0::[]):Array Value)))/\i.size=64/\i.bytes=64:=info_parts qk
theorem uq{P:Program}{c:Code}{K:Act->World->Prop}{Q:Exit->Act->World->Prop}{a:Act}{w:World}(h:c.wp P (Exit.then K (λ_ _ _=>False)) a w):c.wp P (Exit.then K Q) a w :=
 wp_mono h λe a w h=>by cases e <;> first|exact h|exact h.elim
structure PairAt(X:World)(B:Nat)(l r:Nm):Prop where
 rng:X.rangeAt B 0 (gu l r)
 there:X.there B 0 64
 lt:B<X.heap.size
theorem PairAt.fr{X Y:World}{B:Nat}{l r:Nm}{S:List Nat}(h:PairAt X B l r)(a:Fr S X Y)(b:B ∉ S):PairAt Y B l r :=
 ⟨λj v d=>(a.cell h.lt b).trans (h.rng j v d),λj c=>⟨by rw[a.cell h.lt b];exact(h.there j c).1,by rw[a.frozen h.lt b];exact(h.there j c).2⟩,Nat.lt_of_lt_of_le h.lt a.size⟩
theorem th(X:World){z:Array Value}(d:z.size=64):(X.alloc (.cells z 308)).there X.heap.size 0 64:=λj b=>by
 have a:=BoxN.new X 308 z;rw[Nat.zero_add];refine⟨?_,a.f j⟩;rw[a.c j,Array.getElem?_eq_getElem qo];rfl
theorem PairAt.put{X:World}{B:Nat}{l r:Nm}(a:X.there B 0 64)(d:B<X.heap.size)(c:l.length=32)(e:r.length=32):PairAt (X.setCells B 0 (gu l r)) B l r:=by
 have b:=mK c e;have f:X.there B 0 (gu l r).length:=by rw[b];exact a
 refine⟨World.rangeAt_setCells_same X B 0 _ f,?_,by rw[jL];exact d⟩;exact World.there_setCells a B 0 (gu l r)
def Aw(w:World)(r:Nm)(e:Ending)(w':World):Prop:=∃v,e=.returned (.tuple #[fu r,v,.int .i64 0])/\Fr [] w w'
end Go.Proofs.YtlpmiimgacfmkaaGreatDoor
