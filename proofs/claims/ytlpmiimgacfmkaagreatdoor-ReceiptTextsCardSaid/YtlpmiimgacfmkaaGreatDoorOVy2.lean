/- receipt: verified, of any proofs. -/
import Derived.Laws.IdiomRangeMap
import Derived.Maps.RangeRun
import Derived.Test.YtlpmiimgacfmkaaGreatDoorOVy1
import Derived.Test.YtlpmiimgacfmkaaGreatDoorODg3
import Derived.Test.YtlpmiimgacfmkaaGreatDoorOCa1
import Derived.Test.YtlpmiimgacfmkaaGreatDoorODe4
set_option linter.all false
namespace Go.Proofs.YtlpmiimgacfmkaaGreatDoor
set_option maxRecDepth 100000
set_option maxHeartbeats 4000000
open Go.Proofs.Tryz
open Go.RowKit Go.Shelf
theorem text_le {n:ON} (h:checkO n=0):n.text.length<=32:=by
 obtain⟨k,_,_,_,b⟩:=kind_of h
 cases a:(us k).text with
 | true =>
  have:=(checkU_zero b).2.2 a;simp only[wordB,Bool.and_eq_true,decide_eq_true_eq] at this
  omega
 | false=>rw[(checkU_none b).2.2.2 a];simp
def ascB (xs:List Nat):Bool:=(List.range xs.length).all fun j=>decide (j=0 \/ xs.getD (j - 1) 0<xs.getD j 0)
def AscTo (xs:List Nat) (j:Nat):Prop:=∀ k,k<j->k=0 \/ xs.getD (k - 1) 0<xs.getD k 0
theorem asc_true {xs:List Nat} (h:AscTo xs xs.length):ascB xs=true:=by
 unfold ascB;rw[List.all_eq_true];intro k a;exact decide_eq_true (h k (List.mem_range.1 a))
theorem asc_false {xs:List Nat} {j:Nat} (b:j<xs.length) (c:0<j) (h:xs.getD j 0<=xs.getD (j - 1) 0):ascB xs=false:=by
 cases a:ascB xs with
 | false=>rfl
 | true =>
  unfold ascB at a;rw[List.all_eq_true] at a;have:=of_decide_eq_true (a j (List.mem_range.2 b));omega
structure ActO (w:World) (A:Option Addr) (n c:Nat) (ys:List AX):Prop where
 own:Own w 91 6 A n c (ys.flatMap AX.cs)
 each:∀ y∈ys,y.ok w
 len:ys.length=n
theorem ActO.fr0 {w w':World} {A:Option Addr} {n c:Nat} {b:List AX} (h:ActO w A n c b) (a:Fr [] w w'):ActO w' A n c b:=⟨h.own.fr a qs,fun y d=>(h.each y d).fr0 a,h.len⟩
def VdPost (w:World) (m:Nat) (is:List Nat) (d:List AG) (e:Ending) (w':World):Prop :=
 if ascB is=true then ∃ A c b,e=.returned (.tuple #[.slice A m c,.int .i64 0])/\ActO w' A m c b/\b.map AX.a=d/\Fr [] w w'/\∀ q∈blk A,w.heap.size<=q
 else e=.returned (.tuple #[.slice none 0 0,.int .i64 32])/\Fr [] w w'
theorem Verified_g (I:Nm) (a5:I.length=32) (nm:ON) (so st:ByteArray) (P n m:Nat) (M:Option Addr) (c:Nat) (f:List PF) (Q:List AG) (w:World) (aq:Ok w) (ap:checkO nm=0) (al:encO nm=.agg #[.int .i64 nm.kind,.string so,.int .i64 nm.number,.int .i64 nm.index,.string st]) (hP:P<65536) (hp:PrL w n M c f) (a3:f.length=m) (bQ:0<m) (bR:m<=12) (aG:Q.length=m)
 (hV:∀ (j:Nat) (p:PF) (a:AG),f[j]?=some p->Q[j]?=some a->∀ W,Fr [] w W->Calls prog 66 #[encD I,.agg (p.cs n).toArray] W (DecGPost W a)) :
 Calls prog 63 #[rcV nm.kind so nm.number nm.index st (P:Int) (n:Int) (.slice M m c),encD I] w (VdPost w m (f.map PF.i) Q):=by
 have aJ:(dCells I).length=32:=by rw[dcells_len,a5]
 obtain⟨kd,aS⟩:=nmd (nm.kind);obtain⟨nu,aV⟩:=nmd (nm.number);obtain⟨xx,bh⟩:=nmd (nm.index);rw[aS,aV,bh] at al ⊢;obtain⟨w1,bb,bj,n1,f1⟩:=bxz w #[.int .i64 kd,.string so,.int .i64 nu,.int .i64 xx,.string st,.int .i64 (P:Int),.int .i64 (n:Int),.slice M m c] 39 w.heap.size;obtain⟨w2,ab⟩:=nmd (w1.alloc (.cells (dCells I).toArray 57));have aB:w2.rowIs (w.heap.size+1) 57 32 (fun j=>.int .u8 ((I.getD j 0).toNat:Int)):=by rw[<-ab,<-bj];exact row_cells w1 aJ
 have Z:Fr [] w1 w2:=by rw[<-ab];exact (Fq [] w1).alloc _
 have n2:=n1.fr Z qs;obtain⟨x0,x1,x2,x3,x4,x5,x6,x7⟩:=n2.m8;have ai:=Check_ok nm w2 (aq.fr0 (f1.then Z)) ap (by have:=text_le ap;omega);rw[al] at ai;have HC:=Hd ai;have HW:=Hd (An bb ab);have J:=Hd (An n2 (An aB (f1.then Z)));have bK:=Hd aq;have z:=Hd (An hp (An a3 aG));have HV:=Hd hV;have bC:((m:Int) == 0)=false:=by simp;omega
 have bD:decide ((4096:Int)<(m:Int))=false:=by simp;omega
 have bu:decide ((P:Int)<0)=false:=qs
 have bv:decide ((65536:Int)<=(P:Int))=false:=by simp;omega
 clear hV;clear bb ab n1 n2 f1 Z aB bj aq hp ap al aS aV bh ai a3 aG;unfold rcV encD
 go_enter func63,ntmps63
 go_upto_region 1 with fail
 rw[HW.out.1,HW.out.2]
 go_upto_region 8 with (go_at_call 53;(with_reducible refine HC.out.mono ?_);rintro e w3 ⟨rfl,am⟩;have X:=Hd am;have m3:=J.out.1.fr am qs;have y5:w3.cell? ⟨w.heap.size,5,none⟩=some (.int .i64 (P:Int)):=m3.c 5;have y7:w3.cell? ⟨w.heap.size,7,none⟩=some (.slice M m c):=m3.c 7;clear am m3)
 clear x0 x1 x2 x3 x4 x5 x6 x7
 go_wp2_with fail
 clear y5 y7 bu bv bC bD
 go_loopw [7,40] (fun s i W=>∃ (j c':Nat) (A':Option Addr) (L:List AX),j<=m/\i=.int .i64 (j:Int)/\s=.slice A' j c'/\ActO W A' j c' L/\L.map AX.a=Q.take j/\Fr [] w3 W/\(∀ q∈blk A',w3.heap.size<=q)/\AscTo (f.map PF.i) j) (fun _ i _=>m - (intOf i).toNat)
 case atStart=>exact⟨0,0,none,[],Nat.zero_le _,rfl,rfl,⟨Own.nil _ _ _,qs,rfl⟩,qs,Fq _ _,by simp[blk],fun k hk=>by omega⟩
 case round =>
  obtain⟨j,c',A',L,hj,rfl,rfl,aH,bi,aL,aA,aI⟩:=hrel;have b:=Hd (An aH (An bi (An aL (An aA aI))));clear aH bi aL aA aI
  by_cases an:j<m
  ·have bP:(j:Int)<(m:Int):=qo
   have aw:Fr [] w wr:=J.out.2.2.then (X.out.then b.out.2.2.1);have a6:Row wr wr.heap.size 4 M m (f.flatMap (PF.cs n)):=by have h:=(z.out.1.own.fr aw qs).rd;unfold Rd at h;rw[z.out.2.1] at h;exact h
   obtain⟨g,off,rfl,aN,aj⟩:=row_get (pf_len n) a6 qo;obtain⟨p,R⟩:∃ x,f[j]?=some x:=⟨_,lge (by rw[z.out.2.1];exact an)⟩;obtain⟨a,ag⟩:∃ x,Q[j]?=some x:=⟨_,lge (by rw[z.out.2.2];exact an)⟩;have U:=HV.out j p a R ag;have G:=aj j p R;have aM:(f.map PF.i).getD j 0=p.i:=by rw[List.getD_eq_getElem?_getD,List.getElem?_map,R];rfl
   have O:=Hd (An R (An ag aM));obtain⟨s,T,_,_⟩:=str_of p.s;obtain⟨H,ar⟩:=nmd (p.i);obtain⟨PA,aC⟩:=nmd (p.A);obtain⟨pd,aY⟩:=nmd (p.d.length);obtain⟨pc,aX⟩:=nmd (p.c);unfold PF.cs at G U;unfold encD at U;rw[T,ar,aC,aY,aX] at G U;have bJ:wr.cell? ⟨g,off+j*4,none⟩=some (.int .i64 (H:Int)):=G 0 qo;have z1:wr.cell? ⟨g,off+j*4+1,none⟩=some (.int .i64 (n:Int)):=G 1 qo;have z2:wr.cell? ⟨g,off+j*4+2,none⟩=some (.string s):=G 2 qo;have z3:wr.cell? ⟨g,off+j*4+3,none⟩=some (.slice PA pd pc):=G 3 qo;obtain⟨u,bc,bE,n4,f4⟩:=bxz wr #[.int .i64 (H:Int),.int .i64 (n:Int),.string s,.slice PA pd pc] 53 wr.heap.size;have ay:=Hd U;have ax:=Hd aj;have bp:=Hd ar;clear U aj G a6 R ag aM T ar aC aY aX bE
   go_upto_region 14 with fail
   try rw[bc]
   clear bJ z1 z2 z3 bc;have ae:Fr [] w2 u:=(X.out.then b.out.2.2.1).then f4;have ao:=J.out.1.fr ae qs;have p1:=n4.k1;have r6:=ao.k6;have o:=Hd (An n4 (An ao (An f4 (An ae (aw.then f4)))));clear n4 ao f4 ae aw;obtain⟨PB,aD⟩:=nmd (wr.heap.size);rw[aD] at o p1 aN ⊢
   go_upto_region 16 with fail
   clear p1 r6;obtain⟨gb,C⟩:=nmd (decide (0<j/\(f.map PF.i).getD j 0<=(f.map PF.i).getD (j - 1) 0))
   go_cut [63] from 50 to 63 (fun s W=>s=.bool gb/\Fr [] u W)
   case first =>
    rcases Nat.eq_zero_or_pos j with aR | aR
    ·have bw:decide ((0:Int)<(j:Int))=false:=by simp;omega
     have bx:decide (0<j)=false:=by simp;omega
     have ad:=Hd (show gb=false by rw[<-C];simp;omega);clear C;have HSS:=Hd (fun (W:World) (hW:Fr [] u W)=>((o.out.1.fr hW qs).c 0:W.cell? ⟨PB,0,none⟩=some (.int .i64 (H:Int))));refine wp_region_qall (fun W=>Fr [] u W) qk qk ((Fq _ u).drew) ?_
     repeat (
      first
      | go_big_quiet_skip
      | (go_big_quiet_want;first | (go_big_quiet_op;go_big_quiet_on) | (apply Exists.intro;refine⟨fun W hW=>?_,?_⟩;(· obtain bt:=HSS.out W hW;go_simp;first | done | with_reducible exact rfl | with_reducible exact⟨rfl,rfl⟩ );simp only[qq];go_big_quiet_on))
      )
     refine wpQuiet_nil ?_;intro v5 D;have F:=Hd D;clear D
     go_wp2_with fail
     go_meet
     exact⟨by rw[ad.out],F.out⟩
    ·obtain⟨l,bA⟩:=nmd (j - 1)
     have bw:decide ((0:Int)<(j:Int))=true:=by simp;omega
     have bx:decide (0<j)=true:=by simp;omega
     have bS:IntKind.i64.wrap ((j:Int) - 1)=(l:Int):=by simp[IntKind.wrap,IntKind.bits,IntKind.signed];omega
     have bT:IntKind.i64.wrap (l:Int)=(l:Int):=by simp[IntKind.wrap,IntKind.bits,IntKind.signed];omega
     have bN:(l:Int)<(m:Int):=qo
     have bB:l<m:=qo
     obtain⟨q,av⟩:∃ x,f[l]?=some x:=⟨_,lge (by rw[z.out.2.1];exact bB)⟩;have aa:=ax.out l q av 0 qo;have au:(f.map PF.i).getD l 0=q.i:=by rw[List.getD_eq_getElem?_getD,List.getElem?_map,av];rfl
     obtain⟨V,a4⟩:=nmd (q.i);unfold PF.cs at aa;rw[a4] at aa au;have aO:g<wr.heap.size:=by rw[aD];exact aN
     have zq:∀ W,Fr [] u W->W.cell? ⟨g,off+l*4,none⟩=some (.int .i64 (V:Int)):=fun W hW=>((o.out.2.2.1.then hW).cell (p:=⟨g,off+l*4,none⟩) aO qs).trans aa;have ad:=Hd (show decide (H<=V)=gb by rw[<-C,O.out.2.2,bA,au,bp.out];simp[aR]);have bO:decide ((H:Int)<=(V:Int))=decide (H<=V):=qs
     clear C av aa au a4 aO;have HSS:=Hd (fun (W:World) (hW:Fr [] u W)=>(⟨(o.out.1.fr hW qs).c 0,(o.out.2.1.fr hW qs).c 7,zq W hW⟩:W.cell? ⟨PB,0,none⟩=some (.int .i64 (H:Int))/\W.cell? ⟨w.heap.size,7,none⟩=some (.slice (some ⟨g,off,none⟩) m c)/\W.cell? ⟨g,off+l*4,none⟩=some (.int .i64 (V:Int))));clear zq;refine wp_region_qall (fun W=>Fr [] u W) qk qk ((Fq _ u).drew) ?_
     repeat (
      first
      | go_big_quiet_skip
      | (go_big_quiet_want;first | (go_big_quiet_op;go_big_quiet_on) | (apply Exists.intro;refine⟨fun W hW=>?_,?_⟩;(· obtain⟨bt,bL,bM⟩:=HSS.out W hW;go_simp;first | done | with_reducible exact rfl | with_reducible exact⟨rfl,rfl⟩ );simp only[qq];go_big_quiet_on))
      )
     refine wpQuiet_nil ?_;intro v5 D;have F:=Hd D;clear D
     go_wp2_with fail
     go_meet
     exact⟨by rw[ad.out],F.out⟩
   case rest =>
    obtain⟨rfl,E⟩:=hcut
    cases gb with
    | true =>
     have ah:=of_decide_eq_true C;have bn:=Hd (asc_false (by rw[List.length_map,z.out.2.1];exact an) ah.1 ah.2);have bs:=Hd (o.out.2.2.2.2.then E);clear C ah E
     go_wp2_with fail
     go_ret2
     unfold VdPost;rw[if_neg (by rw[bn.out];simp)]
     exact⟨rfl,bs.out⟩
    | false =>
     have aP:=of_decide_eq_false C
     have bm:=Hd (show AscTo (f.map PF.i) (j+1) from fun k hk=>by
      rcases Nat.lt_or_eq_of_le (Nat.le_of_lt_succ hk) with h | rfl
      ·exact b.out.2.2.2.2 k h
      ·rcases Nat.eq_zero_or_pos k with h | h
       ·exact .inl h
       ·exact .inr (by have:=not_and.1 aP h;omega))
     obtain⟨v5,D⟩:=nmd (wc);rw[D] at E ⊢;have n5:=o.out.1.fr E qs;have F:=Hd (An (o.out.2.2.2.1.then E) (An (o.out.2.2.2.2.then E) (o.out.2.2.1.then E)));clear C aP E D;obtain⟨p0,p1,p2,p3⟩:=n5.m4;have bq:=Hd (row_range (rowIs_fr J.out.2.1 F.out.1 qs) a5);have ba:=ay.out v5 F.out.2.1;have br:=Hd ba;obtain⟨ti,a8⟩:=nmd (a.k.rnd);obtain⟨ph,aZ⟩:=nmd (a.k.phase);obtain⟨ix,aQ⟩:=nmd (a.k.idx);obtain⟨nr,aT⟩:=nmd (a.r.length);obtain⟨nw,aW⟩:=nmd (a.w.length);have a9:∀ x:AX,x.a=a->x.v=.agg #[.int .i64 ti,.int .i64 ph,.int .i64 ix,.string x.sl,.slice x.A nr x.c,.slice x.B nw x.d]/\x.cs=[.int .i64 ti,.int .i64 ph,.int .i64 ix,.string x.sl,.slice x.A nr x.c,.slice x.B nw x.d]:=fun x hx=>by unfold AX.v AG.val AX.cs;rw[hx,a8,aZ,aQ,aT,aW];exact⟨rfl,rfl⟩
     have az:=Hd a9;clear n5 ba a9 a8 aZ aQ aT aW ay ax
     go_upto_region 19 with (first
      | (refine wpList_wanted qr ?_;(with_reducible refine wp_load_mid 57 (.tmp 3) rfl (w.heap.size+1) 0 rfl (dCells I) (.array 32 5) bq.out qk rfl (by rw[aJ];kernel_rfl) ?_))
      | (go_at_call 66;(with_reducible refine br.out.mono ?_);rintro e v6 ⟨x,ac,rfl,bg,aK,_,_⟩;have Y:=Hd (An ac (An bg (An aK (az.out x ac).2)));rw[(az.out x ac).1];clear bg aK))
     clear p0 p1 p2 p3;obtain⟨bk,a7⟩:=nmd (x.sl);obtain⟨XA,aE⟩:=nmd (x.A);obtain⟨XB,aF⟩:=nmd (x.B);obtain⟨xc,be⟩:=nmd (x.c);obtain⟨xd,bf⟩:=nmd (x.d);have ak:=Y.out.2.2.2;rw[a7,aE,aF,be,bf] at ak ⊢;obtain⟨v7,bd,bF,n7,f7⟩:=bxz v6 #[.int .i64 ti,.int .i64 ph,.int .i64 ix,.string bk,.slice XA nr xc,.slice XB nw xd] 91 v6.heap.size
     try rw[bd]
     obtain⟨q0,q1,q2,q3,q4,q5⟩:=n7.m6;have af:Fr [] wr v7:=(F.out.2.2.then Y.out.2.2.1).then f7;have bo:=Hd ak;have K:=Hd (An (b.out.1.own.fr af qs) (An af f7));clear ak bd bF n7 f7 af a7 aE aF be bf ac;obtain⟨ii,bz,bG,bH,bI⟩:∃ i,(prog).info? 91=some i/\i.zero=some (.agg actZ)/\i.size=6/\i.bytes=88:=info_parts qk
     go_upto_region 22 with (at_builtin;(with_reducible refine wpList_app_tmp (w:=v7) rfl (.tmp 73) (.tmp 75) 22 rfl 91 ii _ 6 88 underlying22 bz bG bH bI rfl qd A' j c' (L.flatMap AX.cs) rfl K.out.1 1 1 [.int .i64 ti,.int .i64 ph,.int .i64 ix,.string bk,.slice XA nr xc,.slice XB nw xd] 91 rfl rfl (by simp[Value.oneCell']) (by unfold maxLen;omega) qo ?_);intro A2 c2 v8 ho hf T;have N:=Hd (An ho (An hf T));clear ho hf T)
     clear q0 q1 q2 q3 q4 q5
     go_wp2_with fail
     go_roundw
     case rel =>
      have aU:NoT tyS v7 (blk A'):=NoT.own K.out.1 qd;refine⟨j+1,c2,A2,L++[x],qo,by go_num,rfl,⟨?_,fun y t=>?_,by simp[b.out.1.len]⟩,?_,(b.out.2.2.1.then K.out.2.1).trans N.out.2.1 (fun q S=>.inr (b.out.2.2.2.1 q S)),fun q S=>?_,bm.out⟩
      ·have h:=N.out.1
       rw[<-bo.out] at h;rw[List.flatMap_append];simpa using h
      ·rcases List.mem_append.1 t with t | t
       ·exact ((b.out.1.each y t).fr0 K.out.2.1).frT N.out.2.1 aU
       ·obtain rfl:y=x:=by simpa using t
        exact (Y.out.2.1.fr0 K.out.2.2).frT N.out.2.1 aU
      ·rw[List.map_append,b.out.2.1,List.take_add_one,O.out.2.1]
       simp[Y.out.1]
      ·rcases N.out.2.2 q S with h | h
       ·exact b.out.2.2.2.1 q h
       ·exact Nat.le_trans (b.out.2.2.1.then K.out.2.1).size h
     case measure=>simp[intOf];omega
  ·obtain rfl:j=m:=qo
   have hb:ascB (f.map PF.i)=true:=asc_true (by rw[List.length_map,z.out.2.1];exact b.out.2.2.2.2);have t:=b.out.2.1;rw[List.take_of_length_le (by rw[z.out.2.2];exact nlr _)] at t;have O:=Hd (An hb t);clear hb t
   go_wp2_with fail
   go_ret2
   unfold VdPost;rw[if_pos O.out.1];exact⟨A',c',L,rfl,b.out.1,O.out.2,J.out.2.2.then (X.out.then b.out.2.2.1),fun q S=>Nat.le_trans (J.out.2.2.then X.out).size (b.out.2.2.2.1 q S)⟩
set_option maxRecDepth 512
set_option maxHeartbeats 200000
open Go.RowKit
section
variable {w X Y:World} {c mu ms ma:Nat} {C C':Array Value} {ku ks ku' ks':List (Value × Value)}
end
theorem zero_chg (u:World):(zeroValue 95).run prog u=.ok (.agg #[.int .i64 0,.string ⟨#[]⟩,.int .i64 0,.int .i64 0,.string ⟨#[]⟩,.string ⟨#[]⟩,.bool false]) u:=by simp[go_sem]
section
variable {κ α:Type} [DecidableEq κ]
def getM (es:List (κ × α)) (n:κ):Option α:=(es.find? fun e=>decide (e.1=n)).map Prod.snd
theorem getM_none {es:List (κ × α)} {n:κ} (h:getM es n=none):∀ e∈es,e.1≠n:=by
 unfold getM at h;rw[Option.map_eq_none_iff,List.find?_eq_none] at h;intro e a;simpa using h e a
theorem getM_some {es:List (κ × α)} {n:κ} {v:α} (h:getM es n=some v):∃ a l2,es=a++(n,v)::l2:=by
 unfold getM at h;obtain⟨e,b,rfl⟩:=Option.map_eq_some_iff.1 h;have c:=List.find?_some b;have d:e.1=n:=by simpa using c
 obtain⟨a,l2,g⟩:=List.append_of_mem (List.mem_of_find?_eq_some b);exact⟨a,l2,by rw[g,<-d]⟩
theorem getM_app {a l2:List (κ × α)} {n:κ} (h:∀ e∈a,e.1≠n):getM (a++l2) n=getM l2 n:=by
 unfold getM;rw[List.find?_append,List.find?_eq_none.2 (fun e b=>by simpa using h e b)];rfl
theorem getM_cons (k:κ) (v:α) (l:List (κ × α)) (n:κ):getM ((k,v)::l) n=if k=n then some v else getM l n:=by
 unfold getM;rw[List.find?_cons]
 by_cases h:k=n
 ·simp[h]
 ·simp[h]
structure MM (k:TypeId) (q:κ->Value) (f:α->Value) (w:World) (r:Nat) (es:List (κ × α)):Prop where
 map:MapIs prog k w r (es.map fun e=>(q e.1,f e.2))
 nd:(es.map Prod.fst).Nodup
variable {k t e:TypeId} {q:κ->Value} {f:α->Value} {w w':World} {r:Nat} {es:List (κ × α)} {S:List Nat}
theorem MM.fr (h:MM k q f w r es) (a:Fr S w w') (b:r ∉ S):MM k q f w' r es:=⟨h.map.fr a b,h.nd⟩
theorem MM.fr0 (h:MM k q f w r es) (a:Fr [] w w'):MM k q f w' r es:=h.fr a qs
theorem MM.nil (h:MapIs prog k w r []):MM k q f w r ([]:List (κ × α)):=⟨h,qs⟩
theorem MM.look (m:∀ a b,q a=q b->a=b) (K:Maps.Keyed prog k) (i:prog.underlying t=some (.map k e)) (h:MM k q f w r es) (n:κ) {u:Lit} (g:keyOf prog k (q n)=some u) {z:Value} (s:(zeroValue e).run prog w=.ok z w) :
 (Instr.lookup t (.map (some r)) (q n) true).run prog w=.ok (.tuple #[(match getM es n with | some v=>f v | none=>z),.bool (getM es n).isSome]) w:=by
 cases d:getM es n with
 | none =>
  have c:=MapIs.look_none K i h.map g (fun p l=>by
   obtain⟨x,o,rfl⟩:=List.mem_map.1 l;exact fun j=>getM_none d x o (m _ _ j)) s true
  simpa using c
 | some v =>
  obtain⟨y,l2,rfl⟩:=getM_some d;have c:=MapIs.look_some K i h.map g (v:=f v) qs true;simpa using c
theorem MM.put (M:∀ a b,q a=q b->a=b) (K:Maps.Keyed prog k) (F:prog.underlying t=some (.map k e)) (h:MM k q f w r es) (n:κ) (v:α) {N:Lit} (D:keyOf prog k (q n)=some N) :
 ∃ w' u,(Instr.mapUpdate t (.map (some r)) (q n) (f v)).run prog w=.ok () w'/\Fr [r] w w'/\MM k q f w' r u/\∀ x,getM u x=if n=x then some v else getM es x:=by
 cases C:getM es n with
 | none =>
  have s:=getM_none C
  obtain⟨w',i,j,l⟩:=MapIs.put_new (v:=f v) K F h.map D (fun p L=>by
   obtain⟨x,c,rfl⟩:=List.mem_map.1 L;exact fun I=>s x c (M _ _ I))
  refine⟨w',es++[(n,v)],i,j,⟨by simpa using l,?_⟩,fun x=>?_⟩
  ·rw[List.map_append,List.nodup_append]
   refine⟨h.nd,qs,?_⟩;intro a G b H;obtain⟨y,g,rfl⟩:=List.mem_map.1 G;obtain rfl:b=n:=by simpa using H
   exact s y g
  ·by_cases c:n=x
   ·subst c
    rw[getM_app s,getM_cons];simp
   ·rw[if_neg c]
    unfold getM;rw[List.find?_append];have:([(n,v)]:List (κ × α)).find? (fun e=>decide (e.1=x))=none:=by simp[c]
    rw[this]
    simp
 | some O =>
  obtain⟨d,l2,rfl⟩:=getM_some C;have E:=h.map;rw[List.map_append,List.map_cons] at E;obtain⟨w',i,j,l⟩:=MapIs.put_old (v:=f v) K F E D;have o:=h.nd;rw[List.map_append,List.map_cons] at o
  have J:∀ y∈d,y.1≠n:=fun y g=>by
   have:=(List.nodup_append.1 o).2.2 y.1 (List.mem_map.2 ⟨y,g,rfl⟩) n qs;exact this
  refine⟨w',d++(n,v)::l2,i,j,⟨by rw[List.map_append,List.map_cons];exact l,by rw[List.map_append,List.map_cons];exact o⟩,fun x=>?_⟩
  by_cases c:n=x
  ·subst c
   rw[getM_app J,getM_cons];simp
  ·rw[if_neg c]
   by_cases m:∀ y∈d,y.1≠x
   ·rw[getM_app m,getM_app m,getM_cons,getM_cons,if_neg c,if_neg c]
   ·have A:∀ l2:List (κ × α),getM (d++l2) x=getM d x:=fun l2=>by
     unfold getM;rw[List.find?_append]
     cases B:d.find? (fun e=>decide (e.1=x)) with
     | none =>
      rw[List.find?_eq_none] at B
      exact absurd (fun y g=>by simpa using B y g) m
     | some z=>rfl
    rw[A,A]
end
instance:DecidableEq CH:=fun a b=>if h:a.n=b.n/\a.v=b.v/\a.a=b.a then .isTrue (by cases a;cases b;simp only at h;obtain⟨rfl,rfl,rfl⟩:=h;rfl) else .isFalse (by rintro rfl;exact h ⟨rfl,rfl,rfl⟩)
def srcAt (l:List AG):Nat->ON->Option (Nat × CH)
 | 0,_=>none
 | i+1,n=>match (l[i]?).bind fun a=>wrO a.w n with
  | some c=>some (i,c)
  | none=>srcAt l i n
structure LS where
 used:List Nat
 asm:ON->Option CH
 lks:List LK
def ls0:LS:=⟨[],fun _=>none,[]⟩
def stepR (l:List AG) (a:List Nat) (i:Nat) (s:LS) (c:CH):Option LS :=
 match srcAt l i c.n with
 | some (m,y)=>if y=c then some ⟨m::s.used,s.asm,s.lks++[⟨(a.getD m 0:Nat),a.getD i 0,c.n⟩]⟩ else none
 | none=>if (match s.asm c.n with | some y=>decide (y=c) | none=>true) then some ⟨s.used,fun x=>if c.n=x then some c else s.asm x,s.lks++[⟨-1,a.getD i 0,c.n⟩]⟩ else none
def runR (l:List AG) (a:List Nat) (i:Nat):List CH->LS->Option LS
 | [],s=>some s
 | c::r,s=>(stepR l a i s c).bind (runR l a i r)
def runA (l:List AG) (b:List Nat):Nat->Option LS
 | 0=>some ls0
 | i+1=>(runA l b i).bind fun s=>runR l b i (match l[i]? with | some a=>a.r | none=>[]) s
theorem runR_app (l:List AG) (d:List Nat) (i:Nat):∀ (a b:List CH) (s:LS),runR l d i (a++b) s=(runR l d i a s).bind (runR l d i b)
 | [],b,s=>rfl
 | c::r,b,s=>by
  rw[List.cons_append,runR,runR]
  cases stepR l d i s c with
  | none=>rfl
  | some g=>exact runR_app l d i r b g
theorem runR_step {l:List AG} {a:List Nat} {i j:Nat} {r:List CH} {b s:LS} {c:CH} (h:runR l a i (r.take j) b=some s) (d:r[j]?=some c):runR l a i (r.take (j+1)) b=stepR l a i s c:=by
 rw[List.take_add_one,d,runR_app,h]
 show (runR l a i [c] s)=_
 rw[runR]
 cases stepR l a i s c <;> rfl
theorem runR_none {l:List AG} {a:List Nat} {i j:Nat} {r:List CH} {b:LS} (h:runR l a i (r.take j) b=none):runR l a i r b=none:=by
 rw[<-List.take_append_drop j r,runR_app,h];rfl
theorem runA_none {l:List AG} {b:List Nat}:∀ {i m:Nat},i<=m->runA l b i=none->runA l b m=none
 | i,0,h,a=>by rw[show i=0 by omega] at a;cases a
 | i,m+1,h,a=>by
  rcases Nat.lt_or_eq_of_le h with c | rfl
  ·rw[runA,runA_none (Nat.le_of_lt_succ c) a];rfl
  ·exact a
theorem ordB_ne:∀ {l:List CH} {p:Option ON},ordB p l=true->l.Pairwise fun a b=>cmpO a.n b.n<0
 | [],_,_=>List.Pairwise.nil
 | c::r,p,h=>by
  rw[ordB,Bool.and_eq_true,Bool.and_eq_true] at h;have m:=ordB_ne h.2.2;refine List.Pairwise.cons (fun x g=>?_) m;have o:=h.2.2
  cases r with
  | nil=>simp at g
  | cons d r2 =>
   rw[ordB,Bool.and_eq_true,Bool.and_eq_true] at o;have j:ltO c.n d.n:=by have i:=o.2.1;simp[nextB] at i;exact i
   rcases List.mem_cons.1 g with rfl | g
   ·exact j
   ·exact j.trans (List.rel_of_pairwise_cons m g)
set_option maxRecDepth 100000
theorem field_bool {P:Program} {d:Nat} {t:TypeId} {b:Bool} (h:P.underlying t=some .bool) (a:0<d):P.keyLits d t [.bool b]=some [.bool b]:=by
 obtain⟨d,rfl⟩:∃ e,d=e+1:=⟨d - 1,qo⟩;unfold Program.keyLits;rw[h]
theorem keyOf_agg2 {P : Program} {k : TypeId} {fs : Array Field} {cs : Array Value} (h : P.underlying k = some (.struct fs)) (hk : P.keyType k = true) (hc : cs.toList.length = P.cellsOf k) (hn : fs.all (·.name != "_") = true)
 (c:1<P.types.size) (e:∀ d,1<d->∃ a,(fs.toList.mapM fun f=>P.keyLits d f.type ((cs.toList.drop f.offset).take (P.cellsOf f.type)))=some a):∃ l,keyOf P k (.agg cs)=some l:=by
 obtain⟨a,b⟩:=e P.types.size c;unfold keyOf;rw[h];simp only[hk,Value.formed,h,Bool.true_and,show (Value.agg cs).cells=cs from rfl];rw[if_pos (by simpa using hc)];unfold Program.keyLits;rw[h];simp only;rw[if_pos ⟨hc,hn⟩,b];exact⟨_,rfl⟩
theorem field_struct {P : Program} {d : Nat} {t : TypeId} {fs : Array Field} {cs : List Value} (h : P.underlying t = some (.struct fs)) (hc : cs.length = P.cellsOf t) (hn : fs.all (·.name != "_") = true) (hd : 1 < d)
 (c:∀ d,0<d->∃ a,(fs.toList.mapM fun f=>P.keyLits d f.type ((cs.drop f.offset).take (P.cellsOf f.type)))=some a):∃ a,P.keyLits d t cs=some a:=by
 obtain⟨d,rfl⟩:∃ e,d=e+1:=⟨d - 1,qo⟩;obtain⟨a,b⟩:=c d qo;unfold Program.keyLits;rw[h];simp only;rw[if_pos ⟨hc,hn⟩,b];exact⟨_,rfl⟩
theorem name_num {n:ON} (h:checkO n=0):(0<=n.kind/\n.kind<=20)/\(0<=n.number/\n.number<=1073741824)/\(0<=n.index/\n.index<=1073741824):=by
 obtain⟨k,j,_,l,a⟩:=kind_of h;have m:=us_most (k:=k) qo;obtain⟨d,f,o⟩:=checkU_zero a;obtain⟨g,b,c,i⟩:=checkU_none a;refine⟨qo,?_,?_⟩
 ·cases e:(us k).number with
  | true =>
   have:=d e;simp only[withinB,decide_eq_true_eq] at this
   exact this
  | false=>rw[b e];omega
 ·cases e:(us k).index with
  | true =>
   have:=f e;simp only[withinB,decide_eq_true_eq] at this
   omega
  | false=>rw[c e];omega
def chV (c:CH):Value:=.agg c.cs.toArray
theorem keyOf_change {c:CH} (h:checkO c.n=0) (I:c.v.length<=140737488355328):∃ l,keyOf prog 95 (chV c)=some l:=by
 have y:=underlying95;have J:=valid_len (valid_of_check h);have H:=text_le h;obtain⟨B,C,D⟩:=name_num h;obtain⟨g,t,_,E⟩:=str_of c.n.owner;obtain⟨j,u,_,F⟩:=str_of c.n.text;obtain⟨A,w,_,G⟩:=str_of c.v;unfold chV CH.cs;rw[t,u,w];have m:(prog).cellsOf 31=5:=qk
 have f:(prog).cellsOf 9=1:=qk
 have o:(prog).cellsOf 4=1:=qk
 have k:(prog).cellsOf 3=1:=qk
 have p:(prog).cellsOf 29=1:=qk
 have b:=underlying3;have r:g.size<=maxLen:=by unfold maxLen;omega
 have x:j.size<=maxLen:=by unfold maxLen;omega
 have z:A.size<=maxLen:=by unfold maxLen;omega
 refine keyOf_agg2 y qk qk qk (of_decide_eq_true qk) (fun d q=>?_)
 obtain⟨K,s⟩:=field_struct (P:=prog) (d:=d) (cs:=[c.n.kind,g,c.n.number,c.n.index,j]) underlying31 qk qk q (fun e a=>by
  simp only[List.mapM_cons,List.mapM_nil,k,p,f,qG,qH,List.take_succ_cons,List.take_zero,field_int b a (wf_int (i:=c.n.kind) qo qo),field_int b a (wf_int (i:=c.n.number) qo qo),field_int b a (wf_int (i:=c.n.index) qo qo),field_str underlying29 a r,field_str underlying9 a x];exact⟨_,rfl⟩)
 simp only[List.mapM_cons,List.mapM_nil,m,f,o,qG,qH,List.take_succ_cons,List.take_zero,s,field_str underlying9 (by omega:0<d) z,field_bool underlying4 (by omega:0<d)];exact⟨_,rfl⟩
theorem chV_inj {a b:CH} (h:chV a=chV b):a=b:=by
 unfold chV CH.cs at h;simp only[Value.agg.injEq,List.toArray_inj] at h;obtain⟨⟨o,s,q,m,t1⟩,u,c⟩:=a;obtain⟨⟨p,t,r,n,t2⟩,v,d⟩:=b;simp only[List.cons.injEq,Value.int.injEq,Value.bool.injEq,and_true,true_and] at h;obtain⟨e,f,g,i,j,k,l⟩:=h;rfl
theorem run_neqCH {a b:CH} (k:checkO a.n=0) (l:checkO b.n=0) (p:a.v.length<=140737488355328) (q:b.v.length<=140737488355328) (w:World):(binOp .neq 95 (chV a) (chV b)).run prog w=.ok (.bool (!decide (a=b))) w:=by
 obtain⟨s,e⟩:=keyOf_change k p;obtain⟨lb,c⟩:=keyOf_change l q;obtain⟨r,h,g⟩:=run_equal_deep (P:=prog) w (m:=5) qo qk qk e c
 have o:r=decide (a=b):=by
  by_cases d:a=b
  ·subst d
   rw[e] at c;rw[decide_eq_true rfl];exact g.2 (Option.some.inj c)
  ·rw[decide_eq_false d]
   cases r with
   | false=>rfl
   | true =>
    have i:=g.1 rfl;subst i;exact absurd (chV_inj (keyOf_inj_deep (P:=prog) (m:=5) qk qk e c)) d
 subst o;have j:∀ xs f:Array Value,(binOp .neq 95 (.agg xs) (.agg f)).run prog w=((Op.equal 95 (.agg xs) (.agg f)).run prog w).andThen fun b w'=>.ok (.bool !b) w':=fun xs f=>by simp[binOp]
 unfold chV at h ⊢;rw[j,h];simp[Result.andThen]
set_option maxRecDepth 512
def zCH:CH:=⟨⟨0,[],0,0,[]⟩,[],false⟩
def srcV (p:Nat × CH):Value:=.agg ((.int .i64 (p.1:Int))::p.2.cs).toArray
structure LIg (w W:World) (c mu ms ma:Nat) (v0 v1 v2 v3:Value) (LA:Option Addr) (lc:Nat) (s:LS) (src:ON->Option (Nat × CH)):Prop where
 box:BoxN W c 64 #[v0,v1,v2,v3,.slice LA s.lks.length lc,.slice none 0 0]
 own:Own W 98 7 LA s.lks.length lc (s.lks.flatMap LK.cs)
 um:∃ es,MM 3 (fun m:Nat=>.int .i64 (m:Int)) (fun _:Unit=>.bool true) W mu es/\∀ j,getM es j=if j∈s.used then some () else none
 sm:∃ es,MM 31 encO srcV W ms es/\∀ n,getM es n=src n
 am:∃ es,MM 31 encO chV W ma es/\(∀ n,getM es n=s.asm n)/\∀ e∈es,e.2.n=e.1/\e.2.v.length<=65536/\checkO e.1=0
 d:c<w.heap.size/\w.heap.size<=mu/\mu<ms/\ms<ma
 la:∀ q∈blk LA,ma<q
 fr:Fr [c] w W
section
variable {w X Y Z:World} {c mu ms ma b lc:Nat} {v0 v1 v2 v3:Value} {LA:Option Addr} {s:LS} {src src':ON->Option (Nat × CH)}
theorem LIg.young (h:LIg w X c mu ms ma v0 v1 v2 v3 LA lc s src):ma<X.heap.size:=by obtain⟨es,a,_⟩:=h.am;exact a.map.lt
theorem LIg.putB (h:LIg w X c mu ms ma v0 v1 v2 v3 LA lc s src) (a:Fr [b] X Y) (v:ma<b) (n:b ∉ blk LA):LIg w Y c mu ms ma v0 v1 v2 v3 LA lc s src:=by
 have m:=h.d;obtain⟨f,r,j⟩:=h.um;obtain⟨g,t,k⟩:=h.sm;obtain⟨i,u,l⟩:=h.am;exact⟨h.box.fr a (by simp;omega),h.own.fr a (fun q o e=>n (by rw[lms] at e;rw[<-e];exact o)),⟨f,r.fr a (by simp;omega),j⟩,⟨g,t.fr a (by simp;omega),k⟩,⟨i,u.fr a (by simp;omega),l⟩,m,h.la,h.fr.trans a (fun x p=>.inr (by simp at p;omega))⟩
theorem LIg.fr0 (h:LIg w X c mu ms ma v0 v1 v2 v3 LA lc s src) (a:Fr [] X Y):LIg w Y c mu ms ma v0 v1 v2 v3 LA lc s src:=by
 obtain⟨e,l,i⟩:=h.um;obtain⟨f,m,j⟩:=h.sm;obtain⟨g,n,k⟩:=h.am;exact⟨h.box.fr a qs,h.own.fr a qs,⟨e,l.fr0 a,i⟩,⟨f,m.fr0 a,j⟩,⟨g,n.fr0 a,k⟩,h.d,h.la,h.fr.trans a qs⟩
theorem LIg.congr (h:LIg w X c mu ms ma v0 v1 v2 v3 LA lc s src) (e:∀ n,src n=src' n):LIg w X c mu ms ma v0 v1 v2 v3 LA lc s src':=by
 obtain⟨a,g,f⟩:=h.sm;exact⟨h.box,h.own,h.um,⟨a,g,fun n=>(f n).trans (e n)⟩,h.am,h.d,h.la,h.fr⟩
theorem LIg.putS (h:LIg w X c mu ms ma v0 v1 v2 v3 LA lc s src) (n:ON) (v:Nat × CH) (t:checkO n=0) :
 ∃ Y,(Instr.mapUpdate 241 (.map (some ms)) (encO n) (srcV v)).run prog X=.ok () Y/\Fr [ms] X Y/\LIg w Y c mu ms ma v0 v1 v2 v3 LA lc s (fun x=>if n=x then some v else src x):=by
 have l:=h.d;obtain⟨e,A,i⟩:=h.um;obtain⟨D,B,j⟩:=h.sm;obtain⟨f,C,k⟩:=h.am;obtain⟨E,o⟩:=keyOf_check t;obtain⟨Y,g,u,a,p,m⟩:=B.put encO_inj key_name underlying241 n v o;refine⟨Y,u,a,h.box.fr a (by simp;omega),h.own.fr a (fun q y r=>?_),⟨e,A.fr a (by simp;omega),i⟩,⟨g,p,fun x=>by rw[m x,j x]⟩,⟨f,C.fr a (by simp;omega),k⟩,l,h.la,h.fr.trans a (fun x z=>.inr (by simp at z;omega))⟩;have:=h.la q y;simp at r;omega
theorem LIg.putU (h:LIg w X c mu ms ma v0 v1 v2 v3 LA lc s src) (m:Nat) (H:m<=1000000) :
 ∃ Y,(Instr.mapUpdate 143 (.map (some mu)) (.int .i64 (m:Int)) (.bool true)).run prog X=.ok () Y/\Fr [mu] X Y/\LIg w Y c mu ms ma v0 v1 v2 v3 LA lc ⟨m::s.used,s.asm,s.lks⟩ src:=by
 have t:=h.d;obtain⟨G,D,n⟩:=h.um;obtain⟨j,E,o⟩:=h.sm;obtain⟨k,F,p⟩:=h.am;obtain⟨I,v⟩:=keyOf_i64 (i:=(m:Int)) (wf_int qo qo);obtain⟨Y,l,A,f,y,u⟩:=D.put (fun a b r=>by simp at r;omega) key_int underlying143 m () v;refine⟨Y,A,f,h.box.fr f (by simp;omega),h.own.fr f (fun q B z=>?_),⟨l,y,fun x=>?_⟩,⟨j,E.fr f (by simp;omega),o⟩,⟨k,F.fr f (by simp;omega),p⟩,t,h.la,h.fr.trans f (fun x g=>.inr (by simp at g;omega))⟩
 ·have:=h.la q B
  simp at z;omega
 ·rw[u x,n x]
  by_cases g:m=x
  ·simp[g]
  ·have C:x≠m:=fun e=>g e.symm
   simp[g,C]
theorem LIg.putA (h:LIg w X c mu ms ma v0 v1 v2 v3 LA lc s src) (x:CH) (l:checkO x.n=0) (G:x.v.length<=65536) :
 ∃ Y,(Instr.mapUpdate 149 (.map (some ma)) (encO x.n) (chV x)).run prog X=.ok () Y/\Fr [ma] X Y/\LIg w Y c mu ms ma v0 v1 v2 v3 LA lc ⟨s.used,fun y=>if x.n=y then some x else s.asm y,s.lks⟩ src:=by
 have z:=h.d;obtain⟨o,K,r⟩:=h.um;obtain⟨p,L,t⟩:=h.sm;obtain⟨N,M,u,I⟩:=h.am;obtain⟨O,B⟩:=keyOf_check l;obtain⟨Y,i,E,a,k,j⟩:=M.put encO_inj key_name underlying149 x.n x B;refine⟨Y,E,a,h.box.fr a (by simp;omega),h.own.fr a (fun q F D=>?_),⟨o,K.fr a (by simp;omega),r⟩,⟨p,L.fr a (by simp;omega),t⟩,⟨i,k,fun y=>by rw[j y,u y],fun e A=>?_⟩,z,h.la,h.fr.trans a (fun x f=>.inr (by simp at f;omega))⟩
 ·have:=h.la q F
  simp at D;omega
 ·have g:getM i e.1=some e.2:=by
   obtain⟨J,l2,rfl⟩:=List.append_of_mem A;have m:=k.nd;rw[List.map_append,List.map_cons] at m;rw[getM_app (fun y H=>(List.nodup_append.1 m).2.2 y.1 (List.mem_map.2 ⟨y,H,rfl⟩) e.1 qs),getM_cons,if_pos rfl]
  rw[j e.1] at g
  by_cases f:x.n=e.1
  ·rw[if_pos f] at g
   rw[<-Option.some.inj g];exact⟨f,G,by rw[<-f];exact l⟩
  ·rw[if_neg f] at g
   obtain⟨J,l2,C⟩:=getM_some g;exact I (e.1,e.2) (by rw[C];simp)
theorem LIg.putL (h:LIg w X c mu ms ma v0 v1 v2 v3 LA lc s src) {e:Option Addr} {l:Nat} (x:LK) (i:Fr (blk LA) X Y) (A:Own Y 98 7 e (s.lks.length+1) l (s.lks.flatMap LK.cs++x.cs)) (v:∀ q∈blk e,q∈blk LA \/ X.heap.size<=q)
 (f:Fr [c] Y Z) (y:BoxN Z c 64 #[v0,v1,v2,v3,.slice e (s.lks.length+1) l,.slice none 0 0]):LIg w Z c mu ms ma v0 v1 v2 v3 e l ⟨s.used,s.asm,s.lks++[x]⟩ src:=by
 have z:=h.d;have E:=h.young;obtain⟨n,B,r⟩:=h.um;obtain⟨o,C,t⟩:=h.sm;obtain⟨p,D,u⟩:=h.am
 have m:∀ q∈blk e,ma<q:=fun q a=>by
  rcases v q a with g | g
  ·exact h.la q g
  ·omega
 have k:∀ q,q<=ma->q ∉ blk LA:=fun q a j=>by have:=h.la q j;omega
 refine⟨by rw[lla];exact y,?_,⟨n,(B.fr i (k _ qo)).fr f (by simp;omega),r⟩,⟨o,(C.fr i (k _ qo)).fr f (by simp;omega),t⟩,⟨p,(D.fr i (k _ qo)).fr f (by simp;omega),u⟩,z,m,(h.fr.trans i (fun q a=>.inr (by have:=h.la q a;omega))).then f⟩;have g:=A.fr f (fun q a j=>by have:=m q a;simp at j;omega);rw[lla,List.flatMap_append];simpa using g
theorem look_src (h:LIg w X c mu ms ma v0 v1 v2 v3 LA lc s src) (n:ON) (f:checkO n=0) (i:(zeroValue 243).run prog X=.ok (srcV (0,zCH)) X) :
 (Instr.lookup 241 (.map (some ms)) (encO n) true).run prog X=.ok (.tuple #[srcV ((src n).getD (0,zCH)),.bool (src n).isSome]) X:=by
 obtain⟨k,j,d⟩:=h.sm;obtain⟨l,e⟩:=keyOf_check f;have a:=j.look encO_inj key_name underlying241 n e i;rw[d] at a
 cases g:src n <;> rw[g] at a <;> exact a
theorem look_asm (h:LIg w X c mu ms ma v0 v1 v2 v3 LA lc s src) (n:ON) (f:checkO n=0) :
 (Instr.lookup 149 (.map (some ma)) (encO n) true).run prog X=.ok (.tuple #[chV ((s.asm n).getD zCH),.bool (s.asm n).isSome]) X:=by
 obtain⟨j,i,d,_⟩:=h.am;obtain⟨k,e⟩:=keyOf_check f;have a:=i.look encO_inj key_name underlying149 n e (z:=chV zCH) (zero_chg X);rw[d] at a
 cases g:s.asm n <;> rw[g] at a <;> exact a
theorem LIg.asm_ok (h:LIg w X c mu ms ma v0 v1 v2 v3 LA lc s src) {n:ON} {y:CH} (a:s.asm n=some y):y.n=n/\y.v.length<=65536:=by
 obtain⟨g,j,d,f⟩:=h.am;rw[<-d] at a;obtain⟨i,l2,e⟩:=getM_some a;have h:=f (n,y) (by rw[e];simp);exact⟨h.1,h.2.1⟩
end
def fndK (d:Option (Nat × CH)) (a:Option CH):Bool:=d.isSome || a.isSome
def fndV (d:Option (Nat × CH)) (a:Option CH):CH:=match d with | some p=>p.2 | none=>a.getD zCH
def fndF (a:List Nat) (d:Option (Nat × CH)):Int:=match d with | some p=>((a.getD p.1 0:Nat):Int) | none=>-1
def nxtS (d:List Nat) (i:Nat) (s:LS) (a:Option (Nat × CH)) (x:CH):LS:=match a with
 | some p=>⟨p.1::s.used,s.asm,s.lks⟩
 | none=>⟨s.used,fun y=>if x.n=y then some x else s.asm y,s.lks⟩
theorem stepR_eq (l:List AG) (a:List Nat) (i:Nat) (s:LS) (x:CH):stepR l a i s x=if (fndK (srcAt l i x.n) (s.asm x.n) && !decide (fndV (srcAt l i x.n) (s.asm x.n)=x))=true then none
 else some ⟨(nxtS a i s (srcAt l i x.n) x).used,(nxtS a i s (srcAt l i x.n) x).asm,s.lks++[⟨fndF a (srcAt l i x.n),a.getD i 0,x.n⟩]⟩:=by
 unfold stepR fndK fndV fndF nxtS
 cases srcAt l i x.n with
 | some p =>
  obtain⟨m,y⟩:=p
  by_cases h:y=x <;> simp[h]
 | none =>
  cases s.asm x.n with
  | none=>simp
  | some y=>by_cases h:y=x <;> simp[h]
theorem srcAt_ok {l:List AG} (f:∀ a∈l,wfB a=true):∀ {i:Nat} {n:ON} {p:Nat × CH},srcAt l i n=some p->p.1<i/\p.2.n=n/\checkO p.2.n=0/\p.2.v.length<=65536
 | 0,n,p,h=>by simp[srcAt] at h
 | i+1,n,p,h=>by
  rw[srcAt] at h
  cases e:(l[i]?).bind fun a=>wrO a.w n with
  | none =>
   rw[e] at h;have:=srcAt_ok f h
   exact⟨qo,this.2⟩
  | some c =>
   rw[e] at h
   injection h with h
   subst h;obtain⟨a,g,d⟩:=Option.bind_eq_some_iff.1 e;unfold wrO at d;have j:=List.find?_some d;have k:c.n=n:=by simpa using j
   have m:=oneB_facts (ordB_all (wfB_lists (f a (lmg g))).2 c (List.mem_of_find?_eq_some d));exact⟨Nat.lt_succ_self _,k,m⟩
open Go.ChangeMaps (setBlock)
section
variable {κ α:Type}
def leftN (W:World) (ri ma:Nat):Nat:=match W.heap[ri]?,W.heap[ma]? with
 | some (.mapIter _ _ a _),some (.map es _)=>(leftOf es a).size
 | _,_=>0
def RgM (q:κ->Value) (f:α->Value) (W:World) (ri ma:Nat) (es done:List (κ × α)):Prop :=
 ∃ (left:List (κ × α)) (a:Array MapEntry) (clock b c:Nat) (d:Array Nat),(done++left).Perm es/\W.heap[ma]?=some (.map a clock)/\W.heap[ri]?=some (.mapIter (some ma) b d c)/\(∀ x∈a.toList,x.born<b)/\b<=c/\b<=clock/\(a.toList.map (·.born)).Nodup/\(leftOf a d).toList.map (fun x=>(x.key,x.val))=left.map fun e=>(q e.1,f e.2)
variable {q:κ->Value} {f:α->Value} {W W':World} {ri ma:Nat} {es done:List (κ × α)} {S:List Nat}
theorem RgM.fr (h:RgM q f W ri ma es done) (a:Fr S W W') (g:ri ∉ S) (i:ma ∉ S):RgM q f W' ri ma es done:=by
 obtain⟨left,e,clock,l,d,k,j,b,c,h⟩:=h;exact⟨left,e,clock,l,d,k,j,(a.block _ (Array.getElem?_eq_some_iff.1 b).1 i).trans b,(a.block _ (Array.getElem?_eq_some_iff.1 c).1 g).trans c,h⟩
theorem RgM.left (h:RgM q f W ri ma es done):leftN W ri ma+done.length=es.length:=by
 obtain⟨left,j,clock,l,i,k,e,d,g,_,_,_,_,c⟩:=h;unfold leftN;rw[d,g];have a:=congrArg List.length c;have b:=e.length_eq;simp only[List.length_map,lla,Array.length_toList] at a b;simp only;omega
theorem RgM.lt (h:RgM q f W ri ma es done):ri<W.heap.size/\ma<W.heap.size:=by
 obtain⟨left,d,clock,i,c,g,e,a,b,_⟩:=h;exact⟨(Array.getElem?_eq_some_iff.1 b).1,(Array.getElem?_eq_some_iff.1 a).1⟩
theorem fr_setBlock (W:World) (r:Nat) (o:Obj):Fr [r] W (setBlock W r o):=⟨rfl,rfl,rfl,by simp[setBlock],fun k b a=>by
 simp only[lms] at a;simp[setBlock,Array.getElem?_setIfInBounds,Ne.symm a]⟩
theorem run_rangeM {P:Program} {t k e:TypeId} (i:P.underlying t=some (.map k e)) (h:∃ b clock,W.heap[ma]?=some (.map b clock)/\MapKept.Stamped b clock/\b.toList.map (fun x=>(x.key,x.val))=es.map fun e=>(q e.1,f e.2)) :
 ∃ W',(Instr.range t (.map (some ma))).run P W=.ok (.pointer (some ⟨W.heap.size,0,none⟩)) W'/\Fr [] W W'/\RgM q f W' W.heap.size ma es []:=by
 obtain⟨b,clock,c,d,g⟩:=h;refine⟨_,run_range_map W t k e ma b clock i c,(Fq [] W).alloc _,es,b,clock,clock,clock,#[],qs,?_,heap_alloc_new _ _,d.1,nlr _,nlr _,d.2.1,?_⟩
 ·first|rw[heap_alloc_old W _ (Array.getElem?_eq_some_iff.1 c).1,c]|rw[heap_alloc_old W _ _ (Array.getElem?_eq_some_iff.1 c).1,c]
 ·rw[<-g]
  unfold leftOf;rw[Array.toList_filter,List.filter_eq_self.2 (fun a _=>by simp)]
theorem RgM.step {P:Program} (h:RgM q f W ri ma es done):(es.Perm done/\∀ ty:TypeId,(Instr.next (.pointer (some ⟨ri,0,none⟩)) false ty).run P W=.ok (.tuple #[.bool false]) W) \/
 ∃ (e:κ × α) (W':World),e∈es/\(∀ ty:TypeId,(Instr.next (.pointer (some ⟨ri,0,none⟩)) false ty).run P W=.ok (.tuple #[.bool true,q e.1,f e.2]) W')/\(Instr.entry (.pointer (some ⟨ri,0,none⟩))).run P W'=.ok (.tuple #[q e.1,f e.2]) W'/\Fr [ri] W W'/\RgM q f W' ri ma es (done++[e]):=by
 obtain⟨left,c,clock,d,J,b,i,g,n,C,aa,r,m,w⟩:=h
 rcases run_next_at (P:=P) W 0 ri ma d J b c clock n g C aa with ⟨h0,j⟩ | ⟨x,F,p,ab,E⟩
 ·left
  have:left=[]:=by
   have k:=congrArg List.length w;simp only[List.length_map,Array.length_toList] at k;exact List.eq_nil_of_length_eq_zero qo
  subst this;rw[List.append_nil] at i;exact⟨i.symm,fun ty=>j⟩
 ·right
  obtain⟨G,l2,l⟩:=List.append_of_mem F;have z:=w;rw[l,List.map_append,List.map_cons] at z;obtain⟨H,m2,rfl,U,V⟩:=List.map_eq_append_iff.1 z.symm;obtain⟨e,I,rfl,N,X⟩:=List.map_eq_cons_iff.1 V
  injection N with O Q
  have T:=mem_left F
  have u:Fr [] W p:=by
   rcases ab with rfl | rfl
   ·exact Fq _ _
   ·exact (Fq _ W).drew
  have Z:=Nat.lt_of_lt_of_le (Array.getElem?_eq_some_iff.1 n).1 u.size;have Y:ma≠ri:=fun h=>by rw[h,n] at g;cases g
  have D:(setBlock p ri (.mapIter (some ma) d (b.push x.born) clock)).heap[ri]?=some (.mapIter (some ma) d (b.push x.born) clock):=by simp[setBlock,Z]
  have R:=fr_setBlock p ri (.mapIter (some ma) d (b.push x.born) clock);have v:=(u.mono qs).then R;have A:=(v.block _ (Array.getElem?_eq_some_iff.1 g).1 (by simpa using Y)).trans g;have t:=run_entry_at (P:=P) _ ri ma d b c clock x D A T.1 m;rw[<-O,<-Q] at E t;refine⟨e,_,?_,fun ty=>E,t,v,H++I,c,clock,d,clock,b.push x.born,?_,A,D,C,r,r,m,?_⟩
  ·exact i.subset qs
  ·refine List.Perm.trans ?_ i
   rw[List.append_assoc];refine List.Perm.append_left _ ?_;simpa using (List.perm_middle (a:=e) (l₁:=H) (l₂:=I)).symm
  ·have M:(leftOf c (b.push x.born)).toList=G++l2:=by
    have B:((leftOf c b).toList.map (·.born)).Nodup:=by
     unfold leftOf;rw[Array.toList_filter];exact List.Nodup.sublist (List.Sublist.map _ List.filter_sublist) m
    have j:(leftOf c (b.push x.born)).toList=(leftOf c b).toList.filter fun y=>!(y.born == x.born):=by
     unfold leftOf;rw[Array.toList_filter,Array.toList_filter,List.filter_filter]
     congr 1
     funext y
     rw[contains_push]
     cases b.contains y.born <;> cases (y.born == x.born) <;> rfl
    rw[j,l,List.filter_append,List.filter_cons];rw[l,List.map_append,List.map_cons] at B;have s:=(List.nodup_append.1 B).2
    have K:∀ y∈G,(!(y.born == x.born))=true:=fun y o=>by
     have:=s.2 y.born (List.mem_map.2 ⟨y,o,rfl⟩) x.born qs;simpa using this
    have L:∀ y∈l2,(!(y.born == x.born))=true:=fun y o=>by
     have:=(List.nodup_cons.1 s.1).1;have k:y.born≠x.born:=fun h=>this (by rw[<-h];exact List.mem_map.2 ⟨y,o,rfl⟩);simpa using k
    rw[List.filter_eq_self.2 K,List.filter_eq_self.2 L];simp
   rw[M,List.map_append,List.map_append,U,X]
end
end Go.Proofs.YtlpmiimgacfmkaaGreatDoor
