/- Part of the proof. -/
import Derived.Test.YtlpmiimgacfmkaaGreatDoorRCa1
set_option linter.all false
set_option maxHeartbeats 4000000
set_option maxRecDepth 100000
namespace Go.Proofs.YtlpmiimgacfmkaaGreatDoor
open Go.Proofs.Tryz
open Go.RowKit Go.Shelf
theorem ur{n:ON}(h:eX n=0):n.text.length<=32:=by
 obtain⟨k,_,_,_,b⟩:=ua h
 cases a:(us k).text with
 | true =>
  have:=(jr b).2.2 a;simp only[jB,Bool.and_eq_true,decide_eq_true_eq]at this
  omega
 | false=>rw[(mb b).2.2.2 a];simp
def nC(xs:List Nat):Bool:=(List.range xs.length).all λj=>decide (j=0 \/ xs.getD (j - 1) 0<xs.getD j 0)
def vP(xs:List Nat)(j:Nat):Prop:=∀k,k<j->k=0 \/ xs.getD (k - 1) 0<xs.getD k 0
theorem vQ{xs:List Nat}(h:vP xs xs.length):nC xs=true:=by
 unfold nC;rw[List.all_eq_true];intro k a;exact decide_eq_true (h k (List.mem_range.1 a))
theorem tk{xs:List Nat}{j:Nat}(b:j<xs.length)(c:0<j)(h:xs.getD j 0<=xs.getD (j - 1) 0):nC xs=false:=by
 cases a:nC xs with
 | false=>rfl
 | true =>
  unfold nC at a;rw[List.all_eq_true]at a;have:=of_decide_eq_true (a j (List.mem_range.2 b));omega
structure ActO(w:World)(A:Option Addr)(n c:Nat)(ys:List AX):Prop where
 own:Own w 91 6 A n c (ys.flatMap AX.cs)
 each:∀y∈ys,y.ok w
 len:ys.length=n
theorem ActO.fr0{w w':World}{A:Option Addr}{n c:Nat}{b:List AX}(h:ActO w A n c b)(a:Fr [] w w'):ActO w' A n c b:=⟨h.own.fr a qs,λy d=>(h.each y d).fr0 a,h.len⟩
def rP(w:World)(m:Nat)(is:List Nat)(d:List AG)(e:Ending)(w':World):Prop :=
 if nC is=true then ∃A c b,e=.returned (.tuple #[.slice A m c,.int .i64 0])/\ActO w' A m c b/\b.map AX.a=d/\Fr [] w w'/\∀q∈eV A,w.heap.size<=q
 else e=.returned (.tuple #[.slice none 0 0,.int .i64 32])/\Fr [] w w'
theorem xG(I:Nm)(a5:I.length=32)(nm:ON)(so st:ByteArray)(P n m:Nat)(M:Option Addr)(c:Nat)(f:List PF)(Q:List AG)(w:World)(aq:Ok w)(ap:eX nm=0)(al:fg nm=.agg #[.int .i64 nm.kind,.string so,.int .i64 nm.number,.int .i64 nm.index,.string st])(hP:P<65536)(hp:PrL w n M c f)(a3:f.length=m)(bQ:0<m)(bR:m<=12)(aG:Q.length=m)
 (hV:∀(j:Nat) (p:PF) (a:AG),f[j]?=some p->Q[j]?=some a->∀W,Fr [] w W->Calls prog 66 #[fu I,.agg (p.cs n).toArray] W (km W a)) :
 Calls prog 63 #[yS nm.kind so nm.number nm.index st (P:Int) (n:Int) (.slice M m c),fu I] w (rP w m (f.map PF.i) Q):=by
 have aJ:(eP I).length=32:=by rw[eU,a5]
 obtain⟨kd,aS⟩:=eR (nm.kind);obtain⟨nu,aV⟩:=eR (nm.number);obtain⟨xx,bh⟩:=eR (nm.index);rw[aS,aV,bh]at al ⊢;obtain⟨w1,bb,bj,n1,f1⟩:=il w #[.int .i64 kd,.string so,.int .i64 nu,.int .i64 xx,.string st,.int .i64 (P:Int),.int .i64 (n:Int),.slice M m c] 39 w.heap.size;obtain⟨w2,ab⟩:=eR (w1.alloc (.cells (eP I).toArray 57));have aB:w2.rowIs (w.heap.size+1) 57 32 (λj=>.int .u8 ((I.getD j 0).toNat:Int)):=by rw[<-ab,<-bj];exact gS w1 aJ
 have Z:Fr [] w1 w2:=by rw[<-ab];exact(Fq [] w1).alloc _
 have n2:=n1.fr Z qs;obtain⟨x0,x1,x2,x3,x4,x5,x6,x7⟩:=n2.m8;have ai:=oq nm w2 (aq.fr0 (f1.then Z)) ap (by have:=ur ap;omega);rw[al]at ai;have HC:=Hd ai;have HW:=Hd (An bb ab);have J:=Hd (An n2 (An aB (f1.then Z)));have bK:=Hd aq;have z:=Hd (An hp (An a3 aG));have HV:=Hd hV;have bC:((m:Int) == 0)=false:=by simp;omega
 have bD:decide ((4096:Int)<(m:Int))=false:=by simp;omega
 have bu:decide ((P:Int)<0)=false:=qs
 have bv:decide ((65536:Int)<=(P:Int))=false:=by simp;omega
 clear hV;clear bb ab n1 n2 f1 Z aB bj aq hp ap al aS aV bh ai a3 aG;unfold yS fu
 go_enter func63,ntmps63
 go_upto_region 1 with fail
 rw[HW.out.1,HW.out.2]
 go_upto_region 8 with(go_at_call 53;(with_reducible refine HC.out.mono ?_);rintro e w3 ⟨rfl,am⟩;have X:=Hd am;have m3:=J.out.1.fr am qs;have y5:w3.cell? ⟨w.heap.size,5,none⟩=some (.int .i64 (P:Int)):=m3.c 5;have y7:w3.cell? ⟨w.heap.size,7,none⟩=some (.slice M m c):=m3.c 7;clear am m3)
 clear x0 x1 x2 x3 x4 x5 x6 x7
 go_wp2_with fail
 clear y5 y7 bu bv bC bD
 go_loopw [7,40] (λs i W=>∃(j c':Nat) (A':Option Addr) (L:List AX),j<=m/\i=.int .i64 (j:Int)/\s=.slice A' j c'/\ActO W A' j c' L/\L.map AX.a=Q.take j/\Fr [] w3 W/\(∀q∈eV A',w3.heap.size<=q)/\vP (f.map PF.i) j) (λ_ i _=>m - (intOf i).toNat)
 case atStart=>exact⟨0,0,none,[],Nat.zero_le _,rfl,rfl,⟨Own.nil _ _ _,qs,rfl⟩,qs,Fq _ _,by simp[eV],λk hk=>by omega⟩
 case round =>
  obtain⟨j,c',A',L,hj,rfl,rfl,aH,bi,aL,aA,aI⟩:=hrel;have b:=Hd (An aH (An bi (An aL (An aA aI))));clear aH bi aL aA aI
  by_cases an:j<m
  ·have bP:(j:Int)<(m:Int):=qo
   have aw:Fr [] w wr:=J.out.2.2.then (X.out.then b.out.2.2.1);have a6:Row wr wr.heap.size 4 M m (f.flatMap (PF.cs n)):=by have h:=(z.out.1.own.fr aw qs).rd;unfold Rd at h;rw[z.out.2.1]at h;exact h
   obtain⟨g,off,rfl,aN,aj⟩:=fo (wG n) a6 qo;obtain⟨p,R⟩:∃x,f[j]?=some x:=⟨_,gx (by rw[z.out.2.1];exact an)⟩;obtain⟨a,ag⟩:∃x,Q[j]?=some x:=⟨_,gx (by rw[z.out.2.2];exact an)⟩;have U:=HV.out j p a R ag;have G:=aj j p R;have aM:(f.map PF.i).getD j 0=p.i:=by rw[List.getD_eq_getElem?_getD,List.getElem?_map,R];rfl
   have O:=Hd (An R (An ag aM));obtain⟨s,T,_,_⟩:=eT p.s;obtain⟨H,ar⟩:=eR (p.i);obtain⟨PA,aC⟩:=eR (p.A);obtain⟨pd,aY⟩:=eR (p.d.length);obtain⟨pc,aX⟩:=eR (p.c);unfold PF.cs at G U;unfold fu at U;rw[T,ar,aC,aY,aX]at G U;have bJ:wr.cell? ⟨g,off+j*4,none⟩=some (.int .i64 (H:Int)):=G 0 qo;have z1:wr.cell? ⟨g,off+j*4+1,none⟩=some (.int .i64 (n:Int)):=G 1 qo;have z2:wr.cell? ⟨g,off+j*4+2,none⟩=some (.string s):=G 2 qo;have z3:wr.cell? ⟨g,off+j*4+3,none⟩=some (.slice PA pd pc):=G 3 qo;obtain⟨u,bc,bE,n4,f4⟩:=il wr #[.int .i64 (H:Int),.int .i64 (n:Int),.string s,.slice PA pd pc] 53 wr.heap.size;have ay:=Hd U;have ax:=Hd aj;have bp:=Hd ar;clear U aj G a6 R ag aM T ar aC aY aX bE
   go_upto_region 14 with fail
   try rw[bc]
   clear bJ z1 z2 z3 bc;have ae:Fr [] w2 u:=(X.out.then b.out.2.2.1).then f4;have ao:=J.out.1.fr ae qs;have p1:=n4.k1;have r6:=ao.k6;have o:=Hd (An n4 (An ao (An f4 (An ae (aw.then f4)))));clear n4 ao f4 ae aw;obtain⟨PB,aD⟩:=eR (wr.heap.size);rw[aD]at o p1 aN ⊢
   go_upto_region 16 with fail
   clear p1 r6;obtain⟨gb,C⟩:=eR (decide (0<j/\(f.map PF.i).getD j 0<=(f.map PF.i).getD (j - 1) 0))
   go_cut [63]from 50 to 63 (λs W=>s=.bool gb/\Fr [] u W)
   case first =>
    rcases Nat.eq_zero_or_pos j with aR|aR
    ·have bw:decide ((0:Int)<(j:Int))=false:=by simp;omega
     have bx:decide (0<j)=false:=by simp;omega
     have ad:=Hd (show gb=false by rw[<-C];simp;omega);clear C;have HSS:=Hd (λ(W:World) (hW:Fr [] u W)=>((o.out.1.fr hW qs).c 0:W.cell? ⟨PB,0,none⟩=some (.int .i64 (H:Int))));refine eY (λW=>Fr [] u W) qk qk ((Fq _ u).drew) ?_
     repeat(
      first
      | go_big_quiet_skip
      | (go_big_quiet_want;first|(go_big_quiet_op;go_big_quiet_on)|(apply Exists.intro;refine⟨λW hW=>?_,?_⟩;(· obtain bt:=HSS.out W hW;go_simp;first|done|with_reducible exact rfl|with_reducible exact⟨rfl,rfl⟩ );simp only[qq];go_big_quiet_on))
      )
     refine wpQuiet_nil ?_;intro v5 D;have F:=Hd D;clear D
     go_wp2_with fail
     go_meet
     exact⟨by rw[ad.out],F.out⟩
    ·obtain⟨l,bA⟩:=eR (j - 1)
     have bw:decide ((0:Int)<(j:Int))=true:=by simp;omega
     have bx:decide (0<j)=true:=by simp;omega
     have bS:IntKind.i64.wrap ((j:Int) - 1)=(l:Int):=by simp[IntKind.wrap,IntKind.bits,IntKind.signed];omega
     have bT:IntKind.i64.wrap (l:Int)=(l:Int):=by simp[IntKind.wrap,IntKind.bits,IntKind.signed];omega
     have bN:(l:Int)<(m:Int):=qo
     have bB:l<m:=qo
     obtain⟨q,av⟩:∃x,f[l]?=some x:=⟨_,gx (by rw[z.out.2.1];exact bB)⟩;have aa:=ax.out l q av 0 qo;have au:(f.map PF.i).getD l 0=q.i:=by rw[List.getD_eq_getElem?_getD,List.getElem?_map,av];rfl
     obtain⟨V,a4⟩:=eR (q.i);unfold PF.cs at aa;rw[a4]at aa au;have aO:g<wr.heap.size:=by rw[aD];exact aN
     have zq:∀W,Fr [] u W->W.cell? ⟨g,off+l*4,none⟩=some (.int .i64 (V:Int)):=λW hW=>((o.out.2.2.1.then hW).cell (p:=⟨g,off+l*4,none⟩) aO qs).trans aa;have ad:=Hd (show decide (H<=V)=gb by rw[<-C,O.out.2.2,bA,au,bp.out];simp[aR]);have bO:decide ((H:Int)<=(V:Int))=decide (H<=V):=qs
     clear C av aa au a4 aO;have HSS:=Hd (λ(W:World) (hW:Fr [] u W)=>(⟨(o.out.1.fr hW qs).c 0,(o.out.2.1.fr hW qs).c 7,zq W hW⟩:W.cell? ⟨PB,0,none⟩=some (.int .i64 (H:Int))/\W.cell? ⟨w.heap.size,7,none⟩=some (.slice (some ⟨g,off,none⟩) m c)/\W.cell? ⟨g,off+l*4,none⟩=some (.int .i64 (V:Int))));clear zq;refine eY (λW=>Fr [] u W) qk qk ((Fq _ u).drew) ?_
     repeat(
      first
      | go_big_quiet_skip
      | (go_big_quiet_want;first|(go_big_quiet_op;go_big_quiet_on)|(apply Exists.intro;refine⟨λW hW=>?_,?_⟩;(· obtain⟨bt,bL,bM⟩:=HSS.out W hW;go_simp;first|done|with_reducible exact rfl|with_reducible exact⟨rfl,rfl⟩ );simp only[qq];go_big_quiet_on))
      )
     refine wpQuiet_nil ?_;intro v5 D;have F:=Hd D;clear D
     go_wp2_with fail
     go_meet
     exact⟨by rw[ad.out],F.out⟩
   case rest =>
    obtain⟨rfl,E⟩:=hcut
    cases gb with
    | true =>
     have ah:=of_decide_eq_true C;have bn:=Hd (tk (by rw[List.length_map,z.out.2.1];exact an) ah.1 ah.2);have bs:=Hd (o.out.2.2.2.2.then E);clear C ah E
     go_wp2_with fail
     go_ret2
     unfold rP;rw[if_neg (by rw[bn.out];simp)]
     exact⟨rfl,bs.out⟩
    | false =>
     have aP:=of_decide_eq_false C
     have bm:=Hd (show vP (f.map PF.i) (j+1)from λk hk=>by
      rcases Nat.lt_or_eq_of_le (Nat.le_of_lt_succ hk)with h|rfl
      ·exact b.out.2.2.2.2 k h
      ·rcases Nat.eq_zero_or_pos k with h|h
       ·exact .inl h
       ·exact .inr (by have:=not_and.1 aP h;omega))
     obtain⟨v5,D⟩:=eR (wc);rw[D]at E ⊢;have n5:=o.out.1.fr E qs;have F:=Hd (An (o.out.2.2.2.1.then E) (An (o.out.2.2.2.2.then E) (o.out.2.2.1.then E)));clear C aP E D;obtain⟨p0,p1,p2,p3⟩:=n5.m4;have bq:=Hd (fH (eS J.out.2.1 F.out.1 qs) a5);have ba:=ay.out v5 F.out.2.1;have br:=Hd ba;obtain⟨ti,a8⟩:=eR (a.k.rnd);obtain⟨ph,aZ⟩:=eR (a.k.phase);obtain⟨ix,aQ⟩:=eR (a.k.idx);obtain⟨nr,aT⟩:=eR (a.r.length);obtain⟨nw,aW⟩:=eR (a.w.length);have a9:∀x:AX,x.a=a->x.v=.agg #[.int .i64 ti,.int .i64 ph,.int .i64 ix,.string x.sl,.slice x.A nr x.c,.slice x.B nw x.d]/\x.cs=[.int .i64 ti,.int .i64 ph,.int .i64 ix,.string x.sl,.slice x.A nr x.c,.slice x.B nw x.d]:=λx hx=>by unfold AX.v AG.val AX.cs;rw[hx,a8,aZ,aQ,aT,aW];exact⟨rfl,rfl⟩
     have az:=Hd a9;clear n5 ba a9 a8 aZ aQ aT aW ay ax
     go_upto_region 19 with(first
      | (refine fF qr ?_;(with_reducible refine wp_load_mid 57 (.tmp 3) rfl (w.heap.size+1) 0 rfl (eP I) (.array 32 5) bq.out qk rfl (by rw[aJ];kernel_rfl) ?_))
      | (go_at_call 66;(with_reducible refine br.out.mono ?_);rintro e v6 ⟨x,ac,rfl,bg,aK,_,_⟩;have Y:=Hd (An ac (An bg (An aK (az.out x ac).2)));rw[(az.out x ac).1];clear bg aK))
     clear p0 p1 p2 p3;obtain⟨bk,a7⟩:=eR (x.sl);obtain⟨XA,aE⟩:=eR (x.A);obtain⟨XB,aF⟩:=eR (x.B);obtain⟨xc,be⟩:=eR (x.c);obtain⟨xd,bf⟩:=eR (x.d);have ak:=Y.out.2.2.2;rw[a7,aE,aF,be,bf]at ak ⊢;obtain⟨v7,bd,bF,n7,f7⟩:=il v6 #[.int .i64 ti,.int .i64 ph,.int .i64 ix,.string bk,.slice XA nr xc,.slice XB nw xd] 91 v6.heap.size
     try rw[bd]
     obtain⟨q0,q1,q2,q3,q4,q5⟩:=n7.m6;have af:Fr [] wr v7:=(F.out.2.2.then Y.out.2.2.1).then f7;have bo:=Hd ak;have K:=Hd (An (b.out.1.own.fr af qs) (An af f7));clear ak bd bF n7 f7 af a7 aE aF be bf ac;obtain⟨ii,bz,bG,bH,bI⟩:∃i,(prog).info? 91=some i/\i.zero=some (.agg rG)/\i.size=6/\i.bytes=88:=info_parts qk
     go_upto_region 22 with(at_builtin;(with_reducible refine fp (w:=v7) rfl (.tmp 73) (.tmp 75) 22 rfl 91 ii _ 6 88 underlying22 bz bG bH bI rfl qd A' j c' (L.flatMap AX.cs) rfl K.out.1 1 1 [.int .i64 ti,.int .i64 ph,.int .i64 ix,.string bk,.slice XA nr xc,.slice XB nw xd] 91 rfl rfl (by simp[Value.oneCell']) (by unfold maxLen;omega) qo ?_);intro A2 c2 v8 ho hf T;have N:=Hd (An ho (An hf T));clear ho hf T)
     clear q0 q1 q2 q3 q4 q5
     go_wp2_with fail
     go_roundw
     case rel =>
      have aU:NoT sy v7 (eV A'):=NoT.own K.out.1 qd;refine⟨j+1,c2,A2,L++[x],qo,by go_num,rfl,⟨?_,λy t=>?_,by simp[b.out.1.len]⟩,?_,(b.out.2.2.1.then K.out.2.1).trans N.out.2.1 (λq S=>.inr (b.out.2.2.2.1 q S)),λq S=>?_,bm.out⟩
      ·have h:=N.out.1
       rw[<-bo.out]at h;rw[List.flatMap_append];simpa using h
      ·rcases List.mem_append.1 t with t|t
       ·exact((b.out.1.each y t).fr0 K.out.2.1).frT N.out.2.1 aU
       ·obtain rfl:y=x:=by simpa using t
        exact(Y.out.2.1.fr0 K.out.2.2).frT N.out.2.1 aU
      ·rw[List.map_append,b.out.2.1,List.take_add_one,O.out.2.1]
       simp[Y.out.1]
      ·rcases N.out.2.2 q S with h|h
       ·exact b.out.2.2.2.1 q h
       ·exact Nat.le_trans (b.out.2.2.1.then K.out.2.1).size h
     case measure=>simp[intOf];omega
  ·obtain rfl:j=m:=qo
   have hb:nC (f.map PF.i)=true:=vQ (by rw[List.length_map,z.out.2.1];exact b.out.2.2.2.2);have t:=b.out.2.1;rw[List.take_of_length_le (by rw[z.out.2.2];exact fV _)]at t;have O:=Hd (An hb t);clear hb t
   go_wp2_with fail
   go_ret2
   unfold rP;rw[if_pos O.out.1];exact⟨A',c',L,rfl,b.out.1,O.out.2,J.out.2.2.then (X.out.then b.out.2.2.1),λq S=>Nat.le_trans (J.out.2.2.then X.out).size (b.out.2.2.2.1 q S)⟩
open Go.RowKit
section
variable {w X Y:World} {c mu ms ma:Nat} {C C':Array Value} {ku ks ku' ks':List (Value × Value)}
end
theorem rQ(u:World):(zeroValue 95).run prog u=.ok (.agg #[.int .i64 0,.string ⟨#[]⟩,.int .i64 0,.int .i64 0,.string ⟨#[]⟩,.string ⟨#[]⟩,.bool false]) u:=by simp[go_sem]
section
variable {κ α:Type} [DecidableEq κ]
def iM(es:List (κ × α))(n:κ):Option α:=(es.find? λe=>decide (e.1=n)).map Prod.snd
theorem ll{es:List (κ × α)}{n:κ}(h:iM es n=none):∀e∈es,e.1≠n:=by
 unfold iM at h;rw[Option.map_eq_none_iff,List.find?_eq_none]at h;intro e a;simpa using h e a
theorem jq{es:List (κ × α)}{n:κ}{v:α}(h:iM es n=some v):∃a l2,es=a++(n,v)::l2:=by
 unfold iM at h;obtain⟨e,b,rfl⟩:=Option.map_eq_some_iff.1 h;have c:=List.find?_some b;have d:e.1=n:=by simpa using c
 obtain⟨a,l2,g⟩:=List.append_of_mem (List.mem_of_find?_eq_some b);exact⟨a,l2,by rw[g,<-d]⟩
theorem kD{a l2:List (κ × α)}{n:κ}(h:∀e∈a,e.1≠n):iM (a++l2) n=iM l2 n:=by
 unfold iM;rw[List.find?_append,List.find?_eq_none.2 (λe b=>by simpa using h e b)];rfl
theorem jG(k:κ)(v:α)(l:List (κ × α))(n:κ):iM ((k,v)::l) n=if k=n then some v else iM l n:=by
 unfold iM;rw[List.find?_cons]
 by_cases h:k=n
 ·simp[h]
 ·simp[h]
structure MM(k:TypeId)(q:κ->Value)(f:α->Value)(w:World)(r:Nat)(es:List (κ × α)):Prop where
 map:MapIs prog k w r (es.map λe=>(q e.1,f e.2))
 nd:(es.map Prod.fst).Nodup
variable {k t e:TypeId} {q:κ->Value} {f:α->Value} {w w':World} {r:Nat} {es:List (κ × α)} {S:List Nat}
theorem MM.fr(h:MM k q f w r es)(a:Fr S w w')(b:r ∉ S):MM k q f w' r es:=⟨h.map.fr a b,h.nd⟩
theorem MM.fr0(h:MM k q f w r es)(a:Fr [] w w'):MM k q f w' r es:=h.fr a qs
theorem MM.nil(h:MapIs prog k w r []):MM k q f w r ([]:List (κ × α)):=⟨h,qs⟩
theorem MM.look(m:∀a b,q a=q b->a=b)(K:Maps.Keyed prog k)(i:prog.underlying t=some (.map k e))(h:MM k q f w r es)(n:κ){u:Lit}(g:keyOf prog k (q n)=some u){z:Value}(s:(zeroValue e).run prog w=.ok z w):
 (Instr.lookup t (.map (some r)) (q n) true).run prog w=.ok (.tuple #[(match iM es n with|some v=>f v|none=>z),.bool (iM es n).isSome]) w:=by
 cases d:iM es n with
 | none =>
  have c:=MapIs.look_none K i h.map g (λp l=>by
   obtain⟨x,o,rfl⟩:=List.mem_map.1 l;exact λj=>ll d x o (m _ _ j)) s true
  simpa using c
 | some v =>
  obtain⟨y,l2,rfl⟩:=jq d;have c:=MapIs.look_some K i h.map g (v:=f v) qs true;simpa using c
theorem MM.put(M:∀a b,q a=q b->a=b)(K:Maps.Keyed prog k)(F:prog.underlying t=some (.map k e))(h:MM k q f w r es)(n:κ)(v:α){N:Lit}(D:keyOf prog k (q n)=some N):
 ∃w' u,(Instr.mapUpdate t (.map (some r)) (q n) (f v)).run prog w=.ok () w'/\Fr [r] w w'/\MM k q f w' r u/\∀x,iM u x=if n=x then some v else iM es x:=by
 cases C:iM es n with
 | none =>
  have s:=ll C
  obtain⟨w',i,j,l⟩:=MapIs.put_new (v:=f v) K F h.map D (λp L=>by
   obtain⟨x,c,rfl⟩:=List.mem_map.1 L;exact λI=>s x c (M _ _ I))
  refine⟨w',es++[(n,v)],i,j,⟨by simpa using l,?_⟩,λx=>?_⟩
  ·rw[List.map_append,List.nodup_append]
   refine⟨h.nd,qs,?_⟩;intro a G b H;obtain⟨y,g,rfl⟩:=List.mem_map.1 G;obtain rfl:b=n:=by simpa using H
   exact s y g
  ·by_cases c:n=x
   ·subst c
    rw[kD s,jG];simp
   ·rw[if_neg c]
    unfold iM;rw[List.find?_append];have:([(n,v)]:List (κ × α)).find? (λe=>decide (e.1=x))=none:=by simp[c]
    rw[this]
    simp
 | some O =>
  obtain⟨d,l2,rfl⟩:=jq C;have E:=h.map;rw[List.map_append,List.map_cons]at E;obtain⟨w',i,j,l⟩:=MapIs.put_old (v:=f v) K F E D;have o:=h.nd;rw[List.map_append,List.map_cons]at o
  have J:∀y∈d,y.1≠n:=λy g=>by
   have:=(List.nodup_append.1 o).2.2 y.1 (List.mem_map.2 ⟨y,g,rfl⟩) n qs;exact this
  refine⟨w',d++(n,v)::l2,i,j,⟨by rw[List.map_append,List.map_cons];exact l,by rw[List.map_append,List.map_cons];exact o⟩,λx=>?_⟩
  by_cases c:n=x
  ·subst c
   rw[kD J,jG];simp
  ·rw[if_neg c]
   by_cases m:∀y∈d,y.1≠x
   ·rw[kD m,kD m,jG,jG,if_neg c,if_neg c]
   ·have A:∀l2:List (κ × α),iM (d++l2) x=iM d x:=λl2=>by
     unfold iM;rw[List.find?_append]
     cases B:d.find? (λe=>decide (e.1=x))with
     | none =>
      rw[List.find?_eq_none]at B
      exact absurd (λy g=>by simpa using B y g) m
     | some z=>rfl
    rw[A,A]
end
instance:DecidableEq CH:=λa b=>if h:a.n=b.n/\a.v=b.v/\a.a=b.a then .isTrue (by cases a;cases b;simp only at h;obtain⟨rfl,rfl,rfl⟩:=h;rfl)else .isFalse (by rintro rfl;exact h ⟨rfl,rfl,rfl⟩)
def gM(l:List AG):Nat->ON->Option (Nat × CH)
 | 0,_=>none
 | i+1,n=>match (l[i]?).bind λa=>nA a.w n with
  | some c=>some (i,c)
  | none=>gM l i n
structure LS where
 used:List Nat
 asm:ON->Option CH
 lks:List LK
def xH:LS:=⟨[],λ_=>none,[]⟩
def tl(l:List AG)(a:List Nat)(i:Nat)(s:LS)(c:CH):Option LS :=
 match gM l i c.n with
 | some (m,y)=>if y=c then some ⟨m::s.used,s.asm,s.lks++[⟨(a.getD m 0:Nat),a.getD i 0,c.n⟩]⟩else none
 | none=>if(match s.asm c.n with|some y=>decide (y=c)|none=>true)then some ⟨s.used,λx=>if c.n=x then some c else s.asm x,s.lks++[⟨-1,a.getD i 0,c.n⟩]⟩else none
def j7(l:List AG)(a:List Nat)(i:Nat):List CH->LS->Option LS
 | [],s=>some s
 | c::r,s=>(tl l a i s c).bind (j7 l a i r)
def i6(l:List AG)(b:List Nat):Nat->Option LS
 | 0=>some xH
 | i+1=>(i6 l b i).bind λs=>j7 l b i (match l[i]? with|some a=>a.r|none=>[]) s
theorem rR(l:List AG)(d:List Nat)(i:Nat):∀(a b:List CH) (s:LS),j7 l d i (a++b) s=(j7 l d i a s).bind (j7 l d i b)
 | [],b,s=>rfl
 | c::r,b,s=>by
  rw[List.cons_append,j7,j7]
  cases tl l d i s c with
  | none=>rfl
  | some g=>exact rR l d i r b g
theorem px{l:List AG}{a:List Nat}{i j:Nat}{r:List CH}{b s:LS}{c:CH}(h:j7 l a i (r.take j) b=some s)(d:r[j]?=some c):j7 l a i (r.take (j+1)) b=tl l a i s c:=by
 rw[List.take_add_one,d,rR,h]
 show (j7 l a i [c] s)=_
 rw[j7]
 cases tl l a i s c <;> rfl
theorem tm{l:List AG}{a:List Nat}{i j:Nat}{r:List CH}{b:LS}(h:j7 l a i (r.take j) b=none):j7 l a i r b=none:=by
 rw[<-List.take_append_drop j r,rR,h];rfl
theorem py{l:List AG}{b:List Nat}:∀ {i m:Nat},i<=m->i6 l b i=none->i6 l b m=none
 | i,0,h,a=>by rw[show i=0 by omega]at a;cases a
 | i,m+1,h,a=>by
  rcases Nat.lt_or_eq_of_le h with c|rfl
  ·rw[i6,py (Nat.le_of_lt_succ c) a];rfl
  ·exact a
theorem ut:∀ {l:List CH} {p:Option ON},iL p l=true->l.Pairwise λa b=>fW a.n b.n<0
 | [],_,_=>List.Pairwise.nil
 | c::r,p,h=>by
  rw[iL,Bool.and_eq_true,Bool.and_eq_true]at h;have m:=ut h.2.2;refine List.Pairwise.cons (λx g=>?_) m;have o:=h.2.2
  cases r with
  | nil=>simp at g
  | cons d r2 =>
   rw[iL,Bool.and_eq_true,Bool.and_eq_true]at o;have j:ltO c.n d.n:=by have i:=o.2.1;simp[sK]at i;exact i
   rcases List.mem_cons.1 g with rfl|g
   ·exact j
   ·exact j.trans (List.rel_of_pairwise_cons m g)
theorem xI{P:Program}{d:Nat}{t:TypeId}{b:Bool}(h:P.underlying t=some .bool)(a:0<d):P.keyLits d t [.bool b]=some [.bool b]:=by
 obtain⟨d,rfl⟩:∃e,d=e+1:=⟨d - 1,qo⟩;unfold Program.keyLits;rw[h]
theorem xJ {P : Program} {k : TypeId} {fs : Array Field} {cs : Array Value} (h : P.underlying k = some (.struct fs)) (hk : P.keyType k = true) (hc : cs.toList.length = P.cellsOf k) (hn : fs.all (·.name != "_") = true)
 (c:1<P.types.size) (e:∀d,1<d->∃a,(fs.toList.mapM λf=>P.keyLits d f.type ((cs.toList.drop f.offset).take (P.cellsOf f.type)))=some a):∃l,keyOf P k (.agg cs)=some l:=by
 obtain⟨a,b⟩:=e P.types.size c;unfold keyOf;rw[h];simp only[hk,Value.formed,h,Bool.true_and,show (Value.agg cs).cells=cs from rfl];rw[if_pos (by simpa using hc)];unfold Program.keyLits;rw[h];simp only;rw[if_pos ⟨hc,hn⟩,b];exact⟨_,rfl⟩
theorem uu {P : Program} {d : Nat} {t : TypeId} {fs : Array Field} {cs : List Value} (h : P.underlying t = some (.struct fs)) (hc : cs.length = P.cellsOf t) (hn : fs.all (·.name != "_") = true) (hd : 1 < d)
 (c:∀d,0<d->∃a,(fs.toList.mapM λf=>P.keyLits d f.type ((cs.drop f.offset).take (P.cellsOf f.type)))=some a):∃a,P.keyLits d t cs=some a:=by
 obtain⟨d,rfl⟩:∃e,d=e+1:=⟨d - 1,qo⟩;obtain⟨a,b⟩:=c d qo;unfold Program.keyLits;rw[h];simp only;rw[if_pos ⟨hc,hn⟩,b];exact⟨_,rfl⟩
theorem Cj{n:ON}(h:eX n=0):(0<=n.kind/\n.kind<=20)/\(0<=n.number/\n.number<=1073741824)/\(0<=n.index/\n.index<=1073741824):=by
 obtain⟨k,j,_,l,a⟩:=ua h;have m:=mM (k:=k) qo;obtain⟨d,f,o⟩:=jr a;obtain⟨g,b,c,i⟩:=mb a;refine⟨qo,?_,?_⟩
 ·cases e:(us k).number with
  | true =>
   have:=d e;simp only[fO,decide_eq_true_eq]at this
   exact this
  | false=>rw[b e];omega
 ·cases e:(us k).index with
  | true =>
   have:=f e;simp only[fO,decide_eq_true_eq]at this
   omega
  | false=>rw[c e];omega
def lG(c:CH):Value:=.agg c.cs.toArray
theorem oN{c:CH}(h:eX c.n=0)(I:c.v.length<=140737488355328):∃l,keyOf prog 95 (lG c)=some l:=by
 have y:=underlying95;have J:=iq (fi h);have H:=ur h;obtain⟨B,C,D⟩:=Cj h;obtain⟨g,t,_,E⟩:=eT c.n.owner;obtain⟨j,u,_,F⟩:=eT c.n.text;obtain⟨A,w,_,G⟩:=eT c.v;unfold lG CH.cs;rw[t,u,w];have m:(prog).cellsOf 31=5:=qk
 have f:(prog).cellsOf 9=1:=qk
 have o:(prog).cellsOf 4=1:=qk
 have k:(prog).cellsOf 3=1:=qk
 have p:(prog).cellsOf 29=1:=qk
 have b:=underlying3;have r:g.size<=maxLen:=by unfold maxLen;omega
 have x:j.size<=maxLen:=by unfold maxLen;omega
 have z:A.size<=maxLen:=by unfold maxLen;omega
 refine xJ y qk qk qk (of_decide_eq_true qk) (λd q=>?_)
 obtain⟨K,s⟩:=uu (P:=prog) (d:=d) (cs:=[c.n.kind,g,c.n.number,c.n.index,j]) underlying31 qk qk q (λe a=>by
  simp only[List.mapM_cons,List.mapM_nil,k,p,f,qG,qH,List.take_succ_cons,List.take_zero,jp b a (jF (i:=c.n.kind) qo qo),jp b a (jF (i:=c.n.number) qo qo),jp b a (jF (i:=c.n.index) qo qo),li underlying29 a r,li underlying9 a x];exact⟨_,rfl⟩)
 simp only[List.mapM_cons,List.mapM_nil,m,f,o,qG,qH,List.take_succ_cons,List.take_zero,s,li underlying9 (by omega:0<d) z,xI underlying4 (by omega:0<d)];exact⟨_,rfl⟩
theorem DK{a b:CH}(h:lG a=lG b):a=b:=by
 unfold lG CH.cs at h;simp only[Value.agg.injEq,List.toArray_inj]at h;obtain⟨⟨o,s,q,m,t1⟩,u,c⟩:=a;obtain⟨⟨p,t,r,n,t2⟩,v,d⟩:=b;simp only[List.cons.injEq,Value.int.injEq,Value.bool.injEq,and_true,true_and]at h;obtain⟨e,f,g,i,j,k,l⟩:=h;rfl
theorem pz{a b:CH}(k:eX a.n=0)(l:eX b.n=0)(p:a.v.length<=140737488355328)(q:b.v.length<=140737488355328)(w:World):(binOp .neq 95 (lG a) (lG b)).run prog w=.ok (.bool (!decide (a=b))) w:=by
 obtain⟨s,e⟩:=oN k p;obtain⟨lb,c⟩:=oN l q;obtain⟨r,h,g⟩:=run_equal_deep (P:=prog) w (m:=5) qo qk qk e c
 have o:r=decide (a=b):=by
  by_cases d:a=b
  ·subst d
   rw[e]at c;rw[decide_eq_true rfl];exact g.2 (Option.some.inj c)
  ·rw[decide_eq_false d]
   cases r with
   | false=>rfl
   | true =>
    have i:=g.1 rfl;subst i;exact absurd (DK (keyOf_inj_deep (P:=prog) (m:=5) qk qk e c)) d
 subst o;have j:∀xs f:Array Value,(binOp .neq 95 (.agg xs) (.agg f)).run prog w=((Op.equal 95 (.agg xs) (.agg f)).run prog w).andThen λb w'=>.ok (.bool !b) w':=λxs f=>by simp[binOp]
 unfold lG at h ⊢;rw[j,h];simp[Result.andThen]
def xK:CH:=⟨⟨0,[],0,0,[]⟩,[],false⟩
def vR(p:Nat × CH):Value:=.agg ((.int .i64 (p.1:Int))::p.2.cs).toArray
structure LIg(w W:World)(c mu ms ma:Nat)(v0 v1 v2 v3:Value)(LA:Option Addr)(lc:Nat)(s:LS)(src:ON->Option (Nat × CH)):Prop where
 box:BoxN W c 64 #[v0,v1,v2,v3,.slice LA s.lks.length lc,.slice none 0 0]
 own:Own W 98 7 LA s.lks.length lc (s.lks.flatMap LK.cs)
 um:∃es,MM 3 (λm:Nat=>.int .i64 (m:Int)) (λ_:Unit=>.bool true) W mu es/\∀j,iM es j=if j∈s.used then some ()else none
 sm:∃es,MM 31 fg vR W ms es/\∀n,iM es n=src n
 am:∃es,MM 31 fg lG W ma es/\(∀n,iM es n=s.asm n)/\∀e∈es,e.2.n=e.1/\e.2.v.length<=65536/\eX e.1=0
 d:c<w.heap.size/\w.heap.size<=mu/\mu<ms/\ms<ma
 la:∀q∈eV LA,ma<q
 fr:Fr [c] w W
section
variable {w X Y Z:World} {c mu ms ma b lc:Nat} {v0 v1 v2 v3:Value} {LA:Option Addr} {s:LS} {src src':ON->Option (Nat × CH)}
theorem LIg.young(h:LIg w X c mu ms ma v0 v1 v2 v3 LA lc s src):ma<X.heap.size:=by obtain⟨es,a,_⟩:=h.am;exact a.map.lt
theorem LIg.putB(h:LIg w X c mu ms ma v0 v1 v2 v3 LA lc s src)(a:Fr [b] X Y)(v:ma<b)(n:b ∉ eV LA):LIg w Y c mu ms ma v0 v1 v2 v3 LA lc s src:=by
 have m:=h.d;obtain⟨f,r,j⟩:=h.um;obtain⟨g,t,k⟩:=h.sm;obtain⟨i,u,l⟩:=h.am;exact⟨h.box.fr a (by simp;omega),h.own.fr a (λq o e=>n (by rw[gI]at e;rw[<-e];exact o)),⟨f,r.fr a (by simp;omega),j⟩,⟨g,t.fr a (by simp;omega),k⟩,⟨i,u.fr a (by simp;omega),l⟩,m,h.la,h.fr.trans a (λx p=>.inr (by simp at p;omega))⟩
theorem LIg.fr0(h:LIg w X c mu ms ma v0 v1 v2 v3 LA lc s src)(a:Fr [] X Y):LIg w Y c mu ms ma v0 v1 v2 v3 LA lc s src:=by
 obtain⟨e,l,i⟩:=h.um;obtain⟨f,m,j⟩:=h.sm;obtain⟨g,n,k⟩:=h.am;exact⟨h.box.fr a qs,h.own.fr a qs,⟨e,l.fr0 a,i⟩,⟨f,m.fr0 a,j⟩,⟨g,n.fr0 a,k⟩,h.d,h.la,h.fr.trans a qs⟩
theorem LIg.congr(h:LIg w X c mu ms ma v0 v1 v2 v3 LA lc s src)(e:∀n,src n=src' n):LIg w X c mu ms ma v0 v1 v2 v3 LA lc s src':=by
 obtain⟨a,g,f⟩:=h.sm;exact⟨h.box,h.own,h.um,⟨a,g,λn=>(f n).trans (e n)⟩,h.am,h.d,h.la,h.fr⟩
theorem LIg.putS(h:LIg w X c mu ms ma v0 v1 v2 v3 LA lc s src)(n:ON)(v:Nat × CH)(t:eX n=0):
 ∃Y,(Instr.mapUpdate 241 (.map (some ms)) (fg n) (vR v)).run prog X=.ok () Y/\Fr [ms] X Y/\LIg w Y c mu ms ma v0 v1 v2 v3 LA lc s (λx=>if n=x then some v else src x):=by
 have l:=h.d;obtain⟨e,A,i⟩:=h.um;obtain⟨D,B,j⟩:=h.sm;obtain⟨f,C,k⟩:=h.am;obtain⟨E,o⟩:=fU t;obtain⟨Y,g,u,a,p,m⟩:=B.put ir iA underlying241 n v o;refine⟨Y,u,a,h.box.fr a (by simp;omega),h.own.fr a (λq y r=>?_),⟨e,A.fr a (by simp;omega),i⟩,⟨g,p,λx=>by rw[m x,j x]⟩,⟨f,C.fr a (by simp;omega),k⟩,l,h.la,h.fr.trans a (λx z=>.inr (by simp at z;omega))⟩;have:=h.la q y;simp at r;omega
theorem LIg.putU(h:LIg w X c mu ms ma v0 v1 v2 v3 LA lc s src)(m:Nat)(H:m<=1000000):
 ∃Y,(Instr.mapUpdate 143 (.map (some mu)) (.int .i64 (m:Int)) (.bool true)).run prog X=.ok () Y/\Fr [mu] X Y/\LIg w Y c mu ms ma v0 v1 v2 v3 LA lc ⟨m::s.used,s.asm,s.lks⟩ src:=by
 have t:=h.d;obtain⟨G,D,n⟩:=h.um;obtain⟨j,E,o⟩:=h.sm;obtain⟨k,F,p⟩:=h.am;obtain⟨I,v⟩:=pq (i:=(m:Int)) (jF qo qo);obtain⟨Y,l,A,f,y,u⟩:=D.put (λa b r=>by simp at r;omega) oJ underlying143 m () v;refine⟨Y,A,f,h.box.fr f (by simp;omega),h.own.fr f (λq B z=>?_),⟨l,y,λx=>?_⟩,⟨j,E.fr f (by simp;omega),o⟩,⟨k,F.fr f (by simp;omega),p⟩,t,h.la,h.fr.trans f (λx g=>.inr (by simp at g;omega))⟩
 ·have:=h.la q B
  simp at z;omega
 ·rw[u x,n x]
  by_cases g:m=x
  ·simp[g]
  ·have C:x≠m:=λe=>g e.symm
   simp[g,C]
theorem LIg.putA(h:LIg w X c mu ms ma v0 v1 v2 v3 LA lc s src)(x:CH)(l:eX x.n=0)(G:x.v.length<=65536):
 ∃Y,(Instr.mapUpdate 149 (.map (some ma)) (fg x.n) (lG x)).run prog X=.ok () Y/\Fr [ma] X Y/\LIg w Y c mu ms ma v0 v1 v2 v3 LA lc ⟨s.used,λy=>if x.n=y then some x else s.asm y,s.lks⟩ src:=by
 have z:=h.d;obtain⟨o,K,r⟩:=h.um;obtain⟨p,L,t⟩:=h.sm;obtain⟨N,M,u,I⟩:=h.am;obtain⟨O,B⟩:=fU l;obtain⟨Y,i,E,a,k,j⟩:=M.put ir iA underlying149 x.n x B;refine⟨Y,E,a,h.box.fr a (by simp;omega),h.own.fr a (λq F D=>?_),⟨o,K.fr a (by simp;omega),r⟩,⟨p,L.fr a (by simp;omega),t⟩,⟨i,k,λy=>by rw[j y,u y],λe A=>?_⟩,z,h.la,h.fr.trans a (λx f=>.inr (by simp at f;omega))⟩
 ·have:=h.la q F
  simp at D;omega
 ·have g:iM i e.1=some e.2:=by
   obtain⟨J,l2,rfl⟩:=List.append_of_mem A;have m:=k.nd;rw[List.map_append,List.map_cons]at m;rw[kD (λy H=>(List.nodup_append.1 m).2.2 y.1 (List.mem_map.2 ⟨y,H,rfl⟩) e.1 qs),jG,if_pos rfl]
  rw[j e.1]at g
  by_cases f:x.n=e.1
  ·rw[if_pos f]at g
   rw[<-Option.some.inj g];exact⟨f,G,by rw[<-f];exact l⟩
  ·rw[if_neg f]at g
   obtain⟨J,l2,C⟩:=jq g;exact I (e.1,e.2) (by rw[C];simp)
theorem LIg.putL(h:LIg w X c mu ms ma v0 v1 v2 v3 LA lc s src){e:Option Addr}{l:Nat}(x:LK)(i:Fr (eV LA) X Y)(A:Own Y 98 7 e (s.lks.length+1) l (s.lks.flatMap LK.cs++x.cs))(v:∀q∈eV e,q∈eV LA \/ X.heap.size<=q)
 (f:Fr [c] Y Z) (y:BoxN Z c 64 #[v0,v1,v2,v3,.slice e (s.lks.length+1) l,.slice none 0 0]):LIg w Z c mu ms ma v0 v1 v2 v3 e l ⟨s.used,s.asm,s.lks++[x]⟩ src:=by
 have z:=h.d;have E:=h.young;obtain⟨n,B,r⟩:=h.um;obtain⟨o,C,t⟩:=h.sm;obtain⟨p,D,u⟩:=h.am
 have m:∀q∈eV e,ma<q:=λq a=>by
  rcases v q a with g|g
  ·exact h.la q g
  ·omega
 have k:∀q,q<=ma->q ∉ eV LA:=λq a j=>by have:=h.la q j;omega
 refine⟨by rw[gG];exact y,?_,⟨n,(B.fr i (k _ qo)).fr f (by simp;omega),r⟩,⟨o,(C.fr i (k _ qo)).fr f (by simp;omega),t⟩,⟨p,(D.fr i (k _ qo)).fr f (by simp;omega),u⟩,z,m,(h.fr.trans i (λq a=>.inr (by have:=h.la q a;omega))).then f⟩;have g:=A.fr f (λq a j=>by have:=m q a;simp at j;omega);rw[gG,List.flatMap_append];simpa using g
theorem Ck(h:LIg w X c mu ms ma v0 v1 v2 v3 LA lc s src)(n:ON)(f:eX n=0)(i:(zeroValue 243).run prog X=.ok (vR (0,xK)) X):
 (Instr.lookup 241 (.map (some ms)) (fg n) true).run prog X=.ok (.tuple #[vR ((src n).getD (0,xK)),.bool (src n).isSome]) X:=by
 obtain⟨k,j,d⟩:=h.sm;obtain⟨l,e⟩:=fU f;have a:=j.look ir iA underlying241 n e i;rw[d]at a
 cases g:src n <;> rw[g]at a <;> exact a
theorem Cm(h:LIg w X c mu ms ma v0 v1 v2 v3 LA lc s src)(n:ON)(f:eX n=0):
 (Instr.lookup 149 (.map (some ma)) (fg n) true).run prog X=.ok (.tuple #[lG ((s.asm n).getD xK),.bool (s.asm n).isSome]) X:=by
 obtain⟨j,i,d,_⟩:=h.am;obtain⟨k,e⟩:=fU f;have a:=i.look ir iA underlying149 n e (z:=lG xK) (rQ X);rw[d]at a
 cases g:s.asm n <;> rw[g]at a <;> exact a
theorem LIg.asm_ok(h:LIg w X c mu ms ma v0 v1 v2 v3 LA lc s src){n:ON}{y:CH}(a:s.asm n=some y):y.n=n/\y.v.length<=65536:=by
 obtain⟨g,j,d,f⟩:=h.am;rw[<-d]at a;obtain⟨i,l2,e⟩:=jq a;have h:=f (n,y) (by rw[e];simp);exact⟨h.1,h.2.1⟩
end
def oO(d:Option (Nat × CH))(a:Option CH):Bool:=d.isSome || a.isSome
def pB(d:Option (Nat × CH))(a:Option CH):CH:=match d with|some p=>p.2|none=>a.getD xK
def pC(a:List Nat)(d:Option (Nat × CH)):Int:=match d with|some p=>((a.getD p.1 0:Nat):Int)|none=>-1
def sB(d:List Nat)(i:Nat)(s:LS)(a:Option (Nat × CH))(x:CH):LS:=match a with
 | some p=>⟨p.1::s.used,s.asm,s.lks⟩
 | none=>⟨s.used,λy=>if x.n=y then some x else s.asm y,s.lks⟩
theorem lm(l:List AG)(a:List Nat)(i:Nat)(s:LS)(x:CH):tl l a i s x=if(oO (gM l i x.n) (s.asm x.n) && !decide (pB (gM l i x.n) (s.asm x.n)=x))=true then none
 else some ⟨(sB a i s (gM l i x.n) x).used,(sB a i s (gM l i x.n) x).asm,s.lks++[⟨pC a (gM l i x.n),a.getD i 0,x.n⟩]⟩:=by
 unfold tl oO pB pC sB
 cases gM l i x.n with
 | some p =>
  obtain⟨m,y⟩:=p
  by_cases h:y=x <;> simp[h]
 | none =>
  cases s.asm x.n with
  | none=>simp
  | some y=>by_cases h:y=x <;> simp[h]
theorem rS{l:List AG}(f:∀a∈l,mN a=true):∀ {i:Nat} {n:ON} {p:Nat × CH},gM l i n=some p->p.1<i/\p.2.n=n/\eX p.2.n=0/\p.2.v.length<=65536
 | 0,n,p,h=>by simp[gM]at h
 | i+1,n,p,h=>by
  rw[gM]at h
  cases e:(l[i]?).bind λa=>nA a.w n with
  | none =>
   rw[e]at h;have:=rS f h
   exact⟨qo,this.2⟩
  | some c =>
   rw[e]at h
   injection h with h
   subst h;obtain⟨a,g,d⟩:=Option.bind_eq_some_iff.1 e;unfold nA at d;have j:=List.find?_some d;have k:c.n=n:=by simpa using j
   have m:=iR (gC (gr (f a (iu g))).2 c (List.mem_of_find?_eq_some d));exact⟨Nat.lt_succ_self _,k,m⟩
open Go.ChangeMaps (setBlock)
section
variable {κ α:Type}
def yy(W:World)(ri ma:Nat):Nat:=match W.heap[ri]?,W.heap[ma]? with
 | some (.mapIter _ _ a _),some (.map es _)=>(leftOf es a).size
 | _,_=>0
def RgM(q:κ->Value)(f:α->Value)(W:World)(ri ma:Nat)(es done:List (κ × α)):Prop :=
 ∃(left:List (κ × α)) (a:Array MapEntry) (clock b c:Nat) (d:Array Nat),(done++left).Perm es/\W.heap[ma]?=some (.map a clock)/\W.heap[ri]?=some (.mapIter (some ma) b d c)/\(∀x∈a.toList,x.born<b)/\b<=c/\b<=clock/\(a.toList.map (·.born)).Nodup/\(leftOf a d).toList.map (λx=>(x.key,x.val))=left.map λe=>(q e.1,f e.2)
variable {q:κ->Value} {f:α->Value} {W W':World} {ri ma:Nat} {es done:List (κ × α)} {S:List Nat}
theorem RgM.fr(h:RgM q f W ri ma es done)(a:Fr S W W')(g:ri ∉ S)(i:ma ∉ S):RgM q f W' ri ma es done:=by
 obtain⟨left,e,clock,l,d,k,j,b,c,h⟩:=h;exact⟨left,e,clock,l,d,k,j,(a.block _ (Array.getElem?_eq_some_iff.1 b).1 i).trans b,(a.block _ (Array.getElem?_eq_some_iff.1 c).1 g).trans c,h⟩
theorem RgM.left(h:RgM q f W ri ma es done):yy W ri ma+done.length=es.length:=by
 obtain⟨left,j,clock,l,i,k,e,d,g,_,_,_,_,c⟩:=h;unfold yy;rw[d,g];have a:=congrArg List.length c;have b:=e.length_eq;simp only[List.length_map,gG,Array.length_toList]at a b;simp only;omega
theorem RgM.lt(h:RgM q f W ri ma es done):ri<W.heap.size/\ma<W.heap.size:=by
 obtain⟨left,d,clock,i,c,g,e,a,b,_⟩:=h;exact⟨(Array.getElem?_eq_some_iff.1 b).1,(Array.getElem?_eq_some_iff.1 a).1⟩
theorem vS(W:World)(r:Nat)(o:Obj):Fr [r] W (setBlock W r o):=⟨rfl,rfl,rfl,by simp[setBlock],λk b a=>by
 simp only[gI]at a;simp[setBlock,Array.getElem?_setIfInBounds,Ne.symm a]⟩
theorem rT{P:Program}{t k e:TypeId}(i:P.underlying t=some (.map k e))(h:∃b clock,W.heap[ma]?=some (.map b clock)/\MapKept.Stamped b clock/\b.toList.map (λx=>(x.key,x.val))=es.map λe=>(q e.1,f e.2)):
 ∃W',(Instr.range t (.map (some ma))).run P W=.ok (.pointer (some ⟨W.heap.size,0,none⟩)) W'/\Fr [] W W'/\RgM q f W' W.heap.size ma es []:=by
 obtain⟨b,clock,c,d,g⟩:=h;refine⟨_,run_range_map W t k e ma b clock i c,(Fq [] W).alloc _,es,b,clock,clock,clock,#[],qs,?_,heap_alloc_new _ _,d.1,fV _,fV _,d.2.1,?_⟩
 ·first|rw[heap_alloc_old W _ (Array.getElem?_eq_some_iff.1 c).1,c]|rw[heap_alloc_old W _ _ (Array.getElem?_eq_some_iff.1 c).1,c]
 ·rw[<-g]
  unfold leftOf;rw[Array.toList_filter,List.filter_eq_self.2 (λa _=>by simp)]
theorem RgM.step{P:Program}(h:RgM q f W ri ma es done):(es.Perm done/\∀ty:TypeId,(Instr.next (.pointer (some ⟨ri,0,none⟩)) false ty).run P W=.ok (.tuple #[.bool false]) W) \/
 ∃(e:κ × α) (W':World),e∈es/\(∀ty:TypeId,(Instr.next (.pointer (some ⟨ri,0,none⟩)) false ty).run P W=.ok (.tuple #[.bool true,q e.1,f e.2]) W')/\(Instr.entry (.pointer (some ⟨ri,0,none⟩))).run P W'=.ok (.tuple #[q e.1,f e.2]) W'/\Fr [ri] W W'/\RgM q f W' ri ma es (done++[e]):=by
 obtain⟨left,c,clock,d,J,b,i,g,n,C,aa,r,m,w⟩:=h
 rcases run_next_at (P:=P) W 0 ri ma d J b c clock n g C aa with⟨h0,j⟩|⟨x,F,p,ab,E⟩
 ·left
  have:left=[]:=by
   have k:=congrArg List.length w;simp only[List.length_map,Array.length_toList]at k;exact List.eq_nil_of_length_eq_zero qo
  subst this;rw[List.append_nil]at i;exact⟨i.symm,λty=>j⟩
 ·right
  obtain⟨G,l2,l⟩:=List.append_of_mem F;have z:=w;rw[l,List.map_append,List.map_cons]at z;obtain⟨H,m2,rfl,U,V⟩:=List.map_eq_append_iff.1 z.symm;obtain⟨e,I,rfl,N,X⟩:=List.map_eq_cons_iff.1 V
  injection N with O Q
  have T:=mem_left F
  have u:Fr [] W p:=by
   rcases ab with rfl|rfl
   ·exact Fq _ _
   ·exact(Fq _ W).drew
  have Z:=Nat.lt_of_lt_of_le (Array.getElem?_eq_some_iff.1 n).1 u.size;have Y:ma≠ri:=λh=>by rw[h,n]at g;cases g
  have D:(setBlock p ri (.mapIter (some ma) d (b.push x.born) clock)).heap[ri]?=some (.mapIter (some ma) d (b.push x.born) clock):=by simp[setBlock,Z]
  have R:=vS p ri (.mapIter (some ma) d (b.push x.born) clock);have v:=(u.mono qs).then R;have A:=(v.block _ (Array.getElem?_eq_some_iff.1 g).1 (by simpa using Y)).trans g;have t:=run_entry_at (P:=P) _ ri ma d b c clock x D A T.1 m;rw[<-O,<-Q]at E t;refine⟨e,_,?_,λty=>E,t,v,H++I,c,clock,d,clock,b.push x.born,?_,A,D,C,r,r,m,?_⟩
  ·exact i.subset qs
  ·refine List.Perm.trans ?_ i
   rw[List.append_assoc];refine List.Perm.append_left _ ?_;simpa using (List.perm_middle (a:=e) (l₁:=H) (l₂:=I)).symm
  ·have M:(leftOf c (b.push x.born)).toList=G++l2:=by
    have B:((leftOf c b).toList.map (·.born)).Nodup:=by
     unfold leftOf;rw[Array.toList_filter];exact List.Nodup.sublist (List.Sublist.map _ List.filter_sublist) m
    have j:(leftOf c (b.push x.born)).toList=(leftOf c b).toList.filter λy=>!(y.born == x.born):=by
     unfold leftOf;rw[Array.toList_filter,Array.toList_filter,List.filter_filter]
     congr 1
     funext y
     rw[contains_push]
     cases b.contains y.born <;> cases (y.born == x.born) <;> rfl
    rw[j,l,List.filter_append,List.filter_cons];rw[l,List.map_append,List.map_cons]at B;have s:=(List.nodup_append.1 B).2
    have K:∀y∈G,(!(y.born == x.born))=true:=λy o=>by
     have:=s.2 y.born (List.mem_map.2 ⟨y,o,rfl⟩) x.born qs;simpa using this
    have L:∀y∈l2,(!(y.born == x.born))=true:=λy o=>by
     have:=(List.nodup_cons.1 s.1).1;have k:y.born≠x.born:=λh=>this (by rw[<-h];exact List.mem_map.2 ⟨y,o,rfl⟩);simpa using k
    rw[List.filter_eq_self.2 K,List.filter_eq_self.2 L];simp
   rw[M,List.map_append,List.map_append,U,X]
end
end Go.Proofs.YtlpmiimgacfmkaaGreatDoor
