/- Part of the proof. -/
import Derived.Test.YtlpmiimgacfmkaaGreatDoorRSt3
set_option linter.all false
set_option maxHeartbeats 4000000
set_option maxRecDepth 100000
namespace Go.Proofs.YtlpmiimgacfmkaaGreatDoor
open Go.Proofs.Tryz
open Go.RowKit
theorem fo{α:Type}{f:α->List Value}{m:Nat}(a:∀x,(f x).length=m){w:World}{B n:Nat}{A:Option Addr}{xs:List α}(h:Row w B m A n (xs.flatMap f))(l:0<n):
 ∃b off,A=some ⟨b,off,none⟩/\b<B/\∀j x,xs[j]?=some x->∀o,o<m->w.cell? ⟨b,off+j*m+o,none⟩=(f x)[o]?:=by
 obtain⟨b,off,g,i,k⟩:=h.2 l;refine⟨b,off,g,i,λj x q o e=>?_⟩
 have d:(xs.flatMap f)[j*m+o]?=(f x)[o]?:=by
  have:∀(xs:List α) (j:Nat),xs[j]?=some x->(xs.flatMap f)[j*m+o]?=(f x)[o]?:=by
   intro xs
   induction xs with
   | nil=>intro j h;simp at h
   | cons y r s =>
    intro j h
    cases j with
    | zero=>simp at h;subst h;rw[List.flatMap_cons,Nat.zero_mul,Nat.zero_add,List.getElem?_append_left (by rw[a];exact e)]
    | succ j=>rw[List.flatMap_cons,List.getElem?_append_right (by rw[a,Nat.add_mul];omega),a,show (j+1)*m+o - m=j*m+o by rw[Nat.add_mul];omega];exact s j (by simpa using h)
  exact this xs j q
 obtain⟨u,p⟩:∃u,(f x)[o]?=some u:=⟨_,gx (by rw[a];exact e)⟩;rw[p]at d ⊢;have:=k _ _ d
 rwa [<-Nat.add_assoc]at this
theorem lZ{α:Type}{f:α->List Value}{m:Nat}(a:∀x,(f x).length=m):∀xs:List α,(xs.flatMap f).length=xs.length*m
 | []=>by simp
 | y::r=>by rw[List.flatMap_cons,gG,a,lZ a r,List.length_cons,Nat.add_mul];omega
def Rd(w:World)(m:Nat)(A:Option Addr)(n:Nat)(xs:List Value):Prop:=Row w w.heap.size m A n xs
section
variable {w w':World} {m n c:Nat} {A:Option Addr} {xs:List Value} {S:List Nat}
theorem Rd.fr(h:Rd w m A n xs)(d:Fr S w w')(f:∀k∈eV A,k ∉ S):Rd w' m A n xs:=⟨h.1,λi=>by
 obtain⟨b,off,e,a,g⟩:=h.2 i;subst e;exact⟨b,off,rfl,Nat.lt_of_lt_of_le a d.size,λj u l=>(d.cell (p:=⟨b,off+j,none⟩) a (f b (by simp[eV]))).trans (g j u l)⟩⟩
theorem Rd.fr0(h:Rd w m A n xs)(a:Fr [] w w'):Rd w' m A n xs:=h.fr a qs
theorem Own.rd{e:TypeId}(h:Own w e m A n c xs):Rd w m A n xs:=h.row
end
structure CH where
 n:ON
 v:Nm
 a:Bool
def CH.cs(c:CH):List Value:=[.int .i64 c.n.kind,ft c.n.owner,.int .i64 c.n.number,.int .i64 c.n.index,ft c.n.text,ft c.v,.bool c.a]
theorem ip(c:CH):c.cs.length=7:=rfl
def CH.fit(c:CH):Prop:=c.n.owner.length<=140737488355328/\c.n.text.length<=140737488355328/\c.v.length<=140737488355328
def Chs(w:World)(A:Option Addr)(l:List CH):Prop:=Rd w 7 A l.length (l.flatMap CH.cs)
theorem Chs.fr0{w w':World}{A:Option Addr}{l:List CH}(h:Chs w A l)(a:Fr [] w w'):Chs w' A l:=Rd.fr0 h a
def iQ(c:CH):Bool:=decide (eX c.n=0) && (decide (c.v.length<=65536) && !(c.a && qg c.v))
def sK:Option ON->ON->Bool
 | none,_=>true
 | some q,n=>decide (fW q n<0)
def iL:Option ON->List CH->Bool
 | _,[]=>true
 | p,c::r=>iQ c && (sK p c.n && iL (some c.n) r)
theorem fi{n:ON}(h:eX n=0):gp n.owner=true:=by
 unfold eX at h;split at h
 ·have e:=h
  unfold kT at h;split at h
  ·simp at h
  ·rename_i a
   split at h
   ·simp at h
   split at h
   ·simp at h
   split at h
   ·simp at h
   split at h
   ·simp at h
   ·rename_i b
    unfold Ej at a;unfold tV at b
    cases d:(us n.kind.toNat).owner with
    | true=>rw[d]at b;simpa using b
    | false =>
     rw[d]at a;have:n.owner=[]:=by simpa [qg]using a
     rw[this];decide
 ·simp at h
def jl(l:List CH):Nat->Option ON
 | 0=>none
 | j+1=>(l[j]?).map CH.n
theorem mC{l:List CH}{j:Nat}{c:CH}(b:l[j]?=some c)(a:iL (jl l j) (l.drop j)=iL none l)(d:iQ c=true)(e:∀q,jl l j=some q->fW q c.n<0):iL (jl l (j+1)) (l.drop (j+1))=iL none l:=by
 obtain⟨f,rfl⟩:=i9.1 b;rw[List.drop_eq_getElem_cons f,iL,d,Bool.true_and]at a;rw[<-a]
 show iL ((l[j]?).map CH.n) _=_
 rw[b]
 cases g:jl l j with
 | none=>simp[sK]
 | some q=>simp[sK,e q g]
theorem om{l:List CH}{j:Nat}{c:CH}(e:l[j]?=some c)(b:iL (jl l j) (l.drop j)=iL none l)(h:iQ c=false \/ ∃q,jl l j=some q/\0<=fW q c.n):iL none l=false:=by
 obtain⟨d,rfl⟩:=i9.1 e;rw[<-b,List.drop_eq_getElem_cons d,iL]
 rcases h with h|⟨q,a,f⟩
 ·rw[h];rfl
 ·rw[a]
  have:¬fW q l[j].n<0:=qo
  simp[sK,this]
theorem uQ(l:List CH)(A:Option Addr)(c:Nat)(w:World)(aB:Ok w)(h:Chs w A l)(R:∀x∈l,x.fit)(hl:l.length<=100000):Calls prog 170 #[.slice A l.length c] w (fm w (.bool (iL none l))):=by
 obtain⟨n,ao⟩:=eR (l.length);obtain⟨r,hr⟩:=eR (iL none l);have f:=Hd (An ao (An hr h));have aK:=Hd aB;have aJ:=Hd R;rw[ao]at hl ⊢;rw[hr];clear ao hr h aB R
 go_enter func170,ntmps170
 go_wp2_with fail
 go_loopw [7] (λi W=>∃j:Nat,j<=n/\i=.int .i64 (j:Int)/\Fr [] w W/\iL (jl l j) (l.drop j)=r/\∀q,jl l j=some q->eX q=0/\q.owner.length<=140737488355328) (λi _=>n - (intOf i).toNat)
 case atStart=>exact⟨0,Nat.zero_le _,rfl,Fq _ _,f.out.2.1,λq z=>by cases z⟩
 case round =>
  obtain⟨j,hj,rfl,ay,hB,z⟩:=hrel;have C:=Hd (An ay (An hB z));clear ay hB z
  by_cases aR:j<n
  ·have a5:(j:Int)<(n:Int):=qo
   have aC:Row wr wr.heap.size 7 A n (l.flatMap CH.cs):=by have h:=f.out.2.2.fr0 C.out.1;unfold Chs Rd at h;rw[f.out.1]at h;exact h
   obtain⟨b,off,rfl,aN,ag⟩:=fo ip aC qo;obtain⟨x,J⟩:∃x,l[j]?=some x:=⟨_,gx (by rw[f.out.1];exact aR)⟩;obtain⟨X,f2,f3⟩:=aJ.out x (iu J);have ah:=ag j x J;obtain⟨⟨k,E,u,t,F⟩,v,M⟩:=x;simp only at X f2 f3;obtain⟨so,ai,aq,_⟩:=eT E;obtain⟨st,aj,ar,_⟩:=eT F;obtain⟨G,aE,au,_⟩:=eT v;unfold CH.cs at ah;simp only[ai,aj,aE]at ah;obtain⟨y0,y1,y2,y3,y4,y5,y6⟩:=AR ah;obtain⟨w1,aG,aT,n1,al⟩:=il wr #[.int .i64 k,.string so,.int .i64 u,.int .i64 t,.string st,.string G,.bool M] 95 wr.heap.size;obtain⟨V,an⟩:=eR (eX ⟨k,E,u,t,F⟩)
   have hC:Calls prog 53 #[.agg #[.int .i64 k,.string so,.int .i64 u,.int .i64 t,.string st]] w1 (ol w1 V):=by
    have h:=ld ⟨k,E,u,t,F⟩ w1 (aK.out.fr0 (C.out.1.then al)) X f2;rw[an]at h;unfold fg at h;simp only[ai,aj]at h;exact h
   have I:=Hd (An J (An an (An ai (An aj au))));have O:=Hd hC;have P:=Hd (An n1 al);have T:(G.size:Int)=(v.length:Int):=by rw[jO,au]
   clear ah ag aC J an ai aq aj ar aE au hC
   go_upto_region 4 with fail
   try rw[aG]
   clear y0 y1 y2 y3 y4 y5 y6 aN;obtain⟨x0,x1,x2,x3,x4,x5,x6⟩:=n1.m7;clear aG n1 al aT
   go_cut [30]from 12 to 30 (λs W=>s=.bool (!iQ ⟨⟨k,E,u,t,F⟩,v,M⟩)/\Fr [] w1 W)
   case first =>
    have aD:iQ ⟨⟨k,E,u,t,F⟩,v,M⟩=(decide (V=0) && (decide (v.length<=65536) && !(M && qg v))):=by unfold iQ;simp only;rw[I.out.2.1]
    have U:=Hd aD;clear aD
    rcases Int.decEq V 0 with af|af
    ·have a4:(V != 0)=true:=by simp[af]
     have aP:decide (V=0)=false:=decide_eq_false af;have d:=Hd (show (!iQ ⟨⟨k,E,u,t,F⟩,v,M⟩)=true by rw[U.out,aP];rfl);clear T
     go_wp2_with (go_at_call 53;(with_reducible refine O.out.mono ?_);rintro e w2 ⟨rfl,a⟩;have K:=Hd a;clear a)
     go_meet
     exact⟨congrArg Value.bool d.out.symm,K.out⟩
    ·subst af
     by_cases ak:v.length<=65536
     ·have ag:(decide ((65536:Int)<(G.size:Int)))=false:=decide_eq_false qo
      have aQ:(decide ((65536:Int)<(v.length:Int)))=false:=decide_eq_false qo
      cases M with
      | false =>
       have d:=Hd (show (!iQ ⟨⟨k,E,u,t,F⟩,v,false⟩)=false by rw[U.out];simp[ak]);clear T
       go_wp2_with (go_at_call 53;(with_reducible refine O.out.mono ?_);rintro e w2 ⟨rfl,a⟩;have D:=P.out.1.fr a qs;have z5:w2.cell? ⟨wr.heap.size,5,none⟩=some (.string G):=D.c 5;have z6:w2.cell? ⟨wr.heap.size,6,none⟩=some (.bool false):=D.c 6;have K:=Hd a;clear a D)
       go_meet
       exact⟨congrArg Value.bool d.out.symm,K.out⟩
      | true =>
       by_cases J:v=[]
       ·have ad:G.data.toList=[]:=by rw[I.out.2.2.2.2];exact J
        have aH:G.toList=[]:=by rw[ByteArray.toList_eq];exact ad
        have d:=Hd (show (!iQ ⟨⟨k,E,u,t,F⟩,v,true⟩)=false by rw[U.out];simp[ak,qg,J]);clear T J ad
        go_wp2_with (go_at_call 53;(with_reducible refine O.out.mono ?_);rintro e w2 ⟨rfl,a⟩;have D:=P.out.1.fr a qs;have z5:w2.cell? ⟨wr.heap.size,5,none⟩=some (.string G):=D.c 5;have z6:w2.cell? ⟨wr.heap.size,6,none⟩=some (.bool true):=D.c 6;have K:=Hd a;clear a D)
        go_meet
        exact⟨congrArg Value.bool d.out.symm,K.out⟩
       ·have ad:G.data.toList≠[]:=by rw[I.out.2.2.2.2];exact J
        have aH:G.toList≠[]:=by rw[ByteArray.toList_eq];exact ad
        have a8:(G.toList == [])=false:=by simpa using aH
        have d:=Hd (show (!iQ ⟨⟨k,E,u,t,F⟩,v,true⟩)=true by rw[U.out];simp[ak,qg,J]);clear T J ad
        go_wp2_with (go_at_call 53;(with_reducible refine O.out.mono ?_);rintro e w2 ⟨rfl,a⟩;have D:=P.out.1.fr a qs;have z5:w2.cell? ⟨wr.heap.size,5,none⟩=some (.string G):=D.c 5;have z6:w2.cell? ⟨wr.heap.size,6,none⟩=some (.bool true):=D.c 6;have K:=Hd a;clear a D)
        go_meet
        exact⟨congrArg Value.bool d.out.symm,K.out⟩
     ·have ag:(decide ((65536:Int)<(G.size:Int)))=true:=decide_eq_true qo
      have aQ:(decide ((65536:Int)<(v.length:Int)))=true:=decide_eq_true qo;have d:=Hd (show (!iQ ⟨⟨k,E,u,t,F⟩,v,M⟩)=true by rw[U.out];simp[ak]);clear T
      go_wp2_with (go_at_call 53;(with_reducible refine O.out.mono ?_);rintro e w2 ⟨rfl,a⟩;have D:=P.out.1.fr a qs;have z5:w2.cell? ⟨wr.heap.size,5,none⟩=some (.string G):=D.c 5;have K:=Hd a;clear a D)
      go_meet
      exact⟨congrArg Value.bool d.out.symm,K.out⟩
   case rest =>
   obtain⟨rfl,Q⟩:=hcut;clear x0 x1 x2 x3 x4 x5 x6 T
   cases L:iQ ⟨⟨k,E,u,t,F⟩,v,M⟩with
   | false =>
    have d:=Hd (om I.out.1 (by rw[C.out.2.1];exact f.out.2.1.symm) (.inl L));have aI:=Hd Q;clear Q L
    go_wp2_with fail
    go_ret
    exact⟨by rw[<-f.out.2.1,d.out];rfl,(C.out.1.then P.out.2).then aI.out⟩
   | true =>
    have ab:eX ⟨k,E,u,t,F⟩=0:=by unfold iQ at L;simp at L;exact L.1
    have av:=fi ab;have nc:=P.out.1.fr Q qs;have ac:=P.out.2.then Q
    rcases Nat.eq_zero_or_pos j with az|az
    ·subst az
     have H:=Hd (An ab (An ac (mC I.out.1 (by rw[C.out.2.1];exact f.out.2.1.symm) L (λq z=>by cases z))));clear L ab av nc ac Q
     go_upto_region 6 with fail
     refine eY (λW=>Fr [] wc W) qk qk ((Fq [] wc).drew) ?_;have HSS:=Hd (λ(W:World) (hW:Fr [] wc W)=>True.intro)
     repeat(
      first
      | go_big_quiet_skip
      | (go_big_quiet_want;first|(go_big_quiet_op;go_big_quiet_on)|(apply Exists.intro;refine⟨λW hW=>?_,?_⟩;(· obtain _:=HSS.out W hW;go_simp;first|done|with_reducible exact rfl|with_reducible exact⟨rfl,rfl⟩ );simp only[qq];go_big_quiet_on))
      )
     refine wpQuiet_nil ?_;intro W1 ae
     go_wp2_with fail
     go_roundw
     case rel=>exact⟨1,qo,by go_num,(C.out.1.then H.out.2.1).then ae,by rw[<-f.out.2.1];exact H.out.2.2,λq z=>by rw[jl,I.out.1]at z;cases z;exact⟨H.out.1,X⟩⟩
     case measure=>simp[intOf];omega
    ·obtain⟨m,rfl⟩:∃m,j=m+1:=⟨j - 1,qo⟩
     obtain⟨y,hy⟩:∃y,l[m]?=some y:=⟨_,gx (by rw[f.out.1];omega)⟩;have ap:jl l (m+1)=some y.n:=by rw[jl,hy];rfl
     obtain⟨ax,aA⟩:=C.out.2.2 y.n ap;have aF:=fi ax;obtain⟨g,R⟩:=eR (fW y.n ⟨k,E,u,t,F⟩);have aa:=λW=>lw y.n ⟨k,E,u,t,F⟩ W aF av aA X;rw[R]at aa;have aS:=fo ip (B:=wr.heap.size) (by have h:=f.out.2.2.fr0 C.out.1;unfold Chs Rd at h;rw[f.out.1]at h;exact h) (by omega:0<n);obtain⟨b',off',am,aO,aw⟩:=aS
     injection am with am
     injection am with aL aM
     subst aL aM;have N:=aw m y hy;obtain⟨⟨k2,aW,aV,aU,aZ⟩,v2,a3⟩:=y;obtain⟨aX,aq,_,_⟩:=eT aW;obtain⟨aY,ar,_,_⟩:=eT aZ;unfold CH.cs at N;unfold fg at aa;simp only[aq,ar,I.out.2.2.1,I.out.2.2.2.1]at N aa
     have HSS:=Hd (λ(W:World) (hW:Fr [] wc W)=>(show (W.cell? ⟨b,off+m*7,none⟩=some (.int .i64 k2)/\W.cell? ⟨b,off+m*7+1,none⟩=some (.string aX)/\W.cell? ⟨b,off+m*7+2,none⟩=some (.int .i64 aV)/\W.cell? ⟨b,off+m*7+3,none⟩=some (.int .i64 aU)/\W.cell? ⟨b,off+m*7+4,none⟩=some (.string aY))/\W.cell? ⟨wr.heap.size,0,none⟩=some (.int .i64 k)/\W.cell? ⟨wr.heap.size,1,none⟩=some (.string so)/\W.cell? ⟨wr.heap.size,2,none⟩=some (.int .i64 u)/\W.cell? ⟨wr.heap.size,3,none⟩=some (.int .i64 t)/\W.cell? ⟨wr.heap.size,4,none⟩=some (.string st)from by
      have Y:=nc.fr hW qs;have Z:=λo=>(ac.then hW).cell (p:=⟨b,off+m*7+o,none⟩) aO qs;exact⟨⟨(Z 0).trans (N 0 qo),(Z 1).trans (N 1 qo),(Z 2).trans (N 2 qo),(Z 3).trans (N 3 qo),(Z 4).trans (N 4 qo)⟩,Y.c 0,Y.c 1,Y.c 2,Y.c 3,Y.c 4⟩))
     have O:=Hd aa;have H:=Hd (An ab (An ac (An L (An ap R))));have a7:IntKind.i64.wrap ((m:Nat):Int)=(m:Int):=by simp only[IntKind.wrap_i64];omega
     have a6:((m:Nat):Int)<(n:Int):=qo
     clear L ab av nc ac Q ax aA aF N aa hy ap R aw
     go_upto_region 6 with fail
     refine eY (λW=>Fr [] wc W) qk qk ((Fq [] wc).drew) ?_
     repeat(
      first
      | go_big_quiet_skip
      | (go_big_quiet_want;first|(go_big_quiet_op;go_big_quiet_on)|(apply Exists.intro;refine⟨λW hW=>?_,?_⟩;(· obtain⟨⟨a9,z1,z2,z3,z4⟩,y0,y1,y2,y3,y4⟩:=HSS.out W hW;go_simp;first|done|with_reducible exact rfl|with_reducible exact⟨rfl,rfl⟩|((go_at_call 103;(with_reducible refine(O.out W).mono ?_);rintro e w' ⟨rfl,h⟩;exact⟨rfl,hW.then h⟩)));simp only[qq];go_big_quiet_on))
      )
     refine wpQuiet_nil ?_;intro W1 ae
     rcases Int.decLt g 0 with h0|h0
     ·have e4:decide ((0:Int)<=g)=true:=decide_eq_true qo
      have d:=Hd (om I.out.1 (by rw[C.out.2.1];exact f.out.2.1.symm) (.inr ⟨_,H.out.2.2.2.1,by rw[H.out.2.2.2.2];omega⟩))
      go_wp2_with fail
      go_ret
      exact⟨by rw[<-f.out.2.1,d.out];rfl,(C.out.1.then H.out.2.1).then ae⟩
     ·have e4:decide ((0:Int)<=g)=false:=decide_eq_false qo
      have d:=Hd (mC I.out.1 (by rw[C.out.2.1];exact f.out.2.1.symm) H.out.2.2.1 (λq z=>by rw[H.out.2.2.2.1]at z;cases z;rw[H.out.2.2.2.2];exact h0))
      go_wp2_with fail
      go_roundw
      case rel=>exact⟨m+1+1,qo,by go_num,(C.out.1.then H.out.2.1).then ae,by rw[<-f.out.2.1];exact d.out,λq z=>by rw[jl,I.out.1]at z;cases z;exact⟨H.out.1,X⟩⟩
      case measure=>simp[intOf];omega
  ·obtain rfl:j=n:=qo
   have d:=Hd (show true=r by rw[<-C.out.2.1,List.drop_of_length_le (by rw[f.out.1];omega)];cases jl l j <;> rfl)
   go_wp2_with fail
   go_ret
   exact⟨by rw[<-d.out];rfl,C.out.1⟩
theorem sL(l:List CH)(A:Option Addr)(c:Nat)(w:World)(aB:Ok w)(h:Chs w A l)(R:∀x∈l,x.fit)(hl:l.length<=100000):Calls prog 190 #[.slice A l.length c] w (fm w (.bool (iL none l))):=by
 obtain⟨n,ao⟩:=eR (l.length);obtain⟨r,hr⟩:=eR (iL none l);have f:=Hd (An ao (An hr h));have aK:=Hd aB;have aJ:=Hd R;rw[ao]at hl ⊢;rw[hr];clear ao hr h aB R
 go_enter func190,ntmps190
 go_wp2_with fail
 go_loopw [7] (λi W=>∃j:Nat,j<=n/\i=.int .i64 (j:Int)/\Fr [] w W/\iL (jl l j) (l.drop j)=r/\∀q,jl l j=some q->eX q=0/\q.owner.length<=140737488355328) (λi _=>n - (intOf i).toNat)
 case atStart=>exact⟨0,Nat.zero_le _,rfl,Fq _ _,f.out.2.1,λq z=>by cases z⟩
 case round =>
  obtain⟨j,hj,rfl,ay,hB,z⟩:=hrel;have C:=Hd (An ay (An hB z));clear ay hB z
  by_cases aR:j<n
  ·have a5:(j:Int)<(n:Int):=qo
   have aC:Row wr wr.heap.size 7 A n (l.flatMap CH.cs):=by have h:=f.out.2.2.fr0 C.out.1;unfold Chs Rd at h;rw[f.out.1]at h;exact h
   obtain⟨b,off,rfl,aN,ag⟩:=fo ip aC qo;obtain⟨x,J⟩:∃x,l[j]?=some x:=⟨_,gx (by rw[f.out.1];exact aR)⟩;obtain⟨X,f2,f3⟩:=aJ.out x (iu J);have ah:=ag j x J;obtain⟨⟨k,E,u,t,F⟩,v,M⟩:=x;simp only at X f2 f3;obtain⟨so,ai,aq,_⟩:=eT E;obtain⟨st,aj,ar,_⟩:=eT F;obtain⟨G,aE,au,_⟩:=eT v;unfold CH.cs at ah;simp only[ai,aj,aE]at ah;obtain⟨y0,y1,y2,y3,y4,y5,y6⟩:=AR ah;obtain⟨w1,aG,aT,n1,al⟩:=il wr #[.int .i64 k,.string so,.int .i64 u,.int .i64 t,.string st,.string G,.bool M] 95 wr.heap.size;obtain⟨V,an⟩:=eR (eX ⟨k,E,u,t,F⟩)
   have hC:Calls prog 53 #[.agg #[.int .i64 k,.string so,.int .i64 u,.int .i64 t,.string st]] w1 (ol w1 V):=by
    have h:=ld ⟨k,E,u,t,F⟩ w1 (aK.out.fr0 (C.out.1.then al)) X f2;rw[an]at h;unfold fg at h;simp only[ai,aj]at h;exact h
   have I:=Hd (An J (An an (An ai (An aj au))));have O:=Hd hC;have P:=Hd (An n1 al);have T:(G.size:Int)=(v.length:Int):=by rw[jO,au]
   clear ah ag aC J an ai aq aj ar aE au hC
   go_upto_region 4 with fail
   try rw[aG]
   clear y0 y1 y2 y3 y4 y5 y6 aN;obtain⟨x0,x1,x2,x3,x4,x5,x6⟩:=n1.m7;clear aG n1 al aT
   go_cut [30]from 12 to 30 (λs W=>s=.bool (!iQ ⟨⟨k,E,u,t,F⟩,v,M⟩)/\Fr [] w1 W)
   case first =>
    have aD:iQ ⟨⟨k,E,u,t,F⟩,v,M⟩=(decide (V=0) && (decide (v.length<=65536) && !(M && qg v))):=by unfold iQ;simp only;rw[I.out.2.1]
    have U:=Hd aD;clear aD
    rcases Int.decEq V 0 with af|af
    ·have a4:(V != 0)=true:=by simp[af]
     have aP:decide (V=0)=false:=decide_eq_false af;have d:=Hd (show (!iQ ⟨⟨k,E,u,t,F⟩,v,M⟩)=true by rw[U.out,aP];rfl);clear T
     go_wp2_with (go_at_call 53;(with_reducible refine O.out.mono ?_);rintro e w2 ⟨rfl,a⟩;have K:=Hd a;clear a)
     go_meet
     exact⟨congrArg Value.bool d.out.symm,K.out⟩
    ·subst af
     by_cases ak:v.length<=65536
     ·have ag:(decide ((65536:Int)<(G.size:Int)))=false:=decide_eq_false qo
      have aQ:(decide ((65536:Int)<(v.length:Int)))=false:=decide_eq_false qo
      cases M with
      | false =>
       have d:=Hd (show (!iQ ⟨⟨k,E,u,t,F⟩,v,false⟩)=false by rw[U.out];simp[ak]);clear T
       go_wp2_with (go_at_call 53;(with_reducible refine O.out.mono ?_);rintro e w2 ⟨rfl,a⟩;have D:=P.out.1.fr a qs;have z5:w2.cell? ⟨wr.heap.size,5,none⟩=some (.string G):=D.c 5;have z6:w2.cell? ⟨wr.heap.size,6,none⟩=some (.bool false):=D.c 6;have K:=Hd a;clear a D)
       go_meet
       exact⟨congrArg Value.bool d.out.symm,K.out⟩
      | true =>
       by_cases J:v=[]
       ·have ad:G.data.toList=[]:=by rw[I.out.2.2.2.2];exact J
        have aH:G.toList=[]:=by rw[ByteArray.toList_eq];exact ad
        have d:=Hd (show (!iQ ⟨⟨k,E,u,t,F⟩,v,true⟩)=false by rw[U.out];simp[ak,qg,J]);clear T J ad
        go_wp2_with (go_at_call 53;(with_reducible refine O.out.mono ?_);rintro e w2 ⟨rfl,a⟩;have D:=P.out.1.fr a qs;have z5:w2.cell? ⟨wr.heap.size,5,none⟩=some (.string G):=D.c 5;have z6:w2.cell? ⟨wr.heap.size,6,none⟩=some (.bool true):=D.c 6;have K:=Hd a;clear a D)
        go_meet
        exact⟨congrArg Value.bool d.out.symm,K.out⟩
       ·have ad:G.data.toList≠[]:=by rw[I.out.2.2.2.2];exact J
        have aH:G.toList≠[]:=by rw[ByteArray.toList_eq];exact ad
        have a8:(G.toList == [])=false:=by simpa using aH
        have d:=Hd (show (!iQ ⟨⟨k,E,u,t,F⟩,v,true⟩)=true by rw[U.out];simp[ak,qg,J]);clear T J ad
        go_wp2_with (go_at_call 53;(with_reducible refine O.out.mono ?_);rintro e w2 ⟨rfl,a⟩;have D:=P.out.1.fr a qs;have z5:w2.cell? ⟨wr.heap.size,5,none⟩=some (.string G):=D.c 5;have z6:w2.cell? ⟨wr.heap.size,6,none⟩=some (.bool true):=D.c 6;have K:=Hd a;clear a D)
        go_meet
        exact⟨congrArg Value.bool d.out.symm,K.out⟩
     ·have ag:(decide ((65536:Int)<(G.size:Int)))=true:=decide_eq_true qo
      have aQ:(decide ((65536:Int)<(v.length:Int)))=true:=decide_eq_true qo;have d:=Hd (show (!iQ ⟨⟨k,E,u,t,F⟩,v,M⟩)=true by rw[U.out];simp[ak]);clear T
      go_wp2_with (go_at_call 53;(with_reducible refine O.out.mono ?_);rintro e w2 ⟨rfl,a⟩;have D:=P.out.1.fr a qs;have z5:w2.cell? ⟨wr.heap.size,5,none⟩=some (.string G):=D.c 5;have K:=Hd a;clear a D)
      go_meet
      exact⟨congrArg Value.bool d.out.symm,K.out⟩
   case rest =>
   obtain⟨rfl,Q⟩:=hcut;clear x0 x1 x2 x3 x4 x5 x6 T
   cases L:iQ ⟨⟨k,E,u,t,F⟩,v,M⟩with
   | false =>
    have d:=Hd (om I.out.1 (by rw[C.out.2.1];exact f.out.2.1.symm) (.inl L));have aI:=Hd Q;clear Q L
    go_wp2_with fail
    go_ret
    exact⟨by rw[<-f.out.2.1,d.out];rfl,(C.out.1.then P.out.2).then aI.out⟩
   | true =>
    have ab:eX ⟨k,E,u,t,F⟩=0:=by unfold iQ at L;simp at L;exact L.1
    have av:=fi ab;have nc:=P.out.1.fr Q qs;have ac:=P.out.2.then Q
    rcases Nat.eq_zero_or_pos j with az|az
    ·subst az
     have H:=Hd (An ab (An ac (mC I.out.1 (by rw[C.out.2.1];exact f.out.2.1.symm) L (λq z=>by cases z))));clear L ab av nc ac Q
     go_upto_region 6 with fail
     refine eY (λW=>Fr [] wc W) qk qk ((Fq [] wc).drew) ?_;have HSS:=Hd (λ(W:World) (hW:Fr [] wc W)=>True.intro)
     repeat(
      first
      | go_big_quiet_skip
      | (go_big_quiet_want;first|(go_big_quiet_op;go_big_quiet_on)|(apply Exists.intro;refine⟨λW hW=>?_,?_⟩;(· obtain _:=HSS.out W hW;go_simp;first|done|with_reducible exact rfl|with_reducible exact⟨rfl,rfl⟩ );simp only[qq];go_big_quiet_on))
      )
     refine wpQuiet_nil ?_;intro W1 ae
     go_wp2_with fail
     go_roundw
     case rel=>exact⟨1,qo,by go_num,(C.out.1.then H.out.2.1).then ae,by rw[<-f.out.2.1];exact H.out.2.2,λq z=>by rw[jl,I.out.1]at z;cases z;exact⟨H.out.1,X⟩⟩
     case measure=>simp[intOf];omega
    ·obtain⟨m,rfl⟩:∃m,j=m+1:=⟨j - 1,qo⟩
     obtain⟨y,hy⟩:∃y,l[m]?=some y:=⟨_,gx (by rw[f.out.1];omega)⟩;have ap:jl l (m+1)=some y.n:=by rw[jl,hy];rfl
     obtain⟨ax,aA⟩:=C.out.2.2 y.n ap;have aF:=fi ax;obtain⟨g,R⟩:=eR (fW y.n ⟨k,E,u,t,F⟩);have aa:=λW=>lw y.n ⟨k,E,u,t,F⟩ W aF av aA X;rw[R]at aa;have aS:=fo ip (B:=wr.heap.size) (by have h:=f.out.2.2.fr0 C.out.1;unfold Chs Rd at h;rw[f.out.1]at h;exact h) (by omega:0<n);obtain⟨b',off',am,aO,aw⟩:=aS
     injection am with am
     injection am with aL aM
     subst aL aM;have N:=aw m y hy;obtain⟨⟨k2,aW,aV,aU,aZ⟩,v2,a3⟩:=y;obtain⟨aX,aq,_,_⟩:=eT aW;obtain⟨aY,ar,_,_⟩:=eT aZ;unfold CH.cs at N;unfold fg at aa;simp only[aq,ar,I.out.2.2.1,I.out.2.2.2.1]at N aa
     have HSS:=Hd (λ(W:World) (hW:Fr [] wc W)=>(show (W.cell? ⟨b,off+m*7,none⟩=some (.int .i64 k2)/\W.cell? ⟨b,off+m*7+1,none⟩=some (.string aX)/\W.cell? ⟨b,off+m*7+2,none⟩=some (.int .i64 aV)/\W.cell? ⟨b,off+m*7+3,none⟩=some (.int .i64 aU)/\W.cell? ⟨b,off+m*7+4,none⟩=some (.string aY))/\W.cell? ⟨wr.heap.size,0,none⟩=some (.int .i64 k)/\W.cell? ⟨wr.heap.size,1,none⟩=some (.string so)/\W.cell? ⟨wr.heap.size,2,none⟩=some (.int .i64 u)/\W.cell? ⟨wr.heap.size,3,none⟩=some (.int .i64 t)/\W.cell? ⟨wr.heap.size,4,none⟩=some (.string st)from by
      have Y:=nc.fr hW qs;have Z:=λo=>(ac.then hW).cell (p:=⟨b,off+m*7+o,none⟩) aO qs;exact⟨⟨(Z 0).trans (N 0 qo),(Z 1).trans (N 1 qo),(Z 2).trans (N 2 qo),(Z 3).trans (N 3 qo),(Z 4).trans (N 4 qo)⟩,Y.c 0,Y.c 1,Y.c 2,Y.c 3,Y.c 4⟩))
     have O:=Hd aa;have H:=Hd (An ab (An ac (An L (An ap R))));have a7:IntKind.i64.wrap ((m:Nat):Int)=(m:Int):=by simp only[IntKind.wrap_i64];omega
     have a6:((m:Nat):Int)<(n:Int):=qo
     clear L ab av nc ac Q ax aA aF N aa hy ap R aw
     go_upto_region 6 with fail
     refine eY (λW=>Fr [] wc W) qk qk ((Fq [] wc).drew) ?_
     repeat(
      first
      | go_big_quiet_skip
      | (go_big_quiet_want;first|(go_big_quiet_op;go_big_quiet_on)|(apply Exists.intro;refine⟨λW hW=>?_,?_⟩;(· obtain⟨⟨a9,z1,z2,z3,z4⟩,y0,y1,y2,y3,y4⟩:=HSS.out W hW;go_simp;first|done|with_reducible exact rfl|with_reducible exact⟨rfl,rfl⟩|((go_at_call 103;(with_reducible refine(O.out W).mono ?_);rintro e w' ⟨rfl,h⟩;exact⟨rfl,hW.then h⟩)));simp only[qq];go_big_quiet_on))
      )
     refine wpQuiet_nil ?_;intro W1 ae
     rcases Int.decLt g 0 with h0|h0
     ·have e4:decide ((0:Int)<=g)=true:=decide_eq_true qo
      have d:=Hd (om I.out.1 (by rw[C.out.2.1];exact f.out.2.1.symm) (.inr ⟨_,H.out.2.2.2.1,by rw[H.out.2.2.2.2];omega⟩))
      go_wp2_with fail
      go_ret
      exact⟨by rw[<-f.out.2.1,d.out];rfl,(C.out.1.then H.out.2.1).then ae⟩
     ·have e4:decide ((0:Int)<=g)=false:=decide_eq_false qo
      have d:=Hd (mC I.out.1 (by rw[C.out.2.1];exact f.out.2.1.symm) H.out.2.2.1 (λq z=>by rw[H.out.2.2.2.1]at z;cases z;rw[H.out.2.2.2.2];exact h0))
      go_wp2_with fail
      go_roundw
      case rel=>exact⟨m+1+1,qo,by go_num,(C.out.1.then H.out.2.1).then ae,by rw[<-f.out.2.1];exact d.out,λq z=>by rw[jl,I.out.1]at z;cases z;exact⟨H.out.1,X⟩⟩
      case measure=>simp[intOf];omega
  ·obtain rfl:j=n:=qo
   have d:=Hd (show true=r by rw[<-C.out.2.1,List.drop_of_length_le (by rw[f.out.1];omega)];cases jl l j <;> rfl)
   go_wp2_with fail
   go_ret
   exact⟨by rw[<-d.out];rfl,C.out.1⟩
structure AG where
 k:KY
 r:List CH
 w:List CH
def AG.val(a:AG)(b:ByteArray)(A:Option Addr)(c:Nat)(B:Option Addr)(d:Nat):Value:=.agg #[.int .i64 a.k.rnd,.int .i64 a.k.phase,.int .i64 a.k.idx,.string b,.slice A a.r.length c,.slice B a.w.length d]
structure AG.fit(a:AG):Prop where
 lin:a.k.lin.length<=140737488355328
 r:∀x∈a.r,x.fit
 w:∀x∈a.w,x.fit
 rl:a.r.length<=100000
 wl:a.w.length<=100000
def mN(a:AG):Bool:=decide (jE a.k=0) && (iL none a.r && iL none a.w)
theorem l4(a:AG)(x:ByteArray)(A B:Option Addr)(c d:Nat)(w:World)(t:Ok w)(M:ft a.k.lin=.string x)(D:Chs w A a.r)(E:Chs w B a.w)(i:a.fit):Calls prog 120 #[a.val x A c B d] w (fm w (.bool (mN a))):=by
 obtain⟨s,I⟩:=eR (jE a.k);obtain⟨S,G⟩:=eR (iL none a.r);obtain⟨bw,H⟩:=eR (iL none a.w);have m:=λW (hW:Fr [] w W)=>uQ a.r A c W (t.fr0 hW) (D.fr0 hW) i.r i.rl;have n:=λW (hW:Fr [] w W)=>uQ a.w B d W (t.fr0 hW) (E.fr0 hW) i.w i.wl;have h:=λW=>rD a.k W i.lin;unfold mN AG.val;rw[G]at m ⊢;rw[H]at n ⊢;rw[I]at h ⊢;unfold lK at h;rw[M]at h;obtain⟨k,r,wr⟩:=a;obtain⟨V,X,Y,kl⟩:=k;simp only at m n h ⊢;obtain⟨v,K⟩:=eR (r.length);obtain⟨O,L⟩:=eR (wr.length);rw[K]at m ⊢;rw[L]at n ⊢;obtain⟨Z,N,U,u,C⟩:=il w #[.int .i64 V,.int .i64 X,.int .i64 Y,.string x,.slice A v c,.slice B O d] 91 w.heap.size;obtain⟨x0,x1,x2,x3⟩:=u.m4;have q:=Hd (h Z);have l:=Hd (An u C);have z:=Hd N;have y:=Hd m;have R:=Hd n;clear h u C N m n t D E i G H I M K L U
 rcases Int.decEq s 0 with p|p
 ·have T:decide (s=0)=false:=decide_eq_false p
  have h2:(s == 0)=false:=by simpa using p
  rw[T]
  go_enter func120,ntmps120
  go_upto_region 1 with fail
  rw[z.out]
  go_wp2_with (go_at_call 169;(with_reducible refine q.out.mono ?_);rintro e w2 ⟨rfl,b⟩;have f:=Hd b;clear b)
  go_ret
  exact⟨rfl,l.out.2.then f.out⟩
 ·subst p
  go_enter func120,ntmps120
  go_upto_region 1 with fail
  rw[z.out]
  cases S with
  | false =>
   go_wp2_with (first
    | (go_at_call 169;(with_reducible refine q.out.mono ?_);rintro e w2 ⟨rfl,b⟩;have g:=l.out.1.fr b qs;have y4:w2.cell? ⟨w.heap.size,4,none⟩=some (.slice A v c):=g.c 4;have f:=Hd (An g (l.out.2.then b));clear b g)
    | (go_at_call 170;(with_reducible refine(y.out _ f.out.2).mono ?_);rintro e P ⟨rfl,j⟩;have o:=Hd (f.out.2.then j);clear j))
   go_ret
   exact⟨rfl,o.out⟩
  | true =>
   go_wp2_with (first
    | (go_at_call 169;(with_reducible refine q.out.mono ?_);rintro e w2 ⟨rfl,b⟩;have g:=l.out.1.fr b qs;have y4:w2.cell? ⟨w.heap.size,4,none⟩=some (.slice A v c):=g.c 4;have f:=Hd (An g (l.out.2.then b));clear b g)
    | (go_at_call 170;(with_reducible refine(y.out _ f.out.2).mono ?_);rintro e P ⟨rfl,j⟩;have F:=f.out.1.fr j qs;have z5:P.cell? ⟨w.heap.size,5,none⟩=some (.slice B O d):=F.c 5;have o:=Hd (f.out.2.then j);clear j F)
    | (go_at_call 170;(with_reducible refine(R.out _ o.out).mono ?_);rintro e w4 ⟨rfl,J⟩;have Q:=Hd (o.out.then J);clear J))
   go_ret
   exact⟨rfl,Q.out⟩
theorem tQ(a:AG)(x:ByteArray)(A B:Option Addr)(c d:Nat)(w:World)(t:Ok w)(M:ft a.k.lin=.string x)(D:Chs w A a.r)(E:Chs w B a.w)(i:a.fit):Calls prog 158 #[a.val x A c B d] w (fm w (.bool (mN a))):=by
 obtain⟨s,I⟩:=eR (jE a.k);obtain⟨S,G⟩:=eR (iL none a.r);obtain⟨bw,H⟩:=eR (iL none a.w);have m:=λW (hW:Fr [] w W)=>sL a.r A c W (t.fr0 hW) (D.fr0 hW) i.r i.rl;have n:=λW (hW:Fr [] w W)=>sL a.w B d W (t.fr0 hW) (E.fr0 hW) i.w i.wl;have h:=λW=>rD a.k W i.lin;unfold mN AG.val;rw[G]at m ⊢;rw[H]at n ⊢;rw[I]at h ⊢;unfold lK at h;rw[M]at h;obtain⟨k,r,wr⟩:=a;obtain⟨V,X,Y,kl⟩:=k;simp only at m n h ⊢;obtain⟨v,K⟩:=eR (r.length);obtain⟨O,L⟩:=eR (wr.length);rw[K]at m ⊢;rw[L]at n ⊢;obtain⟨Z,N,U,u,C⟩:=il w #[.int .i64 V,.int .i64 X,.int .i64 Y,.string x,.slice A v c,.slice B O d] 91 w.heap.size;obtain⟨x0,x1,x2,x3⟩:=u.m4;have q:=Hd (h Z);have l:=Hd (An u C);have z:=Hd N;have y:=Hd m;have R:=Hd n;clear h u C N m n t D E i G H I M K L U
 rcases Int.decEq s 0 with p|p
 ·have T:decide (s=0)=false:=decide_eq_false p
  have h2:(s == 0)=false:=by simpa using p
  rw[T]
  go_enter func158,ntmps158
  go_upto_region 1 with fail
  rw[z.out]
  go_wp2_with (go_at_call 169;(with_reducible refine q.out.mono ?_);rintro e w2 ⟨rfl,b⟩;have f:=Hd b;clear b)
  go_ret
  exact⟨rfl,l.out.2.then f.out⟩
 ·subst p
  go_enter func158,ntmps158
  go_upto_region 1 with fail
  rw[z.out]
  cases S with
  | false =>
   go_wp2_with (first
    | (go_at_call 169;(with_reducible refine q.out.mono ?_);rintro e w2 ⟨rfl,b⟩;have g:=l.out.1.fr b qs;have y4:w2.cell? ⟨w.heap.size,4,none⟩=some (.slice A v c):=g.c 4;have f:=Hd (An g (l.out.2.then b));clear b g)
    | (go_at_call 190;(with_reducible refine(y.out _ f.out.2).mono ?_);rintro e P ⟨rfl,j⟩;have o:=Hd (f.out.2.then j);clear j))
   go_ret
   exact⟨rfl,o.out⟩
  | true =>
   go_wp2_with (first
    | (go_at_call 169;(with_reducible refine q.out.mono ?_);rintro e w2 ⟨rfl,b⟩;have g:=l.out.1.fr b qs;have y4:w2.cell? ⟨w.heap.size,4,none⟩=some (.slice A v c):=g.c 4;have f:=Hd (An g (l.out.2.then b));clear b g)
    | (go_at_call 190;(with_reducible refine(y.out _ f.out.2).mono ?_);rintro e P ⟨rfl,j⟩;have F:=f.out.1.fr j qs;have z5:P.cell? ⟨w.heap.size,5,none⟩=some (.slice B O d):=F.c 5;have o:=Hd (f.out.2.then j);clear j F)
    | (go_at_call 190;(with_reducible refine(R.out _ o.out).mono ?_);rintro e w4 ⟨rfl,J⟩;have Q:=Hd (o.out.then J);clear J))
   go_ret
   exact⟨rfl,Q.out⟩
theorem pL:∀(f:Nat) (s:List UInt8) (a c:Nat),f+c=9->0<f->a<=s.length->(gi f s a c).all (λp=>p.2.2 == 0)=true->s.length<=a+8*f
 | 0,_,_,_,_,h,_,_=>by omega
 | f+1,s,a,c,m,_,k,h=>by
  rw[gi,List.all_cons,Bool.and_eq_true]at h;obtain⟨g,e⟩:=h;have d:(gd s a c).1.2.2=0:=by simpa using g
  have l:(gd s a c).2=a+jd s a/\c≠8:=by
   unfold gd at d ⊢;split at d
   ·rename_i b
    rw[if_pos b];exact⟨rfl,by rintro rfl;simp[gl]at b⟩
   ·rename_i b
    exact absurd d b
  have o:=yi s a
  by_cases j:(gd s a c).2=s.length
  ·omega
  ·rw[if_neg (by simp[d,j])]at e
   split at e
   ·simp at e
   ·rename_i i
    have n:(gd s a c).2<s.length:=by
     have:s[(gd s a c).2]?=some 46:=by simpa using i
     exact(i9.1 this).1
    have:=pL f s _ _ qo qo qo e;omega
theorem iq{s:Nm}(h:gp s=true):s.length<=72:=by
 unfold gp fT at h;split at h
 ·rename_i e;subst e;simp
 ·have:=pL 9 s 0 0 rfl qo qo h
  omega
theorem mD{n:ON}(h:eX n=0):(jC n).length<=200:=by
 have l:=iq (fi h)
 have b:iP n.kind=true:=by
  unfold eX at h
  by_cases a:iP n.kind=true
  ·exact a
  ·rw[if_neg a]at h
   simp at h
 unfold eX at h;rw[if_pos b]at h
 obtain⟨k,c,d⟩:∃k:Nat,n.kind.toNat=k/\k<21:=by
  simp only[iP,decide_eq_true_eq]at b;exact⟨n.kind.toNat,rfl,qo⟩
 unfold jC;rw[c]at h ⊢;have j:=mM d;obtain⟨f,g,i⟩:=jr h;have m:=fJ (u:=n.kind.toNat) qo
 have o:(if(us k).owner=true then iV n.owner else []).length<=81:=by
  split
  ·have:=iC (s:=n.owner) qo;omega
  ·simp
 have l2:(if(us k).number=true then gg n.number.toNat else []).length<=9:=by
  split
  ·rename_i e
   have:=f e;simp only[fO,decide_eq_true_eq]at this;exact fJ qo
  ·simp
 have l3:(if(us k).index=true then gg n.index.toNat else []).length<=9:=by
  split
  ·rename_i e
   have:=g e;simp only[fO,decide_eq_true_eq]at this;exact fJ qo
  ·simp
 have p:(if(us k).text=true then iV n.text else []).length<=41:=by
  split
  ·rename_i e
   have:=i e;simp only[jB,Bool.and_eq_true,decide_eq_true_eq]at this;have:=iC (s:=n.text) qo;omega
  ·simp
 unfold wo;simp only[gG];omega
theorem gC:∀ {l:List CH} {p:Option ON},iL p l=true->∀x∈l,iQ x=true
 | [],_,_,x,a=>by simp at a
 | c::r,p,h,x,a=>by
  rw[iL,Bool.and_eq_true,Bool.and_eq_true]at h
  rcases List.mem_cons.1 a with rfl|a
  ·exact h.1
  ·exact gC h.2.2 x a
theorem iR{c:CH}(h:iQ c=true):eX c.n=0/\c.v.length<=65536:=by
 unfold iQ at h;simp only[Bool.and_eq_true,decide_eq_true_eq]at h;exact⟨h.1,h.2.1⟩
def l5(c:CH):Nm:=iV (jC c.n)++(mX c.a::iV c.v)
def jA(l:List CH):Nm:=gg l.length++l.flatMap l5
def fL(a:AG):Nm:=(lM a.k++jA a.r)++jA a.w
theorem Bx{c:CH}(h:iQ c=true):(l5 c).length<=66000:=by
 obtain⟨a,b⟩:=iR h;have d:=mD a;have e:=iC (s:=jC c.n) qo;have f:=iC (s:=c.v) qo;unfold l5;rw[gG,List.length_cons];omega
theorem oo{l:List CH}(h:iL none l=true)(i:l.length<=100000):(jA l).length<=66000*l.length+9:=by
 have b:∀(l:List CH),(∀x∈l,iQ x=true)->(l.flatMap l5).length<=66000*l.length:=by
  intro l
  induction l with
  | nil=>intro _;simp
  | cons c r e =>
   intro a;have:=e (λx d=>a x (by simp[d]));have:=Bx (a c qs);rw[List.flatMap_cons,gG,List.length_cons];omega
 have f:=b l (gC h);have g:=fJ (u:=l.length) qo;unfold jA;rw[gG];omega
theorem El{α β:Type}{f:α->List β}{xs:List α}{j:Nat}{x:α}(b:xs[j]?=some x):(xs.drop j).flatMap f=f x++(xs.drop (j+1)).flatMap f:=by
 obtain⟨a,rfl⟩:=i9.1 b;rw[List.drop_eq_getElem_cons a,List.flatMap_cons]
theorem tR(a:AG)(f:ByteArray)(A B:Option Addr)(c d:Nat)(w:World)(o:Ok w)(p:ft a.k.lin=.string f)(h:Chs w A a.r)(i:Chs w B a.w)(j:a.fit)(q:mN a=false):Calls prog 60 #[a.val f A c B d] w (fm w (.tuple #[.string ⟨#[]⟩,.int .i64 3])):=by
 have b:=λW (hW:Fr [] w W)=>l4 a f A B c d W (o.fr0 hW) p (h.fr0 hW) (i.fr0 hW) j;rw[q]at b;unfold AG.val at b ⊢;obtain⟨⟨C,D,E,I⟩,r,wr⟩:=a;simp only at b ⊢;obtain⟨F,m⟩:=eR (r.length);obtain⟨G,n⟩:=eR (wr.length);rw[m,n]at b ⊢;obtain⟨H,s,z,t,g⟩:=il w #[C,D,E,f,.slice A F c,.slice B G d] 91 w.heap.size;obtain⟨J,K,L,M,N,O⟩:=t.m6;have v:=Hd (b H g);have x:=Hd g;have y:=Hd s;clear b t g s o h i j q p m n z
 go_enter func60,ntmps60
 go_upto_region 1 with fail
 rw[y.out]
 go_wp2_with (go_at_call 120;(with_reducible refine v.out.mono ?_);rintro e w2 ⟨rfl,l⟩;have u:=Hd l;clear l)
 go_ret2
 exact⟨rfl,x.out.then u.out⟩
def F5(a:Nm)(r w:List CH):Nat->Nm
 | 0=>a
 | 1=>a++jA r
 | _=>(a++jA r)++jA w
theorem pM(a:AG)(sl:ByteArray)(P B:Option Addr)(c d:Nat)(w:World)(aY:Ok w)(a4:ft a.k.lin=.string sl)(hA:Chs w P a.r)(hB:Chs w B a.w)(O:a.fit)(hw:mN a=true):Calls prog 60 #[a.val sl P c B d] w (fm w (.tuple #[ft (fL a),.int .i64 0])):=by
 have ab:=λW (hW:Fr [] w W)=>l4 a sl P B c d W (aY.fr0 hW) a4 (hA.fr0 hW) (hB.fr0 hW) O;rw[hw]at ab;unfold mN at hw;simp only[Bool.and_eq_true,decide_eq_true_eq]at hw;obtain⟨f,aZ,a3⟩:=hw;have bk:=oo aZ O.rl;have bm:=oo a3 O.wl;have bo:=O.rl;have bq:=O.wl
 have aF:(0<=a.k.rnd/\a.k.rnd<=9223372036854775807)/\(0<=a.k.phase/\a.k.phase<=9223372036854775807)/\(0<=a.k.idx/\a.k.idx<=9223372036854775807)/\a.k.lin.length<=72:=by
  unfold jE at f;split at f
  ·simp at f
  split at f
  ·simp at f
  split at f
  ·simp at f
  refine⟨qo,qo,qo,?_⟩;split at f
  ·split at f
   ·simp at f
   ·rename_i C;simp at C;rw[C];simp
  ·split at f
   ·simp at f
   ·rename_i C
    simp at C;exact iq C.2
 have aa:=λ(W2 W3:World) (b:Nat) (H:WrS W2 b [] W3)=>wv a.k W2 W3 b [] H aF.1 aF.2.1 aF.2.2.1 qo qs
 have bx:(lM a.k).length<=200:=by
  unfold lM;have h1:=fJ (u:=a.k.rnd.toNat) qo;have h2:=fJ (u:=a.k.phase.toNat) qo;have h3:=fJ (u:=a.k.idx.toNat) qo;have h4:=iC (s:=a.k.lin) qo;simp only[gG];omega
 obtain⟨q,l⟩:=eR (fL a);rw[l];unfold fL at l;unfold lK at aa;rw[a4]at aa;obtain⟨A,aH⟩:=eR (([]:Nm)++lM a.k);rw[aH]at aa;rw[List.nil_append]at aH;rw[aH]at l bx;unfold AG.val at ab ⊢;obtain⟨⟨k1,k2,k3,kl⟩,r,l2⟩:=a;have bd:=Hd (An O.r O.w);have ba:=Hd (An (gC aZ) (gC a3));simp only at ab aa l hA hB bk bm bo bq ⊢;obtain⟨F,aI⟩:=eR (r.length);obtain⟨G,aJ⟩:=eR (l2.length);have HA:=Hd hA;have HB:=Hd hB;unfold Chs Rd at HA HB;rw[aI,aJ]at ab ⊢;rw[aI]at bk bo;rw[aJ]at bm bq;have bn:F5 A r l2 2=q:=l;have bE:(A++jA r).length<=7000000000:=by rw[gG];omega
 have bz:((A++jA r)++jA l2).length<=14000000000:=by rw[gG];omega
 have aC:=Hd aI;have aD:=Hd aJ;obtain⟨w1,bp,bC,n1,f1⟩:=il w #[.int .i64 k1,.int .i64 k2,.int .i64 k3,.string sl,.slice P F c,.slice B G d] 91 w.heap.size;obtain⟨x0,x1,x2,x3,x4,x5⟩:=n1.m6;have bh:=Hd (ab w1 f1);have bf:=Hd aa;have HQ:=Hd bn;have aL:=Hd n1;have bc:=Hd f1;have bg:=Hd bp;have aE:=Hd (λ(W:World) (hW:Fr [] w W)=>aY.fr0 hW);clear ab aa l bn n1 f1 bp aY hA hB O f aZ a3 a4 aI aJ bC aH aF
 go_enter func60,ntmps60
 go_upto_region 1 with fail
 rw[bg.out]
 go_upto_region 4 with(first
  | (go_at_call 120;(with_reducible refine bh.out.mono ?_);rintro e w2 ⟨rfl,bj⟩;have aB:=Hd bj;clear bj)
  | (go_at_call 54;(with_reducible refine(jM _).mono ?_);rintro e w3 ⟨rfl,br,aT⟩))
 have ak:=aL.out.lt;have bB:=aB.out.size;have J:=Hd (bc.out.then (aB.out.then aT));have aP:=(aL.out.fr aB.out qs).fr aT qs;have a6:=WrS.new br;have bu:w.heap.size<w2.heap.size:=qo
 generalize w2.heap.size=b at a6 bu ⊢;have aG:w.heap.size<=b:=qo
 obtain⟨y0,y1,y2,y3⟩:=aP.m4;have bb:=Hd aP;have bi:=Hd a6;clear x0 x1 x2 x3 x4 x5 br aT aP a6 ak bB bh aL bc aB bg
 go_upto_region 5 with((go_at_call 121;(with_reducible refine(bf.out _ _ _ bi.out).mono ?_);rintro e w4 ⟨rfl,a7,bw⟩))
 have aQ:=bb.out.fr a7.fr (by simp;omega);have z4:=aQ.k4;have z5:=aQ.k5;have be:=Hd a7;clear y0 y1 y2 y3 aQ a7 bw bb bi bf
 go_wp2_with fail
 clear z4 z5
 go_loopw [24] (λi W=>∃k:Nat,k<=2/\i=.int .i64 (k:Int)/\WrS w3 b (F5 A r l2 k) W) (λi _=>2 - (intOf i).toNat)
 case atStart=>exact⟨0,qo,rfl,be.out⟩
 case round =>
  obtain⟨k,hk,rfl,H⟩:=hrel;have K:=Hd H;clear H be
  match k,hk with
  | 0,_ =>
   have aV:(Instr.index 231 (.agg #[.slice P F c,.slice B G d]) (.int .i64 0)).run prog wr=.ok (.slice P F c) wr:=rE wr _ _ _ 0 qo rfl
   go_upto_region 8 with fail
   clear aV;unfold F5 at K
   go_upto_region 9 with(go_at_call 57;(with_reducible refine(ki K.out F qo qo).mono ?_);rintro e w5 ⟨rfl,ax,_⟩;have aO:=Hd ax;clear ax)
   have ar:((A)++gg F)++(r.drop 0).flatMap l5=A++jA r:=by rw[<-aC.out,List.append_assoc];rfl
   have aN:=Hd ar;clear K ar
   go_wp2_with fail
   go_loopw [33] (λi W=>∃j:Nat,j<=F/\i=.int .i64 (j:Int)/\∃bs,bs++(r.drop j).flatMap l5=A++jA r/\WrS w3 b bs W) (λi _=>F - (intOf i).toNat)
   case atStart=>exact⟨0,Nat.zero_le _,rfl,_,aN.out,aO.out⟩
   case round =>
    obtain⟨j,hj,rfl,bs,af,H⟩:=hrel;have m:=Hd (An af H);clear af H
    by_cases ak:j<F
    ·have bA:(j:Int)<(F:Int):=qo
     obtain⟨g,off,rfl,ae,ag⟩:=fo ip HA.out (by rw[aC.out];omega);obtain⟨x,z⟩:∃x,(r)[j]?=some x:=⟨_,gx (by rw[aC.out];exact ak)⟩;have am:=ba.out.1 x (iu z);obtain⟨f,a5⟩:=iR am;have ah:=mD f;have aU:=iq (fi f);have U:=bd.out.1 x (iu z);have t:∀o,wr.cell? ⟨g,o,none⟩=w.cell? ⟨g,o,none⟩:=λo=>(m.out.2.fr.cell (p:=⟨g,o,none⟩) (Nat.lt_of_lt_of_le ae J.out.size) (by simp;omega)).trans (J.out.cell (p:=⟨g,o,none⟩) ae qs);have M:=m.out.1;rw[El z]at M;have aX:=congrArg List.length M;simp only[gG]at aX;have V:bs++((iV (jC x.n)++(mX x.a::iV x.v))++(r.drop (j+1)).flatMap l5)=A++jA r:=M;clear M;have h:=ag j x z;have a8:Calls prog 55 #[fg x.n] wr (lI wr (jC x.n) 0):=lJ x.n wr (aE.out wr (J.out.trans m.out.2.fr (by intro q l;rw[gI]at l;subst l;exact .inr aG))) qo U.2.1 f;have N:∀W,Fr [] wr W->Calls prog 55 #[fg x.n] W (lI W (jC x.n) 0):=λW hW=>lJ x.n W ((aE.out wr (J.out.trans m.out.2.fr (by intro q l;rw[gI]at l;subst l;exact .inr aG))).fr0 hW) qo U.2.1 f;obtain⟨⟨k,ow,nu,X,tx⟩,v,L⟩:=x;simp only at a5 ah;obtain⟨so,ao,_,_⟩:=eT ow;obtain⟨st,ap,_,_⟩:=eT tx;obtain⟨sv,aq,_,_⟩:=eT v;obtain⟨E,hE⟩:=eR (jC ⟨k,ow,nu,X,tx⟩);obtain⟨sE,an,_,_⟩:=eT E;unfold CH.cs at h;unfold fg lI at N;simp only[ao,ap,aq,hE,an]at h N V ah;have y0:wr.cell? ⟨g,off+j*7,none⟩=some (.int .i64 k):=(t _).trans (h 0 qo);have y1:wr.cell? ⟨g,off+j*7+1,none⟩=some (.string so):=(t _).trans (h 1 qo);have y2:wr.cell? ⟨g,off+j*7+2,none⟩=some (.int .i64 nu):=(t _).trans (h 2 qo);have y3:wr.cell? ⟨g,off+j*7+3,none⟩=some (.int .i64 X):=(t _).trans (h 3 qo);have y4:wr.cell? ⟨g,off+j*7+4,none⟩=some (.string st):=(t _).trans (h 4 qo);have y5:wr.cell? ⟨g,off+j*7+5,none⟩=some (.string sv):=(t _).trans (h 5 qo);have y6:wr.cell? ⟨g,off+j*7+6,none⟩=some (.bool L):=(t _).trans (h 6 qo);have aR:b<wr.heap.size:=m.out.2.blt;obtain⟨w6,au,a9,D,S⟩:=il wr #[.int .i64 k,.string so,.int .i64 nu,.int .i64 X,.string st,.string sv,.bool L] 95 wr.heap.size;have al:=D;obtain⟨Z,hZ⟩:=eR (wr.heap.size);have aA:Z≠b:=qo
     have av:=m.out.2.more S aR;have HE:=Hd (N w6 S);have bt:=iC (s:=E) qo;have R:=Hd (An V (An an aq));clear h ag z am f aU U t N a8 hE ao ap V
     go_upto_region 12 with fail
     try rw[au]
     clear y0 y1 y2 y3 y4 y5 y6 au S a9;rw[hZ]at D al
     try rw[hZ]
     obtain⟨x0,x1,x2,x3,x4⟩:=D.m5;have I:=Hd (An D av);clear D al av
     go_upto_region 15 with(go_at_call 55;(with_reducible refine HE.out.mono ?_);rintro e w7 ⟨rfl,T⟩;have H7:=Hd (An (I.out.1.fr T qs) (I.out.2.more T I.out.2.blt));clear T)
     clear x0 x1 x2 x3 x4 HE I;have y:=oW H7.out.2 E qo qo;rw[R.out.2.1]at y;have HT:=Hd y;clear y
     go_upto_region 16 with(go_at_call 56;(with_reducible refine HT.out.mono ?_);rintro e w8 ⟨rfl,ay,ai⟩;have Y:=ai _ _ _ qd aA H7.out.1;have z6:w8.cell? ⟨Z,6,none⟩=some (.bool L):=Y.c 6;have Q:=Hd (An Y ay);clear Y ay ai)
     have ad:=Hd (yK Q.out.2 L (by simp only[gG];omega));clear HT H7
     go_upto_region 17 with(go_at_call 122;(with_reducible refine ad.out.mono ?_);rintro e w9 ⟨rfl,az,aj⟩;have n9:=aj _ _ _ qd aA Q.out.1;have z5:w9.cell? ⟨Z,5,none⟩=some (.string sv):=n9.c 5;have H9:=Hd (An n9 az);clear n9 az aj)
     have y:=oW H9.out.2 v qo (by simp only[gG,List.length_cons,List.length_nil];omega);rw[R.out.2.2]at y;have aM:=Hd y;clear y ad Q z6
     go_wp2_with (go_at_call 56;(with_reducible refine aM.out.mono ?_);rintro e bD ⟨rfl,aw,aW⟩;have aK:=Hd aw;clear aw aW)
     go_roundw
     case rel=>exact⟨j+1,qo,by go_num,_,by rw[<-R.out.1];simp,aK.out⟩
     case measure=>simp[intOf];omega
    ·obtain rfl:j=F:=qo
     have aS:bs=A++jA r:=by have C:=m.out.1;rw[List.drop_of_length_le (by rw[aC.out];omega)]at C;simpa using C
     have ac:=Hd m.out.2;rw[aS]at ac
     go_wp2_with fail
     go_roundw
     case rel=>exact⟨1,qo,rfl,ac.out⟩
     case measure=>simp[intOf]
  | 1,_ =>
   have aV:(Instr.index 231 (.agg #[.slice P F c,.slice B G d]) (.int .i64 1)).run prog wr=.ok (.slice B G d) wr:=rE wr _ _ _ 1 qo rfl
   go_upto_region 8 with fail
   clear aV;unfold F5 at K
   go_upto_region 9 with(go_at_call 57;(with_reducible refine(ki K.out G qo qo).mono ?_);rintro e w5 ⟨rfl,ax,_⟩;have aO:=Hd ax;clear ax)
   have ar:((A++jA r)++gg G)++(l2.drop 0).flatMap l5=(A++jA r)++jA l2:=by rw[<-aD.out,List.append_assoc];rfl
   have aN:=Hd ar;clear K ar
   go_wp2_with fail
   go_loopw [33] (λi W=>∃j:Nat,j<=G/\i=.int .i64 (j:Int)/\∃bs,bs++(l2.drop j).flatMap l5=(A++jA r)++jA l2/\WrS w3 b bs W) (λi _=>G - (intOf i).toNat)
   case atStart=>exact⟨0,Nat.zero_le _,rfl,_,aN.out,aO.out⟩
   case round =>
    obtain⟨j,hj,rfl,bs,af,H⟩:=hrel;have m:=Hd (An af H);clear af H
    by_cases ak:j<G
    ·have bA:(j:Int)<(G:Int):=qo
     obtain⟨g,off,rfl,ae,ag⟩:=fo ip HB.out (by rw[aD.out];omega);obtain⟨x,z⟩:∃x,(l2)[j]?=some x:=⟨_,gx (by rw[aD.out];exact ak)⟩;have am:=ba.out.2 x (iu z);obtain⟨f,a5⟩:=iR am;have ah:=mD f;have aU:=iq (fi f);have U:=bd.out.2 x (iu z);have t:∀o,wr.cell? ⟨g,o,none⟩=w.cell? ⟨g,o,none⟩:=λo=>(m.out.2.fr.cell (p:=⟨g,o,none⟩) (Nat.lt_of_lt_of_le ae J.out.size) (by simp;omega)).trans (J.out.cell (p:=⟨g,o,none⟩) ae qs);have M:=m.out.1;rw[El z]at M;have aX:=congrArg List.length M;simp only[gG]at aX;have V:bs++((iV (jC x.n)++(mX x.a::iV x.v))++(l2.drop (j+1)).flatMap l5)=(A++jA r)++jA l2:=M;clear M;have h:=ag j x z;have a8:Calls prog 55 #[fg x.n] wr (lI wr (jC x.n) 0):=lJ x.n wr (aE.out wr (J.out.trans m.out.2.fr (by intro q l;rw[gI]at l;subst l;exact .inr aG))) qo U.2.1 f;have N:∀W,Fr [] wr W->Calls prog 55 #[fg x.n] W (lI W (jC x.n) 0):=λW hW=>lJ x.n W ((aE.out wr (J.out.trans m.out.2.fr (by intro q l;rw[gI]at l;subst l;exact .inr aG))).fr0 hW) qo U.2.1 f;obtain⟨⟨k,ow,nu,X,tx⟩,v,L⟩:=x;simp only at a5 ah;obtain⟨so,ao,_,_⟩:=eT ow;obtain⟨st,ap,_,_⟩:=eT tx;obtain⟨sv,aq,_,_⟩:=eT v;obtain⟨E,hE⟩:=eR (jC ⟨k,ow,nu,X,tx⟩);obtain⟨sE,an,_,_⟩:=eT E;unfold CH.cs at h;unfold fg lI at N;simp only[ao,ap,aq,hE,an]at h N V ah;have y0:wr.cell? ⟨g,off+j*7,none⟩=some (.int .i64 k):=(t _).trans (h 0 qo);have y1:wr.cell? ⟨g,off+j*7+1,none⟩=some (.string so):=(t _).trans (h 1 qo);have y2:wr.cell? ⟨g,off+j*7+2,none⟩=some (.int .i64 nu):=(t _).trans (h 2 qo);have y3:wr.cell? ⟨g,off+j*7+3,none⟩=some (.int .i64 X):=(t _).trans (h 3 qo);have y4:wr.cell? ⟨g,off+j*7+4,none⟩=some (.string st):=(t _).trans (h 4 qo);have y5:wr.cell? ⟨g,off+j*7+5,none⟩=some (.string sv):=(t _).trans (h 5 qo);have y6:wr.cell? ⟨g,off+j*7+6,none⟩=some (.bool L):=(t _).trans (h 6 qo);have aR:b<wr.heap.size:=m.out.2.blt;obtain⟨w6,au,a9,D,S⟩:=il wr #[.int .i64 k,.string so,.int .i64 nu,.int .i64 X,.string st,.string sv,.bool L] 95 wr.heap.size;have al:=D;obtain⟨Z,hZ⟩:=eR (wr.heap.size);have aA:Z≠b:=qo
     have av:=m.out.2.more S aR;have HE:=Hd (N w6 S);have bt:=iC (s:=E) qo;have R:=Hd (An V (An an aq));clear h ag z am f aU U t N a8 hE ao ap V
     go_upto_region 12 with fail
     try rw[au]
     clear y0 y1 y2 y3 y4 y5 y6 au S a9;rw[hZ]at D al
     try rw[hZ]
     obtain⟨x0,x1,x2,x3,x4⟩:=D.m5;have I:=Hd (An D av);clear D al av
     go_upto_region 15 with(go_at_call 55;(with_reducible refine HE.out.mono ?_);rintro e w7 ⟨rfl,T⟩;have H7:=Hd (An (I.out.1.fr T qs) (I.out.2.more T I.out.2.blt));clear T)
     clear x0 x1 x2 x3 x4 HE I;have y:=oW H7.out.2 E qo qo;rw[R.out.2.1]at y;have HT:=Hd y;clear y
     go_upto_region 16 with(go_at_call 56;(with_reducible refine HT.out.mono ?_);rintro e w8 ⟨rfl,ay,ai⟩;have Y:=ai _ _ _ qd aA H7.out.1;have z6:w8.cell? ⟨Z,6,none⟩=some (.bool L):=Y.c 6;have Q:=Hd (An Y ay);clear Y ay ai)
     have ad:=Hd (yK Q.out.2 L (by simp only[gG];omega));clear HT H7
     go_upto_region 17 with(go_at_call 122;(with_reducible refine ad.out.mono ?_);rintro e w9 ⟨rfl,az,aj⟩;have n9:=aj _ _ _ qd aA Q.out.1;have z5:w9.cell? ⟨Z,5,none⟩=some (.string sv):=n9.c 5;have H9:=Hd (An n9 az);clear n9 az aj)
     have y:=oW H9.out.2 v qo (by simp only[gG,List.length_cons,List.length_nil];omega);rw[R.out.2.2]at y;have aM:=Hd y;clear y ad Q z6
     go_wp2_with (go_at_call 56;(with_reducible refine aM.out.mono ?_);rintro e bD ⟨rfl,aw,aW⟩;have aK:=Hd aw;clear aw aW)
     go_roundw
     case rel=>exact⟨j+1,qo,by go_num,_,by rw[<-R.out.1];simp,aK.out⟩
     case measure=>simp[intOf];omega
    ·obtain rfl:j=G:=qo
     have aS:bs=(A++jA r)++jA l2:=by have C:=m.out.1;rw[List.drop_of_length_le (by rw[aD.out];omega)]at C;simpa using C
     have ac:=Hd m.out.2;rw[aS]at ac
     go_wp2_with fail
     go_roundw
     case rel=>exact⟨2,qo,rfl,ac.out⟩
     case measure=>simp[intOf]
  | 2,_ =>
   rw[HQ.out]at K;have bF:q.length<=14000000000:=by rw[<-HQ.out];exact bz
   go_wp2_with ((go_at_call 123;(with_reducible refine(vE _ _ _ _ K.out qo).mono ?_);rintro e w5 ⟨rfl,bv⟩))
   go_ret2
   refine⟨rfl,(J.out.trans K.out.fr (by intro x z;rw[gI]at z;subst z;exact .inr qo)).then bv⟩
end Go.Proofs.YtlpmiimgacfmkaaGreatDoor
