/- Part of the proof. -/
import Derived.Test.YtlpmiimgacfmkaaGreatDoorCTr1
set_option linter.all false
set_option maxHeartbeats 4000000
set_option maxRecDepth 100000
namespace Go.Proofs.YtlpmiimgacfmkaaGreatDoor
open Go.Proofs.Tryz List
open Go.RowKit
def fK{α:Type}{f:α->List Value}{m:Nat}(a:∀x,(f x).length=m){w:World}{B n:Nat}{A:Option Addr}{xs:List α}(h:Row w B m A n (xs.flatMap f))(l:0<n):
 ∃b off,A=some ⟨b,off,none⟩/\b<B/\∀j x,xs[j]?=some x->∀o,o<m->w.cell? ⟨b,off+j*m+o,none⟩=(f x)[o]?:=by
 have⟨b,off,g,i,k⟩:=h.2 l;refine⟨b,off,g,i,λj x q o e=>?_⟩
 have d:(xs.flatMap f)[j*m+o]?=(f x)[o]?:=by
  have:∀(xs:List α) (j:Nat),xs[j]?=some x->(xs.flatMap f)[j*m+o]?=(f x)[o]?:=by
   intro xs
   induction xs with
   | nil=>intro j h;simp at h
   | cons y r s =>
    intro j h
    cases j with
    | zero=>simp at h;subst h;rw[flatMap_cons,Nat.zero_mul,Nat.zero_add,List.getElem?_append_left (by rw[a];exact e)]
    | succ j=>rw[flatMap_cons,List.getElem?_append_right (by rw[a,Nat.add_mul];omega),a,show (j+1)*m+o - m=j*m+o by rw[Nat.add_mul];omega];exact s j (by simpa using h)
  exact this xs j q
 obtain⟨u,p⟩:∃u,(f x)[o]?=some u:=⟨_,gg (by rw[a];exact e)⟩;rw[p]at d ⊢;have:=k _ _ d
 rwa [<-Nat.add_assoc]at this
def l5{α:Type}{f:α->List Value}{m:Nat}(a:∀x,(f x).length=m):∀xs:List α,(xs.flatMap f).length=xs.length*m
 | []=>by simp
 | y::r=>by rw[flatMap_cons,gu,a,l5 a r,length_cons,Nat.add_mul];omega
def Rd(w:World)(m:Nat)(A:Option Addr)(n:Nat)(xs:List Value):Prop:=Row w w.heap.size m A n xs
section
variable {w w':World} {m n c:Nat} {A:Option Addr} {xs:List Value} {S:List Nat}
def Rd.fr(h:Rd w m A n xs)(d:Fr S w w')(f:∀k∈eX A,k ∉ S):Rd w' m A n xs:=⟨h.1,λi=>by
 have⟨b,off,e,a,g⟩:=h.2 i;subst e;exact⟨b,off,rfl,Nat.lt_of_lt_of_le a d.size,λj u l=>(d.cell (p:=⟨b,off+j,none⟩) a (f b (by simp[eX]))).trans (g j u l)⟩⟩
def Rd.fr0(h:Rd w m A n xs)(a:Fr [] w w'):Rd w' m A n xs:=h.fr a qs
def Own.rd{e:TypeId}(h:Own w e m A n c xs):Rd w m A n xs:=h.row
end
structure CH where
 n:ON
 v:Nm
 a:Bool
def CH.cs(c:CH):List Value:=[.int .i64 c.n.kind,fg c.n.owner,.int .i64 c.n.number,.int .i64 c.n.index,fg c.n.text,fg c.v,.bool c.a]
def i9(c:CH):c.cs.length=7:=rfl
def CH.fit(c:CH):Prop:=c.n.owner.length<=140737488355328/\c.n.text.length<=140737488355328/\c.v.length<=140737488355328
def Chs(w:World)(A:Option Addr)(l:List CH):Prop:=Rd w 7 A l.length (l.flatMap CH.cs)
def Chs.fr0{w w':World}{A:Option Addr}{l:List CH}(h:Chs w A l)(a:Fr [] w w'):Chs w' A l:=Rd.fr0 h a
def j6(c:CH):Bool:=decide (eY c.n=0) && (decide (c.v.length<=65536) && !(c.a && s9 c.v))
def tQ:Option ON->ON->Bool
 | none,_=>true
 | some q,n=>decide (gD q n<0)
def jp:Option ON->List CH->Bool
 | _,[]=>true
 | p,c::r=>j6 c && (tQ p c.n && jp (some c.n) r)
def fI{n:ON}(h:eY n=0):gF n.owner=true:=by
 unfold eY at h;split at h
 ·have e:=h
  unfold kU at h;split at h
  ·simp at h
  ·rename_i a
   split at h
   ·simp at h
   split at h
   ·simp at h
   split at h
   ·simp at h
   split at h
   ·simp at h
   ·rename_i b
    unfold Gu at a;unfold tV at b
    cases d:(us n.kind.toNat).owner with
    | true=>rw[d]at b;simpa using b
    | false =>
     rw[d]at a;have:n.owner=[]:=by simpa [s9]using a
     rw[this];decide
 ·simp at h
def lf(l:List CH):Nat->Option ON
 | 0=>none
 | j+1=>(l[j]?).map CH.n
def tR{l:List CH}{j:Nat}{c:CH}(b:l[j]?=some c)(a:jp (lf l j) (l.drop j)=jp none l)(d:j6 c=true)(e:∀q,lf l j=some q->gD q c.n<0):jp (lf l (j+1)) (l.drop (j+1))=jp none l:=by
 obtain⟨f,rfl⟩:=gV.1 b;rw[drop_eq_getElem_cons f,jp,d,Bool.true_and]at a;rw[<-a]
 show jp ((l[j]?).map CH.n) _=_
 rw[b]
 cases g:lf l j with
 | none=>simp[tQ]
 | some q=>simp[tQ,e q g]
def wx{l:List CH}{j:Nat}{c:CH}(e:l[j]?=some c)(b:jp (lf l j) (l.drop j)=jp none l)(h:j6 c=false \/ ∃q,lf l j=some q/\0<=gD q c.n):jp none l=false:=by
 obtain⟨d,rfl⟩:=gV.1 e;rw[<-b,drop_eq_getElem_cons d,jp]
 rcases h with h|⟨q,a,f⟩
 ·rw[h];rfl
 ·rw[a]
  have:¬gD q l[j].n<0:=qo
  simp[tQ,this]
def tS{g:Nat}(hG:g=170 \/ g=190)(l:List CH)(A:Option Addr)(c:Nat)(w:World)(aB:Ok w)(h:Chs w A l)(R:∀x∈l,x.fit)(hl:l.length<=2000000):Calls prog g #[.slice A l.length c] w (fi w (.bool (jp none l))):=by
 have⟨n,ao⟩:=eR (l.length);have⟨r,hr⟩:=eR (jp none l);have f:=Hd (An ao (An hr h));have aK:=Hd aB;have aJ:=Hd R;rw[ao]at hl ⊢;rw[hr];clear ao hr h aB R
 rcases hG with rfl|rfl
 all_goals
  first
   | go_enter func170,ntmps170
   | go_enter func190,ntmps190
  go_wp2
  go_loopw [7] (λi W=>∃j:Nat,j<=n/\i=.int .i64 (j:Int)/\Fr [] w W/\jp (lf l j) (l.drop j)=r/\∀q,lf l j=some q->eY q=0/\q.owner.length<=140737488355328) (λi _=>n - (intOf i).toNat)
  case atStart=>exact⟨0,Nat.zero_le _,rfl,Fq _ _,f.2.1,λq z=>by cases z⟩
  case round =>
   obtain⟨j,hj,rfl,ay,hB,z⟩:=hrel;have C:=Hd (An ay (An hB z));clear ay hB z
   by_cases aR:j<n
   ·have a5:(j:Int)<(n:Int):=qo
    have aC:Row wr wr.heap.size 7 A n (l.flatMap CH.cs):=by have h:=f.2.2.fr0 C.1;unfold Chs Rd at h;rw[f.1]at h;exact h
    obtain⟨b,off,rfl,aN,ag⟩:=fK i9 aC qo;obtain⟨x,J⟩:∃x,l[j]?=some x:=⟨_,gg (by rw[f.1];exact aR)⟩;have⟨X,f2,f3⟩:=aJ.out x (gH J);have ah:=ag j x J;obtain⟨⟨k,E,u,t,F⟩,v,M⟩:=x;simp only at X f2 f3;have⟨so,ai,aq,_⟩:=eS E;have⟨st,aj,ar,_⟩:=eS F;have⟨G,aE,au,_⟩:=eS v;unfold CH.cs at ah;simp only[ai,aj,aE]at ah;have⟨y0,y1,y2,y3,y4,y5,y6⟩:=FT ah;have⟨w1,aG,aT,n1,al⟩:=ir wr #[.int .i64 k,.string so,.int .i64 u,.int .i64 t,.string st,.string G,.bool M] 95 wr.heap.size;have⟨V,an⟩:=eR (eY ⟨k,E,u,t,F⟩)
    have hC:Calls prog 53 #[.agg #[.int .i64 k,.string so,.int .i64 u,.int .i64 t,.string st]] w1 (qU w1 V):=by
     have h:=ld ⟨k,E,u,t,F⟩ w1 (aK.fr0 (C.1.then al)) X f2;rw[an]at h;unfold fu at h;simp only[ai,aj]at h;exact h
    have I:=Hd (An J (An an (An ai (An aj au))));have O:=Hd hC;have P:=Hd (An n1 al);have T:(G.size:Int)=(v.length:Int):=by rw[iS,au]
    clear ah ag aC J an ai aq aj ar aE au hC
    go_upto_region 4 with fail
    try rw[aG]
    clear y0 y1 y2 y3 y4 y5 y6 aN;have⟨x0,x1,x2,x3,x4,x5,x6⟩:=n1.m7;clear aG n1 al aT
    go_cut [30]from 12 to 30 (λs W=>s=.bool (!j6 ⟨⟨k,E,u,t,F⟩,v,M⟩)/\Fr [] w1 W)
    case first =>
     have aD:j6 ⟨⟨k,E,u,t,F⟩,v,M⟩=(decide (V=0) && (decide (v.length<=65536) && !(M && s9 v))):=by unfold j6;simp only;rw[I.2.1]
     have U:=Hd aD;clear aD
     rcases Int.decEq V 0 with af|af
     ·have a4:(V != 0)=true:=by simp[af]
      have aP:decide (V=0)=false:=decide_eq_false af;have d:=Hd (show (!j6 ⟨⟨k,E,u,t,F⟩,v,M⟩)=true by rw[U.out,aP];rfl);clear T
      go_wp2_with (go_at_call 53;(with_reducible refine O.out.mono ?_);rintro e w2 ⟨rfl,a⟩;have K:=Hd a;clear a)
      go_meet
      exact⟨congrArg Value.bool d.symm,K.out⟩
     ·subst af
      by_cases ak:v.length<=65536
      ·have ag:(decide ((65536:Int)<(G.size:Int)))=false:=decide_eq_false qo
       have aQ:(decide ((65536:Int)<(v.length:Int)))=false:=decide_eq_false qo
       cases M with
       | false =>
        have d:=Hd (show (!j6 ⟨⟨k,E,u,t,F⟩,v,false⟩)=false by rw[U.out];simp[ak]);clear T
        go_wp2_with (go_at_call 53;(with_reducible refine O.out.mono ?_);rintro e w2 ⟨rfl,a⟩;have D:=P.1.fr a qs;have z5:w2.cell? ⟨wr.heap.size,5,none⟩=some (.string G):=D.c 5;have z6:w2.cell? ⟨wr.heap.size,6,none⟩=some (.bool false):=D.c 6;have K:=Hd a;clear a D)
        go_meet
        exact⟨congrArg Value.bool d.symm,K.out⟩
       | true =>
        by_cases J:v=[]
        ·have ad:G.data.toList=[]:=by rw[I.2.2.2.2];exact J
         have aH:G.toList=[]:=by rw[ByteArray.toList_eq];exact ad
         have d:=Hd (show (!j6 ⟨⟨k,E,u,t,F⟩,v,true⟩)=false by rw[U.out];simp[ak,s9,J]);clear T J ad
         go_wp2_with (go_at_call 53;(with_reducible refine O.out.mono ?_);rintro e w2 ⟨rfl,a⟩;have D:=P.1.fr a qs;have z5:w2.cell? ⟨wr.heap.size,5,none⟩=some (.string G):=D.c 5;have z6:w2.cell? ⟨wr.heap.size,6,none⟩=some (.bool true):=D.c 6;have K:=Hd a;clear a D)
         go_meet
         exact⟨congrArg Value.bool d.symm,K.out⟩
        ·have ad:G.data.toList≠[]:=by rw[I.2.2.2.2];exact J
         have aH:G.toList≠[]:=by rw[ByteArray.toList_eq];exact ad
         have a8:(G.toList == [])=false:=by simpa using aH
         have d:=Hd (show (!j6 ⟨⟨k,E,u,t,F⟩,v,true⟩)=true by rw[U.out];simp[ak,s9,J]);clear T J ad
         go_wp2_with (go_at_call 53;(with_reducible refine O.out.mono ?_);rintro e w2 ⟨rfl,a⟩;have D:=P.1.fr a qs;have z5:w2.cell? ⟨wr.heap.size,5,none⟩=some (.string G):=D.c 5;have z6:w2.cell? ⟨wr.heap.size,6,none⟩=some (.bool true):=D.c 6;have K:=Hd a;clear a D)
         go_meet
         exact⟨congrArg Value.bool d.symm,K.out⟩
      ·have ag:(decide ((65536:Int)<(G.size:Int)))=true:=decide_eq_true qo
       have aQ:(decide ((65536:Int)<(v.length:Int)))=true:=decide_eq_true qo;have d:=Hd (show (!j6 ⟨⟨k,E,u,t,F⟩,v,M⟩)=true by rw[U.out];simp[ak]);clear T
       go_wp2_with (go_at_call 53;(with_reducible refine O.out.mono ?_);rintro e w2 ⟨rfl,a⟩;have D:=P.1.fr a qs;have z5:w2.cell? ⟨wr.heap.size,5,none⟩=some (.string G):=D.c 5;have K:=Hd a;clear a D)
       go_meet
       exact⟨congrArg Value.bool d.symm,K.out⟩
    case rest =>
    obtain⟨rfl,Q⟩:=hcut;clear x0 x1 x2 x3 x4 x5 x6 T
    cases L:j6 ⟨⟨k,E,u,t,F⟩,v,M⟩with
    | false =>
     have d:=Hd (wx I.1 (by rw[C.2.1];exact f.2.1.symm) (.inl L));have aI:=Hd Q;clear Q L
     go_wp2
     go_ret
     exact⟨by rw[<-f.2.1,d.out];rfl,(C.1.then P.2).then aI.out⟩
    | true =>
     have ab:eY ⟨k,E,u,t,F⟩=0:=by unfold j6 at L;simp at L;exact L.1
     have av:=fI ab;have nc:=P.1.fr Q qs;have ac:=P.2.then Q
     rcases Nat.eq_zero_or_pos j with az|az
     ·subst az
      have H:=Hd (An ab (An ac (tR I.1 (by rw[C.2.1];exact f.2.1.symm) L (λq z=>by cases z))));clear L ab av nc ac Q
      go_upto_region 6 with fail
      refine eW (λW=>Fr [] wc W) qk qk ((Fq [] wc).drew) ?_;have HSS:=Hd (λ(W:World) (hW:Fr [] wc W)=>True.intro)
      repeat(
       first
       | go_big_quiet_skip
       | (go_big_quiet_want;first|(go_big_quiet_op;go_big_quiet_on)|(apply Exists.intro;refine⟨λW hW=>?_,?_⟩;(· obtain _:=HSS.out W hW;go_simp;first|done|with_reducible exact rfl|with_reducible exact⟨rfl,rfl⟩ );simp only[qq];go_big_quiet_on))
       )
      refine wpQuiet_nil ?_;intro W1 ae
      go_wp2
      go_roundw
      case rel=>exact⟨1,qo,by go_num,(C.1.then H.2.1).then ae,by rw[<-f.2.1];exact H.2.2,λq z=>by rw[lf,I.1]at z;cases z;exact⟨H.1,X⟩⟩
      case measure=>simp[intOf];omega
     ·obtain⟨m,rfl⟩:∃m,j=m+1:=⟨j - 1,qo⟩
      obtain⟨y,hy⟩:∃y,l[m]?=some y:=⟨_,gg (by rw[f.1];omega)⟩;have ap:lf l (m+1)=some y.n:=by rw[lf,hy];rfl
      have⟨ax,aA⟩:=C.2.2 y.n ap;have aF:=fI ax;have⟨g,R⟩:=eR (gD y.n ⟨k,E,u,t,F⟩);have aa:=λW=>oH y.n ⟨k,E,u,t,F⟩ W aF av aA X;rw[R]at aa;have aS:=fK i9 (B:=wr.heap.size) (by have h:=f.2.2.fr0 C.1;unfold Chs Rd at h;rw[f.1]at h;exact h) (by omega:0<n);obtain⟨b',off',am,aO,aw⟩:=aS
      injection am with am
      injection am with aL aM
      subst aL aM;have N:=aw m y hy;obtain⟨⟨k2,aW,aV,aU,aZ⟩,v2,a3⟩:=y;have⟨aX,aq,_,_⟩:=eS aW;have⟨aY,ar,_,_⟩:=eS aZ;unfold CH.cs at N;unfold fu at aa;simp only[aq,ar,I.2.2.1,I.2.2.2.1]at N aa
      have HSS:=Hd (λ(W:World) (hW:Fr [] wc W)=>(show (W.cell? ⟨b,off+m*7,none⟩=some (.int .i64 k2)/\W.cell? ⟨b,off+m*7+1,none⟩=some (.string aX)/\W.cell? ⟨b,off+m*7+2,none⟩=some (.int .i64 aV)/\W.cell? ⟨b,off+m*7+3,none⟩=some (.int .i64 aU)/\W.cell? ⟨b,off+m*7+4,none⟩=some (.string aY))/\W.cell? ⟨wr.heap.size,0,none⟩=some (.int .i64 k)/\W.cell? ⟨wr.heap.size,1,none⟩=some (.string so)/\W.cell? ⟨wr.heap.size,2,none⟩=some (.int .i64 u)/\W.cell? ⟨wr.heap.size,3,none⟩=some (.int .i64 t)/\W.cell? ⟨wr.heap.size,4,none⟩=some (.string st)from by
       have Y:=nc.fr hW qs;have Z:=λo=>(ac.then hW).cell (p:=⟨b,off+m*7+o,none⟩) aO qs;exact⟨⟨(Z 0).trans (N 0 qo),(Z 1).trans (N 1 qo),(Z 2).trans (N 2 qo),(Z 3).trans (N 3 qo),(Z 4).trans (N 4 qo)⟩,Y.c 0,Y.c 1,Y.c 2,Y.c 3,Y.c 4⟩))
      have O:=Hd aa;have H:=Hd (An ab (An ac (An L (An ap R))));have a7:IntKind.i64.wrap ((m:Nat):Int)=(m:Int):=by simp only[IntKind.wrap_i64];omega
      have a6:((m:Nat):Int)<(n:Int):=qo
      clear L ab av nc ac Q ax aA aF N aa hy ap R aw
      go_upto_region 6 with fail
      refine eW (λW=>Fr [] wc W) qk qk ((Fq [] wc).drew) ?_
      repeat(
       first
       | go_big_quiet_skip
       | (go_big_quiet_want;first|(go_big_quiet_op;go_big_quiet_on)|(apply Exists.intro;refine⟨λW hW=>?_,?_⟩;(· have⟨⟨a9,z1,z2,z3,z4⟩,y0,y1,y2,y3,y4⟩:=HSS.out W hW;go_simp;first|done|with_reducible exact rfl|with_reducible exact⟨rfl,rfl⟩|((go_at_call 103;(with_reducible refine(O.out W).mono ?_);rintro e w' ⟨rfl,h⟩;exact⟨rfl,hW.then h⟩)));simp only[qq];go_big_quiet_on))
       )
      refine wpQuiet_nil ?_;intro W1 ae
      rcases Int.decLt g 0 with h0|h0
      ·have e4:decide ((0:Int)<=g)=true:=decide_eq_true qo
       have d:=Hd (wx I.1 (by rw[C.2.1];exact f.2.1.symm) (.inr ⟨_,H.2.2.2.1,by rw[H.2.2.2.2];omega⟩))
       go_wp2
       go_ret
       exact⟨by rw[<-f.2.1,d.out];rfl,(C.1.then H.2.1).then ae⟩
      ·have e4:decide ((0:Int)<=g)=false:=decide_eq_false qo
       have d:=Hd (tR I.1 (by rw[C.2.1];exact f.2.1.symm) H.2.2.1 (λq z=>by rw[H.2.2.2.1]at z;cases z;rw[H.2.2.2.2];exact h0))
       go_wp2
       go_roundw
       case rel=>exact⟨m+1+1,qo,by go_num,(C.1.then H.2.1).then ae,by rw[<-f.2.1];exact d.out,λq z=>by rw[lf,I.1]at z;cases z;exact⟨H.1,X⟩⟩
       case measure=>simp[intOf];omega
   ·obtain rfl:j=n:=qo
    have d:=Hd (show true=r by rw[<-C.2.1,drop_of_length_le (by rw[f.1];omega)];cases lf l j <;> rfl)
    go_wp2
    go_ret
    exact⟨by rw[<-d.out];rfl,C.1⟩
structure AG where
 k:KY
 r:List CH
 w:List CH
def AG.val(a:AG)(b:ByteArray)(A:Option Addr)(c:Nat)(B:Option Addr)(d:Nat):Value:=.agg #[.int .i64 a.k.rnd,.int .i64 a.k.phase,.int .i64 a.k.idx,.string b,.slice A a.r.length c,.slice B a.w.length d]
structure AG.fit(a:AG):Prop where
 lin:a.k.lin.length<=140737488355328
 r:∀x∈a.r,x.fit
 w:∀x∈a.w,x.fit
 rl:a.r.length<=100000
 wl:a.w.length<=100000
structure AG.fitx(a:AG):Prop where
 lin:a.k.lin.length<=140737488355328
 r:∀x∈a.r,x.fit
 w:∀x∈a.w,x.fit
 rl:a.r.length<=2000000
 wl:a.w.length<=2000000
def AG.fit.x{a:AG}(h:a.fit):a.fitx:=⟨h.lin,h.r,h.w,Nat.le_trans h.rl qd,Nat.le_trans h.wl qd⟩
def l6(a:AG):Bool:=decide (j9 a.k=0) && (jp none a.r && jp none a.w)
def pU{f g:Nat}(v:f=120/\g=170 \/ f=158/\g=190)(a:AG)(C:ByteArray)(A B:Option Addr)(c d:Nat)(w:World)(x:Ok w)(P:fg a.k.lin=.string C)(G:Chs w A a.r)(H:Chs w B a.w)(l:a.fitx):Calls prog f #[a.val C A c B d] w (fi w (.bool (l6 a))):=by
 have⟨u,L⟩:=eR (j9 a.k);have⟨V,J⟩:=eR (jp none a.r);have⟨bw,K⟩:=eR (jp none a.w);have o:=λW (hW:Fr [] w W)=>tS (v.imp And.right And.right) a.r A c W (x.fr0 hW) (G.fr0 hW) l.r l.rl;have p:=λW (hW:Fr [] w W)=>tS (v.imp And.right And.right) a.w B d W (x.fr0 hW) (H.fr0 hW) l.w l.wl;have j:=λW=>zk a.k W l.lin;unfold l6 AG.val;rw[J]at o ⊢;rw[K]at p ⊢;rw[L]at j ⊢;unfold lU at j;rw[P]at j;obtain⟨k,r,wr⟩:=a;obtain⟨Z,k2,k3,kl⟩:=k;simp only at o p j ⊢;have⟨z,N⟩:=eR (r.length);have⟨R,O⟩:=eR (wr.length);rw[N]at o ⊢;rw[O]at p ⊢;have⟨w1,Q,Y,y,F⟩:=ir w #[.int .i64 Z,.int .i64 k2,.int .i64 k3,.string C,.slice A z c,.slice B R d] 91 w.heap.size;have⟨x0,x1,x2,x3⟩:=y.m4;have t:=Hd (j w1);have n:=Hd (An y F);have E:=Hd Q;have D:=Hd o;have U:=Hd p;clear j y F Q o p x G H l J K L P N O Y
 rcases v with⟨rfl,rfl⟩|⟨rfl,rfl⟩
 all_goals
  first
   | go_enter func120,ntmps120
   | go_enter func158,ntmps158
  rcases Int.decEq u 0 with s|s
  ·have X:decide (u=0)=false:=decide_eq_false s
   have h2:(u == 0)=false:=by simpa using s
   rw[X]
   go_upto_region 1 with fail
   rw[E.out]
   go_wp2_with (go_at_call 169;(with_reducible refine t.out.mono ?_);rintro e w2 ⟨rfl,b⟩;have h:=Hd b;clear b)
   go_ret
   exact⟨rfl,n.2.then h.out⟩
  ·subst s
   go_upto_region 1 with fail
   rw[E.out]
   cases V with
   | false =>
    go_wp2_with (first
     | (go_at_call 169;(with_reducible refine t.out.mono ?_);rintro e w2 ⟨rfl,b⟩;have i:=n.1.fr b qs;have y4:w2.cell? ⟨w.heap.size,4,none⟩=some (.slice A z c):=i.c 4;have h:=Hd (An i (n.2.then b));clear b i)
     | ((first|go_at_call 170|go_at_call 190);(with_reducible refine(D.out _ h.out.2).mono ?_);rintro e S ⟨rfl,m⟩;have q:=Hd (h.2.then m);clear m))
    go_ret
    exact⟨rfl,q.out⟩
   | true =>
    go_wp2_with (first
     | (go_at_call 169;(with_reducible refine t.out.mono ?_);rintro e w2 ⟨rfl,b⟩;have i:=n.1.fr b qs;have y4:w2.cell? ⟨w.heap.size,4,none⟩=some (.slice A z c):=i.c 4;have h:=Hd (An i (n.2.then b));clear b i)
     | ((first|go_at_call 170|go_at_call 190);(with_reducible refine(D.out _ h.out.2).mono ?_);rintro e S ⟨rfl,m⟩;have I:=h.1.fr m qs;have z5:S.cell? ⟨w.heap.size,5,none⟩=some (.slice B R d):=I.c 5;have q:=Hd (h.2.then m);clear m I)
     | ((first|go_at_call 170|go_at_call 190);(with_reducible refine(U.out _ q.out).mono ?_);rintro e w4 ⟨rfl,M⟩;have T:=Hd (q.then M);clear M))
    go_ret
    exact⟨rfl,T.out⟩
def pV(a:AG)(b:ByteArray)(A B:Option Addr)(c d:Nat)(w:World)(h:Ok w)(i:fg a.k.lin=.string b)(e:Chs w A a.r)(f:Chs w B a.w)(g:a.fitx):Calls prog 120 #[a.val b A c B d] w (fi w (.bool (l6 a))):=pU (.inl ⟨rfl,rfl⟩) a b A B c d w h i e f g
def pW(a:AG)(b:ByteArray)(A B:Option Addr)(c d:Nat)(w:World)(h:Ok w)(i:fg a.k.lin=.string b)(e:Chs w A a.r)(f:Chs w B a.w)(g:a.fit):Calls prog 120 #[a.val b A c B d] w (fi w (.bool (l6 a))):=pV a b A B c d w h i e f g.x
def uX(a:AG)(b:ByteArray)(A B:Option Addr)(c d:Nat)(w:World)(h:Ok w)(i:fg a.k.lin=.string b)(e:Chs w A a.r)(f:Chs w B a.w)(g:a.fit):Calls prog 158 #[a.val b A c B d] w (fi w (.bool (l6 a))):=pU (.inr ⟨rfl,rfl⟩) a b A B c d w h i e f g.x
def pX:∀(f:Nat) (s:List UInt8) (a c:Nat),f+c=9->0<f->a<=s.length->(iz f s a c).all (λp=>p.2.2 == 0)=true->s.length<=a+8*f
 | 0,_,_,_,_,h,_,_=>by omega
 | f+1,s,a,c,m,_,k,h=>by
  rw[iz,all_cons,Bool.and_eq_true]at h;obtain⟨g,e⟩:=h;have d:(gm s a c).1.2.2=0:=by simpa using g
  have l:(gm s a c).2=a+kF s a/\c≠8:=by
   unfold gm at d ⊢;split at d
   ·rename_i b
    rw[if_pos b];exact⟨rfl,by rintro rfl;simp[gA]at b⟩
   ·rename_i b
    exact absurd d b
  have o:=Af s a
  by_cases j:(gm s a c).2=s.length
  ·omega
  ·rw[if_neg (by simp[d,j])]at e
   split at e
   ·simp at e
   ·rename_i i
    have n:(gm s a c).2<s.length:=by
     have:s[(gm s a c).2]?=some 46:=by simpa using i
     exact(gV.1 this).1
    have:=pX f s _ _ qo qo qo e;omega
def iw{s:Nm}(h:gF s=true):s.length<=72:=by
 unfold gF fO at h;split at h
 ·rename_i e;subst e;simp
 ·have:=pX 9 s 0 0 rfl qo qo h
  omega
def mG{n:ON}(h:eY n=0):(jC n).length<=200:=by
 have l:=iw (fI h)
 have b:iR n.kind=true:=by
  unfold eY at h
  by_cases a:iR n.kind=true
  ·exact a
  ·rw[if_neg a]at h
   simp at h
 unfold eY at h;rw[if_pos b]at h
 obtain⟨k,c,d⟩:∃k:Nat,n.kind.toNat=k/\k<21:=by
  simp only[iR,decide_eq_true_eq]at b;exact⟨n.kind.toNat,rfl,qo⟩
 unfold jC;rw[c]at h ⊢;have j:=mO d;have⟨f,g,i⟩:=ju h;have m:=fJ (u:=n.kind.toNat) qo
 have o:(if(us k).owner=true then iX n.owner else []).length<=81:=by
  split
  ·have:=iG (s:=n.owner) qo;omega
  ·simp
 have l2:(if(us k).number=true then gd n.number.toNat else []).length<=9:=by
  split
  ·rename_i e
   have:=f e;simp only[fM,decide_eq_true_eq]at this;exact fJ qo
  ·simp
 have l3:(if(us k).index=true then gd n.index.toNat else []).length<=9:=by
  split
  ·rename_i e
   have:=g e;simp only[fM,decide_eq_true_eq]at this;exact fJ qo
  ·simp
 have p:(if(us k).text=true then iX n.text else []).length<=41:=by
  split
  ·rename_i e
   have:=i e;simp only[jG,Bool.and_eq_true,decide_eq_true_eq]at this;have:=iG (s:=n.text) qo;omega
  ·simp
 unfold wS;simp only[gu];omega
def gG:∀ {l:List CH} {p:Option ON},jp p l=true->∀x∈l,j6 x=true
 | [],_,_,x,a=>by simp at a
 | c::r,p,h,x,a=>by
  rw[jp,Bool.and_eq_true,Bool.and_eq_true]at h
  rcases mem_cons.1 a with rfl|a
  ·exact h.1
  ·exact gG h.2.2 x a
def iT{c:CH}(h:j6 c=true):eY c.n=0/\c.v.length<=65536:=by
 unfold j6 at h;simp only[Bool.and_eq_true,decide_eq_true_eq]at h;exact⟨h.1,h.2.1⟩
def l7(c:CH):Nm:=iX (jC c.n)++(nf c.a::iX c.v)
def jF(l:List CH):Nm:=gd l.length++l.flatMap l7
def gv(a:AG):Nm:=(lJ a.k++jF a.r)++jF a.w
def Dr{c:CH}(h:j6 c=true):(l7 c).length<=66000:=by
 have⟨a,b⟩:=iT h;have d:=mG a;have e:=iG (s:=jC c.n) qo;have f:=iG (s:=c.v) qo;unfold l7;rw[gu,length_cons];omega
def ov{l:List CH}(h:jp none l=true)(i:l.length<=100000):(jF l).length<=66000*l.length+9:=by
 have b:∀(l:List CH),(∀x∈l,j6 x=true)->(l.flatMap l7).length<=66000*l.length:=by
  intro l
  induction l with
  | nil=>intro _;simp
  | cons c r e =>
   intro a;have:=e (λx d=>a x (by simp[d]));have:=Dr (a c qs);rw[flatMap_cons,gu,length_cons];omega
 have f:=b l (gG h);have g:=fJ (u:=l.length) qo;unfold jF;rw[gu];omega
def Gw{α β:Type}{f:α->List β}{xs:List α}{j:Nat}{x:α}(b:xs[j]?=some x):(xs.drop j).flatMap f=f x++(xs.drop (j+1)).flatMap f:=by
 obtain⟨a,rfl⟩:=gV.1 b;rw[drop_eq_getElem_cons a,flatMap_cons]
def uY(a:AG)(f:ByteArray)(A B:Option Addr)(c d:Nat)(w:World)(o:Ok w)(p:fg a.k.lin=.string f)(h:Chs w A a.r)(i:Chs w B a.w)(j:a.fit)(q:l6 a=false):Calls prog 60 #[a.val f A c B d] w (fi w (.tuple #[.string ⟨#[]⟩,.int .i64 3])):=by
 have b:=λW (hW:Fr [] w W)=>pW a f A B c d W (o.fr0 hW) p (h.fr0 hW) (i.fr0 hW) j;rw[q]at b;unfold AG.val at b ⊢;obtain⟨⟨C,D,E,I⟩,r,wr⟩:=a;simp only at b ⊢;have⟨F,m⟩:=eR (r.length);have⟨G,n⟩:=eR (wr.length);rw[m,n]at b ⊢;have⟨H,s,z,t,g⟩:=ir w #[C,D,E,f,.slice A F c,.slice B G d] 91 w.heap.size;have⟨J,K,L,M,N,O⟩:=t.m6;have v:=Hd (b H g);have x:=Hd g;have y:=Hd s;clear b t g s o h i j q p m n z
 go_enter func60,ntmps60
 go_upto_region 1 with fail
 rw[y.out]
 go_wp2_with (go_at_call 120;(with_reducible refine v.out.mono ?_);rintro e w2 ⟨rfl,l⟩;have u:=Hd l;clear l)
 go_ret2
 exact⟨rfl,x.then u.out⟩
def I7(a:Nm)(r w:List CH):Nat->Nm
 | 0=>a
 | 1=>a++jF r
 | _=>(a++jF r)++jF w
def pY(a:AG)(sl:ByteArray)(P B:Option Addr)(c d:Nat)(w:World)(aY:Ok w)(a4:fg a.k.lin=.string sl)(hA:Chs w P a.r)(hB:Chs w B a.w)(O:a.fit)(hw:l6 a=true):Calls prog 60 #[a.val sl P c B d] w (fi w (.tuple #[fg (gv a),.int .i64 0])):=by
 have ab:=λW (hW:Fr [] w W)=>pW a sl P B c d W (aY.fr0 hW) a4 (hA.fr0 hW) (hB.fr0 hW) O;rw[hw]at ab;unfold l6 at hw;simp only[Bool.and_eq_true,decide_eq_true_eq]at hw;obtain⟨f,aZ,a3⟩:=hw;have bk:=ov aZ O.rl;have bm:=ov a3 O.wl;have bo:=O.rl;have bq:=O.wl
 have aF:(0<=a.k.rnd/\a.k.rnd<=9223372036854775807)/\(0<=a.k.phase/\a.k.phase<=9223372036854775807)/\(0<=a.k.idx/\a.k.idx<=9223372036854775807)/\a.k.lin.length<=72:=by
  unfold j9 at f;split at f
  ·simp at f
  split at f
  ·simp at f
  split at f
  ·simp at f
  refine⟨qo,qo,qo,?_⟩;split at f
  ·split at f
   ·simp at f
   ·rename_i C;simp at C;rw[C];simp
  ·split at f
   ·simp at f
   ·rename_i C
    simp at C;exact iw C.2
 have aa:=λ(W2 W3:World) (b:Nat) (H:WrS W2 b [] W3)=>xy a.k W2 W3 b [] H aF.1 aF.2.1 aF.2.2.1 qo qs
 have bx:(lJ a.k).length<=200:=by
  unfold lJ;have h1:=fJ (u:=a.k.rnd.toNat) qo;have h2:=fJ (u:=a.k.phase.toNat) qo;have h3:=fJ (u:=a.k.idx.toNat) qo;have h4:=iG (s:=a.k.lin) qo;simp only[gu];omega
 have⟨q,l⟩:=eR (gv a);rw[l];unfold gv at l;unfold lU at aa;rw[a4]at aa;have⟨A,aH⟩:=eR (([]:Nm)++lJ a.k);rw[aH]at aa;rw[nil_append]at aH;rw[aH]at l bx;unfold AG.val at ab ⊢;obtain⟨⟨k1,k2,k3,kl⟩,r,l2⟩:=a;have bd:=Hd (An O.r O.w);have ba:=Hd (An (gG aZ) (gG a3));simp only at ab aa l hA hB bk bm bo bq ⊢;have⟨F,aI⟩:=eR (r.length);have⟨G,aJ⟩:=eR (l2.length);have HA:=Hd hA;have HB:=Hd hB;unfold Chs Rd at HA HB;rw[aI,aJ]at ab ⊢;rw[aI]at bk bo;rw[aJ]at bm bq;have bn:I7 A r l2 2=q:=l;have bE:(A++jF r).length<=7000000000:=by rw[gu];omega
 have bz:((A++jF r)++jF l2).length<=14000000000:=by rw[gu];omega
 have aC:=Hd aI;have aD:=Hd aJ;have⟨w1,bp,bC,n1,f1⟩:=ir w #[.int .i64 k1,.int .i64 k2,.int .i64 k3,.string sl,.slice P F c,.slice B G d] 91 w.heap.size;have⟨x0,x1,x2,x3,x4,x5⟩:=n1.m6;have bh:=Hd (ab w1 f1);have bf:=Hd aa;have HQ:=Hd bn;have aL:=Hd n1;have bc:=Hd f1;have bg:=Hd bp;have aE:=Hd (λ(W:World) (hW:Fr [] w W)=>aY.fr0 hW);clear ab aa l bn n1 f1 bp aY hA hB O f aZ a3 a4 aI aJ bC aH aF
 go_enter func60,ntmps60
 go_upto_region 1 with fail
 rw[bg.out]
 go_upto_region 4 with(first
  | (go_at_call 120;(with_reducible refine bh.out.mono ?_);rintro e w2 ⟨rfl,bj⟩;have aB:=Hd bj;clear bj)
  | (go_at_call 54;(with_reducible refine(jS _).mono ?_);rintro e w3 ⟨rfl,br,aT⟩))
 have ak:=aL.lt;have bB:=aB.size;have J:=Hd (bc.then (aB.then aT));have aP:=(aL.fr aB.out qs).fr aT qs;have a6:=WrS.new br;have bu:w.heap.size<w2.heap.size:=qo
 generalize w2.heap.size=b at a6 bu ⊢;have aG:w.heap.size<=b:=qo
 have⟨y0,y1,y2,y3⟩:=aP.m4;have bb:=Hd aP;have bi:=Hd a6;clear x0 x1 x2 x3 x4 x5 br aT aP a6 ak bB bh aL bc aB bg
 go_upto_region 5 with((go_at_call 121;(with_reducible refine(bf.out _ _ _ bi.out).mono ?_);rintro e w4 ⟨rfl,a7,bw⟩))
 have aQ:=bb.fr a7.fr (by simp;omega);have z4:=aQ.k4;have z5:=aQ.k5;have be:=Hd a7;clear y0 y1 y2 y3 aQ a7 bw bb bi bf
 go_wp2
 clear z4 z5
 go_loopw [24] (λi W=>∃k:Nat,k<=2/\i=.int .i64 (k:Int)/\WrS w3 b (I7 A r l2 k) W) (λi _=>2 - (intOf i).toNat)
 case atStart=>exact⟨0,qo,rfl,be.out⟩
 case round =>
  obtain⟨k,hk,rfl,H⟩:=hrel;have K:=Hd H;clear H be
  match k,hk with
  | 0,_ =>
   have aV:(Instr.index 231 (.agg #[.slice P F c,.slice B G d]) (.int .i64 0)).run prog wr=.ok (.slice P F c) wr:=sL wr _ _ _ 0 qo rfl
   go_upto_region 8 with fail
   clear aV;unfold I7 at K
   go_upto_region 9 with(go_at_call 57;(with_reducible refine(kA K.out F qo qo).mono ?_);rintro e w5 ⟨rfl,ax,_⟩;have aO:=Hd ax;clear ax)
   have ar:((A)++gd F)++(r.drop 0).flatMap l7=A++jF r:=by rw[<-aC.out,append_assoc];rfl
   have aN:=Hd ar;clear K ar
   go_wp2
   go_loopw [33] (λi W=>∃j:Nat,j<=F/\i=.int .i64 (j:Int)/\∃bs,bs++(r.drop j).flatMap l7=A++jF r/\WrS w3 b bs W) (λi _=>F - (intOf i).toNat)
   case atStart=>exact⟨0,Nat.zero_le _,rfl,_,aN.out,aO.out⟩
   case round =>
    obtain⟨j,hj,rfl,bs,af,H⟩:=hrel;have m:=Hd (An af H);clear af H
    by_cases ak:j<F
    ·have bA:(j:Int)<(F:Int):=qo
     obtain⟨g,off,rfl,ae,ag⟩:=fK i9 HA.out (by rw[aC.out];omega);obtain⟨x,z⟩:∃x,(r)[j]?=some x:=⟨_,gg (by rw[aC.out];exact ak)⟩;have am:=ba.1 x (gH z);have⟨f,a5⟩:=iT am;have ah:=mG f;have aU:=iw (fI f);have U:=bd.1 x (gH z);have t:∀o,wr.cell? ⟨g,o,none⟩=w.cell? ⟨g,o,none⟩:=λo=>(m.2.fr.cell (p:=⟨g,o,none⟩) (Nat.lt_of_lt_of_le ae J.size) (by simp;omega)).trans (J.cell (p:=⟨g,o,none⟩) ae qs);have M:=m.1;rw[Gw z]at M;have aX:=congrArg List.length M;simp only[gu]at aX;have V:bs++((iX (jC x.n)++(nf x.a::iX x.v))++(r.drop (j+1)).flatMap l7)=A++jF r:=M;clear M;have h:=ag j x z;have a8:Calls prog 55 #[fu x.n] wr (lC wr (jC x.n) 0):=lD x.n wr (aE.out wr (J.trans m.2.fr (by intro q l;rw[ip]at l;subst l;exact .inr aG))) qo U.2.1 f;have N:∀W,Fr [] wr W->Calls prog 55 #[fu x.n] W (lC W (jC x.n) 0):=λW hW=>lD x.n W ((aE.out wr (J.trans m.2.fr (by intro q l;rw[ip]at l;subst l;exact .inr aG))).fr0 hW) qo U.2.1 f;obtain⟨⟨k,ow,nu,X,tx⟩,v,L⟩:=x;simp only at a5 ah;have⟨so,ao,_,_⟩:=eS ow;have⟨st,ap,_,_⟩:=eS tx;have⟨sv,aq,_,_⟩:=eS v;have⟨E,hE⟩:=eR (jC ⟨k,ow,nu,X,tx⟩);have⟨sE,an,_,_⟩:=eS E;unfold CH.cs at h;unfold fu lC at N;simp only[ao,ap,aq,hE,an]at h N V ah;have y0:wr.cell? ⟨g,off+j*7,none⟩=some (.int .i64 k):=(t _).trans (h 0 qo);have y1:wr.cell? ⟨g,off+j*7+1,none⟩=some (.string so):=(t _).trans (h 1 qo);have y2:wr.cell? ⟨g,off+j*7+2,none⟩=some (.int .i64 nu):=(t _).trans (h 2 qo);have y3:wr.cell? ⟨g,off+j*7+3,none⟩=some (.int .i64 X):=(t _).trans (h 3 qo);have y4:wr.cell? ⟨g,off+j*7+4,none⟩=some (.string st):=(t _).trans (h 4 qo);have y5:wr.cell? ⟨g,off+j*7+5,none⟩=some (.string sv):=(t _).trans (h 5 qo);have y6:wr.cell? ⟨g,off+j*7+6,none⟩=some (.bool L):=(t _).trans (h 6 qo);have aR:b<wr.heap.size:=m.2.blt;have⟨w6,au,a9,D,S⟩:=ir wr #[.int .i64 k,.string so,.int .i64 nu,.int .i64 X,.string st,.string sv,.bool L] 95 wr.heap.size;have al:=D;have⟨Z,hZ⟩:=eR (wr.heap.size);have aA:Z≠b:=qo
     have av:=m.2.more S aR;have HE:=Hd (N w6 S);have bt:=iG (s:=E) qo;have R:=Hd (An V (An an aq));clear h ag z am f aU U t N a8 hE ao ap V
     go_upto_region 12 with fail
     try rw[au]
     clear y0 y1 y2 y3 y4 y5 y6 au S a9;rw[hZ]at D al
     try rw[hZ]
     have⟨x0,x1,x2,x3,x4⟩:=D.m5;have I:=Hd (An D av);clear D al av
     go_upto_region 15 with(go_at_call 55;(with_reducible refine HE.out.mono ?_);rintro e w7 ⟨rfl,T⟩;have H7:=Hd (An (I.1.fr T qs) (I.2.more T I.2.blt));clear T)
     clear x0 x1 x2 x3 x4 HE I;have y:=oS H7.2 E qo qo;rw[R.2.1]at y;have HT:=Hd y;clear y
     go_upto_region 16 with(go_at_call 56;(with_reducible refine HT.out.mono ?_);rintro e w8 ⟨rfl,ay,ai⟩;have Y:=ai _ _ _ qd aA H7.1;have z6:w8.cell? ⟨Z,6,none⟩=some (.bool L):=Y.c 6;have Q:=Hd (An Y ay);clear Y ay ai)
     have ad:=Hd (Aj Q.2 L (by simp only[gu];omega));clear HT H7
     go_upto_region 17 with(go_at_call 122;(with_reducible refine ad.out.mono ?_);rintro e w9 ⟨rfl,az,aj⟩;have n9:=aj _ _ _ qd aA Q.1;have z5:w9.cell? ⟨Z,5,none⟩=some (.string sv):=n9.c 5;have H9:=Hd (An n9 az);clear n9 az aj)
     have y:=oS H9.2 v qo (by simp only[gu,length_cons,length_nil];omega);rw[R.2.2]at y;have aM:=Hd y;clear y ad Q z6
     go_wp2_with (go_at_call 56;(with_reducible refine aM.out.mono ?_);rintro e bD ⟨rfl,aw,aW⟩;have aK:=Hd aw;clear aw aW)
     go_roundw
     case rel=>exact⟨j+1,qo,by go_num,_,by rw[<-R.1];simp,aK.out⟩
     case measure=>simp[intOf];omega
    ·obtain rfl:j=F:=qo
     have aS:bs=A++jF r:=by have C:=m.1;rw[drop_of_length_le (by rw[aC.out];omega)]at C;simpa using C
     have ac:=Hd m.2;rw[aS]at ac
     go_wp2
     go_roundw
     case rel=>exact⟨1,qo,rfl,ac.out⟩
     case measure=>simp[intOf]
  | 1,_ =>
   have aV:(Instr.index 231 (.agg #[.slice P F c,.slice B G d]) (.int .i64 1)).run prog wr=.ok (.slice B G d) wr:=sL wr _ _ _ 1 qo rfl
   go_upto_region 8 with fail
   clear aV;unfold I7 at K
   go_upto_region 9 with(go_at_call 57;(with_reducible refine(kA K.out G qo qo).mono ?_);rintro e w5 ⟨rfl,ax,_⟩;have aO:=Hd ax;clear ax)
   have ar:((A++jF r)++gd G)++(l2.drop 0).flatMap l7=(A++jF r)++jF l2:=by rw[<-aD.out,append_assoc];rfl
   have aN:=Hd ar;clear K ar
   go_wp2
   go_loopw [33] (λi W=>∃j:Nat,j<=G/\i=.int .i64 (j:Int)/\∃bs,bs++(l2.drop j).flatMap l7=(A++jF r)++jF l2/\WrS w3 b bs W) (λi _=>G - (intOf i).toNat)
   case atStart=>exact⟨0,Nat.zero_le _,rfl,_,aN.out,aO.out⟩
   case round =>
    obtain⟨j,hj,rfl,bs,af,H⟩:=hrel;have m:=Hd (An af H);clear af H
    by_cases ak:j<G
    ·have bA:(j:Int)<(G:Int):=qo
     obtain⟨g,off,rfl,ae,ag⟩:=fK i9 HB.out (by rw[aD.out];omega);obtain⟨x,z⟩:∃x,(l2)[j]?=some x:=⟨_,gg (by rw[aD.out];exact ak)⟩;have am:=ba.2 x (gH z);have⟨f,a5⟩:=iT am;have ah:=mG f;have aU:=iw (fI f);have U:=bd.2 x (gH z);have t:∀o,wr.cell? ⟨g,o,none⟩=w.cell? ⟨g,o,none⟩:=λo=>(m.2.fr.cell (p:=⟨g,o,none⟩) (Nat.lt_of_lt_of_le ae J.size) (by simp;omega)).trans (J.cell (p:=⟨g,o,none⟩) ae qs);have M:=m.1;rw[Gw z]at M;have aX:=congrArg List.length M;simp only[gu]at aX;have V:bs++((iX (jC x.n)++(nf x.a::iX x.v))++(l2.drop (j+1)).flatMap l7)=(A++jF r)++jF l2:=M;clear M;have h:=ag j x z;have a8:Calls prog 55 #[fu x.n] wr (lC wr (jC x.n) 0):=lD x.n wr (aE.out wr (J.trans m.2.fr (by intro q l;rw[ip]at l;subst l;exact .inr aG))) qo U.2.1 f;have N:∀W,Fr [] wr W->Calls prog 55 #[fu x.n] W (lC W (jC x.n) 0):=λW hW=>lD x.n W ((aE.out wr (J.trans m.2.fr (by intro q l;rw[ip]at l;subst l;exact .inr aG))).fr0 hW) qo U.2.1 f;obtain⟨⟨k,ow,nu,X,tx⟩,v,L⟩:=x;simp only at a5 ah;have⟨so,ao,_,_⟩:=eS ow;have⟨st,ap,_,_⟩:=eS tx;have⟨sv,aq,_,_⟩:=eS v;have⟨E,hE⟩:=eR (jC ⟨k,ow,nu,X,tx⟩);have⟨sE,an,_,_⟩:=eS E;unfold CH.cs at h;unfold fu lC at N;simp only[ao,ap,aq,hE,an]at h N V ah;have y0:wr.cell? ⟨g,off+j*7,none⟩=some (.int .i64 k):=(t _).trans (h 0 qo);have y1:wr.cell? ⟨g,off+j*7+1,none⟩=some (.string so):=(t _).trans (h 1 qo);have y2:wr.cell? ⟨g,off+j*7+2,none⟩=some (.int .i64 nu):=(t _).trans (h 2 qo);have y3:wr.cell? ⟨g,off+j*7+3,none⟩=some (.int .i64 X):=(t _).trans (h 3 qo);have y4:wr.cell? ⟨g,off+j*7+4,none⟩=some (.string st):=(t _).trans (h 4 qo);have y5:wr.cell? ⟨g,off+j*7+5,none⟩=some (.string sv):=(t _).trans (h 5 qo);have y6:wr.cell? ⟨g,off+j*7+6,none⟩=some (.bool L):=(t _).trans (h 6 qo);have aR:b<wr.heap.size:=m.2.blt;have⟨w6,au,a9,D,S⟩:=ir wr #[.int .i64 k,.string so,.int .i64 nu,.int .i64 X,.string st,.string sv,.bool L] 95 wr.heap.size;have al:=D;have⟨Z,hZ⟩:=eR (wr.heap.size);have aA:Z≠b:=qo
     have av:=m.2.more S aR;have HE:=Hd (N w6 S);have bt:=iG (s:=E) qo;have R:=Hd (An V (An an aq));clear h ag z am f aU U t N a8 hE ao ap V
     go_upto_region 12 with fail
     try rw[au]
     clear y0 y1 y2 y3 y4 y5 y6 au S a9;rw[hZ]at D al
     try rw[hZ]
     have⟨x0,x1,x2,x3,x4⟩:=D.m5;have I:=Hd (An D av);clear D al av
     go_upto_region 15 with(go_at_call 55;(with_reducible refine HE.out.mono ?_);rintro e w7 ⟨rfl,T⟩;have H7:=Hd (An (I.1.fr T qs) (I.2.more T I.2.blt));clear T)
     clear x0 x1 x2 x3 x4 HE I;have y:=oS H7.2 E qo qo;rw[R.2.1]at y;have HT:=Hd y;clear y
     go_upto_region 16 with(go_at_call 56;(with_reducible refine HT.out.mono ?_);rintro e w8 ⟨rfl,ay,ai⟩;have Y:=ai _ _ _ qd aA H7.1;have z6:w8.cell? ⟨Z,6,none⟩=some (.bool L):=Y.c 6;have Q:=Hd (An Y ay);clear Y ay ai)
     have ad:=Hd (Aj Q.2 L (by simp only[gu];omega));clear HT H7
     go_upto_region 17 with(go_at_call 122;(with_reducible refine ad.out.mono ?_);rintro e w9 ⟨rfl,az,aj⟩;have n9:=aj _ _ _ qd aA Q.1;have z5:w9.cell? ⟨Z,5,none⟩=some (.string sv):=n9.c 5;have H9:=Hd (An n9 az);clear n9 az aj)
     have y:=oS H9.2 v qo (by simp only[gu,length_cons,length_nil];omega);rw[R.2.2]at y;have aM:=Hd y;clear y ad Q z6
     go_wp2_with (go_at_call 56;(with_reducible refine aM.out.mono ?_);rintro e bD ⟨rfl,aw,aW⟩;have aK:=Hd aw;clear aw aW)
     go_roundw
     case rel=>exact⟨j+1,qo,by go_num,_,by rw[<-R.1];simp,aK.out⟩
     case measure=>simp[intOf];omega
    ·obtain rfl:j=G:=qo
     have aS:bs=(A++jF r)++jF l2:=by have C:=m.1;rw[drop_of_length_le (by rw[aD.out];omega)]at C;simpa using C
     have ac:=Hd m.2;rw[aS]at ac
     go_wp2
     go_roundw
     case rel=>exact⟨2,qo,rfl,ac.out⟩
     case measure=>simp[intOf]
  | 2,_ =>
   rw[HQ.out]at K;have bF:q.length<=14000000000:=by rw[<-HQ.out];exact bz
   go_wp2_with ((go_at_call 123;(with_reducible refine(xz _ _ _ _ K.out qo).mono ?_);rintro e w5 ⟨rfl,bv⟩))
   go_ret2
   refine⟨rfl,(J.trans K.fr (by intro x z;rw[ip]at z;subst z;exact .inr qo)).then bv⟩
end Go.Proofs.YtlpmiimgacfmkaaGreatDoor
