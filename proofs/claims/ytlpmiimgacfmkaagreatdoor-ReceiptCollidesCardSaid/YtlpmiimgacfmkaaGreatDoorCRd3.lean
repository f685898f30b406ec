/- Part of the proof. -/
import Derived.Test.YtlpmiimgacfmkaaGreatDoorCWr1
import Derived.Test.YtlpmiimgacfmkaaGreatDoorCQh
set_option linter.all false
set_option maxHeartbeats 4000000
set_option maxRecDepth 100000
namespace Go.Proofs.YtlpmiimgacfmkaaGreatDoor
open Go.Proofs.Tryz List
open Go.RowKit
def mT(m:Nat)(l:Nm):Int × Nat × Int:=(((ft l).1:Int),(ft l).2.1,if(ft l).2.2=0/\m<(ft l).1 then 2 else(ft l).2.2)
def jV(m:Nat)(l:Nm):Nm × Nat × Int :=
 if(ft l).2.2≠0 then([],0,(ft l).2.2)else if m<(ft l).1 \/ 16777216<(ft l).1 then([],0,5)else if l.length - (ft l).2.1<(ft l).1 then([],0,28)else((l.drop (ft l).2.1).take (ft l).1,(ft l).2.1+(ft l).1,0)
def lP(l:Nm):Bool × Nat × Int :=
 if l.length=0 then(false,0,28)else if 1<(l.getD 0 0).toNat then(false,0,3)else(decide ((l.getD 0 0).toNat=1),1,0)
def nH{l:Nm}(h:(ft l).2.2=0):0<l.length:=by
 rcases Nat.eq_zero_or_pos l.length with a|a
 ·rw[eq_nil_of_length_eq_zero a]at h
  simp[ft,gL]at h
 ·exact a
def xi(A:Option Addr)(n c B q m:Nat)(l:Nm)(w:World)(s:Row w B 1 A n (eO l))(r:n<=70368744177664)(u:w.cell? ⟨q,0,none⟩=some (.int .i64 (m:Int))):
 Calls prog 113 #[.slice A n c,.pointer (some ⟨q,0,none⟩)] w λe w'=>e=.returned (.tuple #[.int .i64 (mT m l).1,.int .i64 ((mT m l).2.1:Int),.int .i64 (mT m l).2.2])/\w=w':=by
 have j:=uz A n c B l w s r;unfold mT;have⟨d,f⟩:=eR ((ft l).1);have⟨v,g⟩:=eR ((ft l).2.1);have⟨k,h⟩:=eR ((ft l).2.2);rw[f,g,h]at j;rw[f,g,h];have a:=Hd j
 by_cases b:k=0
 ·subst b
  by_cases i:m<d
  ·have p:(m:Int)<(d:Int):=qo
   simp only[i,and_self,if_true]
   go_enter func113,ntmps113
   go_wp2_with ((go_at_call 111;(with_reducible refine a.out.mono ?_);rintro e o ⟨rfl,rfl⟩))
   go_ret3
   exact⟨rfl,rfl⟩
  ·have p:¬(m:Int)<(d:Int):=qo
   simp only[i,and_false,if_false]
   go_enter func113,ntmps113
   go_wp2_with ((go_at_call 111;(with_reducible refine a.out.mono ?_);rintro e o ⟨rfl,rfl⟩))
   go_ret3
   exact⟨rfl,rfl⟩
 ·have t:(k == 0)=false:=by simpa using b
  simp only[b,false_and,if_false]
  go_enter func113,ntmps113
  go_wp2_with ((go_at_call 111;(with_reducible refine a.out.mono ?_);rintro e o ⟨rfl,rfl⟩))
  go_ret3
  exact⟨rfl,rfl⟩
def fe(m:Nat)(r:RS):Int × RS:=ji 0 r (mT m r.l)
def fU(m:Nat)(r:RS):Nm × RS:=ji [] r (jV m r.l)
def jb(r:RS):Bool × RS:=ji false r (lP r.l)
def RdPost.of_alloc{w a w':World}{b:Nat}{A:Option Addr}{v:Value}{r:RS}{e:Ending}(h:RdPost a b A v r e w')(i:Fr [] w a):RdPost w b A v r e w':=by
 obtain⟨c,A',d,f,g⟩:=h;exact⟨c,A',d,(i.mono qs).then f,g⟩
def FH{m:Nat}{l:Nm}(h:(mT m l).2.2=0):(mT m l).2.1<=l.length/\0<l.length:=by
 unfold mT at h ⊢;simp only at h ⊢
 by_cases a:(ft l).2.2=0/\m<(ft l).1
 ·rw[if_pos a]at h;simp at h
 ·rw[if_neg a]at h
  exact⟨(mz l).1,nH h⟩
def D9{m:Nat}{l:Nm}(h:(jV m l).2.2=0):(jV m l).2.1<=l.length/\0<l.length:=by
 unfold jV at h ⊢
 by_cases a:(ft l).2.2≠0
 ·rw[if_pos a]at h;exact absurd h a
 ·rw[if_neg a]at h ⊢
  have d:=nH (l:=l) (by simpa using a)
  by_cases b:m<(ft l).1 \/ 16777216<(ft l).1
  ·rw[if_pos b]at h;simp at h
  ·rw[if_neg b]at h ⊢
   by_cases c:l.length - (ft l).2.1<(ft l).1
   ·rw[if_pos c]at h;simp at h
   ·rw[if_neg c]
    have:=(mz l).1;simp only;omega
def Ea{l:Nm}(h:(lP l).2.2=0):(lP l).2.1<=l.length/\0<l.length:=by
 unfold lP at h ⊢
 by_cases a:l.length=0
 ·rw[if_pos a]at h;simp at h
 ·rw[if_neg a]at h ⊢
  by_cases b:1<(l.getD 0 0).toNat
  ·rw[if_pos b]at h;simp at h
  ·rw[if_neg b];simp only;omega
def BQ(b m:Nat)(A:Option Addr)(r:RS)(w:World)(h:RdAt w b A r):Calls prog 50 #[.pointer (some ⟨b,0,none⟩),.int .i64 (m:Int)] w (RdPost w b A (.int .i64 (fe m r).1) (fe m r).2):=by
 have⟨d,a⟩:=eR (w.alloc (.cells #[m] 3));have f:Fr [] w d:=by rw[<-a];exact(Fq [] w).alloc _
 have n:d.cell? ⟨w.heap.size,0,none⟩=some m:=by rw[<-a];exact(BoxN.new w _ _).c 0
 have g:=h.fr f qs qs;have k:=pR (.inl ⟨rfl,rfl,rfl,rfl,rfl⟩) (enc:=Value.int .i64) (z:=0) (q:=w.heap.size) b A r d (mT m r.l).1 (mT m r.l).2.1 (mT m r.l).2.2 g FH (λc v _ u=>xi A _ c _ _ m r.l d v u n);have s:=Hd k;have t:=Hd a;have p:=Hd f;clear k a f n g h;unfold fe
 go_enter func50,ntmps50
 go_wp2_with fail
 rw[t.out];(with_reducible refine s.out.mono ?_);intro e w2 i;obtain⟨rfl,A',j⟩:=i.of_alloc p.out;have o:=Hd j;clear j i
 go_wp2_with fail
 go_ret
 exact⟨rfl,A',o.out⟩
def Row.part{w:World}{B n s k c b off:Nat}{l:Nm}(h:Row w B 1 (some ⟨b,off,none⟩) n (eO l))(r:s+k<=n)(f:n<=c):Row w B 1 (if c=s then some ⟨b,off,none⟩else some ⟨b,off+s,none⟩) k (eO ((l.drop s).take k)):=by
 have q:l.length=n:=by have:=h.1;rw[eP]at this;omega
 have o:=h.rest (s:=s) (c:=c) qo f;refine⟨by rw[eP,length_take,length_drop];omega,λp=>?_⟩;have⟨b',off',e,d,g⟩:=o.2 qo;refine⟨b',off',e,d,λj u a=>g j u ?_⟩;have i:eO ((l.drop s).take k)=(eO (l.drop s)).take k:=by unfold eO;rw[map_take]
 rw[i]at a;have m:j<k:=by have:=(gV.1 a).1;rw[length_take]at this;omega
 rwa [List.getElem?_take_of_lt m]at a
def BR(A:Option Addr)(n c B q m:Nat)(l:Nm)(w:World)(r:Row w B 1 A n (eO l))(J:n<=c)(I:n<=70368744177664)(S:w.cell? ⟨q,0,none⟩=some (.int .i64 (m:Int))):
 Calls prog 110 #[.slice A n c,.pointer (some ⟨q,0,none⟩)] w λe w'=>e=.returned (.tuple #[fg (jV m l).1,.int .i64 ((jV m l).2.1:Int),.int .i64 (jV m l).2.2])/\w=w':=by
 have x:=uz A n c B l w r I;have o:l.length=n:=by have:=r.1;rw[eP]at this;omega
 have L:=(mz l).1;have p:=nH (l:=l);unfold jV;have⟨a,t⟩:=eR ((ft l).1);have⟨b,h⟩:=eR ((ft l).2.1);have⟨z,i⟩:=eR ((ft l).2.2);rw[t,h,i]at x;rw[h,o]at L;rw[i,o]at p;rw[t,h,i,o];have d:=Hd x;have C:=Hd r;clear x t h i r o
 by_cases j:z=0
 ·subst j
  have K:=p rfl;clear p;rw[if_neg qs]
  by_cases f:m<a \/ 16777216<a
  ·rw[if_pos f]
   by_cases R:m<a
   ·have E:(m:Int)<(a:Int):=qo
    clear f
    go_enter func110,ntmps110
    go_wp2_with ((go_at_call 111;(with_reducible refine d.out.mono ?_);rintro e g ⟨rfl,rfl⟩))
    go_ret3
    exact⟨rfl,rfl⟩
   ·have E:¬(m:Int)<(a:Int):=qo
    have H:(16777216:Int)<(a:Int):=qo
    clear f
    go_enter func110,ntmps110
    go_wp2_with ((go_at_call 111;(with_reducible refine d.out.mono ?_);rintro e g ⟨rfl,rfl⟩))
    go_ret3
    exact⟨rfl,rfl⟩
  ·rw[if_neg f]
   have E:¬(m:Int)<(a:Int):=qo
   have H:¬(16777216:Int)<(a:Int):=qo
   have T:a<=16777216:=qo
   clear f
   by_cases y:n - b<a
   ·rw[if_pos y]
    have M:(n:Int) - (b:Int)<(a:Int):=qo
    go_enter func110,ntmps110
    go_wp2_with ((go_at_call 111;(with_reducible refine d.out.mono ?_);rintro e g ⟨rfl,rfl⟩))
    go_ret3
    exact⟨rfl,rfl⟩
   ·rw[if_neg y]
    have M:¬(n:Int) - (b:Int)<(a:Int):=qo
    obtain⟨N,off,rfl,_⟩:=C.2 K;have F:=C.part (s:=b) (k:=a) (c:=c) qo J;have v:=eZ (P:=prog) F 49 5 underlying49 underlying5 9 underlying9 (c - b);have U:(b:Int)<=(b:Int)+(a:Int):=qo
    have V:(b:Int)+(a:Int)<=(c:Int):=qo
    have⟨W,G,_,_⟩:=eS ((l.drop b).take a);rw[G]at v;rw[G];clear y F
    by_cases u:c=b
    ·have D:a=0:=qo
     rw[if_pos u,show c - b=0 by omega,D]at v;clear D;subst u
     go_enter func110,ntmps110
     go_wp2_with ((go_at_call 111;(with_reducible refine d.out.mono ?_);rintro e g ⟨rfl,rfl⟩))
     go_ret3
     exact⟨rfl,rfl⟩
    ·rw[if_neg u]at v
     go_enter func110,ntmps110
     go_wp2_with ((go_at_call 111;(with_reducible refine d.out.mono ?_);rintro e g ⟨rfl,rfl⟩))
     go_ret3
     exact⟨rfl,rfl⟩
 ·have O:(z == 0)=false:=by simpa using j
  have Q:(z != 0)=true:=by simpa using j
  rw[if_pos j];clear p;have e0:fg []=.string ⟨#[]⟩:=rfl;rw[e0]
  go_enter func110,ntmps110
  go_wp2_with ((go_at_call 111;(with_reducible refine d.out.mono ?_);rintro e g ⟨rfl,rfl⟩))
  go_ret3
  exact⟨rfl,rfl⟩
def FI(b m:Nat)(A:Option Addr)(r:RS)(w:World)(h:RdAt w b A r):Calls prog 49 #[.pointer (some ⟨b,0,none⟩),.int .i64 (m:Int)] w (RdPost w b A (fg (fU m r).1) (fU m r).2):=by
 have⟨d,a⟩:=eR (w.alloc (.cells #[m] 3));have f:Fr [] w d:=by rw[<-a];exact(Fq [] w).alloc _
 have n:d.cell? ⟨w.heap.size,0,none⟩=some m:=by rw[<-a];exact(BoxN.new w _ _).c 0
 have g:=h.fr f qs qs;have k:=pR (.inr (.inl ⟨rfl,rfl,rfl,rfl,rfl⟩)) (enc:=fg) (z:=[]) (q:=w.heap.size) b A r d (jV m r.l).1 (jV m r.l).2.1 (jV m r.l).2.2 g D9 (λc x u v=>BR A _ c _ _ m r.l d x u v n);have s:=Hd k;have t:=Hd a;have p:=Hd f;clear k a f n g h;unfold fU
 go_enter func49,ntmps49
 go_wp2_with fail
 rw[t.out];(with_reducible refine s.out.mono ?_);intro e w2 i;obtain⟨rfl,A',j⟩:=i.of_alloc p.out;have o:=Hd j;clear j i;obtain⟨B,y,_,_⟩:=eS (ji [] r ((jV m r.l).1,(jV m r.l).2.1,(jV m r.l).2.2)).1
 go_wp2_with fail
 go_ret
 exact⟨congrArg Ending.returned y.symm,A',o.out⟩
def BS(A:Option Addr)(n c B:Nat)(l:Nm)(w:World)(h:Row w B 1 A n (eO l))(q:n<=70368744177664):
 Calls prog 257 #[.slice A n c] w λe w'=>e=.returned (.tuple #[.bool (lP l).1,.int .i64 ((lP l).2.1:Int),.int .i64 (lP l).2.2])/\w=w':=by
 have o:l.length=n:=by have:=h.1;rw[eP]at this;omega
 unfold lP;rw[o]
 by_cases a:n=0
 ·rw[if_pos a]
  have i:((n:Int) == 0)=true:=by simp;omega
  go_enter func257,ntmps257
  go_wp2
  go_ret3
  exact⟨rfl,rfl⟩
 ·rw[if_neg a]
  have i:((n:Int) == 0)=false:=by simp;omega
  obtain⟨b,off,rfl,g⟩:=h.byte (k:=0) qo;rw[Nat.add_zero]at g;have⟨x,p⟩:=eR ((l.getD 0 0).toNat);rw[p]at g ⊢;have r:(0:Int)<(n:Int):=qo
  by_cases d:1<x
  ·rw[if_pos d]
   have j:(1:Int)<(x:Int):=qo
   go_enter func257,ntmps257
   go_wp2
   go_ret3
   exact⟨rfl,rfl⟩
  ·rw[if_neg d]
   have j:¬(1:Int)<(x:Int):=qo
   by_cases f:x=1
   ·have m:((x:Int) == 1)=true:=by simp;omega
    rw[show decide (x=1)=true by simp[f]]
    go_enter func257,ntmps257
    go_wp2
    go_ret3
    exact⟨rfl,rfl⟩
   ·have m:((x:Int) == 1)=false:=by simp;omega
    rw[show decide (x=1)=false by simp[f]]
    go_enter func257,ntmps257
    go_wp2
    go_ret3
    exact⟨rfl,rfl⟩
def FJ(b:Nat)(A:Option Addr)(r:RS)(w:World)(h:RdAt w b A r):Calls prog 217 #[.pointer (some ⟨b,0,none⟩)] w (RdPost w b A (.bool (jb r).1) (jb r).2):=by
 have i:=pR (.inr (.inr ⟨rfl,rfl,rfl,rfl,rfl⟩)) (enc:=Value.bool) (z:=false) (q:=0) b A r w (lP r.l).1 (lP r.l).2.1 (lP r.l).2.2 h Ea (λc k _ j=>BS A _ c _ r.l w k j);have d:=Hd i;unfold jb
 go_enter func217,ntmps217
 go_wp2_with fail
 (with_reducible refine d.out.mono ?_);intro e w2 f;obtain⟨rfl,A',g⟩:=f;have a:=Hd g
 go_wp2_with fail
 go_ret
 exact⟨rfl,A',a.out⟩
def FK(b:Nat)(A:Option Addr)(r:RS)(w:World)(h:RdAt w b A r):Calls prog 216 #[.pointer (some ⟨b,0,none⟩)] w λe w'=>e=.returned (.int .i64 (r.l.length:Int))/\w=w':=by
 obtain⟨c,a,_⟩:=h;have⟨d,_⟩:=mA a
 go_enter func216,ntmps216
 go_wp2
 go_ret
 exact⟨rfl,rfl⟩
def jD(r:RS):Int:=if r.f≠0 then r.f else if 0<r.l.length then 5 else 0
def Eb(b:Nat)(A:Option Addr)(r:RS)(w:World)(i:RdAt w b A r):Calls prog 52 #[.pointer (some ⟨b,0,none⟩)] w λe w'=>e=.returned (.int .i64 (jD r))/\w=w':=by
 obtain⟨c,a,_⟩:=i;have⟨j,_,k,_⟩:=mA a;unfold jD;obtain⟨f,g⟩:∃f,r.f=f:=⟨_,rfl⟩;have⟨n,h⟩:=eR (r.l.length);rw[g]at k;rw[h]at j;rw[g,h]
 by_cases d:f=0
 ·subst d
  rw[if_neg qs]
  by_cases a:0<n
  ·rw[if_pos a]
   go_enter func52,ntmps52
   go_wp2
   go_ret
   exact⟨rfl,rfl⟩
  ·rw[if_neg a]
   have m:¬(0:Int)<(n:Int):=qo
   go_enter func52,ntmps52
   go_wp2
   go_ret
   exact⟨rfl,rfl⟩
 ·rw[if_pos d]
  have o:(f != 0)=true:=by simpa using d
  go_enter func52,ntmps52
  go_wp2
  go_ret
  exact⟨rfl,rfl⟩
def tl(A:Option Addr)(n c B:Nat)(l:Nm)(w:World)(g:Row w B 1 A n (eO l))(t:∀a,A=some a->a.spot=none)(q:n<=70368744177664):Calls prog 47 #[.slice A n c] w λe w'=>∃b A',e=.returned (.pointer (some ⟨b,0,none⟩))/\RdAt w' b A' ⟨l,0,0⟩/\Fr [] w w'/\w.heap.size<=b/\∀k∈eX A',w.heap.size<=k:=by
 have p:l.length=n:=by have:=g.1;rw[eP]at this;omega
 have m:=sW A n c B l w g t q;have u:=Hd m;have i:=Hd p;clear m g t p
 go_enter func47,ntmps47
 go_wp2_with ((go_at_call 108;(with_reducible refine u.out.mono ?_);rintro e w2 ⟨A2,j,rfl,r,o,s⟩;have d:=Hd r;have h:=Hd o;have v:=Hd s;clear r o s))
 go_ret
 have x:=d.lt;have f:Fr [] w2 (w2.alloc (.cells #[.slice A2 l.length j,.int .i64 0,.int .i64 0] 214)):=(Fq [] w2).alloc _;refine⟨w2.heap.size,A2,rfl,⟨j,BoxN.new w2 _ _,d.le_cap,(d.row.fr f (fW _) qs).more f.size,λy=>by have:=x _ y;omega,by rw[i.out];exact q,by simp only;rw[i.out];omega⟩,h.then f,h.size,v.out⟩
open Go.RowKit Go.Shelf
attribute [local go_sem] Oper.semAt_some
def Ec{w W:World}{a:Nat}{o:Obj}(h:w.heap[a]?=some o)(b:Below w.heap.size w W):W.heap[a]?=some o:=by
 rw[b.block a (Array.getElem?_eq_some_iff.1 h).1];exact h
def yY(n l a:Nat)(s:ByteArray)(g:s.data.toList=[])(W:World)(b:W.heap[a]?=some (.cells #[.string s] 9 (0,0)))(J:World->Prop)(f:J W):
 CallsIn Fence.wide n prog 246 #[.func (.yield l) #[] #[],.pointer (some ⟨a,0,none⟩)] W λe c=>(∃v,e=.returned v)/\J c:=by
 have h:W.cell? ⟨a,0,none⟩=some (.string s):=by simp[World.cell?,b]
 have i:=sH g;clear b;refine callsIn_of_wp func246 rfl trivial ?_ rfl;simp only[ntmps246,size_toArray,length_cons,length_nil,Nat.reduceAdd,Nat.reduceSub,Array.replicate_succ,Array.replicate_zero,push_toArray,append_toArray,nil_append,cons_append]
 gi_wp2
 gi_loopw [3,4] (λat_ d wr=>at_=.int .i64 0/\d=.int .i64 0/\wr=W) (λ_ _ _=>0)
 case atStart=>exact⟨rfl,rfl,rfl⟩
 case round =>
  obtain⟨rfl,rfl,rfl⟩:=hrel
  gi_wp2
  go_end0
  exact⟨⟨_,rfl⟩,f⟩
def qf(n:Nat)(p:1<=n)(s:ByteArray)(q:s.size<=9223372036854775000)(a:Nat)(w:World)(h:w.heap[a]?=some (.cells #[.string s] 9 (0,0))):
 SeqStopsK Fence.wide n prog 246 #[.pointer (some ⟨a,0,none⟩)] (λx:kG=>#[kQ x]) lO (λu=>u=fO s.data.toList) (λc=>c <+: fO s.data.toList) (fO s.data.toList).length w:=λl J g W hW i _ j d=>by
 have f:=Ec h hW
 by_cases b:s.data.toList=[]
 ·refine(yY n l a s b W f (J []) d).mono λe v ⟨m,o⟩=>⟨m,.inl ⟨[],?_,o⟩⟩
  simp[fO,b]
 ·exact BN n p l a s q b J g (λc X Y t k=>i c X Y none t (vn k) (λr e=>by cases e)) j W f d
def gn(l:List kG):Nat:=((l.find? λp=>p.2.2 != 0).map (·.2.2)).getD 0
def PartAt(W:World)(B:Nat)(x:kG):Prop:=W.heap[B]?=some (.cells #[.int .i64 (x.1:Int),.int .i64 (x.2.1:Int),.int .i64 (x.2.2:Int)] 325 (0,0))
def PartAt.lt{W:World}{B:Nat}{x:kG}(h:PartAt W B x):B<W.heap.size:=(Array.getElem?_eq_some_iff.1 h).1
def PartAt.own(B:Nat)(x:kG):Go.Own (λ(_:Unit) W=>PartAt W B x):=λ_ X Y row a d f =>
 (d.block B a.lt (λe=>by have⟨o,b,c⟩:=f B e.symm;rw[show X.heap[B]?=_ from a]at b;cases b;cases c)).trans a
def PartAt.cell1{W:World}{B:Nat}{x:kG}(h:PartAt W B x):W.cell? ⟨B,1,none⟩=some (.int .i64 (x.2.1:Int)):=by
 unfold PartAt at h;simp[World.cell?,h]
def PartAt.cell2{W:World}{B:Nat}{x:kG}(h:PartAt W B x):W.cell? ⟨B,2,none⟩=some (.int .i64 (x.2.2:Int)):=by
 unfold PartAt at h;simp[World.cell?,h]
def PartAt.cell0{W:World}{B:Nat}{x:kG}(h:PartAt W B x):W.cell? ⟨B,0,none⟩=some (.int .i64 (x.1:Int)):=by
 unfold PartAt at h;simp[World.cell?,h]
def kV{l:List kG}(h:∀x∈l,x.2.2=0):gn l=0:=by
 unfold gn;rw[List.find?_eq_none.2 (λx a=>by simp[h x a])];rfl
def kW{l:List kG}{x:kG}(h:∀y∈l,y.2.2=0)(a:x.2.2≠0):gn (l++[x])=x.2.2:=by
 unfold gn;rw[List.find?_append,List.find?_eq_none.2 (λx a=>by simp[h x a])];simp[a]
def lQ{l m:List kG}(h:l <+: m)(a:gn l≠0):gn m=gn l:=by
 obtain⟨r,rfl⟩:=h;unfold gn at a ⊢;rw[List.find?_append]
 cases b:l.find? λp=>p.2.2 != 0 with
 | none=>rw[b]at a;simp at a
 | some x=>simp
def lF(w W:World)(nm:ByteArray)(at_ a:Int):World:=((W.setCell ⟨w.heap.size,0,none⟩ (.string nm)).setCell ⟨w.heap.size+1,0,none⟩ (.int .i64 at_)).setCell ⟨w.heap.size+1+1,0,none⟩ (.int .i64 a)
def oL{w W:World}(at_ a:Int)(nm:ByteArray){g:ByteArray}{b e0:Int}(c:Boxed W w.heap.size 29 (.string g))(d:Boxed W (w.heap.size+1) 3 (.int .i64 b))(e:Boxed W (w.heap.size+1+1) 40 (.int .i64 e0))(f:Below w.heap.size w W):
 KeepsOthers W (lF w W nm at_ a)/\(Boxed (lF w W nm at_ a) w.heap.size 29 (.string nm)/\Boxed (lF w W nm at_ a) (w.heap.size+1) 3 (.int .i64 at_)) /\
 Boxed (lF w W nm at_ a) (w.heap.size+1+1) 40 (.int .i64 a)/\Below w.heap.size w (lF w W nm at_ a):=by
 unfold lF;refine⟨?_,⟨?_,?_⟩,?_,?_⟩
 ·exact((KeepsOthers.setCell _ _ _).trans (KeepsOthers.setCell _ _ _)).trans (KeepsOthers.setCell _ _ _)
 ·exact((c.set (.string nm)).other (B':=w.heap.size+1) (by omega) (.int .i64 at_)).other (B':=w.heap.size+1+1) (by omega) (.int .i64 a)
 ·exact((d.other (B':=w.heap.size) (by omega) (.string nm)).set (.int .i64 at_)).other (B':=w.heap.size+1+1) (by omega) (.int .i64 a)
 ·exact((e.other (B':=w.heap.size) (by omega) (.string nm)).other (B':=w.heap.size+1) (by omega) (.int .i64 at_)).set (.int .i64 a)
 ·exact((f.setCell (p:=⟨w.heap.size,0,none⟩) (Nat.le_refl _) _).setCell (p:=⟨w.heap.size+1,0,none⟩) (by simp) _).setCell (p:=⟨w.heap.size+1+1,0,none⟩) (by simp;omega) _
def uj{w X:World}{D:Nat}{nm:ByteArray}{at_ a:Int}(h:w.heap.size+4<=D)(g:X.heap[D]?=some (.deferred (some [])))
 (b:Boxed X w.heap.size 29 (.string nm)) (c:Boxed X (w.heap.size+1) 3 (.int .i64 at_)) (d:Boxed X (w.heap.size+1+1) 40 (.int .i64 a)) (f:Below w.heap.size w X) :
 (X.putObj D (.deferred none)).cell? ⟨w.heap.size,0,none⟩=some (.string nm)/\(X.putObj D (.deferred none)).cell? ⟨w.heap.size+1,0,none⟩=some (.int .i64 at_) /\
 (X.putObj D (.deferred none)).cell? ⟨w.heap.size+1+1,0,none⟩=some (.int .i64 a)/\Below w.heap.size w (X.putObj D (.deferred none)):=by
 refine⟨?_,?_,?_,?_⟩
 ·exact(b.kept (grownBy_putObj' X D (.deferred none)) (λe=>by injection e;omega)).cell
 ·exact(c.kept (grownBy_putObj' X D (.deferred none)) (λe=>by injection e;omega)).cell
 ·exact(d.kept (grownBy_putObj' X D (.deferred none)) (λe=>by injection e;omega)).cell
 ·exact f.trans (belowK_b (w:=w) (Nat.le_refl _) X D _ _ (by omega) g rfl rfl)
def yZ(s:ByteArray)(w:World)(p:s.size<=9223372036854775000):
 Calls prog 168 #[.string s] w λe w'=>(∃nm at_,e=.returned (.tuple #[.string nm,.int .i64 at_,.int .i64 (gn (fO s.data.toList):Int)]))/\Below w.heap.size w w':=by
 refine(callsIn_wide (n:=5)).1 ?_;refine callsIn_of_wp_marks func168 rfl trivial ?_ rfl;simp only[ntmps168,size_toArray,length_cons,length_nil,Nat.reduceAdd,Nat.reduceSub,Array.replicate_succ,Array.replicate_zero,push_toArray,append_toArray,nil_append,cons_append]
 gi_wp2_with (refine⟨trivial,?_⟩;gi_at_call 197;refine(xh _ _ _).mono ?_;rintro e w' ⟨rfl,rfl⟩)
 have J:=(((Boxed.new w 29 (.string ⟨#[]⟩)).alloc (.cells #[.int .i64 0] 3)).alloc (.cells #[.int .i64 0] 40)).alloc (.cells #[.string s] 9);have A:=((Boxed.new (w.alloc (.cells #[.string ⟨#[]⟩] 29)) 3 (.int .i64 0)).alloc (.cells #[.int .i64 0] 40)).alloc (.cells #[.string s] 9);have B:=(Boxed.new ((w.alloc (.cells #[.string ⟨#[]⟩] 29)).alloc (.cells #[.int .i64 0] 3)) 40 (.int .i64 0)).alloc (.cells #[.string s] 9);have C:=Boxed.new (((w.alloc (.cells #[.string ⟨#[]⟩] 29)).alloc (.cells #[.int .i64 0] 3)).alloc (.cells #[.int .i64 0] 40)) 9 (.string s);simp only[World.size_alloc]at A B C
 have K:Below w.heap.size w ((((w.alloc (.cells #[.string ⟨#[]⟩] 29)).alloc (.cells #[.int .i64 0] 3)).alloc (.cells #[.int .i64 0] 40)).alloc (.cells #[.string s] 9)) :=
  ((((Below.refl _ w).alloc (Nat.le_refl _) _).alloc (by simp) _).alloc (by simp;omega) _).alloc (by simp;omega) _
 have ac:((((w.alloc (.cells #[.string ⟨#[]⟩] 29)).alloc (.cells #[.int .i64 0] 3)).alloc (.cells #[.int .i64 0] 40)).alloc (.cells #[.string s] 9)).heap.size=w.heap.size+4:=by simp
 obtain⟨v,N⟩:∃v,(((w.alloc (.cells #[.string ⟨#[]⟩] 29)).alloc (.cells #[.int .i64 0] 3)).alloc (.cells #[.int .i64 0] 40)).alloc (.cells #[.string s] 9)=v:=⟨_,rfl⟩;rw[N]at J A B C K ac ⊢;clear N
 refine wpIn_rangeFunc_ownH rfl (by omega) (gf:=246) (lb:=#[.pointer (some ⟨w.heap.size+1+1+1,0,none⟩)]) rfl trivial (enters_of func246 (by kernel_rfl) rfl)
  (qf 4 (by omega) s p (w.heap.size+1+1+1) v C) qY Ag (Below.refl _ _) (λ_=>rfl)
  (λg W=>(∀x∈g,x.2.2=0)/\((Boxed W w.heap.size 29 (.string ⟨#[]⟩)/\Boxed W (w.heap.size+1) 3 (.int .i64 0))/\Boxed W (w.heap.size+1+1) 40 (.int .i64 0))/\Below w.heap.size w W)
  (λc g W=>(c=.ret/\gn g≠0)/\(∃at_:Int,(Boxed W w.heap.size 29 (.string ⟨#[]⟩)/\Boxed W (w.heap.size+1) 3 (.int .i64 at_))/\Boxed W (w.heap.size+1+1) 40 (.int .i64 (gn g:Int)))/\Below w.heap.size w W)
  (OwnFrom.and (ownFrom_pure _ _) (OwnFrom.and (OwnFrom.and (OwnFrom.and (Own.from (boxed_own _ _ _) _) (Own.from (boxed_own _ _ _) _)) (Own.from (boxed_own _ _ _) _)) (ownFrom_below (Nat.le_refl _) (by omega))))
  (λc g X Y row p k o=>by
   obtain⟨E,⟨at_,⟨F,G⟩,Z⟩,h5⟩:=p;have H:=λr e=>(o r e).2;exact⟨E,⟨at_,⟨boxed_own _ _ (λ(_:Unit)=>_) () X Y row F k H,boxed_own _ _ (λ(_:Unit)=>_) () X Y row G k H⟩,boxed_own _ _ (λ(_:Unit)=>_) () X Y row Z k H⟩,ownFrom_below (Nat.le_refl _) (by omega) () X Y row h5 k o⟩)
  ⟨by simp,⟨⟨J,A⟩,B⟩,K⟩
  (λx z W=>∃h,w.heap.size+1+1<h/\PartAt W h x/\z={ tmps:=#[.string s,undef,.pointer (some ⟨w.heap.size,0,none⟩),.pointer (some ⟨w.heap.size+1,0,none⟩),.pointer (some ⟨w.heap.size+1+1,0,none⟩),.pointer (some ⟨h,0,none⟩),.string s,.func (.func 246) #[] #[.pointer (some ⟨w.heap.size+1+1+1,0,none⟩)],kQ x,undef,undef,undef,undef,undef,undef,undef,undef],defers:=[] })
  (λx z _ X Y row p k o=>by obtain⟨h,E,F,G⟩:=p;exact⟨h,E,PartAt.own h x () X Y row F k (λr e=>(o r e).2),G⟩)
  ?assign ?body ?done ?stop
 case assign =>
  rintro l g x W ad ⟨i,⟨⟨b,d⟩,a⟩,f⟩ j;unfold kQ
  gi_wp2
  exact j _ _ ((KeepsOthers.alloc _ _).from _) (mo ((Below.refl _ W).alloc (Nat.le_refl _) _)) ⟨i,⟨⟨b.alloc _,d.alloc _⟩,a.alloc _⟩,f.alloc f.size _⟩ ⟨W.heap.size,a.lt,World.alloc_heap_new W _,rfl⟩
 case body =>
  rintro l g x z W hl ⟨r,o⟩ ⟨i,⟨⟨b,d⟩,a⟩,f⟩ ⟨h,ae,M,rfl⟩ af;have p1:=M.cell1;have p2:=M.cell2
  by_cases m:x.2.2=0
  ·have t:((x.2.2:Int) != 0)=false:=by rw[m];rfl
   have O:=Lib.hid m;clear m
   gi_wp2
   exact⟨KeepsFrom.refl _ _,yV _,λy hy=>(mem_append.1 hy).elim (i y) (λe=>by rw[mem_singleton]at e;rw[e];exact O.out),⟨⟨b,d⟩,a⟩,f⟩
  ·have t:((x.2.2:Int) != 0)=true:=by rw[bne_iff_ne];omega
   have P:=b.cell;have Q:=d.cell;have S:=a.cell;have T:=b.frozen;have U:=d.frozen;have V:=a.frozen;have ag:prog.follows .mixedOrders=true:=by kernel_rfl
   have R:=Lib.hid (oL (x.2.1:Int) (x.2.2:Int) ⟨#[]⟩ b d a f)
   gi_wp2
   gi_region_o
   all_goals gi_wp2
   all_goals exact⟨(R.1.trans (KeepsOthers.drew _)).from _,⟨rfl,by rw[kW i m];exact m⟩,⟨_,R.2.1,by rw[kW i m];exact R.2.2.1⟩,R.2.2.2.drew⟩
 case done =>
  rintro I ys W hD rfl ⟨i,⟨⟨b,d⟩,a⟩,f⟩ j;have P:=b.cell;have Q:=d.cell;have S:=a.cell;have T:=b.frozen;have U:=d.frozen;have V:=a.frozen;have R:=Lib.hid (oL 0 0 s b d a f)
  gi_wp2
  have L:=R.1.same I _ j rfl;have⟨e0,q,u,D⟩:=uj (by omega) L R.2.1.1 R.2.1.2 R.2.2.1 R.2.2.2;refine⟨by simp,.inl ⟨_,_,rfl,run_takeDeferred L,?_⟩⟩;refine⟨.tuple #[.string s,.int .i64 0,.int .i64 0],?_,⟨s,0,by rw[kV i];rfl⟩,D⟩;simp only[lF]at e0 q u;simp[results,Tryz.f168,go_sem,e0,q,u]
 case stop =>
  rintro I c g W hD ab ⟨⟨rfl,aa⟩,⟨at_,⟨b,d⟩,a⟩,f⟩ j
  gi_wp2
  have⟨e0,q,u,D⟩:=uj (by omega) j b d a f;refine⟨by simp,.inl ⟨_,_,rfl,run_takeDeferred j,?_⟩⟩;refine⟨.tuple #[.string ⟨#[]⟩,.int .i64 at_,.int .i64 (gn g:Int)],?_,⟨⟨#[]⟩,at_,by rw[lQ ab aa]⟩,D⟩;simp[results,Tryz.f168,go_sem,e0,q,u]
attribute [local go_sem] Oper.semAt_some
def nI(s:List UInt8):gF s=(gn (fO s) == 0):=by
 unfold gF
 by_cases h:∀x∈fO s,x.2.2=0
 ·rw[kV h,all_eq_true.2 (λx a=>by simp[h x a])];rfl
 ·have c:(fO s).all (λp=>p.2.2 == 0)=false:=by
   rw[all_eq_false];simp only[Classical.not_forall]at h;obtain⟨x,a,d⟩:=h;exact⟨x,a,by simpa using d⟩
  rw[c]
  symm
  rw[beq_eq_false_iff_ne];unfold gn
  cases b:(fO s).find? λp=>p.2.2 != 0 with
  | none =>
   exfalso
   rw[List.find?_eq_none]at b
   apply h
   intro x a
   simpa using b x a
  | some x =>
   have:=List.find?_some b;simpa using this
def mP(s:ByteArray)(w:World)(d:s.size<=9223372036854775000):
 Calls prog 115 #[.string s] w λe w'=>e=.returned (.bool (gF s.data.toList))/\Below w.heap.size w w':=by
 have a:=nI s.data.toList;have b:=Lib.hid a;clear a
 go_enter func115,ntmps115
 go_wp2_with (go_at_call 168;refine(yZ s _ d).mono ?_;rintro e w' ⟨⟨nm,at_,rfl⟩,c⟩)
 go_ret
 refine⟨?_,c⟩;rw[b.out];simp only[Array.getD_eq_getD_getElem?];have e:(((gn (fO s.data.toList):Nat):Int) == 0)=(gn (fO s.data.toList) == 0):=by rw[Bool.eq_iff_iff];simp
 simp[e]
def sI:∀(f:Nat) (s:List UInt8) (a c:Nat),(iz f s a c).length<=f+1
 | 0,_,_,_=>by simp[iz]
 | f+1,s,a,c=>by
  rw[iz];simp only[length_cons];have:=sI f s ((gm s a c).2+1) (c+1);split
  ·simp
  ·split
   ·simp
   ·omega
def qg(s:List UInt8):(fO s).length<=10:=by
 unfold fO;split
 ·simp
 ·exact sI 9 s 0 0
def kH(n:Nat):Value:=.int .i64 (n:Int)
def Tryz.infoInt:(prog.info? 3).map (λi=>(i.zero,i.size,i.bytes))=some (some (.int .i64 0),1,8):=by kernel_rfl
def BT{W d:World}{base l n:Nat}{v:Value}{xs:List Value}(h:W.ownsRow base 3 l v n xs)(i:W.grownBy d v.ownBlock):lO W d:=by
 intro k cs t p b c;have j:=(Array.getElem?_eq_some_iff.1 c).1;rw[i.block k j ?_];exact c
 rcases h.2 with⟨rfl,_⟩|⟨g,m,o,rfl,_,a,_⟩
 ·simp[Value.ownBlock]
 ·intro e
  obtain rfl:k=g:=by simpa [Value.ownBlock]using e
  rw[c]at a
  injection a with a
  injection a with _ f
  subst f
  rcases b with b|b <;> exact absurd b (by decide)
def BU{W:World}{B:Nat}{u v:Value}(h:Boxed W B 36 u):lO W (W.setCell ⟨B,0,none⟩ v):=by
 intro k cs t e b a
 have d:k≠B:=by
  rintro rfl;rw[show W.heap[k]?=_ from h]at a
  injection a with a
  injection a with _ c
  subst c
  rcases b with b|b <;> exact absurd b (by decide)
 rw[Below.heap_setCell _ _ _ _ d];exact a
def OrdI(w:World)(a:List kG)(W:World):Prop:=(∀x∈a,x.2.2=0)/\((Boxed W w.heap.size 36 (.slice none 0 0)/\(∃v,Boxed W (w.heap.size+1) 36 v/\W.ownsRow w.heap.size 3 1 v a.length (a.map λx=>kH x.1)/\True))/\Below w.heap.size w W)
def OrdX(w:World)(c:Code)(a:List kG)(W:World):Prop:=(c=.ret/\gn a≠0)/\Boxed W w.heap.size 36 (.slice none 0 0)/\Below w.heap.size w W
def OrdI.own{w:World}{B:Nat}(b:w.heap.size<=B):OwnFrom B (OrdI w) :=
 OwnFrom.and (ownFrom_pure _ _) (OwnFrom.and (OwnFrom.and (Own.from (boxed_own _ _ _) _) (Own.from (holdsRow_own w.heap.size (w.heap.size+1) 36 3 1 (λa:List kG=>a.length) (λa=>a.map λx=>kH x.1) (λ_ _=>True)) _)) (ownFrom_below (Nat.le_refl _) b))
def OrdX.own{w:World}{B:Nat}(a:w.heap.size<=B)(c:Code):OwnFrom B (OrdX w c) :=
 OwnFrom.and (ownFrom_pure _ _) (OwnFrom.and (Own.from (boxed_own _ _ _) _) (ownFrom_below (Nat.le_refl _) a))
def Ed{w W c:World}{a:List kG}{x:kG}{v:Value}{d:Obj}{g b:Nat}(m:∀x∈a,x.2.2=0)(t:x.2.2=0)(j:Boxed W w.heap.size 36 (.slice none 0 0))(l:Boxed W (w.heap.size+1) 36 v)
 (i:W.ownsRow w.heap.size 3 1 v a.length (a.map λx=>kH x.1)) (k:Below w.heap.size w W)
 (p:c.ownsRow w.heap.size 3 1 (.slice (some ⟨g,0,none⟩) (a.length+1) b) (a.length+1) ((a.map λx=>kH x.1)++[.int .i64 (x.1:Int)])) (f:(W.alloc d).grownBy c v.ownBlock) :
 KeepsOthers W (c.setCell ⟨w.heap.size+1,0,none⟩ (.slice (some ⟨g,0,none⟩) (a.length+1) b))/\lO W (c.setCell ⟨w.heap.size+1,0,none⟩ (.slice (some ⟨g,0,none⟩) (a.length+1) b))/\OrdI w (a++[x]) (c.setCell ⟨w.heap.size+1,0,none⟩ (.slice (some ⟨g,0,none⟩) (a.length+1) b)):=by
 have⟨r,s,q,o,n⟩:=l.appended (by decide) i k.size (by omega) p f;have z:lO W (W.alloc d):=mo ((Below.refl _ W).alloc (Nat.le_refl _) _);have A:=BT (i.alloc d) f;have B:=BU (v:=.slice (some ⟨g,0,none⟩) (a.length+1) b) r;refine⟨o,qY (qY z A) B,?_,⟨?_,⟨_,s,?_,trivial⟩⟩,k.trans n⟩
 ·intro y u
  rcases mem_append.1 u with h|h
  ·exact m y h
  ·rw[mem_singleton]at h;rw[h];exact t
 ·exact((j.alloc d).kept f (j.not_row (by decide) i)).other (by omega) _
 ·have e:(a++[x]).length=a.length+1:=by simp
  rw[e,map_append];exact q
def Ah{w X:World}{D n:Nat}{v:Value}{xs:List Value}(f:w.heap.size+3<=D)(a:X.heap[D]?=some (.deferred (some [])))(b:Boxed X w.heap.size 36 v)(d:X.ownsRow w.heap.size 3 1 v n xs)(c:Below w.heap.size w X):
 (X.putObj D (.deferred none)).cell? ⟨w.heap.size,0,none⟩=some v/\(X.putObj D (.deferred none)).ownsRow w.heap.size 3 1 v n xs/\Below w.heap.size w (X.putObj D (.deferred none)):=by
 refine⟨?_,?_,?_⟩
 ·exact(b.kept (grownBy_putObj' X D (.deferred none)) (λe=>by injection e;omega)).cell
 ·exact ownsRow_putObj d _ a rfl
 ·exact c.trans (belowK_b (w:=w) (Nat.le_refl _) X D _ _ (by omega) a rfl rfl)
def FL{w W:World}{n:Nat}{u v:Value}{xs:List Value}(a:Boxed W w.heap.size 36 u)(b:W.ownsRow w.heap.size 3 1 v n xs)(c:Below w.heap.size w W):
 KeepsOthers W (W.setCell ⟨w.heap.size,0,none⟩ v)/\Boxed (W.setCell ⟨w.heap.size,0,none⟩ v) w.heap.size 36 v/\(W.setCell ⟨w.heap.size,0,none⟩ v).ownsRow w.heap.size 3 1 v n xs/\Below w.heap.size w (W.setCell ⟨w.heap.size,0,none⟩ v) :=
 ⟨KeepsOthers.setCell _ _ _,a.set v,b.kept (grownBy_setCell' W w.heap.size v) (.inr (a.not_row (by decide) b).symm),c.setCell (p:=⟨w.heap.size,0,none⟩) (Nat.le_refl _) _⟩
def BV{s:List UInt8}(h:gn (fO s)=0):fT s=(fO s).map (·.1):=by
 unfold fT;rw[if_pos (by rw[nI,h];rfl)]
def y8{s:List UInt8}(h:gn (fO s)≠0):fT s=[]:=by
 unfold fT;rw[if_neg (by rw[nI];simpa using h)]
def oM(s:ByteArray)(w:World)(D:s.size<=9223372036854775000):
 Calls prog 186 #[.string s] w λe w'=>∃v,e=.returned v/\w'.ownsRow w.heap.size 3 1 v (fT s.data.toList).length ((fT s.data.toList).map kH)/\Below w.heap.size w w':=by
 refine(callsIn_wide (n:=5)).1 ?_;refine callsIn_of_wp_marks func186 rfl trivial ?_ rfl;simp only[ntmps186,size_toArray,length_cons,length_nil,Nat.reduceAdd,Nat.reduceSub,Array.replicate_succ,Array.replicate_zero,push_toArray,append_toArray,nil_append,cons_append];have⟨i0,hi,ac,ad,ae⟩:=info_parts Tryz.infoInt
 gi_wp2_with (refine⟨trivial,?_⟩;gi_at_call 197;refine(xh _ _ _).mono ?_;rintro e w' ⟨rfl,rfl⟩)
 have F:=((Boxed.new w 36 (.slice none 0 0)).alloc (.cells #[.slice none 0 0] 36)).alloc (.cells #[.string s] 9);have q:=(Boxed.new (w.alloc (.cells #[.slice none 0 0] 36)) 36 (.slice none 0 0)).alloc (.cells #[.string s] 9);have u:=Boxed.new ((w.alloc (.cells #[.slice none 0 0] 36)).alloc (.cells #[.slice none 0 0] 36)) 9 (.string s);simp only[World.size_alloc]at q u
 have G:Below w.heap.size w (((w.alloc (.cells #[.slice none 0 0] 36)).alloc (.cells #[.slice none 0 0] 36)).alloc (.cells #[.string s] 9)) :=
  (((Below.refl _ w).alloc (Nat.le_refl _) _).alloc (by simp) _).alloc (by simp;omega) _
 have ab:(((w.alloc (.cells #[.slice none 0 0] 36)).alloc (.cells #[.slice none 0 0] 36)).alloc (.cells #[.string s] 9)).heap.size=w.heap.size+3:=by simp
 obtain⟨m,J⟩:∃m,((w.alloc (.cells #[.slice none 0 0] 36)).alloc (.cells #[.slice none 0 0] 36)).alloc (.cells #[.string s] 9)=m:=⟨_,rfl⟩;rw[J]at F q u G ab ⊢;clear J;have an:=qg s.data.toList
 refine wpIn_rangeFunc_ownH rfl (by omega) (gf:=246) (lb:=#[.pointer (some ⟨w.heap.size+1+1,0,none⟩)]) rfl trivial (enters_of func246 (by kernel_rfl) rfl)
  (qf 4 (by omega) s D (w.heap.size+1+1) m u) qY Ag (Below.refl _ _) (λ_=>rfl)
  (OrdI w) (OrdX w) (OrdI.own (by omega)) (OrdX.own (by omega))
  ⟨by simp,⟨F,⟨_,q,World.ownsRow_nil _ _ _ _,trivial⟩⟩,G⟩
  (λx o W=>∃h,w.heap.size+1<h/\PartAt W h x/\o={ tmps:=#[.string s,undef,.pointer (some ⟨w.heap.size,0,none⟩),.pointer (some ⟨w.heap.size+1,0,none⟩),.pointer (some ⟨h,0,none⟩),.string s,.func (.func 246) #[] #[.pointer (some ⟨w.heap.size+1+1,0,none⟩)],kQ x,undef,undef,undef,undef,undef,undef,undef,undef,undef],defers:=[] })
  (λx o _ X Y row D K O=>by obtain⟨h,h1,h2,h3⟩:=D;exact⟨h,h1,PartAt.own h x () X Y row h2 K (λr e=>(O r e).2),h3⟩)
  ?assign ?body ?done ?stop
 case assign =>
  rintro l Q x W af ⟨i,⟨a,⟨v,d,f,_⟩⟩,b⟩ j;unfold kQ
  gi_wp2
  exact j _ _ ((KeepsOthers.alloc _ _).from _) (mo ((Below.refl _ W).alloc (Nat.le_refl _) _)) ⟨i,⟨a.alloc _,⟨v,d.alloc _,f.alloc _,trivial⟩⟩,b.alloc b.size _⟩ ⟨W.heap.size,d.lt,World.alloc_heap_new W _,rfl⟩
 case body =>
  rintro l Q x o W A ⟨r,O⟩ ⟨i,⟨a,⟨v,d,f,_⟩⟩,b⟩ ⟨h,ak,I,rfl⟩ ao;have p0:=I.cell0;have p2:=I.cell2;have d1:=d.cell;have aj:=b.size
  by_cases k:x.2.2=0
  ·have t:((x.2.2:Int) != 0)=false:=by rw[k];rfl
   have V:=Lib.hid k;clear k
   gi_wp2_with (gi_at_builtin;refine wpListIn_append_own _ rfl _ _ 36 rfl w.heap.size 3 i0 (.int .i64 0) 1 8 underlying36 hi ac ad ae rfl (by decide) _ _ _ rfl (f.alloc _) ⟨W.heap.size,0,none⟩ 1 1 [.int .i64 (x.1:Int)] rfl rfl (cell_one_new _ _ _) (by simp[Value.oneCell']) (by unfold maxLen;omega) (by omega) (by simp;omega) ?_;intro v' w1 C L _;obtain⟨g',ah,rfl⟩:=ownsRow_succ C;have⟨P,_⟩:=d.appended (by decide) f b.size (by omega) C L;have al:=P.cell;have am:=P.frozen;have R:=Lib.hid (Ed (x:=x) i V.out a d f b C L))
   exact⟨R.1.from _,R.2.1,R.2.2⟩
  ·have t:((x.2.2:Int) != 0)=true:=by rw[bne_iff_ne];omega
   have Z:=a.cell;have f0:=a.frozen;have R:=Lib.hid (kW i k)
   gi_wp2
   exact⟨(KeepsOthers.setCell _ _ _).from _,⟨rfl,by rw[R.out];exact k⟩,a.set _,b.setCell (p:=⟨w.heap.size,0,none⟩) (Nat.le_refl _) _⟩
 case done =>
  rintro E ys W hD rfl ⟨i,⟨a,⟨v,d,f,_⟩⟩,b⟩ j;have Z:=a.cell;have f0:=a.frozen;have d1:=d.cell;have e:=kV i;have hE:=Lib.hid e;clear e;have S:=Lib.hid (FL a f b);have B:=BV hE.out;have A:(fT s.data.toList).length=(fO s.data.toList).length:=by rw[B];simp
  have M:(fT s.data.toList).map kH=(fO s.data.toList).map λx=>kH x.1:=by rw[B];simp
  have T:=Lib.hid A;have U:=Lib.hid M;clear B A M
  rcases f.2 with⟨rfl,_⟩|⟨g,ag,ai,rfl,K⟩
  all_goals
   gi_wp2
   have H:=S.1.same E _ j rfl;have⟨e0,y,z⟩:=Ah (by omega) H S.2.1 S.2.2.1 S.2.2.2;refine⟨by simp,.inl ⟨_,_,rfl,run_takeDeferred H,?_⟩⟩;refine⟨_,?_,⟨_,rfl,by rw[T.out,U.out];exact y,z⟩⟩;simp[results,Tryz.f186,go_sem,e0]
 case stop =>
  rintro E c Q W hD aa ⟨⟨rfl,N⟩,a,b⟩ j
  gi_wp2
  have⟨e0,y,z⟩:=Ah (by omega) j a (World.ownsRow_nil _ _ _ _) b;refine⟨by simp,.inl ⟨_,_,rfl,run_takeDeferred j,?_⟩⟩;refine⟨_,?_,⟨_,rfl,by rw[y8 (by rw[lQ aa N];exact N)];exact y,z⟩⟩;simp[results,Tryz.f186,go_sem,e0]
end Go.Proofs.YtlpmiimgacfmkaaGreatDoor
