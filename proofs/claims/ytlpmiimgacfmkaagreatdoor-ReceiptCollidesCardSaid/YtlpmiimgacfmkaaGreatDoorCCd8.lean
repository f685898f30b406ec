/- Part of the proof. -/
import Derived.Test.YtlpmiimgacfmkaaGreatDoorCVy7
set_option linter.all false
set_option maxHeartbeats 8000000
set_option maxRecDepth 100000
namespace Go.Proofs.YtlpmiimgacfmkaaGreatDoor
open Go.Proofs.Tryz List
open Go.RowKit Go.Shelf
def vM{s:Nm}{a:AG}(h:lL s=some a)(j:s.length<=2000000):l6 a=true/\a.r.length<=2000000/\a.w.length<=2000000:=by
 unfold lL at h;have⟨x,b,h⟩:=Option.bind_eq_some_iff.1 h;have⟨y,g,h⟩:=Option.bind_eq_some_iff.1 h;split at h
 ·rename_i f
  injection h with h
  have c:=oe (l:=x.1) (q:=x.2) b;have i:=tL (l:=x.1) (q:=x.2) b;have d:=oe (l:=y.1) (q:=y.2) g;have e:=rO ⟨s,0,0⟩;simp only at e;rw[<-h];exact⟨f.2,by have:=c.2;simp only;omega,by have:=d.2;simp only;omega⟩
 ·cases h
def nO{rt:Nm}{p:PX}{a:AG}(h:lK rt p=.ok a):0<=p.i/\p.i<p.n/\lL p.s=some a/\jW (gZ (1::p.s)) (bl (p.i.toNat+1) (p.n.toNat+1)) p.d=(rt,0):=by
 unfold lK qh at h;split at h
 ·cases h
 ·rename_i f
  split at h
  ·cases h
  ·rename_i b e
   split at h
   ·rename_i c
    injection h with h
    rw[<-h];exact⟨qo,qo,e,c⟩
   ·cases h
def CC{rt:Nm}{n:Int}{ps:List PX}:∀ {m:Nat} {l:List AG},m<=ps.length->uH rt n ps m=.ok l->l.length=m/\∀j p,j<m->ps[j]?=some p->p.n=n/\(0<j->(ps.map PX.i).getD (j - 1) 0<p.i)/\∃a,l[j]?=some a/\lK rt p=.ok a
 | 0,l,_,h=>by rw[uH]at h;injection h with h;rw[<-h];exact⟨rfl,λj p f=>absurd f qo⟩
 | m+1,l,B,h=>by
  rw[uH]at h;split at h
  ·cases h
  ·rename_i C u
   have⟨e,k⟩:=CC qo u;obtain⟨p,g⟩:∃p,ps[m]?=some p:=⟨_,gg qo⟩;rw[g]at h;simp only at h;split at h
   ·cases h
   ·rename_i x
    split at h
    ·cases h
    ·rename_i y
     split at h
     ·cases h
     ·rename_i a w
      injection h with h
      rw[<-h];refine⟨by rw[gu,e];rfl,λj q f c=>?_⟩
      rcases Nat.lt_or_eq_of_le (Nat.le_of_lt_succ f)with d|rfl
      ·have⟨o,r,b,s,t⟩:=k j q d c
       exact⟨o,r,b,by rw[List.getElem?_append_left (by rw[e];exact d)];exact s,t⟩
      ·rw[g]at c
       injection c with c
       subst c;refine⟨Decidable.not_not.1 x,λd=>?_,a,by rw[<-e,List.getElem?_append_right (fW _),Nat.sub_self];rfl,w⟩;have z:¬((ps.map PX.i).getD j 0<=(ps.map PX.i).getD (j - 1) 0):=λv=>y ⟨d,v⟩;have A:(ps.map PX.i).getD j 0=p.i:=by rw[getD_eq_getElem?_getD,List.getElem?_map,g];rfl
       omega
def CD{rt:Nm}{n:Int}{ps:List PX}:∀ {m:Nat} {k:Int},uH rt n ps m=.error k->k≠0
 | 0,k,h=>by rw[uH]at h;cases h
 | m+1,k,h=>by
  rw[uH]at h;split at h
  ·rename_i b a
   injection h with h
   rw[<-h];exact CD a
  ·split at h
   ·cases h
   ·split at h
    ·injection h with h;omega
    ·split at h
     ·injection h with h;omega
     ·split at h
      ·rename_i b a
       injection h with h
       have:=tA a;omega
      ·cases h
def CE{rt:Nm}{nm:ON}{P n:Int}{ps:List PX}{k:Int}(h:Cz rt nm P n ps=.error k):k≠0:=by
 unfold Cz at h;split at h
 ·injection h with h;omega
 ·split at h
  ·rename_i a
   injection h with h
   rw[<-h];exact a
  ·split at h
   ·injection h with h;omega
   ·exact CD h
structure VdOk(rt:Nm)(nm:ON)(P n:Int)(ps:List PX)(l:List AG):Prop where
 pos:0<ps.length
 nm0:eY nm=0
 at_:0<=P/\P<65536
 len:l.length=ps.length
 each:∀j p,ps[j]?=some p->p.n=n/\(0<j->(ps.map PX.i).getD (j - 1) 0<p.i)/\∃a,l[j]?=some a/\lK rt p=.ok a
def CF{rt:Nm}{nm:ON}{P n:Int}{ps:List PX}{l:List AG}(h:Cz rt nm P n ps=.ok l):VdOk rt nm P n ps l:=by
 unfold Cz at h;split at h
 ·cases h
 ·rename_i e
  split at h
  ·cases h
  ·rename_i d
   split at h
   ·cases h
   ·rename_i f
    have⟨b,c⟩:=CC (fW _) h;exact⟨qo,Decidable.not_not.1 d,qo,b,λj p a=>c j p (gV.1 a).1 a⟩
def PX.pf(p:PX):PF:=⟨p.i.toNat,p.s,p.A,p.c,p.d⟩
def Gr{n:Int}{p:PX}(a:p.n=n)(b:0<=p.i)(c:0<=n):(p.pf).cs n.toNat=p.cs:=by
 unfold PF.cs PX.pf PX.cs;rw[a,show ((p.i.toNat:Nat):Int)=p.i by omega,show ((n.toNat:Nat):Int)=n by omega]
def VdOk.idx{rt:Nm}{nm:ON}{P n:Int}{ps:List PX}{l:List AG}(h:VdOk rt nm P n ps l):∀p∈ps,p.n=n/\0<=p.i/\p.i<n:=λp f=>by
 obtain⟨j,e,rfl⟩:=getElem_of_mem f;have⟨b,_,a,_,c⟩:=h.each j _ (gg e);have⟨d,g,_⟩:=nO c;exact⟨b,d,qo⟩
def VdOk.asc{rt:Nm}{nm:ON}{P n:Int}{ps:List PX}{l:List AG}(h:VdOk rt nm P n ps l):sT (ps.map λp=>p.pf.i)=true:=by
 refine EM λk a=>?_;rw[length_map]at a
 rcases Nat.eq_zero_or_pos k with b|b
 ·exact .inl b
 ·refine .inr ?_
  have c:=(h.each k _ (gg a)).2.1 b;have d:=h.idx _ (getElem_mem a);have e:=h.idx _ (getElem_mem (show k - 1<ps.length by omega));rw[getD_eq_getElem?_getD,List.getElem?_map,gg qo]at c;rw[getD_eq_getElem?_getD,getD_eq_getElem?_getD,List.getElem?_map,List.getElem?_map,gg a,gg qo];simp only[Option.map_some,Option.getD_some,PX.pf]at c ⊢;omega
def CG(rt:Nm)(nm:ON)(P n:Int)(ps:List PX):Int:=match Cz rt nm P n ps with
 | .error k=>k
 | .ok l=>match lW nm P.toNat (ps.map λp=>p.pf.i) l with
  | .error k=>k
  | .ok _=>0
def mC{rt:Nm}{nm:ON}{P n:Int}{ps:List PX}(h:CG rt nm P n ps=0):∃l,VdOk rt nm P n ps l:=by
 unfold CG at h;split at h
 ·rename_i k a
  exact absurd h (CE a)
 ·rename_i l b
  exact⟨l,CF b⟩
def Jc(v:Value):Prop:=∃(b o:Int) (A1 A2 A3 a:Option Addr) (g c h d i e j f:Nat),v=.agg #[.int .u8 b,.int .i64 o,.slice A1 g c,.slice A2 h d,.slice A3 i e,.slice a j f]
def CI(w:World)(k:Int)(e:Ending)(w':World):Prop:=∃v,e=.returned (.tuple #[v,.int .i64 k])/\Jc v/\Fr [] w w'
def vN(rt:Nm)(B:rt.length=32)(k q r at_ n b:Int)(so st:ByteArray)(A:Option Addr)(m c:Nat)(w:World)(N:b≠0)
 (x:∀W,Fr [] w W->Calls prog 63 #[.agg #[.int .i64 k,.string so,.int .i64 q,.int .i64 r,.string st,.int .i64 at_,.int .i64 n,.slice A m c],fo rt] W (fi W (.tuple #[.slice none 0 0,.int .i64 b]))) :
 Calls prog 22 #[fo rt,.agg #[.int .i64 k,.string so,.int .i64 q,.int .i64 r,.string st,.int .i64 at_,.int .i64 n,.slice A m c]] w (fi w (.tuple #[mp,.int .i64 b])):=by
 have Y:(b == 0)=false:=by simpa using N
 have y:(eO rt).length=32:=by rw[eP,B]
 unfold mp;have⟨h,d⟩:=eR ((w).alloc (.cells (eO rt).toArray 57));have O:(h).heap.size=w.heap.size+1:=by rw[<-d,jZ];try omega
 have F:(h).rowIs (w.heap.size) 57 32 (λj=>.int .u8 ((rt.getD j 0).toNat:Int)):=by have L:=gX (t:=57) (w) y;rw[show w.heap.size=(w).heap.size from by first|rfl|omega,<-d];exact L
 have u:Fr [] (w) h:=by rw[<-d];exact(Fq [] (w)).alloc _
 have⟨w2,C,P,G,l⟩:=ir h #[.int .i64 k,.string so,.int .i64 q,.int .i64 r,.string st,.int .i64 at_,.int .i64 n,.slice A m c] 39 (w.heap.size+1);have⟨V,D,Q,H,g⟩:=ir w2 #[.int .u8 0,.int .i64 0,.slice none 0 0,.slice none 0 0,.slice none 0 0,.slice none 0 0] 64 (w.heap.size+1+1);have E:=G.fr g qs;have⟨x0,x1,x2,x3,x4,x5,x6,x7⟩:=E.m8;have I:=Hd (fw (eT F (l.then g) qs) B);have i:=Hd (An d (An C D));have p:=(u.then l).then g;have o:=x V p;unfold fo at o;have J:=Hd o;have s:=Hd (An H p);clear d C D F G H E u l g O P Q p o x;unfold fo
 go_enter func22,ntmps22
 go_upto_region 1 with fail
 rw[i.1,i.2.1,i.2.2]
 go_upto_region 2 with(first
  | (refine fG qr ?_;(with_reducible refine wp_load_mid 57 (.tmp 2) rfl w.heap.size 0 rfl (eO rt) (.array 32 5) I.out qk rfl (by rw[y];kernel_rfl) ?_))
  | (go_at_call 63;(with_reducible refine J.out.mono ?_);rintro e X ⟨rfl,z⟩;have a:=Hd (An (s.1.fr z qs) (s.2.then z))))
 have⟨y0,y1,y2,y3,y4,y5⟩:=a.1.m6;have Z:=a.1.f 0;have v1:=a.1.f 1;have v2:=a.1.f 2;have v3:=a.1.f 3;have v4:=a.1.f 4;have v5:=a.1.f 5
 go_wp2
 have⟨w5,M,R,K⟩:=rn (X) (w.heap.size+1+1) a.1 (.int .u8 0) L0 gz gz gz gz;rw[M];have⟨S,t1,t2,t3,T,U⟩:=R.m6;refine bodyPost_ret (v:=.tuple #[.agg #[.int .u8 0,L0,gz,gz,gz,gz],b]) (by simp[results,results22,go_sem,S,t1,t2,t3,T,U]) rfl ?_;exact⟨rfl,a.2.trans K (by simp;omega)⟩
def rz{α β:Type}{f g:α->List β}:∀ {l:List α},(∀x∈l,f x=g x)->l.flatMap f=l.flatMap g
 | [],_=>rfl
 | x::r,h=>by rw[flatMap_cons,flatMap_cons,h x qs,rz λy a=>h y (by simp[a])]
def Ay(rt:Nm)(C:rt.length=32)(nm:ON)(so st:ByteArray)(P n:Int)(m:Nat)(A:Option Addr)(c:Nat)(ps:List PX)(w:World)(Y:Ok w)(V:nm.owner.length<=140737488355328)(X:nm.text.length<=140737488355328)(D:fu nm=.agg #[.int .i64 nm.kind,.string so,.int .i64 nm.number,.int .i64 nm.index,.string st])(Q:P<65536)(f:PrX w A c ps)(H:∀p∈ps,p.ok)(B:ps.length=m)(G:m<=13):
 Calls prog 22 #[fo rt,tw nm.kind so nm.number nm.index st P n (.slice A m c)] w (CI w (CG rt nm P n ps)):=by
 have t:=λW (hW:Fr [] w W)=>ry rt C nm so st P n m A c ps W (Y.fr0 hW) V X D Q (f.fr0 hW) H B G;unfold CG
 cases u:Cz rt nm P n ps with
 | error k =>
  rw[u]at t
  exact(vN rt C nm.kind nm.number nm.index P n k so st A m c w (CE u) t).mono λe w' o=>⟨mp,o.1,⟨0,0,none,none,none,none,0,0,0,0,0,0,0,0,rfl⟩,o.2⟩
 | ok l =>
  rw[u]at t;have d:=CF u;have y:=d.idx
  have U:0<=n:=by
   obtain⟨p,f⟩:∃p,p∈ps:=⟨_,getElem_mem d.pos⟩;have:=y p f;omega
  have T:(ps.map PX.pf).flatMap (PF.cs n.toNat)=ps.flatMap PX.cs:=by
   rw[flatMap_map];exact rz λp f=>Gr (y p f).1 (y p f).2.1 U
  have R:PrL w n.toNat A c (ps.map PX.pf):=⟨by rw[T,length_map];exact f.own,λq hq=>by
   obtain⟨p,Z,rfl⟩:=mem_map.1 hq;exact f.ds p Z⟩
  have aa:∀a∈l,l6 a=true/\a.r.length<=2000000/\a.w.length<=2000000:=λa S=>by
   obtain⟨j,F,rfl⟩:=getElem_of_mem S;have⟨_,_,b,h,x⟩:=d.each j _ (gg (by rw[<-d.len];exact F));rw[gg F]at h
   injection h with h
   rw[h];exact vM (nO x).2.2.1 (H _ (getElem_mem _)).s
  have ad:=d.at_
  have E:=uq rt C nm so st P.toNat n.toNat m A c (ps.map PX.pf) l w d.nm0 D qo R (by rw[length_map];exact B) (by have:=d.pos;omega) G (by rw[d.len,B]) aa (λW hW=>by
   have o:=t W hW;rw[show ((P.toNat:Nat):Int)=P by omega,show ((n.toNat:Nat):Int)=n by omega];refine o.mono λe w' g=>?_;unfold vv;rw[map_map,if_pos (by exact d.asc)];exact g)
  rw[show ((P.toNat:Nat):Int)=P by omega,show ((n.toNat:Nat):Int)=n by omega,map_map]at E;refine E.mono λe w' g=>?_;unfold tu at g
  show CI w (match lW nm P.toNat (ps.map (PF.i ∘ PX.pf)) l with|.error k=>k|.ok _=>0) e w'
  split at g
  ·rename_i k z
   rw[z];exact⟨mp,g.1,⟨0,0,none,none,none,none,0,0,0,0,0,0,0,0,rfl⟩,g.2⟩
  ·rename_i b s z
   rw[z];obtain⟨v,N,O,h⟩:=g;have⟨J,K,L,I,ic,ab,lc,M,ac,x,_⟩:=O.ex;exact⟨v,N,⟨_,_,J,K,L,I,_,ic,_,ab,_,lc,_,M,x⟩,h⟩
def jr(X:World)(z:Array Value)(t:TypeId):(X.alloc (.cells z t)).there X.heap.size 0 z.size:=λj b=>by
 have a:=BoxN.new X t z;exact⟨by rw[Nat.zero_add,a.c j,Array.getElem?_eq_getElem qo];rfl,by rw[Nat.zero_add];exact a.f j⟩
def mD{d:Nm}(v:Value)(a:d.length=32):(lX d v).length=33:=by unfold lX;rw[gu,eP,a];rfl
def zx{d:Nm}{v:Value}(b:v.oneCell'=true):∀u∈lX d v,u.oneCell'=true:=λu a=>by
 rcases mem_append.1 a with h|h
 ·exact gN d u h
 ·rw[ip.1 h];exact b
def zy(w:World){s:Nm}{e:Value}{t:TypeId}(h:fg s=e):Row (w.alloc (.cells #[e] t)) (w.alloc (.cells #[e] t)).heap.size 1 (some ⟨w.heap.size,0,none⟩) 1 ([s].map fg):=by
 refine⟨qs,λ_=>⟨_,0,rfl,qs,λj u a=>?_⟩⟩;have:=jK w [e] t j u (by rw[<-h];simpa using a);rw[fV]at this;rw[Nat.zero_add];exact this
def Az{a b:Nm}(h:gB 0 [a]=gB 0 [b]):a=b:=by
 simp only[gB,kf,flatMap_cons,flatMap_nil,append_nil,length_cons,length_nil]at h;have d:=append_cancel_left h;have e:=congrArg List.length d;simp only[gu]at e;have c:∀n,(G8 n).length=4:=λn=>rfl;rw[c,c]at e;exact(append_inj d (by rw[c,c])).2
def ye{d:Nm}(c:d.length=32)(z:Array Value)(e:z.size=33){v:Value}:(((eO d).zipIdx).foldl (λcs x=>cs.setIfInBounds x.2 x.1) z).setIfInBounds 32 v=(lX d v).toArray:=by
 have b:(eO d).length=32:=by rw[eP,c]
 apply Array.ext_getElem?
 intro i;have f:=lB (eO d) 0 z;rw[Array.getElem?_setIfInBounds,oD (eO d) 0 z qo i];simp only[lX,List.getElem?_toArray,List.getElem?_append,b,Nat.zero_add,Nat.zero_le,true_and,Nat.sub_zero]
 by_cases h:32=i
 ·subst h
  rw[if_pos rfl,if_pos (by omega),if_neg qo];rfl
 ·rw[if_neg h]
  by_cases a:i<32
  ·rw[if_pos a,if_pos a]
  ·rw[if_neg a,if_neg a,Array.getElem?_eq_none qo,List.getElem?_eq_none (by simp;omega)]
def gW(W:World){d:Nm}(a:d.length=32)(A:Option Addr)(n c:Nat):(Instr.build 258 #[(0,.agg (eO d).toArray),(1,.slice A n c)]).run prog W=.ok (.agg (lX d (.slice A n c)).toArray) W:=by
 have b:(eO d).length=32:=by rw[eP,a]
 simp[Instr.build,go_sem,b,lB];rw[ye a _ rfl]
def AB(rt Q R:Nm)(pa pb:List Nm)(i n N:Nat)(A1 A2:Option Addr)(y z:Nat)(w:World)(aX:Ok w)(bm:i<n)(bn:n<=13)(bd:0<N)(aQ:(bl (i+1) (n+1)).length=N)(l1:pa.length=N)(l2:pb.length=N)(p1:∀p∈pa,p.length=32)(p2:∀p∈pb,p.length=32)(o1:Own w 57 32 A1 N y (pa.flatMap eO))(o2:Own w 57 32 A2 N z (pb.flatMap eO))(z1:Q.length<=2000000)(z2:R.length<=2000000)(aI:iE (gZ (1::Q)) (bl (i+1) (n+1)) pa N=rt)(aJ:iE (gZ (1::R)) (bl (i+1) (n+1)) pb N=rt)(aW:Q≠R):
 Calls prog 78 #[.agg #[.int .i64 (i:Int),.int .i64 (n:Int),fg Q,.slice A1 N y],.agg #[.int .i64 (i:Int),.int .i64 (n:Int),fg R,.slice A2 N z]] w (CM w):=by
 have be:N<=1000:=by have:=Ef (i+1) (n+1) qo qo;omega
 have⟨sa,aK,_,_⟩:=eS Q;have⟨sb,aL,_,_⟩:=eS R;have⟨x,aj⟩:=eR (gZ (1::Q));have⟨lb,ak⟩:=eR (gZ (1::R));have Y:x.length=32:=by rw[<-aj];exact fy _
 have Z:lb.length=32:=by rw[<-ak];exact fy _
 have aR:(eO x).length=32:=by rw[eP,Y]
 have aS:(eO lb).length=32:=by rw[eP,Z]
 have⟨t1,ar,_,_⟩:=eS (1::Q);have⟨t2,au,_,_⟩:=eS (1::R);rw[aK,aL];have⟨w1,aY,bj,n1,f1⟩:=ir w #[.int .i64 (i:Int),.int .i64 (n:Int),.string sa,.slice A1 N y] 53 w.heap.size;have⟨w2,aZ,bk,n2,f2⟩:=ir w1 #[.int .i64 (i:Int),.int .i64 (n:Int),.string sb,.slice A2 N z] 53 (w.heap.size+1);have m1:=n1.fr f2 qs;have HB:=Hd (An m1 n2);have HF:=Hd (f1.then f2);have aq:=Hd (λ(W:World) (hW:Fr [] w2 W)=>aX.fr0 ((f1.then f2).then hW));have ap:=Hd (λ(W:World) (_:Fr [] w2 W)=>(by have h:=tB (.int .i64 (i:Int)) (.int .i64 (n:Int)) (.slice A1 N y) Q W qo rfl rfl rfl;rw[aK,ar]at h;exact h:Calls prog 141 #[.agg #[.int .i64 (i:Int),.int .i64 (n:Int),.string sa,.slice A1 N y]] W (fi W (.string t1))));have av:=Hd (λ(W:World) (_:Fr [] w2 W)=>(by have h:=tB (.int .i64 (i:Int)) (.int .i64 (n:Int)) (.slice A2 N z) R W qo rfl rfl rfl;rw[aL,au]at h;exact h:Calls prog 141 #[.agg #[.int .i64 (i:Int),.int .i64 (n:Int),.string sb,.slice A2 N z]] W (fi W (.string t2))));have an:=Hd (λ(W:World) (hW:Fr [] w2 W)=>(by have h:=oP (1::Q) W (aq.out W hW) (by simp;omega);rw[ar,aj]at h;exact h:Calls prog 90 #[.string t1] W (fN W x)));have aN:=Hd (λ(W:World) (hW:Fr [] w2 W)=>(by have h:=oP (1::R) W (aq.out W hW) (by simp;omega);rw[au,ak]at h;exact h:Calls prog 90 #[.string t2] W (fN W lb)));have HW:=Hd (An aY aZ);rw[aj]at aI;rw[ak]at aJ;have F:=Hd (An aI (An aJ (An (An l1 (An l2 (An p1 p2))) (An (An aj ak) (An (An ar au) (An aW (An aQ (An z1 z2))))))));have HO:=Hd (An o1 o2);clear aY aZ n1 n2 m1 f1 f2 bj bk aI aJ l1 l2 p1 p2 aj ak ar au aW aQ o1 o2 aX aK aL z1 z2
 go_enter func78,ntmps78
 go_upto_region 1 with fail
 rw[HW.1,HW.2]
 have HSS:=Hd (λ(X:World) (U:Fr [] w2 X)=>(show X.cell? ⟨w.heap.size,0,none⟩=some (.int .i64 (i:Int))/\X.cell? ⟨w.heap.size,1,none⟩=some (.int .i64 (n:Int))/\X.cell? ⟨w.heap.size,2,none⟩=some (.string sa)/\X.cell? ⟨w.heap.size,3,none⟩=some (.slice A1 N y)from by
  have h:=HB.1.fr U qs;exact⟨h.c 0,h.c 1,h.c 2,h.c 3⟩))
 have hC:Fr [] w2 w2.drew:=(Fq [] w2).drew;refine jw (a:=?va) (λa' W'=>∃S,a'={ tmps:=((((((((Act.tmps ?va).setIfInBounds 10 (.agg #[.int .i64 (i:Int),.int .i64 (n:Int),.string sa,.slice A1 N y])).setIfInBounds 11 (.string t1)).setIfInBounds 12 (.agg (eO x).toArray)).setIfInBounds 13 (.pointer (some ⟨w.heap.size,3,none⟩))).setIfInBounds 14 (.slice A1 N y)).setIfInBounds 15 (.agg (lX x (.slice A1 N y)).toArray)).setIfInBounds 7 (.pointer (some ⟨S,0,none⟩))),defers:=[] }/\W'.rangeAt S 0 (lX x (.slice A1 N y))/\Fr [] w2 W'/\w2.heap.size<=S/\S<W'.heap.size) ?_ ?_
 ·refine eU (λW:World=>Fr [] w2 W) 7 qk ?_ qd
  show fc 0 ..
  refine gJ rfl ?_;try simp only[qq]
  show fc 3 ..
  iterate 2 (refine gJ rfl ?_;try simp only[qq])
  refine DG (G:=?G) (H:=(λX J=>X.there J 0 33/\J<X.heap.size/\w2.heap.size<=J/\Fr [] w2 X)) (λaa=>?go) ?fin
  case go =>
   refine iy (i:=1) (j:=6) qk qd qd rfl rfl (λK b=>?_) (λK b=>?_)
   ·rw[if_pos qr]
    go_simp
    go_at_call 141
    (with_reducible refine(ap.out _ hC).mono ?_);rintro e B ⟨rfl,k⟩;have D:=(hC).then k;refine b _ _ D ?_;clear b K
    try simp only[qq]
    refine iy (i:=2) (j:=6) qk qd qd rfl rfl (λK b=>?_) (λK b=>?_)
    ·rw[if_pos qr]
     go_simp
     go_at_call 90
     (with_reducible refine(an.out _ D).mono ?_);rintro e r ⟨rfl,k⟩;have s:=(D).then k;refine b _ _ s ?_;clear b K
     try simp only[qq]
     unfold fo;have E:=λX=>gW X Y A1 N y;have L:=s;refine fm (i:=5) (v:=.agg (lX x (.slice A1 N y)).toArray) qk fh rfl qd qk (λ_ _ _ h=>h) (Or.inl ⟨qr,λX U=>?_⟩) (by assumption) ?_
     ·have O:=E X
      simp[execOp,Act.eval,O,Sem.run_bind,Result.andThen]
     clear E L
     try simp only[qq]
     refine hO (i:=6) rfl λK b=>?_;go_simp
     have⟨o,l⟩:=eR ((r).alloc (.cells ((List.toArray (.int .u8 0::.int .u8 0::.int .u8 0::.int .u8 0::.int .u8 0::.int .u8 0::.int .u8 0::.int .u8 0::.int .u8 0::.int .u8 0::.int .u8 0::.int .u8 0::.int .u8 0::.int .u8 0::.int .u8 0::.int .u8 0::.int .u8 0::.int .u8 0::.int .u8 0::.int .u8 0::.int .u8 0::.int .u8 0::.int .u8 0::.int .u8 0::.int .u8 0::.int .u8 0::.int .u8 0::.int .u8 0::.int .u8 0::.int .u8 0::.int .u8 0::.int .u8 0::.slice none 0 0::[]))) 258));have g:o.there (r).heap.size 0 33:=by rw[<-l];exact jr (r) _ _
     have t:Fr [] w2 o:=by rw[<-l];exact(s).alloc _
     have f:(r).heap.size<o.heap.size:=by rw[<-l,jZ];first|done|omega
     have A:w2.heap.size<=(r).heap.size:=(s).size;rw[l];refine b _ _ t ?_;clear b K l;have⟨q,M⟩:=eR ((r).heap.size);rw[M]at g f A ⊢;clear M
     try simp only[qq]
     exact aa o q ⟨g,f,A,t⟩
    ·rw[if_pos qr]
     go_simp
     have⟨r,l⟩:=eR ((B).alloc (.cells ((List.toArray (.int .u8 0::.int .u8 0::.int .u8 0::.int .u8 0::.int .u8 0::.int .u8 0::.int .u8 0::.int .u8 0::.int .u8 0::.int .u8 0::.int .u8 0::.int .u8 0::.int .u8 0::.int .u8 0::.int .u8 0::.int .u8 0::.int .u8 0::.int .u8 0::.int .u8 0::.int .u8 0::.int .u8 0::.int .u8 0::.int .u8 0::.int .u8 0::.int .u8 0::.int .u8 0::.int .u8 0::.int .u8 0::.int .u8 0::.int .u8 0::.int .u8 0::.int .u8 0::.slice none 0 0::[]))) 258));have g:r.there (B).heap.size 0 33:=by rw[<-l];exact jr (B) _ _
     have s:Fr [] w2 r:=by rw[<-l];exact(D).alloc _
     have f:(B).heap.size<r.heap.size:=by rw[<-l,jZ];first|done|omega
     have A:w2.heap.size<=(B).heap.size:=(D).size;rw[l];refine b _ _ s ?_;clear b K l;have⟨q,M⟩:=eR ((B).heap.size);rw[M]at g f A ⊢;clear M
     try simp only[qq]
     refine hO (i:=2) rfl λK b=>?_;go_simp
     go_at_call 90
     (with_reducible refine(an.out _ s).mono ?_);rintro e o ⟨rfl,k⟩;have t:=(s).then k;refine b _ _ t ?_;clear b K
     try simp only[qq]
     unfold fo
     replace g:o.there q 0 33:=λj C=>⟨by rw[k.cell (p:=⟨q,0+j,none⟩) f qs];exact(g j C).1,by rw[k.frozen (p:=⟨q,0+j,none⟩) f qs];exact(g j C).2⟩
     replace f:q<o.heap.size:=Nat.lt_of_lt_of_le f k.size
     have E:=λX=>gW X Y A1 N y;have L:=t;refine fm (i:=5) (v:=.agg (lX x (.slice A1 N y)).toArray) qk fh rfl qd qk (λ_ _ _ h=>h) (Or.inl ⟨qr,λX U=>?_⟩) (by assumption) ?_
     ·have O:=E X
      simp[execOp,Act.eval,O,Sem.run_bind,Result.andThen]
     clear E L
     try simp only[qq]
     exact aa o q ⟨g,f,A,t⟩
   ·rw[if_pos qr]
    go_simp
    have⟨B,l⟩:=eR ((w2.alloc (.cells ((List.toArray (.int .u8 0::.int .u8 0::.int .u8 0::.int .u8 0::.int .u8 0::.int .u8 0::.int .u8 0::.int .u8 0::.int .u8 0::.int .u8 0::.int .u8 0::.int .u8 0::.int .u8 0::.int .u8 0::.int .u8 0::.int .u8 0::.int .u8 0::.int .u8 0::.int .u8 0::.int .u8 0::.int .u8 0::.int .u8 0::.int .u8 0::.int .u8 0::.int .u8 0::.int .u8 0::.int .u8 0::.int .u8 0::.int .u8 0::.int .u8 0::.int .u8 0::.int .u8 0::.slice none 0 0::[]))) 258)).drew);have g:B.there (w2).heap.size 0 33:=by rw[<-l];have ht:=jr (w2) ((List.toArray (.int .u8 0::.int .u8 0::.int .u8 0::.int .u8 0::.int .u8 0::.int .u8 0::.int .u8 0::.int .u8 0::.int .u8 0::.int .u8 0::.int .u8 0::.int .u8 0::.int .u8 0::.int .u8 0::.int .u8 0::.int .u8 0::.int .u8 0::.int .u8 0::.int .u8 0::.int .u8 0::.int .u8 0::.int .u8 0::.int .u8 0::.int .u8 0::.int .u8 0::.int .u8 0::.int .u8 0::.int .u8 0::.int .u8 0::.int .u8 0::.int .u8 0::.int .u8 0::.slice none 0 0::[]))) 258;exact λj C=>ht j C
    have D:Fr [] w2 B:=by rw[<-l];exact((Fq [] w2).alloc _).drew
    have f:(w2).heap.size<B.heap.size:=by rw[<-l];show _<(World.alloc _ _).heap.size;rw[jZ];first|done|omega
    rw[l];refine b _ _ D ?_;clear b K l;have A:w2.heap.size<=w2.heap.size:=fW _
    try simp only[qq]
    refine hO (i:=1) rfl λK b=>?_;go_simp
    go_at_call 141
    (with_reducible refine(ap.out _ D).mono ?_);rintro e r ⟨rfl,k⟩;have s:=(D).then k;refine b _ _ s ?_;clear b K
    try simp only[qq]
    replace g:r.there w2.heap.size 0 33:=λj C=>⟨by rw[k.cell (p:=⟨w2.heap.size,0+j,none⟩) f qs];exact(g j C).1,by rw[k.frozen (p:=⟨w2.heap.size,0+j,none⟩) f qs];exact(g j C).2⟩
    replace f:w2.heap.size<r.heap.size:=Nat.lt_of_lt_of_le f k.size
    refine hO (i:=2) rfl λK b=>?_;go_simp
    go_at_call 90
    (with_reducible refine(an.out _ s).mono ?_);rintro e o ⟨rfl,k⟩;have t:=(s).then k;refine b _ _ t ?_;clear b K
    try simp only[qq]
    unfold fo
    replace g:o.there w2.heap.size 0 33:=λj C=>⟨by rw[k.cell (p:=⟨w2.heap.size,0+j,none⟩) f qs];exact(g j C).1,by rw[k.frozen (p:=⟨w2.heap.size,0+j,none⟩) f qs];exact(g j C).2⟩
    replace f:w2.heap.size<o.heap.size:=Nat.lt_of_lt_of_le f k.size
    have E:=λX=>gW X Y A1 N y;have L:=t;refine fm (i:=5) (v:=.agg (lX x (.slice A1 N y)).toArray) qk fh rfl qd qk (λ_ _ _ h=>h) (Or.inl ⟨qr,λX U=>?_⟩) (by assumption) ?_
    ·have O:=E X
     simp[execOp,Act.eval,O,Sem.run_bind,Result.andThen]
    clear E L
    try simp only[qq]
    exact aa o _ ⟨g,f,A,t⟩
  intro o q ⟨g,f,A,t⟩;refine eV ⟨qk,?_⟩;simp only[qG,qH];have ae:(lX x (.slice A1 N y)).toArray.size=33:=by rw[size_toArray,mD _ Y]
  refine wpList_store_mid rfl 258 (.tmp 7) (.tmp 15) rfl q 0 (lX x (.slice A1 N y)).toArray rfl rfl (by rw[ae];exact g) (by rw[ae];kernel_rfl) (all_oneCell_toArray (zx rfl)) ?_;have⟨ab,V⟩:=eR ((o).setCells q 0 (lX x (.slice A1 N y)).toArray.toList)
  have P:ab.rangeAt q 0 (lX x (.slice A1 N y)):=by
   rw[<-V];exact World.rangeAt_setCells_same (o) q 0 _ (by rw[mD _ Y];exact g)
  have ag:Fr [] w2 ab:=by rw[<-V];exact(t).setCells (.inr A) _ _
  have ai:q<ab.heap.size:=by rw[<-V,jO];exact f
  rw[V]
  go_wp2
  all_goals first|exact⟨_,rfl,P,ag,A,ai⟩|exact⟨P,ag,A,ai⟩
 rintro a' m ⟨S,rfl,P,ah,ac,ad⟩;simp only[qA,qB,qC];have T:=Hd (An P (An ah (An ac ad)));clear P ah ac ad HSS hC;have aM:=Hd (HB.2.fr T.2.1 qs);have aw:=Hd (λ(W:World) (hW:Fr [] m W)=>av.out W (T.2.1.then hW));have ao:=Hd (λ(W:World) (hW:Fr [] m W)=>aN.out W (T.2.1.then hW))
 go_upto_region 2 with fail
 have HSS:=Hd (λ(X:World) (U:Fr [] m X)=>(show X.cell? ⟨w.heap.size+1,0,none⟩=some (.int .i64 (i:Int))/\X.cell? ⟨w.heap.size+1,1,none⟩=some (.int .i64 (n:Int))/\X.cell? ⟨w.heap.size+1,2,none⟩=some (.string sb)/\X.cell? ⟨w.heap.size+1,3,none⟩=some (.slice A2 N z)from by
  have h:=aM.fr U qs;exact⟨h.c 0,h.c 1,h.c 2,h.c 3⟩))
 have hC:Fr [] m m.drew:=(Fq [] m).drew;refine jw (a:=?vb) (λa' W'=>∃D2,a'={ tmps:=((((((((Act.tmps ?vb).setIfInBounds 16 (.agg #[.int .i64 (i:Int),.int .i64 (n:Int),.string sb,.slice A2 N z])).setIfInBounds 17 (.string t2)).setIfInBounds 18 (.agg (eO lb).toArray)).setIfInBounds 19 (.pointer (some ⟨w.heap.size+1,3,none⟩))).setIfInBounds 20 (.slice A2 N z)).setIfInBounds 21 (.agg (lX lb (.slice A2 N z)).toArray)).setIfInBounds 8 (.pointer (some ⟨D2,0,none⟩))),defers:=[] }/\W'.rangeAt D2 0 (lX lb (.slice A2 N z))/\Fr [] m W'/\m.heap.size<=D2/\D2<W'.heap.size) ?_ ?_
 ·refine eU (λW:World=>Fr [] m W) 7 qk ?_ qd
  show fc 0 ..
  refine gJ rfl ?_;try simp only[qq]
  show fc 3 ..
  iterate 2 (refine gJ rfl ?_;try simp only[qq])
  refine DG (G:=?G2) (H:=(λX J=>X.there J 0 33/\J<X.heap.size/\m.heap.size<=J/\Fr [] m X)) (λaa=>?go2) ?fin2
  case go2 =>
   refine iy (i:=1) (j:=6) qk qd qd rfl rfl (λK b=>?_) (λK b=>?_)
   ·rw[if_pos qr]
    go_simp
    go_at_call 141
    (with_reducible refine(aw.out _ hC).mono ?_);rintro e B ⟨rfl,k⟩;have D:=(hC).then k;refine b _ _ D ?_;clear b K
    try simp only[qq]
    refine iy (i:=2) (j:=6) qk qd qd rfl rfl (λK b=>?_) (λK b=>?_)
    ·rw[if_pos qr]
     go_simp
     go_at_call 90
     (with_reducible refine(ao.out _ D).mono ?_);rintro e r ⟨rfl,k⟩;have s:=(D).then k;refine b _ _ s ?_;clear b K
     try simp only[qq]
     unfold fo;have E:=λX=>gW X Z A2 N z;have L:=s;refine fm (i:=5) (v:=.agg (lX lb (.slice A2 N z)).toArray) qk fh rfl qd qk (λ_ _ _ h=>h) (Or.inl ⟨qr,λX U=>?_⟩) (by assumption) ?_
     ·have O:=E X
      simp[execOp,Act.eval,O,Sem.run_bind,Result.andThen]
     clear E L
     try simp only[qq]
     refine hO (i:=6) rfl λK b=>?_;go_simp
     have⟨o,l⟩:=eR ((r).alloc (.cells ((List.toArray (.int .u8 0::.int .u8 0::.int .u8 0::.int .u8 0::.int .u8 0::.int .u8 0::.int .u8 0::.int .u8 0::.int .u8 0::.int .u8 0::.int .u8 0::.int .u8 0::.int .u8 0::.int .u8 0::.int .u8 0::.int .u8 0::.int .u8 0::.int .u8 0::.int .u8 0::.int .u8 0::.int .u8 0::.int .u8 0::.int .u8 0::.int .u8 0::.int .u8 0::.int .u8 0::.int .u8 0::.int .u8 0::.int .u8 0::.int .u8 0::.int .u8 0::.int .u8 0::.slice none 0 0::[]))) 258));have g:o.there (r).heap.size 0 33:=by rw[<-l];exact jr (r) _ _
     have t:Fr [] m o:=by rw[<-l];exact(s).alloc _
     have f:(r).heap.size<o.heap.size:=by rw[<-l,jZ];first|done|omega
     have A:m.heap.size<=(r).heap.size:=(s).size;rw[l];refine b _ _ t ?_;clear b K l;have⟨q,M⟩:=eR ((r).heap.size);rw[M]at g f A ⊢;clear M
     try simp only[qq]
     exact aa o q ⟨g,f,A,t⟩
    ·rw[if_pos qr]
     go_simp
     have⟨r,l⟩:=eR ((B).alloc (.cells ((List.toArray (.int .u8 0::.int .u8 0::.int .u8 0::.int .u8 0::.int .u8 0::.int .u8 0::.int .u8 0::.int .u8 0::.int .u8 0::.int .u8 0::.int .u8 0::.int .u8 0::.int .u8 0::.int .u8 0::.int .u8 0::.int .u8 0::.int .u8 0::.int .u8 0::.int .u8 0::.int .u8 0::.int .u8 0::.int .u8 0::.int .u8 0::.int .u8 0::.int .u8 0::.int .u8 0::.int .u8 0::.int .u8 0::.int .u8 0::.int .u8 0::.int .u8 0::.int .u8 0::.slice none 0 0::[]))) 258));have g:r.there (B).heap.size 0 33:=by rw[<-l];exact jr (B) _ _
     have s:Fr [] m r:=by rw[<-l];exact(D).alloc _
     have f:(B).heap.size<r.heap.size:=by rw[<-l,jZ];first|done|omega
     have A:m.heap.size<=(B).heap.size:=(D).size;rw[l];refine b _ _ s ?_;clear b K l;have⟨q,M⟩:=eR ((B).heap.size);rw[M]at g f A ⊢;clear M
     try simp only[qq]
     refine hO (i:=2) rfl λK b=>?_;go_simp
     go_at_call 90
     (with_reducible refine(ao.out _ s).mono ?_);rintro e o ⟨rfl,k⟩;have t:=(s).then k;refine b _ _ t ?_;clear b K
     try simp only[qq]
     unfold fo
     replace g:o.there q 0 33:=λj C=>⟨by rw[k.cell (p:=⟨q,0+j,none⟩) f qs];exact(g j C).1,by rw[k.frozen (p:=⟨q,0+j,none⟩) f qs];exact(g j C).2⟩
     replace f:q<o.heap.size:=Nat.lt_of_lt_of_le f k.size
     have E:=λX=>gW X Z A2 N z;have L:=t;refine fm (i:=5) (v:=.agg (lX lb (.slice A2 N z)).toArray) qk fh rfl qd qk (λ_ _ _ h=>h) (Or.inl ⟨qr,λX U=>?_⟩) (by assumption) ?_
     ·have O:=E X
      simp[execOp,Act.eval,O,Sem.run_bind,Result.andThen]
     clear E L
     try simp only[qq]
     exact aa o q ⟨g,f,A,t⟩
   ·rw[if_pos qr]
    go_simp
    have⟨B,l⟩:=eR ((m.alloc (.cells ((List.toArray (.int .u8 0::.int .u8 0::.int .u8 0::.int .u8 0::.int .u8 0::.int .u8 0::.int .u8 0::.int .u8 0::.int .u8 0::.int .u8 0::.int .u8 0::.int .u8 0::.int .u8 0::.int .u8 0::.int .u8 0::.int .u8 0::.int .u8 0::.int .u8 0::.int .u8 0::.int .u8 0::.int .u8 0::.int .u8 0::.int .u8 0::.int .u8 0::.int .u8 0::.int .u8 0::.int .u8 0::.int .u8 0::.int .u8 0::.int .u8 0::.int .u8 0::.int .u8 0::.slice none 0 0::[]))) 258)).drew);have g:B.there (m).heap.size 0 33:=by rw[<-l];have ht:=jr (m) ((List.toArray (.int .u8 0::.int .u8 0::.int .u8 0::.int .u8 0::.int .u8 0::.int .u8 0::.int .u8 0::.int .u8 0::.int .u8 0::.int .u8 0::.int .u8 0::.int .u8 0::.int .u8 0::.int .u8 0::.int .u8 0::.int .u8 0::.int .u8 0::.int .u8 0::.int .u8 0::.int .u8 0::.int .u8 0::.int .u8 0::.int .u8 0::.int .u8 0::.int .u8 0::.int .u8 0::.int .u8 0::.int .u8 0::.int .u8 0::.int .u8 0::.int .u8 0::.int .u8 0::.slice none 0 0::[]))) 258;exact λj C=>ht j C
    have D:Fr [] m B:=by rw[<-l];exact((Fq [] m).alloc _).drew
    have f:(m).heap.size<B.heap.size:=by rw[<-l];show _<(World.alloc _ _).heap.size;rw[jZ];first|done|omega
    rw[l];refine b _ _ D ?_;clear b K l;have A:m.heap.size<=m.heap.size:=fW _
    try simp only[qq]
    refine hO (i:=1) rfl λK b=>?_;go_simp
    go_at_call 141
    (with_reducible refine(aw.out _ D).mono ?_);rintro e r ⟨rfl,k⟩;have s:=(D).then k;refine b _ _ s ?_;clear b K
    try simp only[qq]
    replace g:r.there m.heap.size 0 33:=λj C=>⟨by rw[k.cell (p:=⟨m.heap.size,0+j,none⟩) f qs];exact(g j C).1,by rw[k.frozen (p:=⟨m.heap.size,0+j,none⟩) f qs];exact(g j C).2⟩
    replace f:m.heap.size<r.heap.size:=Nat.lt_of_lt_of_le f k.size
    refine hO (i:=2) rfl λK b=>?_;go_simp
    go_at_call 90
    (with_reducible refine(ao.out _ s).mono ?_);rintro e o ⟨rfl,k⟩;have t:=(s).then k;refine b _ _ t ?_;clear b K
    try simp only[qq]
    unfold fo
    replace g:o.there m.heap.size 0 33:=λj C=>⟨by rw[k.cell (p:=⟨m.heap.size,0+j,none⟩) f qs];exact(g j C).1,by rw[k.frozen (p:=⟨m.heap.size,0+j,none⟩) f qs];exact(g j C).2⟩
    replace f:m.heap.size<o.heap.size:=Nat.lt_of_lt_of_le f k.size
    have E:=λX=>gW X Z A2 N z;have L:=t;refine fm (i:=5) (v:=.agg (lX lb (.slice A2 N z)).toArray) qk fh rfl qd qk (λ_ _ _ h=>h) (Or.inl ⟨qr,λX U=>?_⟩) (by assumption) ?_
    ·have O:=E X
     simp[execOp,Act.eval,O,Sem.run_bind,Result.andThen]
    clear E L
    try simp only[qq]
    exact aa o _ ⟨g,f,A,t⟩
  intro o q ⟨g,f,A,t⟩;refine eV ⟨qk,?_⟩;simp only[qG,qH];have ae:(lX lb (.slice A2 N z)).toArray.size=33:=by rw[size_toArray,mD _ Z]
  refine wpList_store_mid rfl 258 (.tmp 8) (.tmp 21) rfl q 0 (lX lb (.slice A2 N z)).toArray rfl rfl (by rw[ae];exact g) (by rw[ae];kernel_rfl) (all_oneCell_toArray (zx rfl)) ?_;have⟨ab,V⟩:=eR ((o).setCells q 0 (lX lb (.slice A2 N z)).toArray.toList)
  have P:ab.rangeAt q 0 (lX lb (.slice A2 N z)):=by
   rw[<-V];exact World.rangeAt_setCells_same (o) q 0 _ (by rw[mD _ Z];exact g)
  have ag:Fr [] m ab:=by rw[<-V];exact(t).setCells (.inr A) _ _
  have ai:q<ab.heap.size:=by rw[<-V,jO];exact f
  rw[V]
  go_wp2
  all_goals first|exact⟨_,rfl,P,ag,A,ai⟩|exact⟨P,ag,A,ai⟩
 rintro a' I ⟨D2,rfl,P,ah,ac,ad⟩;simp only[qA,qB,qC];have H4:=Hd (An P (An ah (An ac ad)));clear P ah ac ad HSS hC;have a5:=Hd (HB.1.fr (T.2.1.then H4.2.1) qs);have aG:I.rangeAt S 0 (lX x (.slice A1 N y)):=λj v hv=>(H4.2.1.cell (p:=⟨S,0+j,none⟩) T.2.2.2 qs).trans (T.1 j v hv);have aH:=H4.1;have aF:∀ {J:Nat} {d:Nm} {v:Value},I.rangeAt J 0 (lX d v)->I.rangeAt J 0 (eO d):=fun {J d v} h j u hu=>h j u (by unfold lX;rw[List.getElem?_append_left (gV.1 hu).1];exact hu);have ax:=Hd (An aG (aF aG));have ay:=Hd (An aH (aF aH));have am:=Hd (HF.then (T.2.1.then H4.2.1));have al:=Hd (T.2.1.then H4.2.1);have ba:=Hd (λ(W:World) (hW:Fr [] I W)=>ap.out W (al.then hW));have bb:=Hd (λ(W:World) (hW:Fr [] I W)=>av.out W (al.then hW));have bc:=Hd (λ(W:World) (hW:Fr [] I W)=>aq.out W (al.then hW));have aO:=Hd (An (HO.1.fr am.out qs) (HO.2.fr am.out qs));clear aG aH aF T H4 ap av aw an aN ao aM HO aq HF HW;have⟨x0,x1,x2,x3⟩:=a5.m4;have aE:(Op.equalIn 10000 57 (.agg (eO x).toArray) (.agg (eO lb).toArray)).run prog I=.ok (x == lb) I:=mE I Y Z 9998
 by_cases aD:x=lb
 case neg =>
  have aC:(x == lb)=false:=beq_eq_false_iff_ne.2 aD;rw[aC]at aE;have bh:IntKind.i64.wrap ((i:Int)+1)=((i+1:Nat):Int):=by simp[IntKind.wrap,IntKind.bits,IntKind.signed];omega
  have bi:IntKind.i64.wrap ((n:Int)+1)=((n+1:Nat):Int):=by simp[IntKind.wrap,IntKind.bits,IntKind.signed];omega
  have aB:=uN x lb rt pa pb (i+1) (n+1) N A1 A2 y z I (bc.out I (Fq _ _)) qo qo bd be F.2.2.2.2.2.2.1 F.2.2.1.1 F.2.2.1.2.1 Y Z F.2.2.1.2.2.1 F.2.2.1.2.2.2 aO.1 aO.2 F.1 F.2.1 aD;have ei:((i+1:Nat):Int)=(i:Int)+1:=qo
  have en:((n+1:Nat):Int)=(n:Int)+1:=qo
  rw[ei,en]at aB;rw[ei]at bh;rw[en]at bi;have a9:=Hd aB;clear ei en;have bf:=mD (.slice A1 N y) Y;have bg:=mD (.slice A2 N z) Z;clear aB
  go_wp2_with (first
   | (with_reducible refine wpList_load_mid rfl 57 (.tmp 22) rfl S 0 rfl (eO x) (.array 32 5) ax.out.2 qk rfl (by rw[aR];kernel_rfl) ?_)
   | (with_reducible refine wpList_load_mid rfl 57 (.tmp 24) rfl D2 0 rfl (eO lb) (.array 32 5) ay.out.2 qk rfl (by rw[aS];kernel_rfl) ?_)
   | (with_reducible refine wpList_load_mid rfl 258 (.tmp 7) rfl S 0 rfl (lX x (.slice A1 N y)) _ ax.out.1 underlying258 rfl (by rw[bf];kernel_rfl) ?_)
   | (with_reducible refine wpList_load_mid rfl 258 (.tmp 8) rfl D2 0 rfl (lX lb (.slice A2 N z)) _ ay.out.1 underlying258 rfl (by rw[bg];kernel_rfl) ?_)
   | (go_at_call 142;(with_reducible refine a9.out.mono ?_);rintro e w5 ⟨xx,yy,rfl,af,a3⟩;have H5:=Hd (An af a3);clear af a3))
  refine bodyPost_ret (v:=.tuple #[fg xx,fg yy,.bool true]) (by simp[results,results78,go_sem]) rfl ?_;exact⟨xx,yy,rfl,am.then H5.1,H5.2⟩
 subst aD;have aC:(x == x)=true:=beq_iff_eq.2 rfl;rw[aC]at aE
 go_upto_region 5 with(first
  | (with_reducible refine wpList_load_mid rfl 57 (.tmp 22) rfl S 0 rfl (eO x) (.array 32 5) ax.out.2 qk rfl (by rw[aR];kernel_rfl) ?_)
  | (with_reducible refine wpList_load_mid rfl 57 (.tmp 24) rfl D2 0 rfl (eO x) (.array 32 5) ay.out.2 qk rfl (by rw[aS];kernel_rfl) ?_))
 clear aE
 have aP:∀W,Fr [] I W->W.cell? ⟨w.heap.size+1,0,none⟩=some (.int .i64 (i:Int))/\W.cell? ⟨w.heap.size+1,1,none⟩=some (.int .i64 (n:Int))/\W.cell? ⟨w.heap.size+1,2,none⟩=some (.string sb)/\W.cell? ⟨w.heap.size+1,3,none⟩=some (.slice A2 N z):=λW hW=>by
  have h:=HB.2.fr (al.then hW) qs;exact⟨h.c 0,h.c 1,h.c 2,h.c 3⟩
 have a6:=Hd aP;clear aP
 go_upto_region 6 with(first
  | (go_at_call 141;(with_reducible refine(ba.out _ (Fq _ _)).mono ?_);rintro e w5 ⟨rfl,af⟩;have H5:=Hd af;have az:=oO 0 (some ⟨w5.heap.size,0,none⟩) 1 1 [1::Q] (w5.alloc (.cells #[.string t1] 9)) qo (zy w5 F.2.2.2.2.1.1) (by have:=F.2.2.2.2.2.2.2.1;simp[gS];omega);rw[show (((0:UInt8).toNat:Nat):Int)=0 from rfl]at az;have a7:=Hd az;clear af az)
  | (go_at_call 143;(with_reducible refine a7.out.mono ?_);rintro e w6 ⟨rfl,aT⟩;have H6:=Hd ((H5.alloc _).then aT);clear aT))
 go_upto_region 8 with fail
 have⟨b0,b1,b2,b3⟩:=a6.out w6 H6.out
 go_wp2_with (first
  | (go_at_call 141;(with_reducible refine(bb.out _ H6.out).mono ?_);rintro e w7 ⟨rfl,aU⟩;have H7:=Hd (H6.then aU);have aA:=oO 0 (some ⟨w7.heap.size,0,none⟩) 1 1 [1::R] (w7.alloc (.cells #[.string t2] 9)) qo (zy w7 F.2.2.2.2.1.2) (by have:=F.2.2.2.2.2.2.2.2;simp[gS];omega);rw[show (((0:UInt8).toNat:Nat):Int)=0 from rfl]at aA;have a8:=Hd aA;clear aU aA)
  | (go_at_call 143;(with_reducible refine a8.out.mono ?_);rintro e w8 ⟨rfl,aV⟩;have a4:=Hd ((H7.alloc _).then aV);clear aV))
 refine bodyPost_ret (v:=.tuple #[fg (gB 0 [1::Q]),fg (gB 0 [1::R]),.bool true]) (by simp[results,results78,go_sem]) rfl ?_;refine⟨_,_,rfl,am.then a4.out,λh=>F.2.2.2.2.2.1 (List.cons.inj (Az h)).2,?_,?_,?_⟩
 ·have e1:=F.2.2.2.1.1
  have e2:=F.2.2.2.1.2;exact e1.trans e2.symm
 ·have:=F.2.2.2.2.2.2.2.1;simp[gB,mJ,gS];omega
 ·have:=F.2.2.2.2.2.2.2.2;simp[gB,mJ,gS];omega
end Go.Proofs.YtlpmiimgacfmkaaGreatDoor
