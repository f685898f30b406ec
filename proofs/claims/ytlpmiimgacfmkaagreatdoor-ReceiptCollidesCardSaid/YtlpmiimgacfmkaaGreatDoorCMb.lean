/- Part of the proof. -/
import Derived.Test.YtlpmiimgacfmkaaGreatDoorCLt2
set_option linter.all false
set_option maxHeartbeats 4000000
set_option maxRecDepth 100000
namespace Go.Proofs.YtlpmiimgacfmkaaGreatDoor
open Go.Proofs.Tryz List
open Go.RowKit
def lA(b:List (Value × Value))(l n:Nat):Prop:=∀p∈b,∃a i:Nat,p.1=jf a i/\(i+1)*2 ^ a<=n+1/\(a<=l \/ (i+1)*2 ^ a<=n)
def oF(b:List Nm)(c:List (Value × Value))(l n:Nat):Prop:=∀a i:Nat,(i+1)*2 ^ a<=n+1->(a<=l \/ (i+1)*2 ^ a<=n)->PartIs b c a i (rt b (i*2 ^ a) (2 ^ a))
def PartIs.more{e ds':List Nm}{g kvs':List (Value × Value)}{l i:Nat}{d:Nm}(h:PartIs e g l i d)(j:∀x,e[i]?=some x->ds'[i]?=some x)(k:∀p∈g,p∈kvs'):PartIs ds' kvs' l i d:=by
 obtain⟨f,h|⟨a,b,c⟩⟩:=h
 ·exact⟨f,.inl ⟨h.1,j _ h.2⟩⟩
 ·exact⟨f,.inr ⟨a,k _ b,c⟩⟩
def Bx{a b c d:Nat}(h:jf (a:Int) (b:Int)=jf (c:Int) (d:Int)):a=c/\b=d:=by
 unfold jf at h
 injection h with h
 have:=congrArg Array.toList h;simp at this;omega
def wO{b:List Nm}{d:Nm}{g:List (Value × Value)}(l:mY b g)(m:d.length=32)(r:b.length<=1048575):oF (b++[d]) g 0 b.length:=by
 intro a i p q;have o:=Nat.one_le_two_pow (n:=a)
 by_cases c:(i+1)*2 ^ a<=b.length
 ·have e:i*2 ^ a+2 ^ a<=b.length:=by rw[Nat.add_mul]at c;omega
  rw[Fu _ _ _ _ o e qo];exact(l a i c).more (λx f=>by rw[List.getElem?_append_left (gV.1 f).1];exact f) (λ_ h=>h)
 ·have j:a=0:=qo
  subst j;have k:i=b.length:=qo
  subst k;rw[Nat.pow_zero,Nat.mul_one,pC,getD_eq_getElem?_getD,List.getElem?_append_right (fW _)];simp only[Nat.sub_self,List.getElem?_cons_zero,Option.getD_some];exact⟨m,.inl ⟨rfl,by rw[List.getElem?_append_right (fW _)];simp⟩⟩
def yM{b:List Nm}{d:List (Value × Value)}{l j n:Nat}(h:oF b d l n)(s:(2*j+1+1)*2 ^ l=n+1)(w:n+1<=1048576)(t:∃k,keyOf prog 270 (jf ((l+1:Nat):Int) (j:Int))=some k):
 oF b (d++[(jf ((l+1:Nat):Int) (j:Int),fo (iO (rt b (2*j*2 ^ l) (2 ^ l)) (rt b ((2*j+1)*2 ^ l) (2 ^ l))))]) (l+1) n:=by
 intro a i o v
 by_cases p:a<=l \/ (i+1)*2 ^ a<=n
 ·exact(h a i o p).more (λ_ h=>h) (λ_ h=>by simp[h])
 ·have q:a=l+1:=qo
  subst q;have x:=Nat.one_le_two_pow (n:=l);have e:=Nat.pow_succ (n:=2) (m:=l);have c:(i+1)*2 ^ (l+1)=n+1:=qo
  have r:i=j:=by
   rw[e,<-s,Nat.mul_comm (2 ^ l) 2,<-Nat.mul_assoc]at c;have:=Nat.eq_of_mul_eq_mul_right qo c;omega
  subst r
  have u:2 ^ (l+1)<=1048576:=by
   have:1*2 ^ (l+1)<=(i+1)*2 ^ (l+1):=Nat.mul_le_mul_right _ qo;omega
  rw[Ha _ _ _ u];have f:i*2 ^ (l+1)=2*i*2 ^ l:=by rw[e,Nat.mul_comm (2 ^ l) 2,<-Nat.mul_assoc,Nat.mul_comm i 2]
  have g:2*i*2 ^ l+2 ^ l=(2*i+1)*2 ^ l:=by rw[Nat.add_mul,Nat.one_mul]
  rw[f,g];exact⟨fy _,.inr ⟨qo,qs,t⟩⟩
def Bz{c:List (Value × Value)}{l j n:Nat}{v:Value}(h:lA c l n)(f:(2*j+1+1)*2 ^ l=n+1):lA (c++[(jf ((l+1:Nat):Int) (j:Int),v)]) (l+1) n:=by
 intro p b
 rcases mem_append.1 b with b|b
 ·have⟨a,i,d,e,g⟩:=h p b
  exact⟨a,i,d,e,qo⟩
 ·rw[ip]at b
  subst b;refine⟨l+1,j,rfl,?_,.inl (fW _)⟩;rw[Nat.pow_succ,Nat.mul_comm (2 ^ l) 2,<-Nat.mul_assoc,<-f];exact Nat.mul_le_mul_right _ qo
def BA{c:List (Value × Value)}{l j n:Nat}(h:lA c l n)(e:(2*j+1+1)*2 ^ l=n+1):∀p∈c,p.1≠jf ((l+1:Nat):Int) (j:Int):=by
 intro p f b;have⟨a,i,d,k,m⟩:=h p f;rw[d]at b;obtain⟨rfl,rfl⟩:=Bx b;have g:(i+1)*2 ^ (l+1)=n+1:=by rw[Nat.pow_succ,Nat.mul_comm (2 ^ l) 2,<-Nat.mul_assoc,<-e];congr 1;omega
 omega
def BB{b:List Nm}{e:List (Value × Value)}{l i n:Nat}(h:oF b e l n)(g:(i+1)*2 ^ l=n+1)(o:i % 2=0)(j:b.length=n+1):mY b e:=by
 intro a k c;rw[j]at c
 by_cases f:a<=l \/ (k+1)*2 ^ a<=n
 ·exact h a k c f
 ·have d:(k+1)*2 ^ a=n+1:=qo
  obtain⟨m,rfl⟩:∃m,a=l+1+m:=⟨a - l - 1,qo⟩;have p:=Nat.one_le_two_pow (n:=l);rw[Nat.pow_add,Nat.pow_succ,<-g,Nat.mul_comm (2 ^ l) 2,Nat.mul_assoc 2,Nat.mul_comm (2 ^ l),<-Nat.mul_assoc 2,<-Nat.mul_assoc]at d;have:=Nat.eq_of_mul_eq_mul_right qo d;rw[<-Nat.mul_assoc,Nat.mul_comm (k+1) 2,Nat.mul_assoc]at this;omega
def DS{b:List (Value × Value)}{l n:Nat}(h:lA b l n):lA b 0 (n+1):=by
 intro p e;have⟨a,i,c,d,f⟩:=h p e;exact⟨a,i,c,qo,.inr d⟩
def zX(b:Nat)(a:List Nm)(F:List Nat)(w:World)(e:Ending)(w':World):Prop:=e=.returned (.int .i64 0)/\∃c F',TreeM w' b a c F'/\mY a c/\lA c 0 a.length/\Fr F w w'/\∀k∈F',k∈F \/ w.heap.size<=k
def DT(b:Nat)(a:List Nm)(d:Nm)(af:List (Value × Value))(F:List Nat)(w:World)(hM:TreeM w b a af F)(bi:mY a af)(bf:lA af 0 a.length)(bw:Ok w)(br:∀k∈F,6<=k)(ap:d.length=32)(cf:1<=a.length)(ch:a.length<=1000):
 Calls prog 89 #[.pointer (some ⟨b,0,none⟩),fo d] w (zX b (a++[d]) F w):=by
 obtain⟨A,c,r,h,rfl⟩:=hM;have bC:=wO bi ap qo;have aY:=Hd (An bC bf);clear bC bf bi
 have ao:(eO d).length=32:=by rw[eP,ap]
 have aM:=h.box;have cb:=aM.lt;unfold fo;have⟨I,aD⟩:=eR (w.alloc (.cells (eO d).toArray 57));have bg:I.rowIs w.heap.size 57 32 (λj=>.int .u8 ((d.getD j 0).toNat:Int)):=by rw[<-aD];exact gX w ao
 have au:Fr [] w I:=by rw[<-aD];exact(Fq [] w).alloc _
 have bo:=aM.fr au qs;have⟨y0,y1⟩:=bo.m2;have bj:=h.fr au qs;have bJ:=Hd aD;have J:=Hd au;have aX:=Hd bg;have a5:=Hd bj;have E:=Hd h;clear aD bo au bg aM bj h;have qT:∀(w:World) (r:Option Nat),(binOp .eql 235 (.map r) (.map none)).run prog w=.ok (.bool r.isNone) w:=λw r=>run_eql_map_nil w _ _ _ r underlying235
 go_enter func89,ntmps89
 go_upto_region 1 with fail
 rw[bJ.out]
 go_upto_region 8 with fail
 have⟨w4,b4,bz,N⟩:=kJ I #[.int .i64 0,.int .i64 a.length] 270;rw[b4];have L:=a5.fr N qs;have bp:=L.box.k0;have ai:=eT aX.out N qs;have U:=Hd L.box;have a4:=Hd L.own;have aQ:=L.nb;have aP:w.heap.size ∉ eX A:=by intro m;have:=E.own.lt _ m;omega
 have aA:∀X:World,X.rowIs w.heap.size 57 32 (λj=>.int .u8 ((d.getD j 0).toNat:Int))->X.rangeAt w.heap.size 0 (eO d):=λX hr j v hv=>by
  rw[Nat.zero_add];have hj:j<32:=by have:=(gV.1 hv).1;rw[ao]at this;exact this
  rw[hr.cell hj,<-hv,gO qo]
 have hC:(λX:World=>X.cell? ⟨b,0,none⟩=some (.slice A a.length c)/\X.rangeAt w.heap.size 0 (eO d)) w4.drew:=⟨bp,aA _ ai.drew⟩;have HSS:=Hd (λ(X:World) (H:X.cell? ⟨b,0,none⟩=some (.slice A a.length c)/\X.rangeAt w.heap.size 0 (eO d))=>An H.1 trivial);refine eU (λX:World=>X.cell? ⟨b,0,none⟩=some (.slice A a.length c)/\X.rangeAt w.heap.size 0 (eO d)) 10 qk ?_ qd
 show fc 0 ..
 iterate 5 (refine gJ rfl ?_;try simp only[qq])
 refine fm (i:=5) (v:=.agg (eO d).toArray) qk fh rfl qd qk (λ_ _ _ h=>h) (yieldsIf_load_mid qr 57 (.tmp 3) rfl w.heap.size (0) rfl (eO d) (.array 32 5) (λX H=>H.2) qk rfl (by rw[ao];kernel_rfl)) (by assumption) ?_
 try simp only[qq]
 refine hO (i:=6) rfl λV B=>?_;go_simp
 rw[mK qr ap];have⟨X5,M,n5,t⟩:=vC w4 (eO d).toArray 57;have bc:X5.cell? ⟨b,0,none⟩=some (.slice A a.length c)/\X5.rangeAt w.heap.size 0 (eO d):=⟨(U.fr t qs).c 0,aA _ (eT ai t qs)⟩;rw[M];refine B _ _ bc ?_;clear B V M
 try simp only[qq]
 refine hO (i:=7) rfl λV B=>?_;obtain⟨ii,bP,b5,b6,b7⟩:=oC;have aZ:=Hd (a4.fr t qs);refine ja (.tmp 37) (.tmp 39) 51 rfl 57 ii _ 32 32 underlying51 bP b5 b6 b7 rfl qd A a.length c (a.flatMap eO) rfl aZ.out ⟨w4.heap.size,0,none⟩ 1 1 (eO d) rfl (by rw[ao]) (λj u hu=>by rw[fV,n5.c j];simpa using hu) (gN d) (by unfold maxLen;omega) qo ?_;intro A' c' Y aR C aG;rw[show (a.length+1:Nat)=(a.length+1)from rfl]at aR ⊢;have bd:Y.cell? ⟨b,0,none⟩=some (.slice A a.length c)/\Y.rangeAt w.heap.size 0 (eO d):=⟨((U.fr t qs).fr C aQ).c 0,aA _ (eT (eT ai t qs) C aP)⟩;refine B _ _ bd ?_;clear B V hC bc
 try simp only[qq]
 show fc 8 ..
 iterate 2 (refine gJ rfl ?_;try simp only[qq])
 refine eV ⟨qk,?_⟩;simp only[qG,qH];have an:=(U.fr t qs).fr C aQ;have e0:=an.k0;have e1:=an.f 0;have⟨G,am⟩:=eR (Y.setCell ⟨b,0,none⟩ (.slice A' (a.length+1) c'));have aF:Fr [b] Y G:=by rw[<-am];exact(Fq [b] Y).st _
 have aK:=an.setAt 0 (.slice A' (a.length+1) c')
 have aL:b ∉ eX A':=by
  intro m
  rcases aG b m with h|h
  ·exact aQ h
  ·have:=U.lt;have:=t.size;omega
 have bv:Own G 57 32 A' (a.length+1) c' ((a.flatMap eO)++eO d):=aR.fr aF (by intro k o;simp only[ip];rintro rfl;exact aL o);have a8:Fr (b::eX A) w4 G:=((t.mono qs).trans (C.mono (T:=b::eX A) (by intro x hx;exact .inl (by simp[hx]))) (λx hx=>.inl hx)).trans aF qs;rw[am]at aK;have aT:=Hd aK;have a3:=Hd bv;have ag:=Hd a8;have S:=Hd (An aL (λk o=>(aG k o).imp id (λh=>Nat.le_trans t.size h)));clear an aF aK bv a8 aL aR C aG bd aZ t n5 HSS aA
 go_wp2
 try rw[am]
 clear am e0 e1;have aj:(a++[d]).length=a.length+1:=qs
 have bB:r ∉ b::eX A:=by have:=(E.ms r rfl).2;simp only[mem_cons,not_or];exact⟨this.1,this.2⟩
 have hP:I.heap.size ∉ b::eX A:=by
  have K:=J.size;intro m
  rcases mem_cons.1 m with h|h
  ·omega
  ·have:=E.own.lt _ h;omega
 have cj:=(E.ms r rfl).1.lt;have aS:=bz.fr ag.out hP;have bt:=(L.ms r rfl).1.fr ag.out bB
 have bT:∀y∈a++[d],y.length=32:=by
  intro y hy
  rcases mem_append.1 hy with h|h
  ·exact E.len y h
  ·rw[ip]at h
   rw[h];exact ap
 have bm:TreeIs G b A' c' (some r) (a++[d]) (af):=⟨by rw[aj];exact aT.out,by have h:=a3.out;rw[<-pz]at h;rw[aj];exact h,bT,S.1,qs,λq z=>by
  injection z with z
  subst z;refine⟨bt,(E.ms r rfl).2.1,λm=>?_⟩
  rcases S.2 _ m with h|h
  ·exact(E.ms r rfl).2.2 h
  ·have:=J.size;have:=N.size;omega⟩
 have be:Fr (b::eX A) w G:=((J.then N).mono qs).then ag.out
 have aI:I.heap.size ∉ b::(eX A'++(some r).toList):=by
  have K:=J.size;have p:=bz.lt;simp only[mem_cons,mem_append,not_or];refine⟨λh=>hP (by simp[h]),λm=>?_,by simp;omega⟩
  rcases S.2 _ m with h|h
  ·exact hP (by simp[h])
  ·omega
 have bb:∀q∈eX A',q∈eX A \/ w.heap.size<=q:=λq z=>(S.2 q z).imp id (λh=>by have:=J.size;have:=N.size;omega);have bL:w.heap.size<=I.heap.size:=J.size;generalize I.heap.size=P at aS aI bL ⊢;have bH:=Hd bm;have bE:=Hd aS;have aW:=Hd be;have bG:=Hd bb;clear aS bt bm be bb aT a3 ag S L ai U a4 bp N aX a5 y0 y1 aP bB;have cd:=bw.low
 have bX:Ok G:=bw.fr aW.out (by
  intro k o;refine br k ?_
  rcases mem_cons.1 o with h|h
  ·simp[h]
  ·simp[h])
 go_loopg [43] (a.length+1) (λg _ W=>∃(l i:Nat) (s:List (Value × Value)),i<g/\TreeIs W b A' c' (some r) (a++[d]) s/\BoxN W P 270 #[.int .i64 (l:Int),.int .i64 (i:Int)]/\Fr [P,r] G W/\(i+1)*2 ^ l=a.length+1/\oF (a++[d]) s l a.length/\lA s l a.length)
 case atStart=>exact⟨0,a.length,af,qo,bH.out,bE.out,Fq _ _,qs,aY.1,aY.2⟩
 case round =>
  obtain⟨l,i,s,hi,ht,Q,hf,m,R,ad⟩:=hrel
  have cc:i<=1000:=by
   have K:(i+1)*1<=(i+1)*2 ^ l:=Nat.mul_le_mul_left _ Nat.one_le_two_pow;omega
  have aP:l<=10:=by
   have K:1*2 ^ l<=(i+1)*2 ^ l:=Nat.mul_le_mul_right _ qo;have p:2 ^ l<2 ^ 11:=qo
   exact Nat.le_of_lt_succ ((Nat.pow_lt_pow_iff_right qd).1 p)
  rcases Nat.mod_two_eq_zero_or_one i with p|p
  ·have q1:wr.cell? ⟨P,1,none⟩=some (.int .i64 (i:Int)):=Q.c 1
   have h3:(i:Int) % 2=0:=qo
   have n:=Hd (An ht (An hf (An m (An R (An ad p)))));clear ht Q hi hf m R ad p
   go_wp2
   go_ret
   have bO:Fr (b::(eX A++(some r).toList)) w wr:=(aW.mono (λk o=>.inl (by rcases mem_cons.1 o with h|h <;> simp[h]))).trans n.2.1 (by simp;omega);refine⟨rfl,s,b::(eX A'++(some r).toList),⟨A',c',r,n.1,rfl⟩,BB n.2.2.2.1 n.2.2.1 n.2.2.2.2.2 aj,by rw[aj];exact DS n.2.2.2.2.1,bO,λk o=>?_⟩
   rcases mem_cons.1 o with h|h
   ·exact .inl (by simp[h])
   ·rcases mem_append.1 h with h|h
    ·rcases bG.out k h with p|p
     ·exact .inl (by simp[p])
     ·exact .inr p
    ·exact .inl (by have:k=r:=by simpa using h
                    simp[this])
  ·obtain⟨j,rfl⟩:∃j,i=2*j+1:=⟨i / 2,qo⟩
   have a6:=Hd ht;rw[show ((2*j+1:Nat):Int)=2*(j:Int)+1 from by omega]at Q;have ah:=Hd Q
   have bY:Ok wr:=bX.fr hf (by
    have K:6<=r:=br r qs;simp;omega)
   have ci:(2*(j:Int)+1) / 2=(j:Int):=qo
   have q1:=Q.k1;have ce:(2*j+1)*2 ^ l<=(2*j+1+1)*2 ^ l:=Nat.mul_le_mul_right _ qo;have ax:=R l (2*j) qo (.inl (fW _));have ay:=R l (2*j+1) (Nat.le_of_eq m) (.inl (fW _));have bS:=sz (i:=(l:Int)+1) (j:=(j:Int)) (jL qo qo) (jL qo qo);have bQ:=BA ad m;have n:=Hd (An hi (An hf (An m (An R ad))));clear p ht Q hi hf m R ad;have ax:PartIs (a++[d]) (s) l (2*j) ((rt (a++[d]) (2*j*2 ^ l) (2 ^ l))):=ax;have ay:PartIs (a++[d]) (s) l (2*j+1) ((rt (a++[d]) ((2*j+1)*2 ^ l) (2 ^ l))):=ay;have aJ:TreeAt wr b (a++[d]) (s) (b::(eX A'++(some r).toList)):=⟨A',c',some r,a6.out,rfl⟩;have aU:Hid (∀W,Fr [] wr W->Calls prog 149 #[.pointer (some ⟨b,0,none⟩),.agg #[.int .i64 l,.int .i64 (2*j)]] W (fN W ((rt (a++[d]) (2*j*2 ^ l) (2 ^ l))))):=Hd (λW hW=>lG b l (2*j) (a++[d]) (s) _ ((rt (a++[d]) (2*j*2 ^ l) (2 ^ l))) W (aJ.fr0 hW) ax);have aV:Hid (∀W,Fr [] wr W->Calls prog 149 #[.pointer (some ⟨b,0,none⟩),.agg #[.int .i64 l,.int .i64 (2*j+1)]] W (fN W ((rt (a++[d]) ((2*j+1)*2 ^ l) (2 ^ l))))):=Hd (λW hW=>lG b l (2*j+1) (a++[d]) (s) _ ((rt (a++[d]) ((2*j+1)*2 ^ l) (2 ^ l))) W (aJ.fr0 hW) ay);have aq:((rt (a++[d]) (2*j*2 ^ l) (2 ^ l))).length=32:=ax.1;have ar:((rt (a++[d]) ((2*j+1)*2 ^ l) (2 ^ l))).length=32:=ay.1;have bM:(eO ((rt (a++[d]) (2*j*2 ^ l) (2 ^ l)))).length=32:=by rw[eP,aq]
   have bN:(eO ((rt (a++[d]) ((2*j+1)*2 ^ l) (2 ^ l)))).length=32:=by rw[eP,ar]
   have⟨v0,v1⟩:=ah.m2;have ca:=ah.lt
   go_upto_region 11 with((go_at_call 149;(with_reducible refine(aU.out _ (Fq [] wr)).mono ?_);rintro e y1 ⟨rfl,aN⟩;unfold fo;have⟨y2,b1,bq,aB⟩:=mL y1 _ aq))
   have bZ:=aN.size;have bU:=aB.lt;generalize y1.heap.size=L6 at aB bZ bU ⊢;have ak:=aN.then bq;have bx:=ah.fr ak qs;have⟨u0,u1⟩:=bx.m2;clear b1 aN bq v0 v1
   go_upto_region 12 with((go_at_call 149;(with_reducible refine(aV.out _ ak).mono ?_);rintro e y3 ⟨rfl,av⟩;unfold fo;have⟨y4,b2,aO,aC⟩:=mL y3 _ ar))
   have b0:=av.size;have bV:=aC.lt;have al:=ak.then (av.then aO);have bA:=eT aB (av.then aO) qs;generalize y3.heap.size=L7 at aC b0 bV ⊢;have ae:=ah.fr al qs;have⟨q0,q1⟩:=ae.m2;have b8:=ae.f 0;have b9:=ae.f 1;clear b2 av aO u0 u1 bx aB
   go_upto_region 13 with fail
   have⟨D,aE⟩:=eR ((y4.setCell ⟨P,0,none⟩ (.int .i64 (l+1))).setCell ⟨P,1,none⟩ (.int .i64 j));have aw:BoxN D P 270 #[.int .i64 (l+1),.int .i64 j]:=by rw[<-aE];exact(ae.setAt 0 _).setAt 1 _
   have ab:Fr [P] y4 D:=by rw[<-aE];exact((Fq [P] y4).st _).st _
   try rw[aE]
   have bk:=a6.fr al qs;have Z:=bk.fr ab (by intro k o;simp only[ip];rintro rfl;exact aI o);have a9:=eT bA ab (by simp;omega);have ba:=eT aC ab (by simp;omega);have M:Fr [P] wr D:=(al.mono qs).then ab;clear q0 q1 b8 b9 aE bA aC ae bk;have bW:Ok D:=bY.fr M (by simp;omega);have bh:∀W,Fr [] D W->Calls prog 150 #[.agg (eO ((rt (a++[d]) (2*j*2 ^ l) (2 ^ l)))).toArray,.agg (eO ((rt (a++[d]) ((2*j+1)*2 ^ l) (2 ^ l)))).toArray] W (fN W (iO ((rt (a++[d]) (2*j*2 ^ l) (2 ^ l))) ((rt (a++[d]) ((2*j+1)*2 ^ l) (2 ^ l))))):=λW hW=>sy _ _ W (bW.fr0 hW) aq ar;have aH:∀W,Fr [] D W->(W.cell? ⟨b,1,none⟩=some (.map (some r))/\W.cell? ⟨P,0,none⟩=some (.int .i64 (l+1))/\W.cell? ⟨P,1,none⟩=some (.int .i64 j))/\W.rangeAt L6 0 (eO ((rt (a++[d]) (2*j*2 ^ l) (2 ^ l))))/\W.rangeAt L7 0 (eO ((rt (a++[d]) ((2*j+1)*2 ^ l) (2 ^ l)))):=λW hW=>⟨⟨(Z.box.fr hW qs).c 1,(aw.fr hW qs).c 0,(aw.fr hW qs).c 1⟩,fw (eT a9 hW qs) aq,fw (eT ba hW qs) ar⟩;have hC:=aH _ (Fq [] D).drew;have HSS:=Hd (λ(W:World) (hW:(W.cell? ⟨b,1,none⟩=some (.map (some r))/\W.cell? ⟨P,0,none⟩=some (.int .i64 (l+1))/\W.cell? ⟨P,1,none⟩=some (.int .i64 j))/\W.rangeAt L6 0 (eO ((rt (a++[d]) (2*j*2 ^ l) (2 ^ l))))/\W.rangeAt L7 0 (eO ((rt (a++[d]) ((2*j+1)*2 ^ l) (2 ^ l)))))=>hW.1);refine eU (λW:World=>(W.cell? ⟨b,1,none⟩=some (.map (some r))/\W.cell? ⟨P,0,none⟩=some (.int .i64 (l+1))/\W.cell? ⟨P,1,none⟩=some (.int .i64 j))/\W.rangeAt L6 0 (eO ((rt (a++[d]) (2*j*2 ^ l) (2 ^ l))))/\W.rangeAt L7 0 (eO ((rt (a++[d]) ((2*j+1)*2 ^ l) (2 ^ l))))) 8 qk ?_ qd
   show fc 0 ..
   iterate 5 (refine gJ rfl ?_;try simp only[qq])
   refine fm (i:=5) (v:=.agg (eO ((rt (a++[d]) (2*j*2 ^ l) (2 ^ l)))).toArray) qk fh rfl qd qk (λ_ _ _ h=>h) (yieldsIf_load_mid qr 57 (.tmp 6) rfl L6 (0) rfl (eO ((rt (a++[d]) (2*j*2 ^ l) (2 ^ l)))) (.array 32 5) (λX H=>H.2.1) qk rfl (by rw[bM];kernel_rfl)) (by assumption) ?_
   try simp only[qq]
   refine fm (i:=6) (v:=.agg (eO ((rt (a++[d]) ((2*j+1)*2 ^ l) (2 ^ l)))).toArray) qk fh rfl qd qk (λ_ _ _ h=>h) (yieldsIf_load_mid qr 57 (.tmp 7) rfl L7 (0) rfl (eO ((rt (a++[d]) ((2*j+1)*2 ^ l) (2 ^ l)))) (.array 32 5) (λX H=>H.2.2) qk rfl (by rw[bN];kernel_rfl)) (by assumption) ?_
   try simp only[qq]
   refine hO (i:=7) rfl λV B=>?_;go_simp
   go_at_call 150
   (with_reducible refine(bh _ (Fq [] D).drew).mono ?_);rintro e y6 ⟨rfl,C⟩;unfold fo;have O:=C.undrew;refine B _ _ (aH _ O) ?_;clear B V hC HSS
   try simp only[qq]
   refine eV ⟨qk,?_⟩;simp only[qG,qH];have bs:=(Z.ms r rfl).1.fr O qs;obtain⟨kk,bR⟩:=bS;have⟨a7,b3,ac,bu⟩:=MapIs.put_new (v:=.agg (eO (iO ((rt (a++[d]) (2*j*2 ^ l) (2 ^ l))) ((rt (a++[d]) ((2*j+1)*2 ^ l) (2 ^ l))))).toArray) wM underlying235 bs bR (bQ);unfold jf at b3;have aa:=Z.fr O qs;have az:=(Z.ms r rfl).2
   have bn:TreeIs a7 b A' c' (some r) (a++[d]) ((s)++[(jf (l+1) j,fo (iO ((rt (a++[d]) (2*j*2 ^ l) (2 ^ l))) ((rt (a++[d]) ((2*j+1)*2 ^ l) (2 ^ l)))))]):=⟨aa.box.fr ac (by simpa using az.1.symm),aa.own.fr ac (by intro k o;simp only[ip];rintro rfl;exact az.2 o),aa.len,aa.nb,qs,λq z=>by
    injection z with z
    subst z;exact⟨bu,az⟩⟩
   have bK:P≠r:=by rintro rfl;exact aI qs
   have bI:=Hd bn;have bF:=Hd ((aw.fr O qs).fr ac (by simpa using bK));have bD:Hid (Fr [P,r] wr a7):=Hd (((M.mono (T:=[P,r]) qs).trans O qs).trans ac qs);clear bs ac bu aa bn C O aH bh Z a9 ba aw M al ak aJ aU aV ab az
   go_wp2
   go_roundg (j+1)
   case measure=>have:=n.1;omega
   case rel =>
    exact⟨l+1,j,_,qo,bI.out,bF.out,n.2.1.trans bD.out qs,by have K:=n.2.2.1;rw[Nat.pow_succ,Nat.mul_comm (2 ^ l) 2,<-Nat.mul_assoc,<-K];congr 1;omega,yM n.2.2.2.1 n.2.2.1 qo (sz (jL qo qo) (jL qo qo)),Bz n.2.2.2.2 n.2.2.1⟩
def wP(a:List Nm)(x f n:Nat):List Nm :=
 if b:n<=1 \/ 1048576<n then []else
  if x<fb n then wP a x f (fb n)++[rt a (f+fb n) (n - fb n)]else wP a (x - fb n) (f+fb n) (n - fb n)++[rt a f (fb n)]
termination_by n
decreasing_by
 ·exact(gj qo qo).2.1
 ·have:=gj (n:=n) qo qo;omega
def qW(a:List Nm)(x f:Nat):wP a x f 1=[]:=by rw[wP,dif_pos qo]
def qX(a:List Nm)(x f n:Nat)(b:2<=n)(c:n<=1048576):wP a x f n=if x<fb n then wP a x f (fb n)++[rt a (f+fb n) (n - fb n)]else wP a (x - fb n) (f+fb n) (n - fb n)++[rt a f (fb n)]:=by rw[wP,dif_neg qo]
def oG(c:List Nm):∀(n x f:Nat),1<=n->n<=1048576->(wP c x f n).length<n:=by
 intro n
 induction n using Nat.strongRecOn with
 | _ n b =>
  intro x f e a
  by_cases d:n=1
  ·subst d;rw[qW];simp
  ·have g:=gj (n:=n) qo a
   rw[qX _ _ _ _ qo a];split
   ·have:=b (fb n) qo x f qo qo
    rw[gu,length_singleton];omega
   ·have:=b (n - fb n) qo (x - fb n) (f+fb n) qo qo
    rw[gu,length_singleton];omega
def Hb{b:List Nm}(e:∀d∈b,d.length=32):∀(n x f:Nat),1<=n->f+n<=b.length->n<=1048576->∀d∈wP b x f n,d.length=32:=by
 intro n
 induction n using Nat.strongRecOn with
 | _ n g =>
  intro x f i j c
  by_cases h:n=1
  ·subst h;rw[qW];simp
  ·have k:=gj (n:=n) qo c
   rw[qX _ _ _ _ qo c];intro d a;split at a
   ·rcases mem_append.1 a with a|a
    ·exact g (fb n) qo x f qo qo qo d a
    ·rw[ip]at a;subst a;exact kD e _ _ qo qo qo
   ·rcases mem_append.1 a with a|a
    ·exact g (n - fb n) qo _ _ qo qo qo d a
    ·rw[ip]at a;subst a;exact kD e _ _ qo qo qo
def yN{n e f:Nat}(d:2<=n)(g:n<=1048576)(h:n<=2 ^ e)(c:2 ^ e ∣ f):(fb n<=2 ^ e/\2 ^ e ∣ f)/\∃b,n - fb n<=2 ^ b/\2 ^ b ∣ f+fb n:=by
 have⟨i,j,k⟩:=gj d g;refine⟨⟨qo,c⟩,Lib.bitLen (n - 1) - 1,?_,?_⟩
 ·show _<=fb n
  omega
 ·show fb n ∣ f+fb n
  refine Nat.dvd_add (Nat.dvd_trans ?_ c) (Nat.dvd_refl _);exact Nat.pow_dvd_pow 2 ((Nat.pow_le_pow_iff_right (a:=2) qd).1 (show fb n<=2 ^ e by omega))
def zY(b:Nat)(a:List Nm)(w:World)(f n:Nat):Prop:=∀W,Fr [] w W->Calls prog 127 #[.pointer (some ⟨b,0,none⟩),.int .i64 (f:Int),.int .i64 (n:Int)] W (fN W (rt a f n))
def BC(b:Nat)(a:List Nm)(C:List (Value × Value))(F:List Nat)(hP:mY a C)(v:∀d∈a,d.length=32)(m:a.length<=1000):∀(n x f:Nat) (w:World),TreeAt w b a C F->Ok w->1<=n->f+n<=a.length->x<n->(∃e,n<=2 ^ e/\2 ^ e ∣ f) ->
 Calls prog 125 #[.pointer (some ⟨b,0,none⟩),.int .i64 (x:Int),.int .i64 (f:Int),.int .i64 (n:Int)] w (wL w (wP a x f n)):=by
 intro n
 induction n using Nat.strongRecOn with
 | _ n ih =>
 intro x f w h A h1 h2 B he
 by_cases ak:n=1
 ·subst ak
  rw[qW];exact Ft b x f w
 ·obtain⟨e,af,ag⟩:=he
  have y:2<=n:=by omega
  have z:n<=1048576:=by omega
  have⟨⟨Y,u2⟩,e2,Z,u4⟩:=yN y z af ag;have⟨c,t,p⟩:=gj (n:=n) y z;have hL:=λW=>g9 n y z W;have r:=qX a x f n y z;have⟨k,q⟩:=eR (fb n);rw[q]at c t p hL r Y Z u4;have M:zY b a w f k:=λW hW=>yJ b a C F hP v qo k f W (h.fr0 hW) (A.fr0 hW) c (by omega) ⟨e,Y,u2⟩;have u:zY b a w (f+k) (n - k):=λW hW=>yJ b a C F hP v qo (n - k) (f+k) W (h.fr0 hW) (A.fr0 hW) (by omega) (by omega) ⟨e2,Z,u4⟩;obtain⟨ii,aa,ab,ac,ad⟩:=oC;have HL:=Hd hL
  by_cases s:x<k
  ·have l:=ih k t x f w h A c (by omega) s ⟨e,Y,u2⟩
   have i:=kD v (n - k) (f+k) (by omega) (by omega) (by omega);have X:=oG a k x f c (by omega);rw[if_pos s]at r;rw[r];unfold zY at u;rw[Int.natCast_add,Int.natCast_sub (Nat.le_of_lt t)]at u;have⟨d,O⟩:=eR (rt a (f+k) (n - k));have⟨xs,V⟩:=eR (wP a x f k);rw[O]at u i ⊢;rw[V]at l X ⊢;have N:(eO d).length=32:=by rw[eP,i]
   have G:=Hd l;have K:=Hd u;have aj:xs.length<=1000:=by omega
   have al:decide ((x:Int)<(k:Int))=true:=by simp;exact s
   have ah:0<=(f:Int)+k/\(f:Int)+k<=1048576:=by omega
   have ai:0<=(n:Int) - k/\(n:Int) - k<=1048576:=by omega
   go_enter func125,ntmps125
   go_wp2_with
    (first
     | (go_at_call 171;(with_reducible refine(HL.out _).mono ?_);rintro e w1 ⟨rfl,rfl⟩)
     | (go_at_call 125;(with_reducible refine G.out.mono ?_);rintro e w1 ⟨A1,c,rfl,R,P,T⟩;have H:=Hd R;have g:=Hd P;have o:=Hd T)
     | (go_at_call 127;(with_reducible refine(K.out _ g.out).mono ?_);rintro e w2 ⟨rfl,j⟩;unfold fo;have I:=Hd (H.fr j qs);have D:=Hd (g.then j);have ae:=j.size)
     | (rw[mK qr i];at_builtin;(with_reducible refine fC (w:=w2) rfl (.tmp 21) (.tmp 30) 51 rfl 57 ii _ 32 32 underlying51 aa ab ac ad rfl qd A1 xs.length c (xs.flatMap eO) rfl I.out 1 1 (eO d) 57 rfl (by rw[N]) (gN d) (by unfold maxLen;omega) qo ?_);intro A3 p w3 S Q U;have J:=Hd S;have E:=Hd Q;have L:=Hd U))
   go_ret
   have m:(xs++[d]).length=xs.length+1:=qs
   have h1:=g.size;refine⟨A3,p,by rw[m];rfl,by rw[m,pz];exact J.out,D.trans E.out (λx B=>.inr (o.out x B)),λk q=>?_⟩
   rcases L.out k q with h|h
   ·exact o.out k h
   ·omega
  ·have l:=ih (n - k) (by omega) (x - k) (f+k) w h A (by omega) (by omega) (by omega) ⟨e2,Z,u4⟩
   have i:=kD v k f (by omega) (by omega) (by omega);have X:=oG a (n - k) (x - k) (f+k) (by omega) (by omega);rw[if_neg s]at r;rw[r];rw[Int.natCast_add,Int.natCast_sub (Nat.le_of_lt t),Int.natCast_sub (Nat.le_of_not_lt s)]at l;unfold zY at M;have⟨d,O⟩:=eR (rt a f k);have⟨xs,V⟩:=eR (wP a (x - k) (f+k) (n - k));rw[O]at M i ⊢;rw[V]at l X ⊢;have N:(eO d).length=32:=by rw[eP,i]
   have G:=Hd l;have K:=Hd M;have aj:xs.length<=1000:=by omega
   have al:decide ((x:Int)<(k:Int))=false:=by simp;omega
   have ah:0<=(f:Int)+k/\(f:Int)+k<=1048576:=by omega
   have ai:0<=(n:Int) - k/\(n:Int) - k<=1048576:=by omega
   have am:0<=(x:Int) - k/\(x:Int) - k<=1048576:=by omega
   go_enter func125,ntmps125
   go_wp2_with
    (first
     | (go_at_call 171;(with_reducible refine(HL.out _).mono ?_);rintro e w1 ⟨rfl,rfl⟩)
     | (go_at_call 125;(with_reducible refine G.out.mono ?_);rintro e w1 ⟨A1,c,rfl,R,P,T⟩;have H:=Hd R;have g:=Hd P;have o:=Hd T)
     | (go_at_call 127;(with_reducible refine(K.out _ g.out).mono ?_);rintro e w2 ⟨rfl,j⟩;unfold fo;have I:=Hd (H.fr j qs);have D:=Hd (g.then j);have ae:=j.size)
     | (rw[mK qr i];at_builtin;(with_reducible refine fC (w:=w2) rfl (.tmp 42) (.tmp 47) 51 rfl 57 ii _ 32 32 underlying51 aa ab ac ad rfl qd A1 xs.length c (xs.flatMap eO) rfl I.out 1 1 (eO d) 57 rfl (by rw[N]) (gN d) (by unfold maxLen;omega) qo ?_);intro A3 p w3 S Q U;have J:=Hd S;have E:=Hd Q;have L:=Hd U))
   go_ret
   have m:(xs++[d]).length=xs.length+1:=qs
   have h1:=g.size;refine⟨A3,p,by rw[m];rfl,by rw[m,pz];exact J.out,D.trans E.out (λx B=>.inr (o.out x B)),λk q=>?_⟩
   rcases L.out k q with h|h
   ·exact o.out k h
   ·omega
def zZ(n:Nat):∃e,n<=2 ^ e/\2 ^ e ∣ 0:=⟨n,Nat.le_of_lt Nat.lt_two_pow_self,Nat.dvd_zero _⟩
def BD(b:Nat)(a:List Nm)(f:List (Value × Value))(F:List Nat)(s:mY a f)(v:∀d∈a,d.length=32)(z:a.length<=1000)(n x:Nat)(w:World)(h:TreeAt w b a f F)(B:Ok w)(r:1<=n)(G:n<=a.length)(D:x<n):
 Calls prog 61 #[.pointer (some ⟨b,0,none⟩),.int .i64 (x:Int),.int .i64 (n:Int)] w (ue w (wP a x 0 n)):=by
 have g:=BC b a f F s v z n x 0 w h B r qo D (zZ n);rw[show ((0:Nat):Int)=0 from rfl]at g;obtain⟨E,c,m,t,_⟩:=h;have i:=jz (n:Int) 1 (a.length:Int) w;have j:=jz (x:Int) 0 ((n:Int) - 1) w;rw[show decide ((1:Int)<=(n:Int)/\(n:Int)<=(a.length:Int))=true from by simp;omega]at i;rw[show decide ((0:Int)<=(x:Int)/\(x:Int)<=(n:Int) - 1)=true from by simp;omega]at j;have u:=t.box;have o:=Hd i;have p:=Hd j;have l:=Hd g;have H:=u.k0
 go_enter func61,ntmps61
 go_wp2_with (first
  | (go_at_call 124;(with_reducible refine o.out.mono ?_);rintro e k ⟨rfl,rfl⟩)
  | (go_at_call 124;(with_reducible refine p.out.mono ?_);rintro e k ⟨rfl,rfl⟩)
  | (go_at_call 125;(with_reducible refine l.out.mono ?_);rintro e k ⟨A1,q,rfl,A,y,C⟩))
 go_ret2
 exact⟨A1,q,rfl,A,y,C⟩
def Hc(b:Nat)(a:List Nm)(x:List (Value × Value))(F:List Nat)(M:mY a x)(q:∀d∈a,d.length=32)(V:a.length<=1000)(n:Nat)(w:World)(y:TreeAt w b a x F)(N:Ok w)(z:1<=n)(T:n<=a.length):
 Calls prog 62 #[.pointer (some ⟨b,0,none⟩),.int .i64 (n:Int)] w (qZ w (rt a 0 n)):=by
 have⟨i,k⟩:=eR (w.alloc (.cells (qP) 57));have h:Fr [] w i:=by rw[<-k];exact(Fq [] w).alloc _
 obtain⟨S,A⟩:∃f,i.rowIs w.heap.size 57 32 f:=by rw[<-k];exact⟨_,gi w _ _⟩
 have j:=yJ b a x F M q qo n 0 i (y.fr0 h) (N.fr0 h) z qo (zZ n);rw[show ((0:Nat):Int)=0 from rfl]at j;have g:=kD q n 0 z qo qo;have⟨d,D⟩:=eR (rt a 0 n);rw[D]at j g ⊢;have U:(eO d).length=32:=by rw[eP,g]
 have hW:=jz (n:Int) 0 (a.length:Int) i;rw[show decide ((0:Int)<=(n:Int)/\(n:Int)<=(a.length:Int))=true from by simp;omega]at hW;obtain⟨R,c,m,B,_⟩:=y;have C:=B.box.fr h qs;have W:=C.k0
 have G:=Hd j;have K:=Hd hW;have J:=Hd A;have H:=Hd h;have L:=Hd k;clear j hW A h k C B D q
 go_enter func62,ntmps62
 go_upto_region 1 with fail
 rw[L.out]
 go_wp2_with (first
  | (go_at_call 124;(with_reducible refine K.out.mono ?_);rintro e i ⟨rfl,rfl⟩)
  | (go_at_call 127;(with_reducible refine G.out.mono ?_);rintro e P ⟨rfl,r⟩;unfold fo;have l:=eT J.out r qs;have O:=fj (d:=d) l g;have s:=fp (d:=d) l g;obtain⟨Q,t⟩:∃X,P.setCells w.heap.size 0 (eO d)=X:=⟨_,rfl⟩;have E:Fr [] w Q:=(by rw[<-t];exact((H.then r).setCells (.inr (fW _)) _ _));rw[t]at O s;have HRD:=Hd s.1;have I:=Hd E;clear t s E l r))
 exact bodyPost_ret (v:=.tuple #[fo d,.int .i64 0]) (iM (d:=.array 32 5) (p:=4) (u:=5) (ty:=57) (b:=w.heap.size) (o:=0) rfl rfl rfl HRD.out qk rfl (by rw[eP,g];rfl)) rfl ⟨rfl,I.out⟩
open Go.RowKit Go.Shelf
attribute [local go_sem] Oper.semAt_some
def bl(x n:Nat):List Bool :=
 if h:n<=1 \/ 1048576<n then []else if x<fb n then bl x (fb n)++[true]else bl (x - fb n) (n - fb n)++[false]
termination_by n
decreasing_by
 all_goals have:=gj (n:=n) qo qo;omega
def yO(x:Nat):bl x 1=[]:=by rw[bl,dif_pos qo]
def vi(x n:Nat)(a:2<=n)(b:n<=1048576):bl x n=if x<fb n then bl x (fb n)++[true]else bl (x - fb n) (n - fb n)++[false]:=by rw[bl,dif_neg qo]
def DU(m l x n k:Nat)(W:World)(R b:World->Prop)(z:2<=n)(B:n<=1048576)(g:fb n=k)(C:x<k)(i:∀m,CallsIn Fence.wide m prog 259 #[.int .i64 (x:Int),.int .i64 (k:Int),.func (.yield l) #[] #[]] W (Bo R))
 (j:∀W,R W->YieldAt Fence.wide 0 prog l #[.bool true] W (Bo b)):CallsIn Fence.wide m prog 259 #[.int .i64 (x:Int),.int .i64 (n:Int),.func (.yield l) #[] #[]] W (Bo b):=by
 have a:=g9 n qo qo W;rw[g]at a;have p:=Hd a;have q:=Hd i;have s:=Hd j;have A:((n:Int) == 1)=false:=by simp;omega
 have D:(x:Int)<(k:Int):=qo
 clear a i j g;refine callsIn_of_wp func259 rfl trivial ?_ rfl;simp only[ntmps259,size_toArray,length_cons,length_nil,Nat.reduceAdd,Nat.reduceSub,Array.replicate_succ,Array.replicate_zero,push_toArray,append_toArray,nil_append,cons_append]
 gi_wp2_with (first
  | (refine⟨trivial,λh=>absurd h (by simp[Fence.wide]),?_⟩;(with_reducible refine(callsIn_wide.2 p.out).mono ?_);rintro e t ⟨rfl,rfl⟩)
  | (refine⟨trivial,λh=>absurd h (by simp[Fence.wide]),?_⟩;(with_reducible refine(q.out _).mono ?_);rintro e t ⟨rfl,c⟩;have⟨y,F,v,w,E,f⟩:=gC (m':=m - 1) (s.out _ c);have r:=Hd f;clear c f))
 refine⟨λh=>absurd h (by simp[Fence.wide]),r.mono ?_⟩;rintro e u ⟨rfl,d⟩;have o:=Hd d;clear d
 gi_wp2_with fail
 go_ret
 exact⟨rfl,o.out⟩
def DV(m l x n k y r:Nat)(W:World)(R b:World->Prop)(B:2<=n)(D:n<=1048576)(g:fb n=k)(H:x<n)(J:k<=x)(L:x - k=y)(E:n - k=r)(i:∀m,CallsIn Fence.wide m prog 259 #[.int .i64 (y:Int),.int .i64 (r:Int),.func (.yield l) #[] #[]] W (Bo R))
 (j:∀W,R W->YieldAt Fence.wide 0 prog l #[.bool false] W (Bo b)):CallsIn Fence.wide m prog 259 #[.int .i64 (x:Int),.int .i64 (n:Int),.func (.yield l) #[] #[]] W (Bo b):=by
 have a:=g9 n qo qo W;rw[g]at a;have p:=Hd a;have q:=Hd i;have t:=Hd j;have C:((n:Int) == 1)=false:=by simp;omega
 have K:¬(x:Int)<(k:Int):=qo
 have I:decide (x<k)=false:=by simp;omega
 have F:IntKind.i64.wrap ((x:Int) - (k:Int))=(y:Int):=by simp[IntKind.wrap,IntKind.bits,IntKind.signed];omega
 have G:IntKind.i64.wrap ((n:Int) - (k:Int))=(r:Int):=by simp[IntKind.wrap,IntKind.bits,IntKind.signed];omega
 clear a i j g;refine callsIn_of_wp func259 rfl trivial ?_ rfl;simp only[ntmps259,size_toArray,length_cons,length_nil,Nat.reduceAdd,Nat.reduceSub,Array.replicate_succ,Array.replicate_zero,push_toArray,append_toArray,nil_append,cons_append]
 gi_wp2_with (first
  | (refine⟨trivial,λh=>absurd h (by simp[Fence.wide]),?_⟩;(with_reducible refine(callsIn_wide.2 p.out).mono ?_);rintro e u ⟨rfl,rfl⟩)
  | (refine⟨trivial,λh=>absurd h (by simp[Fence.wide]),?_⟩;(with_reducible refine(q.out _).mono ?_);rintro e u ⟨rfl,c⟩;have⟨A,N,w,z,M,f⟩:=gC (m':=m - 1) (t.out _ c);have s:=Hd f;clear c f))
 refine⟨λh=>absurd h (by simp[Fence.wide]),s.mono ?_⟩;rintro e v ⟨rfl,d⟩;have o:=Hd d;clear d
 gi_wp2_with fail
 go_ret
 exact⟨rfl,o.out⟩
def vj(l:Nat):∀(n x:Nat) (m:Nat) (W:World) (R:Nat->World->Prop),1<=n->n<=1048576->x<n->R 0 W ->
 (∀(j:Nat) (b:Bool) (a:World),(bl x n)[j]?=some b->R j a->YieldAt Fence.wide 0 prog l #[.bool b] a (Bo (R (j+1)))) ->
 CallsIn Fence.wide m prog 259 #[.int .i64 (x:Int),.int .i64 (n:Int),.func (.yield l) #[] #[]] W (Bo (R (bl x n).length)):=by
 intro n
 induction n using Nat.strongRecOn with
 | ind n o =>
  intro x m W R p f r i d
  rcases Nat.eq_or_lt_of_le p with rfl|g
  ·rw[yO]
   exact Bp m _ _ W (R 0) i
  ·have q:=gj (n:=n) g f
   rw[vi x n g f]at d ⊢
   by_cases h:x<fb n
   ·rw[if_pos h]at d ⊢
    rw[gu];refine DU m l x n (fb n) W (R (bl x (fb n)).length) _ g f rfl h (λk=>o (fb n) qo x k W R q.1 qo h i (λj b a e c=>d j b a ?_ c)) (λa c=>d _ true a ?_ c)
    ·rw[List.getElem?_append_left (gV.1 e).1];exact e
    ·rw[List.getElem?_append_right (fW _),Nat.sub_self];rfl
   ·rw[if_neg h]at d ⊢
    rw[gu];refine DV m l x n (fb n) (x - fb n) (n - fb n) W (R (bl (x - fb n) (n - fb n)).length) _ g f rfl r qo rfl rfl (λk=>o (n - fb n) qo (x - fb n) k W R qo qo qo i (λj b a e c=>d j b a ?_ c)) (λa c=>d _ false a ?_ c)
    ·rw[List.getElem?_append_left (gV.1 e).1];exact e
    ·rw[List.getElem?_append_right (fW _),Nat.sub_self];rfl
def IM(n g h i a:Nat)(w:World)(z:i<a)(A:a<=1048576)(p:BoxN w g 3 #[.int .i64 (i:Int)])(f:BoxN w h 3 #[.int .i64 (a:Int)])(l:Nat)(J:Nat->World->Prop)(W:World)(hW:Fr [] w W)
 (r:∀k x d,(bl i a)[k]?=some x->J k d->YieldAt Fence.wide (n - 1) prog l #[.bool x] d λe o=>e=.returned (.bool true)/\J (k+1) o) (q:J 0 W) :
 CallsIn Fence.wide n prog 258 (#[.func (.yield l) #[] #[]]++#[.pointer (some ⟨g,0,none⟩),.pointer (some ⟨h,0,none⟩)]) W λe o=>(∃v,e=.returned v)/\J (bl i a).length o:=by
 have C:=(p.fr hW qs).c 0;have D:=(f.fr hW qs).c 0
 have s:=Hd (λm =>
  vj l a i m W J qo A z q (λj b d y u=>gC (r j b d y u)))
 clear p f r q hW
 show CallsIn Fence.wide n prog 258 #[.func (.yield l) #[] #[],.pointer g,.pointer h] W _
 refine callsIn_of_wp func258 rfl trivial ?_ rfl;simp only[ntmps258,size_toArray,length_cons,length_nil,Nat.reduceAdd,Nat.reduceSub,Array.replicate_succ,Array.replicate_zero,push_toArray,append_toArray,nil_append,cons_append]
 gi_wp2_with (refine⟨trivial,λt=>absurd t (by simp[Fence.wide]),?_⟩;(with_reducible refine(s.out _).mono ?_);rintro e B ⟨rfl,f⟩)
 go_end0
 exact⟨⟨_,rfl⟩,f⟩
def fF(l r:Nm):List Value:=eO l++eO r
def iZ{l r:Nm}(a:l.length=32)(b:r.length=32):(fF l r).length=64:=by
 unfold fF;rw[gu,eP,eP,a,b]
def pE(l r:Nm):∀u∈fF l r,u.oneCell'=true:=by
 intro u a
 rcases mem_append.1 a with h|h
 ·exact gN l u h
 ·exact gN r u h
def BE(off:Nat)(l:List Value):∀(k:Nat) (z:Array Value),off+k+l.length<=z.size->∀i,((l.zipIdx k).foldl (λcs x=>cs.setIfInBounds (off+x.2) x.1) z)[i]?=if off+k<=i/\i<off+k+l.length then l[i - (off+k)]? else z[i]?:=by
 induction l with
 | nil =>
  intro k z _ i;simp only[zipIdx_nil,foldl_nil,length_nil]
  rw[if_neg qo]
 | cons x l d =>
  intro k z c i;simp only[length_cons]at c;rw[zipIdx_cons,foldl_cons,d (k+1) _ (by simp;omega)];simp only[length_cons]
  by_cases a:off+(k+1)<=i/\i<off+(k+1)+l.length
  ·rw[if_pos a,if_pos qo,show i - (off+k)=(i - (off+(k+1)))+1 by omega,List.getElem?_cons_succ]
  ·rw[if_neg a]
   by_cases b:i=off+k
   ·subst b
    rw[if_pos qo,Nat.sub_self,List.getElem?_cons_zero,Array.getElem?_setIfInBounds_self_of_lt qo]
   ·rw[if_neg qo,Array.getElem?_setIfInBounds_ne qo]
def lB(l:List Value):∀(k:Nat) (z:Array Value),((l.zipIdx k).foldl (λcs x=>cs.setIfInBounds x.2 x.1) z).size=z.size:=by
 induction l with
 | nil=>intro k z;rfl
 | cons x l a=>intro k z;rw[zipIdx_cons,foldl_cons,a];simp
def BF{l r:Nm}(d:l.length=32)(e:r.length=32)(z:Array Value)(g:z.size=64):
 ((eO r).zipIdx).foldl (λcs x=>cs.setIfInBounds (32+x.2) x.1) (((eO l).zipIdx).foldl (λcs x=>cs.setIfInBounds x.2 x.1) z)=(fF l r).toArray:=by
 have b:(eO l).length=32:=by rw[eP,d]
 have c:(eO r).length=32:=by rw[eP,e]
 have h:=lB (eO l) 0 z
 apply Array.ext_getElem?
 intro i;rw[BE 32 (eO r) 0 _ qo i,oD (eO l) 0 z qo i,b,c];simp only[fF,List.getElem?_toArray,List.getElem?_append,b,Nat.add_zero,Nat.zero_add,Nat.sub_zero,Nat.zero_le,true_and]
 by_cases a:i<32
 ·rw[if_neg qo,if_pos a,if_pos a]
 ·rw[if_neg a]
  by_cases f:i<64
  ·rw[if_pos qo,if_neg a]
  ·rw[if_neg qo,if_neg a,Array.getElem?_eq_none qo,List.getElem?_eq_none qo]
def mf(W:World){l r:Nm}(a:l.length=32)(b:r.length=32):(Instr.build 308 #[(0,.agg (eO l).toArray),(1,.agg (eO r).toArray)]).run prog W=.ok (.agg (fF l r).toArray) W:=by
 have c:(eO l).length=32:=by rw[eP,a]
 have d:(eO r).length=32:=by rw[eP,b]
 simp[Instr.build,go_sem,c,d,lB];exact BF a b _ rfl
def ug{W:World}{B:Nat}{l r:Nm}(h:BoxN W B 308 (fF l r).toArray):W.rangeAt B 0 (eO l):=λj v a=>by
 rw[Nat.zero_add,h.c j];have b:=(gV.1 a).1;simp only[fF,List.getElem?_toArray];rw[List.getElem?_append_left b];exact a
def sB{W:World}{B:Nat}{l r:Nm}(b:l.length=32)(h:BoxN W B 308 (fF l r).toArray):W.rangeAt B 32 (eO r):=λj v d=>by
 have a:(eO l).length=32:=by rw[eP,b]
 rw[h.c (32+j)];simp only[fF,List.getElem?_toArray];rw[List.getElem?_append_right qo,a,Nat.add_sub_cancel_left];exact d
def sC(l r:Nm)(w:World)(S:Ok w)(t:l.length=32)(G:r.length=32):Calls prog 219 #[.agg (fF l r).toArray] w (fN w (iO l r)):=by
 have⟨a,x,E,q⟩:=kJ w (fF l r).toArray 308;have⟨w2,g⟩:=eR (a.alloc (.cells (qP) 57));have c:Fr [] a w2:=by rw[<-g];exact(Fq [] a).alloc _
 obtain⟨W,D⟩:∃f,w2.rowIs a.heap.size 57 32 f:=by rw[<-g];exact⟨_,gi a _ _⟩
 have H:a.heap.size=w.heap.size+1:=by rw[<-x];exact jZ _ _
 have k:=E.fr c qs;have h:=sy l r w2 (S.fr0 (q.then c)) t G;have⟨d,m⟩:=eR (iO l r);have n:d.length=32:=by rw[<-m];exact fy _
 rw[m]at h ⊢;have Q:(eO d).length=32:=by rw[eP,n]
 have O:(eO l).length=32:=by rw[eP,t]
 have P:(eO r).length=32:=by rw[eP,G]
 have K:=Hd (ug k);have L:=Hd (sB t k);have z:=Hd h;have A:=Hd D;have I:=Hd (q.then c);have M:=Hd x;have N:=Hd g;have⟨R,j⟩:=eR (a.heap.size);rw[j]at A;have B:=Hd j;have C:=Hd H;clear h D q c x g E k m H j;unfold fo at z
 go_enter func219,ntmps219
 go_upto_region 1 with fail
 rw[M.out,N.out,<-C.out,B.out]
 go_wp2_with (first
  | (with_reducible refine wpList_load_mid rfl 57 (.tmp 3) rfl w.heap.size 0 rfl (eO l) (.array 32 5) K.out qk rfl (by rw[O];kernel_rfl) ?_)
  | (with_reducible refine wpList_load_mid rfl 57 (.tmp 5) rfl w.heap.size 32 rfl (eO r) (.array 32 5) L.out qk rfl (by rw[P];kernel_rfl) ?_)
  | (go_at_call 150;(with_reducible refine z.out.mono ?_);rintro e U ⟨rfl,s⟩;unfold fo;have i:=eT A.out s qs;have T:=fj (d:=d) i n;have u:=fp (d:=d) i n;obtain⟨V,y⟩:∃X,U.setCells R 0 (eO d)=X:=⟨_,rfl⟩;have F:Fr [] w V:=(by rw[<-y];exact((I.then s).setCells (.inr (by have:=B.out;have:=C.out;omega)) _ _));rw[y]at T u;have HRD:=Hd u.1;have J:=Hd F;clear y u F i s))
 exact bodyPost_ret (v:=fo d) (fH (d:=.array 32 5) (p:=2) (ty:=57) (b:=R) (o:=0) rfl rfl HRD.out qk rfl (by rw[Q];rfl)) rfl ⟨rfl,J.out⟩
end Go.Proofs.YtlpmiimgacfmkaaGreatDoor
