/- Part of the proof. -/
import Derived.Test.YtlpmiimgacfmkaaGreatDoorRTr3
set_option linter.all false
set_option maxHeartbeats 4000000
set_option maxRecDepth 100000
namespace Go.Proofs.YtlpmiimgacfmkaaGreatDoor
open Go.Proofs.Tryz
open Go.RowKit
def lA(b:List (Value × Value))(l n:Nat):Prop:=∀p∈b,∃a i:Nat,p.1=je a i/\(i+1)*2 ^ a<=n+1/\(a<=l \/ (i+1)*2 ^ a<=n)
def oA(b:List Nm)(c:List (Value × Value))(l n:Nat):Prop:=∀a i:Nat,(i+1)*2 ^ a<=n+1->(a<=l \/ (i+1)*2 ^ a<=n)->PartIs b c a i (rt b (i*2 ^ a) (2 ^ a))
theorem PartIs.more{e ds':List Nm}{g kvs':List (Value × Value)}{l i:Nat}{d:Nm}(h:PartIs e g l i d)(j:∀x,e[i]?=some x->ds'[i]?=some x)(k:∀p∈g,p∈kvs'):PartIs ds' kvs' l i d:=by
 obtain⟨f,h|⟨a,b,c⟩⟩:=h
 ·exact⟨f,.inl ⟨h.1,j _ h.2⟩⟩
 ·exact⟨f,.inr ⟨a,k _ b,c⟩⟩
theorem zz{a b c d:Nat}(h:je (a:Int) (b:Int)=je (c:Int) (d:Int)):a=c/\b=d:=by
 unfold je at h
 injection h with h
 have:=congrArg Array.toList h;simp at this;omega
theorem uY{b:List Nm}{d:Nm}{g:List (Value × Value)}(l:mW b g)(m:d.length=32)(r:b.length<=1048575):oA (b++[d]) g 0 b.length:=by
 intro a i p q;have o:=Nat.one_le_two_pow (n:=a)
 by_cases c:(i+1)*2 ^ a<=b.length
 ·have e:i*2 ^ a+2 ^ a<=b.length:=by rw[Nat.add_mul]at c;omega
  rw[Dx _ _ _ _ o e qo];exact(l a i c).more (λx f=>by rw[List.getElem?_append_left (i9.1 f).1];exact f) (λ_ h=>h)
 ·have j:a=0:=qo
  subst j;have k:i=b.length:=qo
  subst k;rw[Nat.pow_zero,Nat.mul_one,pt,List.getD_eq_getElem?_getD,List.getElem?_append_right (fV _)];simp only[Nat.sub_self,List.getElem?_cons_zero,Option.getD_some];exact⟨m,.inl ⟨rfl,by rw[List.getElem?_append_right (fV _)];simp⟩⟩
theorem xh{b:List Nm}{d:List (Value × Value)}{l j n:Nat}(h:oA b d l n)(s:(2*j+1+1)*2 ^ l=n+1)(w:n+1<=1048576)(t:∃k,keyOf prog 270 (je ((l+1:Nat):Int) (j:Int))=some k):
 oA b (d++[(je ((l+1:Nat):Int) (j:Int),fu (ig (rt b (2*j*2 ^ l) (2 ^ l)) (rt b ((2*j+1)*2 ^ l) (2 ^ l))))]) (l+1) n:=by
 intro a i o v
 by_cases p:a<=l \/ (i+1)*2 ^ a<=n
 ·exact(h a i o p).more (λ_ h=>h) (λ_ h=>by simp[h])
 ·have q:a=l+1:=qo
  subst q;have x:=Nat.one_le_two_pow (n:=l);have e:=Nat.pow_succ (n:=2) (m:=l);have c:(i+1)*2 ^ (l+1)=n+1:=qo
  have r:i=j:=by
   rw[e,<-s,Nat.mul_comm (2 ^ l) 2,<-Nat.mul_assoc]at c;have:=Nat.eq_of_mul_eq_mul_right qo c;omega
  subst r
  have u:2 ^ (l+1)<=1048576:=by
   have:1*2 ^ (l+1)<=(i+1)*2 ^ (l+1):=Nat.mul_le_mul_right _ qo;omega
  rw[ET _ _ _ u];have f:i*2 ^ (l+1)=2*i*2 ^ l:=by rw[e,Nat.mul_comm (2 ^ l) 2,<-Nat.mul_assoc,Nat.mul_comm i 2]
  have g:2*i*2 ^ l+2 ^ l=(2*i+1)*2 ^ l:=by rw[Nat.add_mul,Nat.one_mul]
  rw[f,g];exact⟨fw _,.inr ⟨qo,qs,t⟩⟩
theorem zD{c:List (Value × Value)}{l j n:Nat}{v:Value}(h:lA c l n)(f:(2*j+1+1)*2 ^ l=n+1):lA (c++[(je ((l+1:Nat):Int) (j:Int),v)]) (l+1) n:=by
 intro p b
 rcases List.mem_append.1 b with b|b
 ·obtain⟨a,i,d,e,g⟩:=h p b
  exact⟨a,i,d,e,qo⟩
 ·rw[gI]at b
  subst b;refine⟨l+1,j,rfl,?_,.inl (fV _)⟩;rw[Nat.pow_succ,Nat.mul_comm (2 ^ l) 2,<-Nat.mul_assoc,<-f];exact Nat.mul_le_mul_right _ qo
theorem zF{c:List (Value × Value)}{l j n:Nat}(h:lA c l n)(e:(2*j+1+1)*2 ^ l=n+1):∀p∈c,p.1≠je ((l+1:Nat):Int) (j:Int):=by
 intro p f b;obtain⟨a,i,d,k,m⟩:=h p f;rw[d]at b;obtain⟨rfl,rfl⟩:=zz b;have g:(i+1)*2 ^ (l+1)=n+1:=by rw[Nat.pow_succ,Nat.mul_comm (2 ^ l) 2,<-Nat.mul_assoc,<-e];congr 1;omega
 omega
theorem zG{b:List Nm}{e:List (Value × Value)}{l i n:Nat}(h:oA b e l n)(g:(i+1)*2 ^ l=n+1)(o:i % 2=0)(j:b.length=n+1):mW b e:=by
 intro a k c;rw[j]at c
 by_cases f:a<=l \/ (k+1)*2 ^ a<=n
 ·exact h a k c f
 ·have d:(k+1)*2 ^ a=n+1:=qo
  obtain⟨m,rfl⟩:∃m,a=l+1+m:=⟨a - l - 1,qo⟩;have p:=Nat.one_le_two_pow (n:=l);rw[Nat.pow_add,Nat.pow_succ,<-g,Nat.mul_comm (2 ^ l) 2,Nat.mul_assoc 2,Nat.mul_comm (2 ^ l),<-Nat.mul_assoc 2,<-Nat.mul_assoc]at d;have:=Nat.eq_of_mul_eq_mul_right qo d;rw[<-Nat.mul_assoc,Nat.mul_comm (k+1) 2,Nat.mul_assoc]at this;omega
theorem BJ{b:List (Value × Value)}{l n:Nat}(h:lA b l n):lA b 0 (n+1):=by
 intro p e;obtain⟨a,i,c,d,f⟩:=h p e;exact⟨a,i,c,qo,.inr d⟩
def xV(b:Nat)(a:List Nm)(F:List Nat)(w:World)(e:Ending)(w':World):Prop:=e=.returned (.int .i64 0)/\∃c F',TreeM w' b a c F'/\mW a c/\lA c 0 a.length/\Fr F w w'/\∀k∈F',k∈F \/ w.heap.size<=k
theorem BK(b:Nat)(a:List Nm)(d:Nm)(af:List (Value × Value))(F:List Nat)(w:World)(hM:TreeM w b a af F)(bi:mW a af)(bf:lA af 0 a.length)(bw:Ok w)(br:∀k∈F,6<=k)(ap:d.length=32)(cf:1<=a.length)(ch:a.length<=1000):
 Calls prog 89 #[.pointer (some ⟨b,0,none⟩),fu d] w (xV b (a++[d]) F w):=by
 obtain⟨A,c,r,h,rfl⟩:=hM;have bC:=uY bi ap qo;have aY:=Hd (An bC bf);clear bC bf bi
 have ao:(eP d).length=32:=by rw[eU,ap]
 have aM:=h.box;have cb:=aM.lt;unfold fu;obtain⟨I,aD⟩:=eR (w.alloc (.cells (eP d).toArray 57));have bg:I.rowIs w.heap.size 57 32 (λj=>.int .u8 ((d.getD j 0).toNat:Int)):=by rw[<-aD];exact gS w ao
 have au:Fr [] w I:=by rw[<-aD];exact(Fq [] w).alloc _
 have bo:=aM.fr au qs;obtain⟨y0,y1⟩:=bo.m2;have bj:=h.fr au qs;have bJ:=Hd aD;have J:=Hd au;have aX:=Hd bg;have a5:=Hd bj;have E:=Hd h;clear aD bo au bg aM bj h;have qT:∀(w:World) (r:Option Nat),(binOp .eql 235 (.map r) (.map none)).run prog w=.ok (.bool r.isNone) w:=λw r=>run_eql_map_nil w _ _ _ r underlying235
 go_enter func89,ntmps89
 go_upto_region 1 with fail
 rw[bJ.out]
 go_upto_region 8 with fail
 obtain⟨w4,b4,bz,N⟩:=kS I #[.int .i64 0,.int .i64 a.length] 270;rw[b4];have L:=a5.out.fr N qs;have bp:=L.box.k0;have ai:=eS aX.out N qs;have U:=Hd L.box;have a4:=Hd L.own;have aQ:=L.nb;have aP:w.heap.size ∉ eV A:=by intro m;have:=E.out.own.lt _ m;omega
 have aA:∀X:World,X.rowIs w.heap.size 57 32 (λj=>.int .u8 ((d.getD j 0).toNat:Int))->X.rangeAt w.heap.size 0 (eP d):=λX hr j v hv=>by
  rw[Nat.zero_add];have hj:j<32:=by have:=(i9.1 hv).1;rw[ao]at this;exact this
  rw[hr.cell hj,<-hv,iy qo]
 have hC:(λX:World=>X.cell? ⟨b,0,none⟩=some (.slice A a.length c)/\X.rangeAt w.heap.size 0 (eP d)) w4.drew:=⟨bp,aA _ ai.drew⟩;have HSS:=Hd (λ(X:World) (H:X.cell? ⟨b,0,none⟩=some (.slice A a.length c)/\X.rangeAt w.heap.size 0 (eP d))=>An H.1 trivial);refine eZ (λX:World=>X.cell? ⟨b,0,none⟩=some (.slice A a.length c)/\X.rangeAt w.heap.size 0 (eP d)) 10 qk ?_ qd
 show fb 0 ..
 iterate 5 (refine gB rfl ?_;try simp only[qq])
 refine fN (i:=5) (v:=.agg (eP d).toArray) qk fC rfl qd qk (λ_ _ _ h=>h) (yieldsIf_load_mid qr 57 (.tmp 3) rfl w.heap.size (0) rfl (eP d) (.array 32 5) (λX H=>H.2) qk rfl (by rw[ao];kernel_rfl)) (by assumption) ?_
 try simp only[qq]
 refine hO (i:=6) rfl λV B=>?_;go_simp
 rw[mI qr ap];obtain⟨X5,M,n5,t⟩:=sf w4 (eP d).toArray 57;have bc:X5.cell? ⟨b,0,none⟩=some (.slice A a.length c)/\X5.rangeAt w.heap.size 0 (eP d):=⟨(U.out.fr t qs).c 0,aA _ (eS ai t qs)⟩;rw[M];refine B _ _ bc ?_;clear B V M
 try simp only[qq]
 refine hO (i:=7) rfl λV B=>?_;obtain⟨ii,bP,b5,b6,b7⟩:=rH;have aZ:=Hd (a4.out.fr t qs);refine gF (.tmp 37) (.tmp 39) 51 rfl 57 ii _ 32 32 underlying51 bP b5 b6 b7 rfl qd A a.length c (a.flatMap eP) rfl aZ.out ⟨w4.heap.size,0,none⟩ 1 1 (eP d) rfl (by rw[ao]) (λj u hu=>by rw[fx,n5.c j];simpa using hu) (gL d) (by unfold maxLen;omega) qo ?_;intro A' c' Y aR C aG;rw[show (a.length+1:Nat)=(a.length+1)from rfl]at aR ⊢;have bd:Y.cell? ⟨b,0,none⟩=some (.slice A a.length c)/\Y.rangeAt w.heap.size 0 (eP d):=⟨((U.out.fr t qs).fr C aQ).c 0,aA _ (eS (eS ai t qs) C aP)⟩;refine B _ _ bd ?_;clear B V hC bc
 try simp only[qq]
 show fb 8 ..
 iterate 2 (refine gB rfl ?_;try simp only[qq])
 refine eW ⟨qk,?_⟩;simp only[qG,qH];have an:=(U.out.fr t qs).fr C aQ;have e0:=an.k0;have e1:=an.f 0;obtain⟨G,am⟩:=eR (Y.setCell ⟨b,0,none⟩ (.slice A' (a.length+1) c'));have aF:Fr [b] Y G:=by rw[<-am];exact(Fq [b] Y).st _
 have aK:=an.setAt 0 (.slice A' (a.length+1) c')
 have aL:b ∉ eV A':=by
  intro m
  rcases aG b m with h|h
  ·exact aQ h
  ·have:=U.out.lt;have:=t.size;omega
 have bv:Own G 57 32 A' (a.length+1) c' ((a.flatMap eP)++eP d):=aR.fr aF (by intro k o;simp only[gI];rintro rfl;exact aL o);have a8:Fr (b::eV A) w4 G:=((t.mono qs).trans (C.mono (T:=b::eV A) (by intro x hx;exact .inl (by simp[hx]))) (λx hx=>.inl hx)).trans aF qs;rw[am]at aK;have aT:=Hd aK;have a3:=Hd bv;have ag:=Hd a8;have S:=Hd (An aL (λk o=>(aG k o).imp id (λh=>Nat.le_trans t.size h)));clear an aF aK bv a8 aL aR C aG bd aZ t n5 HSS aA
 go_wp2_with fail
 try rw[am]
 clear am e0 e1;have aj:(a++[d]).length=a.length+1:=qs
 have bB:r ∉ b::eV A:=by have:=(E.out.ms r rfl).2;simp only[List.mem_cons,not_or];exact⟨this.1,this.2⟩
 have hP:I.heap.size ∉ b::eV A:=by
  have K:=J.out.size;intro m
  rcases List.mem_cons.1 m with h|h
  ·omega
  ·have:=E.out.own.lt _ h;omega
 have cj:=(E.out.ms r rfl).1.lt;have aS:=bz.fr ag.out hP;have bt:=(L.ms r rfl).1.fr ag.out bB
 have bT:∀y∈a++[d],y.length=32:=by
  intro y hy
  rcases List.mem_append.1 hy with h|h
  ·exact E.out.len y h
  ·rw[gI]at h
   rw[h];exact ap
 have bm:TreeIs G b A' c' (some r) (a++[d]) (af):=⟨by rw[aj];exact aT.out,by have h:=a3.out;rw[<-pp]at h;rw[aj];exact h,bT,S.out.1,qs,λq z=>by
  injection z with z
  subst z;refine⟨bt,(E.out.ms r rfl).2.1,λm=>?_⟩
  rcases S.out.2 _ m with h|h
  ·exact(E.out.ms r rfl).2.2 h
  ·have:=J.out.size;have:=N.size;omega⟩
 have be:Fr (b::eV A) w G:=((J.out.then N).mono qs).then ag.out
 have aI:I.heap.size ∉ b::(eV A'++(some r).toList):=by
  have K:=J.out.size;have p:=bz.lt;simp only[List.mem_cons,List.mem_append,not_or];refine⟨λh=>hP (by simp[h]),λm=>?_,by simp;omega⟩
  rcases S.out.2 _ m with h|h
  ·exact hP (by simp[h])
  ·omega
 have bb:∀q∈eV A',q∈eV A \/ w.heap.size<=q:=λq z=>(S.out.2 q z).imp id (λh=>by have:=J.out.size;have:=N.size;omega);have bL:w.heap.size<=I.heap.size:=J.out.size;generalize I.heap.size=P at aS aI bL ⊢;have bH:=Hd bm;have bE:=Hd aS;have aW:=Hd be;have bG:=Hd bb;clear aS bt bm be bb aT a3 ag S L ai U a4 bp N aX a5 y0 y1 aP bB;have cd:=bw.low
 have bX:Ok G:=bw.fr aW.out (by
  intro k o;refine br k ?_
  rcases List.mem_cons.1 o with h|h
  ·simp[h]
  ·simp[h])
 go_loopg [43] (a.length+1) (λg _ W=>∃(l i:Nat) (s:List (Value × Value)),i<g/\TreeIs W b A' c' (some r) (a++[d]) s/\BoxN W P 270 #[.int .i64 (l:Int),.int .i64 (i:Int)]/\Fr [P,r] G W/\(i+1)*2 ^ l=a.length+1/\oA (a++[d]) s l a.length/\lA s l a.length)
 case atStart=>exact⟨0,a.length,af,qo,bH.out,bE.out,Fq _ _,qs,aY.out.1,aY.out.2⟩
 case round =>
  obtain⟨l,i,s,hi,ht,Q,hf,m,R,ad⟩:=hrel
  have cc:i<=1000:=by
   have K:(i+1)*1<=(i+1)*2 ^ l:=Nat.mul_le_mul_left _ Nat.one_le_two_pow;omega
  have aP:l<=10:=by
   have K:1*2 ^ l<=(i+1)*2 ^ l:=Nat.mul_le_mul_right _ qo;have p:2 ^ l<2 ^ 11:=qo
   exact Nat.le_of_lt_succ ((Nat.pow_lt_pow_iff_right qd).1 p)
  rcases Nat.mod_two_eq_zero_or_one i with p|p
  ·have q1:wr.cell? ⟨P,1,none⟩=some (.int .i64 (i:Int)):=Q.c 1
   have h3:(i:Int) % 2=0:=qo
   have n:=Hd (An ht (An hf (An m (An R (An ad p)))));clear ht Q hi hf m R ad p
   go_wp2_with fail
   go_ret
   have bO:Fr (b::(eV A++(some r).toList)) w wr:=(aW.out.mono (λk o=>.inl (by rcases List.mem_cons.1 o with h|h <;> simp[h]))).trans n.out.2.1 (by simp;omega);refine⟨rfl,s,b::(eV A'++(some r).toList),⟨A',c',r,n.out.1,rfl⟩,zG n.out.2.2.2.1 n.out.2.2.1 n.out.2.2.2.2.2 aj,by rw[aj];exact BJ n.out.2.2.2.2.1,bO,λk o=>?_⟩
   rcases List.mem_cons.1 o with h|h
   ·exact .inl (by simp[h])
   ·rcases List.mem_append.1 h with h|h
    ·rcases bG.out k h with p|p
     ·exact .inl (by simp[p])
     ·exact .inr p
    ·exact .inl (by have:k=r:=by simpa using h
                    simp[this])
  ·obtain⟨j,rfl⟩:∃j,i=2*j+1:=⟨i / 2,qo⟩
   have a6:=Hd ht;rw[show ((2*j+1:Nat):Int)=2*(j:Int)+1 from by omega]at Q;have ah:=Hd Q
   have bY:Ok wr:=bX.fr hf (by
    have K:6<=r:=br r qs;simp;omega)
   have ci:(2*(j:Int)+1) / 2=(j:Int):=qo
   have q1:=Q.k1;have ce:(2*j+1)*2 ^ l<=(2*j+1+1)*2 ^ l:=Nat.mul_le_mul_right _ qo;have ax:=R l (2*j) qo (.inl (fV _));have ay:=R l (2*j+1) (Nat.le_of_eq m) (.inl (fV _));have bS:=rJ (i:=(l:Int)+1) (j:=(j:Int)) (jF qo qo) (jF qo qo);have bQ:=zF ad m;have n:=Hd (An hi (An hf (An m (An R ad))));clear p ht Q hi hf m R ad;have ax:PartIs (a++[d]) (s) l (2*j) ((rt (a++[d]) (2*j*2 ^ l) (2 ^ l))):=ax;have ay:PartIs (a++[d]) (s) l (2*j+1) ((rt (a++[d]) ((2*j+1)*2 ^ l) (2 ^ l))):=ay;have aJ:TreeAt wr b (a++[d]) (s) (b::(eV A'++(some r).toList)):=⟨A',c',some r,a6.out,rfl⟩;have aU:Hid (∀W,Fr [] wr W->Calls prog 149 #[.pointer (some ⟨b,0,none⟩),.agg #[.int .i64 l,.int .i64 (2*j)]] W (gh W ((rt (a++[d]) (2*j*2 ^ l) (2 ^ l))))):=Hd (λW hW=>lD b l (2*j) (a++[d]) (s) _ ((rt (a++[d]) (2*j*2 ^ l) (2 ^ l))) W (aJ.fr0 hW) ax);have aV:Hid (∀W,Fr [] wr W->Calls prog 149 #[.pointer (some ⟨b,0,none⟩),.agg #[.int .i64 l,.int .i64 (2*j+1)]] W (gh W ((rt (a++[d]) ((2*j+1)*2 ^ l) (2 ^ l))))):=Hd (λW hW=>lD b l (2*j+1) (a++[d]) (s) _ ((rt (a++[d]) ((2*j+1)*2 ^ l) (2 ^ l))) W (aJ.fr0 hW) ay);have aq:((rt (a++[d]) (2*j*2 ^ l) (2 ^ l))).length=32:=ax.1;have ar:((rt (a++[d]) ((2*j+1)*2 ^ l) (2 ^ l))).length=32:=ay.1;have bM:(eP ((rt (a++[d]) (2*j*2 ^ l) (2 ^ l)))).length=32:=by rw[eU,aq]
   have bN:(eP ((rt (a++[d]) ((2*j+1)*2 ^ l) (2 ^ l)))).length=32:=by rw[eU,ar]
   obtain⟨v0,v1⟩:=ah.out.m2;have ca:=ah.out.lt
   go_upto_region 11 with((go_at_call 149;(with_reducible refine(aU.out _ (Fq [] wr)).mono ?_);rintro e y1 ⟨rfl,aN⟩;unfold fu;obtain⟨y2,b1,bq,aB⟩:=qI y1 _ aq))
   have bZ:=aN.size;have bU:=aB.lt;generalize y1.heap.size=L6 at aB bZ bU ⊢;have ak:=aN.then bq;have bx:=ah.out.fr ak qs;obtain⟨u0,u1⟩:=bx.m2;clear b1 aN bq v0 v1
   go_upto_region 12 with((go_at_call 149;(with_reducible refine(aV.out _ ak).mono ?_);rintro e y3 ⟨rfl,av⟩;unfold fu;obtain⟨y4,b2,aO,aC⟩:=qI y3 _ ar))
   have b0:=av.size;have bV:=aC.lt;have al:=ak.then (av.then aO);have bA:=eS aB (av.then aO) qs;generalize y3.heap.size=L7 at aC b0 bV ⊢;have ae:=ah.out.fr al qs;obtain⟨q0,q1⟩:=ae.m2;have b8:=ae.f 0;have b9:=ae.f 1;clear b2 av aO u0 u1 bx aB
   go_upto_region 13 with fail
   obtain⟨D,aE⟩:=eR ((y4.setCell ⟨P,0,none⟩ (.int .i64 (l+1))).setCell ⟨P,1,none⟩ (.int .i64 j));have aw:BoxN D P 270 #[.int .i64 (l+1),.int .i64 j]:=by rw[<-aE];exact(ae.setAt 0 _).setAt 1 _
   have ab:Fr [P] y4 D:=by rw[<-aE];exact((Fq [P] y4).st _).st _
   try rw[aE]
   have bk:=a6.out.fr al qs;have Z:=bk.fr ab (by intro k o;simp only[gI];rintro rfl;exact aI o);have a9:=eS bA ab (by simp;omega);have ba:=eS aC ab (by simp;omega);have M:Fr [P] wr D:=(al.mono qs).then ab;clear q0 q1 b8 b9 aE bA aC ae bk;have bW:Ok D:=bY.fr M (by simp;omega);have bh:∀W,Fr [] D W->Calls prog 150 #[.agg (eP ((rt (a++[d]) (2*j*2 ^ l) (2 ^ l)))).toArray,.agg (eP ((rt (a++[d]) ((2*j+1)*2 ^ l) (2 ^ l)))).toArray] W (gh W (ig ((rt (a++[d]) (2*j*2 ^ l) (2 ^ l))) ((rt (a++[d]) ((2*j+1)*2 ^ l) (2 ^ l))))):=λW hW=>rC _ _ W (bW.fr0 hW) aq ar;have aH:∀W,Fr [] D W->(W.cell? ⟨b,1,none⟩=some (.map (some r))/\W.cell? ⟨P,0,none⟩=some (.int .i64 (l+1))/\W.cell? ⟨P,1,none⟩=some (.int .i64 j))/\W.rangeAt L6 0 (eP ((rt (a++[d]) (2*j*2 ^ l) (2 ^ l))))/\W.rangeAt L7 0 (eP ((rt (a++[d]) ((2*j+1)*2 ^ l) (2 ^ l)))):=λW hW=>⟨⟨(Z.box.fr hW qs).c 1,(aw.fr hW qs).c 0,(aw.fr hW qs).c 1⟩,fH (eS a9 hW qs) aq,fH (eS ba hW qs) ar⟩;have hC:=aH _ (Fq [] D).drew;have HSS:=Hd (λ(W:World) (hW:(W.cell? ⟨b,1,none⟩=some (.map (some r))/\W.cell? ⟨P,0,none⟩=some (.int .i64 (l+1))/\W.cell? ⟨P,1,none⟩=some (.int .i64 j))/\W.rangeAt L6 0 (eP ((rt (a++[d]) (2*j*2 ^ l) (2 ^ l))))/\W.rangeAt L7 0 (eP ((rt (a++[d]) ((2*j+1)*2 ^ l) (2 ^ l)))))=>hW.1);refine eZ (λW:World=>(W.cell? ⟨b,1,none⟩=some (.map (some r))/\W.cell? ⟨P,0,none⟩=some (.int .i64 (l+1))/\W.cell? ⟨P,1,none⟩=some (.int .i64 j))/\W.rangeAt L6 0 (eP ((rt (a++[d]) (2*j*2 ^ l) (2 ^ l))))/\W.rangeAt L7 0 (eP ((rt (a++[d]) ((2*j+1)*2 ^ l) (2 ^ l))))) 8 qk ?_ qd
   show fb 0 ..
   iterate 5 (refine gB rfl ?_;try simp only[qq])
   refine fN (i:=5) (v:=.agg (eP ((rt (a++[d]) (2*j*2 ^ l) (2 ^ l)))).toArray) qk fC rfl qd qk (λ_ _ _ h=>h) (yieldsIf_load_mid qr 57 (.tmp 6) rfl L6 (0) rfl (eP ((rt (a++[d]) (2*j*2 ^ l) (2 ^ l)))) (.array 32 5) (λX H=>H.2.1) qk rfl (by rw[bM];kernel_rfl)) (by assumption) ?_
   try simp only[qq]
   refine fN (i:=6) (v:=.agg (eP ((rt (a++[d]) ((2*j+1)*2 ^ l) (2 ^ l)))).toArray) qk fC rfl qd qk (λ_ _ _ h=>h) (yieldsIf_load_mid qr 57 (.tmp 7) rfl L7 (0) rfl (eP ((rt (a++[d]) ((2*j+1)*2 ^ l) (2 ^ l)))) (.array 32 5) (λX H=>H.2.2) qk rfl (by rw[bN];kernel_rfl)) (by assumption) ?_
   try simp only[qq]
   refine hO (i:=7) rfl λV B=>?_;go_simp
   go_at_call 150
   (with_reducible refine(bh _ (Fq [] D).drew).mono ?_);rintro e y6 ⟨rfl,C⟩;unfold fu;have O:=C.undrew;refine B _ _ (aH _ O) ?_;clear B V hC HSS
   try simp only[qq]
   refine eW ⟨qk,?_⟩;simp only[qG,qH];have bs:=(Z.ms r rfl).1.fr O qs;obtain⟨kk,bR⟩:=bS;obtain⟨a7,b3,ac,bu⟩:=MapIs.put_new (v:=.agg (eP (ig ((rt (a++[d]) (2*j*2 ^ l) (2 ^ l))) ((rt (a++[d]) ((2*j+1)*2 ^ l) (2 ^ l))))).toArray) vD underlying235 bs bR (bQ);unfold je at b3;have aa:=Z.fr O qs;have az:=(Z.ms r rfl).2
   have bn:TreeIs a7 b A' c' (some r) (a++[d]) ((s)++[(je (l+1) j,fu (ig ((rt (a++[d]) (2*j*2 ^ l) (2 ^ l))) ((rt (a++[d]) ((2*j+1)*2 ^ l) (2 ^ l)))))]):=⟨aa.box.fr ac (by simpa using az.1.symm),aa.own.fr ac (by intro k o;simp only[gI];rintro rfl;exact az.2 o),aa.len,aa.nb,qs,λq z=>by
    injection z with z
    subst z;exact⟨bu,az⟩⟩
   have bK:P≠r:=by rintro rfl;exact aI qs
   have bI:=Hd bn;have bF:=Hd ((aw.fr O qs).fr ac (by simpa using bK));have bD:Hid (Fr [P,r] wr a7):=Hd (((M.mono (T:=[P,r]) qs).trans O qs).trans ac qs);clear bs ac bu aa bn C O aH bh Z a9 ba aw M al ak aJ aU aV ab az
   go_wp2_with fail
   go_roundg (j+1)
   case measure=>have:=n.out.1;omega
   case rel =>
    exact⟨l+1,j,_,qo,bI.out,bF.out,n.out.2.1.trans bD.out qs,by have K:=n.out.2.2.1;rw[Nat.pow_succ,Nat.mul_comm (2 ^ l) 2,<-Nat.mul_assoc,<-K];congr 1;omega,xh n.out.2.2.2.1 n.out.2.2.1 qo (rJ (jF qo qo) (jF qo qo)),zD n.out.2.2.2.2 n.out.2.2.1⟩
def uZ(a:List Nm)(x f n:Nat):List Nm :=
 if b:n<=1 \/ 1048576<n then []else
  if x<fe n then uZ a x f (fe n)++[rt a (f+fe n) (n - fe n)]else uZ a (x - fe n) (f+fe n) (n - fe n)++[rt a f (fe n)]
termination_by n
decreasing_by
 ·exact(gv qo qo).2.1
 ·have:=gv (n:=n) qo qo;omega
theorem qt(a:List Nm)(x f:Nat):uZ a x f 1=[]:=by rw[uZ,dif_pos qo]
theorem qv(a:List Nm)(x f n:Nat)(b:2<=n)(c:n<=1048576):uZ a x f n=if x<fe n then uZ a x f (fe n)++[rt a (f+fe n) (n - fe n)]else uZ a (x - fe n) (f+fe n) (n - fe n)++[rt a f (fe n)]:=by rw[uZ,dif_neg qo]
theorem qw(c:List Nm):∀(n x f:Nat),1<=n->n<=1048576->(uZ c x f n).length<n:=by
 intro n
 induction n using Nat.strongRecOn with
 | _ n b =>
  intro x f e a
  by_cases d:n=1
  ·subst d;rw[qt];simp
  ·have g:=gv (n:=n) qo a
   rw[qv _ _ _ _ qo a];split
   ·have:=b (fe n) qo x f qo qo
    rw[gG,List.length_singleton];omega
   ·have:=b (n - fe n) qo (x - fe n) (f+fe n) qo qo
    rw[gG,List.length_singleton];omega
theorem EL{b:List Nm}(e:∀d∈b,d.length=32):∀(n x f:Nat),1<=n->f+n<=b.length->n<=1048576->∀d∈uZ b x f n,d.length=32:=by
 intro n
 induction n using Nat.strongRecOn with
 | _ n g =>
  intro x f i j c
  by_cases h:n=1
  ·subst h;rw[qt];simp
  ·have k:=gv (n:=n) qo c
   rw[qv _ _ _ _ qo c];intro d a;split at a
   ·rcases List.mem_append.1 a with a|a
    ·exact g (fe n) qo x f qo qo qo d a
    ·rw[gI]at a;subst a;exact jW e _ _ qo qo qo
   ·rcases List.mem_append.1 a with a|a
    ·exact g (n - fe n) qo _ _ qo qo qo d a
    ·rw[gI]at a;subst a;exact jW e _ _ qo qo qo
theorem xi{n e f:Nat}(d:2<=n)(g:n<=1048576)(h:n<=2 ^ e)(c:2 ^ e ∣ f):(fe n<=2 ^ e/\2 ^ e ∣ f)/\∃b,n - fe n<=2 ^ b/\2 ^ b ∣ f+fe n:=by
 obtain⟨i,j,k⟩:=gv d g;refine⟨⟨qo,c⟩,Lib.bitLen (n - 1) - 1,?_,?_⟩
 ·show _<=fe n
  omega
 ·show fe n ∣ f+fe n
  refine Nat.dvd_add (Nat.dvd_trans ?_ c) (Nat.dvd_refl _);exact Nat.pow_dvd_pow 2 ((Nat.pow_le_pow_iff_right (a:=2) qd).1 (show fe n<=2 ^ e by omega))
def xW(b:Nat)(a:List Nm)(w:World)(f n:Nat):Prop:=∀W,Fr [] w W->Calls prog 127 #[.pointer (some ⟨b,0,none⟩),.int .i64 (f:Int),.int .i64 (n:Int)] W (gh W (rt a f n))
theorem zH(b:Nat)(a:List Nm)(C:List (Value × Value))(F:List Nat)(hP:mW a C)(v:∀d∈a,d.length=32)(m:a.length<=1000):∀(n x f:Nat) (w:World),TreeAt w b a C F->Ok w->1<=n->f+n<=a.length->x<n->(∃e,n<=2 ^ e/\2 ^ e ∣ f) ->
 Calls prog 125 #[.pointer (some ⟨b,0,none⟩),.int .i64 (x:Int),.int .i64 (f:Int),.int .i64 (n:Int)] w (vH w (uZ a x f n)):=by
 intro n
 induction n using Nat.strongRecOn with
 | _ n ih =>
 intro x f w h A h1 h2 B he
 by_cases ak:n=1
 ·subst ak
  rw[qt];exact Du b x f w
 ·obtain⟨e,af,ag⟩:=he
  have y:2<=n:=by omega
  have z:n<=1048576:=by omega
  obtain⟨⟨Y,u2⟩,e2,Z,u4⟩:=xi y z af ag;obtain⟨c,t,p⟩:=gv (n:=n) y z;have hL:=λW=>j8 n y z W;have r:=qv a x f n y z;obtain⟨k,q⟩:=eR (fe n);rw[q]at c t p hL r Y Z u4;have M:xW b a w f k:=λW hW=>xB b a C F hP v qo k f W (h.fr0 hW) (A.fr0 hW) c (by omega) ⟨e,Y,u2⟩;have u:xW b a w (f+k) (n - k):=λW hW=>xB b a C F hP v qo (n - k) (f+k) W (h.fr0 hW) (A.fr0 hW) (by omega) (by omega) ⟨e2,Z,u4⟩;obtain⟨ii,aa,ab,ac,ad⟩:=rH;have HL:=Hd hL
  by_cases s:x<k
  ·have l:=ih k t x f w h A c (by omega) s ⟨e,Y,u2⟩
   have i:=jW v (n - k) (f+k) (by omega) (by omega) (by omega);have X:=qw a k x f c (by omega);rw[if_pos s]at r;rw[r];unfold xW at u;rw[Int.natCast_add,Int.natCast_sub (Nat.le_of_lt t)]at u;obtain⟨d,O⟩:=eR (rt a (f+k) (n - k));obtain⟨xs,V⟩:=eR (uZ a x f k);rw[O]at u i ⊢;rw[V]at l X ⊢;have N:(eP d).length=32:=by rw[eU,i]
   have G:=Hd l;have K:=Hd u;have aj:xs.length<=1000:=by omega
   have al:decide ((x:Int)<(k:Int))=true:=by simp;exact s
   have ah:0<=(f:Int)+k/\(f:Int)+k<=1048576:=by omega
   have ai:0<=(n:Int) - k/\(n:Int) - k<=1048576:=by omega
   go_enter func125,ntmps125
   go_wp2_with
    (first
     | (go_at_call 171;(with_reducible refine(HL.out _).mono ?_);rintro e w1 ⟨rfl,rfl⟩)
     | (go_at_call 125;(with_reducible refine G.out.mono ?_);rintro e w1 ⟨A1,c,rfl,R,P,T⟩;have H:=Hd R;have g:=Hd P;have o:=Hd T)
     | (go_at_call 127;(with_reducible refine(K.out _ g.out).mono ?_);rintro e w2 ⟨rfl,j⟩;unfold fu;have I:=Hd (H.out.fr j qs);have D:=Hd (g.out.then j);have ae:=j.size)
     | (rw[mI qr i];at_builtin;(with_reducible refine fp (w:=w2) rfl (.tmp 21) (.tmp 30) 51 rfl 57 ii _ 32 32 underlying51 aa ab ac ad rfl qd A1 xs.length c (xs.flatMap eP) rfl I.out 1 1 (eP d) 57 rfl (by rw[N]) (gL d) (by unfold maxLen;omega) qo ?_);intro A3 p w3 S Q U;have J:=Hd S;have E:=Hd Q;have L:=Hd U))
   go_ret
   have m:(xs++[d]).length=xs.length+1:=qs
   have h1:=g.out.size;refine⟨A3,p,by rw[m];rfl,by rw[m,pp];exact J.out,D.out.trans E.out (λx B=>.inr (o.out x B)),λk q=>?_⟩
   rcases L.out k q with h|h
   ·exact o.out k h
   ·omega
  ·have l:=ih (n - k) (by omega) (x - k) (f+k) w h A (by omega) (by omega) (by omega) ⟨e2,Z,u4⟩
   have i:=jW v k f (by omega) (by omega) (by omega);have X:=qw a (n - k) (x - k) (f+k) (by omega) (by omega);rw[if_neg s]at r;rw[r];rw[Int.natCast_add,Int.natCast_sub (Nat.le_of_lt t),Int.natCast_sub (Nat.le_of_not_lt s)]at l;unfold xW at M;obtain⟨d,O⟩:=eR (rt a f k);obtain⟨xs,V⟩:=eR (uZ a (x - k) (f+k) (n - k));rw[O]at M i ⊢;rw[V]at l X ⊢;have N:(eP d).length=32:=by rw[eU,i]
   have G:=Hd l;have K:=Hd M;have aj:xs.length<=1000:=by omega
   have al:decide ((x:Int)<(k:Int))=false:=by simp;omega
   have ah:0<=(f:Int)+k/\(f:Int)+k<=1048576:=by omega
   have ai:0<=(n:Int) - k/\(n:Int) - k<=1048576:=by omega
   have am:0<=(x:Int) - k/\(x:Int) - k<=1048576:=by omega
   go_enter func125,ntmps125
   go_wp2_with
    (first
     | (go_at_call 171;(with_reducible refine(HL.out _).mono ?_);rintro e w1 ⟨rfl,rfl⟩)
     | (go_at_call 125;(with_reducible refine G.out.mono ?_);rintro e w1 ⟨A1,c,rfl,R,P,T⟩;have H:=Hd R;have g:=Hd P;have o:=Hd T)
     | (go_at_call 127;(with_reducible refine(K.out _ g.out).mono ?_);rintro e w2 ⟨rfl,j⟩;unfold fu;have I:=Hd (H.out.fr j qs);have D:=Hd (g.out.then j);have ae:=j.size)
     | (rw[mI qr i];at_builtin;(with_reducible refine fp (w:=w2) rfl (.tmp 42) (.tmp 47) 51 rfl 57 ii _ 32 32 underlying51 aa ab ac ad rfl qd A1 xs.length c (xs.flatMap eP) rfl I.out 1 1 (eP d) 57 rfl (by rw[N]) (gL d) (by unfold maxLen;omega) qo ?_);intro A3 p w3 S Q U;have J:=Hd S;have E:=Hd Q;have L:=Hd U))
   go_ret
   have m:(xs++[d]).length=xs.length+1:=qs
   have h1:=g.out.size;refine⟨A3,p,by rw[m];rfl,by rw[m,pp];exact J.out,D.out.trans E.out (λx B=>.inr (o.out x B)),λk q=>?_⟩
   rcases L.out k q with h|h
   ·exact o.out k h
   ·omega
theorem xX(n:Nat):∃e,n<=2 ^ e/\2 ^ e ∣ 0:=⟨n,Nat.le_of_lt Nat.lt_two_pow_self,Nat.dvd_zero _⟩
theorem zI(b:Nat)(a:List Nm)(f:List (Value × Value))(F:List Nat)(s:mW a f)(v:∀d∈a,d.length=32)(z:a.length<=1000)(n x:Nat)(w:World)(h:TreeAt w b a f F)(B:Ok w)(r:1<=n)(G:n<=a.length)(D:x<n):
 Calls prog 61 #[.pointer (some ⟨b,0,none⟩),.int .i64 (x:Int),.int .i64 (n:Int)] w (s9 w (uZ a x 0 n)):=by
 have g:=zH b a f F s v z n x 0 w h B r qo D (xX n);rw[show ((0:Nat):Int)=0 from rfl]at g;obtain⟨E,c,m,t,_⟩:=h;have i:=jy (n:Int) 1 (a.length:Int) w;have j:=jy (x:Int) 0 ((n:Int) - 1) w;rw[show decide ((1:Int)<=(n:Int)/\(n:Int)<=(a.length:Int))=true from by simp;omega]at i;rw[show decide ((0:Int)<=(x:Int)/\(x:Int)<=(n:Int) - 1)=true from by simp;omega]at j;have u:=t.box;have o:=Hd i;have p:=Hd j;have l:=Hd g;have H:=u.k0
 go_enter func61,ntmps61
 go_wp2_with (first
  | (go_at_call 124;(with_reducible refine o.out.mono ?_);rintro e k ⟨rfl,rfl⟩)
  | (go_at_call 124;(with_reducible refine p.out.mono ?_);rintro e k ⟨rfl,rfl⟩)
  | (go_at_call 125;(with_reducible refine l.out.mono ?_);rintro e k ⟨A1,q,rfl,A,y,C⟩))
 go_ret2
 exact⟨A1,q,rfl,A,y,C⟩
theorem EM(b:Nat)(a:List Nm)(x:List (Value × Value))(F:List Nat)(M:mW a x)(q:∀d∈a,d.length=32)(V:a.length<=1000)(n:Nat)(w:World)(y:TreeAt w b a x F)(N:Ok w)(z:1<=n)(T:n<=a.length):
 Calls prog 62 #[.pointer (some ⟨b,0,none⟩),.int .i64 (n:Int)] w (mH w (rt a 0 n)):=by
 obtain⟨i,k⟩:=eR (w.alloc (.cells (qm) 57));have h:Fr [] w i:=by rw[<-k];exact(Fq [] w).alloc _
 obtain⟨S,A⟩:∃f,i.rowIs w.heap.size 57 32 f:=by rw[<-k];exact⟨_,gn w _ _⟩
 have j:=xB b a x F M q qo n 0 i (y.fr0 h) (N.fr0 h) z qo (xX n);rw[show ((0:Nat):Int)=0 from rfl]at j;have g:=jW q n 0 z qo qo;obtain⟨d,D⟩:=eR (rt a 0 n);rw[D]at j g ⊢;have U:(eP d).length=32:=by rw[eU,g]
 have hW:=jy (n:Int) 0 (a.length:Int) i;rw[show decide ((0:Int)<=(n:Int)/\(n:Int)<=(a.length:Int))=true from by simp;omega]at hW;obtain⟨R,c,m,B,_⟩:=y;have C:=B.box.fr h qs;have W:=C.k0
 have G:=Hd j;have K:=Hd hW;have J:=Hd A;have H:=Hd h;have L:=Hd k;clear j hW A h k C B D q
 go_enter func62,ntmps62
 go_upto_region 1 with fail
 rw[L.out]
 go_wp2_with (first
  | (go_at_call 124;(with_reducible refine K.out.mono ?_);rintro e i ⟨rfl,rfl⟩)
  | (go_at_call 127;(with_reducible refine G.out.mono ?_);rintro e P ⟨rfl,r⟩;unfold fu;have l:=eS J.out r qs;have O:=fc (d:=d) l g;have s:=fh (d:=d) l g;obtain⟨Q,t⟩:∃X,P.setCells w.heap.size 0 (eP d)=X:=⟨_,rfl⟩;have E:Fr [] w Q:=(by rw[<-t];exact((H.out.then r).setCells (.inr (fV _)) _ _));rw[t]at O s;have HRD:=Hd s.1;have I:=Hd E;clear t s E l r))
 exact bodyPost_ret (v:=.tuple #[fu d,.int .i64 0]) (iK (d:=.array 32 5) (p:=4) (u:=5) (ty:=57) (b:=w.heap.size) (o:=0) rfl rfl rfl HRD.out qk rfl (by rw[eU,g];rfl)) rfl ⟨rfl,I.out⟩
def Kept(M:List Nat)(w:World)(P:World->Prop):Prop:=∀W,Fr M w W->P W
section
variable {M M':List Nat} {w w':World} {P R:World->Prop}
theorem Kept.now(h:Kept M w P):P w:=h w (Fq M w)
theorem Kept.step(h:Kept M w P)(b:Fr M w w')(a:∀k∈M',k∈M \/ w.heap.size<=k):Kept M' w' P:=λW hW=>h W (b.trans hW a)
theorem Kept.fr0(h:Kept M w P)(a:Fr [] w w'):Kept M w' P:=λW hW=>h W ((a.mono qs).then hW)
theorem Kept.imp(h:Kept M w P)(f:∀W,P W->R W):Kept M w R:=λW hW=>f W (h W hW)
end
structure AV where
 a:AC
 A:Option Addr
 c:Nat
 B:Option Addr
 d:Nat
def AV.cs(x:AV):List Value:=[.int .i64 x.a.t,.int .i64 0,.int .i64 x.a.t,.string ⟨#[]⟩,x.a.r.sl x.A x.c,x.a.w.sl x.B x.d]
structure AV.ok(w:World)(x:AV):Prop where
 r:FD w x.A x.a.r
 w:FD w x.B x.a.w
 nr:Es x.a.r x.A x.c
 nw:Es x.a.w x.B x.d
section
variable {w w':World} {x:AV} {S:List Nat}
end
def TR.bl:TR->List Nat
 | .nil=>[]
 | .node b l _ _ _ _ _ r=>b::(l.bl++r.bl)
theorem TRat.fr{w w':World}{S:List Nat}(c:Fr S w w'):∀ {t:TR},TRat w t->(∀k∈t.bl,k ∉ S)->TRat w' t
 | .nil,_,_=>trivial
 | .node b _ _ _ _ _ _ _,h,a=>⟨h.1.fr c (a b (by simp[TR.bl])),TRat.fr c h.2.1 (λk d=>a k (by simp[TR.bl,d])),TRat.fr c h.2.2 (λk d=>a k (by simp[TR.bl,d]))⟩
def Fc(b:Nat)(t:TR):List Nat:=b::t.bl
theorem StAt.fr{w w':World}{b:Nat}{t:TR}{S:List Nat}(h:StAt w b t)(c:Fr S w w')(a:∀k∈Fc b t,k ∉ S):StAt w' b t:=⟨h.1.fr c (a b (by simp[Fc])),TRat.fr c h.2 (λk d=>a k (by simp[Fc,d]))⟩
theorem pO(w:World)(a b:ByteArray)(h:a.size+b.size<=9223372036854775807):(binOp .add 9 (.string a) (.string b)).run prog w=.ok (.string (a++b)) w:=by
 simp[binOp,go_sem,h]
theorem vc(c:UInt8)(l:Nm):Value.string (⟨#[c]⟩++⟨l.toArray⟩)=ft (c::l):=by
 unfold ft
 congr 1
theorem sW(s:Nm)(w:World)(E:Ok w)(K:s.length<=1099511620000):Calls prog 93 #[ft s] w (gh w (jo (1::s))):=by
 obtain⟨a,h⟩:=eR (w.alloc (.cells (qm) 57));have j:Fr [] w a:=by rw[<-h];exact(Fq [] w).alloc _
 obtain⟨I,n⟩:∃f,a.rowIs w.heap.size 57 32 f:=by rw[<-h];exact⟨_,gn w _ _⟩
 have c:=vC (1::s) a (E.fr0 j) (by simp;omega);obtain⟨d,r⟩:=eR (jo (1::s));have g:d.length=32:=by rw[<-r];exact fw _
 rw[r]at c ⊢;have J:(eP d).length=32:=by rw[eU,g]
 have q:(binOp .add 9 (.string ⟨#[1]⟩) (ft s)).run prog a=.ok (ft (1::s)) a:=by
  rw[<-vc 1 s];exact pO a _ _ (by simp[<-ByteArray.size_data];omega)
 obtain⟨L,u⟩:=eR (ft s);obtain⟨N,y⟩:=eR (ft (1::s));rw[u]at q ⊢;rw[y]at q c;have z:=Hd c;have C:=Hd n;have A:=Hd j;have D:=Hd h;clear c n j h u y
 go_enter func93,ntmps93
 go_upto_region 1 with fail
 rw[D.out]
 go_wp2_with ((go_at_call 90;(with_reducible refine z.out.mono ?_);rintro e G ⟨rfl,k⟩;unfold fu;have i:=eS C.out k qs;have F:=fc (d:=d) i g;have l:=fh (d:=d) i g;obtain⟨H,m⟩:∃X,G.setCells w.heap.size 0 (eP d)=X:=⟨_,rfl⟩;have t:Fr [] w H:=(by rw[<-m];exact((A.out.then k).setCells (.inr (fV _)) _ _));rw[m]at F l;have HRD:=Hd l.1;have B:=Hd t;clear m l t i k))
 exact bodyPost_ret (v:=fu d) (fy (d:=.array 32 5) (p:=2) (ty:=57) (b:=w.heap.size) (o:=0) rfl rfl HRD.out qk rfl (by rw[eU,g];rfl)) rfl ⟨rfl,B.out⟩
structure HistIs(w:World)(b pb pl bt:Nat)(A:Option Addr)(c:Nat)(F:List Nat)(l:List AV)(t:TR)(ds:List Nm)(kvs:List (Value × Value)):Prop where
 box:BoxN w b 136 #[.pointer (some ⟨pb,0,none⟩),.slice A l.length c,.slice none 0 0,.pointer (some ⟨pl,0,none⟩),.pointer (some ⟨bt,0,none⟩)]
 own:Own w 91 6 A l.length c (l.flatMap AV.cs)
 tree:TreeM w bt ds kvs F
 nb:b ∉ eV A
 nF:b ∉ F
 dj:∀k∈eV A,k ∉ F
 st:StAt w pl t
 dst:∀k∈Fc pl t,k ∉ b::(eV A++F)
 kept:Kept (b::(eV A++F)) w λW=>StAt W pb .nil/\∀x∈l,x.ok W
def EN(w:World)(b:Nat)(l:List AV)(t:TR)(d:List Nm)(e:List (Value × Value))(M:List Nat):Prop:=∃f g a A c F,HistIs w b f g a A c F l t d e/\M=b::(eV A++F)
theorem ky(b p:Nat)(w:World)(h:w.cell? ⟨b,0,none⟩=some (.pointer (some ⟨p,0,none⟩))):Calls prog 59 #[.pointer (some ⟨b,0,none⟩)] w λe w'=>e=.returned (.bool false)/\w=w':=by
 go_enter func59,ntmps59
 go_wp2_with fail
 go_ret
 exact⟨rfl,rfl⟩
theorem rn:∃i,(prog).info? 91=some i/\i.zero=some (.agg rG)/\i.size=6/\i.bytes=88:=info_parts qk
def mF(w:World)(i n:Int)(s:Nm)(xs:List Nm)(e:Ending)(w':World):Prop :=
 ∃A c,e=.returned (.tuple #[.agg #[.int .i64 i,.int .i64 n,ft s,.slice A xs.length c],.int .i64 0])/\Own w' 57 32 A xs.length c (xs.flatMap eP)/\Fr [] w w'/\∀k∈eV A,w.heap.size<=k
theorem zJ(W:World)(d:Nm)(a:d.length=32):∃Y,(storeCells ⟨W.heap.size,0,none⟩ (eP d)).run prog (W.alloc (.cells (#[.int .u8 0,.int .u8 0,.int .u8 0,.int .u8 0,.int .u8 0,.int .u8 0,.int .u8 0,.int .u8 0,.int .u8 0,.int .u8 0,.int .u8 0,.int .u8 0,.int .u8 0,.int .u8 0,.int .u8 0,.int .u8 0,.int .u8 0,.int .u8 0,.int .u8 0,.int .u8 0,.int .u8 0,.int .u8 0,.int .u8 0,.int .u8 0,.int .u8 0,.int .u8 0,.int .u8 0,.int .u8 0,.int .u8 0,.int .u8 0,.int .u8 0,.int .u8 0]) 56))=.ok () Y/\Fr [] W Y/\Y.rowIs W.heap.size 56 32 (λj=>.int .u8 ((d.getD j 0).toNat:Int)):=by
 obtain⟨f,b⟩:∃f,(W.alloc (.cells (#[.int .u8 0,.int .u8 0,.int .u8 0,.int .u8 0,.int .u8 0,.int .u8 0,.int .u8 0,.int .u8 0,.int .u8 0,.int .u8 0,.int .u8 0,.int .u8 0,.int .u8 0,.int .u8 0,.int .u8 0,.int .u8 0,.int .u8 0,.int .u8 0,.int .u8 0,.int .u8 0,.int .u8 0,.int .u8 0,.int .u8 0,.int .u8 0,.int .u8 0,.int .u8 0,.int .u8 0,.int .u8 0,.int .u8 0,.int .u8 0,.int .u8 0,.int .u8 0]) 56)).rowIs W.heap.size 56 32 f:=⟨_,gn W _ _⟩;exact⟨_,fc b a,((Fq [] W).alloc _).setCells (.inr (fV _)) _ _,(fh b a).2⟩
theorem zK{X:World}{L:Nat}{t:TypeId}{d:Nm}(b:X.rowIs L t 32 (λj=>.int .u8 ((d.getD j 0).toNat:Int)))(a:d.length=32):Row X X.heap.size 1 (some ⟨L,0,none⟩) 32 (eP d) :=
 ⟨by rw[eU,a],λ_=>⟨L,0,rfl,b.lt,fH b a⟩⟩
def leaf0:Nm:=jo (0::stD0)
theorem BL(p:Nat)(w:World)(I:Ok w)(h:StAt w p .nil):Calls prog 32 #[.pointer (some ⟨p,0,none⟩)] w λe w'=>∃b M,e=.returned (.tuple #[.pointer (some ⟨b,0,none⟩),.int .i64 0])/\EN w' b [] .nil [leaf0] [] M/\Fr [] w w'/\∀k∈M,w.heap.size<=k:=by
 have f:stD0.length=32:=fw _;have ag:(eP stD0).length=32:=by rw[eU,f]
 have B:∀W,Fr [] w W->Calls prog 88 #[.pointer (some ⟨p,0,none⟩)] W (gh W stD0):=λW hW=>vA p W (I.fr0 hW) (h.fr0 hW);have l:∀W,Fr [] w W->Calls prog 90 #[ft (0::stD0)] W (gh W leaf0):=λW hW=>vC (0::stD0) W (I.fr0 hW) (by simp[f]);have H:leaf0.length=32:=fw _;generalize leaf0=Z at l H ⊢;generalize stD0=d at B l f ag
 have t:∀W,(binOp .add 9 (.string ⟨#[0]⟩) (ft d)).run prog W=.ok (ft (0::d)) W:=λW=>by
  rw[<-vc 0 d];exact pO W _ _ (by simp[<-ByteArray.size_data];omega)
 obtain⟨K,J⟩:=eR (ft d);obtain⟨s2,an⟩:=eR (ft (0::d));rw[J]at t;rw[an]at t l;have T:=Hd B;have V:=Hd l;have O:=Hd t;have X:=Hd J;have r:=Hd h
 go_enter func32,ntmps32
 go_upto_region 4 with((go_at_call 87;(with_reducible refine(wu w).mono ?_);rintro e g ⟨rfl,E,ah⟩;have R:=Hd E;have U:=Hd ah;have aw:=E.lt))
 obtain⟨w2,ap,ae,G⟩:=kS g #[.pointer p,gz,gz,.pointer p,.pointer w.heap.size] 136;rw[ap];have n:=Hd (U.out.then G);have m:=Hd ae;have S:=Hd (R.out.fr G qs)
 go_upto_region 5 with((go_at_call 88;(with_reducible refine(T.out _ n.out).mono ?_);rintro e L ⟨rfl,ai⟩;unfold fu;obtain⟨x,av,aj,am⟩:=zJ L d f;have o:=Hd (ai.then aj);have q:=Hd am))
 have aq:=q.out.lt;generalize L.heap.size=Y at q aq ⊢;have z:=(Fq [] x).drew
 have aa:∀W,Fr [] x W->W.cell? ⟨g.heap.size,4,none⟩=some (.pointer w.heap.size)/\(convert 49 9 (.slice Y 32 32)).run prog W=.ok K W/\(binOp .add 9 (.string ⟨#[0]⟩) K).run prog W=.ok s2 W:=λW hW=>by
  have hb:=(m.out.fr o.out qs).fr hW qs;have hr:=eS q.out hW qs;have F:=fa (P:=prog) (zK hr f) 49 5 underlying49 underlying5 9 underlying9 32;rw[X.out]at F;exact⟨hb.c 4,F,O.out W⟩
 have HSS:=Hd aa;refine eZ (λW:World=>Fr [] x W) 8 qk ?_ qd
 show fb 0 ..
 iterate 7 (refine gB rfl ?_;try simp only[qq])
 refine hO (i:=7) rfl λar hK=>?_;go_simp
 go_at_call 90
 (with_reducible refine(V.out _ ((n.out.then o.out).then z)).mono ?_);rintro e N ⟨rfl,al⟩;have A:=z.then al;refine hK _ _ A ?_
 try simp only[qq]
 refine eW ⟨qk,?_⟩;simp only[qG,qH];have j:=o.out.then A;have ac:=S.out.fr j qs;have ad:TreeIs N w.heap.size none 0 none [] []:=⟨ac,Own.nil _ _ _,qs,by simp[eV],λ_=>rfl,qs⟩;have Q:=Hd (BX w.heap.size Z N ad H)
 go_wp2_with ((go_at_call 89;(with_reducible refine Q.out.mono ?_);rintro e w5 ⟨rfl,F',ao,ak,ab⟩;have s:=Hd (An ao ab);have y:=Hd ak))
 go_ret2
 have ax:=m.out.lt;have ay:=j.size;have au:=r.out.1.lt;have af:=(m.out.fr j qs).fr y.out (by simp;omega);have u:=(n.out.then j).trans y.out qs
 have C:∀k∈g.heap.size::(eV none++F'),w.heap.size<=k:=λk a=>by
  simp only[eV,Option.map_none,Option.toList_none,List.nil_append,List.mem_cons]at a
  rcases a with rfl|a
  ·omega
  ·rcases s.out.2 k a with rfl|h
   ·exact fV _
   ·omega
 have D:p ∉ g.heap.size::(eV none++F'):=λv=>by have:=C p v;omega
 refine⟨g.heap.size,_,rfl,⟨p,p,w.heap.size,none,0,F',⟨af,Own.nil _ _ _,s.out.1,by simp[eV],?_,by simp[eV],r.out.fr0 u,?_,?_⟩,rfl⟩,u,C⟩
 ·intro v
  rcases s.out.2 _ v with h|h
  ·omega
  ·omega
 ·intro k a
  simp only[Fc,TR.bl,List.mem_cons,List.not_mem_nil,or_false]at a;rw[a];exact D
 ·intro W hW
  exact⟨(r.out.fr0 u).fr hW (by simpa [Fc,TR.bl]using D),qs⟩
def BM(x:AX):Nm:=jo (1::fL x.a)
def qj(xs:List AX)(a:AG):Bool:=mN a && (match xs.getLast? with|none=>true|some y=>decide (0<pJ a.k y.a.k))
structure Run(xs:List AX):Prop where
 wf:∀x∈xs,mN x.a=true/\x.a.fit/\x.a.r.length<=10/\x.a.w.length<=10
 inc:∀i x y,xs[i]?=some x->xs[i+1]?=some y->0<pJ y.a.k x.a.k
 len:xs.length<=12
structure HGis(w:World)(b pb pl bt:Nat)(A:Option Addr)(c:Nat)(F:List Nat)(xs:List AX)(ns:List ON)(ds:List Nm)(kvs:List (Value × Value)):Prop where
 box:BoxN w b 136 #[.pointer (some ⟨pb,0,none⟩),.slice A xs.length c,.slice none 0 0,.pointer (some ⟨pl,0,none⟩),.pointer (some ⟨bt,0,none⟩)]
 own:Own w 91 6 A xs.length c (xs.flatMap AX.cs)
 xok:∀x∈xs,x.ok w
 base:SG w pb []
 st:SG w pl ns
 nl:ns.length<=10*xs.length
 tree:TreeM w bt ds kvs F
 parts:mW ds kvs
 keys:lA kvs 0 ds.length
 ds:ds=leaf0::xs.map BM
 run:Run xs
def HG(w:World)(b:Nat)(xs:List AX)(M:List Nat):Prop:=∃pb pl bt A c F ns ds kvs,HGis w b pb pl bt A c F xs ns ds kvs/\M=b::(eV A++F)
theorem TreeM.noT{w:World}{b:Nat}{ds:List Nm}{kvs:List (Value × Value)}{F:List Nat}{ts:List TypeId}(h:TreeM w b ds kvs F)(a:237 ∉ ts)(d:57 ∉ ts):NoT ts w F:=by
 obtain⟨A,c,r,h,rfl⟩:=h;exact((NoT.box h.box a).app ((NoT.own h.own d).app (NoT.map (h.ms r rfl).1))).mem qs
section
variable {w w':World} {b pb pl bt c:Nat} {A:Option Addr} {F:List Nat} {xs:List AX} {ns:List ON} {ds:List Nm} {kvs:List (Value × Value)} {M S:List Nat}
theorem HGis.noT(h:HGis w b pb pl bt A c F xs ns ds kvs):NoT sy w (b::(eV A++F)) :=
 ((NoT.box h.box qd).app ((NoT.own h.own qd).app (h.tree.noT qd qd))).mem qs
theorem HGis.fr0(h:HGis w b pb pl bt A c F xs ns ds kvs)(a:Fr [] w w'):HGis w' b pb pl bt A c F xs ns ds kvs :=
 ⟨h.box.fr a qs,h.own.fr a qs,λx d=>(h.xok x d).fr0 a,h.base.fr0 a,h.st.fr0 a,h.nl,h.tree.fr a qs,h.parts,h.keys,h.ds,h.run⟩
theorem HG.fr0(h:HG w b xs M)(a:Fr [] w w'):HG w' b xs M:=by
 obtain⟨pb,pl,bt,A,c,F,ns,ds,kvs,h,rfl⟩:=h;exact⟨pb,pl,bt,A,c,F,ns,ds,kvs,h.fr0 a,rfl⟩
theorem HG.lt(h:HG w b xs M):∀k∈M,k<w.heap.size:=by
 obtain⟨pb,pl,bt,A,c,F,ns,ds,kvs,h,rfl⟩:=h;intro k a
 rcases List.mem_cons.1 a with rfl|a
 ·exact h.box.lt
 ·rcases List.mem_append.1 a with a|a
  ·exact h.own.lt k a
  ·exact h.tree.lt k a
theorem HGis.nb(h:HGis w b pb pl bt A c F xs ns ds kvs):b ∉ eV A:=λa=>by
 have:=NoT.own (ts:=[136]) h.own qd b a _ _ _ h.box;simp at this
theorem HGis.nF(h:HGis w b pb pl bt A c F xs ns ds kvs):b ∉ F:=λa=>by
 have:=h.tree.noT (ts:=[136]) qd qd b a _ _ _ h.box;simp at this
theorem HGis.dj(h:HGis w b pb pl bt A c F xs ns ds kvs):∀k∈eV A,k ∉ F:=λk d f=>by
 rcases h.own.2 with⟨a,_⟩|⟨g,i,j,a,_,e,_⟩
 ·injection a with a;subst a;simp[eV]at d
 ·injection a with a
  subst a;simp only[eV,Option.map_some,Option.toList_some,gI]at d;subst d;have:=h.tree.noT (ts:=[91]) qd qd k f _ _ _ e;simp at this
theorem HG.len12(h:HG w b xs M):xs.length<=12:=by
 obtain⟨pb,pl,bt,A,c,F,ns,ds,kvs,h,rfl⟩:=h;exact h.run.len
end
theorem xY(b:Nat)(xs:List AX)(M:List Nat)(w:World)(h:HG w b xs M):Calls prog 19 #[.pointer (some ⟨b,0,none⟩)] w λe w'=>e=.returned (.int .i64 (xs.length:Int))/\w=w':=by
 obtain⟨pb,pl,bt,A,c,F,ns,ds,kvs,h,rfl⟩:=h;obtain⟨d,g⟩:=h.box.m2;have a:=Hd (ky b pb w d)
 go_enter func19,ntmps19
 go_wp2_with ((go_at_call 59;(with_reducible refine a.out.mono ?_);rintro e f ⟨rfl,rfl⟩))
 go_ret
 exact⟨rfl,rfl⟩
theorem EO(b:Nat)(xs:List AX)(M:List Nat)(w:World)(h:HG w b xs M):Calls prog 43 #[.pointer (some ⟨b,0,none⟩)] w λe w'=>∃p,e=.returned (.pointer (some ⟨p,0,none⟩))/\SG w p []/\w=w':=by
 obtain⟨pb,pl,bt,A,c,F,ns,ds,kvs,h,rfl⟩:=h;have f:=h.box.k0;have d:=Hd (ky b pb w f);have a:=Hd h.base
 go_enter func43,ntmps43
 go_wp2_with ((go_at_call 59;(with_reducible refine d.out.mono ?_);rintro e g ⟨rfl,rfl⟩))
 go_ret
 exact⟨pb,rfl,a.out,rfl⟩
theorem vd(a:AG)(j:ByteArray)(A B:Option Addr)(c d k p:Nat)(w:World)(g:∀W,Fr [] w W->Calls prog 153 #[.pointer (some ⟨p,0,none⟩),.slice B a.w.length d] W (l6 W k)):
 Calls prog 92 #[a.val j A c B d,.pointer (some ⟨p,0,none⟩)] w (l6 w k):=by
 unfold AG.val;obtain⟨v,h,u,i,f⟩:=il w #[.int .i64 a.k.rnd,.int .i64 a.k.phase,.int .i64 a.k.idx,.string j,.slice A a.r.length c,.slice B a.w.length d] 91 w.heap.size;have x:=i.k5;have l:=Hd (g v f);have o:=Hd h;have m:=Hd f;clear h i f g u
 go_enter func92,ntmps92
 go_upto_region 1 with fail
 rw[o.out]
 go_wp2_with ((go_at_call 153;(with_reducible refine l.out.mono ?_);rintro e w2 ⟨p2,ns,rfl,t,s,q⟩;have n:=Hd (m.out.then q)))
 go_ret2
 exact⟨p2,ns,rfl,t,s,n.out⟩
end Go.Proofs.YtlpmiimgacfmkaaGreatDoor
