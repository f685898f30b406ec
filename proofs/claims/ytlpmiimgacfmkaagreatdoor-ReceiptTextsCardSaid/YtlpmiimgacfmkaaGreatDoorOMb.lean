/- logtree: Append at any number of leaves. -/
import Derived.Deep.LoopGhost
import Derived.Test.YtlpmiimgacfmkaaGreatDoorOTr3
import Derived.Test.YtlpmiimgacfmkaaGreatDoorOSa5
import Derived.Test.YtlpmiimgacfmkaaGreatDoorOSt3
set_option linter.all false
namespace Go.Proofs.YtlpmiimgacfmkaaGreatDoor
set_option maxRecDepth 100000
set_option maxHeartbeats 4000000
open Go.Proofs.Tryz
open Go.RowKit
def KeysUp (b:List (Value × Value)) (l n:Nat):Prop:=∀ p∈b,∃ a i:Nat,p.1=partV a i/\(i+1)*2 ^ a<=n+1/\(a<=l \/ (i+1)*2 ^ a<=n)
def PartsUp (b:List Nm) (c:List (Value × Value)) (l n:Nat):Prop:=∀ a i:Nat,(i+1)*2 ^ a<=n+1->(a<=l \/ (i+1)*2 ^ a<=n)->PartIs b c a i (rt b (i*2 ^ a) (2 ^ a))
theorem PartIs.more {e ds':List Nm} {g kvs':List (Value × Value)} {l i:Nat} {d:Nm} (h:PartIs e g l i d) (j:∀ x,e[i]?=some x->ds'[i]?=some x) (k:∀ p∈g,p∈kvs'):PartIs ds' kvs' l i d:=by
 obtain⟨f,h | ⟨a,b,c⟩⟩:=h
 ·exact⟨f,.inl ⟨h.1,j _ h.2⟩⟩
 ·exact⟨f,.inr ⟨a,k _ b,c⟩⟩
theorem partV_inj {a b c d:Nat} (h:partV (a:Int) (b:Int)=partV (c:Int) (d:Int)):a=c/\b=d:=by
 unfold partV at h
 injection h with h
 have:=congrArg Array.toList h;simp at this;omega
theorem parts_start {b:List Nm} {d:Nm} {g:List (Value × Value)} (l:Parts b g) (m:d.length=32) (r:b.length<=1048575):PartsUp (b++[d]) g 0 b.length:=by
 intro a i p q;have o:=Nat.one_le_two_pow (n:=a)
 by_cases c:(i+1)*2 ^ a<=b.length
 ·have e:i*2 ^ a+2 ^ a<=b.length:=by rw[Nat.add_mul] at c;omega
  rw[rt_more _ _ _ _ o e qo];exact (l a i c).more (fun x f=>by rw[List.getElem?_append_left (lgs.1 f).1];exact f) (fun _ h=>h)
 ·have j:a=0:=qo
  subst j;have k:i=b.length:=qo
  subst k;rw[Nat.pow_zero,Nat.mul_one,rt_one,List.getD_eq_getElem?_getD,List.getElem?_append_right (nlr _)];simp only[Nat.sub_self,List.getElem?_cons_zero,Option.getD_some];exact⟨m,.inl ⟨rfl,by rw[List.getElem?_append_right (nlr _)];simp⟩⟩
theorem parts_next {b:List Nm} {d:List (Value × Value)} {l j n:Nat} (h:PartsUp b d l n) (s:(2*j+1+1)*2 ^ l=n+1) (w:n+1<=1048576) (t:∃ k,keyOf prog 270 (partV ((l+1:Nat):Int) (j:Int))=some k) :
 PartsUp b (d++[(partV ((l+1:Nat):Int) (j:Int),encD (nodeN (rt b (2*j*2 ^ l) (2 ^ l)) (rt b ((2*j+1)*2 ^ l) (2 ^ l))))]) (l+1) n:=by
 intro a i o v
 by_cases p:a<=l \/ (i+1)*2 ^ a<=n
 ·exact (h a i o p).more (fun _ h=>h) (fun _ h=>by simp[h])
 ·have q:a=l+1:=qo
  subst q;have x:=Nat.one_le_two_pow (n:=l);have e:=Nat.pow_succ (n:=2) (m:=l);have c:(i+1)*2 ^ (l+1)=n+1:=qo
  have r:i=j:=by
   rw[e,<-s,Nat.mul_comm (2 ^ l) 2,<-Nat.mul_assoc] at c;have:=Nat.eq_of_mul_eq_mul_right qo c;omega
  subst r
  have u:2 ^ (l+1)<=1048576:=by
   have:1*2 ^ (l+1)<=(i+1)*2 ^ (l+1):=Nat.mul_le_mul_right _ qo;omega
  rw[rt_pow _ _ _ u];have f:i*2 ^ (l+1)=2*i*2 ^ l:=by rw[e,Nat.mul_comm (2 ^ l) 2,<-Nat.mul_assoc,Nat.mul_comm i 2]
  have g:2*i*2 ^ l+2 ^ l=(2*i+1)*2 ^ l:=by rw[Nat.add_mul,Nat.one_mul]
  rw[f,g];exact⟨shaN_len _,.inr ⟨qo,qs,t⟩⟩
theorem keys_next {c:List (Value × Value)} {l j n:Nat} {v:Value} (h:KeysUp c l n) (f:(2*j+1+1)*2 ^ l=n+1):KeysUp (c++[(partV ((l+1:Nat):Int) (j:Int),v)]) (l+1) n:=by
 intro p b
 rcases List.mem_append.1 b with b | b
 ·obtain⟨a,i,d,e,g⟩:=h p b
  exact⟨a,i,d,e,qo⟩
 ·rw[lms] at b
  subst b;refine⟨l+1,j,rfl,?_,.inl (nlr _)⟩;rw[Nat.pow_succ,Nat.mul_comm (2 ^ l) 2,<-Nat.mul_assoc,<-f];exact Nat.mul_le_mul_right _ qo
theorem keys_free {c:List (Value × Value)} {l j n:Nat} (h:KeysUp c l n) (e:(2*j+1+1)*2 ^ l=n+1):∀ p∈c,p.1≠partV ((l+1:Nat):Int) (j:Int):=by
 intro p f b;obtain⟨a,i,d,k,m⟩:=h p f;rw[d] at b;obtain⟨rfl,rfl⟩:=partV_inj b;have g:(i+1)*2 ^ (l+1)=n+1:=by rw[Nat.pow_succ,Nat.mul_comm (2 ^ l) 2,<-Nat.mul_assoc,<-e];congr 1;omega
 omega
theorem parts_end {b:List Nm} {e:List (Value × Value)} {l i n:Nat} (h:PartsUp b e l n) (g:(i+1)*2 ^ l=n+1) (o:i % 2=0) (j:b.length=n+1):Parts b e:=by
 intro a k c;rw[j] at c
 by_cases f:a<=l \/ (k+1)*2 ^ a<=n
 ·exact h a k c f
 ·have d:(k+1)*2 ^ a=n+1:=qo
  obtain⟨m,rfl⟩:∃ m,a=l+1+m:=⟨a - l - 1,qo⟩;have p:=Nat.one_le_two_pow (n:=l);rw[Nat.pow_add,Nat.pow_succ,<-g,Nat.mul_comm (2 ^ l) 2,Nat.mul_assoc 2,Nat.mul_comm (2 ^ l),<-Nat.mul_assoc 2,<-Nat.mul_assoc] at d;have:=Nat.eq_of_mul_eq_mul_right qo d;rw[<-Nat.mul_assoc,Nat.mul_comm (k+1) 2,Nat.mul_assoc] at this;omega
theorem keys_end {b:List (Value × Value)} {l n:Nat} (h:KeysUp b l n):KeysUp b 0 (n+1):=by
 intro p e;obtain⟨a,i,c,d,f⟩:=h p e;exact⟨a,i,c,qo,.inr d⟩
def AppPost (b:Nat) (a:List Nm) (F:List Nat) (w:World) (e:Ending) (w':World):Prop:=e=.returned (.int .i64 0)/\∃ c F',TreeM w' b a c F'/\Parts a c/\KeysUp c 0 a.length/\Fr F w w'/\∀ k∈F',k∈F \/ w.heap.size<=k
theorem Append_g (b:Nat) (a:List Nm) (d:Nm) (af:List (Value × Value)) (F:List Nat) (w:World) (hM:TreeM w b a af F) (bi:Parts a af) (bf:KeysUp af 0 a.length) (bw:Ok w) (br:∀ k∈F,6<=k) (ap:d.length=32) (cf:1<=a.length) (ch:a.length<=1000) :
 Calls prog 89 #[.pointer (some ⟨b,0,none⟩),encD d] w (AppPost b (a++[d]) F w):=by
 obtain⟨A,c,r,h,rfl⟩:=hM;have bC:=parts_start bi ap qo;have aY:=Hd (An bC bf);clear bC bf bi
 have ao:(dCells d).length=32:=by rw[dcells_len,ap]
 have aM:=h.box;have cb:=aM.lt;unfold encD;obtain⟨I,aD⟩:=nmd (w.alloc (.cells (dCells d).toArray 57));have bg:I.rowIs w.heap.size 57 32 (fun j=>.int .u8 ((d.getD j 0).toNat:Int)):=by rw[<-aD];exact row_cells w ao
 have au:Fr [] w I:=by rw[<-aD];exact (Fq [] w).alloc _
 have bo:=aM.fr au qs;obtain⟨y0,y1⟩:=bo.m2;have bj:=h.fr au qs;have bJ:=Hd aD;have J:=Hd au;have aX:=Hd bg;have a5:=Hd bj;have E:=Hd h;clear aD bo au bg aM bj h;have qT:∀ (w:World) (r:Option Nat),(binOp .eql 235 (.map r) (.map none)).run prog w=.ok (.bool r.isNone) w:=fun w r=>run_eql_map_nil w _ _ _ r underlying235
 go_enter func89,ntmps89
 go_upto_region 1 with fail
 rw[bJ.out]
 go_upto_region 8 with fail
 obtain⟨w4,b4,bz,N⟩:=bxn I #[.int .i64 0,.int .i64 a.length] 270;rw[b4];have L:=a5.out.fr N qs;have bp:=L.box.k0;have ai:=rowIs_fr aX.out N qs;have U:=Hd L.box;have a4:=Hd L.own;have aQ:=L.nb;have aP:w.heap.size ∉ blk A:=by intro m;have:=E.out.own.lt _ m;omega
 have aA:∀ X:World,X.rowIs w.heap.size 57 32 (fun j=>.int .u8 ((d.getD j 0).toNat:Int))->X.rangeAt w.heap.size 0 (dCells d):=fun X hr j v hv=>by
  rw[Nat.zero_add];have hj:j<32:=by have:=(lgs.1 hv).1;rw[ao] at this;exact this
  rw[hr.cell hj,<-hv,dcells_get qo]
 have hC:(fun X:World=>X.cell? ⟨b,0,none⟩=some (.slice A a.length c)/\X.rangeAt w.heap.size 0 (dCells d)) w4.drew:=⟨bp,aA _ ai.drew⟩;have HSS:=Hd (fun (X:World) (H:X.cell? ⟨b,0,none⟩=some (.slice A a.length c)/\X.rangeAt w.heap.size 0 (dCells d))=>An H.1 trivial);refine wp_region_head (fun X:World=>X.cell? ⟨b,0,none⟩=some (.slice A a.length c)/\X.rangeAt w.heap.size 0 (dCells d)) 10 qk ?_ qd
 show headJ 0 ..
 iterate 5 (refine hdL rfl ?_;try simp only[qq])
 refine headI_take (i:=5) (v:=.agg (dCells d).toArray) qk head_done rfl qd qk (fun _ _ _ h=>h) (yieldsIf_load_mid qr 57 (.tmp 3) rfl w.heap.size (0) rfl (dCells d) (.array 32 5) (fun X H=>H.2) qk rfl (by rw[ao];kernel_rfl)) (by assumption) ?_
 try simp only[qq]
 refine hO (i:=6) rfl fun V B=>?_;go_simp
 rw[fold_zero qr ap];obtain⟨X5,M,n5,t⟩:=bxd w4 (dCells d).toArray 57;have bc:X5.cell? ⟨b,0,none⟩=some (.slice A a.length c)/\X5.rangeAt w.heap.size 0 (dCells d):=⟨(U.out.fr t qs).c 0,aA _ (rowIs_fr ai t qs)⟩;rw[M];refine B _ _ bc ?_;clear B V M
 try simp only[qq]
 refine hO (i:=7) rfl fun V B=>?_;obtain⟨ii,bP,b5,b6,b7⟩:=info_dig;have aZ:=Hd (a4.out.fr t qs);refine wp_app (.tmp 37) (.tmp 39) 51 rfl 57 ii _ 32 32 underlying51 bP b5 b6 b7 rfl qd A a.length c (a.flatMap dCells) rfl aZ.out ⟨w4.heap.size,0,none⟩ 1 1 (dCells d) rfl (by rw[ao]) (fun j u hu=>by rw[add_mid',n5.c j];simpa using hu) (dcells_one d) (by unfold maxLen;omega) qo ?_;intro A' c' Y aR C aG;rw[show (a.length+1:Nat)=(a.length+1) from rfl] at aR ⊢;have bd:Y.cell? ⟨b,0,none⟩=some (.slice A a.length c)/\Y.rangeAt w.heap.size 0 (dCells d):=⟨((U.out.fr t qs).fr C aQ).c 0,aA _ (rowIs_fr (rowIs_fr ai t qs) C aP)⟩;refine B _ _ bd ?_;clear B V hC bc
 try simp only[qq]
 show headJ 8 ..
 iterate 2 (refine hdL rfl ?_;try simp only[qq])
 refine headI_done ⟨qk,?_⟩;simp only[qG,qH];have an:=(U.out.fr t qs).fr C aQ;have e0:=an.k0;have e1:=an.f 0;obtain⟨G,am⟩:=nmd (Y.setCell ⟨b,0,none⟩ (.slice A' (a.length+1) c'));have aF:Fr [b] Y G:=by rw[<-am];exact (Fq [b] Y).st _
 have aK:=an.setAt 0 (.slice A' (a.length+1) c')
 have aL:b ∉ blk A':=by
  intro m
  rcases aG b m with h | h
  ·exact aQ h
  ·have:=U.out.lt;have:=t.size;omega
 have bv:Own G 57 32 A' (a.length+1) c' ((a.flatMap dCells)++dCells d):=aR.fr aF (by intro k o;simp only[lms];rintro rfl;exact aL o);have a8:Fr (b::blk A) w4 G:=((t.mono qs).trans (C.mono (T:=b::blk A) (by intro x hx;exact .inl (by simp[hx]))) (fun x hx=>.inl hx)).trans aF qs;rw[am] at aK;have aT:=Hd aK;have a3:=Hd bv;have ag:=Hd a8;have S:=Hd (An aL (fun k o=>(aG k o).imp id (fun h=>Nat.le_trans t.size h)));clear an aF aK bv a8 aL aR C aG bd aZ t n5 HSS aA
 go_wp2_with fail
 try rw[am]
 clear am e0 e1;have aj:(a++[d]).length=a.length+1:=qs
 have bB:r ∉ b::blk A:=by have:=(E.out.ms r rfl).2;simp only[List.mem_cons,not_or];exact⟨this.1,this.2⟩
 have hP:I.heap.size ∉ b::blk A:=by
  have K:=J.out.size;intro m
  rcases List.mem_cons.1 m with h | h
  ·omega
  ·have:=E.out.own.lt _ h;omega
 have cj:=(E.out.ms r rfl).1.lt;have aS:=bz.fr ag.out hP;have bt:=(L.ms r rfl).1.fr ag.out bB
 have bT:∀ y∈a++[d],y.length=32:=by
  intro y hy
  rcases List.mem_append.1 hy with h | h
  ·exact E.out.len y h
  ·rw[lms] at h
   rw[h];exact ap
 have bm:TreeIs G b A' c' (some r) (a++[d]) (af):=⟨by rw[aj];exact aT.out,by have h:=a3.out;rw[<-flat_snoc] at h;rw[aj];exact h,bT,S.out.1,qs,fun q z=>by
  injection z with z
  subst z;refine⟨bt,(E.out.ms r rfl).2.1,fun m=>?_⟩
  rcases S.out.2 _ m with h | h
  ·exact (E.out.ms r rfl).2.2 h
  ·have:=J.out.size;have:=N.size;omega⟩
 have be:Fr (b::blk A) w G:=((J.out.then N).mono qs).then ag.out
 have aI:I.heap.size ∉ b::(blk A'++(some r).toList):=by
  have K:=J.out.size;have p:=bz.lt;simp only[List.mem_cons,List.mem_append,not_or];refine⟨fun h=>hP (by simp[h]),fun m=>?_,by simp;omega⟩
  rcases S.out.2 _ m with h | h
  ·exact hP (by simp[h])
  ·omega
 have bb:∀ q∈blk A',q∈blk A \/ w.heap.size<=q:=fun q z=>(S.out.2 q z).imp id (fun h=>by have:=J.out.size;have:=N.size;omega);have bL:w.heap.size<=I.heap.size:=J.out.size;generalize I.heap.size=P at aS aI bL ⊢;have bH:=Hd bm;have bE:=Hd aS;have aW:=Hd be;have bG:=Hd bb;clear aS bt bm be bb aT a3 ag S L ai U a4 bp N aX a5 y0 y1 aP bB;have cd:=bw.low
 have bX:Ok G:=bw.fr aW.out (by
  intro k o;refine br k ?_
  rcases List.mem_cons.1 o with h | h
  ·simp[h]
  ·simp[h])
 go_loopg [43] (a.length+1) (fun g _ W=>∃ (l i:Nat) (s:List (Value × Value)),i<g/\TreeIs W b A' c' (some r) (a++[d]) s/\BoxN W P 270 #[.int .i64 (l:Int),.int .i64 (i:Int)]/\Fr [P,r] G W/\(i+1)*2 ^ l=a.length+1/\PartsUp (a++[d]) s l a.length/\KeysUp s l a.length)
 case atStart=>exact⟨0,a.length,af,qo,bH.out,bE.out,Fq _ _,qs,aY.out.1,aY.out.2⟩
 case round =>
  obtain⟨l,i,s,hi,ht,Q,hf,m,R,ad⟩:=hrel
  have cc:i<=1000:=by
   have K:(i+1)*1<=(i+1)*2 ^ l:=Nat.mul_le_mul_left _ Nat.one_le_two_pow;omega
  have aP:l<=10:=by
   have K:1*2 ^ l<=(i+1)*2 ^ l:=Nat.mul_le_mul_right _ qo;have p:2 ^ l<2 ^ 11:=qo
   exact Nat.le_of_lt_succ ((Nat.pow_lt_pow_iff_right qd).1 p)
  rcases Nat.mod_two_eq_zero_or_one i with p | p
  ·have q1:wr.cell? ⟨P,1,none⟩=some (.int .i64 (i:Int)):=Q.c 1
   have h3:(i:Int) % 2=0:=qo
   have n:=Hd (An ht (An hf (An m (An R (An ad p)))));clear ht Q hi hf m R ad p
   go_wp2_with fail
   go_ret
   have bO:Fr (b::(blk A++(some r).toList)) w wr:=(aW.out.mono (fun k o=>.inl (by rcases List.mem_cons.1 o with h | h <;> simp[h]))).trans n.out.2.1 (by simp;omega);refine⟨rfl,s,b::(blk A'++(some r).toList),⟨A',c',r,n.out.1,rfl⟩,parts_end n.out.2.2.2.1 n.out.2.2.1 n.out.2.2.2.2.2 aj,by rw[aj];exact keys_end n.out.2.2.2.2.1,bO,fun k o=>?_⟩
   rcases List.mem_cons.1 o with h | h
   ·exact .inl (by simp[h])
   ·rcases List.mem_append.1 h with h | h
    ·rcases bG.out k h with p | p
     ·exact .inl (by simp[p])
     ·exact .inr p
    ·exact .inl (by have:k=r:=by simpa using h
                    simp[this])
  ·obtain⟨j,rfl⟩:∃ j,i=2*j+1:=⟨i / 2,qo⟩
   have a6:=Hd ht;rw[show ((2*j+1:Nat):Int)=2*(j:Int)+1 from by omega] at Q;have ah:=Hd Q
   have bY:Ok wr:=bX.fr hf (by
    have K:6<=r:=br r qs;simp;omega)
   have ci:(2*(j:Int)+1) / 2=(j:Int):=qo
   have q1:=Q.k1;have ce:(2*j+1)*2 ^ l<=(2*j+1+1)*2 ^ l:=Nat.mul_le_mul_right _ qo;have ax:=R l (2*j) qo (.inl (nlr _));have ay:=R l (2*j+1) (Nat.le_of_eq m) (.inl (nlr _));have bS:=keyOf_part (i:=(l:Int)+1) (j:=(j:Int)) (wf_int qo qo) (wf_int qo qo);have bQ:=keys_free ad m;have n:=Hd (An hi (An hf (An m (An R ad))));clear p ht Q hi hf m R ad;have ax:PartIs (a++[d]) (s) l (2*j) ((rt (a++[d]) (2*j*2 ^ l) (2 ^ l))):=ax;have ay:PartIs (a++[d]) (s) l (2*j+1) ((rt (a++[d]) ((2*j+1)*2 ^ l) (2 ^ l))):=ay;have aJ:TreeAt wr b (a++[d]) (s) (b::(blk A'++(some r).toList)):=⟨A',c',some r,a6.out,rfl⟩;have aU:Hid (∀ W,Fr [] wr W->Calls prog 149 #[.pointer (some ⟨b,0,none⟩),.agg #[.int .i64 l,.int .i64 (2*j)]] W (SumPost W ((rt (a++[d]) (2*j*2 ^ l) (2 ^ l))))):=Hd (fun W hW=>complete_any b l (2*j) (a++[d]) (s) _ ((rt (a++[d]) (2*j*2 ^ l) (2 ^ l))) W (aJ.fr0 hW) ax);have aV:Hid (∀ W,Fr [] wr W->Calls prog 149 #[.pointer (some ⟨b,0,none⟩),.agg #[.int .i64 l,.int .i64 (2*j+1)]] W (SumPost W ((rt (a++[d]) ((2*j+1)*2 ^ l) (2 ^ l))))):=Hd (fun W hW=>complete_any b l (2*j+1) (a++[d]) (s) _ ((rt (a++[d]) ((2*j+1)*2 ^ l) (2 ^ l))) W (aJ.fr0 hW) ay);have aq:((rt (a++[d]) (2*j*2 ^ l) (2 ^ l))).length=32:=ax.1;have ar:((rt (a++[d]) ((2*j+1)*2 ^ l) (2 ^ l))).length=32:=ay.1;have bM:(dCells ((rt (a++[d]) (2*j*2 ^ l) (2 ^ l)))).length=32:=by rw[dcells_len,aq]
   have bN:(dCells ((rt (a++[d]) ((2*j+1)*2 ^ l) (2 ^ l)))).length=32:=by rw[dcells_len,ar]
   obtain⟨v0,v1⟩:=ah.out.m2;have ca:=ah.out.lt
   go_upto_region 11 with ((go_at_call 149;(with_reducible refine (aU.out _ (Fq [] wr)).mono ?_);rintro e y1 ⟨rfl,aN⟩;unfold encD;obtain⟨y2,b1,bq,aB⟩:=new_dig y1 _ aq))
   have bZ:=aN.size;have bU:=aB.lt;generalize y1.heap.size=L6 at aB bZ bU ⊢;have ak:=aN.then bq;have bx:=ah.out.fr ak qs;obtain⟨u0,u1⟩:=bx.m2;clear b1 aN bq v0 v1
   go_upto_region 12 with ((go_at_call 149;(with_reducible refine (aV.out _ ak).mono ?_);rintro e y3 ⟨rfl,av⟩;unfold encD;obtain⟨y4,b2,aO,aC⟩:=new_dig y3 _ ar))
   have b0:=av.size;have bV:=aC.lt;have al:=ak.then (av.then aO);have bA:=rowIs_fr aB (av.then aO) qs;generalize y3.heap.size=L7 at aC b0 bV ⊢;have ae:=ah.out.fr al qs;obtain⟨q0,q1⟩:=ae.m2;have b8:=ae.f 0;have b9:=ae.f 1;clear b2 av aO u0 u1 bx aB
   go_upto_region 13 with fail
   obtain⟨D,aE⟩:=nmd ((y4.setCell ⟨P,0,none⟩ (.int .i64 (l+1))).setCell ⟨P,1,none⟩ (.int .i64 j));have aw:BoxN D P 270 #[.int .i64 (l+1),.int .i64 j]:=by rw[<-aE];exact (ae.setAt 0 _).setAt 1 _
   have ab:Fr [P] y4 D:=by rw[<-aE];exact ((Fq [P] y4).st _).st _
   try rw[aE]
   have bk:=a6.out.fr al qs;have Z:=bk.fr ab (by intro k o;simp only[lms];rintro rfl;exact aI o);have a9:=rowIs_fr bA ab (by simp;omega);have ba:=rowIs_fr aC ab (by simp;omega);have M:Fr [P] wr D:=(al.mono qs).then ab;clear q0 q1 b8 b9 aE bA aC ae bk;have bW:Ok D:=bY.fr M (by simp;omega);have bh:∀ W,Fr [] D W->Calls prog 150 #[.agg (dCells ((rt (a++[d]) (2*j*2 ^ l) (2 ^ l)))).toArray,.agg (dCells ((rt (a++[d]) ((2*j+1)*2 ^ l) (2 ^ l)))).toArray] W (SumPost W (nodeN ((rt (a++[d]) (2*j*2 ^ l) (2 ^ l))) ((rt (a++[d]) ((2*j+1)*2 ^ l) (2 ^ l))))):=fun W hW=>Node_any _ _ W (bW.fr0 hW) aq ar;have aH:∀ W,Fr [] D W->(W.cell? ⟨b,1,none⟩=some (.map (some r))/\W.cell? ⟨P,0,none⟩=some (.int .i64 (l+1))/\W.cell? ⟨P,1,none⟩=some (.int .i64 j))/\W.rangeAt L6 0 (dCells ((rt (a++[d]) (2*j*2 ^ l) (2 ^ l))))/\W.rangeAt L7 0 (dCells ((rt (a++[d]) ((2*j+1)*2 ^ l) (2 ^ l)))):=fun W hW=>⟨⟨(Z.box.fr hW qs).c 1,(aw.fr hW qs).c 0,(aw.fr hW qs).c 1⟩,row_range (rowIs_fr a9 hW qs) aq,row_range (rowIs_fr ba hW qs) ar⟩;have hC:=aH _ (Fq [] D).drew;have HSS:=Hd (fun (W:World) (hW:(W.cell? ⟨b,1,none⟩=some (.map (some r))/\W.cell? ⟨P,0,none⟩=some (.int .i64 (l+1))/\W.cell? ⟨P,1,none⟩=some (.int .i64 j))/\W.rangeAt L6 0 (dCells ((rt (a++[d]) (2*j*2 ^ l) (2 ^ l))))/\W.rangeAt L7 0 (dCells ((rt (a++[d]) ((2*j+1)*2 ^ l) (2 ^ l)))))=>hW.1);refine wp_region_head (fun W:World=>(W.cell? ⟨b,1,none⟩=some (.map (some r))/\W.cell? ⟨P,0,none⟩=some (.int .i64 (l+1))/\W.cell? ⟨P,1,none⟩=some (.int .i64 j))/\W.rangeAt L6 0 (dCells ((rt (a++[d]) (2*j*2 ^ l) (2 ^ l))))/\W.rangeAt L7 0 (dCells ((rt (a++[d]) ((2*j+1)*2 ^ l) (2 ^ l))))) 8 qk ?_ qd
   show headJ 0 ..
   iterate 5 (refine hdL rfl ?_;try simp only[qq])
   refine headI_take (i:=5) (v:=.agg (dCells ((rt (a++[d]) (2*j*2 ^ l) (2 ^ l)))).toArray) qk head_done rfl qd qk (fun _ _ _ h=>h) (yieldsIf_load_mid qr 57 (.tmp 6) rfl L6 (0) rfl (dCells ((rt (a++[d]) (2*j*2 ^ l) (2 ^ l)))) (.array 32 5) (fun X H=>H.2.1) qk rfl (by rw[bM];kernel_rfl)) (by assumption) ?_
   try simp only[qq]
   refine headI_take (i:=6) (v:=.agg (dCells ((rt (a++[d]) ((2*j+1)*2 ^ l) (2 ^ l)))).toArray) qk head_done rfl qd qk (fun _ _ _ h=>h) (yieldsIf_load_mid qr 57 (.tmp 7) rfl L7 (0) rfl (dCells ((rt (a++[d]) ((2*j+1)*2 ^ l) (2 ^ l)))) (.array 32 5) (fun X H=>H.2.2) qk rfl (by rw[bN];kernel_rfl)) (by assumption) ?_
   try simp only[qq]
   refine hO (i:=7) rfl fun V B=>?_;go_simp
   go_at_call 150
   (with_reducible refine (bh _ (Fq [] D).drew).mono ?_);rintro e y6 ⟨rfl,C⟩;unfold encD;have O:=C.undrew;refine B _ _ (aH _ O) ?_;clear B V hC HSS
   try simp only[qq]
   refine headI_done ⟨qk,?_⟩;simp only[qG,qH];have bs:=(Z.ms r rfl).1.fr O qs;obtain⟨kk,bR⟩:=bS;obtain⟨a7,b3,ac,bu⟩:=MapIs.put_new (v:=.agg (dCells (nodeN ((rt (a++[d]) (2*j*2 ^ l) (2 ^ l))) ((rt (a++[d]) ((2*j+1)*2 ^ l) (2 ^ l))))).toArray) key_part underlying235 bs bR (bQ);unfold partV at b3;have aa:=Z.fr O qs;have az:=(Z.ms r rfl).2
   have bn:TreeIs a7 b A' c' (some r) (a++[d]) ((s)++[(partV (l+1) j,encD (nodeN ((rt (a++[d]) (2*j*2 ^ l) (2 ^ l))) ((rt (a++[d]) ((2*j+1)*2 ^ l) (2 ^ l)))))]):=⟨aa.box.fr ac (by simpa using az.1.symm),aa.own.fr ac (by intro k o;simp only[lms];rintro rfl;exact az.2 o),aa.len,aa.nb,qs,fun q z=>by
    injection z with z
    subst z;exact⟨bu,az⟩⟩
   have bK:P≠r:=by rintro rfl;exact aI qs
   have bI:=Hd bn;have bF:=Hd ((aw.fr O qs).fr ac (by simpa using bK));have bD:Hid (Fr [P,r] wr a7):=Hd (((M.mono (T:=[P,r]) qs).trans O qs).trans ac qs);clear bs ac bu aa bn C O aH bh Z a9 ba aw M al ak aJ aU aV ab az
   go_wp2_with fail
   go_roundg (j+1)
   case measure=>have:=n.out.1;omega
   case rel =>
    exact⟨l+1,j,_,qo,bI.out,bF.out,n.out.2.1.trans bD.out qs,by have K:=n.out.2.2.1;rw[Nat.pow_succ,Nat.mul_comm (2 ^ l) 2,<-Nat.mul_assoc,<-K];congr 1;omega,parts_next n.out.2.2.2.1 n.out.2.2.1 qo (keyOf_part (wf_int qo qo) (wf_int qo qo)),keys_next n.out.2.2.2.2 n.out.2.2.1⟩
def pth (a:List Nm) (x f n:Nat):List Nm :=
 if b:n<=1 \/ 1048576<n then [] else
  if x<leftS n then pth a x f (leftS n)++[rt a (f+leftS n) (n - leftS n)] else pth a (x - leftS n) (f+leftS n) (n - leftS n)++[rt a f (leftS n)]
termination_by n
decreasing_by
 ·exact (leftS_spec qo qo).2.1
 ·have:=leftS_spec (n:=n) qo qo;omega
theorem pth_one (a:List Nm) (x f:Nat):pth a x f 1=[]:=by rw[pth,dif_pos qo]
theorem pth_two (a:List Nm) (x f n:Nat) (b:2<=n) (c:n<=1048576):pth a x f n=if x<leftS n then pth a x f (leftS n)++[rt a (f+leftS n) (n - leftS n)] else pth a (x - leftS n) (f+leftS n) (n - leftS n)++[rt a f (leftS n)]:=by rw[pth,dif_neg qo]
theorem pth_len (c:List Nm):∀ (n x f:Nat),1<=n->n<=1048576->(pth c x f n).length<n:=by
 intro n
 induction n using Nat.strongRecOn with
 | _ n b =>
  intro x f e a
  by_cases d:n=1
  ·subst d;rw[pth_one];simp
  ·have g:=leftS_spec (n:=n) qo a
   rw[pth_two _ _ _ _ qo a];split
   ·have:=b (leftS n) qo x f qo qo
    rw[lla,List.length_singleton];omega
   ·have:=b (n - leftS n) qo (x - leftS n) (f+leftS n) qo qo
    rw[lla,List.length_singleton];omega
theorem pth_32 {b:List Nm} (e:∀ d∈b,d.length=32):∀ (n x f:Nat),1<=n->f+n<=b.length->n<=1048576->∀ d∈pth b x f n,d.length=32:=by
 intro n
 induction n using Nat.strongRecOn with
 | _ n g =>
  intro x f i j c
  by_cases h:n=1
  ·subst h;rw[pth_one];simp
  ·have k:=leftS_spec (n:=n) qo c
   rw[pth_two _ _ _ _ qo c];intro d a;split at a
   ·rcases List.mem_append.1 a with a | a
    ·exact g (leftS n) qo x f qo qo qo d a
    ·rw[lms] at a;subst a;exact rt_len e _ _ qo qo qo
   ·rcases List.mem_append.1 a with a | a
    ·exact g (n - leftS n) qo _ _ qo qo qo d a
    ·rw[lms] at a;subst a;exact rt_len e _ _ qo qo qo
theorem half_split {n e f:Nat} (d:2<=n) (g:n<=1048576) (h:n<=2 ^ e) (c:2 ^ e ∣ f):(leftS n<=2 ^ e/\2 ^ e ∣ f)/\∃ b,n - leftS n<=2 ^ b/\2 ^ b ∣ f+leftS n:=by
 obtain⟨i,j,k⟩:=leftS_spec d g;refine⟨⟨qo,c⟩,Lib.bitLen (n - 1) - 1,?_,?_⟩
 ·show _<=leftS n
  omega
 ·show leftS n ∣ f+leftS n
  refine Nat.dvd_add (Nat.dvd_trans ?_ c) (Nat.dvd_refl _);exact Nat.pow_dvd_pow 2 ((Nat.pow_le_pow_iff_right (a:=2) qd).1 (show leftS n<=2 ^ e by omega))
def rootC (b:Nat) (a:List Nm) (w:World) (f n:Nat):Prop:=∀ W,Fr [] w W->Calls prog 127 #[.pointer (some ⟨b,0,none⟩),.int .i64 (f:Int),.int .i64 (n:Int)] W (SumPost W (rt a f n))
theorem include_g (b:Nat) (a:List Nm) (C:List (Value × Value)) (F:List Nat) (hP:Parts a C) (v:∀ d∈a,d.length=32) (m:a.length<=1000):∀ (n x f:Nat) (w:World),TreeAt w b a C F->Ok w->1<=n->f+n<=a.length->x<n->(∃ e,n<=2 ^ e/\2 ^ e ∣ f) ->
 Calls prog 125 #[.pointer (some ⟨b,0,none⟩),.int .i64 (x:Int),.int .i64 (f:Int),.int .i64 (n:Int)] w (ListPost w (pth a x f n)):=by
 intro n
 induction n using Nat.strongRecOn with
 | _ n ih =>
 intro x f w h A h1 h2 B he
 by_cases ak:n=1
 ·subst ak
  rw[pth_one];exact inc_nil b x f w
 ·obtain⟨e,af,ag⟩:=he
  have y:2<=n:=by omega
  have z:n<=1048576:=by omega
  obtain⟨⟨Y,u2⟩,e2,Z,u4⟩:=half_split y z af ag;obtain⟨c,t,p⟩:=leftS_spec (n:=n) y z;have hL:=fun W=>leftSize_any n y z W;have r:=pth_two a x f n y z;obtain⟨k,q⟩:=nmd (leftS n);rw[q] at c t p hL r Y Z u4;have M:rootC b a w f k:=fun W hW=>root_g b a C F hP v qo k f W (h.fr0 hW) (A.fr0 hW) c (by omega) ⟨e,Y,u2⟩;have u:rootC b a w (f+k) (n - k):=fun W hW=>root_g b a C F hP v qo (n - k) (f+k) W (h.fr0 hW) (A.fr0 hW) (by omega) (by omega) ⟨e2,Z,u4⟩;obtain⟨ii,aa,ab,ac,ad⟩:=info_dig;have HL:=Hd hL
  by_cases s:x<k
  ·have l:=ih k t x f w h A c (by omega) s ⟨e,Y,u2⟩
   have i:=rt_len v (n - k) (f+k) (by omega) (by omega) (by omega);have X:=pth_len a k x f c (by omega);rw[if_pos s] at r;rw[r];unfold rootC at u;rw[Int.natCast_add,Int.natCast_sub (Nat.le_of_lt t)] at u;obtain⟨d,O⟩:=nmd (rt a (f+k) (n - k));obtain⟨xs,V⟩:=nmd (pth a x f k);rw[O] at u i ⊢;rw[V] at l X ⊢;have N:(dCells d).length=32:=by rw[dcells_len,i]
   have G:=Hd l;have K:=Hd u;have aj:xs.length<=1000:=by omega
   have al:decide ((x:Int)<(k:Int))=true:=by simp;exact s
   have ah:0<=(f:Int)+k/\(f:Int)+k<=1048576:=by omega
   have ai:0<=(n:Int) - k/\(n:Int) - k<=1048576:=by omega
   go_enter func125,ntmps125
   go_wp2_with
    (first
     | (go_at_call 171;(with_reducible refine (HL.out _).mono ?_);rintro e w1 ⟨rfl,rfl⟩)
     | (go_at_call 125;(with_reducible refine G.out.mono ?_);rintro e w1 ⟨A1,c,rfl,R,P,T⟩;have H:=Hd R;have g:=Hd P;have o:=Hd T)
     | (go_at_call 127;(with_reducible refine (K.out _ g.out).mono ?_);rintro e w2 ⟨rfl,j⟩;unfold encD;have I:=Hd (H.out.fr j qs);have D:=Hd (g.out.then j);have ae:=j.size)
     | (rw[fold_zero qr i];at_builtin;(with_reducible refine wpList_app_tmp (w:=w2) rfl (.tmp 21) (.tmp 30) 51 rfl 57 ii _ 32 32 underlying51 aa ab ac ad rfl qd A1 xs.length c (xs.flatMap dCells) rfl I.out 1 1 (dCells d) 57 rfl (by rw[N]) (dcells_one d) (by unfold maxLen;omega) qo ?_);intro A3 p w3 S Q U;have J:=Hd S;have E:=Hd Q;have L:=Hd U))
   go_ret
   have m:(xs++[d]).length=xs.length+1:=qs
   have h1:=g.out.size;refine⟨A3,p,by rw[m];rfl,by rw[m,flat_snoc];exact J.out,D.out.trans E.out (fun x B=>.inr (o.out x B)),fun k q=>?_⟩
   rcases L.out k q with h | h
   ·exact o.out k h
   ·omega
  ·have l:=ih (n - k) (by omega) (x - k) (f+k) w h A (by omega) (by omega) (by omega) ⟨e2,Z,u4⟩
   have i:=rt_len v k f (by omega) (by omega) (by omega);have X:=pth_len a (n - k) (x - k) (f+k) (by omega) (by omega);rw[if_neg s] at r;rw[r];rw[Int.natCast_add,Int.natCast_sub (Nat.le_of_lt t),Int.natCast_sub (Nat.le_of_not_lt s)] at l;unfold rootC at M;obtain⟨d,O⟩:=nmd (rt a f k);obtain⟨xs,V⟩:=nmd (pth a (x - k) (f+k) (n - k));rw[O] at M i ⊢;rw[V] at l X ⊢;have N:(dCells d).length=32:=by rw[dcells_len,i]
   have G:=Hd l;have K:=Hd M;have aj:xs.length<=1000:=by omega
   have al:decide ((x:Int)<(k:Int))=false:=by simp;omega
   have ah:0<=(f:Int)+k/\(f:Int)+k<=1048576:=by omega
   have ai:0<=(n:Int) - k/\(n:Int) - k<=1048576:=by omega
   have am:0<=(x:Int) - k/\(x:Int) - k<=1048576:=by omega
   go_enter func125,ntmps125
   go_wp2_with
    (first
     | (go_at_call 171;(with_reducible refine (HL.out _).mono ?_);rintro e w1 ⟨rfl,rfl⟩)
     | (go_at_call 125;(with_reducible refine G.out.mono ?_);rintro e w1 ⟨A1,c,rfl,R,P,T⟩;have H:=Hd R;have g:=Hd P;have o:=Hd T)
     | (go_at_call 127;(with_reducible refine (K.out _ g.out).mono ?_);rintro e w2 ⟨rfl,j⟩;unfold encD;have I:=Hd (H.out.fr j qs);have D:=Hd (g.out.then j);have ae:=j.size)
     | (rw[fold_zero qr i];at_builtin;(with_reducible refine wpList_app_tmp (w:=w2) rfl (.tmp 42) (.tmp 47) 51 rfl 57 ii _ 32 32 underlying51 aa ab ac ad rfl qd A1 xs.length c (xs.flatMap dCells) rfl I.out 1 1 (dCells d) 57 rfl (by rw[N]) (dcells_one d) (by unfold maxLen;omega) qo ?_);intro A3 p w3 S Q U;have J:=Hd S;have E:=Hd Q;have L:=Hd U))
   go_ret
   have m:(xs++[d]).length=xs.length+1:=qs
   have h1:=g.out.size;refine⟨A3,p,by rw[m];rfl,by rw[m,flat_snoc];exact J.out,D.out.trans E.out (fun x B=>.inr (o.out x B)),fun k q=>?_⟩
   rcases L.out k q with h | h
   ·exact o.out k h
   ·omega
theorem whole_e (n:Nat):∃ e,n<=2 ^ e/\2 ^ e ∣ 0:=⟨n,Nat.le_of_lt Nat.lt_two_pow_self,Nat.dvd_zero _⟩
theorem Include_g (b:Nat) (a:List Nm) (f:List (Value × Value)) (F:List Nat) (s:Parts a f) (v:∀ d∈a,d.length=32) (z:a.length<=1000) (n x:Nat) (w:World) (h:TreeAt w b a f F) (B:Ok w) (r:1<=n) (G:n<=a.length) (D:x<n) :
 Calls prog 61 #[.pointer (some ⟨b,0,none⟩),.int .i64 (x:Int),.int .i64 (n:Int)] w (ListPost2 w (pth a x 0 n)):=by
 have g:=include_g b a f F s v z n x 0 w h B r qo D (whole_e n);rw[show ((0:Nat):Int)=0 from rfl] at g;obtain⟨E,c,m,t,_⟩:=h;have i:=ltwithin_any (n:Int) 1 (a.length:Int) w;have j:=ltwithin_any (x:Int) 0 ((n:Int) - 1) w;rw[show decide ((1:Int)<=(n:Int)/\(n:Int)<=(a.length:Int))=true from by simp;omega] at i;rw[show decide ((0:Int)<=(x:Int)/\(x:Int)<=(n:Int) - 1)=true from by simp;omega] at j;have u:=t.box;have o:=Hd i;have p:=Hd j;have l:=Hd g;have H:=u.k0
 go_enter func61,ntmps61
 go_wp2_with (first
  | (go_at_call 124;(with_reducible refine o.out.mono ?_);rintro e k ⟨rfl,rfl⟩)
  | (go_at_call 124;(with_reducible refine p.out.mono ?_);rintro e k ⟨rfl,rfl⟩)
  | (go_at_call 125;(with_reducible refine l.out.mono ?_);rintro e k ⟨A1,q,rfl,A,y,C⟩))
 go_ret2
 exact⟨A1,q,rfl,A,y,C⟩
theorem Root_g (b:Nat) (a:List Nm) (x:List (Value × Value)) (F:List Nat) (M:Parts a x) (q:∀ d∈a,d.length=32) (V:a.length<=1000) (n:Nat) (w:World) (y:TreeAt w b a x F) (N:Ok w) (z:1<=n) (T:n<=a.length) :
 Calls prog 62 #[.pointer (some ⟨b,0,none⟩),.int .i64 (n:Int)] w (TagPost w (rt a 0 n)):=by
 obtain⟨i,k⟩:=nmd (w.alloc (.cells (z32) 57));have h:Fr [] w i:=by rw[<-k];exact (Fq [] w).alloc _
 obtain⟨S,A⟩:∃ f,i.rowIs w.heap.size 57 32 f:=by rw[<-k];exact⟨_,row_new w _ _⟩
 have j:=root_g b a x F M q qo n 0 i (y.fr0 h) (N.fr0 h) z qo (whole_e n);rw[show ((0:Nat):Int)=0 from rfl] at j;have g:=rt_len q n 0 z qo qo;obtain⟨d,D⟩:=nmd (rt a 0 n);rw[D] at j g ⊢;have U:(dCells d).length=32:=by rw[dcells_len,g]
 have hW:=ltwithin_any (n:Int) 0 (a.length:Int) i;rw[show decide ((0:Int)<=(n:Int)/\(n:Int)<=(a.length:Int))=true from by simp;omega] at hW;obtain⟨R,c,m,B,_⟩:=y;have C:=B.box.fr h qs;have W:=C.k0
 have G:=Hd j;have K:=Hd hW;have J:=Hd A;have H:=Hd h;have L:=Hd k;clear j hW A h k C B D q
 go_enter func62,ntmps62
 go_upto_region 1 with fail
 rw[L.out]
 go_wp2_with (first
  | (go_at_call 124;(with_reducible refine K.out.mono ?_);rintro e i ⟨rfl,rfl⟩)
  | (go_at_call 127;(with_reducible refine G.out.mono ?_);rintro e P ⟨rfl,r⟩;unfold encD;have l:=rowIs_fr J.out r qs;have O:=store_digest (d:=d) l g;have s:=row_digest (d:=d) l g;obtain⟨Q,t⟩:∃ X,P.setCells w.heap.size 0 (dCells d)=X:=⟨_,rfl⟩;have E:Fr [] w Q:=(by rw[<-t];exact ((H.out.then r).setCells (.inr (nlr _)) _ _));rw[t] at O s;have HRD:=Hd s.1;have I:=Hd E;clear t s E l r))
 exact bodyPost_ret (v:=.tuple #[encD d,.int .i64 0]) (results_cell_mid2 (d:=.array 32 5) (p:=4) (u:=5) (ty:=57) (b:=w.heap.size) (o:=0) rfl rfl rfl HRD.out qk rfl (by rw[dcells_len,g];rfl)) rfl ⟨rfl,I.out⟩
def Kept (M:List Nat) (w:World) (P:World->Prop):Prop:=∀ W,Fr M w W->P W
section
variable {M M':List Nat} {w w':World} {P R:World->Prop}
theorem Kept.now (h:Kept M w P):P w:=h w (Fq M w)
theorem Kept.step (h:Kept M w P) (b:Fr M w w') (a:∀ k∈M',k∈M \/ w.heap.size<=k):Kept M' w' P:=fun W hW=>h W (b.trans hW a)
theorem Kept.fr0 (h:Kept M w P) (a:Fr [] w w'):Kept M w' P:=fun W hW=>h W ((a.mono qs).then hW)
theorem Kept.imp (h:Kept M w P) (f:∀ W,P W->R W):Kept M w R:=fun W hW=>f W (h W hW)
end
structure AV where
 a:AC
 A:Option Addr
 c:Nat
 B:Option Addr
 d:Nat
def AV.cs (x:AV):List Value:=[.int .i64 x.a.t,.int .i64 0,.int .i64 x.a.t,.string ⟨#[]⟩,x.a.r.sl x.A x.c,x.a.w.sl x.B x.d]
structure AV.ok (w:World) (x:AV):Prop where
 r:CLat w x.A x.a.r
 w:CLat w x.B x.a.w
 nr:NilOk x.a.r x.A x.c
 nw:NilOk x.a.w x.B x.d
section
variable {w w':World} {x:AV} {S:List Nat}
end
def TR.bl:TR->List Nat
 | .nil=>[]
 | .node b l _ _ _ _ _ r=>b::(l.bl++r.bl)
theorem TRat.fr {w w':World} {S:List Nat} (c:Fr S w w'):∀ {t:TR},TRat w t->(∀ k∈t.bl,k ∉ S)->TRat w' t
 | .nil,_,_=>trivial
 | .node b _ _ _ _ _ _ _,h,a=>⟨h.1.fr c (a b (by simp[TR.bl])),TRat.fr c h.2.1 (fun k d=>a k (by simp[TR.bl,d])),TRat.fr c h.2.2 (fun k d=>a k (by simp[TR.bl,d]))⟩
def stB (b:Nat) (t:TR):List Nat:=b::t.bl
theorem StAt.fr {w w':World} {b:Nat} {t:TR} {S:List Nat} (h:StAt w b t) (c:Fr S w w') (a:∀ k∈stB b t,k ∉ S):StAt w' b t:=⟨h.1.fr c (a b (by simp[stB])),TRat.fr c h.2 (fun k d=>a k (by simp[stB,d]))⟩
theorem run_add_str (w:World) (a b:ByteArray) (h:a.size+b.size<=9223372036854775807):(binOp .add 9 (.string a) (.string b)).run prog w=.ok (.string (a++b)) w:=by
 simp[binOp,go_sem,h]
theorem cons_str (c:UInt8) (l:Nm):Value.string (⟨#[c]⟩++⟨l.toArray⟩)=encN (c::l):=by
 unfold encN
 congr 1
theorem leafH_any (s:Nm) (w:World) (E:Ok w) (K:s.length<=1099511620000):Calls prog 93 #[encN s] w (SumPost w (leafN (1::s))):=by
 obtain⟨a,h⟩:=nmd (w.alloc (.cells (z32) 57));have j:Fr [] w a:=by rw[<-h];exact (Fq [] w).alloc _
 obtain⟨I,n⟩:∃ f,a.rowIs w.heap.size 57 32 f:=by rw[<-h];exact⟨_,row_new w _ _⟩
 have c:=Leaf_any (1::s) a (E.fr0 j) (by simp;omega);obtain⟨d,r⟩:=nmd (leafN (1::s));have g:d.length=32:=by rw[<-r];exact shaN_len _
 rw[r] at c ⊢;have J:(dCells d).length=32:=by rw[dcells_len,g]
 have q:(binOp .add 9 (.string ⟨#[1]⟩) (encN s)).run prog a=.ok (encN (1::s)) a:=by
  rw[<-cons_str 1 s];exact run_add_str a _ _ (by simp[<-ByteArray.size_data];omega)
 obtain⟨L,u⟩:=nmd (encN s);obtain⟨N,y⟩:=nmd (encN (1::s));rw[u] at q ⊢;rw[y] at q c;have z:=Hd c;have C:=Hd n;have A:=Hd j;have D:=Hd h;clear c n j h u y
 go_enter func93,ntmps93
 go_upto_region 1 with fail
 rw[D.out]
 go_wp2_with ((go_at_call 90;(with_reducible refine z.out.mono ?_);rintro e G ⟨rfl,k⟩;unfold encD;have i:=rowIs_fr C.out k qs;have F:=store_digest (d:=d) i g;have l:=row_digest (d:=d) i g;obtain⟨H,m⟩:∃ X,G.setCells w.heap.size 0 (dCells d)=X:=⟨_,rfl⟩;have t:Fr [] w H:=(by rw[<-m];exact ((A.out.then k).setCells (.inr (nlr _)) _ _));rw[m] at F l;have HRD:=Hd l.1;have B:=Hd t;clear m l t i k))
 exact bodyPost_ret (v:=encD d) (results_cell_mid (d:=.array 32 5) (p:=2) (ty:=57) (b:=w.heap.size) (o:=0) rfl rfl HRD.out qk rfl (by rw[dcells_len,g];rfl)) rfl ⟨rfl,B.out⟩
structure HistIs (w:World) (b pb pl bt:Nat) (A:Option Addr) (c:Nat) (F:List Nat) (l:List AV) (t:TR) (ds:List Nm) (kvs:List (Value × Value)):Prop where
 box:BoxN w b 136 #[.pointer (some ⟨pb,0,none⟩),.slice A l.length c,.slice none 0 0,.pointer (some ⟨pl,0,none⟩),.pointer (some ⟨bt,0,none⟩)]
 own:Own w 91 6 A l.length c (l.flatMap AV.cs)
 tree:TreeM w bt ds kvs F
 nb:b ∉ blk A
 nF:b ∉ F
 dj:∀ k∈blk A,k ∉ F
 st:StAt w pl t
 dst:∀ k∈stB pl t,k ∉ b::(blk A++F)
 kept:Kept (b::(blk A++F)) w fun W=>StAt W pb .nil/\∀ x∈l,x.ok W
def HistAt (w:World) (b:Nat) (l:List AV) (t:TR) (d:List Nm) (e:List (Value × Value)) (M:List Nat):Prop:=∃ f g a A c F,HistIs w b f g a A c F l t d e/\M=b::(blk A++F)
theorem none_any (b p:Nat) (w:World) (h:w.cell? ⟨b,0,none⟩=some (.pointer (some ⟨p,0,none⟩))):Calls prog 59 #[.pointer (some ⟨b,0,none⟩)] w fun e w'=>e=.returned (.bool false)/\w=w':=by
 go_enter func59,ntmps59
 go_wp2_with fail
 go_ret
 exact⟨rfl,rfl⟩
theorem info_act:∃ i,(prog).info? 91=some i/\i.zero=some (.agg actZ)/\i.size=6/\i.bytes=88:=info_parts qk
def ProvePost (w:World) (i n:Int) (s:Nm) (xs:List Nm) (e:Ending) (w':World):Prop :=
 ∃ A c,e=.returned (.tuple #[.agg #[.int .i64 i,.int .i64 n,encN s,.slice A xs.length c],.int .i64 0])/\Own w' 57 32 A xs.length c (xs.flatMap dCells)/\Fr [] w w'/\∀ k∈blk A,w.heap.size<=k
theorem new_dig32 (W:World) (d:Nm) (a:d.length=32):∃ Y,(storeCells ⟨W.heap.size,0,none⟩ (dCells d)).run prog (W.alloc (.cells (#[.int .u8 0,.int .u8 0,.int .u8 0,.int .u8 0,.int .u8 0,.int .u8 0,.int .u8 0,.int .u8 0,.int .u8 0,.int .u8 0,.int .u8 0,.int .u8 0,.int .u8 0,.int .u8 0,.int .u8 0,.int .u8 0,.int .u8 0,.int .u8 0,.int .u8 0,.int .u8 0,.int .u8 0,.int .u8 0,.int .u8 0,.int .u8 0,.int .u8 0,.int .u8 0,.int .u8 0,.int .u8 0,.int .u8 0,.int .u8 0,.int .u8 0,.int .u8 0]) 56))=.ok () Y/\Fr [] W Y/\Y.rowIs W.heap.size 56 32 (fun j=>.int .u8 ((d.getD j 0).toNat:Int)):=by
 obtain⟨f,b⟩:∃ f,(W.alloc (.cells (#[.int .u8 0,.int .u8 0,.int .u8 0,.int .u8 0,.int .u8 0,.int .u8 0,.int .u8 0,.int .u8 0,.int .u8 0,.int .u8 0,.int .u8 0,.int .u8 0,.int .u8 0,.int .u8 0,.int .u8 0,.int .u8 0,.int .u8 0,.int .u8 0,.int .u8 0,.int .u8 0,.int .u8 0,.int .u8 0,.int .u8 0,.int .u8 0,.int .u8 0,.int .u8 0,.int .u8 0,.int .u8 0,.int .u8 0,.int .u8 0,.int .u8 0,.int .u8 0]) 56)).rowIs W.heap.size 56 32 f:=⟨_,row_new W _ _⟩;exact⟨_,store_digest b a,((Fq [] W).alloc _).setCells (.inr (nlr _)) _ _,(row_digest b a).2⟩
theorem row_bytes {X:World} {L:Nat} {t:TypeId} {d:Nm} (b:X.rowIs L t 32 (fun j=>.int .u8 ((d.getD j 0).toNat:Int))) (a:d.length=32):Row X X.heap.size 1 (some ⟨L,0,none⟩) 32 (dCells d) :=
 ⟨by rw[dcells_len,a],fun _=>⟨L,0,rfl,b.lt,row_range b a⟩⟩
def leaf0:Nm:=leafN (0::stD0)
theorem NewH_any (p:Nat) (w:World) (I:Ok w) (h:StAt w p .nil):Calls prog 32 #[.pointer (some ⟨p,0,none⟩)] w fun e w'=>∃ b M,e=.returned (.tuple #[.pointer (some ⟨b,0,none⟩),.int .i64 0])/\HistAt w' b [] .nil [leaf0] [] M/\Fr [] w w'/\∀ k∈M,w.heap.size<=k:=by
 have f:stD0.length=32:=shaN_len _;have ag:(dCells stD0).length=32:=by rw[dcells_len,f]
 have B:∀ W,Fr [] w W->Calls prog 88 #[.pointer (some ⟨p,0,none⟩)] W (SumPost W stD0):=fun W hW=>DigestS_nil p W (I.fr0 hW) (h.fr0 hW);have l:∀ W,Fr [] w W->Calls prog 90 #[encN (0::stD0)] W (SumPost W leaf0):=fun W hW=>Leaf_any (0::stD0) W (I.fr0 hW) (by simp[f]);have H:leaf0.length=32:=shaN_len _;generalize leaf0=Z at l H ⊢;generalize stD0=d at B l f ag
 have t:∀ W,(binOp .add 9 (.string ⟨#[0]⟩) (encN d)).run prog W=.ok (encN (0::d)) W:=fun W=>by
  rw[<-cons_str 0 d];exact run_add_str W _ _ (by simp[<-ByteArray.size_data];omega)
 obtain⟨K,J⟩:=nmd (encN d);obtain⟨s2,an⟩:=nmd (encN (0::d));rw[J] at t;rw[an] at t l;have T:=Hd B;have V:=Hd l;have O:=Hd t;have X:=Hd J;have r:=Hd h
 go_enter func32,ntmps32
 go_upto_region 4 with ((go_at_call 87;(with_reducible refine (NewTree_any w).mono ?_);rintro e g ⟨rfl,E,ah⟩;have R:=Hd E;have U:=Hd ah;have aw:=E.lt))
 obtain⟨w2,ap,ae,G⟩:=bxn g #[.pointer p,gz,gz,.pointer p,.pointer w.heap.size] 136;rw[ap];have n:=Hd (U.out.then G);have m:=Hd ae;have S:=Hd (R.out.fr G qs)
 go_upto_region 5 with ((go_at_call 88;(with_reducible refine (T.out _ n.out).mono ?_);rintro e L ⟨rfl,ai⟩;unfold encD;obtain⟨x,av,aj,am⟩:=new_dig32 L d f;have o:=Hd (ai.then aj);have q:=Hd am))
 have aq:=q.out.lt;generalize L.heap.size=Y at q aq ⊢;have z:=(Fq [] x).drew
 have aa:∀ W,Fr [] x W->W.cell? ⟨g.heap.size,4,none⟩=some (.pointer w.heap.size)/\(convert 49 9 (.slice Y 32 32)).run prog W=.ok K W/\(binOp .add 9 (.string ⟨#[0]⟩) K).run prog W=.ok s2 W:=fun W hW=>by
  have hb:=(m.out.fr o.out qs).fr hW qs;have hr:=rowIs_fr q.out hW qs;have F:=run_row_str (P:=prog) (row_bytes hr f) 49 5 underlying49 underlying5 9 underlying9 32;rw[X.out] at F;exact⟨hb.c 4,F,O.out W⟩
 have HSS:=Hd aa;refine wp_region_head (fun W:World=>Fr [] x W) 8 qk ?_ qd
 show headJ 0 ..
 iterate 7 (refine hdL rfl ?_;try simp only[qq])
 refine hO (i:=7) rfl fun ar hK=>?_;go_simp
 go_at_call 90
 (with_reducible refine (V.out _ ((n.out.then o.out).then z)).mono ?_);rintro e N ⟨rfl,al⟩;have A:=z.then al;refine hK _ _ A ?_
 try simp only[qq]
 refine headI_done ⟨qk,?_⟩;simp only[qG,qH];have j:=o.out.then A;have ac:=S.out.fr j qs;have ad:TreeIs N w.heap.size none 0 none [] []:=⟨ac,Own.nil _ _ _,qs,by simp[blk],fun _=>rfl,qs⟩;have Q:=Hd (Append_0 w.heap.size Z N ad H)
 go_wp2_with ((go_at_call 89;(with_reducible refine Q.out.mono ?_);rintro e w5 ⟨rfl,F',ao,ak,ab⟩;have s:=Hd (An ao ab);have y:=Hd ak))
 go_ret2
 have ax:=m.out.lt;have ay:=j.size;have au:=r.out.1.lt;have af:=(m.out.fr j qs).fr y.out (by simp;omega);have u:=(n.out.then j).trans y.out qs
 have C:∀ k∈g.heap.size::(blk none++F'),w.heap.size<=k:=fun k a=>by
  simp only[blk,Option.map_none,Option.toList_none,List.nil_append,List.mem_cons] at a
  rcases a with rfl | a
  ·omega
  ·rcases s.out.2 k a with rfl | h
   ·exact nlr _
   ·omega
 have D:p ∉ g.heap.size::(blk none++F'):=fun v=>by have:=C p v;omega
 refine⟨g.heap.size,_,rfl,⟨p,p,w.heap.size,none,0,F',⟨af,Own.nil _ _ _,s.out.1,by simp[blk],?_,by simp[blk],r.out.fr0 u,?_,?_⟩,rfl⟩,u,C⟩
 ·intro v
  rcases s.out.2 _ v with h | h
  ·omega
  ·omega
 ·intro k a
  simp only[stB,TR.bl,List.mem_cons,List.not_mem_nil,or_false] at a;rw[a];exact D
 ·intro W hW
  exact⟨(r.out.fr0 u).fr hW (by simpa [stB,TR.bl] using D),qs⟩
set_option maxHeartbeats 1000000
def leafX (x:AX):Nm:=leafN (1::encAG x.a)
def okA (xs:List AX) (a:AG):Bool:=wfB a && (match xs.getLast? with | none=>true | some y=>decide (0<cmpK a.k y.a.k))
structure Run (xs:List AX):Prop where
 wf:∀ x∈xs,wfB x.a=true/\x.a.fit/\x.a.r.length<=10/\x.a.w.length<=10
 inc:∀ i x y,xs[i]?=some x->xs[i+1]?=some y->0<cmpK y.a.k x.a.k
 len:xs.length<=12
structure HGis (w:World) (b pb pl bt:Nat) (A:Option Addr) (c:Nat) (F:List Nat) (xs:List AX) (ns:List ON) (ds:List Nm) (kvs:List (Value × Value)):Prop where
 box:BoxN w b 136 #[.pointer (some ⟨pb,0,none⟩),.slice A xs.length c,.slice none 0 0,.pointer (some ⟨pl,0,none⟩),.pointer (some ⟨bt,0,none⟩)]
 own:Own w 91 6 A xs.length c (xs.flatMap AX.cs)
 xok:∀ x∈xs,x.ok w
 base:SG w pb []
 st:SG w pl ns
 nl:ns.length<=10*xs.length
 tree:TreeM w bt ds kvs F
 parts:Parts ds kvs
 keys:KeysUp kvs 0 ds.length
 ds:ds=leaf0::xs.map leafX
 run:Run xs
def HG (w:World) (b:Nat) (xs:List AX) (M:List Nat):Prop:=∃ pb pl bt A c F ns ds kvs,HGis w b pb pl bt A c F xs ns ds kvs/\M=b::(blk A++F)
theorem TreeM.noT {w:World} {b:Nat} {ds:List Nm} {kvs:List (Value × Value)} {F:List Nat} {ts:List TypeId} (h:TreeM w b ds kvs F) (a:237 ∉ ts) (d:57 ∉ ts):NoT ts w F:=by
 obtain⟨A,c,r,h,rfl⟩:=h;exact ((NoT.box h.box a).app ((NoT.own h.own d).app (NoT.map (h.ms r rfl).1))).mem qs
section
variable {w w':World} {b pb pl bt c:Nat} {A:Option Addr} {F:List Nat} {xs:List AX} {ns:List ON} {ds:List Nm} {kvs:List (Value × Value)} {M S:List Nat}
theorem HGis.noT (h:HGis w b pb pl bt A c F xs ns ds kvs):NoT tyS w (b::(blk A++F)) :=
 ((NoT.box h.box qd).app ((NoT.own h.own qd).app (h.tree.noT qd qd))).mem qs
theorem HGis.fr0 (h:HGis w b pb pl bt A c F xs ns ds kvs) (a:Fr [] w w'):HGis w' b pb pl bt A c F xs ns ds kvs :=
 ⟨h.box.fr a qs,h.own.fr a qs,fun x d=>(h.xok x d).fr0 a,h.base.fr0 a,h.st.fr0 a,h.nl,h.tree.fr a qs,h.parts,h.keys,h.ds,h.run⟩
theorem HG.fr0 (h:HG w b xs M) (a:Fr [] w w'):HG w' b xs M:=by
 obtain⟨pb,pl,bt,A,c,F,ns,ds,kvs,h,rfl⟩:=h;exact⟨pb,pl,bt,A,c,F,ns,ds,kvs,h.fr0 a,rfl⟩
theorem HG.lt (h:HG w b xs M):∀ k∈M,k<w.heap.size:=by
 obtain⟨pb,pl,bt,A,c,F,ns,ds,kvs,h,rfl⟩:=h;intro k a
 rcases List.mem_cons.1 a with rfl | a
 ·exact h.box.lt
 ·rcases List.mem_append.1 a with a | a
  ·exact h.own.lt k a
  ·exact h.tree.lt k a
theorem HGis.nb (h:HGis w b pb pl bt A c F xs ns ds kvs):b ∉ blk A:=fun a=>by
 have:=NoT.own (ts:=[136]) h.own qd b a _ _ _ h.box;simp at this
theorem HGis.nF (h:HGis w b pb pl bt A c F xs ns ds kvs):b ∉ F:=fun a=>by
 have:=h.tree.noT (ts:=[136]) qd qd b a _ _ _ h.box;simp at this
theorem HGis.dj (h:HGis w b pb pl bt A c F xs ns ds kvs):∀ k∈blk A,k ∉ F:=fun k d f=>by
 rcases h.own.2 with ⟨a,_⟩ | ⟨g,i,j,a,_,e,_⟩
 ·injection a with a;subst a;simp[blk] at d
 ·injection a with a
  subst a;simp only[blk,Option.map_some,Option.toList_some,lms] at d;subst d;have:=h.tree.noT (ts:=[91]) qd qd k f _ _ _ e;simp at this
theorem HG.len12 (h:HG w b xs M):xs.length<=12:=by
 obtain⟨pb,pl,bt,A,c,F,ns,ds,kvs,h,rfl⟩:=h;exact h.run.len
end
theorem Len_h (b:Nat) (xs:List AX) (M:List Nat) (w:World) (h:HG w b xs M):Calls prog 19 #[.pointer (some ⟨b,0,none⟩)] w fun e w'=>e=.returned (.int .i64 (xs.length:Int))/\w=w':=by
 obtain⟨pb,pl,bt,A,c,F,ns,ds,kvs,h,rfl⟩:=h;obtain⟨d,g⟩:=h.box.m2;have a:=Hd (none_any b pb w d)
 go_enter func19,ntmps19
 go_wp2_with ((go_at_call 59;(with_reducible refine a.out.mono ?_);rintro e f ⟨rfl,rfl⟩))
 go_ret
 exact⟨rfl,rfl⟩
theorem Base_h (b:Nat) (xs:List AX) (M:List Nat) (w:World) (h:HG w b xs M):Calls prog 43 #[.pointer (some ⟨b,0,none⟩)] w fun e w'=>∃ p,e=.returned (.pointer (some ⟨p,0,none⟩))/\SG w p []/\w=w':=by
 obtain⟨pb,pl,bt,A,c,F,ns,ds,kvs,h,rfl⟩:=h;have f:=h.box.k0;have d:=Hd (none_any b pb w f);have a:=Hd h.base
 go_enter func43,ntmps43
 go_wp2_with ((go_at_call 59;(with_reducible refine d.out.mono ?_);rintro e g ⟨rfl,rfl⟩))
 go_ret
 exact⟨pb,rfl,a.out,rfl⟩
theorem ApplyA_g (a:AG) (j:ByteArray) (A B:Option Addr) (c d k p:Nat) (w:World) (g:∀ W,Fr [] w W->Calls prog 153 #[.pointer (some ⟨p,0,none⟩),.slice B a.w.length d] W (SPost W k)) :
 Calls prog 92 #[a.val j A c B d,.pointer (some ⟨p,0,none⟩)] w (SPost w k):=by
 unfold AG.val;obtain⟨v,h,u,i,f⟩:=bxz w #[.int .i64 a.k.rnd,.int .i64 a.k.phase,.int .i64 a.k.idx,.string j,.slice A a.r.length c,.slice B a.w.length d] 91 w.heap.size;have x:=i.k5;have l:=Hd (g v f);have o:=Hd h;have m:=Hd f;clear h i f g u
 go_enter func92,ntmps92
 go_upto_region 1 with fail
 rw[o.out]
 go_wp2_with ((go_at_call 153;(with_reducible refine l.out.mono ?_);rintro e w2 ⟨p2,ns,rfl,t,s,q⟩;have n:=Hd (m.out.then q)))
 go_ret2
 exact⟨p2,ns,rfl,t,s,n.out⟩
end Go.Proofs.YtlpmiimgacfmkaaGreatDoor
