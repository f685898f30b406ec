/- Part of the proof. -/
import Derived.Test.YtlpmiimgacfmkaaGreatDoorCCe4
set_option linter.all false
set_option maxHeartbeats 8000000
set_option maxRecDepth 100000
namespace Go.Proofs.YtlpmiimgacfmkaaGreatDoor
open Go.Proofs.Tryz List
open Go.RowKit Go.Shelf
def CU{a:RX}{w w':World}(ha:a.ok w)(P n:Int)(A:Option Addr)(c:Nat)(l:List PX)(hP:P<65536)(hl:PrX w' A c l)(he:∀p∈l,p.ok)(hn:l.length<=13):RX.ok ⟨a.nm,a.so,a.st,P,n,A,c,l⟩ w':=⟨ha.no,ha.nt,ha.en,hP,hl,he,hn⟩
def CpL.ok{a:RX}{w:World}{l:List PX}(h:CpL a.ps l)(ha:a.ok w):∀q∈l,q.ok:=λq hq=>by
 obtain⟨p,hp,hc⟩:=h.mem q hq;exact hc.ok (ha.each p hp)
def Own.setAt{w:World}{e:TypeId}{size n c g i:Nat}{xs:List Value}(h:Own w e size (some ⟨g,0,none⟩) n c xs)(u:Value)(hi:i<xs.length):Own (w.setCell ⟨g,i,none⟩ u) e size (some ⟨g,0,none⟩) n c (xs.set i u):=by
 obtain⟨L,hL,hLl,hLx,hnc,hcm⟩:=h.rowL;have hxl:=h.1;have hil:i<L.length:=by rw[hLl];have:=Nat.mul_le_mul_right size hnc;omega
 have h1:=RowL.set (vs:=[u]) (o:=i) hL (by simp;omega)
 have e1:L.take i++[u]++L.drop (i+[u].length)=L.set i u:=by
  rw[List.set_eq_take_append_cons_drop,if_pos hil,List.append_assoc];rfl
 rw[e1]at h1;refine RowL.own h1 (by rw[List.length_set,hLl]) ?_ hnc hcm;rw[List.take_set,hLx]
def vV:∀(l:List PX) (k o:Nat) (u:Value) (q q':PX),l[k]?=some q->o<4->q'.cs=q.cs.set o u->(l.flatMap PX.cs).set (k*4+o) u=(l.set k q').flatMap PX.cs
 | [],k,o,u,q,q',h,_,_=>by simp at h
 | p::r,0,o,u,q,q',h,ho,hq=>by
  simp at h;subst h
  rw[List.flatMap_cons,List.set_cons_zero,List.flatMap_cons,hq,Nat.zero_mul,Nat.zero_add,List.set_append_left _ _ (by rw[iP];omega)]
 | p::r,k+1,o,u,q,q',h,ho,hq=>by
  rw[List.flatMap_cons,List.set_cons_succ,List.flatMap_cons,List.set_append_right _ _ (by rw[iP];omega),iP,show (k+1)*4+o - 4=k*4+o by omega,vV r k o u q q' (by simpa using h) ho hq]
def CpL.set{ps l:List PX}(h:CpL ps l){k:Nat}{q0:PX}(hq0:l[k]?=some q0)(q':PX):∀(t:Nat) (p q:PX),ps[t]?=some p->(l.set k q')[t]?=some q->(t≠k/\CpP p q) \/ (t=k/\q=q'/\CpP p q0):=λt p q hp hq=>by
 by_cases htk:t=k
 ·subst htk
  rw[List.getElem?_set_self (gV.1 hq0).1]at hq
  injection hq with hq
  exact .inr ⟨rfl,hq.symm,h.2 t p q0 hp hq0⟩
 ·rw[List.getElem?_set_ne (λe=>htk e.symm)]at hq
  exact .inl ⟨htk,h.2 t p q hp hq⟩
def CV(a b:Int):∃y:UInt8,bits .xor .u8 a b=(y.toNat:Int):=by
 have h:=bits_within .xor .u8 a b;have h1:IntKind.u8.min=0:=rfl;have h2:IntKind.u8.max=255:=rfl;rw[h1,h2]at h;refine⟨UInt8.ofNat (bits .xor .u8 a b).toNat,?_⟩;rw[UInt8.toNat_ofNat',Nat.mod_eq_of_lt (by omega)];omega
def E6{w:World}{B n i:Nat}{l:Nm}(hn:l.length=n)(hB:B<w.heap.size)(hc:∀t,t<n->w.cell? ⟨B,t,none⟩=some (.int .u8 (((l.getD t 0).toNat:Nat):Int)))(hi:i<n)(y:UInt8):
 Row (w.setCell ⟨B,i,none⟩ (.int .u8 (y.toNat:Int))) (w.setCell ⟨B,i,none⟩ (.int .u8 (y.toNat:Int))).heap.size 1 (some ⟨B,0,none⟩) n (eO (l.set i y)):=by
 refine⟨by rw[eP,List.length_set,hn,Nat.mul_one],λ_=>⟨B,0,rfl,by simp[World.setCell];exact hB,λt u hu=>?_⟩⟩
 have ht:t<n:=by
  have:=(gV.1 hu).1
  rwa [eP,List.length_set,hn]at this
 rw[gO (by rw[List.length_set,hn];exact ht)]at hu
 injection hu with hu
 rw[<-hu,Nat.zero_add]
 show (w.setCells B i [.int .u8 (y.toNat:Int)]).cell? ⟨B,t,none⟩=_
 by_cases hti:t=i
 ·subst hti
  have h:=World.cell?_setCells_in B [.int .u8 (y.toNat:Int)] t w (λj hj=>by
   simp at hj;subst hj;rw[Nat.add_zero,hc t hi];rfl) 0 (by simp)
  rw[Nat.add_zero]at h;rw[h,List.getD_eq_getElem?_getD,List.getElem?_set_self (by rw[hn];exact hi)];rfl
 ·rw[World.cell?_setCells_out B _ i w ⟨B,t,none⟩ (λ_ _=>by simp only[List.length_cons,List.length_nil];omega),hc t ht,List.getD_eq_getElem?_getD,List.getD_eq_getElem?_getD,List.getElem?_set_ne (λe=>hti e.symm)]
def vW:∀(l:List PX) (k:Nat) (q q':PX),l[k]?=some q->q'.cs=q.cs->(l.set k q').flatMap PX.cs=l.flatMap PX.cs
 | [],k,q,q',h,_=>by simp at h
 | p::r,0,q,q',h,hq=>by
  simp at h;subst h
  rw[List.set_cons_zero,List.flatMap_cons,List.flatMap_cons,hq]
 | p::r,k+1,q,q',h,hq=>by
  rw[List.set_cons_succ,List.flatMap_cons,List.flatMap_cons,vW r k q q' (by simpa using h) hq]
def yp(e:Nm)(o:Nat)(y:UInt8):(eO e).set o (.int .u8 (y.toNat:Int))=eO (e.set o y):=by
 unfold eO;rw[List.map_set]
def rE:∀(d:List Nm) (i o:Nat) (e:Nm) (y:UInt8),(∀x∈d,x.length=32)->d[i]?=some e->o<32->(d.flatMap eO).set (i*32+o) (.int .u8 (y.toNat:Int))=(d.set i (e.set o y)).flatMap eO
 | [],i,o,e,y,_,h,_=>by simp at h
 | x::r,0,o,e,y,hl,h,ho=>by
  simp at h;subst h
  rw[List.flatMap_cons,List.set_cons_zero,List.flatMap_cons,Nat.zero_mul,Nat.zero_add,List.set_append_left _ _ (by rw[eP,hl x (by simp)];exact ho),yp]
 | x::r,i+1,o,e,y,hl,h,ho=>by
  rw[List.flatMap_cons,List.set_cons_succ,List.flatMap_cons,List.set_append_right _ _ (by rw[eP,hl x (by simp)];omega),eP,hl x (by simp),show (i+1)*32+o - 32=i*32+o by omega,rE r i o e y (λz hz=>hl z (by simp[hz])) (by simpa using h) ho]
def LPX.apart{w:World}{A:Option Addr}{c:Nat}{l:List PX}(h:LPX w A c l){t k:Nat}{p q:PX}(hp:l[t]?=some p)(hq:l[k]?=some q)(hne:t≠k):∀x∈eX p.A,x ∉ eX q.A:=λx hx hx2=>by
 have h1:=gV.1 hp;have h2:=gV.1 hq;have hp':=List.pairwise_iff_getElem.1 h.dj
 rcases Nat.lt_or_gt_of_ne hne with h3|h3
 ·exact hp' t k h1.1 h2.1 h3 x (by rw[h1.2];exact hx) (by rw[h2.2];exact hx2)
 ·exact hp' k t h2.1 h1.1 h3 x (by rw[h2.2];exact hx2) (by rw[h1.2];exact hx)
def CW{w:World}{e:TypeId}{size n c:Nat}{A:Option Addr}{xs:List Value}(h:Own w e size A n c xs)(hn:0<n):∃g,A=some ⟨g,0,none⟩:=by
 rcases h.2 with⟨_,h2⟩|⟨g,cap,cur,h1,_⟩
 ·omega
 ·injection h1 with h1
  exact⟨g,h1⟩
def LPX.frT{w w':World}{A:Option Addr}{c:Nat}{l:List PX}{S:List Nat}(h:LPX w A c l)(hf:Fr S w w')(hS:NoT [53,57] w S):LPX w' A c l:=⟨⟨h.pr.own.frT hf hS (by simp),λp hp=>(h.pr.ds p hp).frT hf hS (by simp)⟩,h.dj⟩
def RX.cl(b:RX)(A:Option Addr)(N c:Nat):Array Value:=#[.int .i64 b.nm.kind,.string b.so,.int .i64 b.nm.number,.int .i64 b.nm.index,.string b.st,.int .i64 b.P,.int .i64 b.n,.slice A N c]
def Ia(a:RX)(w:World)(RB ZB:Nat)(W:World):Prop:=∃b:RX,vU a b/\b.ok W/\BoxN W RB 39 (b.cl b.A b.ps.length b.c)/\BoxN W ZB 39 #[.int .i64 0,.string ⟨#[]⟩,.int .i64 0,.int .i64 0,.string ⟨#[]⟩,.int .i64 0,.int .i64 0,.slice none 0 0]/\Fr [] w W
structure APS(a:RX)(w v:World)(RB ZB g c' j:Nat)(l:List PX):Prop where
 ok:a.ok w
 lp:LPX v (some ⟨g,0,none⟩) c' l
 cp:CpL a.ps l
 len:l.length=j
 j12:j<=12
 gl:w.heap.size<=g
 ql:∀q∈l,∀k∈eX q.A,w.heap.size<=k
 fr:Fr [] w v
 rb:BoxN v RB 39 (a.cl (some ⟨g,0,none⟩) j c')
 zb:BoxN v ZB 39 #[.int .i64 0,.string ⟨#[]⟩,.int .i64 0,.int .i64 0,.string ⟨#[]⟩,.int .i64 0,.int .i64 0,.slice none 0 0]
 ne:RB≠ZB/\w.heap.size<=RB/\g≠RB/\g≠ZB/\w.heap.size<=ZB
def RX.ok.frT{a:RX}{w w':World}{S:List Nat}(h:a.ok w)(hf:Fr S w w')(hS:NoT [53,57] w S):a.ok w':=⟨h.no,h.nt,h.en,h.at_,⟨h.pr.own.frT hf hS (by simp),λp hp=>(h.pr.ds p hp).frT hf hS (by simp)⟩,h.each,h.len⟩
def APS.fin{a:RX}{w v:World}{RB ZB g c' j:Nat}{l:List PX}(h:APS a w v RB ZB g c' j l){W:World}{S:List Nat}{N:Nat}(b:RX)(hf:Fr S v W)(hz:ZB ∉ S)(hlo:∀x∈S,w.heap.size<=x)(hb:BoxN W RB 39 (b.cl b.A N b.c))(hN:b.ps.length=N)(hA:vU a b)(hok:b.ok W):Ia a w RB ZB W :=
 ⟨b,hA,hok,by rw[hN];exact hb,h.zb.fr hf hz,h.fr.trans hf λx hx=>.inr (hlo x hx)⟩
def qS{a b:RX}{l:List PX}(hcp:CpL a.ps l)(h:∀q∈b.ps,∃q0∈l,q0.i=q.i/\q0.s=q.s):vU a b:=.inl λq hq=>by
 obtain⟨q0,h0,h1,h2⟩:=h q hq;obtain⟨p,hp,hc⟩:=hcp.mem q0 h0;exact⟨p,hp,hc.i.trans h1,hc.s.trans h2⟩
def zI{l:List PX}{k:Nat}{q q':PX}(hq:l[k]?=some q)(h:q.i=q'.i/\q.s=q'.s):∀p∈l.set k q',∃q0∈l,q0.i=p.i/\q0.s=p.s:=λp hp=>by
 rcases List.mem_or_eq_of_mem_set hp with hp|rfl
 ·exact⟨p,hp,rfl,rfl⟩
 ·exact⟨q,gH hq,h⟩
def APS.set{a:RX}{w v:World}{RB ZB g c' j:Nat}{l:List PX}(h:APS a w v RB ZB g c' j l){q q':PX}{k o:Nat}{X W:World}(u:Value)(hX:Fr [] v X)(hW:Fr [] (X.setCell ⟨g,k*4+o,none⟩ u) W)(hq:l[k]?=some q)(ho:o<4)(hcs:q'.cs=q.cs.set o u)(hA:q'.A=q.A/\q'.c=q.c/\q'.d=q.d)(hok:q'.ok)(happ:vU a ⟨a.nm,a.so,a.st,a.P,a.n,some ⟨g,0,none⟩,c',l.set k q'⟩):Ia a w RB ZB W:=by
 have hk:=(gV.1 hq).1;have ho1:=((h.lp.pr.own.fr hX (by simp)).setAt (i:=k*4+o) u (by rw[zH];omega)).fr hW (by simp);rw[vV l k o u q q' hq ho hcs]at ho1;have f3:Fr [g] v W:=((hX.mono (by simp)).then ((Fq [g] X).set (p:=⟨g,k*4+o,none⟩) (.inl (by simp)) u)).then (hW.mono (by simp));have hnD:NoT [57] v [g]:=NoT.own h.lp.pr.own (by decide);have hne:=h.ne;refine h.fin _ f3 (by simp;exact λe=>hne.2.2.2.1 e.symm) (λx hx=>by simp at hx;rw[hx];exact h.gl) (h.rb.fr f3 (by simp;exact λe=>hne.2.2.1 e.symm)) (by simp only[List.length_set];exact h.len) happ (CU h.ok _ _ _ _ _ h.ok.at_ ⟨by rw[List.length_set];exact ho1,λp hp=>?_⟩ (λp hp=>?_) (by rw[List.length_set,h.len];have:=h.j12;omega))
 ·rcases List.mem_or_eq_of_mem_set hp with hp|rfl
  ·exact(h.lp.pr.ds p hp).frT f3 hnD (by simp)
  ·have h1:=(h.lp.pr.ds q (gH hq)).frT f3 hnD (by simp)
   rw[hA.1,hA.2.1,hA.2.2];exact h1
 ·rcases List.mem_or_eq_of_mem_set hp with hp|rfl
  ·exact h.cp.ok h.ok p hp
  ·exact hok
def APS.fld{a:RX}{w v:World}{RB ZB g c' j:Nat}{l:List PX}(h:APS a w v RB ZB g c' j l){W:World}(b:RX)(hf:Fr [RB] v W)(hb:BoxN W RB 39 (b.cl (some ⟨g,0,none⟩) j c'))(h1:b.ps=l/\b.A=some ⟨g,0,none⟩/\b.c=c')(hn:b.nm.owner.length<=140737488355328/\b.nm.text.length<=140737488355328)(he:fu b.nm=.agg #[.int .i64 b.nm.kind,.string b.so,.int .i64 b.nm.number,.int .i64 b.nm.index,.string b.st])(hP:b.P<65536):Ia a w RB ZB W:=by
 obtain⟨rfl,h2,h3⟩:=h1;have hne:=h.ne;have hnT:NoT [53,57] v [RB]:=NoT.box h.rb (by decide);have hp:=(h.lp.frT hf hnT).pr;exact h.fin b hf (by simp;exact λe=>hne.1 e.symm) (λx hx=>by simp at hx;rw[hx];exact hne.2.1) (by rw[h2,h3];exact hb) h.len (qS h.cp λq hq=>⟨q,hq,rfl,rfl⟩) ⟨hn.1,hn.2,he,hP,by rw[h2,h3];exact hp,h.cp.ok h.ok,by rw[h.len];have:=h.j12;omega⟩
def APS.row{a:RX}{w v:World}{RB ZB g c' j:Nat}{l:List PX}(h:APS a w v RB ZB g c' j l){v2 W:World}{A':Option Addr}{N c5:Nat}(l':List PX)(f1:Fr [g] v v2)(f2:Fr [RB] v2 W)(hb:BoxN W RB 39 (a.cl A' N c5))(hN:l'.length=N)(hN13:N<=13)(ho:Own v2 53 4 A' N c5 (l'.flatMap PX.cs))(hm:∀p∈l',p∈l):Ia a w RB ZB W:=by
 have hne:=h.ne;have hnD:NoT [57] v [g]:=NoT.own h.lp.pr.own (by decide);have hnT:NoT [53,57] v2 [RB]:=NoT.box (h.rb.fr f1 (by simp;exact λe=>hne.2.2.1 e.symm)) (by decide);have ff:Fr [g,RB] v W:=(f1.mono (by simp)).trans f2 (by simp);refine h.fin ⟨a.nm,a.so,a.st,a.P,a.n,A',c5,l'⟩ ff (by simp;exact⟨λe=>hne.2.2.2.1 e.symm,λe=>hne.1 e.symm⟩) (λx hx=>by simp at hx;rcases hx with rfl|rfl;exact h.gl;exact hne.2.1) hb hN (qS h.cp λq hq=>⟨q,hm q hq,rfl,rfl⟩) (CU h.ok _ _ _ _ _ h.ok.at_ ⟨by rw[hN];exact ho.frT f2 hnT (by simp),λp hp=>?_⟩ (λp hp=>h.cp.ok h.ok p (hm p hp)) (by rw[hN];exact hN13));exact((h.lp.pr.ds p (hm p hp)).frT f1 hnD (by simp)).frT f2 hnT (by simp)
def rF{a:RX}{w v:World}{RB ZB g c' j:Nat}{l:List PX}(h:APS a w v RB ZB g c' j l){k:Nat}{q:PX}(hq:l[k]?=some q)(s:Nm):vU a ⟨a.nm,a.so,a.st,a.P,a.n,some ⟨g,0,none⟩,c',l.set k ⟨q.i,q.n,s,q.A,q.c,q.d⟩⟩:=.inr (.inr ⟨⟨rfl,rfl,rfl,rfl,rfl,by rw[List.length_set];exact h.cp.1⟩,k,λt p q' hp hq'=>by
 rcases h.cp.set hq _ t p q' hp hq' with⟨h1,h2⟩|⟨h1,rfl,h2⟩
 ·exact⟨h2.i,h2.d,λ_=>h2.s⟩
 ·exact⟨h2.i,h2.d,λh=>absurd h1 h⟩⟩)
def E7(a:RX)(kd ta bb:Nat)(tx:ByteArray)(w:World)(hkd:kd<256)(hta:ta<256)(hbb:bb<256)(ha:a.ok w)(ht:a.tight):
 Calls prog 27 #[.agg #[.int .u8 (kd:Int),.int .u8 (ta:Int),.int .u8 (bb:Int),.string tx],a.v] w (Je a w):=by
 have HA:=Hd (An ha ht);unfold RX.v tw;obtain⟨k1,hk1⟩:=eR (a.nm.kind);obtain⟨o1,ho1⟩:=eR (a.so);obtain⟨u1,hu1⟩:=eR (a.nm.number);obtain⟨i1,hi1⟩:=eR (a.nm.index);obtain⟨t1,ht1⟩:=eR (a.st);obtain⟨P1,hP1⟩:=eR (a.P);obtain⟨n1,hn1⟩:=eR (a.n);obtain⟨A1,hA1⟩:=eR (a.A);obtain⟨m1,hm1⟩:=eR (a.ps.length);obtain⟨c1,hc1⟩:=eR (a.c);rw[hk1,ho1,hu1,hi1,ht1,hP1,hn1,hA1,hm1,hc1];have hm0:0<m1:=hm1 ▸ ht.pos;have hm12:m1<=12:=hm1 ▸ ht.len;have HN:=Hd (An hm1 (An hA1 hc1));have HV:=Hd (An hk1 (An ho1 (An hu1 (An hi1 (An ht1 (An hP1 hn1))))));clear ha ht hk1 ho1 hu1 hi1 ht1 hP1 hn1 hA1 hm1 hc1;obtain⟨w1,hw1,hz1,b1,f1⟩:=ir w #[.int .u8 (kd:Int),.int .u8 (ta:Int),.int .u8 (bb:Int),.string tx] 73 w.heap.size;obtain⟨w2,hw2,hz2,b2,f2⟩:=ir w1 #[.int .i64 k1,.string o1,.int .i64 u1,.int .i64 i1,.string t1,.int .i64 P1,.int .i64 n1,.slice A1 m1 c1] 39 (w.heap.size+1);obtain⟨w3,hw3,hz3,b3,f3⟩:=ir w2 #[.int .i64 0,.string ⟨#[]⟩,.int .i64 0,.int .i64 0,.string ⟨#[]⟩,.int .i64 0,.int .i64 0,.slice none 0 0] 39 (w.heap.size+1+1);have HF:=Hd ((f1.then f2).then f3);have HB:=Hd (An (b1.fr (f2.then f3) (by simp)) (An (b2.fr f3 (by simp)) b3));have HW:=Hd (An hw1 (An hw2 hw3));clear hw1 hw2 hw3 b1 b2 b3 f1 f2 f3 hz1 hz2 hz3
 go_enter func27,ntmps27
 go_upto_region 1 with fail
 rw[HW.out.1,HW.out.2.1,HW.out.2.2];obtain⟨CB,hCB⟩:=eR (w.heap.size);obtain⟨RB,hRB⟩:=eR (CB+1);obtain⟨ZB,hZB⟩:=eR (RB+1);have HB2:=HB.out;rw[hCB,hRB,hZB]at HB2;clear HB;have HB:=Hd (An HB2.1 (An HB2.2 (show (CB≠RB/\CB≠ZB)/\RB≠ZB/\w.heap.size<=RB/\w.heap.size<=ZB by omega)));clear HB2;simp only[hCB,hRB,hZB];clear hCB hRB hZB HW
 go_upto_region 3 with fail
 go_loopw [5,6] (λs i W=>∃(j c':Nat) (A':Option Addr) (l:List PX),j<=m1/\i=.int .i64 (j:Int)/\s=.slice A' j c'/\l.length=j/\LPX W A' c' l/\(∀(t:Nat) (p q:PX),a.ps[t]?=some p->l[t]?=some q->CpP p q)/\(∀q∈eX A',w3.heap.size<=q)/\(∀p∈l,∀q∈eX p.A,w3.heap.size<=q)/\Fr [] w3 W) (λ_ i _=>m1 - (intOf i).toNat)
 case atStart=>exact⟨0,0,none,[],Nat.zero_le _,rfl,rfl,rfl,⟨⟨Own.nil _ _ _,by simp⟩,List.Pairwise.nil⟩,by simp,by simp[eX],by simp,Fq _ _⟩
 case round =>
  obtain⟨j,c',A',l,hj,rfl,rfl,hll,hlr,hcp,hyA,hyl,hfr⟩:=hrel;have hb2:=HB.out.2.1.1.fr hfr (by simp);have x7:=hb2.k7;have HI:=Hd (An hll (An hlr (An hcp (An hyA (An hyl hfr)))));clear hb2 hll hlr hcp hyA hyl hfr
  by_cases htl:j<m1
  ·have hlt:(j:Int)<(m1:Int):=by omega
   have hwj:IntKind.i64.wrap (j:Int)=(j:Int):=by simp only[IntKind.wrap_i64];omega
   have hfw:Fr [] w wr:=HF.out.then HI.out.2.2.2.2.2;have hrow:Row wr wr.heap.size 4 A1 m1 (a.ps.flatMap PX.cs):=by have h:=(HA.out.1.pr.own.fr hfw (by simp)).rd;unfold Rd at h;rw[HN.out.1,HN.out.2.1]at h;exact h
   obtain⟨g,off,rfl,hgl,hcl⟩:=fK (iP) hrow (by omega);obtain⟨p,hpj⟩:∃x,a.ps[j]?=some x:=⟨_,gg (by rw[HN.out.1];exact htl)⟩;have hcx:=hcl j p hpj;have hpok:=HA.out.1.each p (gH hpj);have hpd:=(HA.out.1.pr.ds p (gH hpj)).fr hfw (by simp);have HP:=Hd (An hpj hpok);obtain⟨s,hs,_,_⟩:=eS p.s;obtain⟨pi,hpi⟩:=eR (p.i);obtain⟨pn,hpn⟩:=eR (p.n);obtain⟨PA,hPA⟩:=eR (p.A);obtain⟨pd,hpd1⟩:=eR (p.d.length);obtain⟨pc,hpc⟩:=eR (p.c);unfold PX.cs at hcx;rw[hs,hpi,hpn,hPA,hpd1,hpc]at hcx;rw[hPA,hpd1,hpc]at hpd;have HE:=Hd (An hs (An hpi (An hpn (An hPA (An hpd1 hpc)))));have HPD:=Hd hpd;have z0:wr.cell? ⟨g,off+j*4,none⟩=some (.int .i64 pi):=hcx 0 (by omega);have z1:wr.cell? ⟨g,off+j*4+1,none⟩=some (.int .i64 pn):=hcx 1 (by omega);have z2:wr.cell? ⟨g,off+j*4+2,none⟩=some (.string s):=hcx 2 (by omega);have z3:wr.cell? ⟨g,off+j*4+3,none⟩=some (.slice PA pd pc):=hcx 3 (by omega);obtain⟨w4,hw4,hz4,n4,f4⟩:=ir wr #[.int .i64 pi,.int .i64 pn,.string s,.slice PA pd pc] 53 wr.heap.size;clear hcl hcx hrow hpj hs hpi hpn hpok hPA hpd hpd1 hpc hz4 hgl hfw
   go_upto_region 6 with fail
   try rw[hw4]
   clear z0 z1 z2 z3 x7;obtain⟨QB,hQB⟩:=eR (wr.heap.size);have hQ3:w3.heap.size<=QB:=by rw[<-hQB];exact HI.out.2.2.2.2.2.size
   rw[hQB]at n4 ⊢;have p3:=n4.k3;have HN4:=Hd (An n4 (An f4 (An hQ3 hQB)));have hpd1000:pd<=1000:=by have:=HP.out.2.d;rw[HE.out.2.2.2.2.1]at this;omega
   have HCN:=Hd (CS pd pc PA (p.d.flatMap eO) w4 ((HPD.out.fr f4 (by simp)).rd) (λu hu=>by obtain⟨d,_,hd⟩:=List.mem_flatMap.1 hu;exact gN d u hd) (by omega));clear hw4 n4 f4 hQ3 hQB
   go_upto_region 7 with(go_at_call 73;(with_reducible refine HCN.out.mono ?_);rintro e w5 ⟨A2,c2,rfl,ho5,hf5,hk5⟩;have n5:=HN4.out.1.fr hf5 (by simp);have q3:w5.cell? ⟨QB,3,none⟩=some (.slice PA pd pc):=n5.c 3;have q4:=n5.f 3;have H5:=Hd (An ho5 (An hf5 (An hk5 n5)));clear ho5 hf5 hk5 n5)
   obtain⟨w6,hw6⟩:=eR (w5.setCell ⟨QB,3,none⟩ (.slice A2 pd c2));have n6:=H5.out.2.2.2.setAt 3 (.slice A2 pd c2);have f6:Fr [QB] w5 w6:=by rw[<-hw6];exact(Fq [QB] w5).st _
   rw[hw6]at n6
   try rw[hw6]
   have n6':BoxN w6 QB 53 #[.int .i64 pi,.int .i64 pn,.string s,.slice A2 pd c2]:=n6;obtain⟨r0,r1,r2,r3⟩:=n6'.m4;clear q3 q4 p3 hw6 n6;have hlw:l.length=j:=HI.out.1
   have hA6:∀k∈eX A',k ∉ [QB]:=λk hk hm=>by
    have h1:=HI.out.2.1.pr.own.lt k hk;have h2:=HN4.out.2.2.2;simp at hm;omega
   have h46:Fr [] w4 w5:=H5.out.2.1;have ho6:=((HI.out.2.1.pr.own.fr (HN4.out.2.1.then h46) (by simp)).fr f6 hA6);rw[hlw]at ho6;have HO6:=Hd (An ho6 (An hA6 (An f6 n6')));clear hlw hA6 h46 ho6 f6 n6';obtain⟨ii,hii,iz0,iz1,iz2⟩:=jI
   go_upto_region 4 with(at_builtin;(with_reducible refine fC (w:=w6) rfl (.tmp 26) (.tmp 28) 37 rfl 53 ii _ 4 56 underlying37 hii iz0 iz1 iz2 rfl (by decide) A' j c' (l.flatMap PX.cs) rfl HO6.out.1 1 1 [.int .i64 pi,.int .i64 pn,.string s,.slice A2 pd c2] 53 rfl rfl (by simp[Value.oneCell']) (by unfold maxLen;omega) (by omega) ?_);intro A3 c3 w7 ho7 hf7 hs7;have H7:=Hd (An ho7 (An hf7 hs7));clear ho7 hf7 hs7)
   clear r0 r1 r2 r3 hii iz0 iz1 iz2
   go_wp2_with fail
   go_roundw
   case rel =>
    obtain⟨e1,e2,e3,e4,e5,e6⟩:=HE.out;have hsz:∀q∈l,∀k∈eX q.A,k<wr.heap.size:=λq hq=>(HI.out.2.1.pr.ds q hq).lt;have h4:w4.heap.size ≥ wr.heap.size:=HN4.out.2.1.size;have h3:w3.heap.size<=wr.heap.size:=HI.out.2.2.2.2.2.size;have hqb:=HN4.out.2.2.2;have hnt:NoT [57] w6 (eX A'):=NoT.own HO6.out.1 (by decide);have hnb:NoT [57] w5 [QB]:=NoT.box H5.out.2.2.2 (by decide);have hfr7:Fr [] w3 w7:=(((HI.out.2.2.2.2.2.then HN4.out.2.1).then H5.out.2.1).trans HO6.out.2.2.1 (λk hk=>.inr (by simp at hk;omega))).trans H7.out.2.1 (λk hk=>.inr (HI.out.2.2.2.1 k hk))
    have hpq:∀q∈l++[(⟨p.i,p.n,p.s,A2,c2,p.d⟩:PX)],q∈l \/ q=⟨p.i,p.n,p.s,A2,c2,p.d⟩:=λq hq=>by
     rcases List.mem_append.1 hq with h|h
     ·exact .inl h
     ·exact .inr (by simpa using h)
    refine⟨j+1,c3,A3,l++[⟨p.i,p.n,p.s,A2,c2,p.d⟩],by omega,by go_num,rfl,by rw[gu,HI.out.1];rfl,⟨⟨?_,λq hq=>?_⟩,?_⟩,λt q q' hq hq'=>?_,λk hk=>?_,λq hq k hk=>?_,hfr7⟩
    ·rw[gu,HI.out.1,List.flatMap_append,List.flatMap_singleton,show PX.cs ⟨p.i,p.n,p.s,A2,c2,p.d⟩=[.int .i64 pi,.int .i64 pn,.string s,.slice A2 pd c2]from by unfold PX.cs;rw[e1,e2,e3,e5]]
     exact H7.out.1
    ·rcases hpq q hq with hq|rfl
     ·exact(((((HI.out.2.1.pr.ds q hq).fr HN4.out.2.1 (by simp)).fr H5.out.2.1 (by simp)).frT HO6.out.2.2.1 hnb (by simp)).frT H7.out.2.1 hnt (by simp))
     ·have h:=(H5.out.1.frT HO6.out.2.2.1 hnb (by simp)).frT H7.out.2.1 hnt (by simp)
      rw[<-e5]at h;exact h
    ·rw[List.pairwise_append]
     refine⟨HI.out.2.1.dj,by simp,λq hq q' hq' k hk hm=>?_⟩;obtain rfl:q'=_:=by simpa using hq'
     have h1:=hsz q hq k hk;have h2:=H5.out.2.2.1 k hm;omega
    ·rcases Nat.lt_or_ge t l.length with h|h
     ·rw[List.getElem?_append_left h]at hq'
      exact HI.out.2.2.1 t q q' hq hq'
     ·rw[List.getElem?_append_right h]at hq'
      have h1:t - l.length=0:=by
       have:=(gV.1 hq').1;simp at this;omega
      rw[h1]at hq';simp at hq';have h2:t=j:=by have:=HI.out.1;omega
      rw[h2,HP.out.1]at hq
      injection hq with hq
      subst hq hq';exact⟨rfl,rfl,rfl,rfl⟩
    ·rcases H7.out.2.2 k hk with h|h
     ·exact HI.out.2.2.2.1 k h
     ·have h5:=H5.out.2.1.size
      have h6:=HO6.out.2.2.1.size;omega
    ·rcases hpq q hq with hq|rfl
     ·exact HI.out.2.2.2.2.1 q hq k hk
     ·have h2:=H5.out.2.2.1 k hk
      omega
   case measure=>simp[intOf];omega
  ·obtain rfl:j=m1:=by omega
   go_upto_region 8 with fail
   clear x7;have hcpl:CpL a.ps l:=⟨by rw[HI.out.1,HN.out.1],HI.out.2.2.1⟩;have hlr:=HI.out.2.1;have hown:=hlr.pr.own;rw[HI.out.1]at hown;obtain⟨g,rfl⟩:=CW hown hm0;have hb2:=HB.out.2.1.1.fr HI.out.2.2.2.2.2 (by simp);obtain⟨v,hv⟩:=eR (wr.setCell ⟨RB,7,none⟩ (.slice (some ⟨g,0,none⟩) j c'));have b8:BoxN v RB 39 #[.int .i64 k1,.string o1,.int .i64 u1,.int .i64 i1,.string t1,.int .i64 P1,.int .i64 n1,.slice (some ⟨g,0,none⟩) j c']:=by rw[<-hv];exact hb2.setAt 7 _
   have f8:Fr [RB] wr v:=by rw[<-hv];exact(Fq [RB] wr).st _
   have x7:=hb2.k7;have y7:=hb2.f 7
   go_upto_region 9 with fail
   try rw[hv]
   clear x7 y7;obtain⟨rfl,rfl,rfl,rfl,rfl,rfl,rfl⟩:=HV.out;have hnb:NoT [53,57] wr [RB]:=NoT.box hb2 (by decide);have hwv:Fr [] w v:=(HF.out.then HI.out.2.2.2.2.2).trans f8 (λk hk=>.inr (by simp at hk;rw[hk];exact HB.out.2.2.2.2.1));have hCR:=HB.out.2.2;have b1:=(HB.out.1.fr HI.out.2.2.2.2.2 (by simp)).fr f8 (by simp;omega);have b3:=(HB.out.2.1.2.fr HI.out.2.2.2.2.2 (by simp)).fr f8 (by simp;omega);have hlv:=hlr.frT f8 hnb;have hgR:NoT [39] v [g]:=NoT.own hlv.pr.own (by decide);have HS:=Hd (show APS a w v RB ZB g c' j l from⟨HA.out.1,hlv,hcpl,HI.out.1,hm12,Nat.le_trans HF.out.size (HI.out.2.2.2.1 g (by simp[eX])),λq hq k hk=>Nat.le_trans HF.out.size (HI.out.2.2.2.2.1 q hq k hk),hwv,b8,b3,HB.out.2.2.2.1,HB.out.2.2.2.2.1,λe=>by subst e;exact hgR _ (by simp) _ _ _ b8 (by simp),λe=>by subst e;exact hgR _ (by simp) _ _ _ b3 (by simp),HB.out.2.2.2.2.2⟩);have HCB:=Hd b1;clear hCR HV HI HB HF hnb hwv b1 b8 b3 f8 hb2 hown hlr hlv hgR hcpl hv;obtain⟨y0,y1,y2,y3⟩:=HCB.out.m4;obtain⟨k,hk⟩:=eR (ta % j);have hkj:k<j:=by rw[<-hk];exact Nat.mod_lt _ hm0
   have e1:((ta:Int)).tmod (j:Int)=(k:Int):=by rw[Int.tmod_eq_emod_of_nonneg (by omega),<-hk];rfl
   have e2:((ta:Int)) % (j:Int)=(k:Int):=by rw[<-hk];rfl
   have e3:((j:Int)=0)=False:=eq_false (by omega);have e3':¬((j:Int)=0):=by omega
   have e4:IntKind.i64.wrap (ta:Int)=(ta:Int):=by simp only[IntKind.wrap_i64];omega
   have e5:IntKind.i64.wrap (k:Int)=(k:Int):=by simp only[IntKind.wrap_i64];omega
   obtain⟨kk,hkk⟩:=eR (kd % 10);have hk10:kk<10:=by omega
   have e6:((kd:Int)).tmod 10=(kk:Int):=by rw[Int.tmod_eq_emod_of_nonneg (by omega),<-hkk];rfl
   have e7:((kd:Int)) % 10=(kk:Int):=by rw[<-hkk];rfl
   have e8:IntKind.u8.wrap (kk:Int)=(kk:Int):=by simp[IntKind.wrap,IntKind.bits,IntKind.signed];omega
   obtain⟨q,hq⟩:∃y,l[k]?=some y:=⟨_,gg (by rw[HS.out.len];exact hkj)⟩;have ha:=HS.out.lp.pr.own;rw[HS.out.len]at ha;obtain⟨p0,hp0⟩:∃y,a.ps[k]?=some y:=⟨_,gg (by rw[<-HS.out.cp.1,HS.out.len];exact hkj)⟩;have hcq:=HS.out.cp.2 k p0 q hp0 hq;have hpt:=HA.out.2.each p0 (gH hp0);obtain⟨gb,hgb,hcsg⟩:=Cs.of_own ha (by omega)
   injection hgb with hgb
   injection hgb with hgb
   subst hgb;have ec:=λo (ho:o<4)=>ia iP hq ho;unfold PX.cs at ec;obtain⟨s,hs,zU,_⟩:=eS q.s;rw[hs]at ec;have z0:v.cell? ⟨g,k*4,none⟩=some (.int .i64 q.i):=hcsg.2 _ _ (ec 0 (by omega));have z1:v.cell? ⟨g,k*4+1,none⟩=some (.int .i64 q.n):=hcsg.2 _ _ (ec 1 (by omega));have z2:v.cell? ⟨g,k*4+2,none⟩=some (.string s):=hcsg.2 _ _ (ec 2 (by omega));have z3:v.cell? ⟨g,k*4+3,none⟩=some (.slice q.A q.d.length q.c):=hcsg.2 _ _ (ec 3 (by omega));have hgl:g<v.heap.size:=hcsg.1;obtain⟨L0,hL0,_⟩:=ha.rowL;have g0:=hL0.free (k*4);have g1:=hL0.free (k*4+1);have g2:=hL0.free (k*4+2);have HQ:=Hd (An hq (An (hcq.ok (HS.out.ok.each p0 (gH hp0))) (An zU (show (0<=q.i/\q.i<=12)/\q.n<=12 from hcq.i ▸ hcq.n ▸ hpt))));have HG:=Hd ha;clear hL0 hq ha hp0 hcq hpt hcsg ec hs zU
   go_upto_block 2 with fail
   go_cut [34,44]from 56 (λ_ _ W=>Ia a w RB ZB W)
   case first =>
    rcases (by omega:kk=0 \/ kk=1 \/ kk=2 \/ kk=3 \/ kk=4 \/ kk=5 \/ kk=6 \/ kk=7 \/ kk=8 \/ kk=9)with rfl|rfl|rfl|rfl|rfl|rfl|rfl|rfl|rfl|rfl
    ·have HDL:=Hd (CA v g c' j k _ HG.out (zG l) hkj (by omega))
     have e9:IntKind.i64.wrap ((k:Int)+1)=(k:Int)+1:=by simp only[IntKind.wrap_i64];omega
     clear z0 z1 z2 z3 g0 g1 g2
     go_wp2_with (go_at_call 74;(with_reducible refine HDL.out.mono ?_);rintro e v2 ⟨rfl,ho2,hf2⟩;have b2:=HS.out.rb.fr hf2 (by simp;exact λe=>HS.out.ne.2.2.1 e.symm);have p7:v2.cell? ⟨RB,7,none⟩=some (.slice (some ⟨g,0,none⟩) j c'):=b2.c 7;have p8:=b2.f 7;have H2:=Hd (An ho2 (An hf2 b2));clear ho2 hf2 b2)
     go_meet
     have ho3:=H2.out.1;rw[rC,rD,<-List.flatMap_append,<-List.eraseIdx_eq_take_drop_succ]at ho3;exact HS.out.row (l.eraseIdx k) H2.out.2.1 ((Fq [RB] _).st _) (H2.out.2.2.setAt 7 _) (by rw[List.length_eraseIdx,HS.out.len,if_pos hkj]) (by omega) (ho3.fr ((Fq [] _)) (by simp)) (λp hp=>List.mem_of_mem_eraseIdx hp)
    ·have e10:IntKind.i64.wrap (bb:Int)=(bb:Int):=by simp only[IntKind.wrap_i64];omega
     have e11:IntKind.i64.wrap ((bb:Int) - 3)=(bb:Int) - 3:=by simp only[IntKind.wrap_i64];omega
     obtain⟨q2,hq2⟩:=eR (q.i+((bb:Int) - 3));have hqr:=HQ.out.2.2.2;have e12:IntKind.i64.wrap (q.i+((bb:Int) - 3))=q2:=by rw[<-hq2];simp only[IntKind.wrap_i64];omega
     have HQ2:=Hd (show -1000<=q2/\q2<=1000 by omega);have HSS:=Hd (λ(W:World) (hW:Fr [] v W)=>(show W.cell? ⟨g,k*4,none⟩=some (.int .i64 q.i)/\W.cell? ⟨CB,2,none⟩=some (.int .u8 (bb:Int))from⟨(hW.cell (p:=⟨g,k*4,none⟩) hgl (by simp)).trans z0,(hW.cell (p:=⟨CB,2,none⟩) HCB.out.lt (by simp)).trans y2⟩));clear hq2 hqr
     go_upto_region 17 with fail
     have hC:Fr [] v v.drew:=(Fq [] v).drew;refine eU (λW:World=>Fr [] v W) 10 (by kernel_rfl) ?_ (by decide)
     show fc 0 ..
     iterate 10 (refine gJ rfl ?_;try simp only[qq])
     refine eV ⟨by kernel_rfl,?_⟩;simp only[qG,qH];have z0':v.drew.cell? ⟨g,k*4,none⟩=some (.int .i64 q.i):=z0;have g0':v.drew.frozen? ⟨g,k*4,none⟩=false:=g0
     go_wp2_with fail
     go_meet
     have hok:=HQ.out.2.1
     exact HS.out.set (o:=0) (q':=⟨q2,q.n,q.s,q.A,q.c,q.d⟩) (.int .i64 q2) (Fq [] v) (Fq [] _).drew HQ.out.1 (by omega) rfl ⟨rfl,rfl,rfl⟩ ⟨HQ2.out,hok.n,hok.s,hok.d,hok.e⟩ (.inr (.inl ⟨by rw[List.length_set];exact HS.out.cp.1,k,λt p q' hp hq'=>by
      rcases HS.out.cp.set HQ.out.1 _ t p q' hp hq' with⟨h1,h2⟩|⟨h1,rfl,h2⟩
      ·exact⟨h2.s,λ_=>h2.i⟩
      ·exact⟨h2.s,λh=>absurd h1 h⟩⟩))
    ·have hqd0:=HQ.out.2.1.d
     have hop:=HS.out.lp.pr.ds q (gH HQ.out.1);obtain⟨qd,hqd⟩:=eR (q.d.length);rw[hqd]at hqd0 hop z3;obtain⟨gp,hgp,hcp⟩:=Cs.of_own hop hqd0.1;rw[hgp]at hop z3;obtain⟨i0,hi0⟩:=eR (bb % qd);have hi0s:i0<qd:=by rw[<-hi0];exact Nat.mod_lt _ hqd0.1
     have d0:(0:Int)<(qd:Int):=by omega
     have d1:((bb:Int)).tmod (qd:Int)=(i0:Int):=by rw[Int.tmod_eq_emod_of_nonneg (by omega),<-hi0];rfl
     have d2:((bb:Int)) % (qd:Int)=(i0:Int):=by rw[<-hi0];rfl
     have d3:¬((qd:Int)=0):=by omega
     have d3':¬(qd=0):=by omega
     have d4:IntKind.i64.wrap (bb:Int)=(bb:Int):=by simp only[IntKind.wrap_i64];omega
     have d5:IntKind.i64.wrap (i0:Int)=(i0:Int):=by simp only[IntKind.wrap_i64];omega
     obtain⟨r0,hr0⟩:=eR (bb % 255);have hr255:r0<255:=by omega
     have d6:((bb:Int)).tmod 255=(r0:Int):=by rw[Int.tmod_eq_emod_of_nonneg (by omega),<-hr0];rfl
     have d7:((bb:Int)) % 255=(r0:Int):=by rw[<-hr0];rfl
     have d8:IntKind.u8.wrap (r0:Int)=(r0:Int):=by simp[IntKind.wrap,IntKind.bits,IntKind.signed];omega
     have d9:IntKind.u8.wrap (1+(r0:Int))=1+(r0:Int):=by simp[IntKind.wrap,IntKind.bits,IntKind.signed];omega
     obtain⟨e,he⟩:∃y,q.d[i0]?=some y:=⟨_,gg (by rw[hqd];exact hi0s)⟩;have he32:=HQ.out.2.1.e e (gH he);obtain⟨x0,hx0⟩:=eR ((e.getD 3 0).toNat);have zc:v.cell? ⟨gp,i0*32+3,none⟩=some (.int .u8 (x0:Int)):=hcp.2 _ _ ((kn HQ.out.2.1.e he (by omega)).trans (by rw[gO (by omega),hx0]));obtain⟨L1,hL1,_⟩:=hop.rowL;have zf:v.drew.frozen? ⟨gp,i0*32+3,none⟩=false:=hL1.free _;have zc':v.drew.cell? ⟨gp,i0*32+3,none⟩=some (.int .u8 (x0:Int)):=zc;have hgpl:gp<v.heap.size:=hcp.1;have hnP:NoT [53,39] v [gp]:=NoT.own hop (by decide);have hgf:w.heap.size<=gp:=HS.out.ql q (gH HQ.out.1) gp (by rw[hgp];simp[eX]);have HSS:=Hd (λ(W:World) (hW:Fr [] v W)=>(show W.cell? ⟨CB,2,none⟩=some (.int .u8 (bb:Int))/\W.cell? ⟨g,k*4+3,none⟩=some (.slice (some ⟨gp,0,none⟩) qd q.c)/\W.cell? ⟨gp,i0*32+3,none⟩=some (.int .u8 (x0:Int))from⟨(hW.cell (p:=⟨CB,2,none⟩) HCB.out.lt (by simp)).trans y2,(hW.cell (p:=⟨g,k*4+3,none⟩) hgl (by simp)).trans z3,(hW.cell (p:=⟨gp,i0*32+3,none⟩) hgpl (by simp)).trans zc⟩));have HOP:=Hd (An hop (An hgp (An hi0s (An he (An he32 (An hnP (An hgf hqd)))))));clear hL1 hcp hop hgp he he32 hx0 hnP hgf hqd
     go_upto_region 20 with fail
     have hC:Fr [] v v.drew:=(Fq [] v).drew;refine eU (λW:World=>Fr [] v W) 24 (by kernel_rfl) ?_ (by decide)
     show fc 0 ..
     iterate 24 (refine gJ rfl ?_;try simp only[qq])
     refine eV ⟨by kernel_rfl,?_⟩;simp only[qG,qH]
     go_wp2_with fail
     go_meet
     obtain⟨y,hy⟩:=CV (x0:Int) (1+(r0:Int));rw[hy];have hop3:=HOP.out.1.setAt (i:=i0*32+3) (.int .u8 (y.toNat:Int)) (by rw[HOP.out.1.1];have:=HOP.out.2.2.1;omega);rw[rE q.d i0 3 e y HQ.out.2.1.e HOP.out.2.2.2.1 (by omega)]at hop3;have f3:Fr [gp] v (v.setCell ⟨gp,i0*32+3,none⟩ (.int .u8 (y.toNat:Int))).drew:=((Fq [gp] v).st _).drew;obtain⟨v3,hv3⟩:=eR ((v.setCell ⟨gp,i0*32+3,none⟩ (.int .u8 (y.toNat:Int))).drew);have hop4:Own v3 57 32 (some ⟨gp,0,none⟩) qd q.c ((q.d.set i0 (e.set 3 y)).flatMap eO):=by rw[<-hv3];exact hop3
     rw[hv3]at f3 ⊢;obtain⟨_,hgp,hi0s,he,he32,hnP,hgf,hqd⟩:=HOP.out;obtain⟨q',hq'⟩:=eR ((⟨q.i,q.n,q.s,q.A,q.c,q.d.set i0 (e.set 3 y)⟩:PX));have mm:q.i=q'.i/\q.s=q'.s:=by rw[<-hq'];exact⟨rfl,rfl⟩
     have mm7:q'.cs=q.cs:=by rw[<-hq'];unfold PX.cs;rw[List.length_set]
     have hqk:=HQ.out.2.1
     have hok:q'.ok:=by
      rw[<-hq']
      exact⟨hqk.i,hqk.n,hqk.s,by rw[List.length_set];exact hqk.d,λx hx=>by
       rcases List.mem_or_eq_of_mem_set hx with h|rfl
       ·exact hqk.e x h
       ·rw[List.length_set];exact he32⟩
     have ho3:=HG.out.frT f3 hnP (by simp);rw[<-vW l k q q' HQ.out.1 mm7]at ho3;have hln:(l.set k q').length=j:=by rw[List.length_set];exact HS.out.len
     refine HS.out.fin ⟨a.nm,a.so,a.st,a.P,a.n,some ⟨g,0,none⟩,c',l.set k q'⟩ f3 (λhm=>hnP ZB hm _ _ _ HS.out.zb (by simp)) (λx hx=>by simp at hx;rw[hx];exact hgf) (HS.out.rb.frT f3 hnP (by simp)) hln (qS HS.out.cp (zI HQ.out.1 mm)) (CU HS.out.ok _ _ _ _ _ HS.out.ok.at_ ⟨by rw[hln];exact ho3,λp hp=>?_⟩ (λp hp=>?_) (by rw[hln];omega))
     ·obtain⟨t,ht,rfl⟩:=List.getElem_of_mem hp
      have hpt:=gg ht
      by_cases htk:t=k
      ·subst htk
       rw[List.getElem?_set_self (gV.1 HQ.out.1).1]at hpt
       injection hpt with hpt
       rw[<-hpt,<-hq',List.length_set,hgp,hqd];exact hop4
      ·rw[List.getElem?_set_ne (λh=>htk h.symm)]at hpt
       have hap:=HS.out.lp.apart hpt HQ.out.1 htk;rw[hgp]at hap;exact(HS.out.lp.pr.ds _ (gH hpt)).fr f3 (λx hx hx2=>hap x hx (by simp at hx2;simp[eX,hx2]))
     ·rcases List.mem_or_eq_of_mem_set hp with hp|rfl
      ·exact HS.out.cp.ok HS.out.ok p hp
      ·exact hok
    ·have hsl:s.size<=2000000:=by
      have h1:=HQ.out.2.1.s;have h2:=HQ.out.2.2.1;rw[<-h2,<-iS]at h1;exact h1
     have hcv:=Lib.run_convert_string_bytes v 9 49 5 s underlying9 underlying49 underlying5;obtain⟨cap,hcap⟩:=eR (grownCap v s.size 0 5);have f2:Fr [] v (Lib.bytesWorld v 5 s):=⟨rfl,rfl,rfl,by rw[Lib.bytesWorld_size];omega,λk hk _=>Lib.bytesWorld_at_old v _ s k hk⟩;obtain⟨ss,hss⟩:=eR (s.size);have hc2:∀i,i<ss->(Lib.bytesWorld v 5 s).cell? ⟨v.heap.size,i,none⟩=some (.int .u8 (((s.data.toList.getD i 0).toNat:Nat):Int)):=λi hi=>Lib.bytesWorld_cell v _ s i (by omega)
     have hz2:∀i,i<ss->(Lib.bytesWorld v 5 s).frozen? ⟨v.heap.size,i,none⟩=false:=λi hi=>by
      have h1:=Lib.bytesWorld_at_new v 5 s;have h2:=hc2 i hi;simp only[World.cell?,h1]at h2
      have h3:i<(Lib.bytesCells v 5 s).size:=by
       rcases Nat.lt_or_ge i (Lib.bytesCells v 5 s).size with h|h
       ·exact h
       ·rw[Array.getElem?_eq_none h]at h2
        cases h2
      simp only[World.frozen?,h1];simp;omega
     obtain⟨v2,hv2⟩:=eR (Lib.bytesWorld v 5 s);obtain⟨B,hB⟩:=eR (v.heap.size);rw[hcap,hss,hv2,hB]at hcv;rw[hv2]at f2 hc2 hz2;rw[hB]at hc2 hz2;have hBl:B<v2.heap.size:=by rw[<-hB,<-hv2,Lib.bytesWorld_size];omega
     have HB2:=Hd (An f2 (An hc2 (An hz2 (An hB (An hss hBl)))));have HSL:=Hd hsl;clear hcap f2 hc2 hz2 hv2 hB hsl hBl
     go_upto_region 23 with fail
     by_cases h0:ss=0
     ·subst h0
      go_wp2_with fail
      go_meet
      have hf2:Fr [RB] v v2:=HB2.out.1.mono (by simp);exact HS.out.fld ⟨a.nm,a.so,a.st,a.P,a.n,some ⟨g,0,none⟩,c',l⟩ hf2 (HS.out.rb.fr HB2.out.1 (by simp)) ⟨rfl,rfl,rfl⟩ ⟨HS.out.ok.no,HS.out.ok.nt⟩ HS.out.ok.en HS.out.ok.at_
     ·have Fi:(0:Int)<(ss:Int):=by omega
      obtain⟨i0,hi0⟩:=eR (bb % ss);have hi0s:i0<ss:=by rw[<-hi0];exact Nat.mod_lt _ (by omega)
      have d1:((bb:Int)).tmod (ss:Int)=(i0:Int):=by rw[Int.tmod_eq_emod_of_nonneg (by omega),<-hi0];rfl
      have d2:((bb:Int)) % (ss:Int)=(i0:Int):=by rw[<-hi0];rfl
      have d3:¬((ss:Int)=0):=by omega
      have d4:IntKind.i64.wrap (bb:Int)=(bb:Int):=by simp only[IntKind.wrap_i64];omega
      have d5:IntKind.i64.wrap (i0:Int)=(i0:Int):=by have:=HSL.out;have:=HB2.out.2.2.2.2.1;simp only[IntKind.wrap_i64];omega
      obtain⟨r0,hr0⟩:=eR (ta % 255);have hr255:r0<255:=by omega
      have d6:((ta:Int)).tmod 255=(r0:Int):=by rw[Int.tmod_eq_emod_of_nonneg (by omega),<-hr0];rfl
      have d7:((ta:Int)) % 255=(r0:Int):=by rw[<-hr0];rfl
      have d8:IntKind.u8.wrap (r0:Int)=(r0:Int):=by simp[IntKind.wrap,IntKind.bits,IntKind.signed];omega
      have d9:IntKind.u8.wrap (1+(r0:Int))=1+(r0:Int):=by simp[IntKind.wrap,IntKind.bits,IntKind.signed];omega
      obtain⟨x0,hx0⟩:=eR ((s.data.toList.getD i0 0).toNat);have zc:=HB2.out.2.1 i0 hi0s;have zf:v2.drew.frozen? ⟨B,i0,none⟩=false:=HB2.out.2.2.1 i0 hi0s;rw[hx0]at zc;have zc':v2.drew.cell? ⟨B,i0,none⟩=some (.int .u8 (x0:Int)):=zc;have hBl:=HB2.out.2.2.2.2.2;have HSS:=Hd (λ(W:World) (hW:Fr [] v2 W)=>(show W.cell? ⟨CB,2,none⟩=some (.int .u8 (bb:Int))/\W.cell? ⟨CB,1,none⟩=some (.int .u8 (ta:Int))/\W.cell? ⟨B,i0,none⟩=some (.int .u8 (x0:Int))from⟨((HB2.out.1.then hW).cell (p:=⟨CB,2,none⟩) HCB.out.lt (by simp)).trans y2,((HB2.out.1.then hW).cell (p:=⟨CB,1,none⟩) HCB.out.lt (by simp)).trans y1,(hW.cell (p:=⟨B,i0,none⟩) hBl (by simp)).trans zc⟩));clear hcv hBl
      go_upto_region 24 with fail
      have hC:Fr [] v2 v2.drew:=(Fq [] v2).drew;refine eU (λW:World=>Fr [] v2 W) 14 (by kernel_rfl) ?_ (by decide)
      show fc 0 ..
      iterate 14 (refine gJ rfl ?_;try simp only[qq])
      refine eV ⟨by kernel_rfl,?_⟩;simp only[qG,qH]
      go_upto_region 25 with fail
      obtain⟨y,hy⟩:=CV (x0:Int) (1+(r0:Int));rw[hy];obtain⟨X,hX⟩:=eR ((v2.setCell ⟨B,i0,none⟩ (.int .u8 (y.toNat:Int))).drew);have hll:s.data.toList.length=ss:=by rw[<-iS];exact HB2.out.2.2.2.2.1
      have hrw:Row X X.heap.size 1 (some ⟨B,0,none⟩) ss (eO (s.data.toList.set i0 y)):=by rw[<-hX];exact E6 hll HB2.out.2.2.2.2.2 HB2.out.2.1 hi0s y
      have hcs:=eZ hrw 49 5 underlying49 underlying5 9 underlying9 cap;obtain⟨sb,hsb,hsb1,_⟩:=eS (s.data.toList.set i0 y)
      have hfX:Fr [] v X:=by
       rw[<-hX];exact(HB2.out.1.trans ((Fq [B] v2).st _) (λx hx=>.inr (by simp at hx;have:=HB2.out.2.2.2.1;omega))).drew
      rw[hsb]at hcs;have HBB:=Hd (show sb.data.toList.length<=2000000 by rw[hsb1,List.length_set,hll,<-HB2.out.2.2.2.2.1];exact HSL.out);have HXX:=Hd hfX;have z2':X.cell? ⟨g,k*4+2,none⟩=some (.string s):=(hfX.cell (p:=⟨g,k*4+2,none⟩) hgl (by simp)).trans z2;have g2':X.frozen? ⟨g,k*4+2,none⟩=false:=(hfX.frozen (p:=⟨g,k*4+2,none⟩) hgl (by simp)).trans g2;rw[hX];clear hX hll hrw hsb hsb1 hfX hy zc zc' zf d1 d2 d3 d4 d5 d6 d7 d8 d9 Fi
      go_wp2_with fail
      go_meet
      have hok:=HQ.out.2.1;exact HS.out.set (o:=2) (q':=⟨q.i,q.n,sb.data.toList,q.A,q.c,q.d⟩) (.string sb) HXX.out (Fq [] _) HQ.out.1 (by omega) (by unfold PX.cs;rw[uA];rfl) ⟨rfl,rfl,rfl⟩ ⟨hok.i,hok.n,HBB.out,hok.d,hok.e⟩ (rF HS.out HQ.out.1 _)
    ·have e10:IntKind.i64.wrap (bb:Int)=(bb:Int):=by simp only[IntKind.wrap_i64];omega
     have e11:IntKind.i64.wrap ((bb:Int) - 3)=(bb:Int) - 3:=by simp only[IntKind.wrap_i64];omega
     have p5:=HS.out.rb.k5;have p6:=HS.out.rb.f 5
     go_wp2_with fail
     go_meet
     exact HS.out.fld ⟨a.nm,a.so,a.st,(bb:Int) - 3,a.n,some ⟨g,0,none⟩,c',l⟩ ((Fq [RB] v).st _) (HS.out.rb.setAt 5 _) ⟨rfl,rfl,rfl⟩ ⟨HS.out.ok.no,HS.out.ok.nt⟩ HS.out.ok.en (by simp only;omega)
    ·obtain⟨b7,hb7⟩:=eR (bb % 7)
     have hb77:b7<7:=by omega
     have ea:((bb:Int)).tmod 7=(b7:Int):=by rw[Int.tmod_eq_emod_of_nonneg (by omega),<-hb7];rfl
     have eb:((bb:Int)) % 7=(b7:Int):=by rw[<-hb7];rfl
     have ec:IntKind.u8.wrap (b7:Int)=(b7:Int):=by simp[IntKind.wrap,IntKind.bits,IntKind.signed];omega
     have e10:IntKind.i64.wrap (b7:Int)=(b7:Int):=by simp only[IntKind.wrap_i64];omega
     have hpo:=λW=>sR (b7:Int) W;unfold zW at hpo;have HPO:=Hd hpo;clear hpo hb7
     go_wp2_with (go_at_call 35;(with_reducible refine(HPO.out _).mono ?_);rintro e v2 ⟨rfl,hf2⟩;have b2:=HS.out.rb.fr hf2 (by simp);have H2:=Hd (An hf2 b2);have p0:v2.cell? ⟨RB,0,none⟩=some (.int .i64 a.nm.kind):=b2.c 0;have pp0:=b2.f 0;have p1:v2.cell? ⟨RB,1,none⟩=some (.string a.so):=b2.c 1;have pp1:=b2.f 1;have p2:v2.cell? ⟨RB,2,none⟩=some (.int .i64 a.nm.number):=b2.c 2;have pp2:=b2.f 2;have p3:v2.cell? ⟨RB,3,none⟩=some (.int .i64 a.nm.index):=b2.c 3;have pp3:=b2.f 3;have p4:v2.cell? ⟨RB,4,none⟩=some (.string a.st):=b2.c 4;have pp4:=b2.f 4;clear hf2 b2)
     go_meet
     have hm:∀p:Nat,(⟨RB,p,none⟩:Addr).block∈[RB]:=λp=>by simp
     exact HS.out.fld ⟨⟨16,[],(b7:Int),0,[]⟩,⟨#[]⟩,⟨#[]⟩,a.P,a.n,some ⟨g,0,none⟩,c',l⟩ ((H2.out.1.mono (by simp)).then ((((((Fq [RB] v2).set (.inl (hm 0)) _).set (.inl (hm 1)) _).set (.inl (hm 2)) _).set (.inl (hm 3)) _).set (.inl (hm 4)) _)) (((((H2.out.2.setAt 0 _).setAt 1 _).setAt 2 _).setAt 3 _).setAt 4 _) ⟨rfl,rfl,rfl⟩ ⟨by simp,by simp⟩ rfl HS.out.ok.at_
    ·have e10:IntKind.i64.wrap (bb:Int)=(bb:Int):=by simp only[IntKind.wrap_i64];omega
     have e11:IntKind.i64.wrap ((bb:Int) - 3)=(bb:Int) - 3:=by simp only[IntKind.wrap_i64];omega
     have p5:=HS.out.rb.k6;have p6:=HS.out.rb.f 6;obtain⟨n2,hn2⟩:=eR (IntKind.i64.wrap (a.n+((bb:Int) - 3)))
     go_wp2_with fail
     go_meet
     exact HS.out.fld ⟨a.nm,a.so,a.st,a.P,n2,some ⟨g,0,none⟩,c',l⟩ ((Fq [RB] v).st _) (HS.out.rb.setAt 6 _) ⟨rfl,rfl,rfl⟩ ⟨HS.out.ok.no,HS.out.ok.nt⟩ HS.out.ok.en HS.out.ok.at_
    ·have hqr:=HQ.out.2.2.2
     have hqn:=HQ.out.2.1.n;have e9:IntKind.i64.wrap (q.n+1)=q.n+1:=by simp only[IntKind.wrap_i64];omega
     clear hqr hqn
     go_wp2_with fail
     go_meet
     have hok:=HQ.out.2.1;have hqr:=HQ.out.2.2.2;exact HS.out.set (o:=1) (q':=⟨q.i,q.n+1,q.s,q.A,q.c,q.d⟩) (.int .i64 (q.n+1)) (Fq [] v) (Fq [] _) HQ.out.1 (by omega) rfl ⟨rfl,rfl,rfl⟩ ⟨hok.i,by have:=hok.n;simp only;omega,hok.s,hok.d,hok.e⟩ (qS HS.out.cp (zI HQ.out.1 ⟨rfl,rfl⟩))
    ·obtain⟨k2,hk2⟩:=eR (bb % j)
     have hkj2:k2<j:=by rw[<-hk2];exact Nat.mod_lt _ hm0
     have d1:((bb:Int)).tmod (j:Int)=(k2:Int):=by rw[Int.tmod_eq_emod_of_nonneg (by omega),<-hk2];rfl
     have d2:((bb:Int)) % (j:Int)=(k2:Int):=by rw[<-hk2];rfl
     have d4:IntKind.i64.wrap (bb:Int)=(bb:Int):=by simp only[IntKind.wrap_i64];omega
     have d5:IntKind.i64.wrap (k2:Int)=(k2:Int):=by simp only[IntKind.wrap_i64];omega
     clear z0 z1 z2 z3 g0 g1 g2;obtain⟨q,hq⟩:∃y,l[k2]?=some y:=⟨_,gg (by rw[HS.out.len];exact hkj2)⟩;have ha:=HG.out;obtain⟨gb,hgb,hcsg⟩:=Cs.of_own ha (by omega)
     injection hgb with hgb
     injection hgb with hgb
     subst hgb;have ec:=λo (ho:o<4)=>ia iP hq ho;unfold PX.cs at ec;obtain⟨s,hs,_,_⟩:=eS q.s;rw[hs]at ec;have z0:v.cell? ⟨g,k2*4,none⟩=some (.int .i64 q.i):=hcsg.2 _ _ (ec 0 (by omega));have z1:v.cell? ⟨g,k2*4+1,none⟩=some (.int .i64 q.n):=hcsg.2 _ _ (ec 1 (by omega));have z2:v.cell? ⟨g,k2*4+2,none⟩=some (.string s):=hcsg.2 _ _ (ec 2 (by omega));have z3:v.cell? ⟨g,k2*4+3,none⟩=some (.slice q.A q.d.length q.c):=hcsg.2 _ _ (ec 3 (by omega));have f4:Fr [] v (v.alloc (.cells #[.int .i64 q.i,.int .i64 q.n,.string s,.slice q.A q.d.length q.c] 53)):=(Fq [] v).alloc _;have ha4:=ha.fr f4 (by simp);have hrl:RowL (v.alloc (.cells #[.int .i64 q.i,.int .i64 q.n,.string s,.slice q.A q.d.length q.c] 53)) v.heap.size 53 [.int .i64 q.i,.int .i64 q.n,.string s,.slice q.A q.d.length q.c]:=heap_alloc_new _ _;have hIN:=CT _ g c' j k v.heap.size _ _ ha4 (zG l) hrl rfl (by intro u hu;simp only[List.mem_cons,List.not_mem_nil,or_false]at hu;rcases hu with rfl|rfl|rfl|rfl <;> rfl) (by have:=hcsg.1;omega) hkj (by omega);have HIN:=Hd hIN;have HRB:=Hd (An (HS.out.rb.fr f4 (by simp)) (An f4 (An hq hs)));clear hIN ha ha4 hrl f4 hcsg ec hq hs
     go_wp2_with (go_at_call 75;(with_reducible refine HIN.out.mono ?_);rintro e v5 ⟨A5,c5,rfl,ho5,hf5⟩;have b5:=HRB.out.1.fr hf5 (by simp;exact λe=>HS.out.ne.2.2.1 e.symm);have p7:v5.cell? ⟨RB,7,none⟩=some (.slice (some ⟨g,0,none⟩) j c'):=b5.c 7;have p8:=b5.f 7;have H5:=Hd (An ho5 (An hf5 b5));clear ho5 hf5 b5)
     go_meet
     have hmem:∀p∈l.take k++[q]++l.drop k,p∈l:=λp hp=>by
      rcases List.mem_append.1 hp with hp|hp
      ·rcases List.mem_append.1 hp with hp|hp
       ·exact List.mem_of_mem_take hp
       ·rw[ip.1 hp]
        exact gH HRB.out.2.2.1
      ·exact List.mem_of_mem_drop hp
     have ho3:=H5.out.1;rw[rC,rD,show ([.int .i64 q.i,.int .i64 q.n,.string s,.slice q.A q.d.length q.c]:List Value)=[q].flatMap PX.cs from by rw[List.flatMap_singleton];unfold PX.cs;rw[HRB.out.2.2.2],<-List.flatMap_append,<-List.flatMap_append]at ho3;exact HS.out.row _ ((HRB.out.2.1.mono (by simp)).then H5.out.2.1) ((Fq [RB] _).st _) (H5.out.2.2.setAt 7 _) (by rw[gu,gu,List.length_take,List.length_drop,HS.out.len,List.length_singleton];omega) (by omega) ho3 hmem
    ·obtain⟨ts,hts⟩:=eR (tx.size)
     by_cases h100:ts<=100
     ·have h1:min (ts:Int) 100=(ts:Int):=by omega
      have h2:(ts:Int)<=100:=by omega
      have h3:¬((100:Int)<(ts:Int)):=by omega
      go_wp2_with fail
      go_meet
      obtain⟨b,hb⟩:=eR (tx.extract 0 ts);have HBB:=Hd (show b.data.toList.length<=2000000 by rw[<-iS,<-hb,ByteArray.size_extract];omega);rw[hb];have hok:=HQ.out.2.1;exact HS.out.set (o:=2) (q':=⟨q.i,q.n,b.data.toList,q.A,q.c,q.d⟩) (.string b) (Fq [] v) (Fq [] _) HQ.out.1 (by omega) (by unfold PX.cs;rw[uA];rfl) ⟨rfl,rfl,rfl⟩ ⟨hok.i,hok.n,HBB.out,hok.d,hok.e⟩ (rF HS.out HQ.out.1 _)
     ·have h1:min (ts:Int) 100=100:=by omega
      have h2:¬((ts:Int)<=100):=by omega
      have h3:(100:Int)<(ts:Int):=by omega
      have h4:(100:Int)<=(ts:Int):=by omega
      have h5:100<=ts:=by omega
      go_wp2_with fail
      go_meet
      obtain⟨b,hb⟩:=eR (tx.extract 0 100);have HBB:=Hd (show b.data.toList.length<=2000000 by rw[<-iS,<-hb,ByteArray.size_extract];omega);rw[hb];have hok:=HQ.out.2.1;exact HS.out.set (o:=2) (q':=⟨q.i,q.n,b.data.toList,q.A,q.c,q.d⟩) (.string b) (Fq [] v) (Fq [] _) HQ.out.1 (by omega) (by unfold PX.cs;rw[uA];rfl) ⟨rfl,rfl,rfl⟩ ⟨hok.i,hok.n,HBB.out,hok.d,hok.e⟩ (rF HS.out HQ.out.1 _)
   obtain⟨b,happ,hbok,hbx,hbz,hbf⟩:=hcut;obtain⟨bN,hbN⟩:=eR (b.ps.length);unfold RX.cl at hbx;rw[hbN]at hbx;have HBZ:=Hd (An hbx hbz);have HBB:=Hd (An happ (An hbok (An hbf hbN)));clear happ hbok hbx hbz hbf hbN z0 z1 z2 z3 g0 g1 g2 y0 y1 y2 y3;obtain⟨r0,r1,r2,r3,r4,r5,r6,r7⟩:=HBZ.out.1.m8;obtain⟨z0,z1,z2,z3,z4,z5,z6,z7⟩:=HBZ.out.2.m8;have vv0:=HBZ.out.2.f 0;have vv1:=HBZ.out.2.f 1;have vv2:=HBZ.out.2.f 2;have vv3:=HBZ.out.2.f 3;have vv4:=HBZ.out.2.f 4;have vv5:=HBZ.out.2.f 5;have vv6:=HBZ.out.2.f 6;have vv7:=HBZ.out.2.f 7
   go_wp2_with fail
   obtain⟨wE,hW2,nE,fE⟩:=Jz (wc) (ZB) HBZ.out.2 (.int .i64 b.nm.kind) (.string b.so) (.int .i64 b.nm.number) (.int .i64 b.nm.index) (.string b.st) (.int .i64 b.P) (.int .i64 b.n) (.slice b.A bN b.c);rw[hW2];clear hW2;obtain⟨tt0,tt1,tt2,tt3,tt4,tt5,tt6,tt7⟩:=nE.m8
   try simp only[Exit.inBlock,Exit.then]
   refine bodyPost_ret (v:=.agg #[.int .i64 b.nm.kind,.string b.so,.int .i64 b.nm.number,.int .i64 b.nm.index,.string b.st,.int .i64 b.P,.int .i64 b.n,.slice b.A bN b.c]) (by simp[results,results27,go_sem,tt0,tt1,tt2,tt3,tt4,tt5,tt6,tt7]) rfl ?_;exact⟨b,by unfold RX.v tw;rw[HBB.out.2.2.2],HBB.out.2.1.frT fE (NoT.box HBZ.out.2 (by decide)),HBB.out.1,HBB.out.2.2.1.trans fE (λx hx=>.inr (by simp at hx;rw[hx];exact HS.out.ne.2.2.2.2))⟩
end Go.Proofs.YtlpmiimgacfmkaaGreatDoor
