/- state: balance of any trees. -/
import Derived.Test.YtlpmiimgacfmkaaGreatDoorMGd
set_option linter.all false
namespace Go.Proofs.YtlpmiimgacfmkaaGreatDoor
open Go.Proofs.Tryz
open Go.RowKit
set_option maxRecDepth 100000
set_option maxHeartbeats 8000000
def TT (w:World) (p:Option Addr) (ns:List ON) (h:Int):Prop:=∃ t:TG,p=t.adr/\TGat w t/\t.wf/\t.ns=ns/\t.h=h
def Mid (w:World) (m:Nat) (n:ON) (v:Nm):Prop:=(∃ ml mr mh ms my,BoxN w m 191 (nodeG ml mr n v mh ms my))/\checkO n=0/\v.length<=65536
theorem TG.cnt_ns:∀ t:TG,t.ns.length=t.cnt
 | .nil=>rfl
 | .node _ l _ _ _ _ _ r=>by rw[TG.ns,TG.cnt,lla,List.length_cons,TG.cnt_ns l,TG.cnt_ns r];omega
section
variable {w w':World} {p:Option Addr} {ns:List ON} {h:Int} {m:Nat} {n:ON} {v:Nm}
theorem TT.fr0 (hT:TT w p ns h) (hf:Fr [] w w'):TT w' p ns h:=by
 obtain⟨t,h1,h2,h3⟩:=hT;exact⟨t,h1,h2.fr0 hf,h3⟩
theorem Mid.fr0 (hM:Mid w m n v) (hf:Fr [] w w'):Mid w' m n v:=by
 obtain⟨⟨a,b,c,d,e,h⟩,h2⟩:=hM;exact⟨⟨a,b,c,d,e,h.fr hf (by simp)⟩,h2⟩
theorem TT.h0 (hT:TT w p ns h):0<=h/\h<=(ns.length:Int):=by
 obtain⟨t,_,_,h3,h4,h5⟩:=hT;have:=h3.nums;rw[<-h4,<-h5,TG.cnt_ns];exact⟨this.1,this.2.1⟩
theorem TT.isNone (hT:TT w none ns h):ns=[]/\h=0:=by
 obtain⟨t,h1,_,_,h4,h5⟩:=hT
 cases t with
 | nil=>exact⟨h4.symm,h5.symm⟩
 | node=>cases h1
theorem TT.nil (w:World):TT w none [] 0:=⟨.nil,rfl,trivial,trivial,rfl,rfl⟩
def TN (w:World) (b:Nat) (ns:List ON) (lp rp:Option Addr) (n:ON) (v:Nm) (h1 h2:Int) (ns1 ns2:List ON):Prop :=
 ns=ns1++n::ns2/\TT w lp ns1 h1/\TT w rp ns2 h2/\(∃ mh ms my,BoxN w b 191 (nodeG (.pointer lp) (.pointer rp) n v mh ms my))/\checkO n=0/\v.length<=65536
theorem TT.some {b:Addr} (hT:TT w (some b) ns h):∃ b' lp rp n v h1 h2 ns1 ns2,b=⟨b',0,none⟩/\TN w b' ns lp rp n v h1 h2 ns1 ns2:=by
 obtain⟨t,h1,h2,h3,h4,h5⟩:=hT
 cases t with
 | nil=>cases h1
 | node b l n v h s y r =>
  cases h1
  exact⟨b,l.adr,r.adr,n,v,l.h,r.h,l.ns,r.ns,rfl,h4.symm,⟨l,rfl,h2.2.1,h3.1.1,rfl,rfl⟩,⟨r,rfl,h2.2.2,h3.1.2,rfl,rfl⟩,⟨_,_,_,h2.1⟩,h3.2.2.2.2⟩
theorem TT.pos (hT:TT w p ns h) (h0:0<h):∃ b' lp rp n v h1 h2 ns1 ns2,p=Option.some ⟨b',0,Option.none⟩/\TN w b' ns lp rp n v h1 h2 ns1 ns2:=by
 cases p with
 | none=>have:=hT.isNone.2;omega
 | some b=>obtain⟨b',lp,rp,n,v,h1,h2,ns1,ns2,rfl,h⟩:=hT.some;exact⟨b',lp,rp,n,v,h1,h2,ns1,ns2,rfl,h⟩
theorem TN.mid {b:Nat} {lp rp:Option Addr} {h1 h2:Int} {ns1 ns2:List ON} (hN:TN w b ns lp rp n v h1 h2 ns1 ns2):Mid w b n v:=by
 obtain⟨_,_,_,⟨a,c,d,h⟩,h3⟩:=hN;exact⟨⟨_,_,a,c,d,h⟩,h3⟩
end
def TPost (w:World) (ns:List ON) (e:Ending) (w':World):Prop:=∃ p h,e=.returned (.pointer p)/\TT w' p ns h/\Fr [] w w'
theorem heightOf_t (p:Option Addr) (ns:List ON) (h:Int) (w:World) (hT:TT w p ns h):Calls prog 278 #[.pointer p] w fun e w'=>e=.returned (.int .i64 h)/\w=w':=by
 obtain⟨t,rfl,h2,h3,h4,rfl⟩:=hT;exact (heightOf_g t w h2).mono fun e w' h=>⟨h.1,h.2.symm⟩
theorem join_t (lp rp:Option Addr) (ns1 ns2:List ON) (h1 h2:Int) (m:Nat) (n:ON) (v:Nm) (w:World) (hl:TT w lp ns1 h1) (hm:Mid w m n v) (hr:TT w rp ns2 h2) (hc:ns1.length+ns2.length<=100000) :
 Calls prog 268 #[.pointer lp,.pointer (some ⟨m,0,none⟩),.pointer rp] w (TPost w (ns1++n::ns2)):=by
 obtain⟨l,rfl,l2,l3,rfl,rfl⟩:=hl;obtain⟨r,rfl,r2,r3,rfl,rfl⟩:=hr;obtain⟨⟨ml,mr,mh,ms,my,hm⟩,hn,hv⟩:=hm;rw[TG.cnt_ns,TG.cnt_ns] at hc;refine (join_g l r m ml mr n mh ms my v w l2 r2 hm l3 r3 hc hv).mono ?_;rintro e w' ⟨b,rfl,_,h,hf⟩;refine⟨some ⟨b,0,none⟩,_,rfl,⟨_,rfl,h,?_,rfl,rfl⟩,hf⟩;obtain⟨sl1,sl2,sl3,sl4,sl5⟩:=l3.nums;obtain⟨sr1,sr2,sr3,sr4,sr5⟩:=r3.nums;refine⟨⟨l3,r3⟩,?_,?_,?_,hn,hv⟩
 ·unfold mx TG.cnt;split <;> omega
 ·unfold TG.cnt;omega
 ·unfold TG.cnt;omega
theorem bal_A (b:Nat) (rp lp1 rp1:Option Addr) (ns1 ns2 nsa nsb:List ON) (h1 h2 ha hb:Int) (n1:ON) (v1:Nm) (m:Nat) (n:ON) (v:Nm) (w:World) (hl:TT w (some ⟨b,0,none⟩) ns1 h1) (hN:TN w b ns1 lp1 rp1 n1 v1 ha hb nsa nsb) (hm:Mid w m n v) (hr:TT w rp ns2 h2) (hc:ns1.length+ns2.length<100000) (hd:1<h1 - h2) :
 Calls prog 267 #[.pointer (some ⟨b,0,none⟩),.pointer (some ⟨m,0,none⟩),.pointer rp] w (TPost w (ns1++n::ns2)):=by
 have HHL:=Hd (heightOf_t _ ns1 h1 w hl);have HHR:=Hd (heightOf_t _ ns2 h2 w hr);have x1:=hl.h0;have x2:=hr.h0;have e0:IntKind.i64.wrap (h1 - h2)=h1 - h2:=by simp only[IntKind.wrap_i64];omega
 have g1:decide (1<h1 - h2)=true:=by simp;omega
 clear hd x1 x2 hl;obtain⟨rfl,hta,htb,hbx,hn1,hv1⟩:=hN;have hN:TN w b (nsa++n1::nsb) lp1 rp1 n1 v1 ha hb nsa nsb:=⟨rfl,hta,htb,hbx,hn1,hv1⟩;have HA:=Hd (fun (W:World) (hW:Fr [] w W)=>heightOf_t _ nsa ha W (hta.fr0 hW));have HB:=Hd (fun (W:World) (hW:Fr [] w W)=>heightOf_t _ nsb hb W (htb.fr0 hW));have hcc:(nsa.length+1+nsb.length)+ns2.length<100000:=by rw[lla,List.length_cons] at hc;omega
 have HSS:=Hd (fun (W:World) (hW:Fr [] w W)=>(show W.cell? ⟨b,0,none⟩=some (.pointer lp1)/\W.cell? ⟨b,1,none⟩=some (.pointer rp1) from by
  obtain⟨_,_,_,⟨_,_,_,h⟩,_⟩:=hN;have h:=h.fr hW (by simp);exact⟨h.c 0,h.c 1⟩))
 have hJ0:∀ (W:World),Fr [] w W->Calls prog 268 #[.pointer rp1,.pointer (some ⟨m,0,none⟩),.pointer rp] W (TPost W (nsb++n::ns2)):=fun W hW=>join_t _ _ nsb ns2 hb h2 m n v W (htb.fr0 hW) (hm.fr0 hW) (hr.fr0 hW) (by omega);have HJ0:=Hd hJ0;have hJ1:∀ (W:World),Fr [] w W->∀ q h,TT W q (nsb++n::ns2) h->Calls prog 268 #[.pointer lp1,.pointer (some ⟨b,0,none⟩),.pointer q] W (TPost W (nsa++n1::(nsb++n::ns2))):=fun W hW q h hq=>join_t _ _ nsa _ ha h b n1 v1 W (hta.fr0 hW) (hN.mid.fr0 hW) hq (by simp only[lla,List.length_cons];omega);have HJ1:=Hd hJ1;have HN:=Hd (An hN (An hm (An hr hcc)));clear hJ0 hJ1 hm hr hN hta htb hbx hn1 hv1 hcc hc
 go_enter func267,ntmps267
 go_upto_region 2 with (first
  | (go_at_call 278;(with_reducible refine HHL.out.mono ?_);rintro e w' ⟨rfl,rfl⟩)
  | (go_at_call 278;(with_reducible refine HHR.out.mono ?_);rintro e w' ⟨rfl,rfl⟩))
 by_cases hg:hb<=ha
 ·have g2:decide (hb<=ha)=true:=by simp;omega
  refine wp_region_qall (fun W=>Fr [] w W) (by kernel_rfl) (by kernel_rfl) ((Fq [] w).drew) ?_
  repeat (
   first
   | go_big_quiet_skip
   | (go_big_quiet_want
      first
      | (go_big_quiet_op
         go_big_quiet_on)
      | (apply Exists.intro
         refine⟨fun W hW=>?_,?_⟩
         ·(obtain⟨z0,z1⟩:=HSS.out W hW
           go_simp
           first
           | done
           | (with_reducible exact rfl)
           | (with_reducible exact⟨rfl,rfl⟩)
           | (first | (go_at_call 278;first | with_reducible exact (HA.out W hW).mono (fun e w' h=>⟨h.1,by rw[<-h.2];exact hW⟩) | with_reducible exact (HB.out W hW).mono (fun e w' h=>⟨h.1,by rw[<-h.2];exact hW⟩))))
         simp only[Act.put,qA,qB,qC]
         go_big_quiet_on))
   )
  refine wpQuiet_nil ?_;intro W1 hW1
  go_upto_region 3 with fail
  go_region_held3 (fun W=>W.cell? ⟨b,0,none⟩=some (.pointer lp1)/\W.cell? ⟨b,1,none⟩=some (.pointer rp1)) (((with_reducible refine HSS.out _ ?_;(repeat (first | exact Fq _ _ | with_reducible assumption | refine Fr.drew ?_ | refine Fr.alloc ?_ _ | refine Fr.then ?_ (Fr.undrew (by with_reducible assumption))));done))) (first
   | (go_at_call 268;(with_reducible refine (HJ0.out _ hW1.drew).mono ?_);rintro e w5 ⟨q5,h5,rfl,ht5,hf5⟩;have hk5:=hW1.then hf5.undrew;have H5:=Hd (An ht5 hf5);clear ht5 hf5)
   | (go_at_call 268;(with_reducible refine (HJ1.out _ hk5 _ _ H5.out.1).mono ?_);rintro e w6 ⟨q6,h6,rfl,ht6,hf6⟩;have hk6:=hk5.then hf6;have H6:=Hd ht6;clear ht6))
  go_wp2_with fail
  go_ret
  refine⟨_,h6,rfl,?_,hk6⟩;rw[List.append_assoc,List.cons_append];exact H6.out
 ·have g2:decide (hb<=ha)=false:=by simp;omega
  have hb0:0<hb:=by have:=HN.out.1.2.1.h0;omega
  obtain⟨b2,lp2,rp2,n2,v2,hc2,hd2,nsc,nsd,rfl,hN2⟩:=HN.out.1.2.2.1.pos hb0;have hN3:=hN2;obtain⟨rfl,htc,htd,hbx2,_⟩:=hN2;have hlen:=HN.out.2.2.2;rw[lla,List.length_cons] at hlen
  have HS2:=Hd (fun (W:World) (hW:Fr [] w W)=>(show (W.cell? ⟨b,0,none⟩=some (.pointer lp1)/\W.cell? ⟨b,1,none⟩=some (.pointer (some ⟨b2,0,none⟩)))/\W.cell? ⟨b2,0,none⟩=some (.pointer lp2)/\W.cell? ⟨b2,1,none⟩=some (.pointer rp2) from by
   refine⟨HSS.out W hW,?_⟩;obtain⟨_,_,_,h⟩:=hbx2;have h:=h.fr hW (by simp);exact⟨h.c 0,h.c 1⟩))
  have hJ2:∀ (W:World),Fr [] w W->Calls prog 268 #[.pointer lp1,.pointer (some ⟨b,0,none⟩),.pointer lp2] W (TPost W (nsa++n1::nsc)):=fun W hW=>join_t _ _ nsa nsc ha hc2 b n1 v1 W (HN.out.1.2.1.fr0 hW) (HN.out.1.mid.fr0 hW) (htc.fr0 hW) (by omega);have HJ2:=Hd hJ2;have hJ3:∀ (W:World),Fr [] w W->Calls prog 268 #[.pointer rp2,.pointer (some ⟨m,0,none⟩),.pointer rp] W (TPost W (nsd++n::ns2)):=fun W hW=>join_t _ _ nsd ns2 hd2 h2 m n v W (htd.fr0 hW) (HN.out.2.1.fr0 hW) (HN.out.2.2.1.fr0 hW) (by omega);have HJ3:=Hd hJ3;have hJ4:∀ (W:World),Fr [] w W->∀ p q h k,TT W p (nsa++n1::nsc) h->TT W q (nsd++n::ns2) k->Calls prog 268 #[.pointer p,.pointer (some ⟨b2,0,none⟩),.pointer q] W (TPost W ((nsa++n1::nsc)++n2::(nsd++n::ns2))):=fun W hW p q h k hp hq=>join_t _ _ _ _ h k b2 n2 v2 W hp (hN3.mid.fr0 hW) hq (by simp only[lla,List.length_cons];omega);have HJ4:=Hd hJ4;clear hJ2 hJ3 hJ4 hN3 htc htd hbx2 hb0 hlen;refine wp_region_qall (fun W=>Fr [] w W) (by kernel_rfl) (by kernel_rfl) ((Fq [] w).drew) ?_
  repeat (
   first
   | go_big_quiet_skip
   | (go_big_quiet_want
      first
      | (go_big_quiet_op
         go_big_quiet_on)
      | (apply Exists.intro
         refine⟨fun W hW=>?_,?_⟩
         ·(obtain⟨z0,z1⟩:=HSS.out W hW
           go_simp
           first
           | done
           | (with_reducible exact rfl)
           | (with_reducible exact⟨rfl,rfl⟩)
           | (first | (go_at_call 278;first | with_reducible exact (HA.out W hW).mono (fun e w' h=>⟨h.1,by rw[<-h.2];exact hW⟩) | with_reducible exact (HB.out W hW).mono (fun e w' h=>⟨h.1,by rw[<-h.2];exact hW⟩))))
         simp only[Act.put,qA,qB,qC]
         go_big_quiet_on))
   )
  refine wpQuiet_nil ?_;intro W1 hW1;obtain⟨⟨y0,y1⟩,y2,y3⟩:=HS2.out W1 hW1
  go_upto_region 6 with fail
  clear y0 y1 y2 y3
  go_region_held3 (fun W=>(W.cell? ⟨b,0,none⟩=some (.pointer lp1)/\W.cell? ⟨b,1,none⟩=some (.pointer (some ⟨b2,0,none⟩)))/\W.cell? ⟨b2,0,none⟩=some (.pointer lp2)/\W.cell? ⟨b2,1,none⟩=some (.pointer rp2)) (((with_reducible refine HS2.out _ ?_;(repeat (first | exact Fq _ _ | with_reducible assumption | refine Fr.drew ?_ | refine Fr.alloc ?_ _ | refine Fr.then ?_ (Fr.undrew (by with_reducible assumption))));done))) (first
   | (go_at_call 268;(with_reducible refine (HJ2.out _ hW1.drew).mono ?_);rintro e w5 ⟨q5,h5,rfl,ht5,hf5⟩;have hk5:=hW1.then hf5.undrew;have H5:=Hd ht5;clear ht5)
   | (go_at_call 268;(with_reducible refine (HJ3.out _ hk5).mono ?_);rintro e w6 ⟨q6,h6,rfl,ht6,hf6⟩;have hk6:=hk5.then hf6;have H6:=Hd (An (H5.out.fr0 hf6) ht6);clear ht6)
   | (go_at_call 268;(with_reducible refine (HJ4.out _ hk6 _ _ _ _ H6.out.1 H6.out.2).mono ?_);rintro e w7 ⟨q7,h7,rfl,ht7,hf7⟩;have hk7:=hk6.then hf7;have H7:=Hd ht7;clear ht7))
  go_wp2_with fail
  go_ret
  refine⟨_,h7,rfl,?_,hk7⟩;have h:=H7.out;simp only[List.append_assoc,List.cons_append] at h ⊢;exact h
theorem bal_B (b:Nat) (lp lp1 rp1:Option Addr) (ns1 ns2 nsa nsb:List ON) (h1 h2 ha hb:Int) (n1:ON) (v1:Nm) (m:Nat) (n:ON) (v:Nm) (w:World) (hl:TT w lp ns1 h1) (hN:TN w b ns2 lp1 rp1 n1 v1 ha hb nsa nsb) (hm:Mid w m n v) (hr:TT w (some ⟨b,0,none⟩) ns2 h2) (hc:ns1.length+ns2.length<100000) (hd:h1 - h2 < -1) :
 Calls prog 267 #[.pointer lp,.pointer (some ⟨m,0,none⟩),.pointer (some ⟨b,0,none⟩)] w (TPost w (ns1++n::ns2)):=by
 have HHL:=Hd (heightOf_t _ ns1 h1 w hl);have HHR:=Hd (heightOf_t _ ns2 h2 w hr);have x1:=hl.h0;have x2:=hr.h0;have e0:IntKind.i64.wrap (h1 - h2)=h1 - h2:=by simp only[IntKind.wrap_i64];omega
 have g0:decide (1<h1 - h2)=false:=by simp;omega
 have g1:decide (h1 - h2 < -1)=true:=by simp;omega
 clear hd x1 x2 hr;obtain⟨rfl,hta,htb,hbx,hn1,hv1⟩:=hN;have hN:TN w b (nsa++n1::nsb) lp1 rp1 n1 v1 ha hb nsa nsb:=⟨rfl,hta,htb,hbx,hn1,hv1⟩;have HA:=Hd (fun (W:World) (hW:Fr [] w W)=>heightOf_t _ nsa ha W (hta.fr0 hW));have HB:=Hd (fun (W:World) (hW:Fr [] w W)=>heightOf_t _ nsb hb W (htb.fr0 hW));have hcc:ns1.length+(nsa.length+1+nsb.length)<100000:=by rw[lla,List.length_cons] at hc;omega
 have HSS:=Hd (fun (W:World) (hW:Fr [] w W)=>(show W.cell? ⟨b,0,none⟩=some (.pointer lp1)/\W.cell? ⟨b,1,none⟩=some (.pointer rp1) from by
  obtain⟨_,_,_,⟨_,_,_,h⟩,_⟩:=hN;have h:=h.fr hW (by simp);exact⟨h.c 0,h.c 1⟩))
 have hJ0:∀ (W:World),Fr [] w W->Calls prog 268 #[.pointer lp,.pointer (some ⟨m,0,none⟩),.pointer lp1] W (TPost W (ns1++n::nsa)):=fun W hW=>join_t _ _ ns1 nsa h1 ha m n v W (hl.fr0 hW) (hm.fr0 hW) (hta.fr0 hW) (by omega);have HJ0:=Hd hJ0;have hJ1:∀ (W:World),Fr [] w W->∀ q h,TT W q (ns1++n::nsa) h->Calls prog 268 #[.pointer q,.pointer (some ⟨b,0,none⟩),.pointer rp1] W (TPost W ((ns1++n::nsa)++n1::nsb)):=fun W hW q h hq=>join_t _ _ _ nsb h hb b n1 v1 W hq (hN.mid.fr0 hW) (htb.fr0 hW) (by simp only[lla,List.length_cons];omega);have HJ1:=Hd hJ1;have HN:=Hd (An hN (An hm (An hl hcc)));clear hJ0 hJ1 hm hl hN hta htb hbx hn1 hv1 hcc hc
 go_enter func267,ntmps267
 go_upto_region 2 with (first
  | (go_at_call 278;(with_reducible refine HHL.out.mono ?_);rintro e w' ⟨rfl,rfl⟩)
  | (go_at_call 278;(with_reducible refine HHR.out.mono ?_);rintro e w' ⟨rfl,rfl⟩))
 refine wp_region_qall (fun W=>Fr [] w W) (by kernel_rfl) (by kernel_rfl) ((Fq [] w).drew) ?_
 repeat (
  first
  | go_big_quiet_skip
  | (go_big_quiet_want
     first
     | (go_big_quiet_op
        go_big_quiet_on)
     | (apply Exists.intro
        refine⟨fun W hW=>?_,?_⟩
        ·(obtain⟨z0,z1⟩:=HSS.out W hW
          go_simp
          first
          | done
          | (with_reducible exact rfl)
          | (with_reducible exact⟨rfl,rfl⟩)
          | (fail))
        simp only[Act.put,qA,qB,qC]
        go_big_quiet_on))
  )
 refine wpQuiet_nil ?_;intro W0 hW0
 go_upto_region 7 with fail
 by_cases hg:ha<=hb
 ·have g2:decide (ha<=hb)=true:=by simp;omega
  refine wp_region_qall (fun W=>Fr [] w W) (by kernel_rfl) (by kernel_rfl) (hW0.drew) ?_
  repeat (
   first
   | go_big_quiet_skip
   | (go_big_quiet_want
      first
      | (go_big_quiet_op
         go_big_quiet_on)
      | (apply Exists.intro
         refine⟨fun W hW=>?_,?_⟩
         ·(obtain⟨z0,z1⟩:=HSS.out W hW
           go_simp
           first
           | done
           | (with_reducible exact rfl)
           | (with_reducible exact⟨rfl,rfl⟩)
           | (first | (go_at_call 278;first | with_reducible exact (HA.out W hW).mono (fun e w' h=>⟨h.1,by rw[<-h.2];exact hW⟩) | with_reducible exact (HB.out W hW).mono (fun e w' h=>⟨h.1,by rw[<-h.2];exact hW⟩))))
         simp only[Act.put,qA,qB,qC]
         go_big_quiet_on))
   )
  refine wpQuiet_nil ?_;intro W1 hW1
  go_upto_region 8 with fail
  go_region_held3 (fun W=>W.cell? ⟨b,0,none⟩=some (.pointer lp1)/\W.cell? ⟨b,1,none⟩=some (.pointer rp1)) (((with_reducible refine HSS.out _ ?_;(repeat (first | exact Fq _ _ | with_reducible assumption | refine Fr.drew ?_ | refine Fr.alloc ?_ _ | refine Fr.then ?_ (Fr.undrew (by with_reducible assumption))));done))) (first
   | (go_at_call 268;(with_reducible refine (HJ0.out _ hW1.drew).mono ?_);rintro e w5 ⟨q5,h5,rfl,ht5,hf5⟩;have hk5:=hW1.then hf5.undrew;have H5:=Hd (An ht5 hf5);clear ht5 hf5)
   | (go_at_call 268;(with_reducible refine (HJ1.out _ hk5 _ _ H5.out.1).mono ?_);rintro e w6 ⟨q6,h6,rfl,ht6,hf6⟩;have hk6:=hk5.then hf6;have H6:=Hd ht6;clear ht6))
  go_wp2_with fail
  go_ret
  refine⟨_,h6,rfl,?_,hk6⟩;have h:=H6.out;simp only[List.append_assoc,List.cons_append] at h ⊢;exact h
 ·have g2:decide (ha<=hb)=false:=by simp;omega
  have hb0:0<ha:=by have:=HN.out.1.2.2.1.h0;omega
  obtain⟨b2,lp2,rp2,n2,v2,hc2,hd2,nsc,nsd,rfl,hN2⟩:=HN.out.1.2.1.pos hb0;have hN3:=hN2;obtain⟨rfl,htc,htd,hbx2,_⟩:=hN2;have hlen:=HN.out.2.2.2;rw[lla,List.length_cons] at hlen
  have HS2:=Hd (fun (W:World) (hW:Fr [] w W)=>(show (W.cell? ⟨b,0,none⟩=some (.pointer (some ⟨b2,0,none⟩))/\W.cell? ⟨b,1,none⟩=some (.pointer rp1))/\W.cell? ⟨b2,0,none⟩=some (.pointer lp2)/\W.cell? ⟨b2,1,none⟩=some (.pointer rp2) from by
   refine⟨HSS.out W hW,?_⟩;obtain⟨_,_,_,h⟩:=hbx2;have h:=h.fr hW (by simp);exact⟨h.c 0,h.c 1⟩))
  have hJ2:∀ (W:World),Fr [] w W->Calls prog 268 #[.pointer lp,.pointer (some ⟨m,0,none⟩),.pointer lp2] W (TPost W (ns1++n::nsc)):=fun W hW=>join_t _ _ ns1 nsc h1 hc2 m n v W (HN.out.2.2.1.fr0 hW) (HN.out.2.1.fr0 hW) (htc.fr0 hW) (by omega);have HJ2:=Hd hJ2;have hJ3:∀ (W:World),Fr [] w W->Calls prog 268 #[.pointer rp2,.pointer (some ⟨b,0,none⟩),.pointer rp1] W (TPost W (nsd++n1::nsb)):=fun W hW=>join_t _ _ nsd nsb hd2 hb b n1 v1 W (htd.fr0 hW) (HN.out.1.mid.fr0 hW) (HN.out.1.2.2.1.fr0 hW) (by omega);have HJ3:=Hd hJ3;have hJ4:∀ (W:World),Fr [] w W->∀ p q h k,TT W p (ns1++n::nsc) h->TT W q (nsd++n1::nsb) k->Calls prog 268 #[.pointer p,.pointer (some ⟨b2,0,none⟩),.pointer q] W (TPost W ((ns1++n::nsc)++n2::(nsd++n1::nsb))):=fun W hW p q h k hp hq=>join_t _ _ _ _ h k b2 n2 v2 W hp (hN3.mid.fr0 hW) hq (by simp only[lla,List.length_cons];omega);have HJ4:=Hd hJ4;clear hJ2 hJ3 hJ4 hN3 htc htd hbx2 hb0 hlen;refine wp_region_qall (fun W=>Fr [] w W) (by kernel_rfl) (by kernel_rfl) (hW0.drew) ?_
  repeat (
   first
   | go_big_quiet_skip
   | (go_big_quiet_want
      first
      | (go_big_quiet_op
         go_big_quiet_on)
      | (apply Exists.intro
         refine⟨fun W hW=>?_,?_⟩
         ·(obtain⟨z0,z1⟩:=HSS.out W hW
           go_simp
           first
           | done
           | (with_reducible exact rfl)
           | (with_reducible exact⟨rfl,rfl⟩)
           | (first | (go_at_call 278;first | with_reducible exact (HA.out W hW).mono (fun e w' h=>⟨h.1,by rw[<-h.2];exact hW⟩) | with_reducible exact (HB.out W hW).mono (fun e w' h=>⟨h.1,by rw[<-h.2];exact hW⟩))))
         simp only[Act.put,qA,qB,qC]
         go_big_quiet_on))
   )
  refine wpQuiet_nil ?_;intro W1 hW1;obtain⟨⟨y0,y1⟩,y2,y3⟩:=HS2.out W1 hW1
  go_upto_region 11 with fail
  clear y0 y1 y2 y3
  go_region_held3 (fun W=>(W.cell? ⟨b,0,none⟩=some (.pointer (some ⟨b2,0,none⟩))/\W.cell? ⟨b,1,none⟩=some (.pointer rp1))/\W.cell? ⟨b2,0,none⟩=some (.pointer lp2)/\W.cell? ⟨b2,1,none⟩=some (.pointer rp2)) (((with_reducible refine HS2.out _ ?_;(repeat (first | exact Fq _ _ | with_reducible assumption | refine Fr.drew ?_ | refine Fr.alloc ?_ _ | refine Fr.then ?_ (Fr.undrew (by with_reducible assumption))));done))) (first
   | (go_at_call 268;(with_reducible refine (HJ2.out _ hW1.drew).mono ?_);rintro e w5 ⟨q5,h5,rfl,ht5,hf5⟩;have hk5:=hW1.then hf5.undrew;have H5:=Hd ht5;clear ht5)
   | (go_at_call 268;(with_reducible refine (HJ3.out _ hk5).mono ?_);rintro e w6 ⟨q6,h6,rfl,ht6,hf6⟩;have hk6:=hk5.then hf6;have H6:=Hd (An (H5.out.fr0 hf6) ht6);clear ht6)
   | (go_at_call 268;(with_reducible refine (HJ4.out _ hk6 _ _ _ _ H6.out.1 H6.out.2).mono ?_);rintro e w7 ⟨q7,h7,rfl,ht7,hf7⟩;have hk7:=hk6.then hf7;have H7:=Hd ht7;clear ht7))
  go_wp2_with fail
  go_ret
  refine⟨_,h7,rfl,?_,hk7⟩;have h:=H7.out;simp only[List.append_assoc,List.cons_append] at h ⊢;exact h
theorem bal_C (lp rp:Option Addr) (ns1 ns2:List ON) (h1 h2:Int) (m:Nat) (n:ON) (v:Nm) (w:World) (hl:TT w lp ns1 h1) (hm:Mid w m n v) (hr:TT w rp ns2 h2) (hc:ns1.length+ns2.length<100000) (hd1:h1 - h2<=1) (hd2:-1<=h1 - h2) :
 Calls prog 267 #[.pointer lp,.pointer (some ⟨m,0,none⟩),.pointer rp] w (TPost w (ns1++n::ns2)):=by
 have HHL:=Hd (heightOf_t _ ns1 h1 w hl);have HHR:=Hd (heightOf_t _ ns2 h2 w hr);have x1:=hl.h0;have x2:=hr.h0;have e0:IntKind.i64.wrap (h1 - h2)=h1 - h2:=by simp only[IntKind.wrap_i64];omega
 have g0:decide (1<h1 - h2)=false:=by simp;omega
 have g1:decide (h1 - h2 < -1)=false:=by simp;omega
 have hJ0:∀ (W:World),Fr [] w W->Calls prog 268 #[.pointer lp,.pointer (some ⟨m,0,none⟩),.pointer rp] W (TPost W (ns1++n::ns2)):=fun W hW=>join_t _ _ ns1 ns2 h1 h2 m n v W (hl.fr0 hW) (hm.fr0 hW) (hr.fr0 hW) (by omega);have HJ0:=Hd hJ0;clear hJ0 hl hm hr hc hd1 hd2 x1 x2
 go_enter func267,ntmps267
 go_upto_region 2 with (first
  | (go_at_call 278;(with_reducible refine HHL.out.mono ?_);rintro e w' ⟨rfl,rfl⟩)
  | (go_at_call 278;(with_reducible refine HHR.out.mono ?_);rintro e w' ⟨rfl,rfl⟩))
 have HSS:=Hd (fun (W:World) (_:Fr [] w W)=>trivial);refine wp_region_qall (fun W=>Fr [] w W) (by kernel_rfl) (by kernel_rfl) ((Fq [] w).drew) ?_
 repeat (
  first
  | go_big_quiet_skip
  | (go_big_quiet_want
     first
     | (go_big_quiet_op
        go_big_quiet_on)
     | (apply Exists.intro
        refine⟨fun W hW=>?_,?_⟩
        ·(obtain _:=HSS.out W hW
          go_simp
          first
          | done
          | (with_reducible exact rfl)
          | (with_reducible exact⟨rfl,rfl⟩)
          | (fail))
        simp only[Act.put,qA,qB,qC]
        go_big_quiet_on))
  )
 refine wpQuiet_nil ?_;intro W1 hW1
 go_upto_region 7 with fail
 refine wp_region_qall (fun W=>Fr [] w W) (by kernel_rfl) (by kernel_rfl) (hW1.drew) ?_
 repeat (
  first
  | go_big_quiet_skip
  | (go_big_quiet_want
     first
     | (go_big_quiet_op
        go_big_quiet_on)
     | (apply Exists.intro
        refine⟨fun W hW=>?_,?_⟩
        ·(obtain _:=HSS.out W hW
          go_simp
          first
          | done
          | (with_reducible exact rfl)
          | (with_reducible exact⟨rfl,rfl⟩)
          | (fail))
        simp only[Act.put,qA,qB,qC]
        go_big_quiet_on))
  )
 refine wpQuiet_nil ?_;intro W2 hW2
 go_wp2_with ((go_at_call 268;(with_reducible refine (HJ0.out _ hW2).mono ?_);rintro e w2 ⟨q5,h5,rfl,ht5,hf5⟩;have H5:=Hd ht5;clear ht5))
 go_ret
 exact⟨_,_,rfl,H5.out,hW2.then hf5⟩
theorem balance_t (lp rp:Option Addr) (ns1 ns2:List ON) (h1 h2:Int) (m:Nat) (n:ON) (v:Nm) (w:World) (hl:TT w lp ns1 h1) (hm:Mid w m n v) (hr:TT w rp ns2 h2) (hc:ns1.length+ns2.length<100000) :
 Calls prog 267 #[.pointer lp,.pointer (some ⟨m,0,none⟩),.pointer rp] w (TPost w (ns1++n::ns2)):=by
 by_cases c1:1<h1 - h2
 ·have h0:=hr.h0
  obtain⟨b,lp1,rp1,n1,v1,ha,hb,nsa,nsb,rfl,hN⟩:=hl.pos (by omega);exact bal_A b rp lp1 rp1 ns1 ns2 nsa nsb h1 h2 ha hb n1 v1 m n v w hl hN hm hr hc c1
 ·by_cases c2:h1 - h2 < -1
  ·have h0:=hl.h0
   obtain⟨b,lp1,rp1,n1,v1,ha,hb,nsa,nsb,rfl,hN⟩:=hr.pos (by omega);exact bal_B b lp lp1 rp1 ns1 ns2 nsa nsb h1 h2 ha hb n1 v1 m n v w hl hN hm hr hc c2
  ·exact bal_C lp rp ns1 ns2 h1 h2 m n v w hl hm hr hc (by omega) (by omega)
end Go.Proofs.YtlpmiimgacfmkaaGreatDoor
