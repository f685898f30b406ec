/- state: find and with of any trees. -/
import Derived.Deep.LoopGhost
import Derived.Test.YtlpmiimgacfmkaaGreatDoorMGf
set_option linter.all false
namespace Go.Proofs.YtlpmiimgacfmkaaGreatDoor
open Go.Proofs.Tryz
open Go.RowKit
set_option maxRecDepth 100000
set_option maxHeartbeats 8000000
theorem srt_iff {a b:List ON} {n:ON}:SrtO (a++n::b) ↔ (SrtO a/\SrtO b)/\(∀ x∈a,ltO x n)/\∀ y∈b,ltO n y:=by
 unfold SrtO;rw[List.pairwise_append,List.pairwise_cons]
 constructor
 ·rintro⟨h1,⟨h2,h3⟩,h4⟩
  exact⟨⟨h1,h3⟩,fun x hx=>h4 x hx n (by simp),h2⟩
 ·rintro⟨⟨h1,h3⟩,h4,h2⟩
  refine⟨h1,⟨h2,h3⟩,fun x hx y hy=>?_⟩
  rcases List.mem_cons.1 hy with rfl | hy
  ·exact h4 x hx
  ·exact (h4 x hx).trans (h2 y hy)
theorem cmp_ok (a b:ON) (w:World) (ha:checkO a=0) (hb:checkO b=0):Calls prog 103 #[encO a,encO b] w (CmpOPost w (cmpO a b)) :=
 CompareO_any a b w (valid_of_check ha) (valid_of_check hb) (by have:=valid_len (valid_of_check ha);omega) (by have:=valid_len (valid_of_check hb);omega)
theorem encO_str {n:ON} {so st:ByteArray} (hso:encN n.owner=.string so) (hst:encN n.text=.string st):encO n=.agg #[.int .i64 n.kind,.string so,.int .i64 n.number,.int .i64 n.index,.string st]:=by unfold encO;rw[hso,hst]
theorem TN.cs {w W:World} {b:Nat} {ns ns1 ns2:List ON} {lp rp:Option Addr} {n:ON} {v:Nm} {h1 h2:Int} {so st:ByteArray} (hN:TN w b ns lp rp n v h1 h2 ns1 ns2) (hso:encN n.owner=.string so) (hst:encN n.text=.string st) (hW:Fr [] w W):(W.cell? ⟨b,0,none⟩=some (.pointer lp)/\W.cell? ⟨b,1,none⟩=some (.pointer rp))/\W.cell? ⟨b,2,none⟩=some (.int .i64 n.kind)/\W.cell? ⟨b,3,none⟩=some (.string so)/\W.cell? ⟨b,4,none⟩=some (.int .i64 n.number)/\W.cell? ⟨b,5,none⟩=some (.int .i64 n.index)/\W.cell? ⟨b,6,none⟩=some (.string st):=by
 obtain⟨_,_,_,⟨a,c,d,h⟩,_⟩:=hN;have h:=h.fr hW (by simp);unfold nodeG at h;rw[hso,hst] at h;exact⟨⟨h.c 0,h.c 1⟩,h.c 2,h.c 3,h.c 4,h.c 5,h.c 6⟩
theorem Mid.cs {w W:World} {b:Nat} {n:ON} {v:Nm} {so st:ByteArray} (hM:Mid w b n v) (hso:encN n.owner=.string so) (hst:encN n.text=.string st) (hW:Fr [] w W):W.cell? ⟨b,2,none⟩=some (.int .i64 n.kind)/\W.cell? ⟨b,3,none⟩=some (.string so)/\W.cell? ⟨b,4,none⟩=some (.int .i64 n.number)/\W.cell? ⟨b,5,none⟩=some (.int .i64 n.index)/\W.cell? ⟨b,6,none⟩=some (.string st):=by
 obtain⟨⟨l,r,a,c,d,h⟩,_⟩:=hM;have h:=h.fr hW (by simp);unfold nodeG at h;rw[hso,hst] at h;exact⟨h.c 2,h.c 3,h.c 4,h.c 5,h.c 6⟩
def FPost (w:World) (ns:List ON) (n:ON) (e:Ending) (w':World):Prop:=∃ q,e=.returned (.pointer q)/\(q=none \/ ∃ b x v,q=some ⟨b,0,none⟩/\x∈ns/\cmpO n x=0/\Mid w' b x v)/\Fr [] w w'
theorem find_t (p:Option Addr) (ns:List ON) (h:Int) (n:ON) (w:World) (hT:TT w p ns h) (hn:checkO n=0):Calls prog 97 #[.pointer p,encO n] w (FPost w ns n):=by
 obtain⟨so,hso,_,_⟩:=str_of n.owner;obtain⟨st,hst,_,_⟩:=str_of n.text;have he:=encO_str hso hst;obtain⟨w1,hw1,hz1,n1,fw1⟩:=bxz w #[.int .i64 n.kind,.string so,.int .i64 n.number,.int .i64 n.index,.string st] 31 w.heap.size;have hC:=fun (x:ON) (hx:checkO x=0) (W:World)=>cmp_ok n x W hn hx;rw[he] at hC ⊢;have HC:=Hd hC;have HN1:=Hd n1;have HT:=Hd (An hT fw1);have HW1:=Hd hw1;clear hC n1 hT fw1 he hz1 hw1
 go_enter func97,ntmps97
 go_wp2_with fail
 try rw[HW1.out]
 clear HW1
 go_loopg [0] (ns.length+1) (fun g s0 W=>∃ q ns' h',s0=.pointer q/\TT W q ns' h'/\ns'.length<g/\(∀ x∈ns',x∈ns)/\Fr [] w1 W)
 case atStart=>exact⟨p,ns,h,rfl,HT.out.1.fr0 HT.out.2,by omega,fun x hx=>hx,Fq _ _⟩
 case round =>
  obtain⟨q,ns',h',rfl,ht,hlen,hsub,hfr⟩:=hrel
  cases q with
  | none =>
   have HF:=Hd hfr;clear ht hlen hsub hfr
   go_wp2_with fail
   go_ret
   exact⟨none,rfl,.inl rfl,HT.out.2.then HF.out⟩
  | some b0 =>
   obtain⟨b,lp,rp,n2,v2,h1,h2,ns1,ns2,rfl,hN⟩:=ht.some;obtain⟨so2,hso2,_,_⟩:=str_of n2.owner;obtain⟨st2,hst2,_,_⟩:=str_of n2.text;have hC2:=fun W=>HC.out n2 hN.2.2.2.2.1 W;rw[encO_str hso2 hst2] at hC2
   have HSS:=Hd (fun (W:World) (hW:Fr [] wr W)=>An (show W.cell? ⟨w.heap.size,0,none⟩=some (.int .i64 n.kind)/\W.cell? ⟨w.heap.size,1,none⟩=some (.string so)/\W.cell? ⟨w.heap.size,2,none⟩=some (.int .i64 n.number)/\W.cell? ⟨w.heap.size,3,none⟩=some (.int .i64 n.index)/\W.cell? ⟨w.heap.size,4,none⟩=some (.string st) from by
    have h1:=HN1.out.fr (hfr.then hW) (by simp);exact⟨h1.c 0,h1.c 1,h1.c 2,h1.c 3,h1.c 4⟩) (hN.cs hso2 hst2 hW))
   have HC2:=Hd hC2;obtain⟨r,hr⟩:=nmd (cmpO n n2);rw[hr] at HC2;have HN:=Hd (An hN (An hr (An hlen (An hsub hfr))));clear hC2 hN hr hlen hsub hfr ht hso2 hst2
   go_upto_region 2 with fail
   refine wp_region_qall (fun W=>Fr [] wr W) (by kernel_rfl) (by kernel_rfl) ((Fq [] wr).drew) ?_
   repeat (
    first
    | go_big_quiet_skip
    | (go_big_quiet_want
       first
       | (go_big_quiet_op
          go_big_quiet_on)
       | (apply Exists.intro
          refine⟨fun W hW=>?_,?_⟩
          ·(obtain⟨⟨x0,x1,x2,x3,x4⟩,⟨z0,z1⟩,z2,z3,z4,z5,z6⟩:=HSS.out W hW
            go_simp
            first
            | done
            | (with_reducible exact rfl)
            | (with_reducible exact⟨rfl,rfl⟩)
            | ((go_at_call 103;(with_reducible refine (HC2.out W).mono ?_);rintro e w' ⟨rfl,h⟩;exact⟨rfl,hW.then h⟩)))
          simp only[Act.put,qA,qB,qC]
          go_big_quiet_on))
    )
   refine wpQuiet_nil ?_;intro W1 hW1;have HW:=Hd hW1;obtain⟨⟨x0,x1,x2,x3,x4⟩,⟨z0,z1⟩,z2,z3,z4,z5,z6⟩:=HSS.out W1 hW1;clear hW1
   rcases (show r<0 \/ r=0 \/ 0<r by omega) with h0 | h0 | h0
   ·have e1:decide (r<0)=true:=decide_eq_true h0
    have e2:¬ r=0:=by omega
    go_wp2_with fail
    go_roundg (ns1.length+1)
    case measure=>have:=congrArg List.length HN.out.1.1;simp only[lla,List.length_cons] at this;have:=HN.out.2.2.1;omega
    case rel =>
     exact⟨lp,ns1,h1,rfl,HN.out.1.2.1.fr0 HW.out,by omega,fun x hx=>HN.out.2.2.2.1 x (by rw[HN.out.1.1];simp[hx]),HN.out.2.2.2.2.then HW.out⟩
   ·subst h0
    go_wp2_with fail
    go_ret
    exact⟨_,rfl,.inr ⟨b,n2,v2,rfl,HN.out.2.2.2.1 n2 (by rw[HN.out.1.1];simp),HN.out.2.1,HN.out.1.mid.fr0 HW.out⟩,HT.out.2.then (HN.out.2.2.2.2.then HW.out)⟩
   ·have e1:decide (r<0)=false:=decide_eq_false (by omega)
    have e2:¬ r=0:=by omega
    go_wp2_with fail
    go_roundg (ns2.length+1)
    case measure=>have:=congrArg List.length HN.out.1.1;simp only[lla,List.length_cons] at this;have:=HN.out.2.2.1;omega
    case rel =>
     exact⟨rp,ns2,h2,rfl,HN.out.1.2.2.1.fr0 HW.out,by omega,fun x hx=>HN.out.2.2.2.1 x (by rw[HN.out.1.1];simp[hx]),HN.out.2.2.2.2.then HW.out⟩
def WTPost (w:World) (ns:List ON) (n:ON) (e:Ending) (w':World):Prop:=∃ ns',TPost w ns' e w'/\SrtO ns'/\(∀ x∈ns',x=n \/ x∈ns)/\ns'.length<=ns.length+1
theorem with_t (K:Nat):∀ (p:Option Addr) (ns:List ON) (h:Int) (m:Nat) (n:ON) (v:Nm) (w:World),ns.length<K->TT w p ns h->SrtO ns->Mid w m n v->ns.length<50000 ->
 Calls prog 236 #[.pointer p,.pointer (some ⟨m,0,none⟩)] w (WTPost w ns n):=by
 induction K with
 | zero=>intro p ns h m n v w hK;omega
 | succ K ih =>
 intro p ns h m n v w hK hT hs hm hlen
 cases p with
 | none =>
  obtain⟨rfl,rfl⟩:=hT.isNone;have hj:=join_t none none [] [] 0 0 m n v w (TT.nil w) hm (TT.nil w) (by simp);have HJ:=Hd hj;clear hj hm hT hs hlen hK ih
  go_enter func236,ntmps236
  go_wp2_with ((go_at_call 268;(with_reducible refine HJ.out.mono ?_);rintro e w2 ⟨q,h,rfl,h2⟩;have H:=Hd h2;clear h2))
  go_ret
  exact⟨[n],⟨q,h,rfl,H.out⟩,List.pairwise_singleton _ _,fun x hx=>.inl (by simpa using hx),by simp⟩
 | some b0 =>
  obtain⟨b,lp,rp,n2,v2,h1,h2,ns1,ns2,rfl,hN⟩:=hT.some;obtain⟨so,hso,_,_⟩:=str_of n.owner;obtain⟨st,hst,_,_⟩:=str_of n.text;obtain⟨so2,hso2,_,_⟩:=str_of n2.owner;obtain⟨st2,hst2,_,_⟩:=str_of n2.text;have hC2:=fun W=>cmp_ok n n2 W hm.2.1 hN.2.2.2.2.1;rw[encO_str hso2 hst2,encO_str hso hst] at hC2;have HSS:=Hd (fun (W:World) (hW:Fr [] w W)=>An (hm.cs hso hst hW) (hN.cs hso2 hst2 hW));have HC2:=Hd hC2;obtain⟨r,hr⟩:=nmd (cmpO n n2);rw[hr] at HC2;obtain⟨rfl,hta,htb,hbx⟩:=hN;have hN:TN w b (ns1++n2::ns2) lp rp n2 v2 h1 h2 ns1 ns2:=⟨rfl,hta,htb,hbx⟩;obtain⟨⟨s1,s2⟩,s3,s4⟩:=srt_iff.1 hs;have hl2:ns1.length+1+ns2.length<50000:=by rw[lla,List.length_cons] at hlen;omega
  have hK2:ns1.length+1+ns2.length<K+1:=by rw[lla,List.length_cons] at hK;omega
  have HN:=Hd (An hN (An hr (An hs (An s3 s4))))
  rcases (show r<0 \/ r=0 \/ 0<r by omega) with h0 | h0 | h0
  ·have hI:∀ W,Fr [] w W->Calls prog 236 #[.pointer lp,.pointer (some ⟨m,0,none⟩)] W (WTPost W ns1 n):=fun W hW=>ih lp ns1 h1 m n v W (by omega) (hta.fr0 hW) s1 (hm.fr0 hW) (by omega)
   have HI:=Hd hI;have hB:∀ W,Fr [] w W->∀ q ns' h',TT W q ns' h'->ns'.length<=ns1.length+1->Calls prog 267 #[.pointer q,.pointer (some ⟨b,0,none⟩),.pointer rp] W (TPost W (ns'++n2::ns2)):=fun W hW q ns' h' hq hle=>balance_t q rp ns' ns2 h' h2 b n2 v2 W hq (hN.mid.fr0 hW) (htb.fr0 hW) (by omega);have HB:=Hd hB;have e1:decide (r<0)=true:=decide_eq_true h0;have HS2:=Hd (fun (W:World) (hW:Fr [] w W)=>(HSS.out W hW).2.1);clear ih hT hs hm hlen hN hC2 hr hta htb hbx s1 s2 s3 s4 hl2 hK hK2 hI hB hso hso2 hst hst2
   go_enter func236,ntmps236
   go_upto_region 3 with fail
   refine wp_region_qall (fun W=>Fr [] w W) (by kernel_rfl) (by kernel_rfl) ((Fq [] w).drew) ?_
   repeat (
    first
    | go_big_quiet_skip
    | (go_big_quiet_want
       first
       | (go_big_quiet_op
          go_big_quiet_on)
       | (apply Exists.intro
          refine⟨fun W hW=>?_,?_⟩
          ·(obtain⟨⟨x2,x3,x4,x5,x6⟩,⟨z0,z1⟩,z2,z3,z4,z5,z6⟩:=HSS.out W hW
            go_simp
            first
            | done
            | (with_reducible exact rfl)
            | (with_reducible exact⟨rfl,rfl⟩)
            | ((go_at_call 103;(with_reducible refine (HC2.out W).mono ?_);rintro e w' ⟨rfl,h⟩;exact⟨rfl,hW.then h⟩)))
          simp only[Act.put,qA,qB,qC]
          go_big_quiet_on))
    )
   refine wpQuiet_nil ?_;intro W1 hW1
   go_upto_region 5 with fail
   go_region_held3 (fun W=>W.cell? ⟨b,0,none⟩=some (.pointer lp)/\W.cell? ⟨b,1,none⟩=some (.pointer rp)) (((with_reducible refine HS2.out _ ?_;(repeat (first | exact Fq _ _ | with_reducible assumption | refine Fr.drew ?_ | refine Fr.alloc ?_ _ | refine Fr.then ?_ (Fr.undrew (by with_reducible assumption))));done))) (first
    | (go_at_call 236;(with_reducible refine (HI.out _ hW1.drew).mono ?_);rintro e w5 ⟨ns5,⟨q5,h5,rfl,ht5,hf5⟩,hs5⟩;have hk5:=hW1.then hf5.undrew;have H5:=Hd (An ht5 hs5);clear ht5 hf5 hs5)
    | (go_at_call 267;(with_reducible refine (HB.out _ hk5 _ _ _ H5.out.1 H5.out.2.2.2).mono ?_);rintro e w6 ⟨q6,h6,rfl,ht6,hf6⟩;have hk6:=hk5.then hf6;have H6:=Hd ht6;clear ht6))
   go_wp2_with fail
   go_ret
   obtain⟨hN,hr,hs,s3,s4⟩:=HN.out;obtain⟨_,t1,t2,t3⟩:=H5.out;refine⟨ns5++n2::ns2,⟨_,_,rfl,H6.out,hk6⟩,srt_iff.2 ⟨⟨t1,(srt_iff.1 hs).1.2⟩,fun x hx=>?_,s4⟩,fun x hx=>?_,by simp only[lla,List.length_cons];omega⟩
   ·rcases t2 x hx with rfl | hx
    ·unfold ltO;omega
    ·exact s3 x hx
   ·simp only[List.mem_append,List.mem_cons] at hx ⊢
    rcases hx with hx | hx | hx
    ·rcases t2 x hx with rfl | hx
     ·exact .inl rfl
     ·exact .inr (.inl hx)
    ·exact .inr (.inr (.inl hx))
    ·exact .inr (.inr (.inr hx))
  ·subst h0
   have hJ:∀ W,Fr [] w W->Calls prog 268 #[.pointer lp,.pointer (some ⟨m,0,none⟩),.pointer rp] W (TPost W (ns1++n::ns2)):=fun W hW=>join_t lp rp ns1 ns2 h1 h2 m n v W (hta.fr0 hW) (hm.fr0 hW) (htb.fr0 hW) (by omega);have HJ:=Hd hJ;have HS2:=Hd (fun (W:World) (hW:Fr [] w W)=>(HSS.out W hW).2.1);clear ih hT hs hm hlen hN hC2 hr hta htb hbx s1 s2 s3 s4 hl2 hK hK2 hJ hso hso2 hst hst2
   go_enter func236,ntmps236
   go_upto_region 3 with fail
   refine wp_region_qall (fun W=>Fr [] w W) (by kernel_rfl) (by kernel_rfl) ((Fq [] w).drew) ?_
   repeat (
    first
    | go_big_quiet_skip
    | (go_big_quiet_want
       first
       | (go_big_quiet_op
          go_big_quiet_on)
       | (apply Exists.intro
          refine⟨fun W hW=>?_,?_⟩
          ·(obtain⟨⟨x2,x3,x4,x5,x6⟩,⟨z0,z1⟩,z2,z3,z4,z5,z6⟩:=HSS.out W hW
            go_simp
            first
            | done
            | (with_reducible exact rfl)
            | (with_reducible exact⟨rfl,rfl⟩)
            | ((go_at_call 103;(with_reducible refine (HC2.out W).mono ?_);rintro e w' ⟨rfl,h⟩;exact⟨rfl,hW.then h⟩)))
          simp only[Act.put,qA,qB,qC]
          go_big_quiet_on))
    )
   refine wpQuiet_nil ?_;intro W1 hW1
   go_upto_region 8 with fail
   go_region_held3 (fun W=>W.cell? ⟨b,0,none⟩=some (.pointer lp)/\W.cell? ⟨b,1,none⟩=some (.pointer rp)) (((with_reducible refine HS2.out _ ?_;(repeat (first | exact Fq _ _ | with_reducible assumption | refine Fr.drew ?_ | refine Fr.alloc ?_ _ | refine Fr.then ?_ (Fr.undrew (by with_reducible assumption))));done))) (first
    | (go_at_call 268;(with_reducible refine (HJ.out _ hW1.drew).mono ?_);rintro e w6 ⟨q6,h6,rfl,ht6,hf6⟩;have hk6:=hW1.then hf6.undrew;have H6:=Hd ht6;clear ht6))
   go_wp2_with fail
   go_ret
   obtain⟨hN,hr,hs,s3,s4⟩:=HN.out;refine⟨ns1++n::ns2,⟨_,_,rfl,H6.out,hk6⟩,srt_mid hs hr,fun x hx=>?_,by simp⟩;simp only[List.mem_append,List.mem_cons] at hx ⊢
   rcases hx with hx | hx | hx
   ·exact .inr (.inl hx)
   ·exact .inl hx
   ·exact .inr (.inr (.inr hx))
  ·have hI:∀ W,Fr [] w W->Calls prog 236 #[.pointer rp,.pointer (some ⟨m,0,none⟩)] W (WTPost W ns2 n):=fun W hW=>ih rp ns2 h2 m n v W (by omega) (htb.fr0 hW) s2 (hm.fr0 hW) (by omega)
   have HI:=Hd hI;have hB:∀ W,Fr [] w W->∀ q ns' h',TT W q ns' h'->ns'.length<=ns2.length+1->Calls prog 267 #[.pointer lp,.pointer (some ⟨b,0,none⟩),.pointer q] W (TPost W (ns1++n2::ns')):=fun W hW q ns' h' hq hle=>balance_t lp q ns1 ns' h1 h' b n2 v2 W (hta.fr0 hW) (hN.mid.fr0 hW) hq (by omega);have HB:=Hd hB;have e1:decide (r<0)=false:=decide_eq_false (by omega);have e2:decide (0<r)=true:=decide_eq_true (by omega);have HS2:=Hd (fun (W:World) (hW:Fr [] w W)=>(HSS.out W hW).2.1);clear ih hT hs hm hlen hN hC2 hr hta htb hbx s1 s2 s3 s4 hl2 hK hK2 hI hB hso hso2 hst hst2
   go_enter func236,ntmps236
   go_upto_region 3 with fail
   refine wp_region_qall (fun W=>Fr [] w W) (by kernel_rfl) (by kernel_rfl) ((Fq [] w).drew) ?_
   repeat (
    first
    | go_big_quiet_skip
    | (go_big_quiet_want
       first
       | (go_big_quiet_op
          go_big_quiet_on)
       | (apply Exists.intro
          refine⟨fun W hW=>?_,?_⟩
          ·(obtain⟨⟨x2,x3,x4,x5,x6⟩,⟨z0,z1⟩,z2,z3,z4,z5,z6⟩:=HSS.out W hW
            go_simp
            first
            | done
            | (with_reducible exact rfl)
            | (with_reducible exact⟨rfl,rfl⟩)
            | ((go_at_call 103;(with_reducible refine (HC2.out W).mono ?_);rintro e w' ⟨rfl,h⟩;exact⟨rfl,hW.then h⟩)))
          simp only[Act.put,qA,qB,qC]
          go_big_quiet_on))
    )
   refine wpQuiet_nil ?_;intro W1 hW1
   go_upto_region 7 with fail
   go_region_held3 (fun W=>W.cell? ⟨b,0,none⟩=some (.pointer lp)/\W.cell? ⟨b,1,none⟩=some (.pointer rp)) (((with_reducible refine HS2.out _ ?_;(repeat (first | exact Fq _ _ | with_reducible assumption | refine Fr.drew ?_ | refine Fr.alloc ?_ _ | refine Fr.then ?_ (Fr.undrew (by with_reducible assumption))));done))) (first
    | (go_at_call 236;(with_reducible refine (HI.out _ hW1.drew).mono ?_);rintro e w5 ⟨ns5,⟨q5,h5,rfl,ht5,hf5⟩,hs5⟩;have hk5:=hW1.then hf5.undrew;have H5:=Hd (An ht5 hs5);clear ht5 hf5 hs5)
    | (go_at_call 267;(with_reducible refine (HB.out _ hk5 _ _ _ H5.out.1 H5.out.2.2.2).mono ?_);rintro e w6 ⟨q6,h6,rfl,ht6,hf6⟩;have hk6:=hk5.then hf6;have H6:=Hd ht6;clear ht6))
   go_wp2_with fail
   go_ret
   obtain⟨hN,hr,hs,s3,s4⟩:=HN.out;obtain⟨_,t1,t2,t3⟩:=H5.out;refine⟨ns1++n2::ns5,⟨_,_,rfl,H6.out,hk6⟩,srt_iff.2 ⟨⟨(srt_iff.1 hs).1.1,t1⟩,s3,fun x hx=>?_⟩,fun x hx=>?_,by simp only[lla,List.length_cons];omega⟩
   ·rcases t2 x hx with rfl | hx
    ·exact ltO.flip (by omega)
    ·exact s4 x hx
   ·simp only[List.mem_append,List.mem_cons] at hx ⊢
    rcases hx with hx | hx | hx
    ·exact .inr (.inl hx)
    ·exact .inr (.inr (.inl hx))
    ·rcases t2 x hx with rfl | hx
     ·exact .inl rfl
     ·exact .inr (.inr (.inr hx))
theorem cmpO_self (a:ON):cmpO a a=0:=by have:=tot_cmpO.anti a a;omega
theorem ltO.ne {a b:ON} (h:ltO a b):cmpO a b≠0/\cmpO b a≠0:=by
 unfold ltO at h;have:=tot_cmpO.anti a b;omega
def WOPost (w:World) (ns:List ON) (n:ON) (e:Ending) (w':World):Prop:=∃ ns',TPost w ns' e w'/\SrtO ns'/\(∀ x∈ns',x∈ns/\cmpO n x≠0)/\ns'.length<=ns.length
theorem without_t (K:Nat):∀ (p:Option Addr) (ns:List ON) (h:Int) (n:ON) (w:World),ns.length<K->TT w p ns h->SrtO ns->checkO n=0->ns.length<50000->(∃ x∈ns,cmpO n x=0) ->
 Calls prog 235 #[.pointer p,encO n] w (WOPost w ns n):=by
 induction K with
 | zero=>intro p ns h n w hK;omega
 | succ K ih =>
 intro p ns h n w hK hT hs hn hlen hx
 cases p with
 | none =>
  obtain⟨rfl,rfl⟩:=hT.isNone;obtain⟨x,hx,_⟩:=hx
  cases hx
 | some b0 =>
  obtain⟨b,lp,rp,n2,v2,h1,h2,ns1,ns2,rfl,hN⟩:=hT.some;obtain⟨so,hso,_,_⟩:=str_of n.owner;obtain⟨st,hst,_,_⟩:=str_of n.text;obtain⟨so2,hso2,_,_⟩:=str_of n2.owner;obtain⟨st2,hst2,_,_⟩:=str_of n2.text;have he:=encO_str hso hst;obtain⟨w1,hw1,hz1,n1,fw1⟩:=bxz w #[.int .i64 n.kind,.string so,.int .i64 n.number,.int .i64 n.index,.string st] 31 w.heap.size;have hC2:=fun W=>cmp_ok n n2 W hn hN.2.2.2.2.1;rw[encO_str hso2 hst2,he] at hC2
  have HSS:=Hd (fun (W:World) (hW:Fr [] w1 W)=>An (show ((W.cell? ⟨w.heap.size,0,none⟩=some (.int .i64 n.kind)/\W.cell? ⟨w.heap.size,1,none⟩=some (.string so)/\W.cell? ⟨w.heap.size,2,none⟩=some (.int .i64 n.number)/\W.cell? ⟨w.heap.size,3,none⟩=some (.int .i64 n.index)/\W.cell? ⟨w.heap.size,4,none⟩=some (.string st))) from by
   have h1:=n1.fr hW (by simp);exact⟨h1.c 0,h1.c 1,h1.c 2,h1.c 3,h1.c 4⟩) (hN.cs hso2 hst2 (fw1.then hW)))
  have HC2:=Hd hC2;obtain⟨r,hr⟩:=nmd (cmpO n n2);rw[hr] at HC2;obtain⟨rfl,hta,htb,hbx⟩:=hN;have hN:TN w b (ns1++n2::ns2) lp rp n2 v2 h1 h2 ns1 ns2:=⟨rfl,hta,htb,hbx⟩;obtain⟨⟨s1,s2⟩,s3,s4⟩:=srt_iff.1 hs;have hl2:ns1.length+1+ns2.length<50000:=by rw[lla,List.length_cons] at hlen;omega
  have hK2:ns1.length+1+ns2.length<K+1:=by rw[lla,List.length_cons] at hK;omega
  have HN:=Hd (An hN (An hr (An hs (An s3 s4))));rw[he];have HW1:=Hd hw1;have HF1:=Hd fw1
  rcases (show r<0 \/ r=0 \/ 0<r by omega) with h0 | h0 | h0
  ·have hx1:∃ x∈ns1,cmpO n x=0:=by
    obtain⟨x,hx,hx0⟩:=hx
    rcases List.mem_append.1 hx with hx | hx
    ·exact⟨x,hx,hx0⟩
    ·rcases List.mem_cons.1 hx with rfl | hx
     ·omega
     ·exact absurd hx0 (ltO.trans (b:=n2) (by unfold ltO;omega) (s4 x hx)).ne.1
   have hI:∀ W,Fr [] w1 W->Calls prog 235 #[.pointer lp,encO n] W (WOPost W ns1 n):=fun W hW=>ih lp ns1 h1 n W (by omega) (hta.fr0 (fw1.then hW)) s1 hn (by omega) hx1;rw[he] at hI;have HI:=Hd hI;have hB:∀ W,Fr [] w1 W->∀ q ns' h',TT W q ns' h'->ns'.length<=ns1.length->Calls prog 267 #[.pointer q,.pointer (some ⟨b,0,none⟩),.pointer rp] W (TPost W (ns'++n2::ns2)):=fun W hW q ns' h' hq hle=>balance_t q rp ns' ns2 h' h2 b n2 v2 W hq (hN.mid.fr0 (fw1.then hW)) (htb.fr0 (fw1.then hW)) (by omega);have HB:=Hd hB;have e1:decide (r<0)=true:=decide_eq_true h0;have HS2:=Hd (fun (W:World) (hW:Fr [] w1 W)=>An (HSS.out W hW).1 (HSS.out W hW).2.1);clear ih hT hs hn hlen hN hC2 hr hta htb hbx s1 s2 s3 s4 hl2 hK hK2 hI hB hso hso2 hst hst2 he hx hx1 n1 hw1 fw1 hz1
   go_enter func235,ntmps235
   go_upto_region 1 with fail
   try rw[HW1.out]
   refine wp_region_qall (fun W=>Fr [] w1 W) (by kernel_rfl) (by kernel_rfl) ((Fq [] w1).drew) ?_
   repeat (
    first
    | go_big_quiet_skip
    | (go_big_quiet_want
       first
       | (go_big_quiet_op
          go_big_quiet_on)
       | (apply Exists.intro
          refine⟨fun W hW=>?_,?_⟩
          ·(obtain⟨⟨x0,x1,x2,x3,x4⟩,⟨z0,z1⟩,z2,z3,z4,z5,z6⟩:=HSS.out W hW
            go_simp
            first
            | done
            | (with_reducible exact rfl)
            | (with_reducible exact⟨rfl,rfl⟩)
            | ((go_at_call 103;(with_reducible refine (HC2.out W).mono ?_);rintro e w' ⟨rfl,h⟩;exact⟨rfl,hW.then h⟩)))
          simp only[Act.put,qA,qB,qC]
          go_big_quiet_on))
    )
   refine wpQuiet_nil ?_;intro W1 hW1
   go_upto_region 3 with fail
   go_region_held3 (fun W=>((W.cell? ⟨w.heap.size,0,none⟩=some (.int .i64 n.kind)/\W.cell? ⟨w.heap.size,1,none⟩=some (.string so)/\W.cell? ⟨w.heap.size,2,none⟩=some (.int .i64 n.number)/\W.cell? ⟨w.heap.size,3,none⟩=some (.int .i64 n.index)/\W.cell? ⟨w.heap.size,4,none⟩=some (.string st)))/\W.cell? ⟨b,0,none⟩=some (.pointer lp)/\W.cell? ⟨b,1,none⟩=some (.pointer rp)) (((with_reducible refine HS2.out _ ?_;(repeat (first | exact Fq _ _ | with_reducible assumption | refine Fr.drew ?_ | refine Fr.alloc ?_ _ | refine Fr.then ?_ (Fr.undrew (by with_reducible assumption))));done))) (first
    | (go_at_call 235;(with_reducible refine (HI.out _ hW1.drew).mono ?_);rintro e w5 ⟨ns5,⟨q5,h5,rfl,ht5,hf5⟩,hs5⟩;have hk5:=hW1.then hf5.undrew;have H5:=Hd (An ht5 hs5);clear ht5 hf5 hs5)
    | (go_at_call 267;(with_reducible refine (HB.out _ hk5 _ _ _ H5.out.1 H5.out.2.2.2).mono ?_);rintro e w6 ⟨q6,h6,rfl,ht6,hf6⟩;have hk6:=hk5.then hf6;have H6:=Hd ht6;clear ht6))
   go_wp2_with fail
   go_ret
   obtain⟨hN,hr,hs,s3,s4⟩:=HN.out;obtain⟨_,t1,t2,t3⟩:=H5.out;refine⟨ns5++n2::ns2,⟨_,_,rfl,H6.out,HF1.out.then hk6⟩,srt_iff.2 ⟨⟨t1,(srt_iff.1 hs).1.2⟩,fun x hx=>s3 x (t2 x hx).1,s4⟩,fun x hx=>?_,by simp only[lla,List.length_cons];omega⟩;simp only[List.mem_append,List.mem_cons] at hx ⊢
   rcases hx with hx | rfl | hx
   ·exact⟨.inl (t2 x hx).1,(t2 x hx).2⟩
   ·exact⟨.inr (.inl rfl),by omega⟩
   ·exact⟨.inr (.inr hx),(ltO.trans (b:=n2) (by unfold ltO;omega) (s4 x hx)).ne.1⟩
  ·subst h0
   have hr2:cmpO n2 n=0:=by have:=tot_cmpO.anti n n2;omega
   cases rp with
   | none =>
    obtain⟨rfl,rfl⟩:=htb.isNone;have HT1:=Hd (hta.fr0 fw1);have HS1:=Hd (An s1 hr2);clear ih hT hs hn hlen hN hC2 hr hta htb hbx s1 s2 s3 s4 hl2 hK hK2 hso hso2 hst hst2 he hx n1 hw1 fw1 hz1 hr2
    go_enter func235,ntmps235
    go_upto_region 1 with fail
    try rw[HW1.out]
    refine wp_region_qall (fun W=>Fr [] w1 W) (by kernel_rfl) (by kernel_rfl) ((Fq [] w1).drew) ?_
    repeat (
     first
     | go_big_quiet_skip
     | (go_big_quiet_want
        first
        | (go_big_quiet_op
           go_big_quiet_on)
        | (apply Exists.intro
           refine⟨fun W hW=>?_,?_⟩
           ·(obtain⟨⟨x0,x1,x2,x3,x4⟩,⟨z0,z1⟩,z2,z3,z4,z5,z6⟩:=HSS.out W hW
             go_simp
             first
             | done
             | (with_reducible exact rfl)
             | (with_reducible exact⟨rfl,rfl⟩)
             | ((go_at_call 103;(with_reducible refine (HC2.out W).mono ?_);rintro e w' ⟨rfl,h⟩;exact⟨rfl,hW.then h⟩)))
           simp only[Act.put,qA,qB,qC]
           go_big_quiet_on))
     )
    refine wpQuiet_nil ?_;intro W1 hW1;obtain⟨⟨x0,x1,x2,x3,x4⟩,⟨z0,z1⟩,z2,z3,z4,z5,z6⟩:=HSS.out W1 hW1
    go_wp2_with fail
    go_ret
    obtain⟨hN,hr,hs,s3,s4⟩:=HN.out
    exact⟨ns1,⟨_,_,rfl,HT1.out.fr0 hW1,HF1.out.then hW1⟩,HS1.out.1,fun x hx=>⟨by simp[hx],(ltO.eqr (s3 x hx) HS1.out.2).ne.2⟩,by simp⟩
   | some rb =>
   obtain⟨b3,lp3,rp3,n3,v3,h31,h32,ns31,ns32,rfl,hN3⟩:=htb.some;have hI:∀ W,Fr [] w1 W->∀ x∈ns2,checkO x=0->Calls prog 235 #[.pointer (some ⟨b3,0,none⟩),encO x] W (WOPost W ns2 x):=fun W hW x hx hc=>ih _ ns2 h2 x W (by omega) (htb.fr0 (fw1.then hW)) s2 hc (by omega) ⟨x,hx,cmpO_self x⟩;have HI:=Hd hI;have hB:∀ W,Fr [] w1 W->∀ c x v,Mid W c x v->∀ q ns' h',TT W q ns' h'->ns'.length<=ns2.length->Calls prog 267 #[.pointer lp,.pointer (some ⟨c,0,none⟩),.pointer q] W (TPost W (ns1++x::ns')):=fun W hW c x v hm q ns' h' hq hle=>balance_t lp q ns1 ns' h1 h' c x v W (hta.fr0 (fw1.then hW)) hm hq (by omega);have HB:=Hd hB;have HN3:=Hd (An hN3 (An s2 hr2));clear ih hT hs hn hlen hN hC2 hr hta htb hbx s1 s2 s3 s4 hl2 hK hK2 hI hB hso hso2 hst hst2 he hx n1 hw1 fw1 hz1 hr2 hN3
   go_enter func235,ntmps235
   go_upto_region 1 with fail
   try rw[HW1.out]
   refine wp_region_qall (fun W=>Fr [] w1 W) (by kernel_rfl) (by kernel_rfl) ((Fq [] w1).drew) ?_
   repeat (
    first
    | go_big_quiet_skip
    | (go_big_quiet_want
       first
       | (go_big_quiet_op
          go_big_quiet_on)
       | (apply Exists.intro
          refine⟨fun W hW=>?_,?_⟩
          ·(obtain⟨⟨x0,x1,x2,x3,x4⟩,⟨z0,z1⟩,z2,z3,z4,z5,z6⟩:=HSS.out W hW
            go_simp
            first
            | done
            | (with_reducible exact rfl)
            | (with_reducible exact⟨rfl,rfl⟩)
            | ((go_at_call 103;(with_reducible refine (HC2.out W).mono ?_);rintro e w' ⟨rfl,h⟩;exact⟨rfl,hW.then h⟩)))
          simp only[Act.put,qA,qB,qC]
          go_big_quiet_on))
    )
   refine wpQuiet_nil ?_;intro W1 hW1;obtain⟨⟨x0,x1,x2,x3,x4⟩,⟨z0,z1⟩,z2,z3,z4,z5,z6⟩:=HSS.out W1 hW1
   go_wp2_with fail
   have HW1:=Hd hW1;clear x0 x1 x2 x3 x4 z0 z1 z2 z3 z4 z5 z6 hW1
   go_loopg [6] (ns2.length+1) (fun g s6 W=>W1=W/\∃ c lq rq y vy k1 k2 nsa nsb rest,s6=.pointer (some ⟨c,0,none⟩)/\ns2=(nsa++y::nsb)++rest/\TN w c (nsa++y::nsb) lq rq y vy k1 k2 nsa nsb/\(nsa++y::nsb).length<g)
   case atStart =>
    have e:=HN3.out.1.1;exact⟨rfl,b3,lp3,rp3,n3,v3,h31,h32,ns31,ns32,[],rfl,by rw[List.append_nil];exact e,by rw[<-e];exact HN3.out.1,by rw[<-e];omega⟩
   case round =>
    obtain⟨rfl,c,lq,rq,y,vy,k1,k2,nsa,nsb,rest,rfl,hp,hN4,hg⟩:=hrel;obtain⟨soy,hsoy,_,_⟩:=str_of y.owner;obtain⟨sty,hsty,_,_⟩:=str_of y.text;have hcy:=hN4.cs hsoy hsty (HF1.out.then HW1.out);obtain⟨⟨y0,y1⟩,y2,y3,y4,y5,y6⟩:=hcy;have HP:=Hd (An hp (An hN4 (An hg (An hsoy hsty))));clear hp hN4 hg hsoy hsty
    cases lq with
    | some lb =>
     obtain⟨b5,lp5,rp5,n5,v5,h51,h52,ns51,ns52,rfl,hN5⟩:=HP.out.2.1.2.1.some;have HN5:=Hd hN5;clear hN5
     go_wp2_with fail
     go_roundg (nsa.length+1)
     case measure=>have:=HP.out.2.2.1;simp only[lla,List.length_cons] at this;omega
     case rel =>
      have e:=HN5.out.1;refine⟨rfl,b5,lp5,rp5,n5,v5,h51,h52,ns51,ns52,y::nsb++rest,rfl,?_,by rw[<-e];exact HN5.out,by rw[<-e];omega⟩
      rw[HP.out.1,<-e,List.append_assoc,List.cons_append]
    | none =>
     obtain⟨hna,_⟩:=HP.out.2.1.2.1.isNone;have hy:y∈ns2:=by rw[HP.out.1];simp
     have hI2:=fun W hW=>HI.out W hW y hy HP.out.2.1.2.2.2.2.1;rw[encO_str HP.out.2.2.2.1 HP.out.2.2.2.2] at hI2;have HI2:=Hd hI2;have hB2:=fun W hW=>HB.out W hW c y vy (HP.out.2.1.mid.fr0 (HF1.out.then hW));have HB2:=Hd hB2;have HS2:=Hd (fun (W:World) (hW:Fr [] w1 W)=>An (HSS.out W hW).2.1 (HP.out.2.1.cs HP.out.2.2.2.1 HP.out.2.2.2.2 (HF1.out.then hW)).2);have HY:=Hd (An hna hy);clear hI2 hB2 hna hy
     go_upto_region 11 with fail
     clear y0 y1 y2 y3 y4 y5 y6;have hW1:=HW1.out
     go_region_held3 (fun W=>(W.cell? ⟨b,0,none⟩=some (.pointer lp)/\W.cell? ⟨b,1,none⟩=some (.pointer (some ⟨b3,0,none⟩)))/\W.cell? ⟨c,2,none⟩=some (.int .i64 y.kind)/\W.cell? ⟨c,3,none⟩=some (.string soy)/\W.cell? ⟨c,4,none⟩=some (.int .i64 y.number)/\W.cell? ⟨c,5,none⟩=some (.int .i64 y.index)/\W.cell? ⟨c,6,none⟩=some (.string sty)) (((with_reducible refine HS2.out _ ?_;(repeat (first | exact Fq _ _ | with_reducible assumption | refine Fr.drew ?_ | refine Fr.alloc ?_ _ | refine Fr.then ?_ (Fr.undrew (by with_reducible assumption))));done))) (first
      | (go_at_call 235;(with_reducible refine (HI2.out _ hW1.drew).mono ?_);rintro e w5 ⟨ns5,⟨q5,h5,rfl,ht5,hf5⟩,hs5⟩;have hk5:=hW1.then hf5.undrew;have H5:=Hd (An ht5 hs5);clear ht5 hf5 hs5)
      | (go_at_call 267;(with_reducible refine (HB2.out _ hk5 _ _ _ H5.out.1 H5.out.2.2.2).mono ?_);rintro e w6 ⟨q6,h6,rfl,ht6,hf6⟩;have hk6:=hk5.then hf6;have H6:=Hd ht6;clear ht6))
     go_wp2_with fail
     go_ret
     obtain⟨hN,hr,hs,s3,s4⟩:=HN.out;obtain⟨_,t1,t2,t3⟩:=H5.out;have hs2:=HN3.out.2.1;obtain⟨hna,hy⟩:=HY.out;have hp:=HP.out.1;rw[hna,List.nil_append,List.cons_append] at hp
     have hlt:∀ x∈ns5,ltO y x:=fun x hx=>by
      obtain⟨hx1,hx2⟩:=t2 x hx;rw[hp] at hx1 hs2
      rcases List.mem_cons.1 hx1 with rfl | hx1
      ·exact absurd (cmpO_self x) hx2
      ·exact (List.pairwise_cons.1 hs2).1 x hx1
     refine⟨ns1++y::ns5,⟨_,_,rfl,H6.out,HF1.out.then hk6⟩,srt_iff.2 ⟨⟨(srt_iff.1 hs).1.1,t1⟩,fun x hx=>(s3 x hx).trans (s4 y hy),hlt⟩,fun x hx=>?_,by simp only[lla,List.length_cons];omega⟩;simp only[List.mem_append,List.mem_cons] at hx ⊢
     rcases hx with hx | rfl | hx
     ·exact⟨.inl hx,(ltO.eqr (s3 x hx) HN3.out.2.2).ne.2⟩
     ·exact⟨.inr (.inr hy),(ltO.eql hr (s4 x hy)).ne.1⟩
     ·exact⟨.inr (.inr (t2 x hx).1),(ltO.eql hr (s4 x (t2 x hx).1)).ne.1⟩
  ·have hlt:ltO n2 n:=ltO.flip (by omega)
   have hx1:∃ x∈ns2,cmpO n x=0:=by
    obtain⟨x,hx,hx0⟩:=hx
    rcases List.mem_append.1 hx with hx | hx
    ·exact absurd hx0 (ltO.trans (s3 x hx) hlt).ne.2
    ·rcases List.mem_cons.1 hx with rfl | hx
     ·omega
     ·exact⟨x,hx,hx0⟩
   have hI:∀ W,Fr [] w1 W->Calls prog 235 #[.pointer rp,encO n] W (WOPost W ns2 n):=fun W hW=>ih rp ns2 h2 n W (by omega) (htb.fr0 (fw1.then hW)) s2 hn (by omega) hx1;rw[he] at hI;have HI:=Hd hI;have hB:∀ W,Fr [] w1 W->∀ q ns' h',TT W q ns' h'->ns'.length<=ns2.length->Calls prog 267 #[.pointer lp,.pointer (some ⟨b,0,none⟩),.pointer q] W (TPost W (ns1++n2::ns')):=fun W hW q ns' h' hq hle=>balance_t lp q ns1 ns' h1 h' b n2 v2 W (hta.fr0 (fw1.then hW)) (hN.mid.fr0 (fw1.then hW)) hq (by omega);have HB:=Hd hB;have e1:decide (r<0)=false:=decide_eq_false (by omega);have e2:decide (0<r)=true:=decide_eq_true (by omega);have HS2:=Hd (fun (W:World) (hW:Fr [] w1 W)=>An (HSS.out W hW).1 (HSS.out W hW).2.1);have HLT:=Hd hlt;clear ih hT hs hn hlen hN hC2 hr hta htb hbx s1 s2 s3 s4 hl2 hK hK2 hI hB hso hso2 hst hst2 he hx hx1 n1 hw1 fw1 hz1 hlt
   go_enter func235,ntmps235
   go_upto_region 1 with fail
   try rw[HW1.out]
   refine wp_region_qall (fun W=>Fr [] w1 W) (by kernel_rfl) (by kernel_rfl) ((Fq [] w1).drew) ?_
   repeat (
    first
    | go_big_quiet_skip
    | (go_big_quiet_want
       first
       | (go_big_quiet_op
          go_big_quiet_on)
       | (apply Exists.intro
          refine⟨fun W hW=>?_,?_⟩
          ·(obtain⟨⟨x0,x1,x2,x3,x4⟩,⟨z0,z1⟩,z2,z3,z4,z5,z6⟩:=HSS.out W hW
            go_simp
            first
            | done
            | (with_reducible exact rfl)
            | (with_reducible exact⟨rfl,rfl⟩)
            | ((go_at_call 103;(with_reducible refine (HC2.out W).mono ?_);rintro e w' ⟨rfl,h⟩;exact⟨rfl,hW.then h⟩)))
          simp only[Act.put,qA,qB,qC]
          go_big_quiet_on))
    )
   refine wpQuiet_nil ?_;intro W1 hW1
   go_upto_region 5 with fail
   go_region_held3 (fun W=>((W.cell? ⟨w.heap.size,0,none⟩=some (.int .i64 n.kind)/\W.cell? ⟨w.heap.size,1,none⟩=some (.string so)/\W.cell? ⟨w.heap.size,2,none⟩=some (.int .i64 n.number)/\W.cell? ⟨w.heap.size,3,none⟩=some (.int .i64 n.index)/\W.cell? ⟨w.heap.size,4,none⟩=some (.string st)))/\W.cell? ⟨b,0,none⟩=some (.pointer lp)/\W.cell? ⟨b,1,none⟩=some (.pointer rp)) (((with_reducible refine HS2.out _ ?_;(repeat (first | exact Fq _ _ | with_reducible assumption | refine Fr.drew ?_ | refine Fr.alloc ?_ _ | refine Fr.then ?_ (Fr.undrew (by with_reducible assumption))));done))) (first
    | (go_at_call 235;(with_reducible refine (HI.out _ hW1.drew).mono ?_);rintro e w5 ⟨ns5,⟨q5,h5,rfl,ht5,hf5⟩,hs5⟩;have hk5:=hW1.then hf5.undrew;have H5:=Hd (An ht5 hs5);clear ht5 hf5 hs5)
    | (go_at_call 267;(with_reducible refine (HB.out _ hk5 _ _ _ H5.out.1 H5.out.2.2.2).mono ?_);rintro e w6 ⟨q6,h6,rfl,ht6,hf6⟩;have hk6:=hk5.then hf6;have H6:=Hd ht6;clear ht6))
   go_wp2_with fail
   go_ret
   obtain⟨hN,hr,hs,s3,s4⟩:=HN.out;obtain⟨_,t1,t2,t3⟩:=H5.out;refine⟨ns1++n2::ns5,⟨_,_,rfl,H6.out,HF1.out.then hk6⟩,srt_iff.2 ⟨⟨(srt_iff.1 hs).1.1,t1⟩,s3,fun x hx=>s4 x (t2 x hx).1⟩,fun x hx=>?_,by simp only[lla,List.length_cons];omega⟩;simp only[List.mem_append,List.mem_cons] at hx ⊢
   rcases hx with hx | rfl | hx
   ·exact⟨.inl hx,(ltO.trans (s3 x hx) HLT.out).ne.2⟩
   ·exact⟨.inr (.inl rfl),by omega⟩
   ·exact⟨.inr (.inr (t2 x hx).1),(t2 x hx).2⟩
end Go.Proofs.YtlpmiimgacfmkaaGreatDoor
