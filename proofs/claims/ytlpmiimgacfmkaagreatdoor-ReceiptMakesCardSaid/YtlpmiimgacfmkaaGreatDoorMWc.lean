/- depend: SearchInts beyond the last element, Writer. -/
import Derived.Test.YtlpmiimgacfmkaaGreatDoorMDe1
set_option linter.all false
namespace Go.Proofs.YtlpmiimgacfmkaaGreatDoor
open Go.Proofs.Tryz
open Go.RowKit Go.Shelf
set_option maxRecDepth 100000
set_option maxHeartbeats 2000000
theorem intC_len (i:Nat):(intC i).length=1:=rfl
theorem SearchFn_g (pl px b n c h v:Nat) (x:Int) (w:World) (hh:h<n) (hn:n<=1000000) (hv:(v:Int)<x) (hpl:pl<w.heap.size) (hpx:px<w.heap.size) (hb:b<w.heap.size) (h1:w.cell? ⟨pl,0,none⟩=some (.slice (some ⟨b,0,none⟩) n c)) (h2:w.cell? ⟨px,0,none⟩=some (.int .i64 x)) (h3:w.cell? ⟨b,h,none⟩=some (.int .i64 (v:Int))) :
 Calls prog 195 #[.int .i64 (h:Int),.pointer (some ⟨pl,0,none⟩),.pointer (some ⟨px,0,none⟩)] w (RetPost w (.bool false)):=by
 have HSS:=Hd (fun (W:World) (hW:Fr [] w W)=>(⟨(hW.fcell hpl (by simp) 0).trans h1,(hW.fcell hpx (by simp) 0).trans h2,(hW.fcell hb (by simp) h).trans h3⟩:W.cell? ⟨pl,0,none⟩=some (.slice (some ⟨b,0,none⟩) n c)/\W.cell? ⟨px,0,none⟩=some (.int .i64 x)/\W.cell? ⟨b,h,none⟩=some (.int .i64 (v:Int))));have hwm:IntKind.i64.wrap (h:Int)=(h:Int):=by simp only[IntKind.wrap_i64];omega
 have hlt3:(h:Int)<(n:Int):=by omega
 have hle:decide (x<=(v:Int))=false:=by simp;omega
 clear h1 h2 h3
 go_enter func195,ntmps195
 go_upto_region 1 with fail
 refine wp_region_qall (fun W=>Fr [] w W) (by kernel_rfl) (by kernel_rfl) ((Fq _ w).drew) ?_
 repeat (
  first
  | go_big_quiet_skip
  | (go_big_quiet_want
     first
     | (go_big_quiet_op
        go_big_quiet_on)
     | (apply Exists.intro
        refine⟨fun W hW=>?_,?_⟩
        ·(obtain⟨z0,z1,z2⟩:=HSS.out W hW
          go_simp
          first
          | done
          | (with_reducible exact rfl)
          | (with_reducible exact⟨rfl,rfl⟩)
          | (fail))
        simp only[Act.put,qA,qB,qC]
        go_big_quiet_on))
  )
 refine wpQuiet_nil ?_;intro W hW
 go_wp2_with fail
 go_ret
 exact⟨rfl,hW⟩
theorem Search_g (n pl px:Nat) (hn:n<=1000000) (w:World) (hF:∀ W (h:Nat),h<n->Fr [] w W->Calls prog 195 #[.int .i64 (h:Int),.pointer (some ⟨pl,0,none⟩),.pointer (some ⟨px,0,none⟩)] W (RetPost W (.bool false))):Calls prog 194 #[.int .i64 (n:Int),.func (.func 195) #[] #[.pointer (some ⟨pl,0,none⟩),.pointer (some ⟨px,0,none⟩)]] w (RetPost w (.int .i64 (n:Int))):=by
 have HF:=Hd hF;clear hF
 go_enter func194,ntmps194
 go_wp2_with fail
 go_loopw [5,6] (fun i j W=>∃ m:Nat,m<=n/\i=.int .i64 (m:Int)/\j=.int .i64 (n:Int)/\Fr [] w W) (fun i _ _=>n - (intOf i).toNat)
 case atStart=>exact⟨0,by omega,rfl,rfl,Fq _ _⟩
 case round =>
  obtain⟨m,hm,rfl,rfl,hfr⟩:=hrel;have HR:=Hd hfr;clear hfr
  by_cases hlt:m<n
  ·have hlt3:(m:Int)<(n:Int):=by omega
   obtain⟨h,hh1⟩:∃ h,h=(m+n) / 2:=⟨_,rfl⟩;have hh2:h<n:=by omega
   have hh3:((m:Int)+(n:Int)) / 2=(h:Int):=by omega
   have hh4:m<=h:=by omega
   clear hh1
   go_wp2_with ((go_at_call 195;(with_reducible refine (HF.out _ h hh2 HR.out).mono ?_);rintro e w3 ⟨rfl,hf3⟩;have H3:=Hd hf3;clear hf3))
   go_roundw
   case rel=>exact⟨h+1,by omega,by go_num,rfl,HR.out.then H3.out⟩
   case measure=>simp[intOf];omega
  ·have hge3:¬ (m:Int)<(n:Int):=by omega
   obtain rfl:m=n:=by omega
   go_wp2_with fail
   go_ret
   exact⟨rfl,HR.out⟩
theorem SearchI_g (b c:Nat) (xs:List Nat) (x:Int) (w:World) (hb:Cs w b (xs.flatMap intC)) (hx:∀ v∈xs,(v:Int)<x) (hn:xs.length<=1000000):Calls prog 164 #[.slice (some ⟨b,0,none⟩) xs.length c,.int .i64 x] w (RetPost w (.int .i64 (xs.length:Int))):=by
 obtain⟨w1,hw1,hb1,hf1⟩:=bxn w #[.slice (some ⟨b,0,none⟩) xs.length c] 36;obtain⟨w2,hw2,hb2,hf2⟩:=bxn w1 #[.int .i64 x] 3;have hc2:=(hb.fr0 (hf1.then hf2));have hb12:=hb1.fr hf2 (by simp)
 have hS:Calls prog 194 #[.int .i64 (xs.length:Int),.func (.func 195) #[] #[.pointer (some ⟨w.heap.size,0,none⟩),.pointer (some ⟨w1.heap.size,0,none⟩)]] w2 (RetPost w2 (.int .i64 (xs.length:Int))):=by
  refine Search_g xs.length w.heap.size w1.heap.size hn w2 fun W h hh hW=>?_;obtain⟨v,hv⟩:∃ v,xs[h]?=some v:=⟨_,lge hh⟩;have hc:=flat_at (f:=intC) intC_len hv (o:=0) (by omega);rw[Nat.mul_one,Nat.add_zero] at hc;exact SearchFn_g w.heap.size w1.heap.size b xs.length c h v x W hh hn (hx v (lmg hv)) (hb12.fr hW (by simp)).lt (hb2.fr hW (by simp)).lt (hc2.fr0 hW).1 ((hb12.fr hW (by simp)).c 0) ((hb2.fr hW (by simp)).c 0) ((hc2.fr0 hW).2 h _ hc)
 have hz1:w1.heap.size=w.heap.size+1:=by rw[<-hw1];simp
 obtain⟨n,hxn⟩:=nmd (xs.length);rw[hz1] at hS;have h0:=hb12.k0;rw[hxn] at hS hw1 h0 ⊢;have HS:=Hd hS;have HW1:=Hd hw1;have HW2:=Hd hw2;have HF:=Hd (hf1.then hf2);have hmf:∀ (fn:Fn) (first cap:Array Value) (w:World),(Instr.makeFunc fn first cap).run prog w=.ok (.func fn first cap) w:=fun _ _ _ _=>rfl;clear hw1 hw2 hf1 hf2 hb1 hb2 hc2 hb12 hS hx hn hb hxn
 go_enter func164,ntmps164
 go_upto_region 1 with fail
 rw[HW1.out,HW2.out]
 go_wp2_with ((go_at_call 194;(with_reducible refine HS.out.mono ?_);rintro e w3 ⟨rfl,hf3⟩;have HF3:=Hd hf3;clear hf3))
 go_ret
 exact⟨rfl,HF.out.then HF3.out⟩
set_option maxHeartbeats 4000000
def lastI (l:List Nat):Int:=match l.getLast? with | none=>-1 | some v=>(v:Int)
theorem Writer_g (g mw:Nat) (v1 v2 v3:Value) (er:List (NE ON Nat)) (n:ON) (x:Int) (w:World) (hg:BoxN w g 205 #[v1,v2,v3,.map (some mw)]) (hm:IML w mw er) (hn:checkO n=0) (hx:∀ v∈getL er n,(v:Int)<x) (hl:(getL er n).length<=1000) :
 Calls prog 104 #[.pointer (some ⟨g,0,none⟩),encO n,.int .i64 x] w (RetPost w (.int .i64 (lastI (getL er n)))):=by
 obtain⟨kl,hkl⟩:=keyOf_check hn;obtain⟨A,c,hlk,hoe,_⟩:=ML.look encO_inj key_name underlying194 zero_ints hm n hkl;obtain⟨xs,hxs⟩:=nmd (getL er n);rw[hxs] at hlk hoe hx hl ⊢;obtain⟨so,hso,_,_⟩:=str_of n.owner;obtain⟨st,hst,_,_⟩:=str_of n.text;rw[encO_str hso hst] at hlk ⊢;obtain⟨w1,hw1,hb1,hf1⟩:=bxn w #[.int .i64 n.kind,.string so,.int .i64 n.number,.int .i64 n.index,.string st] 31;have HSS:=Hd (fun (W:World) (hW:Fr [] w1 W)=>(⟨(hg.fr (hf1.then hW) (by simp)).c 3,hlk W ((hf1.then hW).block _ hm.map.lt (by simp)),(hb1.fr hW (by simp)).c 0,(hb1.fr hW (by simp)).c 1,(hb1.fr hW (by simp)).c 2,(hb1.fr hW (by simp)).c 3,(hb1.fr hW (by simp)).c 4⟩:W.cell? ⟨g,3,none⟩=some (.map (some mw))/\(Instr.lookup 194 (.map (some mw)) (.agg #[.int .i64 n.kind,.string so,.int .i64 n.number,.int .i64 n.index,.string st]) false).run prog W=.ok (.slice A xs.length c) W/\W.cell? ⟨w.heap.size,0,none⟩=some (.int .i64 n.kind)/\W.cell? ⟨w.heap.size,1,none⟩=some (.string so)/\W.cell? ⟨w.heap.size,2,none⟩=some (.int .i64 n.number)/\W.cell? ⟨w.heap.size,3,none⟩=some (.int .i64 n.index)/\W.cell? ⟨w.heap.size,4,none⟩=some (.string st)));have HW1:=Hd hw1;have HF1:=Hd hf1;obtain⟨m,hxm⟩:=nmd (xs.length)
 have hsearch:∀ W,Fr [] w W->Calls prog 164 #[.slice A m c,.int .i64 x] W (RetPost W (.int .i64 (m:Int))):=fun W hW=>by
  rcases Nat.eq_zero_or_pos m with h0 | h0
  ·rw[hxm,h0] at hoe
   have hA:A=none \/ ∃ g,A=some ⟨g,0,none⟩:=by
    rcases hoe.2 with ⟨hv,_⟩ | ⟨g,cap,cur,hv,_⟩
    ·injection hv with hv;exact .inl hv
    ·injection hv with hv;exact .inr ⟨g,hv⟩
   have hx0:xs=[]:=List.length_eq_zero_iff.1 (by omega)
   rcases hA with rfl | ⟨g,rfl⟩
   ·have hc0:c=0:=by
     rcases hoe.2 with ⟨hv,_⟩ | ⟨g,cap,cur,hv,_⟩
     ·injection hv
     ·injection hv with hv;cases hv
    subst hc0;rw[h0];exact SearchI_nil x W
   ·have hgl:=hoe.lt g (by simp[blk])
    rw[h0];exact SearchI_g g c [] x W ⟨Nat.lt_of_lt_of_le hgl hW.size,by simp⟩ (by simp) (by simp)
  ·obtain⟨g,rfl,hgc⟩:=Cs.of_own hoe (by omega)
   rw[<-hxm];exact SearchI_g g c xs x W (hgc.fr0 hW) hx (by omega)
 have HS:=Hd (An hsearch (An hoe hxm));rw[hxm] at HSS hl;clear hw1 hb1 hf1 hg hm hn hkl hlk hoe hx hso hst hsearch hxs
 go_enter func104,ntmps104
 go_upto_region 1 with fail
 rw[HW1.out]
 go_upto_region 3 with fail
 refine wp_region_qall (fun W=>Fr [] w1 W) (by kernel_rfl) (by kernel_rfl) ((Fq _ w1).drew) ?_
 repeat (
  first
  | go_big_quiet_skip
  | (go_big_quiet_want
     first
     | (go_big_quiet_op
        go_big_quiet_on)
     | (apply Exists.intro
        refine⟨fun W hW=>?_,?_⟩
        ·(obtain⟨z0,lk,y0,y1,y2,y3,y4⟩:=HSS.out W hW
          go_simp
          first
          | done
          | (with_reducible exact rfl)
          | (with_reducible exact⟨rfl,rfl⟩)
          | (fail))
        simp only[Act.put,qA,qB,qC]
        go_big_quiet_on))
  )
 refine wpQuiet_nil ?_;intro W hW
 rcases Nat.eq_zero_or_pos m with h0 | h0
 ·have hx0:xs=[]:=List.length_eq_zero_iff.1 (by omega)
  subst h0;have HS1:=Hd (HS.out.1 W (HF1.out.then hW));simp only[Int.natCast_zero] at HS1
  go_wp2_with ((go_at_call 164;(with_reducible refine HS1.out.mono ?_);rintro e w3 ⟨rfl,hf3⟩;have HF3:=Hd hf3;clear hf3))
  go_ret
  subst hx0;exact⟨rfl,(HF1.out.then hW).then HF3.out⟩
 ·obtain⟨g2,rfl,hgc⟩:=Cs.of_own HS.out.2.1 (by omega)
  obtain⟨j,hjm⟩:∃ j,j+1=m:=⟨m - 1,by omega⟩;obtain⟨v,hv⟩:∃ v,xs[j]?=some v:=⟨_,lge (by omega)⟩;have hc:=flat_at (f:=intC) intC_len hv (o:=0) (by omega);rw[Nat.mul_one,Nat.add_zero] at hc
  have hlast:lastI xs=(v:Int):=by
   unfold lastI;rw[List.getLast?_eq_getElem?,HS.out.2.2,show m - 1=j by omega,hv]
  have HL:=Hd hlast;have HC:=Hd (fun (W:World) (hW:Fr [] w W)=>((hgc.fr0 hW).2 j _ hc:W.cell? ⟨g2,j,none⟩=some (.int .i64 (v:Int))));have hne:((m:Int) == 0)=false:=by simp;omega
  have hsub:(m:Int) - 1=(j:Int):=by omega
  have hwj:IntKind.i64.wrap (j:Int)=(j:Int):=by simp only[IntKind.wrap_i64];omega
  have hlt3:(j:Int)<(m:Int):=by omega
  have HS1:=Hd (HS.out.1 W (HF1.out.then hW));clear hgc hc hlast
  go_wp2_with ((go_at_call 164;(with_reducible refine HS1.out.mono ?_);rintro e w3 ⟨rfl,hf3⟩;have hc3:w3.cell? ⟨g2,j,none⟩=some (.int .i64 (v:Int)):=HC.out w3 ((HF1.out.then hW).then hf3);have HF3:=Hd hf3;clear hf3))
  go_ret
  exact⟨by rw[HL.out];rfl,(HF1.out.then hW).then HF3.out⟩
theorem CheckG_g (g b c kc n i:Nat) (K:Option Addr) (v2 v3 v4:Value) (w:World) (hi:i<n) (hn:n<=1000) (hg:BoxN w g 205 #[.slice K n kc,v2,v3,v4]) (hb:Cs w b [.int .i64 (i:Int)]) :
 Calls prog 105 #[.pointer (some ⟨g,0,none⟩),.slice (some ⟨b,0,none⟩) 1 c] w (RetPost w (.int .i64 0)):=by
 have z0:=hg.k0;have h0:=hb.k0;have h1:decide (n<=i)=false:=by simp;omega
 have h2:decide ((i:Int)<0)=false:=by simp
 clear hg hb
 go_enter func105,ntmps105
 go_upto_region 4 with fail
 refine wp_loop_rounds 2 ?_;rw[rounds_succ]
 go_wp2_with fail
 rw[rounds_succ]
 go_wp2_with fail
 go_ret
 exact⟨rfl,Fq _ _⟩
open Go.RowKit
def GM (g mw Lk Us:Nat) (K:Option Addr):List Nat:=g::mw::Lk::Us::blk K
structure GIs (w:World) (g mw Lk Us n c:Nat) (K:Option Addr) (ks:List Value) (l u:Array Value) (kv:List (Value × Value)) (PW:World->Prop):Prop where
 box:BoxN w g 205 #[.slice K n c,.slice (some ⟨Lk,0,none⟩) 3 3,.slice (some ⟨Us,0,none⟩) 3 3,.map (some mw)]
 own:Own w 89 4 K n c ks
 lb:BoxN w Lk 61 l
 ub:BoxN w Us 61 u
 wm:MapIs prog 31 w mw kv
 d1:g≠mw/\g≠Lk/\g≠Us/\mw≠Lk/\mw≠Us/\Lk≠Us
 d2:g ∉ blk K/\mw ∉ blk K/\Lk ∉ blk K/\Us ∉ blk K
 kept:Kept (GM g mw Lk Us K) w PW
section
variable {X Y Z:World} {g mw Lk Us n n' c c':Nat} {K K':Option Addr} {ks ks':List Value} {l u l' u':Array Value} {kv kv':List (Value × Value)} {PW Q:World->Prop}
theorem GIs.lt (h:GIs X g mw Lk Us n c K ks l u kv PW):∀ k∈GM g mw Lk Us K,k<X.heap.size:=fun k hk=>by
 simp only[GM,List.mem_cons] at hk
 rcases hk with rfl | rfl | rfl | rfl | hk
 ·exact h.box.lt
 ·exact h.wm.lt
 ·exact h.lb.lt
 ·exact h.ub.lt
 ·exact h.own.lt k hk
end
theorem info_linkS:∃ i,(prog).info? 61=some i/\i.zero=some (.slice none 0 0)/\i.size=1/\i.bytes=24:=info_parts (by kernel_rfl)
theorem info_link:∃ i,(prog).info? 98=some i/\i.zero=some (.agg #[.int .i64 0,.int .i64 0,.int .i64 0,.string ⟨#[]⟩,.int .i64 0,.int .i64 0,.string ⟨#[]⟩])/\i.size=7/\i.bytes=72:=info_parts (by kernel_rfl)
theorem info_key:∃ i,(prog).info? 89=some i/\i.zero=some (.agg #[.int .i64 0,.int .i64 0,.int .i64 0,.string ⟨#[]⟩])/\i.size=4/\i.bytes=40:=info_parts (by kernel_rfl)
theorem headI_three {P:Program} {md:Region.Mode} {ops:Array Oper} {Q:Exit->Act->World->Prop} {C:World->Prop} {n:Nat} {L:Array Bool->Act->World->Prop} {i j m:Nat} {oi oj om:Oper} {f:Nat} {S:Array Bool} {a:Act} {w:World} (hr:Region.ready md ops S=[i,j,m]) (hin:i<n) (hjn:j<n) (hmn:m<n) (hi:ops[i]?=some oi) (hj:ops[j]?=some oj) (hm:ops[m]?=some om)
 (h1:∀ K:Act->World->Prop,(∀ a' w',C w'->headI P md ops Q C n L f (S.setIfInBounds i true) a' w'->K a' w')->if Region.wanted oi (yielded ops a.tmps)=true then oi.wp P a w K Q else K (a.put oi.dst undef) w)
 (h2:∀ K:Act->World->Prop,(∀ a' w',C w'->headI P md ops Q C n L f (S.setIfInBounds j true) a' w'->K a' w')->if Region.wanted oj (yielded ops a.tmps)=true then oj.wp P a w K Q else K (a.put oj.dst undef) w)
 (h3:∀ K:Act->World->Prop,(∀ a' w',C w'->headI P md ops Q C n L f (S.setIfInBounds m true) a' w'->K a' w')->if Region.wanted om (yielded ops a.tmps)=true then om.wp P a w K Q else K (a.put om.dst undef) w):headI P md ops Q C n L (f+1) S a w:=by
 intro inv;refine⟨by rw[hr];simp,fun x hx=>?_⟩;have hi0:i∈Region.ready md ops S:=by rw[hr];simp
 have hj0:j∈Region.ready md ops S:=by rw[hr];simp
 have hm0:m∈Region.ready md ops S:=by rw[hr];simp
 rw[hr] at hx;simp only[List.mem_cons,List.not_mem_nil,or_false] at hx
 rcases hx with rfl | rfl | rfl
 ·exact⟨hin,wpOp_step hi fun K hK=>h1 K fun a' w' hC hW=>hK a' w' ⟨hC,hW (inv.set hi0 hin)⟩⟩
 ·exact⟨hjn,wpOp_step hj fun K hK=>h2 K fun a' w' hC hW=>hK a' w' ⟨hC,hW (inv.set hj0 hjn)⟩⟩
 ·exact⟨hmn,wpOp_step hm fun K hK=>h3 K fun a' w' hC hW=>hK a' w' ⟨hC,hW (inv.set hm0 hmn)⟩⟩
structure LK where
 f:Int
 t:Nat
 n:ON
def LK.cs (x:LK):List Value:=[.int .i64 x.f,.int .i64 (x.t:Int),.int .i64 x.n.kind,encN x.n.owner,.int .i64 x.n.number,.int .i64 x.n.index,encN x.n.text]
theorem lk_len (x:LK):x.cs.length=7:=rfl
theorem lk_one (x:LK):∀ u∈x.cs,u.oneCell'=true:=by
 intro u hu;simp only[LK.cs,List.mem_cons,List.not_mem_nil,or_false] at hu
 rcases hu with rfl | rfl | rfl | rfl | rfl | rfl | rfl <;> first | rfl | exact encN_one _
structure LR where
 A:Option Addr
 c:Nat
 xs:List LK
def LR.v (r:LR):Value:=.slice r.A r.xs.length r.c
def LR.own (w:World) (r:LR):Prop:=Own w 98 7 r.A r.xs.length r.c (r.xs.flatMap LK.cs)
def blsR (rs:List LR):List Nat:=rs.flatMap fun r=>blk r.A
structure RL (w:World) (B:Nat) (rs:List LR):Prop where
 box:BoxN w B 61 (rs.map LR.v).toArray
 own:∀ r∈rs,r.own w
 dj:rs.Pairwise fun r s=>∀ k∈blk r.A,k ∉ blk s.A
section
variable {w w' w1 w2:World} {B:Nat} {rs:List LR} {S:List Nat} {ts:List TypeId}
theorem RL.fr (h:RL w B rs) (hf:Fr S w w') (hB:B ∉ S) (hS:∀ k∈blsR rs,k ∉ S):RL w' B rs :=
 ⟨h.box.fr hf hB,fun r hr=>(h.own r hr).fr hf (fun k hk=>hS k (List.mem_flatMap.2 ⟨r,hr,hk⟩)),h.dj⟩
theorem RL.fr0 (h:RL w B rs) (hf:Fr [] w w'):RL w' B rs:=h.fr hf (by simp) (by simp)
theorem RL.frT (h:RL w B rs) (hf:Fr S w w') (hS:NoT [98,61] w S):RL w' B rs :=
 ⟨h.box.frT hf hS (by simp),fun r hr=>Own.frT (h.own r hr) hf hS (by simp),h.dj⟩
theorem RL.noT (h:RL w B rs) (h1:98 ∉ ts) (h2:61 ∉ ts):NoT ts w (B::blsR rs) :=
 ((NoT.box h.box h2).app (T:=blsR rs) fun k hk cur e z he=>by
  obtain⟨r,hr,hm⟩:=List.mem_flatMap.1 hk;exact NoT.own (h.own r hr) h1 k hm cur e z he).mem (by simp)
theorem RL.lt (h:RL w B rs):∀ k∈blsR rs,k<w.heap.size:=fun k hk=>by
 obtain⟨r,hr,hm⟩:=List.mem_flatMap.1 hk;exact (h.own r hr).lt k hm
theorem RL.nB (h:RL w B rs):B ∉ blsR rs:=fun hk=>by
 obtain⟨r,hr,hm⟩:=List.mem_flatMap.1 hk;have:=NoT.own (ts:=[61]) (h.own r hr) (by decide) B hm _ _ _ h.box;simp at this
theorem blsR_mid {l1 l2:List LR} {r:LR} {k:Nat}:k∈blsR (l1++r::l2) ↔ k∈blsR l1 \/ k∈blk r.A \/ k∈blsR l2:=by
 unfold blsR;rw[List.flatMap_append,List.flatMap_cons,List.mem_append,List.mem_append]
theorem RL.put {l1 l2:List LR} {r:LR} {A':Option Addr} {c':Nat} {x:LK} (h:RL w B (l1++r::l2)) (f1:Fr (blk r.A) w w1) (ho:Own w1 98 7 A' (r.xs.length+1) c' (r.xs.flatMap LK.cs++x.cs)) (hA:∀ k∈blk A',k∈blk r.A \/ w.heap.size<=k) (hw2:w1.setCell ⟨B,l1.length,none⟩ (.slice A' (r.xs.length+1) c')=w2) :
 RL w2 B (l1++⟨A',c',r.xs++[x]⟩::l2)/\Fr (B::blk r.A) w w2/\∀ k∈blsR (l1++⟨A',c',r.xs++[x]⟩::l2),k∈blsR (l1++r::l2) \/ w.heap.size<=k:=by
 have hnB:=h.nB;have hBr:B ∉ blk r.A:=fun hm=>hnB (blsR_mid.2 (.inr (.inl hm)));have hb1:=h.box.fr f1 hBr;have f2:Fr [B] w1 w2:=by rw[<-hw2];exact (Fq [B] w1).set (.inl (by simp)) _
 have hBlt:=h.box.lt
 have hBA':B ∉ blk A':=fun hm=>by
  rcases hA B hm with h1 | h1
  ·exact hBr h1
  ·omega
 have hdj:=h.dj;rw[List.pairwise_append,List.pairwise_cons] at hdj;obtain⟨d1,⟨d2,d3⟩,d4⟩:=hdj;have hf:Fr (B::blk r.A) w w2:=(f1.mono (fun k hk=>.inl (by simp[hk]))).trans f2 (by simp)
 have hold:∀ s∈l1++l2,s.own w2:=fun s hs=>by
  have hm:s∈l1++r::l2:=by
   rcases List.mem_append.1 hs with h1 | h1
   ·simp[h1]
   ·simp[h1]
  refine (h.own s hm).fr hf fun k hk hkS=>?_
  rcases List.mem_cons.1 hkS with rfl | hkr
  ·exact hnB (List.mem_flatMap.2 ⟨s,hm,hk⟩)
  ·rcases List.mem_append.1 hs with h1 | h1
   ·exact d4 s h1 r (by simp) k hk hkr
   ·exact d2 s h1 k hkr hk
 have hlt:∀ s∈l1++l2,∀ k∈blk s.A,k<w.heap.size:=fun s hs k hk=>by
  have hm:s∈l1++r::l2:=by
   rcases List.mem_append.1 hs with h1 | h1
   ·simp[h1]
   ·simp[h1]
  exact (h.own s hm).lt k hk
 refine⟨⟨?_,?_,?_⟩,hf,?_⟩
 ·have:=hb1.setAt l1.length (.slice A' (r.xs.length+1) c')
  rw[hw2] at this
  have he:((l1++r::l2).map LR.v).toArray.setIfInBounds l1.length (.slice A' (r.xs.length+1) c')=((l1++⟨A',c',r.xs++[x]⟩::l2).map LR.v).toArray:=by
   simp[LR.v]
  rw[he] at this;exact this
 ·intro s hs
  rcases List.mem_append.1 hs with h1 | h1
  ·exact hold s (by simp[h1])
  ·rcases List.mem_cons.1 h1 with rfl | h1
   ·show Own w2 98 7 A' (r.xs++[x]).length c' ((r.xs++[x]).flatMap LK.cs)
    rw[lla,List.flatMap_append];have:=ho.fr f2 (fun k hk=>by simp only[lms];rintro rfl;exact hBA' hk);simpa using this
   ·exact hold s (by simp[h1])
 ·rw[List.pairwise_append,List.pairwise_cons]
  refine⟨d1,⟨fun s hs k hk hk2=>?_,d3⟩,fun s hs t ht k hk hk2=>?_⟩
  ·rcases hA k hk with h1 | h1
   ·exact d2 s hs k h1 hk2
   ·have:=hlt s (by simp[hs]) k hk2;omega
  ·rcases List.mem_cons.1 ht with rfl | ht
   ·rcases hA k hk2 with h1 | h1
    ·exact d4 s hs r (by simp) k hk h1
    ·have:=hlt s (by simp[hs]) k hk;omega
   ·exact d4 s hs t (by simp[ht]) k hk hk2
 ·intro k hk
  rcases blsR_mid.1 hk with h1 | h1 | h1
  ·exact .inl (blsR_mid.2 (.inl h1))
  ·rcases hA k h1 with h2 | h2
   ·exact .inl (blsR_mid.2 (.inr (.inl h2)))
   ·exact .inr h2
  ·exact .inl (blsR_mid.2 (.inr (.inr h1)))
end
def GB (g mw Lk Us:Nat) (K:Option Addr) (Rl Ru:List LR) (er:List (NE ON Nat)):List Nat:=g::mw::Lk::Us::(blk K++(blsR Rl++(blsR Ru++blsL er)))
structure GS (w:World) (g mw Lk Us n:Nat) (K:Option Addr) (nk kc:Nat) (ks:List Value) (Rl Ru:List LR) (er:List (NE ON Nat)):Prop where
 box:BoxN w g 205 #[.slice K nk kc,.slice (some ⟨Lk,0,none⟩) n n,.slice (some ⟨Us,0,none⟩) n n,.map (some mw)]
 own:Own w 89 4 K nk kc ks
 rl:RL w Lk Rl
 ru:RL w Us Ru
 wm:IML w mw er
 ne:Lk≠Us
 dj:∀ k∈blsR Rl,k ∉ blsR Ru
 ln:Rl.length=n/\Ru.length=n
section
variable {w w' X:World} {g mw Lk Us n nk kc:Nat} {K:Option Addr} {ks:List Value} {Rl Ru:List LR} {er:List (NE ON Nat)} {S:List Nat} {ts:List TypeId}
theorem GS.fr0 (h:GS w g mw Lk Us n K nk kc ks Rl Ru er) (hf:Fr [] w w'):GS w' g mw Lk Us n K nk kc ks Rl Ru er :=
 ⟨h.box.fr hf (by simp),h.own.fr hf (by simp),h.rl.fr0 hf,h.ru.fr0 hf,ML.fr0 h.wm hf,h.ne,h.dj,h.ln⟩
theorem GS.noT (h:GS w g mw Lk Us n K nk kc ks Rl Ru er) (h1:205 ∉ ts) (h2:89 ∉ ts) (h3:98 ∉ ts) (h4:61 ∉ ts) (h5:3 ∉ ts):NoT ts w (GB g mw Lk Us K Rl Ru er) :=
 ((((NoT.box h.box h1).app (NoT.map h.wm.map)).app ((h.rl.noT h3 h4).app (h.ru.noT h3 h4))).app ((NoT.own h.own h2).app (ML.noT h.wm h5))).mem (by
  intro k hk;simp only[GB,List.mem_cons,List.mem_append,lms,List.not_mem_nil,or_false] at hk ⊢
  rcases hk with h | h | h | h | h | h | h | h <;> simp[h])
theorem GS.noS (h:GS w g mw Lk Us n K nk kc ks Rl Ru er):NoT (91::tyS) w (GB g mw Lk Us K Rl Ru er):=h.noT (by decide) (by decide) (by decide) (by decide) (by decide)
theorem GS.lt (h:GS w g mw Lk Us n K nk kc ks Rl Ru er):∀ k∈GB g mw Lk Us K Rl Ru er,k<w.heap.size:=fun k hk=>by
 simp only[GB,List.mem_cons,List.mem_append] at hk
 rcases hk with rfl | rfl | rfl | rfl | hk | hk | hk | hk
 ·exact h.box.lt
 ·exact h.wm.map.lt
 ·exact h.rl.box.lt
 ·exact h.ru.box.lt
 ·exact h.own.lt k hk
 ·exact h.rl.lt k hk
 ·exact h.ru.lt k hk
 ·exact ML.lt h.wm k hk
theorem GS.putL {Rl':List LR} {r:LR} (h:GS w g mw Lk Us n K nk kc ks Rl Ru er) (hf:Fr (Lk::blk r.A) w w') (hr:r∈Rl) (hl:RL w' Lk Rl') (hb:∀ k∈blsR Rl',k∈blsR Rl \/ w.heap.size<=k) (hn:Rl'.length=n):GS w' g mw Lk Us n K nk kc ks Rl' Ru er:=by
 have hrb:∀ k∈blk r.A,k∈blsR Rl:=fun k hk=>List.mem_flatMap.2 ⟨r,hr,hk⟩
 have hN:∀ ts:List TypeId,98 ∉ ts->61 ∉ ts->NoT ts w (Lk::blk r.A):=fun ts h1 h2=>(h.rl.noT h1 h2).mem (by
  intro k hk
  rcases List.mem_cons.1 hk with rfl | hk
  ·simp
  ·simp[hrb k hk])
 have hm:mw ∉ Lk::blk r.A:=fun hm=>by
  rcases List.mem_cons.1 hm with e | hm
  ·obtain⟨es2,clock,h3,_⟩:=h.wm.map
   rw[e,show w.heap[Lk]?=_ from h.rl.box] at h3
   cases h3
  ·rcases (h.rl.own r hr).2 with ⟨hv,_⟩ | ⟨g,cap,cur,hv,_,hg,_⟩
   ·injection hv with hv;rw[hv] at hm;simp[blk] at hm
   ·injection hv with hv
    rw[hv] at hm;simp only[blk,Option.map_some,Option.toList_some,lms] at hm;obtain⟨es2,clock,h3,_⟩:=h.wm.map;rw[hm,hg] at h3
    cases h3
 refine⟨h.box.frT hf (hN [205] (by decide) (by decide)) (by simp),h.own.frT hf (hN [89] (by decide) (by decide)) (by simp),hl,h.ru.fr hf ?_ ?_,ML.frT h.wm hf hm (hN [3] (by decide) (by decide)),h.ne,fun k hk hk2=>?_,⟨hn,h.ln.2⟩⟩
 ·simp only[List.mem_cons,not_or]
  refine⟨Ne.symm h.ne,fun hm=>?_⟩;have:=NoT.own (ts:=[61]) (h.rl.own r hr) (by decide) Us hm _ _ _ h.ru.box;simp at this
 ·intro k hk hm
  rcases List.mem_cons.1 hm with rfl | hm
  ·have:=h.ru.noT (ts:=[61]) (by decide)
   obtain⟨s,hs,hks⟩:=List.mem_flatMap.1 hk;have:=NoT.own (ts:=[61]) (h.ru.own s hs) (by decide) k hks _ _ _ h.rl.box;simp at this
  ·exact h.dj k (hrb k hm) hk
 ·rcases hb k hk with h1 | h1
  ·exact h.dj k h1 hk2
  ·have:=h.ru.lt k hk2;omega
theorem GS.putU {Ru':List LR} {r:LR} (h:GS w g mw Lk Us n K nk kc ks Rl Ru er) (hf:Fr (Us::blk r.A) w w') (hr:r∈Ru) (hl:RL w' Us Ru') (hb:∀ k∈blsR Ru',k∈blsR Ru \/ w.heap.size<=k) (hn:Ru'.length=n):GS w' g mw Lk Us n K nk kc ks Rl Ru' er:=by
 have hrb:∀ k∈blk r.A,k∈blsR Ru:=fun k hk=>List.mem_flatMap.2 ⟨r,hr,hk⟩
 have hN:∀ ts:List TypeId,98 ∉ ts->61 ∉ ts->NoT ts w (Us::blk r.A):=fun ts h1 h2=>(h.ru.noT h1 h2).mem (by
  intro k hk
  rcases List.mem_cons.1 hk with rfl | hk
  ·simp
  ·simp[hrb k hk])
 have hm:mw ∉ Us::blk r.A:=fun hm=>by
  rcases List.mem_cons.1 hm with e | hm
  ·obtain⟨es2,clock,h3,_⟩:=h.wm.map
   rw[e,show w.heap[Us]?=_ from h.ru.box] at h3
   cases h3
  ·rcases (h.ru.own r hr).2 with ⟨hv,_⟩ | ⟨g,cap,cur,hv,_,hg,_⟩
   ·injection hv with hv;rw[hv] at hm;simp[blk] at hm
   ·injection hv with hv
    rw[hv] at hm;simp only[blk,Option.map_some,Option.toList_some,lms] at hm;obtain⟨es2,clock,h3,_⟩:=h.wm.map;rw[hm,hg] at h3
    cases h3
 refine⟨h.box.frT hf (hN [205] (by decide) (by decide)) (by simp),h.own.frT hf (hN [89] (by decide) (by decide)) (by simp),h.rl.fr hf ?_ ?_,hl,ML.frT h.wm hf hm (hN [3] (by decide) (by decide)),h.ne,fun k hk hk2=>?_,⟨h.ln.1,hn⟩⟩
 ·simp only[List.mem_cons,not_or]
  refine⟨h.ne,fun hm=>?_⟩;have:=NoT.own (ts:=[61]) (h.ru.own r hr) (by decide) Lk hm _ _ _ h.rl.box;simp at this
 ·intro k hk hm
  rcases List.mem_cons.1 hm with rfl | hm
  ·obtain⟨s,hs,hks⟩:=List.mem_flatMap.1 hk
   have:=NoT.own (ts:=[61]) (h.rl.own s hs) (by decide) k hks _ _ _ h.ru.box;simp at this
  ·exact h.dj k hk (hrb k hm)
 ·rcases hb k hk2 with h1 | h1
  ·exact h.dj k hk h1
  ·have:=h.rl.lt k hk;omega
theorem GS.putW {er':List (NE ON Nat)} (h:GS w g mw Lk Us n K nk kc ks Rl Ru er) (hf:Fr (mw::blsL er) w w') (hm:IML w' mw er'):GS w' g mw Lk Us n K nk kc ks Rl Ru er':=by
 have hN:∀ ts:List TypeId,3 ∉ ts->NoT ts w (mw::blsL er):=fun ts ht=>((NoT.map h.wm.map).app (ML.noT h.wm ht)).mem (by simp);exact⟨h.box.frT hf (hN [205] (by decide)) (by simp),h.own.frT hf (hN [89] (by decide)) (by simp),h.rl.frT hf (hN _ (by decide)),h.ru.frT hf (hN _ (by decide)),hm,h.ne,h.dj,h.ln⟩
theorem GS.putK {K':Option Addr} {nk' kc':Nat} {ks':List Value} (h:GS w g mw Lk Us n K nk kc ks Rl Ru er) (f1:Fr (blk K) w X) (ho:Own X 89 4 K' nk' kc' ks') (hK:∀ k∈blk K',k∈blk K \/ w.heap.size<=k) (f2:Fr [g] X w')
 (hb:BoxN w' g 205 #[.slice K' nk' kc',.slice (some ⟨Lk,0,none⟩) n n,.slice (some ⟨Us,0,none⟩) n n,.map (some mw)]):GS w' g mw Lk Us n K' nk' kc' ks' Rl Ru er:=by
 have hf:Fr (g::blk K) w w':=(f1.mono (fun k hk=>.inl (by simp[hk]))).trans f2 (by simp);have hN:∀ ts:List TypeId,205 ∉ ts->89 ∉ ts->NoT ts w (g::blk K):=fun ts h1 h2=>((NoT.box h.box h1).app (NoT.own h.own h2)).mem (by simp)
 have hm:mw ∉ g::blk K:=fun hm=>by
  rcases List.mem_cons.1 hm with e | hm
  ·obtain⟨es2,clock,h3,_⟩:=h.wm.map
   rw[e,show w.heap[g]?=_ from h.box] at h3
   cases h3
  ·rcases h.own.2 with ⟨hv,_⟩ | ⟨g,cap,cur,hv,_,hg,_⟩
   ·injection hv with hv;rw[hv] at hm;simp[blk] at hm
   ·injection hv with hv
    rw[hv] at hm;simp only[blk,Option.map_some,Option.toList_some,lms] at hm;obtain⟨es2,clock,h3,_⟩:=h.wm.map;rw[hm,hg] at h3
    cases h3
 have hgK:g ∉ blk K':=fun hk=>by
  rcases hK g hk with h1 | h1
  ·have:=NoT.own (ts:=[205]) h.own (by decide) g h1 _ _ _ h.box
   simp at this
  ·have:=h.box.lt;omega
 exact⟨hb,ho.fr f2 (by intro k hk;simp only[lms];rintro rfl;exact hgK hk),h.rl.frT hf (hN _ (by decide) (by decide)),h.ru.frT hf (hN _ (by decide) (by decide)),ML.frT h.wm hf hm (hN [3] (by decide) (by decide)),h.ne,h.dj,h.ln⟩
end
theorem wp_then_via {P:Program} {c:Code} {K:Act->World->Prop} {Q:Exit->Act->World->Prop} {a:Act} {w:World} (R:Act->World->Prop) (h:c.wp P (Exit.then R (fun _ _ _=>False)) a w) (hk:∀ a' w',R a' w'->K a' w'):c.wp P (Exit.then K Q) a w :=
 wp_mono h fun e a w h=>by cases e <;> first | exact hk _ _ h | exact h.elim
end Go.Proofs.YtlpmiimgacfmkaaGreatDoor
