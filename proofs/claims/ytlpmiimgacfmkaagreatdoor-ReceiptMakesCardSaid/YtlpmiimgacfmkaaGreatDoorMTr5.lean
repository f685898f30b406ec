/- logtree: include, Include, Root. -/
import Derived.Test.YtlpmiimgacfmkaaGreatDoorMLt2
import Derived.Test.YtlpmiimgacfmkaaGreatDoorMWr3
import Derived.Test.YtlpmiimgacfmkaaGreatDoorMRf1
import Derived.Test.YtlpmiimgacfmkaaGreatDoorMGj
import Derived.Test.YtlpmiimgacfmkaaGreatDoorMQt
set_option linter.all false
namespace Go.Proofs.YtlpmiimgacfmkaaGreatDoor
open Go.Proofs.Tryz
open Go.RowKit
set_option maxRecDepth 100000
set_option maxHeartbeats 4000000
def ListPost (w:World) (ds:List Nm) (e:Ending) (w':World):Prop:=∃ A c,e=.returned (.slice A ds.length c)/\Own w' 57 32 A ds.length c (ds.flatMap dCells)/\Fr [] w w'/\∀ k∈blk A,w.heap.size<=k
theorem inc_nil (b:Nat) (i f:Int) (w:World):Calls prog 125 #[.pointer (some ⟨b,0,none⟩),.int .i64 i,.int .i64 f,.int .i64 1] w (ListPost w []):=by
 go_enter func125,ntmps125
 go_wp2_with fail
 go_ret
 exact⟨none,0,rfl,Own.nil _ _ _,Fq [] w,by simp[blk]⟩
def ListPost2 (w:World) (ds:List Nm) (e:Ending) (w':World):Prop:=∃ A c,e=.returned (.tuple #[.slice A ds.length c,.int .i64 0])/\Own w' 57 32 A ds.length c (ds.flatMap dCells)/\Fr [] w w'/\∀ k∈blk A,w.heap.size<=k
open Go.RowKit Go.Shelf
set_option maxHeartbeats 1000000
attribute [local go_sem] Oper.semAt_some
theorem yieldAt_wide {m m':Nat} {P:Program} {l:Nat} {args:Array Value} {W:World} {R:Ending->World->Prop} (h:YieldAt Fence.wide m P l args W R):YieldAt Fence.wide m' P l args W R:=by
 obtain⟨fn,tmps,assign,body,h1,h2⟩:=h;exact⟨fn,tmps,assign,body,h1,h2.1,fun c cs _=>h2.2 c cs (room_wide _)⟩
def Tru (R:World->Prop) (e:Ending) (w':World):Prop:=e=.returned (.bool true)/\R w'
theorem climb_one (n:Nat) (i:Int) (f:Value) (W:World) (R:World->Prop) (h:R W):CallsIn Fence.wide n prog 259 #[.int .i64 i,.int .i64 1,f] W (Tru R):=by
 refine callsIn_wide.2 ?_
 go_enter func259,ntmps259
 go_wp2_with fail
 go_ret
 exact⟨rfl,h⟩
theorem steps_any (i n:Int) (w:World):Calls prog 218 #[.int .i64 i,.int .i64 n] w fun e w'=>e=.returned (.func (.func 258) #[] #[.pointer (some ⟨w.heap.size,0,none⟩),.pointer (some ⟨w.heap.size+1,0,none⟩)])/\w'=(w.alloc (.cells #[.int .i64 i] 3)).alloc (.cells #[.int .i64 n] 3):=by
 go_enter func218,ntmps218
 go_wp2_with fail
 go_ret
 exact⟨rfl,rfl⟩
end Go.Proofs.YtlpmiimgacfmkaaGreatDoor
namespace Go.Proofs.YtlpmiimgacfmkaaGreatDoor
open Go.Proofs.Tryz
open Go.RowKit Go.Shelf
set_option maxRecDepth 100000
set_option maxHeartbeats 2000000
attribute [local go_sem] Oper.semAt_some
def TG.bs:TG->List Nat
 | .nil=>[]
 | .node b l _ _ _ _ _ r=>l.bs++b::r.bs
theorem TG.bs_len:∀ t:TG,t.bs.length=t.cnt
 | .nil=>rfl
 | .node b l _ _ _ _ _ r=>by simp[TG.bs,TG.cnt,TG.bs_len l,TG.bs_len r];omega
theorem each_g (l:Nat) (J:Nat->World->Prop):∀ (t:TG) (n k:Nat) (W:World),(∀ k W,J k W->TGat W t)->(∀ i x W1,t.bs[i]?=some x->J (k+i) W1->YieldAt Fence.wide 0 prog l #[.pointer (some ⟨x,0,none⟩)] W1 fun e W'=>e=.returned (.bool true)/\J (k+i+1) W')->J k W ->
 CallsIn Fence.wide n prog 156 #[t.ptr,.func (.yield l) #[] #[]] W (Tru (J (k+t.cnt))):=by
 intro t
 induction t with
 | nil =>
  intro n k W _ _ hJ
  exact (each_nil_in n _ W).mono fun e W' ⟨h1,h2⟩=>⟨h1,by rw[h2];exact hJ⟩
 | node b lt nm v h0 s0 y0 rt ihl ihr =>
  intro n k W hT hy hJ;have hC:∀ k W,J k W->W.cell? ⟨b,0,none⟩=some (.pointer lt.adr)/\W.cell? ⟨b,1,none⟩=some (.pointer rt.adr):=fun k W h=>⟨(hT k W h).1.c 0,(hT k W h).1.c 1⟩;have hl:=TG.bs_len lt
  have hL:=fun n=>ihl n k W (fun k W h=>(hT k W h).2.1) (fun i x W1 hx=>hy i x W1 (by
   show (lt.bs++b::rt.bs)[i]?=some x
   rw[List.getElem?_append_left (lgs.1 hx).1];exact hx)) hJ
  have hY:=fun W1=>hy lt.cnt b W1 (by
   show (lt.bs++b::rt.bs)[lt.cnt]?=some b
   rw[<-hl,List.getElem?_append_right (nlr _)];simp)
  have hR:=fun n W1 h1=>ihr n (k+lt.cnt+1) W1 (fun k W h=>(hT k W h).2.2) (fun i x W2 hx h2=>by
   have:=hy (lt.cnt+1+i) x W2 (by
    show (lt.bs++b::rt.bs)[lt.cnt+1+i]?=some x
    rw[List.getElem?_append_right (by omega),hl,show lt.cnt+1+i - lt.cnt=i+1 by omega,List.getElem?_cons_succ];exact hx)
   rw[show k+(lt.cnt+1+i)=k+lt.cnt+1+i by omega] at this;exact this h2) h1
  rw[show k+(TG.node b lt nm v h0 s0 y0 rt).cnt=k+lt.cnt+1+rt.cnt by show k+(lt.cnt+1+rt.cnt)=_;omega];obtain⟨x0,x1⟩:=hC k W hJ;unfold TG.ptr at hL hR
  show CallsIn Fence.wide n prog 156 #[.pointer (some ⟨b,0,none⟩),.func (.yield l) #[] #[]] W _
  have HL:=Hd hL;have HY:=Hd hY;have HR:=Hd hR;have HC:=Hd hC;clear hL hY hR hC ihl ihr hT hy hJ hl;refine callsIn_of_wp func156 rfl trivial ?_ rfl;simp only[ntmps156,List.size_toArray,List.length_cons,List.length_nil,Nat.reduceAdd,Nat.reduceSub,Array.replicate_succ,Array.replicate_zero,List.push_toArray,List.append_toArray,List.nil_append,List.cons_append]
  gi_wp2_with (first
   | (refine⟨trivial,fun h=>absurd h (by simp[Fence.wide]),?_⟩;(with_reducible refine (HL.out _).mono ?_);rintro e w1 ⟨rfl,h1⟩;obtain⟨z0,z1⟩:=HC.out _ w1 h1;obtain⟨fn,tmps,assign,body,hyy,hRR⟩:=yieldAt_wide (m':=n - 1) (HY.out _ h1);have HRR:=Hd hRR;clear h1 hRR)
   | fail)
  refine⟨fun h=>absurd h (by simp[Fence.wide]),HRR.out.mono ?_⟩;rintro e W2 ⟨rfl,h2⟩;obtain⟨_,q1⟩:=HC.out _ W2 h2;have HR2:=Hd (fun n=>HR.out n W2 h2);clear h2 HRR HR HY HL x0 x1 z0 z1 HC
  gi_wp2_with (refine⟨trivial,fun h=>absurd h (by simp[Fence.wide]),?_⟩;(with_reducible refine (HR2.out _).mono ?_);rintro e w3 ⟨rfl,h3⟩;have H3:=Hd h3;clear h3)
  go_ret
  exact⟨rfl,H3.out⟩
theorem nodes_seq (t:TG) (n b D:Nat) (w:World) (hD:BoxN w D 86 #[.pointer (some ⟨b,0,none⟩)]) (hS:BoxN w b 184 #[t.ptr]) (I:Nat->World->Prop) (hIt:∀ k W,I k W->TGat W t) (l:Nat) (J:Nat->World->Prop) (W:World) (hW:Fr [] w W) (hJI:∀ k W1,J k W1->I k W1)
 (hy:∀ k x W1,t.bs[k]?=some x->J k W1->YieldAt Fence.wide (n - 1) prog l #[.pointer (some ⟨x,0,none⟩)] W1 fun e W'=>e=.returned (.bool true)/\J (k+1) W') (hJ:J 0 W) :
 CallsIn Fence.wide n prog 155 (#[.func (.yield l) #[] #[]]++#[.pointer (some ⟨D,0,none⟩)]) W fun e W'=>(∃ v,e=.returned v)/\J t.bs.length W':=by
 have x0:W.cell? ⟨D,0,none⟩=some (.pointer (some ⟨b,0,none⟩)):=(hD.fr hW (by simp)).c 0;have x1:W.cell? ⟨b,0,none⟩=some (.pointer t.adr):=(hS.fr hW (by simp)).c 0
 have hE:=fun m=>each_g l J t m 0 W (fun k W h=>hIt k W (hJI k W h)) (fun i x W1 hx h=>by
  rw[Nat.zero_add] at h ⊢;exact yieldAt_wide (hy i x W1 hx h)) hJ
 rw[TG.bs_len,show t.cnt=0+t.cnt from (Nat.zero_add _).symm];unfold TG.ptr at hE;have HC:=Hd hE;clear hD hS hy hJ hW hE hIt hJI
 show CallsIn Fence.wide n prog 155 #[.func (.yield l) #[] #[],.pointer (some ⟨D,0,none⟩)] W _
 refine callsIn_of_wp func155 rfl trivial ?_ rfl;simp only[ntmps155,List.size_toArray,List.length_cons,List.length_nil,Nat.reduceAdd,Nat.reduceSub,Array.replicate_succ,Array.replicate_zero,List.push_toArray,List.append_toArray,List.nil_append,List.cons_append]
 gi_wp2_with (refine⟨trivial,fun h=>absurd h (by simp[Fence.wide]),?_⟩;(with_reducible refine (HC.out _).mono ?_);rintro e w1 ⟨rfl,h1⟩)
 go_end0
 exact⟨⟨_,rfl⟩,h1⟩
end Go.Proofs.YtlpmiimgacfmkaaGreatDoor
namespace Go.Proofs.YtlpmiimgacfmkaaGreatDoor
open Go.Proofs.Tryz
open Go.RowKit Go.Shelf
set_option maxRecDepth 100000
set_option maxHeartbeats 4000000
attribute [local go_sem] Oper.semAt_some
def ON.cs (n:ON):List Value:=[.int .i64 n.kind,encN n.owner,.int .i64 n.number,.int .i64 n.index,encN n.text]
theorem on_len (n:ON):n.cs.length=5:=rfl
theorem on_one (n:ON):∀ u∈n.cs,u.oneCell'=true:=by
 intro u hu;simp only[ON.cs,List.mem_cons,List.not_mem_nil,or_false] at hu
 rcases hu with rfl | rfl | rfl | rfl | rfl <;> first | rfl | exact encN_one _
theorem TG.get {w:World}:∀ {t:TG} {k x:Nat},TGat w t->t.bs[k]?=some x->∃ l r n v h s y,t.ns[k]?=some n/\BoxN w x 191 (nodeG l r n v h s y)
 | .nil,k,x,_,h=>by simp[TG.bs] at h
 | .node b l n v h0 s y r,k,x,hT,h=>by
  have e1:(TG.node b l n v h0 s y r).bs=l.bs++b::r.bs:=rfl;have e2:(TG.node b l n v h0 s y r).ns=l.ns++n::r.ns:=rfl;have c1:=TG.bs_len l;have c2:=TG.cnt_ns l;rw[e1] at h;rw[e2]
  rcases Nat.lt_trichotomy k l.cnt with hk | hk | hk
  ·rw[List.getElem?_append_left (by omega)] at h ⊢
   exact TG.get hT.2.1 h
  ·subst hk
   rw[List.getElem?_append_right (by omega),c1,Nat.sub_self,List.getElem?_cons_zero] at h;rw[List.getElem?_append_right (by omega),c2,Nat.sub_self,List.getElem?_cons_zero]
   injection h with h
   subst h;exact⟨_,_,_,_,_,_,_,rfl,hT.1⟩
  ·obtain⟨m,rfl⟩:∃ m,k=l.cnt+1+m:=⟨k - l.cnt - 1,by omega⟩
   rw[List.getElem?_append_right (by omega),c1,show l.cnt+1+m - l.cnt=m+1 by omega,List.getElem?_cons_succ] at h;rw[List.getElem?_append_right (by omega),c2,show l.cnt+1+m - l.cnt=m+1 by omega,List.getElem?_cons_succ];exact TG.get hT.2.2 h
theorem Own.no_def {w:World} {e:TypeId} {size n c D:Nat} {A:Option Addr} {xs:List Value} {l:Option (List Deferred)} (h:Own w e size A n c xs) (hd:w.heap[D]?=some (.deferred l)):D ∉ blk A:=by
 intro hm
 rcases h.2 with ⟨hv,_⟩ | ⟨g,cap,cur,hv,_,hg,_⟩
 ·injection hv with hv;subst hv;simp[blk] at hm
 ·injection hv with hv
  subst hv;simp only[blk,Option.map_some,Option.toList_some,lms] at hm;subst hm;rw[hg] at hd
  cases hd
structure NmS (w:World) (t:TG) (B L k:Nat) (W:World):Prop where
 fr:Fr [] w W
 own:∃ A c,BoxN W B 101 #[.slice A k c]/\Own W 31 5 A k c ((t.ns.take k).flatMap ON.cs)/\∀ q∈blk A,L+2<=q
theorem NmS.fr2 {w W W':World} {t:TG} {B L k:Nat} (h:NmS w t B L k W) (hf:Fr [L,L+1] W W') (hw:w.heap.size<=L) (hB:B<L):NmS w t B L k W':=by
 obtain⟨A,c,h1,h2,h3⟩:=h.own;exact⟨h.fr.trans hf (by simp;omega),A,c,h1.fr hf (by simp;omega),h2.fr hf (fun q hq=>by have:=h3 q hq;simp;omega),h3⟩
def NsPost (w:World) (ns:List ON) (e:Ending) (w':World):Prop:=∃ A c,e=.returned (.slice A ns.length c)/\Own w' 31 5 A ns.length c (ns.flatMap ON.cs)/\Fr [] w w'/\∀ q∈blk A,w.heap.size<=q
theorem info_nm:∃ i,(prog).info? 31=some i/\i.zero=some (.agg #[.int .i64 0,.string ⟨#[]⟩,.int .i64 0,.int .i64 0,.string ⟨#[]⟩])/\i.size=5/\i.bytes=56:=info_parts (by kernel_rfl)
theorem Names_s (b:Nat) (ns:List ON) (w:World) (h:SG w b ns) (hl:ns.length<=100000):Calls prog 39 #[.pointer (some ⟨b,0,none⟩)] w (NsPost w ns):=by
 obtain⟨rp,hh,hb,⟨t,rfl,ht,hwf,rfl,_⟩,hs⟩:=h;have hN:=fun W=>callsIn_wide.1 (nodes_any 0 b W);have HN:=Hd hN;have HB:=Hd hb;have HT:=Hd ht;have hbn:t.bs.length=t.ns.length:=by rw[TG.bs_len,TG.cnt_ns]
 have HBN:=Hd hbn;clear hN hb ht hwf hs hbn;refine (callsIn_wide (n:=5)).1 ?_;refine callsIn_of_wp_marks func39 rfl trivial ?_ rfl;simp only[ntmps39,List.size_toArray,List.length_cons,List.length_nil,Nat.reduceAdd,Nat.reduceSub,Array.replicate_succ,Array.replicate_zero,List.push_toArray,List.append_toArray,List.nil_append,List.cons_append];refine wpIn_wide.2 ?_
 go_upto_region 2 with fail
 go_wp2_with (go_at_call 96;(with_reducible refine (HN.out _).mono ?_);rintro e w' ⟨rfl,rfl⟩)
 obtain⟨w7,hw7,hb7,hf7⟩:=bxn w #[.slice none 0 0] 101;have hz7:w7.heap.size=w.heap.size+1:=by rw[<-hw7,wsA]
 rw[hw7];obtain⟨w8,hw8⟩:=nmd (w7.alloc (.cells #[.pointer (some ⟨b,0,none⟩)] 86));have hz8:w8.heap.size=w.heap.size+2:=by rw[<-hw8,wsA,hz7]
 have hf8:Fr [] w7 w8:=by rw[<-hw8];exact (Fq [] w7).alloc _
 have hd8:BoxN w8 (w.heap.size+1) 86 #[.pointer (some ⟨b,0,none⟩)]:=by rw[<-hw8,<-hz7];exact BoxN.new w7 _ _
 have hb8:=hb7.fr hf8 (by simp);have hfw:=hf7.then hf8;rw[hw8];clear hw7 hw8 hb7 hf7 hf8;have h0:NmS w t w.heap.size w8.heap.size 0 w8:=⟨hfw,none,0,hb8,Own.nil _ _ _,by simp[blk]⟩
 refine wp_rangeFunc_list (a:=?aa) 5 t.bs (fun x:Nat=>#[.pointer (some ⟨x,0,none⟩)]) (lb:=#[.pointer (some ⟨w.heap.size+1,0,none⟩)]) ?_ (enters_of func155 (by kernel_rfl) rfl) ?_
  (fun k W=>NmS w t w.heap.size w8.heap.size k W) (fun k W W' h hf=>h.fr2 hf (by omega) (by omega)) h0
  (fun l J W hW hJI hy hJ=>nodes_seq t 5 b (w.heap.size+1) w8 hd8 (HB.out.fr hfw (by simp)) _ (fun k W h=>HT.out.fr0 h.fr) l J W hW hJI hy hJ)
  (fun k a' W=>(∃ x:Nat,t.bs[k]?=some x/\a'={ tmps:=((Act.tmps ?aa).setIfInBounds 7 (.pointer (some ⟨x,0,none⟩))).setIfInBounds 4 (.pointer (some ⟨x,0,none⟩)),defers:=[] })/\NmS w t w.heap.size w8.heap.size k W)
  (fun k a' W W' h hf=>⟨h.1,h.2.fr2 hf (by omega) (by omega)⟩) ?_ ?_ ?_
 ·rfl
 ·intro x;rfl
 ·intro l k x W K hx hS hsz hK
  gi_wp2_with fail
  exact hK _ _ (Fq [] W) ⟨⟨x,hx,rfl⟩,hS⟩
 ·intro l k x a' W hx hA hsz
  obtain⟨⟨x',hx',rfl⟩,hS⟩:=hA;simp only[qA,qB,qC];rw[hx] at hx'
  injection hx' with hx'
  subst hx';obtain⟨A,c,hbA,hoA,hqA⟩:=hS.own;obtain⟨vl,vr,n,v,vh,vs,vy,hn,hbx⟩:=TG.get (HT.out.fr0 hS.fr) hx;have hkl:k<t.ns.length:=by rw[<-HBN.out];exact (lgs.1 hx).1
  obtain⟨so,hso,_,_⟩:=str_of n.owner;obtain⟨st,hst,_,_⟩:=str_of n.text;have hcs:n.cs=[.int .i64 n.kind,.string so,.int .i64 n.number,.int .i64 n.index,.string st]:=by unfold ON.cs;rw[hso,hst]
  unfold nodeG at hbx;rw[hso,hst] at hbx;have hC:Fr [] W W.drew:=(Fq [] W).drew
  have HSS:=Hd (fun (X:World) (hX:Fr [] W X)=>(show X.cell? ⟨w.heap.size,0,none⟩=some (.slice A k c)/\X.cell? ⟨x,2,none⟩=some (.int .i64 n.kind)/\X.cell? ⟨x,3,none⟩=some (.string so)/\X.cell? ⟨x,4,none⟩=some (.int .i64 n.number)/\X.cell? ⟨x,5,none⟩=some (.int .i64 n.index)/\X.cell? ⟨x,6,none⟩=some (.string st) from by
   have hz:=hbx.fr hX (by simp);exact⟨(hbA.fr hX (by simp)).c 0,hz.c 2,hz.c 3,hz.c 4,hz.c 5,hz.c 6⟩))
  have HNS:=Hd (An hcs (An hn hkl));have HO:=Hd (An hbA (An hoA (An hqA hS.fr)));clear hso hst hn hbx hx hS hbA hoA hqA hcs
  gi_wp2_with fail
  refine wpIn_region_head (fun X:World=>Fr [] W X) 6 (by kernel_rfl) (by kernel_rfl) (fun _ _ h=>by have h1:=And.left h;cases h1) ?_ (by decide)
  show headJ 0 _ _ _ _ _ _ _ _ _ _ _
  iterate 5
   refine hdJ (v:=?_) rfl (Or.inl ⟨by rfl,?_⟩) ?_
   rotate_left
   ·intro W hW;obtain⟨l0,l1,l2,l3,l4,l5⟩:=HSS.out W hW;go_simp;try with_reducible rfl
   try simp only[Act.put,qA,qB,qC,qD,qE,qF]
  refine hO (i:=5) rfl fun K hK=>?_;go_simp
  obtain⟨X1,hX1,hb1,hf1⟩:=bxd W #[.int .i64 n.kind,.string so,.int .i64 n.number,.int .i64 n.index,.string st] 31;rw[hX1];refine hK _ _ hf1 ?_;clear hK K hX1 hC
  try simp only[Act.put,qA,qB,qC,qD,qE,qF]
  refine headI_done ⟨by kernel_rfl,?_⟩;simp only[qG,qH];obtain⟨ii,hii,iz0,iz1,iz2⟩:=info_nm;have HO1:=Hd (HO.out.2.1.fr hf1 (by simp));have hones:∀ u∈[Value.int .i64 n.kind,.string so,.int .i64 n.number,.int .i64 n.index,.string st],u.oneCell'=true:=by rw[<-HNS.out.1];exact on_one n
  have hkl:=HNS.out.2.2;refine wpList_app rfl (.tmp 8) (.tmp 13) 101 rfl 31 ii _ 5 56 underlying101 hii iz0 iz1 iz2 rfl (by decide) A k c _ rfl HO1.out ⟨W.heap.size,0,none⟩ 1 1 [.int .i64 n.kind,.string so,.int .i64 n.number,.int .i64 n.index,.string st] rfl rfl (fun j u hu=>by rw[add_mid',hb1.c j];simpa using hu) hones (by unfold maxLen;omega) (by omega) ?_;intro A' c' X2 ho2 hf2 hs2;have hbB:=(HO.out.1.fr hf1 (by simp)).fr hf2 (by intro hm;have:=HO.out.2.2.1 _ hm;omega);have e0:=hbB.k0;have e1:=hbB.f 0;obtain⟨X3,hX3⟩:=nmd (X2.setCell ⟨w.heap.size,0,none⟩ (.slice A' (k+1) c'));have hf3:Fr [w.heap.size] X2 X3:=by rw[<-hX3];exact (Fq _ X2).set (.inl (by simp)) _
  have hb3:BoxN X3 w.heap.size 101 #[.slice A' (k+1) c']:=by rw[<-hX3];exact hbB.setAt 0 _
  have hsA:∀ q∈blk A',w8.heap.size+2<=q:=fun q hq=>by
   rcases hs2 q hq with h | h
   ·exact HO.out.2.2.1 q h
   ·have:=hf1.size;omega
  have ho3:=ho2.fr hf3 (fun q hq=>by have:=hsA q hq;simp;omega);have hfW:Fr (w.heap.size::blk A) W X3:=((hf1.mono (by simp)).trans (hf2.mono (T:=w.heap.size::blk A) (by intro q hq;exact .inl (by simp[hq]))) (fun q hq=>.inl hq)).trans hf3 (by simp)
  have hfw3:Fr [] w X3:=HO.out.2.2.2.trans hfW (by
   intro q hq
   rcases List.mem_cons.1 hq with h | h
   ·exact .inr (by omega)
   ·have:=HO.out.2.2.1 q h;exact .inr (by omega))
  have htk:(t.ns.take (k+1)).flatMap ON.cs=(t.ns.take k).flatMap ON.cs++[Value.int .i64 n.kind,.string so,.int .i64 n.number,.int .i64 n.index,.string st]:=by
   rw[List.take_add_one,HNS.out.2.1,List.flatMap_append,<-HNS.out.1];simp
  rw[<-htk] at ho3;have HFIN:=Hd (show NmS w t w.heap.size w8.heap.size (k+1) X3 from ⟨hfw3,A',c',hb3,ho3,hsA⟩)
  have HFW:=Hd (show ∃ S,Fr S W X3/\w8.heap.size ∉ S/\w8.heap.size+1 ∉ S from ⟨_,hfW,by
   simp only[List.mem_cons,not_or];exact⟨by omega,fun hm=>by have:=HO.out.2.2.1 _ hm;omega⟩,by
   simp only[List.mem_cons,not_or];exact⟨by omega,fun hm=>by have:=HO.out.2.2.1 _ hm;omega⟩⟩)
  clear ho2 hf2 hs2 hbB hf3 hb3 hsA ho3 hfW hfw3 htk HO1 hones hb1 hf1 HSS
  go_wp2_with fail
  rw[<-hz8];exact⟨HFIN.out,HFW.out⟩
 ·intro D W hD hS hK
  obtain⟨A,c,hbA,hoA,hqA⟩:=hS.own;have hlen:t.bs.length=t.ns.length:=HBN.out;rw[hlen] at hbA hoA;rw[List.take_length] at hoA;have x0:=hbA.k0;have HF:=Hd (An hoA (An hS.fr (An hqA hK)));clear hbA hoA hqA hS hK hlen
  go_wp2_with fail
  have hDl:D<W.heap.size:=(Array.getElem?_eq_some_iff.1 HF.out.2.2.2).1;refine⟨by simp,.inl ⟨_,_,rfl,run_takeDeferred HF.out.2.2.2,?_⟩⟩;have hf10:Fr [D] W (W.putObj D (.deferred none)):=fr_putObj _ (Fq _ W) (.inl (by simp));refine⟨.slice A t.ns.length c,?_,A,c,rfl,?_,?_,fun q hq=>?_⟩
  ·simp[results,Tryz.f39,go_sem]
  ·exact HF.out.1.fr hf10 (fun q hq=>by have:=Own.no_def HF.out.1 HF.out.2.2.2;simp only[lms];rintro rfl;exact this hq)
  ·exact HF.out.2.1.trans hf10 (by simp;omega)
  ·have:=HF.out.2.2.1 q hq;omega
end Go.Proofs.YtlpmiimgacfmkaaGreatDoor
namespace Go.Proofs.YtlpmiimgacfmkaaGreatDoor
open Go.Proofs.Tryz
open Go.RowKit
set_option maxRecDepth 100000
set_option maxHeartbeats 4000000
def NilOk (l:CL) (A:Option Addr) (c:Nat):Prop:=l=.nil->A=none/\c=0
end Go.Proofs.YtlpmiimgacfmkaaGreatDoor
