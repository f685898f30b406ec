/- logtree: Append at any number of leaves. -/
import Derived.Deep.LoopGhost
import Derived.Test.YtlpmiimgacfmkaaGreatDoorMGn
import Derived.Test.YtlpmiimgacfmkaaGreatDoorMTr5
set_option linter.all false
namespace Go.Proofs.YtlpmiimgacfmkaaGreatDoor
open Go.Proofs.Tryz
open Go.RowKit
set_option maxRecDepth 100000
set_option maxHeartbeats 4000000
def KeysUp (kvs:List (Value × Value)) (l n:Nat):Prop:=∀ p∈kvs,∃ a i:Nat,p.1=partV a i/\(i+1)*2 ^ a<=n+1/\(a<=l \/ (i+1)*2 ^ a<=n)
def PartsUp (ds:List Nm) (kvs:List (Value × Value)) (l n:Nat):Prop:=∀ a i:Nat,(i+1)*2 ^ a<=n+1->(a<=l \/ (i+1)*2 ^ a<=n)->PartIs ds kvs a i (rt ds (i*2 ^ a) (2 ^ a))
theorem PartIs.more {ds ds':List Nm} {kvs kvs':List (Value × Value)} {l i:Nat} {d:Nm} (h:PartIs ds kvs l i d) (h1:∀ x,ds[i]?=some x->ds'[i]?=some x) (h2:∀ p∈kvs,p∈kvs'):PartIs ds' kvs' l i d:=by
 obtain⟨h0,h | ⟨a,b,c⟩⟩:=h
 ·exact⟨h0,.inl ⟨h.1,h1 _ h.2⟩⟩
 ·exact⟨h0,.inr ⟨a,h2 _ b,c⟩⟩
theorem partV_inj {a b c d:Nat} (h:partV (a:Int) (b:Int)=partV (c:Int) (d:Int)):a=c/\b=d:=by
 unfold partV at h
 injection h with h
 have:=congrArg Array.toList h;simp at this;omega
theorem parts_start {ds0:List Nm} {d:Nm} {kvs:List (Value × Value)} (hP:Parts ds0 kvs) (hd:d.length=32) (hl:ds0.length<=1048575):PartsUp (ds0++[d]) kvs 0 ds0.length:=by
 intro a i h1 h2;have hp:=Nat.one_le_two_pow (n:=a)
 by_cases h3:(i+1)*2 ^ a<=ds0.length
 ·have e:i*2 ^ a+2 ^ a<=ds0.length:=by rw[Nat.add_mul] at h3;omega
  rw[rt_more _ _ _ _ hp e (by omega)];exact (hP a i h3).more (fun x hx=>by rw[List.getElem?_append_left (lgs.1 hx).1];exact hx) (fun _ h=>h)
 ·have h4:a=0:=by omega
  subst h4;have h5:i=ds0.length:=by omega
  subst h5;rw[Nat.pow_zero,Nat.mul_one,rt_one,List.getD_eq_getElem?_getD,List.getElem?_append_right (nlr _)];simp only[Nat.sub_self,List.getElem?_cons_zero,Option.getD_some];exact⟨hd,.inl ⟨rfl,by rw[List.getElem?_append_right (nlr _)];simp⟩⟩
theorem parts_next {ds:List Nm} {kvs:List (Value × Value)} {l j n:Nat} (h:PartsUp ds kvs l n) (hj:(2*j+1+1)*2 ^ l=n+1) (hn:n+1<=1048576) (hk:∃ k,keyOf prog 270 (partV ((l+1:Nat):Int) (j:Int))=some k) :
 PartsUp ds (kvs++[(partV ((l+1:Nat):Int) (j:Int),encD (nodeN (rt ds (2*j*2 ^ l) (2 ^ l)) (rt ds ((2*j+1)*2 ^ l) (2 ^ l))))]) (l+1) n:=by
 intro a i h1 h2
 by_cases h3:a<=l \/ (i+1)*2 ^ a<=n
 ·exact (h a i h1 h3).more (fun _ h=>h) (fun _ h=>by simp[h])
 ·have ha:a=l+1:=by omega
  subst ha;have hp:=Nat.one_le_two_pow (n:=l);have e:=Nat.pow_succ (n:=2) (m:=l);have h4:(i+1)*2 ^ (l+1)=n+1:=by omega
  have hij:i=j:=by
   rw[e,<-hj,Nat.mul_comm (2 ^ l) 2,<-Nat.mul_assoc] at h4;have:=Nat.eq_of_mul_eq_mul_right (by omega) h4;omega
  subst hij
  have hle:2 ^ (l+1)<=1048576:=by
   have:1*2 ^ (l+1)<=(i+1)*2 ^ (l+1):=Nat.mul_le_mul_right _ (by omega);omega
  rw[rt_pow _ _ _ hle];have e1:i*2 ^ (l+1)=2*i*2 ^ l:=by rw[e,Nat.mul_comm (2 ^ l) 2,<-Nat.mul_assoc,Nat.mul_comm i 2]
  have e2:2*i*2 ^ l+2 ^ l=(2*i+1)*2 ^ l:=by rw[Nat.add_mul,Nat.one_mul]
  rw[e1,e2];exact⟨shaN_len _,.inr ⟨by omega,by simp,hk⟩⟩
theorem keys_next {kvs:List (Value × Value)} {l j n:Nat} {v:Value} (h:KeysUp kvs l n) (hj:(2*j+1+1)*2 ^ l=n+1):KeysUp (kvs++[(partV ((l+1:Nat):Int) (j:Int),v)]) (l+1) n:=by
 intro p hp
 rcases List.mem_append.1 hp with hp | hp
 ·obtain⟨a,i,h1,h2,h3⟩:=h p hp
  exact⟨a,i,h1,h2,by omega⟩
 ·rw[lms] at hp
  subst hp;refine⟨l+1,j,rfl,?_,.inl (nlr _)⟩;rw[Nat.pow_succ,Nat.mul_comm (2 ^ l) 2,<-Nat.mul_assoc,<-hj];exact Nat.mul_le_mul_right _ (by omega)
theorem keys_free {kvs:List (Value × Value)} {l j n:Nat} (h:KeysUp kvs l n) (hj:(2*j+1+1)*2 ^ l=n+1):∀ p∈kvs,p.1≠partV ((l+1:Nat):Int) (j:Int):=by
 intro p hp he;obtain⟨a,i,h1,h2,h3⟩:=h p hp;rw[h1] at he;obtain⟨rfl,rfl⟩:=partV_inj he;have e1:(i+1)*2 ^ (l+1)=n+1:=by rw[Nat.pow_succ,Nat.mul_comm (2 ^ l) 2,<-Nat.mul_assoc,<-hj];congr 1;omega
 omega
theorem parts_end {ds:List Nm} {kvs:List (Value × Value)} {l i n:Nat} (h:PartsUp ds kvs l n) (hj:(i+1)*2 ^ l=n+1) (hi:i % 2=0) (hl:ds.length=n+1):Parts ds kvs:=by
 intro a k h1;rw[hl] at h1
 by_cases h3:a<=l \/ (k+1)*2 ^ a<=n
 ·exact h a k h1 h3
 ·have h4:(k+1)*2 ^ a=n+1:=by omega
  obtain⟨m,rfl⟩:∃ m,a=l+1+m:=⟨a - l - 1,by omega⟩;have hp:=Nat.one_le_two_pow (n:=l);rw[Nat.pow_add,Nat.pow_succ,<-hj,Nat.mul_comm (2 ^ l) 2,Nat.mul_assoc 2,Nat.mul_comm (2 ^ l),<-Nat.mul_assoc 2,<-Nat.mul_assoc] at h4;have:=Nat.eq_of_mul_eq_mul_right (by omega) h4;rw[<-Nat.mul_assoc,Nat.mul_comm (k+1) 2,Nat.mul_assoc] at this;omega
theorem keys_end {kvs:List (Value × Value)} {l n:Nat} (h:KeysUp kvs l n):KeysUp kvs 0 (n+1):=by
 intro p hp;obtain⟨a,i,h1,h2,h3⟩:=h p hp;exact⟨a,i,h1,by omega,.inr h2⟩
def AppPost (b:Nat) (ds:List Nm) (F:List Nat) (w:World) (e:Ending) (w':World):Prop:=e=.returned (.int .i64 0)/\∃ kvs F',TreeM w' b ds kvs F'/\Parts ds kvs/\KeysUp kvs 0 ds.length/\Fr F w w'/\∀ k∈F',k∈F \/ w.heap.size<=k
theorem Append_g (b:Nat) (ds0:List Nm) (d:Nm) (kvs:List (Value × Value)) (F:List Nat) (w:World) (hM:TreeM w b ds0 kvs F) (hPP:Parts ds0 kvs) (hKK:KeysUp kvs 0 ds0.length) (hok:Ok w) (hlo:∀ k∈F,6<=k) (hd32:d.length=32) (hn1:1<=ds0.length) (hn2:ds0.length<=1000) :
 Calls prog 89 #[.pointer (some ⟨b,0,none⟩),encD d] w (AppPost b (ds0++[d]) F w):=by
 obtain⟨A,c,r,h,rfl⟩:=hM;have hst:=parts_start hPP hd32 (by omega);have HMA:=Hd (An hst hKK);clear hst hKK hPP;have hne1:¬ ds0.length=1048576:=by omega
 have hcl:(dCells d).length=32:=by rw[dcells_len,hd32]
 have hbx:=h.box;have hbl:=hbx.lt;unfold encD;obtain⟨w1,hw1⟩:=nmd (w.alloc (.cells (dCells d).toArray 57));have hL1:w1.rowIs w.heap.size 57 32 (fun j=>.int .u8 ((d.getD j 0).toNat:Int)):=by rw[<-hw1];exact row_cells w hcl
 have hf1:Fr [] w w1:=by rw[<-hw1];exact (Fq [] w).alloc _
 have hb1:=hbx.fr hf1 (by simp);obtain⟨y0,y1⟩:=hb1.m2;have hT1:=h.fr hf1 (by simp);have HW1:=Hd hw1;have HF1:=Hd hf1;have HL1:=Hd hL1;have HT1:=Hd hT1;have HT0:=Hd h;clear hw1 hb1 hf1 hL1 hbx hT1 h;have qT:∀ (w:World) (r:Option Nat),(binOp .eql 235 (.map r) (.map none)).run prog w=.ok (.bool r.isNone) w:=fun w r=>run_eql_map_nil w _ _ _ r underlying235
 go_enter func89,ntmps89
 go_upto_region 1 with fail
 rw[HW1.out]
 go_upto_region 8 with fail
 obtain⟨w4,hw4,hp4,hf34⟩:=bxn w1 #[.int .i64 0,.int .i64 ds0.length] 270;rw[hw4];have hT4:=HT1.out.fr hf34 (by simp);have hcb:=hT4.box.k0;have hL4:=rowIs_fr HL1.out hf34 (by simp);have HBW:=Hd hT4.box;have HOW:=Hd hT4.own;have hnb:=hT4.nb;have hlb:w.heap.size ∉ blk A:=by intro hm;have:=HT0.out.own.lt _ hm;omega
 have hrng:∀ X:World,X.rowIs w.heap.size 57 32 (fun j=>.int .u8 ((d.getD j 0).toNat:Int))->X.rangeAt w.heap.size 0 (dCells d):=fun X hr j v hv=>by
  rw[Nat.zero_add];have hj:j<32:=by have:=(lgs.1 hv).1;rw[hcl] at this;exact this
  rw[hr.cell hj,<-hv,dcells_get (by omega)]
 have hC:(fun X:World=>X.cell? ⟨b,0,none⟩=some (.slice A ds0.length c)/\X.rangeAt w.heap.size 0 (dCells d)) w4.drew:=⟨hcb,hrng _ hL4.drew⟩;have HSS:=Hd (fun (X:World) (hX:X.cell? ⟨b,0,none⟩=some (.slice A ds0.length c)/\X.rangeAt w.heap.size 0 (dCells d))=>An hX.1 trivial);refine wp_region_head (fun X:World=>X.cell? ⟨b,0,none⟩=some (.slice A ds0.length c)/\X.rangeAt w.heap.size 0 (dCells d)) 10 (by kernel_rfl) ?_ (by decide)
 show headJ 0 _ _ _ _ _ _ _ _ _ _ _
 iterate 5
  refine hdJ (v:=?_) rfl (Or.inl ⟨by rfl,?_⟩) ?_
  rotate_left
  ·intro W hW;obtain⟨z0,_⟩:=HSS.out W hW;go_simp;try with_reducible rfl
  try simp only[Act.put,qA,qB,qC,qD,qE,qF]
 refine headI_take (i:=5) (v:=.agg (dCells d).toArray) (by kernel_rfl) head_done rfl (by decide) (by kernel_rfl) (fun _ _ _ h=>h) (yieldsIf_load_mid (by rfl) 57 (.tmp 3) rfl w.heap.size (0) rfl (dCells d) (.array 32 5) (fun X hX=>hX.2) (by kernel_rfl) rfl (by rw[hcl];kernel_rfl)) (by assumption) ?_
 try simp only[Act.put,qA,qB,qC,qD,qE,qF]
 refine hO (i:=6) rfl fun K hK=>?_;go_simp
 rw[fold_zero (by rfl) hd32];obtain⟨X5,hX5,n5,f5⟩:=bxd w4 (dCells d).toArray 57;have hC5:X5.cell? ⟨b,0,none⟩=some (.slice A ds0.length c)/\X5.rangeAt w.heap.size 0 (dCells d):=⟨(HBW.out.fr f5 (by simp)).c 0,hrng _ (rowIs_fr hL4 f5 (by simp))⟩;rw[hX5];refine hK _ _ hC5 ?_;clear hK K hX5
 try simp only[Act.put,qA,qB,qC,qD,qE,qF]
 refine hO (i:=7) rfl fun K hK=>?_;obtain⟨ii,hii,iz0,iz1,iz2⟩:=info_dig;have HO5:=Hd (HOW.out.fr f5 (by simp));refine wp_app (.tmp 37) (.tmp 39) 51 rfl 57 ii _ 32 32 underlying51 hii iz0 iz1 iz2 rfl (by decide) A ds0.length c (ds0.flatMap dCells) rfl HO5.out ⟨w4.heap.size,0,none⟩ 1 1 (dCells d) rfl (by rw[hcl]) (fun j u hu=>by rw[add_mid',n5.c j];simpa using hu) (dcells_one d) (by unfold maxLen;omega) (by omega) ?_;intro A' c' X6 ho6 hf6 hA6;rw[show (ds0.length+1:Nat)=(ds0.length+1) from rfl] at ho6 ⊢;have hC6:X6.cell? ⟨b,0,none⟩=some (.slice A ds0.length c)/\X6.rangeAt w.heap.size 0 (dCells d):=⟨((HBW.out.fr f5 (by simp)).fr hf6 hnb).c 0,hrng _ (rowIs_fr (rowIs_fr hL4 f5 (by simp)) hf6 hlb)⟩;refine hK _ _ hC6 ?_;clear hK K hC hC5
 try simp only[Act.put,qA,qB,qC,qD,qE,qF]
 show headJ 8 _ _ _ _ _ _ _ _ _ _ _
 iterate 2
  refine hdJ (v:=?_) rfl (Or.inl ⟨by rfl,?_⟩) ?_
  rotate_left
  ·intro W hW;obtain⟨z0,_⟩:=HSS.out W hW;go_simp;try with_reducible rfl
  try simp only[Act.put,qA,qB,qC,qD,qE,qF]
 refine headI_done ⟨by kernel_rfl,?_⟩;simp only[qG,qH];have hb6:=(HBW.out.fr f5 (by simp)).fr hf6 hnb;have e0:=hb6.k0;have e1:=hb6.f 0;obtain⟨X7,hX7⟩:=nmd (X6.setCell ⟨b,0,none⟩ (.slice A' (ds0.length+1) c'));have f67:Fr [b] X6 X7:=by rw[<-hX7];exact (Fq [b] X6).set (.inl (by simp)) _
 have hb7:=hb6.setAt 0 (.slice A' (ds0.length+1) c')
 have hbA:b ∉ blk A':=by
  intro hm
  rcases hA6 b hm with h | h
  ·exact hnb h
  ·have:=HBW.out.lt;have:=f5.size;omega
 have ho7:Own X7 57 32 A' (ds0.length+1) c' ((ds0.flatMap dCells)++dCells d):=ho6.fr f67 (by intro k hk;simp only[lms];rintro rfl;exact hbA hk);have f47:Fr (b::blk A) w4 X7:=((f5.mono (by simp)).trans (hf6.mono (T:=b::blk A) (by intro x hx;exact .inl (by simp[hx]))) (fun x hx=>.inl hx)).trans f67 (by simp);rw[hX7] at hb7;have HB7:=Hd hb7;have HO7:=Hd ho7;have HF47:=Hd f47;have HA7:=Hd (An hbA (fun k hk=>(hA6 k hk).imp id (fun h=>Nat.le_trans f5.size h)));clear hb6 f67 hb7 ho7 f47 hbA ho6 hf6 hA6 hC6 HO5 f5 n5 HSS hrng
 go_wp2_with fail
 try rw[hX7]
 clear hX7 e0 e1;have hLL:(ds0++[d]).length=ds0.length+1:=by simp
 have hrA:r ∉ b::blk A:=by have:=(HT0.out.ms r rfl).2;simp only[List.mem_cons,not_or];exact⟨this.1,this.2⟩
 have hP:w1.heap.size ∉ b::blk A:=by
  have h1:=HF1.out.size;intro hm
  rcases List.mem_cons.1 hm with h | h
  ·omega
  ·have:=HT0.out.own.lt _ h;omega
 have hrl:=(HT0.out.ms r rfl).1.lt;have hp7:=hp4.fr HF47.out hP;have hm7:=(hT4.ms r rfl).1.fr HF47.out hrA
 have hlen7:∀ y∈ds0++[d],y.length=32:=by
  intro y hy
  rcases List.mem_append.1 hy with h | h
  ·exact HT0.out.len y h
  ·rw[lms] at h
   rw[h];exact hd32
 have hT7:TreeIs X7 b A' c' (some r) (ds0++[d]) (kvs):=⟨by rw[hLL];exact HB7.out,by have h:=HO7.out;rw[<-flat_snoc] at h;rw[hLL];exact h,hlen7,HA7.out.1,by simp,fun q hq=>by
  injection hq with hq
  subst hq;refine⟨hm7,(HT0.out.ms r rfl).2.1,fun hm=>?_⟩
  rcases HA7.out.2 _ hm with h | h
  ·exact (HT0.out.ms r rfl).2.2 h
  ·have:=HF1.out.size;have:=hf34.size;omega⟩
 have hF7:Fr (b::blk A) w X7:=((HF1.out.then hf34).mono (by simp)).then HF47.out
 have hPA:w1.heap.size ∉ b::(blk A'++(some r).toList):=by
  have h1:=HF1.out.size;have h2:=hp4.lt;simp only[List.mem_cons,List.mem_append,not_or];refine⟨fun h=>hP (by simp[h]),fun hm=>?_,by simp;omega⟩
  rcases HA7.out.2 _ hm with h | h
  ·exact hP (by simp[h])
  ·omega
 have hA7:∀ q∈blk A',q∈blk A \/ w.heap.size<=q:=fun q hq=>(HA7.out.2 q hq).imp id (fun h=>by have:=HF1.out.size;have:=hf34.size;omega);have hPw:w.heap.size<=w1.heap.size:=HF1.out.size;generalize w1.heap.size=P at hp7 hPA hPw ⊢;have HT7:=Hd hT7;have HP7:=Hd hp7;have HF7:=Hd hF7;have HR7:=Hd hA7;clear hp7 hm7 hT7 hF7 hA7 HB7 HO7 HF47 HA7 hT4 hL4 HBW HOW hcb hf34 HL1 HT1 y0 y1 hlb hrA;have hlow:=hok.low
 have hokX:Ok X7:=hok.fr HF7.out (by
  intro k hk;refine hlo k ?_
  rcases List.mem_cons.1 hk with h | h
  ·simp[h]
  ·simp[h])
 go_loopg [43] (ds0.length+1) (fun g _ W=>∃ (l i:Nat) (kvs2:List (Value × Value)),i<g/\TreeIs W b A' c' (some r) (ds0++[d]) kvs2/\BoxN W P 270 #[.int .i64 (l:Int),.int .i64 (i:Int)]/\Fr [P,r] X7 W/\(i+1)*2 ^ l=ds0.length+1/\PartsUp (ds0++[d]) kvs2 l ds0.length/\KeysUp kvs2 l ds0.length)
 case atStart=>exact⟨0,ds0.length,kvs,by omega,HT7.out,HP7.out,Fq _ _,by simp,HMA.out.1,HMA.out.2⟩
 case round =>
  obtain⟨l,i,kvs2,hi,ht,hp,hf,hm,hpu,hku⟩:=hrel
  have hil:i<=1000:=by
   have h1:(i+1)*1<=(i+1)*2 ^ l:=Nat.mul_le_mul_left _ Nat.one_le_two_pow;omega
  have hlb:l<=10:=by
   have h1:1*2 ^ l<=(i+1)*2 ^ l:=Nat.mul_le_mul_right _ (by omega);have h2:2 ^ l<2 ^ 11:=by omega
   exact Nat.le_of_lt_succ ((Nat.pow_lt_pow_iff_right (by decide)).1 h2)
  rcases Nat.mod_two_eq_zero_or_one i with h2 | h2
  ·have q1:wr.cell? ⟨P,1,none⟩=some (.int .i64 (i:Int)):=hp.c 1
   have h3:(i:Int) % 2=0:=by omega
   have HMr:=Hd (An ht (An hf (An hm (An hpu (An hku h2)))));clear ht hp hi hf hm hpu hku h2
   go_wp2_with fail
   go_ret
   have hfin:Fr (b::(blk A++(some r).toList)) w wr:=(HF7.out.mono (fun k hk=>.inl (by rcases List.mem_cons.1 hk with h | h <;> simp[h]))).trans HMr.out.2.1 (by simp;omega);refine⟨rfl,kvs2,b::(blk A'++(some r).toList),⟨A',c',r,HMr.out.1,rfl⟩,parts_end HMr.out.2.2.2.1 HMr.out.2.2.1 HMr.out.2.2.2.2.2 hLL,by rw[hLL];exact keys_end HMr.out.2.2.2.2.1,hfin,fun k hk=>?_⟩
   rcases List.mem_cons.1 hk with h | h
   ·exact .inl (by simp[h])
   ·rcases List.mem_append.1 h with h | h
    ·rcases HR7.out k h with h2 | h2
     ·exact .inl (by simp[h2])
     ·exact .inr h2
    ·exact .inl (by have:k=r:=by simpa using h
                    simp[this])
  ·obtain⟨j,rfl⟩:∃ j,i=2*j+1:=⟨i / 2,by omega⟩
   have HTr:=Hd ht;rw[show ((2*j+1:Nat):Int)=2*(j:Int)+1 from by omega] at hp;have HPr:=Hd hp
   have hokw:Ok wr:=hokX.fr hf (by
    have h1:6<=r:=hlo r (by simp);have h2:=hok.low;simp;omega)
   have hjb:j<=1000:=by omega
   have hq2:(2*(j:Int)+1) / 2=(j:Int):=by omega
   have q1:=hp.k1;have hml:(2*j+1)*2 ^ l<=(2*j+1+1)*2 ^ l:=Nat.mul_le_mul_right _ (by omega);have hpl:=hpu l (2*j) (by omega) (.inl (nlr _));have hpr:=hpu l (2*j+1) (Nat.le_of_eq hm) (.inl (nlr _));have hkn:=keyOf_part (i:=(l:Int)+1) (j:=(j:Int)) (wf_int (by omega) (by omega)) (wf_int (by omega) (by omega));have hkf:=keys_free hku hm;have HMr:=Hd (An hi (An hf (An hm (An hpu hku))));clear h2 ht hp hi hf hm hpu hku;have hpl:PartIs (ds0++[d]) (kvs2) l (2*j) ((rt (ds0++[d]) (2*j*2 ^ l) (2 ^ l))):=hpl;have hpr:PartIs (ds0++[d]) (kvs2) l (2*j+1) ((rt (ds0++[d]) ((2*j+1)*2 ^ l) (2 ^ l))):=hpr;have hTA:TreeAt wr b (ds0++[d]) (kvs2) (b::(blk A'++(some r).toList)):=⟨A',c',some r,HTr.out,rfl⟩;have HCL:Hid (∀ W,Fr [] wr W->Calls prog 149 #[.pointer (some ⟨b,0,none⟩),.agg #[.int .i64 l,.int .i64 (2*j)]] W (SumPost W ((rt (ds0++[d]) (2*j*2 ^ l) (2 ^ l))))):=Hd (fun W hW=>complete_any b l (2*j) (ds0++[d]) (kvs2) _ ((rt (ds0++[d]) (2*j*2 ^ l) (2 ^ l))) W (hTA.fr0 hW) hpl);have HCR:Hid (∀ W,Fr [] wr W->Calls prog 149 #[.pointer (some ⟨b,0,none⟩),.agg #[.int .i64 l,.int .i64 (2*j+1)]] W (SumPost W ((rt (ds0++[d]) ((2*j+1)*2 ^ l) (2 ^ l))))):=Hd (fun W hW=>complete_any b l (2*j+1) (ds0++[d]) (kvs2) _ ((rt (ds0++[d]) ((2*j+1)*2 ^ l) (2 ^ l))) W (hTA.fr0 hW) hpr);have hdl32:((rt (ds0++[d]) (2*j*2 ^ l) (2 ^ l))).length=32:=hpl.1;have hdr32:((rt (ds0++[d]) ((2*j+1)*2 ^ l) (2 ^ l))).length=32:=hpr.1;have hcl1:(dCells ((rt (ds0++[d]) (2*j*2 ^ l) (2 ^ l)))).length=32:=by rw[dcells_len,hdl32]
   have hcl2:(dCells ((rt (ds0++[d]) ((2*j+1)*2 ^ l) (2 ^ l)))).length=32:=by rw[dcells_len,hdr32]
   obtain⟨v0,v1⟩:=HPr.out.m2;have hPl:=HPr.out.lt;have hOK:∀ W,Fr [] wr W->Ok W:=fun W hW=>hokw.fr0 hW
   go_upto_region 11 with ((go_at_call 149;(with_reducible refine (HCL.out _ (Fq [] wr)).mono ?_);rintro e y1 ⟨rfl,hfy1⟩;unfold encD;obtain⟨y2,hst2,hfy2,hry2⟩:=new_dig y1 _ hdl32))
   have hs1:=hfy1.size;have hlt6:=hry2.lt;generalize y1.heap.size=L6 at hry2 hs1 hlt6 ⊢;have hX2:=hfy1.then hfy2;have hp2:=HPr.out.fr hX2 (by simp);obtain⟨u0,u1⟩:=hp2.m2;clear hst2 hfy1 hfy2 v0 v1
   go_upto_region 12 with ((go_at_call 149;(with_reducible refine (HCR.out _ hX2).mono ?_);rintro e y3 ⟨rfl,hfy3⟩;unfold encD;obtain⟨y4,hst4,hfy4,hry4⟩:=new_dig y3 _ hdr32))
   have hs3:=hfy3.size;have hlt7:=hry4.lt;have hX4:=hX2.then (hfy3.then hfy4);have hr6:=rowIs_fr hry2 (hfy3.then hfy4) (by simp);generalize y3.heap.size=L7 at hry4 hs3 hlt7 ⊢;have hp4b:=HPr.out.fr hX4 (by simp);obtain⟨q0,q1⟩:=hp4b.m2;have qf0:=hp4b.f 0;have qf1:=hp4b.f 1;clear hst4 hfy3 hfy4 u0 u1 hp2 hry2
   go_upto_region 13 with fail
   obtain⟨y5,hy5⟩:=nmd ((y4.setCell ⟨P,0,none⟩ (.int .i64 (l+1))).setCell ⟨P,1,none⟩ (.int .i64 j));have hp5:BoxN y5 P 270 #[.int .i64 (l+1),.int .i64 j]:=by rw[<-hy5];exact (hp4b.setAt 0 _).setAt 1 _
   have hf45:Fr [P] y4 y5:=by rw[<-hy5];exact ((Fq [P] y4).set (.inl (by simp)) _).set (.inl (by simp)) _
   try rw[hy5]
   have hT4r:=HTr.out.fr hX4 (by simp);have hT5:=hT4r.fr hf45 (by intro k hk;simp only[lms];rintro rfl;exact hPA hk);have h65:=rowIs_fr hr6 hf45 (by simp;omega);have h75:=rowIs_fr hry4 hf45 (by simp;omega);have hX5:Fr [P] wr y5:=(hX4.mono (by simp)).then hf45;clear q0 q1 qf0 qf1 hy5 hr6 hry4 hp4b hT4r;have hlow:=hok.low;have hok5:Ok y5:=hokw.fr hX5 (by simp;omega);have hND:∀ W,Fr [] y5 W->Calls prog 150 #[.agg (dCells ((rt (ds0++[d]) (2*j*2 ^ l) (2 ^ l)))).toArray,.agg (dCells ((rt (ds0++[d]) ((2*j+1)*2 ^ l) (2 ^ l)))).toArray] W (SumPost W (nodeN ((rt (ds0++[d]) (2*j*2 ^ l) (2 ^ l))) ((rt (ds0++[d]) ((2*j+1)*2 ^ l) (2 ^ l))))):=fun W hW=>Node_any _ _ W (hok5.fr0 hW) hdl32 hdr32;have hCX:∀ W,Fr [] y5 W->(W.cell? ⟨b,1,none⟩=some (.map (some r))/\W.cell? ⟨P,0,none⟩=some (.int .i64 (l+1))/\W.cell? ⟨P,1,none⟩=some (.int .i64 j))/\W.rangeAt L6 0 (dCells ((rt (ds0++[d]) (2*j*2 ^ l) (2 ^ l))))/\W.rangeAt L7 0 (dCells ((rt (ds0++[d]) ((2*j+1)*2 ^ l) (2 ^ l)))):=fun W hW=>⟨⟨(hT5.box.fr hW (by simp)).c 1,(hp5.fr hW (by simp)).c 0,(hp5.fr hW (by simp)).c 1⟩,row_range (rowIs_fr h65 hW (by simp)) hdl32,row_range (rowIs_fr h75 hW (by simp)) hdr32⟩;have hC:=hCX _ (Fq [] y5).drew;have HSS:=Hd (fun (W:World) (hW:(W.cell? ⟨b,1,none⟩=some (.map (some r))/\W.cell? ⟨P,0,none⟩=some (.int .i64 (l+1))/\W.cell? ⟨P,1,none⟩=some (.int .i64 j))/\W.rangeAt L6 0 (dCells ((rt (ds0++[d]) (2*j*2 ^ l) (2 ^ l))))/\W.rangeAt L7 0 (dCells ((rt (ds0++[d]) ((2*j+1)*2 ^ l) (2 ^ l)))))=>hW.1);refine wp_region_head (fun W:World=>(W.cell? ⟨b,1,none⟩=some (.map (some r))/\W.cell? ⟨P,0,none⟩=some (.int .i64 (l+1))/\W.cell? ⟨P,1,none⟩=some (.int .i64 j))/\W.rangeAt L6 0 (dCells ((rt (ds0++[d]) (2*j*2 ^ l) (2 ^ l))))/\W.rangeAt L7 0 (dCells ((rt (ds0++[d]) ((2*j+1)*2 ^ l) (2 ^ l))))) 8 (by kernel_rfl) ?_ (by decide)
   show headJ 0 _ _ _ _ _ _ _ _ _ _ _
   iterate 5
    refine hdJ (v:=?_) rfl (Or.inl ⟨by rfl,?_⟩) ?_
    rotate_left
    ·intro W hW;obtain⟨s0,s1,s2⟩:=HSS.out W hW;go_simp;try with_reducible rfl
    try simp only[Act.put,qA,qB,qC,qD,qE,qF]
   refine headI_take (i:=5) (v:=.agg (dCells ((rt (ds0++[d]) (2*j*2 ^ l) (2 ^ l)))).toArray) (by kernel_rfl) head_done rfl (by decide) (by kernel_rfl) (fun _ _ _ h=>h) (yieldsIf_load_mid (by rfl) 57 (.tmp 6) rfl L6 (0) rfl (dCells ((rt (ds0++[d]) (2*j*2 ^ l) (2 ^ l)))) (.array 32 5) (fun X hX=>hX.2.1) (by kernel_rfl) rfl (by rw[hcl1];kernel_rfl)) (by assumption) ?_
   try simp only[Act.put,qA,qB,qC,qD,qE,qF]
   refine headI_take (i:=6) (v:=.agg (dCells ((rt (ds0++[d]) ((2*j+1)*2 ^ l) (2 ^ l)))).toArray) (by kernel_rfl) head_done rfl (by decide) (by kernel_rfl) (fun _ _ _ h=>h) (yieldsIf_load_mid (by rfl) 57 (.tmp 7) rfl L7 (0) rfl (dCells ((rt (ds0++[d]) ((2*j+1)*2 ^ l) (2 ^ l)))) (.array 32 5) (fun X hX=>hX.2.2) (by kernel_rfl) rfl (by rw[hcl2];kernel_rfl)) (by assumption) ?_
   try simp only[Act.put,qA,qB,qC,qD,qE,qF]
   refine hO (i:=7) rfl fun K hK=>?_;go_simp
   go_at_call 150
   (with_reducible refine (hND _ (Fq [] y5).drew).mono ?_);rintro e y6 ⟨rfl,hf6⟩;unfold encD;have hf56:=hf6.undrew;refine hK _ _ (hCX _ hf56) ?_;clear hK K hC HSS
   try simp only[Act.put,qA,qB,qC,qD,qE,qF]
   refine headI_done ⟨by kernel_rfl,?_⟩;simp only[qG,qH];have hm6:=(hT5.ms r rfl).1.fr hf56 (by simp);obtain⟨kk,hkk⟩:=hkn;obtain⟨Y,hup,hfu,hmu⟩:=MapIs.put_new (v:=.agg (dCells (nodeN ((rt (ds0++[d]) (2*j*2 ^ l) (2 ^ l))) ((rt (ds0++[d]) ((2*j+1)*2 ^ l) (2 ^ l))))).toArray) key_part underlying235 hm6 hkk (hkf);unfold partV at hup;have hT6:=hT5.fr hf56 (by simp);have hrb:=(hT5.ms r rfl).2
   have hTY:TreeIs Y b A' c' (some r) (ds0++[d]) ((kvs2)++[(partV (l+1) j,encD (nodeN ((rt (ds0++[d]) (2*j*2 ^ l) (2 ^ l))) ((rt (ds0++[d]) ((2*j+1)*2 ^ l) (2 ^ l)))))]):=⟨hT6.box.fr hfu (by simpa using hrb.1.symm),hT6.own.fr hfu (by intro k hk;simp only[lms];rintro rfl;exact hrb.2 hk),hT6.len,hT6.nb,by simp,fun q hq=>by
    injection hq with hq
    subst hq;exact⟨hmu,hrb⟩⟩
   have hPr:P≠r:=by rintro rfl;exact hPA (by simp)
   have HT8:=Hd hTY;have HP8:=Hd ((hp5.fr hf56 (by simp)).fr hfu (by simpa using hPr));have HF8:Hid (Fr [P,r] wr Y):=Hd (((hX5.mono (T:=[P,r]) (by simp)).trans hf56 (by simp)).trans hfu (by simp));clear hm6 hfu hmu hT6 hTY hf6 hf56 hCX hND hT5 h65 h75 hp5 hX5 hX4 hX2 hTA HCL HCR hf45 hrb
   go_wp2_with fail
   go_roundg (j+1)
   case measure=>have:=HMr.out.1;omega
   case rel =>
    exact⟨l+1,j,_,by omega,HT8.out,HP8.out,HMr.out.2.1.trans HF8.out (by simp),by have h1:=HMr.out.2.2.1;rw[Nat.pow_succ,Nat.mul_comm (2 ^ l) 2,<-Nat.mul_assoc,<-h1];congr 1;omega,parts_next HMr.out.2.2.2.1 HMr.out.2.2.1 (by omega) (keyOf_part (wf_int (by omega) (by omega)) (wf_int (by omega) (by omega))),keys_next HMr.out.2.2.2.2 HMr.out.2.2.1⟩
def pth (ds:List Nm) (x f n:Nat):List Nm :=
 if _h:n<=1 \/ 1048576<n then [] else
  if x<leftS n then pth ds x f (leftS n)++[rt ds (f+leftS n) (n - leftS n)] else pth ds (x - leftS n) (f+leftS n) (n - leftS n)++[rt ds f (leftS n)]
termination_by n
decreasing_by
 ·exact (leftS_spec (by omega) (by omega)).2.1
 ·have:=leftS_spec (n:=n) (by omega) (by omega);omega
theorem pth_one (ds:List Nm) (x f:Nat):pth ds x f 1=[]:=by rw[pth,dif_pos (by omega)]
theorem pth_two (ds:List Nm) (x f n:Nat) (h1:2<=n) (h2:n<=1048576):pth ds x f n=if x<leftS n then pth ds x f (leftS n)++[rt ds (f+leftS n) (n - leftS n)] else pth ds (x - leftS n) (f+leftS n) (n - leftS n)++[rt ds f (leftS n)]:=by rw[pth,dif_neg (by omega)]
theorem pth_len (ds:List Nm):∀ (n x f:Nat),1<=n->n<=1048576->(pth ds x f n).length<n:=by
 intro n
 induction n using Nat.strongRecOn with
 | _ n ih =>
  intro x f h1 h2
  by_cases hn:n=1
  ·subst hn;rw[pth_one];simp
  ·have hs:=leftS_spec (n:=n) (by omega) h2
   rw[pth_two _ _ _ _ (by omega) h2];split
   ·have:=ih (leftS n) (by omega) x f (by omega) (by omega)
    rw[lla,List.length_singleton];omega
   ·have:=ih (n - leftS n) (by omega) (x - leftS n) (f+leftS n) (by omega) (by omega)
    rw[lla,List.length_singleton];omega
theorem pth_32 {ds:List Nm} (hl:∀ d∈ds,d.length=32):∀ (n x f:Nat),1<=n->f+n<=ds.length->n<=1048576->∀ d∈pth ds x f n,d.length=32:=by
 intro n
 induction n using Nat.strongRecOn with
 | _ n ih =>
  intro x f h1 h2 h3
  by_cases hn:n=1
  ·subst hn;rw[pth_one];simp
  ·have hs:=leftS_spec (n:=n) (by omega) h3
   rw[pth_two _ _ _ _ (by omega) h3];intro d hd;split at hd
   ·rcases List.mem_append.1 hd with hd | hd
    ·exact ih (leftS n) (by omega) x f (by omega) (by omega) (by omega) d hd
    ·rw[lms] at hd;subst hd;exact rt_len hl _ _ (by omega) (by omega) (by omega)
   ·rcases List.mem_append.1 hd with hd | hd
    ·exact ih (n - leftS n) (by omega) _ _ (by omega) (by omega) (by omega) d hd
    ·rw[lms] at hd;subst hd;exact rt_len hl _ _ (by omega) (by omega) (by omega)
theorem half_split {n e f:Nat} (h1:2<=n) (h2:n<=1048576) (he:n<=2 ^ e) (hd:2 ^ e ∣ f):(leftS n<=2 ^ e/\2 ^ e ∣ f)/\∃ e2,n - leftS n<=2 ^ e2/\2 ^ e2 ∣ f+leftS n:=by
 obtain⟨s1,s2,s3⟩:=leftS_spec h1 h2;refine⟨⟨by omega,hd⟩,Lib.bitLen (n - 1) - 1,?_,?_⟩
 ·show _<=leftS n
  omega
 ·show leftS n ∣ f+leftS n
  refine Nat.dvd_add (Nat.dvd_trans ?_ hd) (Nat.dvd_refl _);exact Nat.pow_dvd_pow 2 ((Nat.pow_le_pow_iff_right (a:=2) (by decide)).1 (show leftS n<=2 ^ e by omega))
def rootC (b:Nat) (ds:List Nm) (w:World) (f n:Nat):Prop:=∀ W,Fr [] w W->Calls prog 127 #[.pointer (some ⟨b,0,none⟩),.int .i64 (f:Int),.int .i64 (n:Int)] W (SumPost W (rt ds f n))
theorem include_g (b:Nat) (ds:List Nm) (kvs:List (Value × Value)) (F:List Nat) (hP:Parts ds kvs) (hds:∀ d∈ds,d.length=32) (hlen:ds.length<=1000):∀ (n x f:Nat) (w:World),TreeAt w b ds kvs F->Ok w->1<=n->f+n<=ds.length->x<n->(∃ e,n<=2 ^ e/\2 ^ e ∣ f) ->
 Calls prog 125 #[.pointer (some ⟨b,0,none⟩),.int .i64 (x:Int),.int .i64 (f:Int),.int .i64 (n:Int)] w (ListPost w (pth ds x f n)):=by
 intro n
 induction n using Nat.strongRecOn with
 | _ n ih =>
 intro x f w h hok h1 h2 hx he
 by_cases hn:n=1
 ·subst hn
  rw[pth_one];exact inc_nil b x f w
 ·obtain⟨e,he1,he2⟩:=he
  have hn2:2<=n:=by clear he1;omega
  have hn3:n<=1048576:=by clear he1;omega
  obtain⟨⟨u1,u2⟩,e2,u3,u4⟩:=half_split hn2 hn3 he1 he2;obtain⟨c1,c2,c3⟩:=leftS_spec (n:=n) hn2 hn3;have hL:=fun W=>leftSize_any n hn2 hn3 W;have hpt:=pth_two ds x f n hn2 hn3;obtain⟨k,hk⟩:=nmd (leftS n);rw[hk] at c1 c2 c3 hL hpt u1 u3 u4;clear hk he1;have hR1:rootC b ds w f k:=fun W hW=>root_g b ds kvs F hP hds (by omega) k f W (h.fr0 hW) (hok.fr0 hW) c1 (by clear u1 u3;omega) ⟨e,u1,u2⟩;have hR2:rootC b ds w (f+k) (n - k):=fun W hW=>root_g b ds kvs F hP hds (by omega) (n - k) (f+k) W (h.fr0 hW) (hok.fr0 hW) (by clear u1 u3;omega) (by clear u1 u3;omega) ⟨e2,u3,u4⟩;obtain⟨ii,hii,iz0,iz1,iz2⟩:=info_dig;have HL:=Hd hL
  by_cases hxk:x<k
  ·have hI:=ih k c2 x f w h hok c1 (by clear u1 u3;omega) hxk ⟨e,u1,u2⟩
   have hd32:=rt_len hds (n - k) (f+k) (by clear u1 u3;omega) (by clear u1 u3;omega) (by clear u1 u3;omega);have hxs:=pth_len ds k x f c1 (by clear u1 u3;omega);rw[if_pos hxk] at hpt;rw[hpt];unfold rootC at hR2;rw[Int.natCast_add,Int.natCast_sub (Nat.le_of_lt c2)] at hR2;obtain⟨d,hd⟩:=nmd (rt ds (f+k) (n - k));obtain⟨xs,hxe⟩:=nmd (pth ds x f k);rw[hd] at hR2 hd32 ⊢;rw[hxe] at hI hxs ⊢;have hcl:(dCells d).length=32:=by rw[dcells_len,hd32]
   have HI:=Hd hI;have HR:=Hd hR2;have hle2:xs.length<=1000:=by clear u1 u3;omega
   have hxk2:decide ((x:Int)<(k:Int))=true:=by simp;exact hxk
   have hfk1:0<=(f:Int)+k/\(f:Int)+k<=1048576:=by clear u1 u3;omega
   have hfk2:0<=(n:Int) - k/\(n:Int) - k<=1048576:=by clear u1 u3;omega
   clear hI hR1 hR2 h u1 u2 u3 u4 e2 ih hP hds he2 c1 c2 c3 hpt hd hxe hL
   go_enter func125,ntmps125
   go_wp2_with
    (first
     | (go_at_call 171;(with_reducible refine (HL.out _).mono ?_);rintro e w1 ⟨rfl,rfl⟩)
     | (go_at_call 125;(with_reducible refine HI.out.mono ?_);rintro e w1 ⟨A1,c1,rfl,ho1,hf1,hs1⟩;have HO1:=Hd ho1;have HF1:=Hd hf1;have HS1:=Hd hs1;clear ho1 hf1 hs1)
     | (go_at_call 127;(with_reducible refine (HR.out _ HF1.out).mono ?_);rintro e w2 ⟨rfl,hf2⟩;unfold encD;have HO2:=Hd (HO1.out.fr hf2 (by simp));have HF2:=Hd (HF1.out.then hf2);have HZ2:=hf2.size;clear hf2)
     | (rw[fold_zero (by rfl) hd32];at_builtin;(with_reducible refine wpList_app_tmp (w:=w2) rfl (.tmp 21) (.tmp 30) 51 rfl 57 ii _ 32 32 underlying51 hii iz0 iz1 iz2 rfl (by decide) A1 xs.length c1 (xs.flatMap dCells) rfl HO2.out 1 1 (dCells d) 57 rfl (by rw[hcl]) (dcells_one d) (by unfold maxLen;omega) (by omega) ?_);intro A3 c3 w3 ho3 hf3 hs3;have HO3:=Hd ho3;have HF3:=Hd hf3;have HS3:=Hd hs3;clear ho3 hf3 hs3))
   go_ret
   have hlen:(xs++[d]).length=xs.length+1:=by simp
   have h1:=HF1.out.size;refine⟨A3,c3,by rw[hlen];rfl,by rw[hlen,flat_snoc];exact HO3.out,HF2.out.trans HF3.out (fun x hx=>.inr (HS1.out x hx)),fun k hk=>?_⟩
   rcases HS3.out k hk with h | h
   ·exact HS1.out k h
   ·omega
  ·have hI:=ih (n - k) (by clear u1 u3;omega) (x - k) (f+k) w h hok (by clear u1 u3;omega) (by clear u1 u3;omega) (by clear u1 u3;omega) ⟨e2,u3,u4⟩
   have hd32:=rt_len hds k f (by clear u1 u3;omega) (by clear u1 u3;omega) (by clear u1 u3;omega);have hxs:=pth_len ds (n - k) (x - k) (f+k) (by clear u1 u3;omega) (by clear u1 u3;omega);rw[if_neg hxk] at hpt;rw[hpt];rw[Int.natCast_add,Int.natCast_sub (Nat.le_of_lt c2),Int.natCast_sub (Nat.le_of_not_lt hxk)] at hI;unfold rootC at hR1;obtain⟨d,hd⟩:=nmd (rt ds f k);obtain⟨xs,hxe⟩:=nmd (pth ds (x - k) (f+k) (n - k));rw[hd] at hR1 hd32 ⊢;rw[hxe] at hI hxs ⊢;have hcl:(dCells d).length=32:=by rw[dcells_len,hd32]
   have HI:=Hd hI;have HR:=Hd hR1;have hle2:xs.length<=1000:=by clear u1 u3;omega
   have hxk2:decide ((x:Int)<(k:Int))=false:=by simp;omega
   have hfk1:0<=(f:Int)+k/\(f:Int)+k<=1048576:=by clear u1 u3;omega
   have hfk2:0<=(n:Int) - k/\(n:Int) - k<=1048576:=by clear u1 u3;omega
   have hfk3:0<=(x:Int) - k/\(x:Int) - k<=1048576:=by clear u1 u3;omega
   clear hI hR1 hR2 h u1 u2 u3 u4 e2 ih hP hds he2 c1 c2 c3 hpt hd hxe hL
   go_enter func125,ntmps125
   go_wp2_with
    (first
     | (go_at_call 171;(with_reducible refine (HL.out _).mono ?_);rintro e w1 ⟨rfl,rfl⟩)
     | (go_at_call 125;(with_reducible refine HI.out.mono ?_);rintro e w1 ⟨A1,c1,rfl,ho1,hf1,hs1⟩;have HO1:=Hd ho1;have HF1:=Hd hf1;have HS1:=Hd hs1;clear ho1 hf1 hs1)
     | (go_at_call 127;(with_reducible refine (HR.out _ HF1.out).mono ?_);rintro e w2 ⟨rfl,hf2⟩;unfold encD;have HO2:=Hd (HO1.out.fr hf2 (by simp));have HF2:=Hd (HF1.out.then hf2);have HZ2:=hf2.size;clear hf2)
     | (rw[fold_zero (by rfl) hd32];at_builtin;(with_reducible refine wpList_app_tmp (w:=w2) rfl (.tmp 42) (.tmp 47) 51 rfl 57 ii _ 32 32 underlying51 hii iz0 iz1 iz2 rfl (by decide) A1 xs.length c1 (xs.flatMap dCells) rfl HO2.out 1 1 (dCells d) 57 rfl (by rw[hcl]) (dcells_one d) (by unfold maxLen;omega) (by omega) ?_);intro A3 c3 w3 ho3 hf3 hs3;have HO3:=Hd ho3;have HF3:=Hd hf3;have HS3:=Hd hs3;clear ho3 hf3 hs3))
   go_ret
   have hlen:(xs++[d]).length=xs.length+1:=by simp
   have h1:=HF1.out.size;refine⟨A3,c3,by rw[hlen];rfl,by rw[hlen,flat_snoc];exact HO3.out,HF2.out.trans HF3.out (fun x hx=>.inr (HS1.out x hx)),fun k hk=>?_⟩
   rcases HS3.out k hk with h | h
   ·exact HS1.out k h
   ·omega
theorem whole_e (n:Nat):∃ e,n<=2 ^ e/\2 ^ e ∣ 0:=⟨n,Nat.le_of_lt Nat.lt_two_pow_self,Nat.dvd_zero _⟩
theorem Include_g (b:Nat) (ds:List Nm) (kvs:List (Value × Value)) (F:List Nat) (hP:Parts ds kvs) (hds:∀ d∈ds,d.length=32) (hlen:ds.length<=1000) (n x:Nat) (w:World) (h:TreeAt w b ds kvs F) (hok:Ok w) (h1:1<=n) (h2:n<=ds.length) (hx:x<n) :
 Calls prog 61 #[.pointer (some ⟨b,0,none⟩),.int .i64 (x:Int),.int .i64 (n:Int)] w (ListPost2 w (pth ds x 0 n)):=by
 have hI:=include_g b ds kvs F hP hds hlen n x 0 w h hok h1 (by omega) hx (whole_e n);rw[show ((0:Nat):Int)=0 from rfl] at hI;obtain⟨A,c,m,hT,_⟩:=h;have hW1:=ltwithin_any (n:Int) 1 (ds.length:Int) w;have hW2:=ltwithin_any (x:Int) 0 ((n:Int) - 1) w;rw[show decide ((1:Int)<=(n:Int)/\(n:Int)<=(ds.length:Int))=true from by simp;omega] at hW1;rw[show decide ((0:Int)<=(x:Int)/\(x:Int)<=(n:Int) - 1)=true from by simp;omega] at hW2;have hbx:=hT.box;have HW1:=Hd hW1;have HW2:=Hd hW2;have HI:=Hd hI;have x0:=hbx.k0;clear hW1 hW2 hI hbx hT hds
 go_enter func61,ntmps61
 go_wp2_with (first
  | (go_at_call 124;(with_reducible refine HW1.out.mono ?_);rintro e w1 ⟨rfl,rfl⟩)
  | (go_at_call 124;(with_reducible refine HW2.out.mono ?_);rintro e w1 ⟨rfl,rfl⟩)
  | (go_at_call 125;(with_reducible refine HI.out.mono ?_);rintro e w1 ⟨A1,c1,rfl,ho1,hf1,hs1⟩))
 go_ret2
 exact⟨A1,c1,rfl,ho1,hf1,hs1⟩
theorem Root_g (b:Nat) (ds:List Nm) (kvs:List (Value × Value)) (F:List Nat) (hP:Parts ds kvs) (hds:∀ d∈ds,d.length=32) (hlen:ds.length<=1000) (n:Nat) (w:World) (h:TreeAt w b ds kvs F) (hok:Ok w) (h1:1<=n) (h2:n<=ds.length) :
 Calls prog 62 #[.pointer (some ⟨b,0,none⟩),.int .i64 (n:Int)] w (TagPost w (rt ds 0 n)):=by
 obtain⟨w1,hw1⟩:=nmd (w.alloc (.cells (z32) 57));have hf1:Fr [] w w1:=by rw[<-hw1];exact (Fq [] w).alloc _
 obtain⟨fR,hR⟩:∃ f,w1.rowIs w.heap.size 57 32 f:=by rw[<-hw1];exact⟨_,row_new w _ _⟩
 have hC:=root_g b ds kvs F hP hds (by omega) n 0 w1 (h.fr0 hf1) (hok.fr0 hf1) h1 (by omega) (whole_e n);rw[show ((0:Nat):Int)=0 from rfl] at hC;have hd32:=rt_len hds n 0 h1 (by omega) (by omega);obtain⟨d,hd⟩:=nmd (rt ds 0 n);rw[hd] at hC hd32 ⊢;have hcl:(dCells d).length=32:=by rw[dcells_len,hd32]
 have hW:=ltwithin_any (n:Int) 0 (ds.length:Int) w1;rw[show decide ((0:Int)<=(n:Int)/\(n:Int)<=(ds.length:Int))=true from by simp;omega] at hW;obtain⟨A,c,m,hT,_⟩:=h;have hbx:=hT.box.fr hf1 (by simp);have x0:=hbx.k0;have hne:¬ n=0:=by omega
 have HC:=Hd hC;have HW:=Hd hW;have HR2:=Hd hR;have HF2:=Hd hf1;have HW1:=Hd hw1;clear hC hW hR hf1 hw1 hbx hT hd hds
 go_enter func62,ntmps62
 go_upto_region 1 with fail
 rw[HW1.out]
 go_wp2_with (first
  | (go_at_call 124;(with_reducible refine HW.out.mono ?_);rintro e w1 ⟨rfl,rfl⟩)
  | (go_at_call 127;(with_reducible refine HC.out.mono ?_);rintro e w3 ⟨rfl,hf3⟩;unfold encD;have hR3:=rowIs_fr HR2.out hf3 (by simp);have hst:=store_digest (d:=d) hR3 hd32;have hrd:=row_digest (d:=d) hR3 hd32;obtain⟨w4,hw4⟩:∃ X,w3.setCells w.heap.size 0 (dCells d)=X:=⟨_,rfl⟩;have hf4:Fr [] w w4:=(by rw[<-hw4];exact ((HF2.out.then hf3).setCells (.inr (nlr _)) _ _));rw[hw4] at hst hrd;have HRD:=Hd hrd.1;have HF4:=Hd hf4;clear hw4 hrd hf4 hR3 hf3))
 exact bodyPost_ret (v:=.tuple #[encD d,.int .i64 0]) (results_cell_mid2 (d:=.array 32 5) (p:=4) (u:=5) (ty:=57) (b:=w.heap.size) (o:=0) rfl rfl rfl HRD.out (by kernel_rfl) rfl (by rw[dcells_len,hd32];rfl)) rfl ⟨rfl,HF4.out⟩
end Go.Proofs.YtlpmiimgacfmkaaGreatDoor
