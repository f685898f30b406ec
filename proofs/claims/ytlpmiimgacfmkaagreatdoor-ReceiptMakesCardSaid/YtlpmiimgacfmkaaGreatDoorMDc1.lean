/- Receipts read and written, in plain Lean: what is read is what its encoding was. -/
import Derived.Test.YtlpmiimgacfmkaaGreatDoorMOb5
import Derived.Test.YtlpmiimgacfmkaaGreatDoorMOb3
import Derived.Test.YtlpmiimgacfmkaaGreatDoorMGq
import Derived.Test.YtlpmiimgacfmkaaGreatDoorMQt
set_option linter.all false
namespace Go.Proofs.YtlpmiimgacfmkaaGreatDoor
open Go.Proofs.Tryz
open Go.RowKit
theorem encU_props:∀ (f u:Nat),u<128 ^ (f+1)->∀ (l:Nm) (M:Nat),(encU u).length<=M+1->lastN (encU u++l) M=(encU u).length - 1/\numV (encU u)=u/\(0<u->((encU u++l).getD ((encU u).length - 1) 0).toNat≠0)
 | f,u,hu,l,M,hM=>by
  by_cases h:u<128
  ·rw[encU_lo h]
   have hc:(UInt8.ofNat u).toNat=u:=by rw[UInt8.toNat_ofNat'];omega
   refine⟨?_,?_,?_⟩
   ·cases M with
    | zero=>rfl
    | succ M=>rw[List.singleton_append,lastN,if_neg (by rw[hc];omega)];rfl
   ·rw[numV,numV,hc];omega
   ·intro h0
    rw[List.singleton_append,show ([UInt8.ofNat u]:Nm).length - 1=0 from rfl,List.getD_cons_zero,hc];omega
  ·rw[encU_hi h] at hM ⊢
   have hc:(UInt8.ofNat (u % 128+128)).toNat=u % 128+128:=by rw[UInt8.toNat_ofNat'];omega
   have hpos:=encU_pos (u / 128)
   cases f with
   | zero=>exact absurd (by simpa using hu) h
   | succ f =>
    cases M with
    | zero=>rw[List.length_cons] at hM;omega
    | succ M =>
     obtain⟨i1,i2,i3⟩:=encU_props f (u / 128) (by rw[Nat.div_lt_iff_lt_mul (by omega),<-Nat.pow_succ];exact hu) l M (by rw[List.length_cons] at hM;omega);refine⟨?_,?_,?_⟩
     ·rw[List.cons_append,lastN,if_pos (by rw[hc];omega),i1,List.length_cons];omega
     ·rw[numV,i2,hc];omega
     ·intro _
      rw[List.length_cons,List.cons_append,show (encU (u / 128)).length+1 - 1=((encU (u / 128)).length - 1)+1 by omega,List.getD_cons_succ];exact i3 (by omega)
theorem parse_encU {u:Nat} (h:u<=9223372036854775807) (l:Nm):parseN (encU u++l)=(u,(encU u).length,0):=by
 have h9:=encU_len9 h;have hp:=encU_pos u;obtain⟨h1,h2,h3⟩:=encU_props 8 u (by omega) l 9 (by omega);unfold parseN
 rw[h1,if_neg (by omega),if_neg (by rw[lla];omega),if_neg (by
  rintro⟨ha,hb⟩;refine h3 ?_ hb
  rcases Nat.eq_zero_or_pos u with h0 | h0
  ·rw[h0,encU_lo (by omega)] at ha
   simp at ha
  ·exact h0),show (encU u).length - 1+1=(encU u).length by omega,List.take_left' rfl,h2]
theorem rdNum_enc {u m:Nat} (hu:u<=9223372036854775807) (hm:u<=m) (l:Nm) (p:Nat):rdNum m ⟨encU u++l,p,0⟩=((u:Int),⟨l,p+(encU u).length,0⟩):=by
 unfold rdNum rstep numR;simp only[parse_encU hu l];rw[if_neg (by simp),if_neg (by omega)];simp
theorem textR_enc {s:Nm} {m:Nat} (hm:s.length<=m) (h:s.length<=16777216) (l:Nm):textR m (encT s++l)=(s,(encT s).length,0):=by
 unfold textR encT;simp only[List.append_assoc,parse_encU (u:=s.length) (by omega) (s++l)];rw[if_neg (by simp),if_neg (by omega),if_neg (by simp only[lla];omega),List.drop_left' rfl,List.take_left' rfl,lla]
theorem rdText_enc {s:Nm} {m:Nat} (hm:s.length<=m) (h:s.length<=16777216) (l:Nm) (p:Nat):rdText m ⟨encT s++l,p,0⟩=(s,⟨l,p+(encT s).length,0⟩):=by
 unfold rdText rstep;simp only[textR_enc hm h l,ne_eq,not_true,if_false,List.drop_left']
theorem opt_text (b:Bool) {s:Nm} {m:Nat} (hm:b=true->s.length<=m/\s.length<=16777216) (l:Nm) (p:Nat):(if b=true then rdText m ⟨(if b=true then encT s else [])++l,p,0⟩ else ([],⟨(if b=true then encT s else [])++l,p,0⟩))=((if b=true then s else []),⟨l,p+(if b=true then encT s else []).length,0⟩):=by
 cases b with
 | true=>simp only[if_true];exact rdText_enc (hm rfl).1 (hm rfl).2 l p
 | false=>simp
theorem opt_num (b:Bool) {u m:Nat} (hm:b=true->u<=m/\u<=9223372036854775807) (l:Nm) (p:Nat):(if b=true then rdNum m ⟨(if b=true then encU u else [])++l,p,0⟩ else ((0:Int),⟨(if b=true then encU u else [])++l,p,0⟩))=((if b=true then (u:Int) else 0),⟨l,p+(if b=true then encU u else []).length,0⟩):=by
 cases b with
 | true=>simp only[if_true];exact rdNum_enc (hm rfl).2 (hm rfl).1 l p
 | false=>simp
theorem rdFlag_enc (b:Bool) (l:Nm) (p:Nat):rdFlag ⟨flagB b::l,p,0⟩=(b,⟨l,p+1,0⟩):=by
 cases b <;> simp[rdFlag,rstep,flagR,flagB]
theorem kind_of {n:ON} (h:checkO n=0):∃ k:Nat,n.kind=(k:Int)/\1<=k/\k<=20/\checkU (us k) n=0:=by
 have hkb:kindB n.kind=true:=by
  unfold checkO at h
  by_cases h':kindB n.kind=true
  ·exact h'
  ·rw[if_neg h'] at h
   simp at h
 unfold checkO at h;rw[if_pos hkb] at h;simp only[kindB,decide_eq_true_eq] at hkb;exact⟨n.kind.toNat,by omega,by omega,by omega,h⟩
theorem checkU_none {u:Usage} {n:ON} (h:checkU u n=0):(u.owner=false->n.owner=[])/\(u.number=false->n.number=0)/\(u.index=false->n.index=0)/\(u.text=false->n.text=[]):=by
 unfold checkU at h;refine⟨fun e=>?_,fun e=>?_,fun e=>?_,fun e=>?_⟩
 ·cases h1:tE1 u n with
  | true=>rw[h1] at h;simp at h
  | false=>simpa [tE1,e,neB] using h1
 ·cases h1:tE2 u n with
  | true=>rw[h1] at h;revert h;cases tE1 u n <;> simp
  | false=>simpa [tE2,e] using h1
 ·cases h1:tE3 u n with
  | true=>rw[h1] at h;revert h;cases tE1 u n <;> cases tE2 u n <;> simp
  | false=>simpa [tE3,e] using h1
 ·cases h1:tE4 u n with
  | true=>rw[h1] at h;revert h;cases tE1 u n <;> cases tE2 u n <;> cases tE3 u n <;> simp
  | false=>simpa [tE4,e,neB] using h1
theorem decO_enc {n:ON} (h:checkO n=0):decO (encOn n)=(n,0):=by
 obtain⟨k,hk,hk1,hk20,hu⟩:=kind_of h;have hv:=valid_len (valid_of_check h);have hm:=us_most (k:=k) (by omega);obtain⟨z1,z2,z3⟩:=checkU_zero hu;obtain⟨e1,e2,e3,e4⟩:=checkU_none hu;have hkt:n.kind.toNat=k:=by omega
 have hdec:∃ q,decN (encOn n)=(n,⟨[],q,0⟩):=by
  unfold decN encOn encOu;rw[hkt];simp only[List.append_assoc];rw[rdNum_enc (u:=k) (by omega) hk20];simp only[Int.toNat_natCast];rw[<-List.append_nil (if (us k).text=true then encT n.text else [])];unfold decF;simp only[];rw[opt_text (us k).owner (s:=n.owner) (m:=16777216) (fun _=>by omega)];simp only[]
  rw[opt_num (us k).number (u:=n.number.toNat) (m:=1073741824) (fun e=>by
   have:=z1 e;simp only[withinB,decide_eq_true_eq] at this;omega)]
  simp only[]
  rw[opt_num (us k).index (u:=n.index.toNat) (m:=(us k).most.toNat) (fun e=>by
   have:=z2 e;simp only[withinB,decide_eq_true_eq] at this;omega)]
  simp only[]
  rw[opt_text (us k).text (s:=n.text) (m:=32) (fun e=>by
   have:=z3 e;simp only[wordB,Bool.and_eq_true,decide_eq_true_eq] at this;omega)]
  refine⟨_,Prod.ext ?_ rfl⟩;obtain⟨kind,owner,number,index,text⟩:=n;simp only[ON.mk.injEq] at *;refine⟨hk.symm,?_,?_,?_,?_⟩
  ·cases h1:(us k).owner with
   | true=>rfl
   | false=>exact (e1 h1).symm
  ·cases h1:(us k).number with
   | true =>
    have:=z1 h1;simp only[withinB,decide_eq_true_eq] at this;simp only[if_true]
    omega
   | false=>exact (e2 h1).symm
  ·cases h1:(us k).index with
   | true =>
    have:=z2 h1;simp only[withinB,decide_eq_true_eq] at this;simp only[if_true]
    omega
   | false=>exact (e3 h1).symm
  ·cases h1:(us k).text with
   | true=>rfl
   | false=>exact (e4 h1).symm
 obtain⟨q,hdec⟩:=hdec;unfold decO;rw[hdec,if_neg (by simp[rdClose,h])]
theorem rdKey_enc {k:KY} (h:checkK k=0) (l:Nm) (p:Nat):∃ q,rdKey ⟨encKey k++l,p,0⟩=(k,⟨l,q,0⟩):=by
 obtain⟨_,h72⟩:=checkK_valid h
 have hb:(0<=k.rnd/\k.rnd<=1073741824)/\(0<=k.phase/\k.phase<=2)/\(0<=k.idx/\k.idx<=999999):=by
  unfold checkK at h;split at h
  ·simp at h
  ·split at h
   ·simp at h
   ·split at h
    ·simp at h
    ·omega
 obtain⟨rnd,phase,idx,lin⟩:=k;simp only at hb h72;obtain⟨⟨a0,a1⟩,⟨b0,b1⟩,c0,c1⟩:=hb;unfold rdKey encKey;simp only[List.append_assoc];rw[rdNum_enc (u:=rnd.toNat) (by omega) (by omega)];simp only[];rw[rdNum_enc (u:=phase.toNat) (by omega) (by omega)];simp only[];rw[rdNum_enc (u:=idx.toNat) (by omega) (by omega)];simp only[];rw[rdText_enc (by omega) (by omega)];refine⟨_,Prod.ext ?_ rfl⟩;simp only[KY.mk.injEq,and_true];omega
def RdC (r:RS) (c:CH) (r':RS):Prop:=∃ tn r2 r3,rdText 16777216 r=(tn,r2)/\decO tn=(c.n,0)/\rdFlag r2=(c.a,r3)/\rdText 65536 r3=(c.v,r')
inductive RdCs:RS->List CH->RS->Prop
 | nil (r:RS):RdCs r [] r
 | cons {r r1 r2:RS} {c:CH} {l:List CH} (h:RdC r c r1) (t:RdCs r1 l r2):RdCs r (c::l) r2
def RdL (r:RS) (l:List CH) (r':RS):Prop:=∃ r1,rdNum r.l.length r=((l.length:Int),r1)/\RdCs r1 l r'
def DecG (s:Nm) (a:AG):Prop:=∃ r1 r2 r3,rdKey ⟨s,0,0⟩=(a.k,r1)/\RdL r1 a.r r2/\RdL r2 a.w r3/\rdClose r3=0
theorem rdC_enc {c:CH} (h:oneB c=true) (l:Nm) (p:Nat):∃ q,RdC ⟨encC c++l,p,0⟩ c ⟨l,q,0⟩:=by
 obtain⟨h1,h2⟩:=oneB_facts h;have h3:=encOn_len h1;unfold encC;simp only[List.append_assoc,List.cons_append];exact⟨_,encOn c.n,_,_,rdText_enc (by omega) (by omega) _ _,decO_enc h1,rdFlag_enc _ _ _,rdText_enc (by omega) (by omega) _ _⟩
theorem rdCs_enc:∀ (cs:List CH),(∀ c∈cs,oneB c=true)->∀ (l:Nm) (p:Nat),∃ q,RdCs ⟨cs.flatMap encC++l,p,0⟩ cs ⟨l,q,0⟩
 | [],_,l,p=>⟨p,.nil _⟩
 | c::cs,h,l,p=>by
  rw[List.flatMap_cons,List.append_assoc];obtain⟨q,hq⟩:=rdC_enc (h c (by simp)) (cs.flatMap encC++l) p;obtain⟨q2,hq2⟩:=rdCs_enc cs (fun x hx=>h x (by simp[hx])) l q;exact⟨q2,.cons hq hq2⟩
theorem flat_ge:∀ cs:List CH,cs.length<=(cs.flatMap encC).length
 | []=>by simp
 | c::cs=>by
  have h1:=flat_ge cs;have h2:1<=(encC c).length:=by unfold encC;rw[lla,List.length_cons];omega
  rw[List.flatMap_cons,lla,List.length_cons];omega
theorem rdL_enc {cs:List CH} (h:ordB none cs=true) (hl:cs.length<=100000) (l:Nm) (p:Nat):∃ q,RdL ⟨encL cs++l,p,0⟩ cs ⟨l,q,0⟩:=by
 unfold encL;rw[List.append_assoc];have h1:=flat_ge cs;obtain⟨q,hq⟩:=rdCs_enc cs (ordB_all h) l (p+(encU cs.length).length);exact⟨q,_,rdNum_enc (by omega) (by simp only[lla];omega) _ _,hq⟩
theorem decG_enc {a:AG} (h:wfB a=true) (hr:a.r.length<=100000) (hw:a.w.length<=100000):DecG (encAG a) a:=by
 obtain⟨ha,hb⟩:=wfB_lists h;unfold encAG;rw[List.append_assoc];obtain⟨q1,h1⟩:=rdKey_enc (wfB_key h) (encL a.r++encL a.w) 0;obtain⟨q2,h2⟩:=rdL_enc ha hr (encL a.w) q1;obtain⟨q3,h3⟩:=rdL_enc hb hw [] q2;rw[List.append_nil] at h3;exact⟨_,_,_,h1,h2,h3,by simp[rdClose]⟩
set_option maxRecDepth 100000
set_option maxHeartbeats 4000000
def RdLPost (w:World) (c0 c1 b:Nat) (l:List CH) (r':RS) (e:Ending) (w':World):Prop :=
 ∃ A c,e=.returned (.tuple #[.slice A l.length c,.bool true])/\RdS c0 c1 b r' w'/\Fr [b] w w'/\Own w' 95 7 A l.length c (l.flatMap CH.cs)/\∀ k∈blk A,w.heap.size<=k
theorem takes {α β:Type} {f:α->List β} {xs:List α} {j:Nat} {x:α} (hx:xs[j]?=some x):(xs.take (j+1)).flatMap f=(xs.take j).flatMap f++f x:=by
 rw[List.take_add_one,hx,List.flatMap_append];simp
theorem ReadChanges_g (c0 c1 b:Nat) (r r':RS) (l:List CH) (w:World) (hok:Ok w) (h:RdS c0 c1 b r w) (hc:c1<=w.heap.size) (h6:6<=b) (hl:l.length<=100000) (hr:RdL r l r'):Calls prog 177 #[.pointer (some ⟨b,0,none⟩)] w (RdLPost w c0 c1 b l r'):=by
 obtain⟨r1,hn,hcs⟩:=hr;have hR:=Rest_rs h;have hN:=Number_rs h r.l.length;rw[hn] at hN;obtain⟨n,hln⟩:=nmd (l.length);rw[hln] at hN hl;have hbc:b<c1:=by obtain⟨_,_,_,q,_⟩:=h;exact q
 have HR:=Hd hR;have HN:=Hd hN;have HCS:=Hd (An hcs hln);have HOK:=Hd (fun (W:World) (hW:Fr [b] w W)=>hok.fr1 hW h6);clear hR hN h hok hn hcs;unfold RdLPost;rw[hln];clear hln
 go_enter func177,ntmps177
 go_wp2_with (first
  | (go_at_call 216;(with_reducible refine HR.out.mono ?_);rintro e w2 ⟨rfl,rfl⟩)
  | (go_at_call 50;(with_reducible refine HN.out.mono ?_);rintro e w3 ⟨rfl,hrd,hf3⟩))
 have H3:=Hd (An hrd hf3);clear hrd hf3 HN HR
 go_loopw [4,12] (fun s i W=>∃ (j c:Nat) (A:Option Addr) (q:RS),j<=n/\i=.int .i64 (j:Int)/\s=.slice A j c/\RdS c0 c1 b q W/\RdCs q (l.drop j) r'/\Own W 95 7 A j c ((l.take j).flatMap CH.cs)/\Fr [b] w W/\∀ k∈blk A,w.heap.size<=k) (fun _ i _=>n - (intOf i).toNat)
 case atStart=>exact⟨0,0,none,r1,Nat.zero_le _,rfl,rfl,H3.out.1,HCS.out.1,Own.nil _ _ _,H3.out.2,by simp[blk]⟩
 case round =>
  obtain⟨j,c,A,q,hj,rfl,rfl,hrd,hcs,ho,hfr,hA⟩:=hrel;have HF:=Hd (An hrd (An hcs (An ho (An hfr hA))));clear hrd hcs ho hfr hA
  by_cases hlt:j<n
  ·have hlt3:(j:Int)<(n:Int):=by omega
   obtain⟨x,hx⟩:∃ x,l[j]?=some x:=⟨_,lge (by rw[HCS.out.2];exact hlt)⟩
   have hdrop:l.drop j=x::l.drop (j+1):=by
    have h1:=lgs.1 hx;rw[List.drop_eq_getElem_cons h1.1,h1.2]
   have hcs0:=HF.out.2.1;rw[hdrop] at hcs0
   obtain⟨q4,htail,tn,q2,q3,e1,e2,e3,e4⟩:∃ q4,RdCs q4 (l.drop (j+1)) r'/\RdC q x q4:=by
    cases hcs0 with
    | cons h t=>exact⟨_,t,h⟩
   have HX:=Hd (An htail (An hx hlt));obtain⟨⟨k,ow,nu,ix,tx⟩,v,ab⟩:=x;simp only at e2 e3 e4;obtain⟨so,hso,_,_⟩:=str_of ow;obtain⟨st,hst,_,_⟩:=str_of tx;obtain⟨sv,hsv,_,_⟩:=str_of v;have hT:=Text_rs HF.out.1 16777216;rw[e1,show (((16777216:Nat)):Int)=16777216 from rfl] at hT;obtain⟨ts,hts,hts2,htz⟩:=str_of tn;simp only at hT;rw[hts] at hT;have htl:tn.length<=16777216:=by have:=rdText_len 16777216 q;rw[e1] at this;exact this
   have HT:=Hd hT;have HE:=Hd (An e2 (An e3 e4));have HSO:=Hd (An hso (An hst hsv));have HTS:=Hd hts2;clear hT hts hts2 e1 e2 e3 e4 htail hx hdrop hcs0 hso hst hsv
   go_upto_region 5 with (first
    | (go_at_call 49;(with_reducible refine HT.out.mono ?_);rintro e w4 ⟨rfl,hrd4,hf4⟩;have HD:=Hd (DecodeO_any ts w4 (HOK.out w4 (HF.out.2.2.2.1.then hf4)) (by omega)))
    | (go_at_call 48;have hD:=HD.out;rw[HTS.out,HE.out.1] at hD;(with_reducible refine hD.mono ?_);clear hD;rintro e w5 ⟨rfl,hf5⟩;unfold encO;simp only[HSO.out.1,HSO.out.2.1]))
   have hbz:b<w5.heap.size:=by
    have e1:=HF.out.2.2.2.1.size;have e2:=hf4.size;have e3:=hf5.size;omega
   obtain⟨w6,hw6,hz6,hf56⟩:=bxn w5 #[.int .i64 k,.string so,.int .i64 nu,.int .i64 ix,.string st] 31;have hf6:Fr [b] wr w6:=hf4.trans (hf5.then hf56) (by simp);have hrd6:=(hrd4.fr0 hf5).fr0 hf56
   have hzb:w5.heap.size ∉ b::blk A:=by
    intro hm
    rcases List.mem_cons.1 hm with h | h
    ·omega
    ·have h1:=HF.out.2.2.1.lt _ h
     have e2:=hf4.size;have e3:=hf5.size;omega
   rw[hw6];generalize w5.heap.size=Z at hz6 hzb ⊢;have hFl:=Flag_rs hrd6;rw[HE.out.2.1] at hFl;have HFL:=Hd hFl;have HF6:=Hd hf6;have HZ6:=Hd hz6;clear hrd4 hf4 hf5 hw6 hz6 hf56 hf6 hrd6 hFl HT HD hbz
   go_upto_region 8 with ((go_at_call 217;(with_reducible refine HFL.out.mono ?_);rintro e w7 ⟨rfl,hrd7,hf7⟩))
   have hT:=fun W (hW:Fr [] w7 W)=>Text_rs (hrd7.fr0 hW) 65536;rw[HE.out.2.2,show (((65536:Nat)):Int)=65536 from rfl] at hT;simp only[HSO.out.2.2] at hT;have HT:=Hd hT;have hz7:=HZ6.out.fr hf7 (fun hm=>hzb (by rw[lms] at hm;simp[hm]));have HF7:=Hd (HF6.out.then hf7)
   have hss:∀ W,Fr (b::blk A) w7 W->W.cell? ⟨Z,0,none⟩=some (.int .i64 k)/\W.cell? ⟨Z,1,none⟩=some (.string so)/\W.cell? ⟨Z,2,none⟩=some (.int .i64 nu)/\W.cell? ⟨Z,3,none⟩=some (.int .i64 ix)/\W.cell? ⟨Z,4,none⟩=some (.string st):=fun W hf=>by
    have h:=hz7.fr hf hzb;exact⟨h.c 0,h.c 1,h.c 2,h.c 3,h.c 4⟩
   have HSS:=Hd hss;have hAb:b ∉ blk A:=fun hm=>by have:=HF.out.2.2.2.2 b hm;omega
   have HOW:=Hd (fun (W:World) (hW:Fr [b] w7 W)=>HF.out.2.2.1.fr (HF7.out.then hW) (fun q hq hm=>by rw[lms] at hm;subst hm;exact hAb hq));clear hT hz7 hss hrd7 hf7 HFL HF6 HZ6;obtain⟨ii,hii,iz0,iz1,iz2⟩:=info_chg
   go_region_held3 (fun W=>W.cell? ⟨Z,0,none⟩=some (.int .i64 k)/\W.cell? ⟨Z,1,none⟩=some (.string so)/\W.cell? ⟨Z,2,none⟩=some (.int .i64 nu)/\W.cell? ⟨Z,3,none⟩=some (.int .i64 ix)/\W.cell? ⟨Z,4,none⟩=some (.string st)) (with_reducible refine HSS.out _ ?_;(repeat (first | exact Fq _ _ | exact HF8.out | exact HF9.out | refine Fr.drew ?_ | refine Fr.alloc ?_ _ | refine Fr.then ?_ hf8.undrew));done) (first
    | (go_at_call 49;(with_reducible refine (HT.out _ (Fq [] w7).drew).mono ?_);rintro e w8 ⟨rfl,hrd8,hf8⟩;have HF8:Hid (Fr (b::blk A) w7 w8):=Hd (hf8.undrew.mono (fun k hk=>.inl (by rw[lms] at hk;simp[hk]))))
    | (rw[if_pos (by rfl)];(with_reducible refine wp_app_tmp (w:=w8) (.tmp 24) (.tmp 30) 62 rfl 95 ii _ 7 80 underlying62 hii iz0 iz1 iz2 rfl (by decide) A j c ((l.take j).flatMap CH.cs) rfl (HOW.out w8 hf8.undrew) 1 1 [.int .i64 k,.string so,.int .i64 nu,.int .i64 ix,.string st,.string sv,.bool ab] 95 rfl rfl (by simp[Value.oneCell']) (by unfold maxLen;omega) (by omega) ?_);intro A2 c2 w9 ho9 hf9 hs9;have HO9:=Hd ho9;have HF9:Hid (Fr (b::blk A) w7 w9):=Hd (HF8.out.trans hf9 (fun k hk=>.inl (by simp[hk])));have HF98:=Hd hf9;have HS9:=Hd hs9;have HR9:=Hd hrd8;clear ho9 hf9 hs9))
   go_wp2_with fail
   go_roundw
   case rel =>
    have hx:=takes (f:=CH.cs) HX.out.2.1;unfold CH.cs at hx;simp only[HSO.out.1,HSO.out.2.1,HSO.out.2.2] at hx;have ho9:=HO9.out;have hb9:∀ y∈blk A,y<c0 \/ c1<=y:=fun y hy=>by have:=HF.out.2.2.2.2 y hy;omega
    have hf8:=HF.out.2.2.2.1.then (HF7.out.then hf8.undrew);refine⟨j+1,c2,A2,q4,by omega,by go_num,rfl,HR9.out.fr HF98.out hb9,HX.out.1,?_,hf8.trans HF98.out (fun y hy=>.inr (HF.out.2.2.2.2 y hy)),fun y hy=>?_⟩
    ·unfold CH.cs at ho9 ⊢
     rw[hx];exact ho9
    ·rcases HS9.out y hy with h | h
     ·exact HF.out.2.2.2.2 y h
     ·have:=hf8.size;omega
   case measure=>simp[intOf];omega
  ·obtain rfl:j=n:=by omega
   have h1:=HF.out.2.1;have h2:=HF.out.2.2.1;rw[List.drop_eq_nil_of_le (by rw[HCS.out.2];exact nlr _)] at h1;rw[List.take_of_length_le (by rw[HCS.out.2];exact nlr _)] at h2;have h3:q=r':=by cases h1;rfl
   have HX:=Hd (An h2 h3);clear h1 h2 h3
   go_wp2_with fail
   go_ret2
   exact⟨A,c,rfl,by rw[<-HX.out.2];exact HF.out.1,HF.out.2.2.2.1,HX.out.1,HF.out.2.2.2.2⟩
def DecGPost (w:World) (a:AG) (e:Ending) (w':World):Prop :=
 ∃ x:AX,x.a=a/\e=.returned (.tuple #[x.v,.int .i64 0])/\x.ok w'/\Fr [] w w'/\(∀ k∈blk x.A,w.heap.size<=k)/\∀ k∈blk x.B,w.heap.size<=k
theorem DecodeA_g (s:ByteArray) (a:AG) (w:World) (hok:Ok w) (hs:s.size<=70368744177664) (hd:DecG s.data.toList a) (hwf:wfB a=true) (hg:a.fit):Calls prog 134 #[.string s] w (DecGPost w a):=by
 obtain⟨r1,r2,r3,hk,hl1,hl2,hcl⟩:=hd;obtain⟨w1,hw1,hz1,hf1⟩:=bxn w (actZ) 91;obtain⟨cap,w2,hcv,hf2,hr2⟩:=str_row s w1;have hsz1:w.heap.size<w2.heap.size:=by have:=hz1.lt;have:=hf2.size;omega
 have hNR:=NewReader_rs _ s.size cap _ _ w2 hr2 (by rintro a h;injection h with h;rw[<-h]) hs;have HZ:=Hd (hz1.fr hf2 (by simp));have HF:=Hd (hf1.then hf2);have HN:=Hd hNR;have HW1:=Hd hw1;have HL:=Hd (An hk (An hl1 (An hl2 hcl)));obtain⟨ti,hti⟩:=nmd (a.k.rnd);obtain⟨ph,hph⟩:=nmd (a.k.phase);obtain⟨ix,hix⟩:=nmd (a.k.idx);obtain⟨sl,hsl,_,_⟩:=str_of a.k.lin;have hek:encK a.k=.agg #[.int .i64 ti,.int .i64 ph,.int .i64 ix,.string sl]:=by unfold encK;rw[hti,hph,hix,hsl]
 have HKY:=Hd (An hti (An hph (An hix hsl)));have HWG:=Hd (An hwf hg);have HEK:=Hd hek;clear hw1 hz1 hf1 hf2 hr2 hNR hk hl1 hl2 hcl hek hti hph hix hsl hwf hg;unfold actZ at HW1
 go_enter func134,ntmps134
 go_upto_region 1 with fail
 rw[HW1.out]
 go_upto_region 2 with ((go_at_call 47;(with_reducible refine HN.out.mono ?_);rintro e w3 ⟨b,rfl,hrd,hf3⟩))
 obtain⟨c0,hc0⟩:=nmd (w2.heap.size);obtain⟨c1,hc1⟩:=nmd (w3.heap.size);rw[hc0,hc1] at hrd;rw[hc0] at hsz1;have hbb:c0<=b/\b<c1:=by obtain⟨A,_,h1,h2,_⟩:=hrd;exact⟨h1,h2⟩
 have HZ3:=Hd (HZ.out.fr hf3 (by simp));have HF3:=Hd (HF.out.then hf3);have hlow:=hok.low;have hK:=readKey_rs c0 c1 b _ w3 hrd (by omega);rw[HL.out.1,HEK.out] at hK;have HK:=Hd hK;clear hK hrd HN HW1 HZ HF hf3 hcv
 go_upto_region 3 with ((go_at_call 176;(with_reducible refine HK.out.mono ?_);rintro e w4 ⟨rfl,hrd4,hf4⟩))
 obtain⟨w5,hw5,hb5,hf45⟩:=bxn w4 #[.int .i64 ti,.int .i64 ph,.int .i64 ix,.string sl,.slice none 0 0,.slice none 0 0] 91;have hs4:=hf4.size;have hc3:c1<=w5.heap.size:=by have:=hf45.size;omega
 have hF5:Fr [b] w w5:=(HF3.out.trans hf4 (by simp;omega)).then (hf45.mono (by simp)) |>.mono (by simp);have hDb:w4.heap.size≠b:=by omega
 have hDc:c1<=w4.heap.size:=by omega
 have hDl:=hb5.lt;have hRZ:w.heap.size≠w4.heap.size:=by omega
 have hZ5:=(HZ3.out.fr hf4 (by simp;omega)).fr hf45 (by simp);rw[hw5];generalize w4.heap.size=D at hb5 hDb hDc hDl hRZ ⊢;have HF5:=Hd hF5;have HRD:=Hd (hrd4.fr0 hf45);have HBD:=Hd hb5;have HZ5:=Hd hZ5;clear hw5 hb5 hf45 hF5 hZ5 hrd4 hf4 HK HF3 HZ3
 go_wp2_with fail
 refine wp_loop_rounds 3 ?_;rw[rounds_succ];have hix:(Instr.index 300 (.agg #[.pointer (some ⟨D,4,none⟩),.pointer (some ⟨D,5,none⟩)]) (.int .i64 0)).run prog w5=.ok (.pointer (some ⟨D,4,none⟩)) w5:=run_index2p w5 _ _ _ 0 (by omega) rfl
 go_upto_region 7 with fail
 clear hix;have hltw5:=HBD.out.lt;have hT:=ReadChanges_g c0 c1 b r1 r2 a.r w5 (hok.fr (S:=[b]) HF5.out (by simp;omega)) HRD.out (by omega) (by omega) HWG.out.2.rl HL.out.2.1;have HT:=Hd hT;clear hT
 go_upto_region 8 with ((go_at_call 177;(with_reducible refine HT.out.mono ?_);rintro e x6 ⟨A,c,rfl,hrd6,hf6,hcl6,hbl6⟩;obtain⟨n,hn⟩:∃ n,(a.r).length=n:=⟨_,rfl⟩;rw[hn];have HNA:=Hd hn;clear hn;have hb6:=HBD.out.fr hf6 (by simpa using hDb);have d4:(x6).cell? ⟨D,4,none⟩=some _:=hb6.c 4;have df:=hb6.f 4;have HB6:=Hd hb6;clear hb6))
 obtain⟨x7,hw7⟩:=nmd ((x6).setCell ⟨D,4,none⟩ (.slice A n c));have hf67:Fr [D] x6 x7:=by rw[<-hw7];exact (Fq [D] x6).set (.inl (by simp)) _
 have hb7:BoxN x7 D 91 #[.int .i64 ti,.int .i64 ph,.int .i64 ix,.string sl,.slice A n c,.slice none 0 0]:=by rw[<-hw7];exact HB6.out.setAt 4 _
 rw[hw7]
 have hD6:∀ k∈blk A,k ∉ [D]:=by
  intro k hk;have:=hbl6 k hk;simp only[lms];omega
 have HBA:=Hd (An (hcl6.fr hf67 hD6) (An hbl6 hltw5));have HRD7:=Hd (hrd6.fr hf67 (by simp;omega));have HF7:=Hd ((HF5.out.then hf6).trans hf67 (by simp;omega));have HBD7:=Hd hb7;have HZ7:=Hd ((HZ5.out.fr hf6 (by simp;omega)).fr hf67 (by simp;omega));have HSx7:=Hd (An hf6 hf67);clear hw7 hb7 hf67 hD6 hf6 hcl6 hbl6 hrd6 d4 df HB6 HT hltw5 HF5 HRD HBD HZ5
 go_wp2_with fail
 rw[rounds_succ];have hix:(Instr.index 300 (.agg #[.pointer (some ⟨D,4,none⟩),.pointer (some ⟨D,5,none⟩)]) (.int .i64 1)).run prog x7=.ok (.pointer (some ⟨D,5,none⟩)) x7:=run_index2p x7 _ _ _ 1 (by omega) rfl
 go_upto_region 7 with fail
 clear hix;have hltx7:=HBD7.out.lt;have hT:=ReadChanges_g c0 c1 b r2 r3 a.w x7 (hok.fr (S:=[b]) HF7.out (by simp;omega)) HRD7.out (by omega) (by omega) HWG.out.2.wl HL.out.2.2.1;have HT:=Hd hT;clear hT
 go_upto_region 8 with ((go_at_call 177;(with_reducible refine HT.out.mono ?_);rintro e x8 ⟨B,d,rfl,hrd6,hf6,hcl6,hbl6⟩;obtain⟨m,hm⟩:∃ n,(a.w).length=n:=⟨_,rfl⟩;rw[hm];have HNB:=Hd hm;clear hm;have hb6:=HBD7.out.fr hf6 (by simpa using hDb);have d4:(x8).cell? ⟨D,5,none⟩=some _:=hb6.c 5;have df:=hb6.f 5;have HB6:=Hd hb6;clear hb6))
 obtain⟨x9,hw7⟩:=nmd ((x8).setCell ⟨D,5,none⟩ (.slice B m d));have hf67:Fr [D] x8 x9:=by rw[<-hw7];exact (Fq [D] x8).set (.inl (by simp)) _
 have hb7:BoxN x9 D 91 #[.int .i64 ti,.int .i64 ph,.int .i64 ix,.string sl,.slice A n c,.slice B m d]:=by rw[<-hw7];exact HB6.out.setAt 5 _
 rw[hw7]
 have hD6:∀ k∈blk B,k ∉ [D]:=by
  intro k hk;have:=hbl6 k hk;simp only[lms];omega
 have HBB:=Hd (An (hcl6.fr hf67 hD6) (An hbl6 hltx7));have HRD9:=Hd (hrd6.fr hf67 (by simp;omega));have HF9:=Hd ((HF7.out.then hf6).trans hf67 (by simp;omega));have HBD9:=Hd hb7;have HZ9:=Hd ((HZ7.out.fr hf6 (by simp;omega)).fr hf67 (by simp;omega));have HSx9:=Hd (An hf6 hf67);clear hw7 hb7 hf67 hD6 hf6 hcl6 hbl6 hrd6 d4 df HB6 HT hltx7 HF7 HRD7 HBD7 HZ7;have hA9:Own x9 95 7 A n c (a.r.flatMap CH.cs):=by rw[<-HNA.out];exact (HBA.out.1.fr HSx9.out.1 (by intro k hk;have:=HBA.out.2.1 k hk;have:=HBA.out.2.2;simp only[lms];omega)).fr HSx9.out.2 (by intro k hk;have:=HBA.out.2.1 k hk;have:=HBA.out.2.2;simp only[lms];omega)
 have hkA:∀ k∈blk A,w.heap.size<=k/\k≠b:=by intro k hk;have:=HBA.out.2.1 k hk;have:=HBA.out.2.2;omega
 have hkB:∀ k∈blk B,w.heap.size<=k/\k≠b:=by intro k hk;have:=HBB.out.2.1 k hk;have:=HBB.out.2.2;omega
 have hB9:Own x9 95 7 B m d (a.w.flatMap CH.cs):=by rw[<-HNB.out];exact HBB.out.1
 have hok9:Ok x9:=hok.fr (S:=[b]) HF9.out (by simp;omega);have hW:=WellFormedG a sl A B c d x9 hok9 HKY.out.2.2.2 (by unfold Chs;rw[HNA.out];exact hA9.rd) (by unfold Chs;rw[HNB.out];exact hB9.rd) HWG.out.2;rw[HWG.out.1] at hW;unfold AG.val at hW;rw[HNA.out,HNB.out,HKY.out.1,HKY.out.2.1,HKY.out.2.2.1] at hW;have hC:=Close_rs HRD9.out;rw[HL.out.2.2.2] at hC;obtain⟨y0,y1,y2,y3,y4,y5⟩:=HBD9.out.m6;have HC:=Hd hC;have HW:=Hd hW;have HA9:=Hd hA9;have HB9:=Hd hB9;clear hC hW hA9 hB9 hok9
 go_wp2_with fail
 rw[rounds_succ]
 go_upto_region 13 with (first
  | (go_at_call 52;(with_reducible refine HC.out.mono ?_);rintro e w10 ⟨rfl,rfl⟩)
  | (go_at_call 120;(with_reducible refine HW.out.mono ?_);rintro e w11 ⟨rfl,hf11⟩))
 have hz11:=HZ9.out.fr hf11 (by simp);have hb11:=HBD9.out.fr hf11 (by simp);clear y0 y1 y2 y3 y4 y5;obtain⟨y0,y1,y2,y3,y4,y5⟩:=hb11.m6;unfold actZ at hz11;obtain⟨z0,z1,z2,z3,z4,z5⟩:=hz11.m6;have g0:=hz11.f 0;have g1:=hz11.f 1;have g2:=hz11.f 2;have g3:=hz11.f 3;have g4:=hz11.f 4;have g5:=hz11.f 5;have HZ11:=Hd hz11;have HF11:=Hd hf11;clear hz11 hb11 hf11 HC HW
 go_wp2_with fail
 obtain⟨w12,hw12⟩:=nmd (((((((w11.setCell ⟨w.heap.size,0,none⟩ (.int .i64 ti)).setCell ⟨w.heap.size,1,none⟩ (.int .i64 ph)).setCell ⟨w.heap.size,2,none⟩ (.int .i64 ix)).setCell ⟨w.heap.size,3,none⟩ (.string sl)).setCell ⟨w.heap.size,4,none⟩ (.slice A n c)).setCell ⟨w.heap.size,5,none⟩ (.slice B m d)));have h12:BoxN w12 w.heap.size 91 #[.int .i64 ti,.int .i64 ph,.int .i64 ix,.string sl,.slice A n c,.slice B m d]:=by rw[<-hw12];exact ((((((HZ11.out.setAt 0 _).setAt 1 _).setAt 2 _).setAt 3 _).setAt 4 _).setAt 5 _)
 have f12:Fr [w.heap.size] w11 w12:=by rw[<-hw12];exact ((((((Fq [w.heap.size] w11).set (.inl (by simp)) _).set (.inl (by simp)) _).set (.inl (by simp)) _).set (.inl (by simp)) _).set (.inl (by simp)) _).set (.inl (by simp)) _
 have hcA:Own w12 95 7 A n c (a.r.flatMap CH.cs):=(HA9.out.fr HF11.out (by simp)).fr f12 (by intro k hk;have:=HBA.out.2.1 k hk;have:=HBA.out.2.2;simp only[lms];omega);have hcB:Own w12 95 7 B m d (a.w.flatMap CH.cs):=(HB9.out.fr HF11.out (by simp)).fr f12 (by intro k hk;have:=HBB.out.2.1 k hk;have:=HBB.out.2.2;simp only[lms];omega);have hfin:Fr [] w w12:=((HF9.out.trans HF11.out (by simp)).trans f12 (by simp)).mono (by simp;omega);obtain⟨t0,t1,t2,t3,t4,t5⟩:=h12.m6;have HFIN:=Hd (An hcA (An hcB hfin));rw[hw12];clear hw12 h12 f12 hcA hcB hfin z0 z1 z2 z3 z4 z5 y0 y1 y2 y3 y4 y5 g0 g1 g2 g3 g4 g5;refine bodyPost_ret (v:=.tuple #[.agg #[.int .i64 ti,.int .i64 ph,.int .i64 ix,.string sl,.slice A n c,.slice B m d],.int .i64 0]) (by simp[results,results134,go_sem,t0,t1,t2,t3,t4,t5]) rfl ⟨⟨a,sl,A,c,B,d⟩,rfl,?_,⟨HKY.out.2.2.2,by simp only;rw[HNA.out];exact HFIN.out.1,by simp only;rw[HNB.out];exact HFIN.out.2.1⟩,HFIN.out.2.2,fun k hk=>(hkA k hk).1,fun k hk=>(hkB k hk).1⟩;unfold AX.v AG.val;simp only;rw[HNA.out,HNB.out,HKY.out.1,HKY.out.2.1,HKY.out.2.2.1]
end Go.Proofs.YtlpmiimgacfmkaaGreatDoor
