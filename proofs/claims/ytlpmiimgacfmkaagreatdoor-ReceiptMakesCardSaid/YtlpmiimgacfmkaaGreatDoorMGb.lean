/- Actions of any kind: wellFormed (step's and versions'). -/
import Derived.Test.YtlpmiimgacfmkaaGreatDoorMGa
set_option linter.all false
namespace Go.Proofs.YtlpmiimgacfmkaaGreatDoor
open Go.Proofs.Tryz
open Go.RowKit
set_option maxRecDepth 100000
set_option maxHeartbeats 4000000
structure AG where
 k:KY
 r:List CH
 w:List CH
def AG.val (a:AG) (sl:ByteArray) (A:Option Addr) (c:Nat) (B:Option Addr) (d:Nat):Value:=.agg #[.int .i64 a.k.rnd,.int .i64 a.k.phase,.int .i64 a.k.idx,.string sl,.slice A a.r.length c,.slice B a.w.length d]
structure AG.fit (a:AG):Prop where
 lin:a.k.lin.length<=140737488355328
 r:∀ x∈a.r,x.fit
 w:∀ x∈a.w,x.fit
 rl:a.r.length<=100000
 wl:a.w.length<=100000
def wfB (a:AG):Bool:=decide (checkK a.k=0) && (ordB none a.r && ordB none a.w)
theorem WellFormedG (a:AG) (sl:ByteArray) (A B:Option Addr) (c d:Nat) (w:World) (hok:Ok w) (hsl:encN a.k.lin=.string sl) (hA:Chs w A a.r) (hB:Chs w B a.w) (hf:a.fit):Calls prog 120 #[a.val sl A c B d] w (RetPost w (.bool (wfB a))):=by
 obtain⟨ck,hck⟩:=nmd (checkK a.k);obtain⟨br,hbr⟩:=nmd (ordB none a.r);obtain⟨bw,hbw⟩:=nmd (ordB none a.w);have hO1:=fun W (hW:Fr [] w W)=>OrderlyG a.r A c W (hok.fr0 hW) (hA.fr0 hW) hf.r hf.rl;have hO2:=fun W (hW:Fr [] w W)=>OrderlyG a.w B d W (hok.fr0 hW) (hB.fr0 hW) hf.w hf.wl;have hC:=fun W=>CheckK_any a.k W hf.lin;unfold wfB AG.val;rw[hbr] at hO1 ⊢;rw[hbw] at hO2 ⊢;rw[hck] at hC ⊢;unfold encK at hC;rw[hsl] at hC;obtain⟨k,r,wr⟩:=a;obtain⟨k1,k2,k3,kl⟩:=k;simp only at hO1 hO2 hC ⊢;obtain⟨nr,hnr⟩:=nmd (r.length);obtain⟨nw,hnw⟩:=nmd (wr.length);rw[hnr] at hO1 ⊢;rw[hnw] at hO2 ⊢;obtain⟨w1,hw1,hz1,n1,f1⟩:=bxz w #[.int .i64 k1,.int .i64 k2,.int .i64 k3,.string sl,.slice A nr c,.slice B nw d] 91 w.heap.size;obtain⟨x0,x1,x2,x3⟩:=n1.m4;have HC:=Hd (hC w1);have HN:=Hd (An n1 f1);have HW1:=Hd hw1;have HO1:=Hd hO1;have HO2:=Hd hO2;clear hC n1 f1 hw1 hO1 hO2 hok hA hB hf hbr hbw hck hsl hnr hnw hz1
 rcases Int.decEq ck 0 with h0 | h0
 ·have h1:decide (ck=0)=false:=decide_eq_false h0
  have h2:(ck == 0)=false:=by simpa using h0
  rw[h1]
  go_enter func120,ntmps120
  go_upto_region 1 with fail
  rw[HW1.out]
  go_wp2_with (go_at_call 169;(with_reducible refine HC.out.mono ?_);rintro e w2 ⟨rfl,hf2⟩;have H2:=Hd hf2;clear hf2)
  go_ret
  exact⟨rfl,HN.out.2.then H2.out⟩
 ·subst h0
  go_enter func120,ntmps120
  go_upto_region 1 with fail
  rw[HW1.out]
  cases br with
  | false =>
   go_wp2_with (first
    | (go_at_call 169;(with_reducible refine HC.out.mono ?_);rintro e w2 ⟨rfl,hf2⟩;have hb2:=HN.out.1.fr hf2 (by simp);have y4:w2.cell? ⟨w.heap.size,4,none⟩=some (.slice A nr c):=hb2.c 4;have y5:w2.cell? ⟨w.heap.size,5,none⟩=some (.slice B nw d):=hb2.c 5;have H2:=Hd (An hb2 (HN.out.2.then hf2));clear hf2 hb2)
    | (go_at_call 170;(with_reducible refine (HO1.out _ H2.out.2).mono ?_);rintro e w3 ⟨rfl,hf3⟩;have H3:=Hd (H2.out.2.then hf3);clear hf3))
   go_ret
   exact⟨rfl,H3.out⟩
  | true =>
   go_wp2_with (first
    | (go_at_call 169;(with_reducible refine HC.out.mono ?_);rintro e w2 ⟨rfl,hf2⟩;have hb2:=HN.out.1.fr hf2 (by simp);have y4:w2.cell? ⟨w.heap.size,4,none⟩=some (.slice A nr c):=hb2.c 4;have y5:w2.cell? ⟨w.heap.size,5,none⟩=some (.slice B nw d):=hb2.c 5;have H2:=Hd (An hb2 (HN.out.2.then hf2));clear hf2 hb2)
    | (go_at_call 170;(with_reducible refine (HO1.out _ H2.out.2).mono ?_);rintro e w3 ⟨rfl,hf3⟩;have hb3:=H2.out.1.fr hf3 (by simp);have z5:w3.cell? ⟨w.heap.size,5,none⟩=some (.slice B nw d):=hb3.c 5;have H3:=Hd (H2.out.2.then hf3);clear hf3 hb3)
    | (go_at_call 170;(with_reducible refine (HO2.out _ H3.out).mono ?_);rintro e w4 ⟨rfl,hf4⟩;have H4:=Hd (H3.out.then hf4);clear hf4))
   go_ret
   exact⟨rfl,H4.out⟩
theorem WellFormedVG (a:AG) (sl:ByteArray) (A B:Option Addr) (c d:Nat) (w:World) (hok:Ok w) (hsl:encN a.k.lin=.string sl) (hA:Chs w A a.r) (hB:Chs w B a.w) (hf:a.fit):Calls prog 158 #[a.val sl A c B d] w (RetPost w (.bool (wfB a))):=by
 obtain⟨ck,hck⟩:=nmd (checkK a.k);obtain⟨br,hbr⟩:=nmd (ordB none a.r);obtain⟨bw,hbw⟩:=nmd (ordB none a.w);have hO1:=fun W (hW:Fr [] w W)=>OrderlyVG a.r A c W (hok.fr0 hW) (hA.fr0 hW) hf.r hf.rl;have hO2:=fun W (hW:Fr [] w W)=>OrderlyVG a.w B d W (hok.fr0 hW) (hB.fr0 hW) hf.w hf.wl;have hC:=fun W=>CheckK_any a.k W hf.lin;unfold wfB AG.val;rw[hbr] at hO1 ⊢;rw[hbw] at hO2 ⊢;rw[hck] at hC ⊢;unfold encK at hC;rw[hsl] at hC;obtain⟨k,r,wr⟩:=a;obtain⟨k1,k2,k3,kl⟩:=k;simp only at hO1 hO2 hC ⊢;obtain⟨nr,hnr⟩:=nmd (r.length);obtain⟨nw,hnw⟩:=nmd (wr.length);rw[hnr] at hO1 ⊢;rw[hnw] at hO2 ⊢;obtain⟨w1,hw1,hz1,n1,f1⟩:=bxz w #[.int .i64 k1,.int .i64 k2,.int .i64 k3,.string sl,.slice A nr c,.slice B nw d] 91 w.heap.size;obtain⟨x0,x1,x2,x3⟩:=n1.m4;have HC:=Hd (hC w1);have HN:=Hd (An n1 f1);have HW1:=Hd hw1;have HO1:=Hd hO1;have HO2:=Hd hO2;clear hC n1 f1 hw1 hO1 hO2 hok hA hB hf hbr hbw hck hsl hnr hnw hz1
 rcases Int.decEq ck 0 with h0 | h0
 ·have h1:decide (ck=0)=false:=decide_eq_false h0
  have h2:(ck == 0)=false:=by simpa using h0
  rw[h1]
  go_enter func158,ntmps158
  go_upto_region 1 with fail
  rw[HW1.out]
  go_wp2_with (go_at_call 169;(with_reducible refine HC.out.mono ?_);rintro e w2 ⟨rfl,hf2⟩;have H2:=Hd hf2;clear hf2)
  go_ret
  exact⟨rfl,HN.out.2.then H2.out⟩
 ·subst h0
  go_enter func158,ntmps158
  go_upto_region 1 with fail
  rw[HW1.out]
  cases br with
  | false =>
   go_wp2_with (first
    | (go_at_call 169;(with_reducible refine HC.out.mono ?_);rintro e w2 ⟨rfl,hf2⟩;have hb2:=HN.out.1.fr hf2 (by simp);have y4:w2.cell? ⟨w.heap.size,4,none⟩=some (.slice A nr c):=hb2.c 4;have y5:w2.cell? ⟨w.heap.size,5,none⟩=some (.slice B nw d):=hb2.c 5;have H2:=Hd (An hb2 (HN.out.2.then hf2));clear hf2 hb2)
    | (go_at_call 190;(with_reducible refine (HO1.out _ H2.out.2).mono ?_);rintro e w3 ⟨rfl,hf3⟩;have H3:=Hd (H2.out.2.then hf3);clear hf3))
   go_ret
   exact⟨rfl,H3.out⟩
  | true =>
   go_wp2_with (first
    | (go_at_call 169;(with_reducible refine HC.out.mono ?_);rintro e w2 ⟨rfl,hf2⟩;have hb2:=HN.out.1.fr hf2 (by simp);have y4:w2.cell? ⟨w.heap.size,4,none⟩=some (.slice A nr c):=hb2.c 4;have y5:w2.cell? ⟨w.heap.size,5,none⟩=some (.slice B nw d):=hb2.c 5;have H2:=Hd (An hb2 (HN.out.2.then hf2));clear hf2 hb2)
    | (go_at_call 190;(with_reducible refine (HO1.out _ H2.out.2).mono ?_);rintro e w3 ⟨rfl,hf3⟩;have hb3:=H2.out.1.fr hf3 (by simp);have z5:w3.cell? ⟨w.heap.size,5,none⟩=some (.slice B nw d):=hb3.c 5;have H3:=Hd (H2.out.2.then hf3);clear hf3 hb3)
    | (go_at_call 190;(with_reducible refine (HO2.out _ H3.out).mono ?_);rintro e w4 ⟨rfl,hf4⟩;have H4:=Hd (H3.out.then hf4);clear hf4))
   go_ret
   exact⟨rfl,H4.out⟩
theorem partsN_size:∀ (f:Nat) (s:List UInt8) (a c:Nat),f+c=9->0<f->a<=s.length->(partsN f s a c).all (fun p=>p.2.2 == 0)=true->s.length<=a+8*f
 | 0,_,_,_,_,h,_,_=>by omega
 | f+1,s,a,c,hf,_,ha,h=>by
  rw[partsN,List.all_cons,Bool.and_eq_true] at h;obtain⟨h1,h2⟩:=h;have h1':(firstP s a c).1.2.2=0:=by simpa using h1
  have he:(firstP s a c).2=a+run7 s a/\c≠8:=by
   unfold firstP at h1' ⊢;split at h1'
   ·rename_i h0
    rw[if_pos h0];exact⟨rfl,by rintro rfl;simp[firstErr] at h0⟩
   ·rename_i h0
    exact absurd h1' h0
  have hr:=run7_le s a
  by_cases hx:(firstP s a c).2=s.length
  ·omega
  ·rw[if_neg (by simp[h1',hx])] at h2
   split at h2
   ·simp at h2
   ·rename_i h3
    have hlt:(firstP s a c).2<s.length:=by
     have:s[(firstP s a c).2]?=some 46:=by simpa using h3
     exact (lgs.1 this).1
    have:=partsN_size f s _ _ (by omega) (by omega) (by omega) h2;omega
theorem valid_len {s:Nm} (h:validB s=true):s.length<=72:=by
 unfold validB partsOf at h;split at h
 ·rename_i e;subst e;simp
 ·have:=partsN_size 9 s 0 0 rfl (by omega) (by omega) h
  omega
theorem encOn_len {n:ON} (h:checkO n=0):(encOn n).length<=200:=by
 have hv:=valid_len (valid_of_check h)
 have hkb:kindB n.kind=true:=by
  unfold checkO at h
  by_cases h':kindB n.kind=true
  ·exact h'
  ·rw[if_neg h'] at h
   simp at h
 unfold checkO at h;rw[if_pos hkb] at h
 obtain⟨k,hk,hk21⟩:∃ k:Nat,n.kind.toNat=k/\k<21:=by
  simp only[kindB,decide_eq_true_eq] at hkb;exact⟨n.kind.toNat,rfl,by omega⟩
 unfold encOn;rw[hk] at h ⊢;have hm:=us_most hk21;obtain⟨z1,z2,z3⟩:=checkU_zero h;have l0:=encU_len9 (u:=n.kind.toNat) (by omega)
 have l1:(if (us k).owner=true then encT n.owner else []).length<=81:=by
  split
  ·have:=encT_len (s:=n.owner) (by omega);omega
  ·simp
 have l2:(if (us k).number=true then encU n.number.toNat else []).length<=9:=by
  split
  ·rename_i e
   have:=z1 e;simp only[withinB,decide_eq_true_eq] at this;exact encU_len9 (by omega)
  ·simp
 have l3:(if (us k).index=true then encU n.index.toNat else []).length<=9:=by
  split
  ·rename_i e
   have:=z2 e;simp only[withinB,decide_eq_true_eq] at this;exact encU_len9 (by omega)
  ·simp
 have l4:(if (us k).text=true then encT n.text else []).length<=41:=by
  split
  ·rename_i e
   have:=z3 e;simp only[wordB,Bool.and_eq_true,decide_eq_true_eq] at this;have:=encT_len (s:=n.text) (by omega);omega
  ·simp
 unfold encOu;simp only[lla];omega
theorem ordB_all:∀ {l:List CH} {p:Option ON},ordB p l=true->∀ x∈l,oneB x=true
 | [],_,_,x,hx=>by simp at hx
 | c::r,p,h,x,hx=>by
  rw[ordB,Bool.and_eq_true,Bool.and_eq_true] at h
  rcases List.mem_cons.1 hx with rfl | hx
  ·exact h.1
  ·exact ordB_all h.2.2 x hx
theorem oneB_facts {c:CH} (h:oneB c=true):checkO c.n=0/\c.v.length<=65536:=by
 unfold oneB at h;simp only[Bool.and_eq_true,decide_eq_true_eq] at h;exact⟨h.1,h.2.1⟩
def encC (c:CH):Nm:=encT (encOn c.n)++(flagB c.a::encT c.v)
def encL (l:List CH):Nm:=encU l.length++l.flatMap encC
def encAG (a:AG):Nm:=(encKey a.k++encL a.r)++encL a.w
theorem encC_len {c:CH} (h:oneB c=true):(encC c).length<=66000:=by
 obtain⟨h1,h2⟩:=oneB_facts h;have h3:=encOn_len h1;have h4:=encT_len (s:=encOn c.n) (by omega);have h5:=encT_len (s:=c.v) (by omega);unfold encC;rw[lla,List.length_cons];omega
theorem encL_len {l:List CH} (h:ordB none l=true) (hl:l.length<=100000):(encL l).length<=66000*l.length+9:=by
 have h1:∀ (l:List CH),(∀ x∈l,oneB x=true)->(l.flatMap encC).length<=66000*l.length:=by
  intro l
  induction l with
  | nil=>intro _;simp
  | cons c r ih =>
   intro hx;have:=ih (fun x hm=>hx x (by simp[hm]));have:=encC_len (hx c (by simp));rw[List.flatMap_cons,lla,List.length_cons];omega
 have h2:=h1 l (ordB_all h);have h3:=encU_len9 (u:=l.length) (by omega);unfold encL;rw[lla];omega
theorem dropc {α β:Type} {f:α->List β} {xs:List α} {j:Nat} {x:α} (hx:xs[j]?=some x):(xs.drop j).flatMap f=f x++(xs.drop (j+1)).flatMap f:=by
 obtain⟨hj,rfl⟩:=lgs.1 hx;rw[List.drop_eq_getElem_cons hj,List.flatMap_cons]
theorem EncodeAG_bad (a:AG) (sl:ByteArray) (A B:Option Addr) (c d:Nat) (w:World) (hok:Ok w) (hsl:encN a.k.lin=.string sl) (hA:Chs w A a.r) (hB:Chs w B a.w) (hf:a.fit) (hw:wfB a=false):Calls prog 60 #[a.val sl A c B d] w (RetPost w (.tuple #[.string ⟨#[]⟩,.int .i64 3])):=by
 have hWF:=fun W (hW:Fr [] w W)=>WellFormedG a sl A B c d W (hok.fr0 hW) hsl (hA.fr0 hW) (hB.fr0 hW) hf;rw[hw] at hWF;unfold AG.val at hWF ⊢;obtain⟨⟨k1,k2,k3,kl⟩,r,wr⟩:=a;simp only at hWF ⊢;obtain⟨nr,hnr⟩:=nmd (r.length);obtain⟨nw,hnw⟩:=nmd (wr.length);rw[hnr,hnw] at hWF ⊢;obtain⟨w1,hw1,hz1,n1,f1⟩:=bxz w #[.int .i64 k1,.int .i64 k2,.int .i64 k3,.string sl,.slice A nr c,.slice B nw d] 91 w.heap.size;obtain⟨x0,x1,x2,x3,x4,x5⟩:=n1.m6;have HC:=Hd (hWF w1 f1);have HF:=Hd f1;have HW1:=Hd hw1;clear hWF n1 f1 hw1 hok hA hB hf hw hsl hnr hnw hz1
 go_enter func60,ntmps60
 go_upto_region 1 with fail
 rw[HW1.out]
 go_wp2_with (go_at_call 120;(with_reducible refine HC.out.mono ?_);rintro e w2 ⟨rfl,hf2⟩;have H2:=Hd hf2;clear hf2)
 go_ret2
 exact⟨rfl,HF.out.then H2.out⟩
def upG (kb:Nm) (r w:List CH):Nat->Nm
 | 0=>kb
 | 1=>kb++encL r
 | _=>(kb++encL r)++encL w
theorem EncodeAG_ok (a:AG) (sl:ByteArray) (A B:Option Addr) (c d:Nat) (w:World) (hok:Ok w) (hsl:encN a.k.lin=.string sl) (hA:Chs w A a.r) (hB:Chs w B a.w) (hf:a.fit) (hw:wfB a=true):Calls prog 60 #[a.val sl A c B d] w (RetPost w (.tuple #[encN (encAG a),.int .i64 0])):=by
 have hWF:=fun W (hW:Fr [] w W)=>WellFormedG a sl A B c d W (hok.fr0 hW) hsl (hA.fr0 hW) (hB.fr0 hW) hf;rw[hw] at hWF;unfold wfB at hw;simp only[Bool.and_eq_true,decide_eq_true_eq] at hw;obtain⟨hck,hor,how⟩:=hw;have hlr:=encL_len hor hf.rl;have hlw:=encL_len how hf.wl;have hrl:=hf.rl;have hwl:=hf.wl
 have hKC:(0<=a.k.rnd/\a.k.rnd<=9223372036854775807)/\(0<=a.k.phase/\a.k.phase<=9223372036854775807)/\(0<=a.k.idx/\a.k.idx<=9223372036854775807)/\a.k.lin.length<=72:=by
  unfold checkK at hck;split at hck
  ·simp at hck
  split at hck
  ·simp at hck
  split at hck
  ·simp at hck
  refine⟨by omega,by omega,by omega,?_⟩;split at hck
  ·split at hck
   ·simp at hck
   ·rename_i h;simp at h;rw[h];simp
  ·split at hck
   ·simp at hck
   ·rename_i h
    simp at h;exact valid_len h.2
 have hKW:=fun (W2 W3:World) (b:Nat) (hws:WrS W2 b [] W3)=>KeyWrite_wk a.k W2 W3 b [] hws hKC.1 hKC.2.1 hKC.2.2.1 (by omega) (by simp)
 have hkl:(encKey a.k).length<=200:=by
  unfold encKey;have h1:=encU_len9 (u:=a.k.rnd.toNat) (by omega);have h2:=encU_len9 (u:=a.k.phase.toNat) (by omega);have h3:=encU_len9 (u:=a.k.idx.toNat) (by omega);have h4:=encT_len (s:=a.k.lin) (by omega);simp only[lla];omega
 obtain⟨q,hq⟩:=nmd (encAG a);rw[hq];unfold encAG at hq;unfold encK at hKW;rw[hsl] at hKW;obtain⟨kb,hkb⟩:=nmd (([]:Nm)++encKey a.k);rw[hkb] at hKW;rw[List.nil_append] at hkb;rw[hkb] at hq hkl;unfold AG.val at hWF ⊢;obtain⟨⟨k1,k2,k3,kl⟩,r,l2⟩:=a;have HFIT:=Hd (An hf.r hf.w);have HALL:=Hd (An (ordB_all hor) (ordB_all how));simp only at hWF hKW hq hA hB hlr hlw hrl hwl ⊢;obtain⟨nr,hnr⟩:=nmd (r.length);obtain⟨nw,hnw⟩:=nmd (l2.length);have HA:=Hd hA;have HB:=Hd hB;unfold Chs Rd at HA HB;rw[hnr,hnw] at hWF ⊢;rw[hnr] at hlr hrl;rw[hnw] at hlw hwl;have hq0:upG kb r l2 2=q:=hq;have hlU1:(kb++encL r).length<=7000000000:=by rw[lla];omega
 have hlU2:((kb++encL r)++encL l2).length<=14000000000:=by rw[lla];omega
 have HNR:=Hd hnr;have HNW:=Hd hnw;obtain⟨w1,hw1,hz1,n1,f1⟩:=bxz w #[.int .i64 k1,.int .i64 k2,.int .i64 k3,.string sl,.slice A nr c,.slice B nw d] 91 w.heap.size;obtain⟨x0,x1,x2,x3,x4,x5⟩:=n1.m6;have HWF:=Hd (hWF w1 f1);have HKW:=Hd hKW;have HQ:=Hd hq0;have HB1:=Hd n1;have HF1:=Hd f1;have HW1:=Hd hw1;have HOK:=Hd (fun (W:World) (hW:Fr [] w W)=>hok.fr0 hW);clear hWF hKW hq hq0 n1 f1 hw1 hok hA hB hf hck hor how hsl hnr hnw hz1 hkb hKC
 go_enter func60,ntmps60
 go_upto_region 1 with fail
 rw[HW1.out]
 go_upto_region 4 with (first
  | (go_at_call 120;(with_reducible refine HWF.out.mono ?_);rintro e w2 ⟨rfl,hf2⟩;have HF2:=Hd hf2;clear hf2)
  | (go_at_call 54;(with_reducible refine (NewWriter_any _).mono ?_);rintro e w3 ⟨rfl,hwr3,hf3⟩))
 have hlt:=HB1.out.lt;have hs2:=HF2.out.size;have HF3:=Hd (HF1.out.then (HF2.out.then hf3));have hb3:=(HB1.out.fr HF2.out (by simp)).fr hf3 (by simp);have hws3:=WrS.new hwr3;have hbb0:w.heap.size<w2.heap.size:=by omega
 generalize w2.heap.size=b at hws3 hbb0 ⊢;have hbb:w.heap.size<=b:=by omega
 obtain⟨y0,y1,y2,y3⟩:=hb3.m4;have HB3:=Hd hb3;have HWS3:=Hd hws3;clear x0 x1 x2 x3 x4 x5 hwr3 hf3 hb3 hws3 hlt hs2 HWF HB1 HF1 HF2 HW1
 go_upto_region 5 with ((go_at_call 121;(with_reducible refine (HKW.out _ _ _ HWS3.out).mono ?_);rintro e w4 ⟨rfl,hws4,hk4⟩))
 have hb4:=HB3.out.fr hws4.fr (by simp;omega);have z4:=hb4.k4;have z5:=hb4.k5;have HJ0:=Hd hws4;clear y0 y1 y2 y3 hb4 hws4 hk4 HB3 HWS3 HKW
 go_wp2_with fail
 clear z4 z5
 go_loopw [24] (fun i W=>∃ k:Nat,k<=2/\i=.int .i64 (k:Int)/\WrS w3 b (upG kb r l2 k) W) (fun i _=>2 - (intOf i).toNat)
 case atStart=>exact⟨0,by omega,rfl,HJ0.out⟩
 case round =>
  obtain⟨k,hk,rfl,hws⟩:=hrel;have HWN:=Hd hws;clear hws HJ0
  match k,hk with
  | 0,_ =>
   have hix:(Instr.index 231 (.agg #[.slice A nr c,.slice B nw d]) (.int .i64 0)).run prog wr=.ok (.slice A nr c) wr:=run_index2 wr _ _ _ 0 (by omega) rfl
   go_upto_region 8 with fail
   clear hix;unfold upG at HWN;have hLl:=hlU1
   go_upto_region 9 with (go_at_call 57;(with_reducible refine (Number_wk HWN.out nr (by omega) (by omega)).mono ?_);rintro e w5 ⟨rfl,hws5,_⟩;have HWM:=Hd hws5;clear hws5)
   have htot:((kb)++encU nr)++(r.drop 0).flatMap encC=kb++encL r:=by rw[<-HNR.out,List.append_assoc];rfl
   have HTT:=Hd htot;clear HWN htot
   go_wp2_with fail
   go_loopw [33] (fun i W=>∃ j:Nat,j<=nr/\i=.int .i64 (j:Int)/\∃ bs,bs++(r.drop j).flatMap encC=kb++encL r/\WrS w3 b bs W) (fun i _=>nr - (intOf i).toNat)
   case atStart=>exact⟨0,Nat.zero_le _,rfl,_,HTT.out,HWM.out⟩
   case round =>
    obtain⟨j,hj,rfl,bs,hbs,hws⟩:=hrel;have HJ:=Hd (An hbs hws);clear hbs hws
    by_cases hlt:j<nr
    ·have hlt3:(j:Int)<(nr:Int):=by omega
     obtain⟨bb,off,rfl,hbl,hcl⟩:=row_get ch_len HA.out (by rw[HNR.out];omega);obtain⟨x,hx⟩:∃ x,(r)[j]?=some x:=⟨_,lge (by rw[HNR.out];exact hlt)⟩;have hone:=HALL.out.1 x (lmg hx);obtain⟨hck,hvl⟩:=oneB_facts hone;have hel:=encOn_len hck;have hfo:=valid_len (valid_of_check hck);have hfit:=HFIT.out.1 x (lmg hx);have hkeep:∀ o,wr.cell? ⟨bb,o,none⟩=w.cell? ⟨bb,o,none⟩:=fun o=>(HJ.out.2.fr.cell (p:=⟨bb,o,none⟩) (Nat.lt_of_lt_of_le hbl HF3.out.size) (by simp;omega)).trans (HF3.out.cell (p:=⟨bb,o,none⟩) hbl (by simp));have hte0:=HJ.out.1;rw[dropc hx] at hte0;have hle2:=congrArg List.length hte0;simp only[lla] at hle2;have hte:bs++((encT (encOn x.n)++(flagB x.a::encT x.v))++(r.drop (j+1)).flatMap encC)=kb++encL r:=hte0;clear hte0;have hcx:=hcl j x hx;have hxo:Calls prog 55 #[encO x.n] wr (EncPost wr (encOn x.n) 0):=EncodeO_ok x.n wr (HOK.out wr (HF3.out.trans HJ.out.2.fr (by intro q hq;rw[lms] at hq;subst hq;exact .inr hbb))) (by omega) hfit.2.1 hck;have hxe:∀ W,Fr [] wr W->Calls prog 55 #[encO x.n] W (EncPost W (encOn x.n) 0):=fun W hW=>EncodeO_ok x.n W ((HOK.out wr (HF3.out.trans HJ.out.2.fr (by intro q hq;rw[lms] at hq;subst hq;exact .inr hbb))).fr0 hW) (by omega) hfit.2.1 hck;obtain⟨⟨k,ow,nu,ix,tx⟩,v,ab⟩:=x;simp only at hvl hel;obtain⟨so,hso,_,_⟩:=str_of ow;obtain⟨st,hst,_,_⟩:=str_of tx;obtain⟨sv,hsv,_,_⟩:=str_of v;obtain⟨E,hE⟩:=nmd (encOn ⟨k,ow,nu,ix,tx⟩);obtain⟨sE,hsE,_,_⟩:=str_of E;unfold CH.cs at hcx;unfold encO EncPost at hxe;simp only[hso,hst,hsv,hE,hsE] at hcx hxe hte hel;have y0:wr.cell? ⟨bb,off+j*7,none⟩=some (.int .i64 k):=(hkeep _).trans (hcx 0 (by omega));have y1:wr.cell? ⟨bb,off+j*7+1,none⟩=some (.string so):=(hkeep _).trans (hcx 1 (by omega));have y2:wr.cell? ⟨bb,off+j*7+2,none⟩=some (.int .i64 nu):=(hkeep _).trans (hcx 2 (by omega));have y3:wr.cell? ⟨bb,off+j*7+3,none⟩=some (.int .i64 ix):=(hkeep _).trans (hcx 3 (by omega));have y4:wr.cell? ⟨bb,off+j*7+4,none⟩=some (.string st):=(hkeep _).trans (hcx 4 (by omega));have y5:wr.cell? ⟨bb,off+j*7+5,none⟩=some (.string sv):=(hkeep _).trans (hcx 5 (by omega));have y6:wr.cell? ⟨bb,off+j*7+6,none⟩=some (.bool ab):=(hkeep _).trans (hcx 6 (by omega));have hbr:b<wr.heap.size:=HJ.out.2.blt;obtain⟨w6,hw6,hz6,n6,f6⟩:=bxz wr #[.int .i64 k,.string so,.int .i64 nu,.int .i64 ix,.string st,.string sv,.bool ab] 95 wr.heap.size;have hn6:=n6;obtain⟨Z,hZ⟩:=nmd (wr.heap.size);have hzb:Z≠b:=by omega
     have hw6':=HJ.out.2.more f6 hbr;have HE:=Hd (hxe w6 f6);have hEl:=encT_len (s:=E) (by omega);have HX:=Hd (An hte (An hsE hsv));clear hcx hcl hx hone hck hfo hfit hkeep hxe hxo hE hso hst hte
     go_upto_region 12 with fail
     try rw[hw6]
     clear y0 y1 y2 y3 y4 y5 y6 hw6 f6 hz6;rw[hZ] at n6 hn6
     try rw[hZ]
     obtain⟨x0,x1,x2,x3,x4⟩:=n6.m5;have H6:=Hd (An n6 hw6');clear n6 hn6 hw6'
     go_upto_region 15 with (go_at_call 55;(with_reducible refine HE.out.mono ?_);rintro e w7 ⟨rfl,hf7⟩;have H7:=Hd (An (H6.out.1.fr hf7 (by simp)) (H6.out.2.more hf7 H6.out.2.blt));clear hf7)
     clear x0 x1 x2 x3 x4 HE H6;have hT:=Text_wk H7.out.2 E (by omega) (by omega);rw[HX.out.2.1] at hT;have HT:=Hd hT;clear hT
     go_upto_region 16 with (go_at_call 56;(with_reducible refine HT.out.mono ?_);rintro e w8 ⟨rfl,hws8,hk8⟩;have n8:=hk8 _ _ _ (by decide) hzb H7.out.1;have z6:w8.cell? ⟨Z,6,none⟩=some (.bool ab):=n8.c 6;have H8:=Hd (An n8 hws8);clear n8 hws8 hk8)
     have HT2:=Hd (Flag_wk H8.out.2 ab (by simp only[lla];omega));clear HT H7
     go_upto_region 17 with (go_at_call 122;(with_reducible refine HT2.out.mono ?_);rintro e w9 ⟨rfl,hws9,hk9⟩;have n9:=hk9 _ _ _ (by decide) hzb H8.out.1;have z5:w9.cell? ⟨Z,5,none⟩=some (.string sv):=n9.c 5;have H9:=Hd (An n9 hws9);clear n9 hws9 hk9)
     have hT:=Text_wk H9.out.2 v (by omega) (by simp only[lla,List.length_cons,List.length_nil];omega);rw[HX.out.2.2] at hT;have HT3:=Hd hT;clear hT HT2 H8 z6
     go_wp2_with (go_at_call 56;(with_reducible refine HT3.out.mono ?_);rintro e w10 ⟨rfl,hws10,hk10⟩;have H10:=Hd hws10;clear hws10 hk10)
     go_roundw
     case rel=>exact⟨j+1,by omega,by go_num,_,by rw[<-HX.out.1];simp,H10.out⟩
     case measure=>simp[intOf];omega
    ·obtain rfl:j=nr:=by omega
     have hbt:bs=kb++encL r:=by have h:=HJ.out.1;rw[List.drop_of_length_le (by rw[HNR.out];omega)] at h;simpa using h
     have HJ2:=Hd HJ.out.2;rw[hbt] at HJ2
     go_wp2_with fail
     go_roundw
     case rel=>exact⟨1,by omega,rfl,HJ2.out⟩
     case measure=>simp[intOf]
  | 1,_ =>
   have hix:(Instr.index 231 (.agg #[.slice A nr c,.slice B nw d]) (.int .i64 1)).run prog wr=.ok (.slice B nw d) wr:=run_index2 wr _ _ _ 1 (by omega) rfl
   go_upto_region 8 with fail
   clear hix;unfold upG at HWN;have hLl:=hlU2
   go_upto_region 9 with (go_at_call 57;(with_reducible refine (Number_wk HWN.out nw (by omega) (by omega)).mono ?_);rintro e w5 ⟨rfl,hws5,_⟩;have HWM:=Hd hws5;clear hws5)
   have htot:((kb++encL r)++encU nw)++(l2.drop 0).flatMap encC=(kb++encL r)++encL l2:=by rw[<-HNW.out,List.append_assoc];rfl
   have HTT:=Hd htot;clear HWN htot
   go_wp2_with fail
   go_loopw [33] (fun i W=>∃ j:Nat,j<=nw/\i=.int .i64 (j:Int)/\∃ bs,bs++(l2.drop j).flatMap encC=(kb++encL r)++encL l2/\WrS w3 b bs W) (fun i _=>nw - (intOf i).toNat)
   case atStart=>exact⟨0,Nat.zero_le _,rfl,_,HTT.out,HWM.out⟩
   case round =>
    obtain⟨j,hj,rfl,bs,hbs,hws⟩:=hrel;have HJ:=Hd (An hbs hws);clear hbs hws
    by_cases hlt:j<nw
    ·have hlt3:(j:Int)<(nw:Int):=by omega
     obtain⟨bb,off,rfl,hbl,hcl⟩:=row_get ch_len HB.out (by rw[HNW.out];omega);obtain⟨x,hx⟩:∃ x,(l2)[j]?=some x:=⟨_,lge (by rw[HNW.out];exact hlt)⟩;have hone:=HALL.out.2 x (lmg hx);obtain⟨hck,hvl⟩:=oneB_facts hone;have hel:=encOn_len hck;have hfo:=valid_len (valid_of_check hck);have hfit:=HFIT.out.2 x (lmg hx);have hkeep:∀ o,wr.cell? ⟨bb,o,none⟩=w.cell? ⟨bb,o,none⟩:=fun o=>(HJ.out.2.fr.cell (p:=⟨bb,o,none⟩) (Nat.lt_of_lt_of_le hbl HF3.out.size) (by simp;omega)).trans (HF3.out.cell (p:=⟨bb,o,none⟩) hbl (by simp));have hte0:=HJ.out.1;rw[dropc hx] at hte0;have hle2:=congrArg List.length hte0;simp only[lla] at hle2;have hte:bs++((encT (encOn x.n)++(flagB x.a::encT x.v))++(l2.drop (j+1)).flatMap encC)=(kb++encL r)++encL l2:=hte0;clear hte0;have hcx:=hcl j x hx;have hxo:Calls prog 55 #[encO x.n] wr (EncPost wr (encOn x.n) 0):=EncodeO_ok x.n wr (HOK.out wr (HF3.out.trans HJ.out.2.fr (by intro q hq;rw[lms] at hq;subst hq;exact .inr hbb))) (by omega) hfit.2.1 hck;have hxe:∀ W,Fr [] wr W->Calls prog 55 #[encO x.n] W (EncPost W (encOn x.n) 0):=fun W hW=>EncodeO_ok x.n W ((HOK.out wr (HF3.out.trans HJ.out.2.fr (by intro q hq;rw[lms] at hq;subst hq;exact .inr hbb))).fr0 hW) (by omega) hfit.2.1 hck;obtain⟨⟨k,ow,nu,ix,tx⟩,v,ab⟩:=x;simp only at hvl hel;obtain⟨so,hso,_,_⟩:=str_of ow;obtain⟨st,hst,_,_⟩:=str_of tx;obtain⟨sv,hsv,_,_⟩:=str_of v;obtain⟨E,hE⟩:=nmd (encOn ⟨k,ow,nu,ix,tx⟩);obtain⟨sE,hsE,_,_⟩:=str_of E;unfold CH.cs at hcx;unfold encO EncPost at hxe;simp only[hso,hst,hsv,hE,hsE] at hcx hxe hte hel;have y0:wr.cell? ⟨bb,off+j*7,none⟩=some (.int .i64 k):=(hkeep _).trans (hcx 0 (by omega));have y1:wr.cell? ⟨bb,off+j*7+1,none⟩=some (.string so):=(hkeep _).trans (hcx 1 (by omega));have y2:wr.cell? ⟨bb,off+j*7+2,none⟩=some (.int .i64 nu):=(hkeep _).trans (hcx 2 (by omega));have y3:wr.cell? ⟨bb,off+j*7+3,none⟩=some (.int .i64 ix):=(hkeep _).trans (hcx 3 (by omega));have y4:wr.cell? ⟨bb,off+j*7+4,none⟩=some (.string st):=(hkeep _).trans (hcx 4 (by omega));have y5:wr.cell? ⟨bb,off+j*7+5,none⟩=some (.string sv):=(hkeep _).trans (hcx 5 (by omega));have y6:wr.cell? ⟨bb,off+j*7+6,none⟩=some (.bool ab):=(hkeep _).trans (hcx 6 (by omega));have hbr:b<wr.heap.size:=HJ.out.2.blt;obtain⟨w6,hw6,hz6,n6,f6⟩:=bxz wr #[.int .i64 k,.string so,.int .i64 nu,.int .i64 ix,.string st,.string sv,.bool ab] 95 wr.heap.size;have hn6:=n6;obtain⟨Z,hZ⟩:=nmd (wr.heap.size);have hzb:Z≠b:=by omega
     have hw6':=HJ.out.2.more f6 hbr;have HE:=Hd (hxe w6 f6);have hEl:=encT_len (s:=E) (by omega);have HX:=Hd (An hte (An hsE hsv));clear hcx hcl hx hone hck hfo hfit hkeep hxe hxo hE hso hst hte
     go_upto_region 12 with fail
     try rw[hw6]
     clear y0 y1 y2 y3 y4 y5 y6 hw6 f6 hz6;rw[hZ] at n6 hn6
     try rw[hZ]
     obtain⟨x0,x1,x2,x3,x4⟩:=n6.m5;have H6:=Hd (An n6 hw6');clear n6 hn6 hw6'
     go_upto_region 15 with (go_at_call 55;(with_reducible refine HE.out.mono ?_);rintro e w7 ⟨rfl,hf7⟩;have H7:=Hd (An (H6.out.1.fr hf7 (by simp)) (H6.out.2.more hf7 H6.out.2.blt));clear hf7)
     clear x0 x1 x2 x3 x4 HE H6;have hT:=Text_wk H7.out.2 E (by omega) (by omega);rw[HX.out.2.1] at hT;have HT:=Hd hT;clear hT
     go_upto_region 16 with (go_at_call 56;(with_reducible refine HT.out.mono ?_);rintro e w8 ⟨rfl,hws8,hk8⟩;have n8:=hk8 _ _ _ (by decide) hzb H7.out.1;have z6:w8.cell? ⟨Z,6,none⟩=some (.bool ab):=n8.c 6;have H8:=Hd (An n8 hws8);clear n8 hws8 hk8)
     have HT2:=Hd (Flag_wk H8.out.2 ab (by simp only[lla];omega));clear HT H7
     go_upto_region 17 with (go_at_call 122;(with_reducible refine HT2.out.mono ?_);rintro e w9 ⟨rfl,hws9,hk9⟩;have n9:=hk9 _ _ _ (by decide) hzb H8.out.1;have z5:w9.cell? ⟨Z,5,none⟩=some (.string sv):=n9.c 5;have H9:=Hd (An n9 hws9);clear n9 hws9 hk9)
     have hT:=Text_wk H9.out.2 v (by omega) (by simp only[lla,List.length_cons,List.length_nil];omega);rw[HX.out.2.2] at hT;have HT3:=Hd hT;clear hT HT2 H8 z6
     go_wp2_with (go_at_call 56;(with_reducible refine HT3.out.mono ?_);rintro e w10 ⟨rfl,hws10,hk10⟩;have H10:=Hd hws10;clear hws10 hk10)
     go_roundw
     case rel=>exact⟨j+1,by omega,by go_num,_,by rw[<-HX.out.1];simp,H10.out⟩
     case measure=>simp[intOf];omega
    ·obtain rfl:j=nw:=by omega
     have hbt:bs=(kb++encL r)++encL l2:=by have h:=HJ.out.1;rw[List.drop_of_length_le (by rw[HNW.out];omega)] at h;simpa using h
     have HJ2:=Hd HJ.out.2;rw[hbt] at HJ2
     go_wp2_with fail
     go_roundw
     case rel=>exact⟨2,by omega,rfl,HJ2.out⟩
     case measure=>simp[intOf]
  | 2,_ =>
   rw[HQ.out] at HWN;have hlq:q.length<=14000000000:=by rw[<-HQ.out];exact hlU2
   go_wp2_with ((go_at_call 123;(with_reducible refine (Written_any _ _ _ _ HWN.out (by omega)).mono ?_);rintro e w5 ⟨rfl,hf5⟩))
   go_ret2
   refine⟨rfl,(HF3.out.trans HWN.out.fr (by intro x hx;rw[lms] at hx;subst hx;exact .inr (by omega))).then hf5⟩
end Go.Proofs.YtlpmiimgacfmkaaGreatDoor
