/- codec: (Reader).Number, Text, Flag, Rest, Close; NewReader. -/
import Derived.Test.YtlpmiimgacfmkaaGreatDoorRRd2
import Derived.Test.YtlpmiimgacfmkaaGreatDoorRLin4
set_option linter.all false
namespace Go.Proofs.YtlpmiimgacfmkaaGreatDoor
open Go.RowKit
set_option maxRecDepth 100000
set_option maxHeartbeats 4000000
def numR (m:Nat) (l:Nm):Int × Nat × Int:=(((parseN l).1:Int),(parseN l).2.1,if (parseN l).2.2=0∧m<(parseN l).1 then 2 else (parseN l).2.2)
def textR (m:Nat) (l:Nm):Nm × Nat × Int :=
 if (parseN l).2.2≠0 then ([],0,(parseN l).2.2) else if m<(parseN l).1 ∨ 16777216<(parseN l).1 then ([],0,5) else if l.length - (parseN l).2.1<(parseN l).1 then ([],0,28) else ((l.drop (parseN l).2.1).take (parseN l).1,(parseN l).2.1+(parseN l).1,0)
def flagR (l:Nm):Bool × Nat × Int :=
 if l.length=0 then (false,0,28) else if 1<(l.getD 0 0).toNat then (false,0,3) else (decide ((l.getD 0 0).toNat=1),1,0)
theorem parseN_pos {l:Nm} (h:(parseN l).2.2=0):0<l.length:=by
 rcases Nat.eq_zero_or_pos l.length with h0 | h0
 ·rw[List.eq_nil_of_length_eq_zero h0] at h
  simp[parseN,lastN] at h
 ·exact h0
theorem Number1_any (A:Option Addr) (n c B q m:Nat) (l:Nm) (w:World) (hr:Row w B 1 A n (dCells l)) (hn:n≤70368744177664) (hq:w.cell? ⟨q,0,none⟩=some (.int .i64 (m:Int))) :
 Calls Tryz.prog 113 #[.slice A n c,.pointer (some ⟨q,0,none⟩)] w fun e w'=>e=.returned (.tuple #[.int .i64 (numR m l).1,.int .i64 ((numR m l).2.1:Int),.int .i64 (numR m l).2.2])∧w=w':=by
 have hp:=Parse_any A n c B l w hr hn
 unfold numR
 obtain⟨q1,h1⟩:=nmd ((parseN l).1)
 obtain⟨q2,h2⟩:=nmd ((parseN l).2.1)
 obtain⟨q3,h3⟩:=nmd ((parseN l).2.2)
 rw[h1,h2,h3] at hp
 rw[h1,h2,h3]
 have HP:=Hd hp
 clear hp h1 h2 h3 hr
 by_cases he:q3=0
 ·subst he
  by_cases hm:m<q1
  ·have hmi:(m:Int)<(q1:Int):=by omega
   simp only[hm,and_self,if_true]
   go_enter Tryz.func113,Tryz.ntmps113
   go_wp2_with ((go_at_call 111;(with_reducible refine HP.out.mono ?_);rintro e w1 ⟨rfl,rfl⟩))
   go_ret3
   exact⟨rfl,rfl⟩
  ·have hmi:¬ (m:Int)<(q1:Int):=by omega
   simp only[hm,and_false,if_false]
   go_enter Tryz.func113,Tryz.ntmps113
   go_wp2_with ((go_at_call 111;(with_reducible refine HP.out.mono ?_);rintro e w1 ⟨rfl,rfl⟩))
   go_ret3
   exact⟨rfl,rfl⟩
 ·have he':(q3 == 0)=false:=by simpa using he
  simp only[he,false_and,if_false]
  go_enter Tryz.func113,Tryz.ntmps113
  go_wp2_with ((go_at_call 111;(with_reducible refine HP.out.mono ?_);rintro e w1 ⟨rfl,rfl⟩))
  go_ret3
  exact⟨rfl,rfl⟩
def rdNum (m:Nat) (r:RS):Int × RS:=rstep 0 r (numR m r.l)
def rdText (m:Nat) (r:RS):Nm × RS:=rstep [] r (textR m r.l)
def rdFlag (r:RS):Bool × RS:=rstep false r (flagR r.l)
theorem RdPost.of_alloc {w w1 w':World} {b:Nat} {A:Option Addr} {v:Value} {r:RS} {e:Ending} (h:RdPost w1 b A v r e w') (hf:Fr [] w w1):RdPost w b A v r e w':=by
 obtain⟨h1,A',h2,h3,h4⟩:=h
 exact⟨h1,A',h2,(hf.mono (by simp)).then h3,h4⟩
theorem numR_ok {m:Nat} {l:Nm} (h:(numR m l).2.2=0):(numR m l).2.1≤l.length∧0<l.length:=by
 unfold numR at h ⊢
 simp only at h ⊢
 by_cases hc:(parseN l).2.2=0∧m<(parseN l).1
 ·rw[if_pos hc] at h;simp at h
 ·rw[if_neg hc] at h
  exact⟨(parseN_size l).1,parseN_pos h⟩
theorem textR_ok {m:Nat} {l:Nm} (h:(textR m l).2.2=0):(textR m l).2.1≤l.length∧0<l.length:=by
 unfold textR at h ⊢
 by_cases h1:(parseN l).2.2≠0
 ·rw[if_pos h1] at h;exact absurd h h1
 ·rw[if_neg h1] at h ⊢
  have hp:=parseN_pos (l:=l) (by simpa using h1)
  by_cases h2:m<(parseN l).1 ∨ 16777216<(parseN l).1
  ·rw[if_pos h2] at h;simp at h
  ·rw[if_neg h2] at h ⊢
   by_cases h3:l.length - (parseN l).2.1<(parseN l).1
   ·rw[if_pos h3] at h;simp at h
   ·rw[if_neg h3]
    have:=(parseN_size l).1
    simp only
    omega
theorem flagR_ok {l:Nm} (h:(flagR l).2.2=0):(flagR l).2.1≤l.length∧0<l.length:=by
 unfold flagR at h ⊢
 by_cases h1:l.length=0
 ·rw[if_pos h1] at h;simp at h
 ·rw[if_neg h1] at h ⊢
  by_cases h2:1<(l.getD 0 0).toNat
  ·rw[if_pos h2] at h;simp at h
  ·rw[if_neg h2];simp only;omega
theorem Number_rd (b m:Nat) (A:Option Addr) (r:RS) (w:World) (h:RdAt w b A r):Calls Tryz.prog 50 #[.pointer (some ⟨b,0,none⟩),.int .i64 (m:Int)] w (RdPost w b A (.int .i64 (rdNum m r).1) (rdNum m r).2):=by
 obtain⟨w1,hw1⟩:=nmd (w.alloc (.cells #[.int .i64 (m:Int)] 3))
 have hf1:Fr [] w w1:=by rw[←hw1];exact (Fr.refl [] w).alloc _
 have hq:w1.cell? ⟨w.heap.size,0,none⟩=some (.int .i64 (m:Int)):=by rw[←hw1];exact (BoxN.new w _ _).c 0
 have h1:=h.fr hf1 (by simp) (by simp)
 have hR:=readI b w.heap.size A r w1 (numR m r.l).1 (numR m r.l).2.1 (numR m r.l).2.2 h1 numR_ok (fun c hr _ hn=>Number1_any A _ c _ _ m r.l w1 hr hn hq)
 have HR:=Hd hR
 have HW:=Hd hw1
 have HF:=Hd hf1
 clear hR hw1 hf1 hq h1 h
 unfold rdNum
 go_enter Tryz.func50,Tryz.ntmps50
 go_wp2_with fail
 rw[HW.out]
 (with_reducible refine HR.out.mono ?_)
 intro e w2 h2
 obtain⟨rfl,A',h3⟩:=h2.of_alloc HF.out
 have H3:=Hd h3
 clear h3 h2
 go_wp2_with fail
 go_ret
 exact⟨rfl,A',H3.out⟩
theorem Row.part {w:World} {B n s k c b off:Nat} {l:Nm} (h:Row w B 1 (some ⟨b,off,none⟩) n (dCells l)) (hs:s+k≤n) (hc:n≤c):Row w B 1 (if c=s then some ⟨b,off,none⟩ else some ⟨b,off+s,none⟩) k (dCells ((l.drop s).take k)):=by
 have hl:l.length=n:=by have:=h.1;rw[dcells_len] at this;omega
 have hr:=h.rest (s:=s) (c:=c) (by omega) hc
 refine⟨by rw[dcells_len,List.length_take,List.length_drop];omega,fun hk=>?_⟩
 obtain⟨b',off',e,hb,hcc⟩:=hr.2 (by omega)
 refine⟨b',off',e,hb,fun j u hu=>hcc j u ?_⟩
 have hd:dCells ((l.drop s).take k)=(dCells (l.drop s)).take k:=by unfold dCells;rw[List.map_take]
 rw[hd] at hu
 have hj:j<k:=by have:=(List.getElem?_eq_some_iff.1 hu).1;rw[List.length_take] at this;omega
 rwa [List.getElem?_take_of_lt hj] at hu
theorem Text1_any (A:Option Addr) (n c B q m:Nat) (l:Nm) (w:World) (hr:Row w B 1 A n (dCells l)) (hnc:n≤c) (hn:n≤70368744177664) (hq:w.cell? ⟨q,0,none⟩=some (.int .i64 (m:Int))) :
 Calls Tryz.prog 110 #[.slice A n c,.pointer (some ⟨q,0,none⟩)] w fun e w'=>e=.returned (.tuple #[encN (textR m l).1,.int .i64 ((textR m l).2.1:Int),.int .i64 (textR m l).2.2])∧w=w':=by
 have hp:=Parse_any A n c B l w hr hn
 have hl:l.length=n:=by have:=hr.1;rw[dcells_len] at this;omega
 have hps:=(parseN_size l).1
 have hpp:=parseN_pos (l:=l)
 unfold textR
 obtain⟨q1,h1⟩:=nmd ((parseN l).1)
 obtain⟨q2,h2⟩:=nmd ((parseN l).2.1)
 obtain⟨q3,h3⟩:=nmd ((parseN l).2.2)
 rw[h1,h2,h3] at hp
 rw[h2,hl] at hps
 rw[h3,hl] at hpp
 rw[h1,h2,h3,hl]
 have HP:=Hd hp
 have HR:=Hd hr
 clear hp h1 h2 h3 hr hl
 by_cases he:q3=0
 ·subst he
  have hpos:=hpp rfl
  clear hpp
  rw[if_neg (by simp)]
  by_cases hm:m<q1 ∨ 16777216<q1
  ·rw[if_pos hm]
   by_cases hm1:m<q1
   ·have hmi:(m:Int)<(q1:Int):=by omega
    clear hm
    go_enter Tryz.func110,Tryz.ntmps110
    go_wp2_with ((go_at_call 111;(with_reducible refine HP.out.mono ?_);rintro e w1 ⟨rfl,rfl⟩))
    go_ret3
    exact⟨rfl,rfl⟩
   ·have hmi:¬ (m:Int)<(q1:Int):=by omega
    have hmj:(16777216:Int)<(q1:Int):=by omega
    clear hm
    go_enter Tryz.func110,Tryz.ntmps110
    go_wp2_with ((go_at_call 111;(with_reducible refine HP.out.mono ?_);rintro e w1 ⟨rfl,rfl⟩))
    go_ret3
    exact⟨rfl,rfl⟩
  ·rw[if_neg hm]
   have hmi:¬ (m:Int)<(q1:Int):=by omega
   have hmj:¬ (16777216:Int)<(q1:Int):=by omega
   have hq1:q1≤16777216:=by omega
   clear hm
   by_cases ht:n - q2<q1
   ·rw[if_pos ht]
    have hti:(n:Int) - (q2:Int)<(q1:Int):=by omega
    go_enter Tryz.func110,Tryz.ntmps110
    go_wp2_with ((go_at_call 111;(with_reducible refine HP.out.mono ?_);rintro e w1 ⟨rfl,rfl⟩))
    go_ret3
    exact⟨rfl,rfl⟩
   ·rw[if_neg ht]
    have hti:¬ (n:Int) - (q2:Int)<(q1:Int):=by omega
    obtain⟨bb,off,rfl,_⟩:=HR.out.2 hpos
    have hpt:=HR.out.part (s:=q2) (k:=q1) (c:=c) (by omega) hnc
    have hcv:=run_row_str (P:=Tryz.prog) hpt 49 5 Tryz.underlying49 Tryz.underlying5 9 Tryz.underlying9 (c - q2)
    have i1:(q2:Int)≤(q2:Int)+(q1:Int):=by omega
    have i2:(q2:Int)+(q1:Int)≤(c:Int):=by omega
    obtain⟨str,hs,_,_⟩:=str_of ((l.drop q2).take q1)
    rw[hs] at hcv
    rw[hs]
    clear ht hpt
    by_cases hcq:c=q2
    ·have h0:q1=0:=by omega
     rw[if_pos hcq,show c - q2=0 by omega,h0] at hcv
     clear h0
     subst hcq
     go_enter Tryz.func110,Tryz.ntmps110
     go_wp2_with ((go_at_call 111;(with_reducible refine HP.out.mono ?_);rintro e w1 ⟨rfl,rfl⟩))
     go_ret3
     exact⟨rfl,rfl⟩
    ·rw[if_neg hcq] at hcv
     go_enter Tryz.func110,Tryz.ntmps110
     go_wp2_with ((go_at_call 111;(with_reducible refine HP.out.mono ?_);rintro e w1 ⟨rfl,rfl⟩))
     go_ret3
     exact⟨rfl,rfl⟩
 ·have he':(q3 == 0)=false:=by simpa using he
  have he2:(q3 != 0)=true:=by simpa using he
  rw[if_pos he]
  clear hpp
  have e0:encN []=.string ⟨#[]⟩:=rfl
  rw[e0]
  go_enter Tryz.func110,Tryz.ntmps110
  go_wp2_with ((go_at_call 111;(with_reducible refine HP.out.mono ?_);rintro e w1 ⟨rfl,rfl⟩))
  go_ret3
  exact⟨rfl,rfl⟩
theorem Text_rd (b m:Nat) (A:Option Addr) (r:RS) (w:World) (h:RdAt w b A r):Calls Tryz.prog 49 #[.pointer (some ⟨b,0,none⟩),.int .i64 (m:Int)] w (RdPost w b A (encN (rdText m r).1) (rdText m r).2):=by
 obtain⟨w1,hw1⟩:=nmd (w.alloc (.cells #[.int .i64 (m:Int)] 3))
 have hf1:Fr [] w w1:=by rw[←hw1];exact (Fr.refl [] w).alloc _
 have hq:w1.cell? ⟨w.heap.size,0,none⟩=some (.int .i64 (m:Int)):=by rw[←hw1];exact (BoxN.new w _ _).c 0
 have h1:=h.fr hf1 (by simp) (by simp)
 have hR:=readS b w.heap.size A r w1 (textR m r.l).1 (textR m r.l).2.1 (textR m r.l).2.2 h1 textR_ok (fun c hr hc hn=>Text1_any A _ c _ _ m r.l w1 hr hc hn hq)
 have HR:=Hd hR
 have HW:=Hd hw1
 have HF:=Hd hf1
 clear hR hw1 hf1 hq h1 h
 unfold rdText
 go_enter Tryz.func49,Tryz.ntmps49
 go_wp2_with fail
 rw[HW.out]
 (with_reducible refine HR.out.mono ?_)
 intro e w2 h2
 obtain⟨rfl,A',h3⟩:=h2.of_alloc HF.out
 have H3:=Hd h3
 clear h3 h2
 obtain⟨str,hs,_,_⟩:=str_of (rstep [] r ((textR m r.l).1,(textR m r.l).2.1,(textR m r.l).2.2)).1
 go_wp2_with fail
 go_ret
 exact⟨congrArg Ending.returned hs.symm,A',H3.out⟩
theorem Flag1_any (A:Option Addr) (n c B:Nat) (l:Nm) (w:World) (hr:Row w B 1 A n (dCells l)) (hn:n≤70368744177664) :
 Calls Tryz.prog 257 #[.slice A n c] w fun e w'=>e=.returned (.tuple #[.bool (flagR l).1,.int .i64 ((flagR l).2.1:Int),.int .i64 (flagR l).2.2])∧w=w':=by
 have hl:l.length=n:=by have:=hr.1;rw[dcells_len] at this;omega
 unfold flagR
 rw[hl]
 by_cases h0:n=0
 ·rw[if_pos h0]
  have h0':((n:Int) == 0)=true:=by simp;omega
  clear h0 hl hr
  go_enter Tryz.func257,Tryz.ntmps257
  go_wp2_with fail
  go_ret3
  exact⟨rfl,rfl⟩
 ·rw[if_neg h0]
  have h0':((n:Int) == 0)=false:=by simp;omega
  obtain⟨b,off,rfl,hc⟩:=hr.byte (k:=0) (by omega)
  rw[Nat.add_zero] at hc
  obtain⟨x,hx⟩:=nmd ((l.getD 0 0).toNat)
  rw[hx] at hc ⊢
  have hn0:(0:Int)<(n:Int):=by omega
  clear h0 hl hr hx
  by_cases h1:1<x
  ·rw[if_pos h1]
   have h1':(1:Int)<(x:Int):=by omega
   go_enter Tryz.func257,Tryz.ntmps257
   go_wp2_with fail
   go_ret3
   exact⟨rfl,rfl⟩
  ·rw[if_neg h1]
   have h1':¬ (1:Int)<(x:Int):=by omega
   by_cases h2:x=1
   ·have h2':((x:Int) == 1)=true:=by simp;omega
    rw[show decide (x=1)=true by simp[h2]]
    clear h2 h1
    go_enter Tryz.func257,Tryz.ntmps257
    go_wp2_with fail
    go_ret3
    exact⟨rfl,rfl⟩
   ·have h2':((x:Int) == 1)=false:=by simp;omega
    rw[show decide (x=1)=false by simp[h2]]
    clear h2 h1
    go_enter Tryz.func257,Tryz.ntmps257
    go_wp2_with fail
    go_ret3
    exact⟨rfl,rfl⟩
theorem Flag_rd (b:Nat) (A:Option Addr) (r:RS) (w:World) (h:RdAt w b A r):Calls Tryz.prog 217 #[.pointer (some ⟨b,0,none⟩)] w (RdPost w b A (.bool (rdFlag r).1) (rdFlag r).2):=by
 have hR:=readB b 0 A r w (flagR r.l).1 (flagR r.l).2.1 (flagR r.l).2.2 h flagR_ok (fun c hr _ hn=>Flag1_any A _ c _ r.l w hr hn)
 have HR:=Hd hR
 clear hR h
 unfold rdFlag
 go_enter Tryz.func217,Tryz.ntmps217
 go_wp2_with fail
 (with_reducible refine HR.out.mono ?_)
 intro e w2 h2
 obtain⟨rfl,A',h3⟩:=h2
 have H3:=Hd h3
 clear h3
 go_wp2_with fail
 go_ret
 exact⟨rfl,A',H3.out⟩
theorem Rest_rd (b:Nat) (A:Option Addr) (r:RS) (w:World) (h:RdAt w b A r):Calls Tryz.prog 216 #[.pointer (some ⟨b,0,none⟩)] w fun e w'=>e=.returned (.int .i64 (r.l.length:Int))∧w=w':=by
 obtain⟨c,h1,_⟩:=h
 obtain⟨x0,_⟩:=rd_cells h1
 clear h1
 go_enter Tryz.func216,Tryz.ntmps216
 go_wp2_with fail
 go_ret
 exact⟨rfl,rfl⟩
def rdClose (r:RS):Int:=if r.f≠0 then r.f else if 0<r.l.length then 5 else 0
theorem Close_rd (b:Nat) (A:Option Addr) (r:RS) (w:World) (h:RdAt w b A r):Calls Tryz.prog 52 #[.pointer (some ⟨b,0,none⟩)] w fun e w'=>e=.returned (.int .i64 (rdClose r))∧w=w':=by
 obtain⟨c,h1,_⟩:=h
 obtain⟨x0,_,x2,_⟩:=rd_cells h1
 unfold rdClose
 obtain⟨f,hf⟩:∃ f,r.f=f:=⟨_,rfl⟩
 obtain⟨n,hn⟩:=nmd (r.l.length)
 rw[hf] at x2
 rw[hn] at x0
 rw[hf,hn]
 clear h1 hf hn
 by_cases h0:f=0
 ·subst h0
  rw[if_neg (by simp)]
  by_cases h1:0<n
  ·rw[if_pos h1]
   have h1':(0:Int)<(n:Int):=by omega
   go_enter Tryz.func52,Tryz.ntmps52
   go_wp2_with fail
   go_ret
   exact⟨rfl,rfl⟩
  ·rw[if_neg h1]
   have h1':¬ (0:Int)<(n:Int):=by omega
   go_enter Tryz.func52,Tryz.ntmps52
   go_wp2_with fail
   go_ret
   exact⟨rfl,rfl⟩
 ·rw[if_pos h0]
  have h1':(f == 0)=false:=by simpa using h0
  have h2':(f != 0)=true:=by simpa using h0
  go_enter Tryz.func52,Tryz.ntmps52
  go_wp2_with fail
  go_ret
  exact⟨rfl,rfl⟩
theorem NewReader_any (A:Option Addr) (n c B:Nat) (l:Nm) (w:World) (hr:Row w B 1 A n (dCells l)) (hsp:∀ a,A=some a→a.spot=none) (hn:n≤70368744177664):Calls Tryz.prog 47 #[.slice A n c] w fun e w'=>∃ b A',e=.returned (.pointer (some ⟨b,0,none⟩))∧RdAt w' b A' ⟨l,0,0⟩∧Fr [] w w'∧w.heap.size≤b∧∀ k∈blk A',w.heap.size≤k:=by
 have hl:l.length=n:=by have:=hr.1;rw[dcells_len] at this;omega
 have hC:=Clone8_any A n c B l w hr hsp hn
 have HC:=Hd hC
 have HL:=Hd hl
 clear hC hr hsp hl
 go_enter Tryz.func47,Tryz.ntmps47
 go_wp2_with ((go_at_call 108;(with_reducible refine HC.out.mono ?_);rintro e w2 ⟨A2,c2,rfl,ho,hf,hs⟩;have HO:=Hd ho;have HF:=Hd hf;have HS:=Hd hs;clear ho hf hs))
 go_ret
 have hlt:=HO.out.lt
 have hal:Fr [] w2 (w2.alloc (.cells #[.slice A2 l.length c2,.int .i64 0,.int .i64 0] 214)):=(Fr.refl [] w2).alloc _
 refine⟨w2.heap.size,A2,rfl,⟨c2,BoxN.new w2 _ _,HO.out.le_cap,(HO.out.row.fr hal (Nat.le_refl _) (by simp)).more hal.size,fun hm=>by have:=hlt _ hm;omega,by rw[HL.out];exact hn,by simp only;rw[HL.out];omega⟩,HF.out.then hal,HF.out.size,HS.out⟩
structure ON where
 kind:Int
 owner:Nm
 number:Int
 index:Int
 text:Nm
def ON.cells (n:ON):List Value:=[.int .i64 n.kind,encN n.owner,.int .i64 n.number,.int .i64 n.index,encN n.text]
def encO (n:ON):Value:=.agg #[.int .i64 n.kind,encN n.owner,.int .i64 n.number,.int .i64 n.index,encN n.text]
def kindB (k:Int):Bool:=decide (1≤k∧k≤20)
def withinB (n m:Int):Bool:=decide (0≤n∧n≤m)
def wordC (c:UInt8):Bool:=decide (33≤c.toNat∧c.toNat≤126∧c.toNat≠47)
def wordB (s:Nm):Bool:=decide (s≠[]∧s.length≤32) && s.all wordC
theorem isKind_any (k:Int) (w:World):Calls Tryz.prog 114 #[.int .i64 k] w fun e w'=>e=.returned (.bool (kindB k))∧w=w':=by
 by_cases h1:1≤k
 ·by_cases h2:k≤20
  ·have e:kindB k=true:=by simp[kindB,h1,h2]
   rw[e]
   go_enter Tryz.func114,Tryz.ntmps114
   go_wp2_with fail
   go_ret
   exact⟨rfl,rfl⟩
  ·have e:kindB k=false:=by simp only[kindB,decide_eq_false_iff_not];omega
   rw[e]
   have h2':decide (k≤20)=false:=by simpa using h2
   go_enter Tryz.func114,Tryz.ntmps114
   go_wp2_with fail
   go_ret
   exact⟨rfl,rfl⟩
 ·have e:kindB k=false:=by simp only[kindB,decide_eq_false_iff_not];omega
  rw[e]
  have h1':decide (1≤k)=false:=by simpa using h1
  go_enter Tryz.func114,Tryz.ntmps114
  go_wp2_with fail
  go_ret
  exact⟨rfl,rfl⟩
theorem within_any (n m:Int) (w:World):Calls Tryz.prog 116 #[.int .i64 n,.int .i64 m] w fun e w'=>e=.returned (.bool (withinB n m))∧w=w':=by
 by_cases h1:0≤n
 ·by_cases h2:n≤m
  ·have e:withinB n m=true:=by simp[withinB,h1,h2]
   rw[e]
   go_enter Tryz.func116,Tryz.ntmps116
   go_wp2_with fail
   go_ret
   exact⟨rfl,rfl⟩
  ·have e:withinB n m=false:=by simp only[withinB,decide_eq_false_iff_not];omega
   rw[e]
   have h2':decide (n≤m)=false:=by simpa using h2
   go_enter Tryz.func116,Tryz.ntmps116
   go_wp2_with fail
   go_ret
   exact⟨rfl,rfl⟩
 ·have e:withinB n m=false:=by simp only[withinB,decide_eq_false_iff_not];omega
  rw[e]
  have h1':decide (0≤n)=false:=by simpa using h1
  go_enter Tryz.func116,Tryz.ntmps116
  go_wp2_with fail
  go_ret
  exact⟨rfl,rfl⟩
theorem ltwithin_any (n a m:Int) (w:World):Calls Tryz.prog 124 #[.int .i64 n,.int .i64 a,.int .i64 m] w fun e w'=>e=.returned (.bool (decide (a≤n∧n≤m)))∧w=w':=by
 by_cases h1:a≤n
 ·by_cases h2:n≤m
  ·rw[show decide (a≤n∧n≤m)=true by simp[h1,h2]]
   go_enter Tryz.func124,Tryz.ntmps124
   go_wp2_with fail
   go_ret
   exact⟨rfl,rfl⟩
  ·rw[show decide (a≤n∧n≤m)=false by simp[h2]]
   have h2':decide (n≤m)=false:=by simpa using h2
   go_enter Tryz.func124,Tryz.ntmps124
   go_wp2_with fail
   go_ret
   exact⟨rfl,rfl⟩
 ·rw[show decide (a≤n∧n≤m)=false by simp[h1]]
  have h1':decide (a≤n)=false:=by simpa using h1
  go_enter Tryz.func124,Tryz.ntmps124
  go_wp2_with fail
  go_ret
  exact⟨rfl,rfl⟩
theorem all_snoc {s:Nm} {k:Nat} {c:UInt8} {p:UInt8→Bool} (h:s[k]?=some c):(s.take (k+1)).all p=((s.take k).all p && p c):=by
 rw[take_snoc' h,List.all_append]
 simp
theorem Word_any (s:ByteArray) (w:World) (hs:s.size≤9223372036854775000):Calls Tryz.prog 117 #[.string s] w fun e w'=>e=.returned (.bool (wordB s.data.toList))∧w=w':=by
 have hlen:s.data.toList.length=s.size:=len_of_byte s
 by_cases h0:s.data.toList=[]
 ·have e:wordB s.data.toList=false:=by simp[wordB,h0]
  rw[e]
  have h0':=isEmpty_of_nil h0
  have h0'' : s.toList = [] := by rw [ByteArray.toList_eq]; exact h0
  clear h0 hlen e
  go_enter Tryz.func117,Tryz.ntmps117
  go_wp2_with fail
  go_ret
  exact⟨rfl,rfl⟩
 ·have h0':=isEmpty_of_ne h0
  have h0n:s.toList≠[]:=by rw[ByteArray.toList_eq];exact h0
  have h0b:(s.toList == [])=false:=by simpa using h0n
  by_cases h1:32<s.size
  ·have e:wordB s.data.toList=false:=by simp[wordB];intro _ h;omega
   rw[e]
   have h1':(32:Int)<(s.size:Int):=by omega
   clear h0 hlen e
   go_enter Tryz.func117,Tryz.ntmps117
   go_wp2_with fail
   go_ret
   exact⟨rfl,rfl⟩
  ·have e:wordB s.data.toList=s.data.toList.all wordC:=by
    unfold wordB
    rw[show decide (s.data.toList≠[]∧s.data.toList.length≤32)=true by simp only[decide_eq_true_eq];exact⟨h0,by omega⟩]
    simp
   rw[e]
   have h1':¬ (32:Int)<(s.size:Int):=by omega
   have HL:=Hd hlen
   obtain⟨r,hr⟩:=nmd (s.data.toList.all wordC)
   rw[hr]
   have HR:=Hd hr
   clear h0 hlen e hr
   go_enter Tryz.func117,Tryz.ntmps117
   go_wp2_with fail
   go_loop [13] (fun i=>∃ k:Nat,k≤s.size∧i=.int .i64 (k:Int)∧(s.data.toList.take k).all wordC=true) (fun i=>s.size - (intOf i).toNat)
   case atStart=>exact⟨0,by omega,rfl,rfl⟩
   case round =>
    obtain⟨k,hk,rfl,hall⟩:=hrel
    have HALL:=Hd hall
    clear hall
    by_cases hlt:k<s.size
    ·have hlt':(k:Int)<(s.size:Int):=by omega
     have hg:=get_of_byte hlt
     have hbad:wordC s[k]=false→r=false:=fun hb=>by
      rw[←HR.out]
      rw[Bool.eq_false_iff]
      intro ht
      rw[List.all_eq_true] at ht
      have:=ht s[k] (List.mem_of_getElem? hg)
      rw[hb] at this
      cases this
     have HG:=Hd hg
     have HBAD:=Hd hbad
     clear hg hbad
     by_cases c1:s[k].toNat<33
     ·have c1':(s[k].toNat:Int)<33:=by omega
      have e:=HBAD.out (by simp only[wordC,decide_eq_false_iff_not];omega)
      subst e
      go_wp2_with fail
      go_ret
      exact⟨rfl,rfl⟩
     ·have c1':¬ (s[k].toNat:Int)<33:=by omega
      by_cases c2:126<s[k].toNat
      ·have c2':(126:Int)<(s[k].toNat:Int):=by omega
       have e:=HBAD.out (by simp only[wordC,decide_eq_false_iff_not];omega)
       subst e
       go_wp2_with fail
       go_ret
       exact⟨rfl,rfl⟩
      ·have c2':¬ (126:Int)<(s[k].toNat:Int):=by omega
       by_cases c3:s[k].toNat=47
       ·have c3':((s[k].toNat:Int) == 47)=true:=by simp;omega
        have e:=HBAD.out (by simp only[wordC,decide_eq_false_iff_not];omega)
        subst e
        clear c3
        go_wp2_with fail
        go_ret
        exact⟨rfl,rfl⟩
       ·have c3':((s[k].toNat:Int) == 47)=false:=by simp;omega
        have hall2:(s.data.toList.take (k+1)).all wordC=true:=by rw[all_snoc HG.out,HALL.out];simp only[wordC,Bool.true_and,decide_eq_true_eq];omega
        have HALL2:=Hd hall2
        clear hall2 c3
        go_wp2_with fail
        go_round
        case rel=>exact⟨k+1,by omega,by go_num,HALL2.out⟩
        case measure=>simp[intOf];omega
    ·have hk2:k=s.size:=by omega
     have e:r=true:=by
      rw[←HR.out]
      have h:=HALL.out
      rw[hk2,List.take_of_length_le (by rw[HL.out];exact Nat.le_refl _)] at h
      exact h
     subst e
     have hlt':¬ (k:Int)<(s.size:Int):=by omega
     clear hk2
     go_wp2_with fail
     go_ret
     exact⟨rfl,rfl⟩
def RdS (c0 c1 b:Nat) (r:RS) (w:World):Prop:=∃ A,RdAt w b A r∧c0≤b∧b<c1∧((∀ k∈blk A,c0≤k∧k<c1) ∨ r.l=[])
section
variable {S:List Nat} {w w':World} {c0 c1 b:Nat} {r r':RS} {e:Ending} {v:Value}
theorem RdS.fr (h:RdS c0 c1 b r w) (hf:Fr S w w') (hS:∀ k∈S,k<c0 ∨ c1≤k):RdS c0 c1 b r w':=by
 obtain⟨A,h1,h2,h3,h4⟩:=h
 have hb:b ∉ S:=fun hm=>by have:=hS b hm;omega
 rcases h4 with h4 | h4
 ·exact⟨A,h1.fr hf hb (fun k hk hm=>by have:=hS k hm;have:=h4 k hk;omega),h2,h3,.inl h4⟩
 ·refine⟨A,?_,h2,h3,.inr h4⟩
  obtain⟨c,q1,q2,q3,q4⟩:=h1
  refine⟨c,q1.fr hf hb,q2,?_,q4⟩
  rw[h4]
  exact Row.nil_
theorem RdS.fr0 (h:RdS c0 c1 b r w) (hf:Fr [] w w'):RdS c0 c1 b r w':=h.fr hf (by simp)
theorem RdS.step {A:Option Addr} (h2:c0≤b) (h3:b<c1) (h4:(∀ k∈blk A,c0≤k∧k<c1) ∨ r.l=[]) (hl:r.l=[]→r'.l=[]) (hp:RdPost w b A v r' e w'):e=.returned v∧RdS c0 c1 b r' w'∧Fr [b] w w':=by
 obtain⟨rfl,A',q1,q2,q3⟩:=hp
 refine⟨rfl,⟨A',q1,h2,h3,?_⟩,q2⟩
 rcases h4 with h4 | h4
 ·exact .inl fun k hk=>h4 k (q3 k hk)
 ·exact .inr (hl h4)
theorem rstep_nil {α:Type} {z:α} {r:RS} {x:α × Nat × Int} (h:r.l=[]):(rstep z r x).2.l=[]:=by
 unfold rstep
 split
 ·exact h
 ·split
  ·exact h
  ·rw[h];simp
theorem Number_rs (h:RdS c0 c1 b r w) (m:Nat):Calls Tryz.prog 50 #[.pointer (some ⟨b,0,none⟩),.int .i64 (m:Int)] w fun e w'=>e=.returned (.int .i64 (rdNum m r).1)∧RdS c0 c1 b (rdNum m r).2 w'∧Fr [b] w w':=by
 obtain⟨A,h1,h2,h3,h4⟩:=h
 exact (Number_rd b m A r w h1).mono fun e w' hp=>RdS.step h2 h3 h4 rstep_nil hp
theorem Text_rs (h:RdS c0 c1 b r w) (m:Nat):Calls Tryz.prog 49 #[.pointer (some ⟨b,0,none⟩),.int .i64 (m:Int)] w fun e w'=>e=.returned (encN (rdText m r).1)∧RdS c0 c1 b (rdText m r).2 w'∧Fr [b] w w':=by
 obtain⟨A,h1,h2,h3,h4⟩:=h
 exact (Text_rd b m A r w h1).mono fun e w' hp=>RdS.step h2 h3 h4 rstep_nil hp
theorem Flag_rs (h:RdS c0 c1 b r w):Calls Tryz.prog 217 #[.pointer (some ⟨b,0,none⟩)] w fun e w'=>e=.returned (.bool (rdFlag r).1)∧RdS c0 c1 b (rdFlag r).2 w'∧Fr [b] w w':=by
 obtain⟨A,h1,h2,h3,h4⟩:=h
 exact (Flag_rd b A r w h1).mono fun e w' hp=>RdS.step h2 h3 h4 rstep_nil hp
theorem Rest_rs (h:RdS c0 c1 b r w):Calls Tryz.prog 216 #[.pointer (some ⟨b,0,none⟩)] w fun e w'=>e=.returned (.int .i64 (r.l.length:Int))∧w=w':=by
 obtain⟨A,h1,_⟩:=h
 exact Rest_rd b A r w h1
theorem Close_rs (h:RdS c0 c1 b r w):Calls Tryz.prog 52 #[.pointer (some ⟨b,0,none⟩)] w fun e w'=>e=.returned (.int .i64 (rdClose r))∧w=w':=by
 obtain⟨A,h1,_⟩:=h
 exact Close_rd b A r w h1
theorem NewReader_rs (A:Option Addr) (n c B:Nat) (l:Nm) (w:World) (hr:Row w B 1 A n (dCells l)) (hsp:∀ a,A=some a→a.spot=none) (hn:n≤70368744177664):Calls Tryz.prog 47 #[.slice A n c] w fun e w'=>∃ b,e=.returned (.pointer (some ⟨b,0,none⟩))∧RdS w.heap.size w'.heap.size b ⟨l,0,0⟩ w'∧Fr [] w w':=by
 refine (NewReader_any A n c B l w hr hsp hn).mono ?_
 rintro e w' ⟨b,A',rfl,h1,h2,h3,h4⟩
 refine⟨b,rfl,⟨A',h1,h3,h1.lt,?_⟩,h2⟩
 obtain⟨c',_,_,q3,_⟩:=h1
 by_cases hl:l=[]
 ·exact .inr hl
 ·left
  intro k hk
  refine⟨h4 k hk,?_⟩
  obtain⟨bb,off,rfl,hlt,_⟩:=q3.2 (List.length_pos_iff.2 hl)
  have:k=bb:=by simpa [blk] using hk
  omega
end
end Go.Proofs.YtlpmiimgacfmkaaGreatDoor
