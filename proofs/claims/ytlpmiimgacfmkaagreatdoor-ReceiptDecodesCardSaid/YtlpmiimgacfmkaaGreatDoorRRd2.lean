/- codec: Parse, the Reader. -/
import Derived.Test.YtlpmiimgacfmkaaGreatDoorRWr2
set_option linter.all false
namespace Go.Proofs.YtlpmiimgacfmkaaGreatDoor
open Go.RowKit
set_option maxRecDepth 100000
set_option maxHeartbeats 4000000
theorem parseN_lt (l:Nm):(parseN l).1<9223372036854775808:=by
 unfold parseN
 have h:=(lastN_le l 9).1
 by_cases h1:lastN l 9=9
 ·rw[if_pos h1];decide
 ·rw[if_neg h1]
  by_cases h2:lastN l 9=l.length
  ·rw[if_pos h2];decide
  ·rw[if_neg h2]
   by_cases h3:0<lastN l 9∧(l.getD (lastN l 9) 0).toNat=0
   ·rw[if_pos h3];decide
   ·rw[if_neg h3]
    have h4:=numV_lt (l.take (lastN l 9+1))
    have h5:128 ^ (l.take (lastN l 9+1)).length≤128 ^ 9:=Nat.pow_le_pow_right (by omega) (by rw[List.length_take];omega)
    have h6:(128:Nat) ^ 9=9223372036854775808:=by decide
    simp only
    omega
theorem parseN_size (l:Nm):(parseN l).2.1≤l.length∧(parseN l).2.1≤9:=by
 unfold parseN
 have h:=lastN_le l 9
 by_cases h1:lastN l 9=9
 ·rw[if_pos h1];exact⟨Nat.zero_le _,Nat.zero_le _⟩
 ·rw[if_neg h1]
  by_cases h2:lastN l 9=l.length
  ·rw[if_pos h2];exact⟨Nat.zero_le _,Nat.zero_le _⟩
  ·rw[if_neg h2]
   by_cases h3:0<lastN l 9∧(l.getD (lastN l 9) 0).toNat=0
   ·rw[if_pos h3];exact⟨Nat.zero_le _,Nat.zero_le _⟩
   ·rw[if_neg h3];simp only;omega
theorem Parse_any (A:Option Addr) (n c B:Nat) (l:Nm) (w:World) (hr:Row w B 1 A n (dCells l)) (hn:n≤70368744177664) :
 Calls Tryz.prog 111 #[.slice A n c] w fun e w'=>e=.returned (.tuple #[.int .i64 ((parseN l).1:Int),.int .i64 ((parseN l).2.1:Int),.int .i64 (parseN l).2.2])∧w=w':=by
 have hp:=parseNatural_any A n c B l w hr hn
 have hlt:=parseN_lt l
 obtain⟨q1,h1⟩:=nmd ((parseN l).1)
 obtain⟨q2,h2⟩:=nmd ((parseN l).2.1)
 obtain⟨q3,h3⟩:=nmd ((parseN l).2.2)
 rw[h1] at hlt
 rw[h1,h2,h3] at hp
 rw[h1,h2,h3]
 unfold tup3 at hp
 have HP:=Hd hp
 clear hp h1 h2 h3 hr
 go_enter Tryz.func111,Tryz.ntmps111
 go_wp2_with ((go_at_call 167;(with_reducible refine HP.out.mono ?_);rintro e w1 ⟨rfl,rfl⟩))
 go_ret3
 exact⟨rfl,rfl⟩
structure RS where
 l:Nm
 p:Nat
 f:Int
def RdAt (w:World) (b:Nat) (A:Option Addr) (r:RS):Prop :=
 ∃ c,BoxN w b 214 #[.slice A r.l.length c,.int .i64 (r.p:Int),.int .i64 r.f]∧r.l.length≤c∧Row w w.heap.size 1 A r.l.length (dCells r.l)∧b ∉ blk A∧r.l.length≤70368744177664∧r.p+r.l.length≤70368744177664
theorem rd_cells {w:World} {b:Nat} {v0 v1 v2:Value} {t:TypeId} (h:BoxN w b t #[v0,v1,v2]):w.cell? ⟨b,0,none⟩=some v0∧w.cell? ⟨b,1,none⟩=some v1∧w.cell? ⟨b,2,none⟩=some v2∧w.frozen? ⟨b,0,none⟩=false∧w.frozen? ⟨b,1,none⟩=false∧w.frozen? ⟨b,2,none⟩=false:=⟨h.c 0,h.c 1,h.c 2,h.f 0,h.f 1,h.f 2⟩
theorem RdAt.fr {S:List Nat} {w w':World} {b:Nat} {A:Option Addr} {r:RS} (h:RdAt w b A r) (hf:Fr S w w') (hb:b ∉ S) (hA:∀ k∈blk A,k ∉ S):RdAt w' b A r:=by
 obtain⟨c,h1,h2,h3,h4⟩:=h
 exact⟨c,h1.fr hf hb,h2,(h3.fr hf (Nat.le_refl _) (by rintro a rfl;exact hA _ (by simp[blk]))).more hf.size,h4⟩
theorem RdAt.lt {w:World} {b:Nat} {A:Option Addr} {r:RS} (h:RdAt w b A r):b<w.heap.size:=by obtain⟨c,h1,_⟩:=h;exact h1.lt
theorem Row.rest {w:World} {B n s c b off:Nat} {l:Nm} (h:Row w B 1 (some ⟨b,off,none⟩) n (dCells l)) (hs:s≤n) (hc:n≤c):Row w B 1 (if c=s then some ⟨b,off,none⟩ else some ⟨b,off+s,none⟩) (n - s) (dCells (l.drop s)):=by
 have hl:l.length=n:=by have:=h.1;rw[dcells_len] at this;omega
 refine⟨by rw[dcells_len,List.length_drop];omega,fun hn=>?_⟩
 obtain⟨b',off',e,hb,hcc⟩:=h.2 (by omega)
 injection e with e
 injection e with e1 e2
 subst e1 e2
 refine⟨b,off+s,by rw[if_neg (by omega)],hb,fun j u hu=>?_⟩
 have hd:dCells (l.drop s)=(dCells l).drop s:=by unfold dCells;rw[List.map_drop]
 rw[hd,List.getElem?_drop] at hu
 have:=hcc _ _ hu
 rwa [←Nat.add_assoc] at this
def rstep {α:Type} (z:α) (r:RS) (x:α × Nat × Int):α × RS :=
 if r.f≠0 then (z,r) else if x.2.2≠0 then (z,⟨r.l,r.p,x.2.2⟩) else (x.1,⟨r.l.drop x.2.1,r.p+x.2.1,0⟩)
def RdPost (w:World) (b:Nat) (A:Option Addr) (v:Value) (r:RS) (e:Ending) (w':World):Prop :=
 e=.returned v∧∃ A',RdAt w' b A' r∧Fr [b] w w'∧∀ k∈blk A',k∈blk A
theorem blk_if {b off off':Nat} {p:Prop} [Decidable p]:∀ k∈blk (if p then some (⟨b,off,none⟩:Addr) else some ⟨b,off',none⟩),k∈blk (some (⟨b,off,none⟩:Addr)):=by
 intro k hk
 by_cases h:p
 ·rw[if_pos h] at hk;exact hk
 ·rw[if_neg h] at hk;simpa [blk] using hk
theorem readI (b q:Nat) (A:Option Addr) (r:RS) (w:World) (x1:Int) (x2:Nat) (x3:Int) (h:RdAt w b A r)
 (hx:x3=0→x2≤r.l.length∧0<r.l.length)
 (hcall:∀ c,Row w w.heap.size 1 A r.l.length (dCells r.l)→r.l.length≤c→r.l.length≤70368744177664→Calls Tryz.prog 113 #[.slice A r.l.length c,.pointer (some ⟨q,0,none⟩)] w fun e w'=>e=.returned (.tuple #[Value.int .i64 x1,.int .i64 (x2:Int),.int .i64 x3])∧w=w') :
 Calls Tryz.prog 112 #[.pointer (some ⟨b,0,none⟩),.func (Fn.func 113) #[] #[.pointer (some ⟨q,0,none⟩)]] w (RdPost w b A (Value.int .i64 (rstep 0 r (x1,x2,x3)).1) (rstep 0 r (x1,x2,x3)).2):=by
 by_cases hf:r.f=0
 ·by_cases he:x3=0
  ·obtain⟨hx2,hpos⟩:=hx he
   subst he
   have e0:rstep 0 r (x1,x2,0)=(x1,⟨r.l.drop x2,r.p+x2,0⟩):=by unfold rstep;rw[if_neg (by simpa using hf),if_neg (by simp)]
   rw[e0]
   obtain⟨c,h1,h2,h3,h4,h5,h6⟩:=h
   have hC:=hcall c h3 h2 h5
   obtain⟨l,p,f⟩:=r
   simp only at hf hx2 hpos h1 h2 h3 h5 h6 hC ⊢
   subst hf
   obtain⟨bb,off,rfl,_⟩:=h3.2 hpos
   obtain⟨x0,xx1,xx2,xf0,xf1,xf2⟩:=rd_cells h1
   have hrr:=h3.rest hx2 h2
   have hlen:l.length - x2=(l.drop x2).length:=by rw[List.length_drop]
   have hbb:bb≠b:=by simpa [blk,eq_comm] using h4
   have hg1:(w.setCell ⟨b,0,none⟩ (.slice (if c=x2 then some ⟨bb,off,none⟩ else some ⟨bb,off+x2,none⟩) (l.length - x2) (c - x2))).setCell ⟨b,1,none⟩ (.int .i64 ((p+x2:Nat):Int))=(w.setCell ⟨b,0,none⟩ (.slice (if c=x2 then some ⟨bb,off,none⟩ else some ⟨bb,off+x2,none⟩) (l.length - x2) (c - x2))).setCell ⟨b,1,none⟩ (.int .i64 ((p+x2:Nat):Int)):=rfl
   have hbx:=((h1.setAt 0 (.slice (if c=x2 then some ⟨bb,off,none⟩ else some ⟨bb,off+x2,none⟩) (l.length - x2) (c - x2))).setAt 1 (.int .i64 ((p+x2:Nat):Int)))
   have hfr:Fr [b] w ((w.setCell ⟨b,0,none⟩ (.slice (if c=x2 then some ⟨bb,off,none⟩ else some ⟨bb,off+x2,none⟩) (l.length - x2) (c - x2))).setCell ⟨b,1,none⟩ (.int .i64 ((p+x2:Nat):Int))):=((Fr.refl [b] w).set (p:=⟨b,0,none⟩) (by simp) _).set (p:=⟨b,1,none⟩) (by simp) _
   have hres:∃ A',RdAt ((w.setCell ⟨b,0,none⟩ (.slice (if c=x2 then some ⟨bb,off,none⟩ else some ⟨bb,off+x2,none⟩) (l.length - x2) (c - x2))).setCell ⟨b,1,none⟩ (.int .i64 ((p+x2:Nat):Int))) b A' ⟨l.drop x2,p+x2,0⟩∧Fr [b] w ((w.setCell ⟨b,0,none⟩ (.slice (if c=x2 then some ⟨bb,off,none⟩ else some ⟨bb,off+x2,none⟩) (l.length - x2) (c - x2))).setCell ⟨b,1,none⟩ (.int .i64 ((p+x2:Nat):Int)))∧∀ k∈blk A',k∈blk (some (⟨bb,off,none⟩:Addr)):=by
    refine⟨if c=x2 then some ⟨bb,off,none⟩ else some ⟨bb,off+x2,none⟩,⟨c - x2,by rw[←hlen];exact hbx,by rw[←hlen];omega,?_,?_,by rw[←hlen];omega,by rw[←hlen];simp only;omega⟩,hfr,blk_if⟩
    ·rw[←hlen]
     refine (hrr.fr hfr (Nat.le_refl _) (fun a ha=>?_)).more hfr.size
     have:=blk_if (p:=c=x2) (b:=bb) (off:=off) (off':=off+x2) a.block (by rw[ha];simp[blk])
     simp[blk] at this ⊢
     omega
    ·intro hm
     have:=blk_if _ hm
     simp[blk] at this
     omega
   have HRES:=Hd hres
   have HC:=Hd hC
   have hx2i:(x2:Int)≤(l.length:Int):=by omega
   have hci:(l.length:Int)≤(c:Int):=by omega
   clear h1 h2 h3 h4 hC hrr hlen hbb hg1 hbx hfr hres hx hcall hpos e0
   unfold RdPost
   go_enter Tryz.func112,Tryz.ntmps112
   go_wp2_with ((go_at_call 113;(with_reducible refine HC.out.mono ?_);rintro e w1 ⟨rfl,rfl⟩))
   ·go_ret
    have hr:=HRES.out
    simp only[if_pos ‹c=x2›] at hr
    rw[show c - x2=0 by omega] at hr
    rw[show ((p+x2:Nat):Int)=(p:Int)+(x2:Int) by omega] at hr
    exact⟨rfl,hr⟩
   ·go_ret
    have hr:=HRES.out
    simp only[if_neg ‹¬ c=x2›] at hr
    rw[show ((p+x2:Nat):Int)=(p:Int)+(x2:Int) by omega] at hr
    exact⟨rfl,hr⟩
  ·have e0:rstep 0 r (x1,x2,x3)=(0,⟨r.l,r.p,x3⟩):=by unfold rstep;rw[if_neg (by simpa using hf),if_pos (by simpa using he)]
   rw[e0]
   obtain⟨c,h1,h2,h3,h4,h5,h6⟩:=h
   have hC:=hcall c h3 h2 h5
   obtain⟨l,p,f⟩:=r
   simp only at hf h1 h2 h3 h5 h6 hC ⊢
   subst hf
   obtain⟨x0,xx1,xx2,xf0,xf1,xf2⟩:=rd_cells h1
   have hfr:Fr [b] w (w.setCell ⟨b,2,none⟩ (.int .i64 x3)):=(Fr.refl [b] w).set (p:=⟨b,2,none⟩) (by simp) _
   have hres:RdAt (w.setCell ⟨b,2,none⟩ (.int .i64 x3)) b A ⟨l,p,x3⟩:=⟨c,h1.setAt 2 _,h2,(h3.fr hfr (Nat.le_refl _) (by rintro a rfl;simp[blk] at h4 ⊢;exact fun e=>h4 e.symm)).more hfr.size,h4,h5,h6⟩
   have hne:(x3 == 0)=false:=by simpa using he
   have hne2:(x3 != 0)=true:=by simpa using he
   have HRES:=Hd hres
   have HFR:=Hd hfr
   have HC:=Hd hC
   clear h1 h2 h3 h4 hC hfr hres hx hcall e0
   unfold RdPost
   go_enter Tryz.func112,Tryz.ntmps112
   go_wp2_with ((go_at_call 113;(with_reducible refine HC.out.mono ?_);rintro e w1 ⟨rfl,rfl⟩))
   go_ret
   exact⟨rfl,A,HRES.out,HFR.out,fun _ h=>h⟩
 ·have e0:rstep 0 r (x1,x2,x3)=(0,r):=by unfold rstep;rw[if_pos (by simpa using hf)]
  rw[e0]
  have HH:=Hd h
  obtain⟨c,h1,h2,h3,h4,h5,h6⟩:=h
  obtain⟨x0,xx1,xx2,_⟩:=rd_cells h1
  obtain⟨ff,hff⟩:=nmd (r.f)
  rw[hff] at xx2 hf
  have hf':(ff == 0)=false:=by simpa using hf
  have hf2:(ff != 0)=true:=by simpa using hf
  clear h1 h2 h3 h4 hx hcall e0 hff
  unfold RdPost
  go_enter Tryz.func112,Tryz.ntmps112
  go_wp2_with fail
  go_ret
  exact⟨rfl,A,HH.out,Fr.refl _ _,fun _ h=>h⟩
theorem readS (b q:Nat) (A:Option Addr) (r:RS) (w:World) (x1:Nm) (x2:Nat) (x3:Int) (h:RdAt w b A r)
 (hx:x3=0→x2≤r.l.length∧0<r.l.length)
 (hcall:∀ c,Row w w.heap.size 1 A r.l.length (dCells r.l)→r.l.length≤c→r.l.length≤70368744177664→Calls Tryz.prog 110 #[.slice A r.l.length c,.pointer (some ⟨q,0,none⟩)] w fun e w'=>e=.returned (.tuple #[encN x1,.int .i64 (x2:Int),.int .i64 x3])∧w=w') :
 Calls Tryz.prog 109 #[.pointer (some ⟨b,0,none⟩),.func (Fn.func 110) #[] #[.pointer (some ⟨q,0,none⟩)]] w (RdPost w b A (encN (rstep [] r (x1,x2,x3)).1) (rstep [] r (x1,x2,x3)).2):=by
 by_cases hf:r.f=0
 ·by_cases he:x3=0
  ·obtain⟨hx2,hpos⟩:=hx he
   subst he
   have e0:rstep [] r (x1,x2,0)=(x1,⟨r.l.drop x2,r.p+x2,0⟩):=by unfold rstep;rw[if_neg (by simpa using hf),if_neg (by simp)]
   rw[e0]
   obtain⟨c,h1,h2,h3,h4,h5,h6⟩:=h
   have hC:=hcall c h3 h2 h5
   obtain⟨l,p,f⟩:=r
   simp only at hf hx2 hpos h1 h2 h3 h5 h6 hC ⊢
   subst hf
   obtain⟨bb,off,rfl,_⟩:=h3.2 hpos
   obtain⟨x0,xx1,xx2,xf0,xf1,xf2⟩:=rd_cells h1
   have hrr:=h3.rest hx2 h2
   have hlen:l.length - x2=(l.drop x2).length:=by rw[List.length_drop]
   have hbb:bb≠b:=by simpa [blk,eq_comm] using h4
   have hg1:(w.setCell ⟨b,0,none⟩ (.slice (if c=x2 then some ⟨bb,off,none⟩ else some ⟨bb,off+x2,none⟩) (l.length - x2) (c - x2))).setCell ⟨b,1,none⟩ (.int .i64 ((p+x2:Nat):Int))=(w.setCell ⟨b,0,none⟩ (.slice (if c=x2 then some ⟨bb,off,none⟩ else some ⟨bb,off+x2,none⟩) (l.length - x2) (c - x2))).setCell ⟨b,1,none⟩ (.int .i64 ((p+x2:Nat):Int)):=rfl
   have hbx:=((h1.setAt 0 (.slice (if c=x2 then some ⟨bb,off,none⟩ else some ⟨bb,off+x2,none⟩) (l.length - x2) (c - x2))).setAt 1 (.int .i64 ((p+x2:Nat):Int)))
   have hfr:Fr [b] w ((w.setCell ⟨b,0,none⟩ (.slice (if c=x2 then some ⟨bb,off,none⟩ else some ⟨bb,off+x2,none⟩) (l.length - x2) (c - x2))).setCell ⟨b,1,none⟩ (.int .i64 ((p+x2:Nat):Int))):=((Fr.refl [b] w).set (p:=⟨b,0,none⟩) (by simp) _).set (p:=⟨b,1,none⟩) (by simp) _
   have hres:∃ A',RdAt ((w.setCell ⟨b,0,none⟩ (.slice (if c=x2 then some ⟨bb,off,none⟩ else some ⟨bb,off+x2,none⟩) (l.length - x2) (c - x2))).setCell ⟨b,1,none⟩ (.int .i64 ((p+x2:Nat):Int))) b A' ⟨l.drop x2,p+x2,0⟩∧Fr [b] w ((w.setCell ⟨b,0,none⟩ (.slice (if c=x2 then some ⟨bb,off,none⟩ else some ⟨bb,off+x2,none⟩) (l.length - x2) (c - x2))).setCell ⟨b,1,none⟩ (.int .i64 ((p+x2:Nat):Int)))∧∀ k∈blk A',k∈blk (some (⟨bb,off,none⟩:Addr)):=by
    refine⟨if c=x2 then some ⟨bb,off,none⟩ else some ⟨bb,off+x2,none⟩,⟨c - x2,by rw[←hlen];exact hbx,by rw[←hlen];omega,?_,?_,by rw[←hlen];omega,by rw[←hlen];simp only;omega⟩,hfr,blk_if⟩
    ·rw[←hlen]
     refine (hrr.fr hfr (Nat.le_refl _) (fun a ha=>?_)).more hfr.size
     have:=blk_if (p:=c=x2) (b:=bb) (off:=off) (off':=off+x2) a.block (by rw[ha];simp[blk])
     simp[blk] at this ⊢
     omega
    ·intro hm
     have:=blk_if _ hm
     simp[blk] at this
     omega
   have HRES:=Hd hres
   have HC:=Hd hC
   have hx2i:(x2:Int)≤(l.length:Int):=by omega
   have hci:(l.length:Int)≤(c:Int):=by omega
   clear h1 h2 h3 h4 hC hrr hlen hbb hg1 hbx hfr hres hx hcall hpos e0
   unfold RdPost
   go_enter Tryz.func109,Tryz.ntmps109
   go_wp2_with ((go_at_call 110;(with_reducible refine HC.out.mono ?_);rintro e w1 ⟨rfl,rfl⟩))
   ·go_ret
    have hr:=HRES.out
    simp only[if_pos ‹c=x2›] at hr
    rw[show c - x2=0 by omega] at hr
    rw[show ((p+x2:Nat):Int)=(p:Int)+(x2:Int) by omega] at hr
    exact⟨rfl,hr⟩
   ·go_ret
    have hr:=HRES.out
    simp only[if_neg ‹¬ c=x2›] at hr
    rw[show ((p+x2:Nat):Int)=(p:Int)+(x2:Int) by omega] at hr
    exact⟨rfl,hr⟩
  ·have e0:rstep [] r (x1,x2,x3)=([],⟨r.l,r.p,x3⟩):=by unfold rstep;rw[if_neg (by simpa using hf),if_pos (by simpa using he)]
   rw[e0]
   obtain⟨c,h1,h2,h3,h4,h5,h6⟩:=h
   have hC:=hcall c h3 h2 h5
   obtain⟨l,p,f⟩:=r
   simp only at hf h1 h2 h3 h5 h6 hC ⊢
   subst hf
   obtain⟨x0,xx1,xx2,xf0,xf1,xf2⟩:=rd_cells h1
   have hfr:Fr [b] w (w.setCell ⟨b,2,none⟩ (.int .i64 x3)):=(Fr.refl [b] w).set (p:=⟨b,2,none⟩) (by simp) _
   have hres:RdAt (w.setCell ⟨b,2,none⟩ (.int .i64 x3)) b A ⟨l,p,x3⟩:=⟨c,h1.setAt 2 _,h2,(h3.fr hfr (Nat.le_refl _) (by rintro a rfl;simp[blk] at h4 ⊢;exact fun e=>h4 e.symm)).more hfr.size,h4,h5,h6⟩
   have hne:(x3 == 0)=false:=by simpa using he
   have hne2:(x3 != 0)=true:=by simpa using he
   have HRES:=Hd hres
   have HFR:=Hd hfr
   have HC:=Hd hC
   clear h1 h2 h3 h4 hC hfr hres hx hcall e0
   unfold RdPost
   go_enter Tryz.func109,Tryz.ntmps109
   go_wp2_with ((go_at_call 110;(with_reducible refine HC.out.mono ?_);rintro e w1 ⟨rfl,rfl⟩))
   go_ret
   exact⟨rfl,A,HRES.out,HFR.out,fun _ h=>h⟩
 ·have e0:rstep [] r (x1,x2,x3)=([],r):=by unfold rstep;rw[if_pos (by simpa using hf)]
  rw[e0]
  have HH:=Hd h
  obtain⟨c,h1,h2,h3,h4,h5,h6⟩:=h
  obtain⟨x0,xx1,xx2,_⟩:=rd_cells h1
  obtain⟨ff,hff⟩:=nmd (r.f)
  rw[hff] at xx2 hf
  have hf':(ff == 0)=false:=by simpa using hf
  have hf2:(ff != 0)=true:=by simpa using hf
  clear h1 h2 h3 h4 hx hcall e0 hff
  unfold RdPost
  go_enter Tryz.func109,Tryz.ntmps109
  go_wp2_with fail
  go_ret
  exact⟨rfl,A,HH.out,Fr.refl _ _,fun _ h=>h⟩
theorem readB (b q:Nat) (A:Option Addr) (r:RS) (w:World) (x1:Bool) (x2:Nat) (x3:Int) (h:RdAt w b A r)
 (hx:x3=0→x2≤r.l.length∧0<r.l.length)
 (hcall:∀ c,Row w w.heap.size 1 A r.l.length (dCells r.l)→r.l.length≤c→r.l.length≤70368744177664→Calls Tryz.prog 257 #[.slice A r.l.length c] w fun e w'=>e=.returned (.tuple #[Value.bool x1,.int .i64 (x2:Int),.int .i64 x3])∧w=w') :
 Calls Tryz.prog 256 #[.pointer (some ⟨b,0,none⟩),.func (Fn.func 257) #[] #[]] w (RdPost w b A (Value.bool (rstep false r (x1,x2,x3)).1) (rstep false r (x1,x2,x3)).2):=by
 by_cases hf:r.f=0
 ·by_cases he:x3=0
  ·obtain⟨hx2,hpos⟩:=hx he
   subst he
   have e0:rstep false r (x1,x2,0)=(x1,⟨r.l.drop x2,r.p+x2,0⟩):=by unfold rstep;rw[if_neg (by simpa using hf),if_neg (by simp)]
   rw[e0]
   obtain⟨c,h1,h2,h3,h4,h5,h6⟩:=h
   have hC:=hcall c h3 h2 h5
   obtain⟨l,p,f⟩:=r
   simp only at hf hx2 hpos h1 h2 h3 h5 h6 hC ⊢
   subst hf
   obtain⟨bb,off,rfl,_⟩:=h3.2 hpos
   obtain⟨x0,xx1,xx2,xf0,xf1,xf2⟩:=rd_cells h1
   have hrr:=h3.rest hx2 h2
   have hlen:l.length - x2=(l.drop x2).length:=by rw[List.length_drop]
   have hbb:bb≠b:=by simpa [blk,eq_comm] using h4
   have hg1:(w.setCell ⟨b,0,none⟩ (.slice (if c=x2 then some ⟨bb,off,none⟩ else some ⟨bb,off+x2,none⟩) (l.length - x2) (c - x2))).setCell ⟨b,1,none⟩ (.int .i64 ((p+x2:Nat):Int))=(w.setCell ⟨b,0,none⟩ (.slice (if c=x2 then some ⟨bb,off,none⟩ else some ⟨bb,off+x2,none⟩) (l.length - x2) (c - x2))).setCell ⟨b,1,none⟩ (.int .i64 ((p+x2:Nat):Int)):=rfl
   have hbx:=((h1.setAt 0 (.slice (if c=x2 then some ⟨bb,off,none⟩ else some ⟨bb,off+x2,none⟩) (l.length - x2) (c - x2))).setAt 1 (.int .i64 ((p+x2:Nat):Int)))
   have hfr:Fr [b] w ((w.setCell ⟨b,0,none⟩ (.slice (if c=x2 then some ⟨bb,off,none⟩ else some ⟨bb,off+x2,none⟩) (l.length - x2) (c - x2))).setCell ⟨b,1,none⟩ (.int .i64 ((p+x2:Nat):Int))):=((Fr.refl [b] w).set (p:=⟨b,0,none⟩) (by simp) _).set (p:=⟨b,1,none⟩) (by simp) _
   have hres:∃ A',RdAt ((w.setCell ⟨b,0,none⟩ (.slice (if c=x2 then some ⟨bb,off,none⟩ else some ⟨bb,off+x2,none⟩) (l.length - x2) (c - x2))).setCell ⟨b,1,none⟩ (.int .i64 ((p+x2:Nat):Int))) b A' ⟨l.drop x2,p+x2,0⟩∧Fr [b] w ((w.setCell ⟨b,0,none⟩ (.slice (if c=x2 then some ⟨bb,off,none⟩ else some ⟨bb,off+x2,none⟩) (l.length - x2) (c - x2))).setCell ⟨b,1,none⟩ (.int .i64 ((p+x2:Nat):Int)))∧∀ k∈blk A',k∈blk (some (⟨bb,off,none⟩:Addr)):=by
    refine⟨if c=x2 then some ⟨bb,off,none⟩ else some ⟨bb,off+x2,none⟩,⟨c - x2,by rw[←hlen];exact hbx,by rw[←hlen];omega,?_,?_,by rw[←hlen];omega,by rw[←hlen];simp only;omega⟩,hfr,blk_if⟩
    ·rw[←hlen]
     refine (hrr.fr hfr (Nat.le_refl _) (fun a ha=>?_)).more hfr.size
     have:=blk_if (p:=c=x2) (b:=bb) (off:=off) (off':=off+x2) a.block (by rw[ha];simp[blk])
     simp[blk] at this ⊢
     omega
    ·intro hm
     have:=blk_if _ hm
     simp[blk] at this
     omega
   have HRES:=Hd hres
   have HC:=Hd hC
   have hx2i:(x2:Int)≤(l.length:Int):=by omega
   have hci:(l.length:Int)≤(c:Int):=by omega
   clear h1 h2 h3 h4 hC hrr hlen hbb hg1 hbx hfr hres hx hcall hpos e0
   unfold RdPost
   go_enter Tryz.func256,Tryz.ntmps256
   go_wp2_with ((go_at_call 257;(with_reducible refine HC.out.mono ?_);rintro e w1 ⟨rfl,rfl⟩))
   ·go_ret
    have hr:=HRES.out
    simp only[if_pos ‹c=x2›] at hr
    rw[show c - x2=0 by omega] at hr
    rw[show ((p+x2:Nat):Int)=(p:Int)+(x2:Int) by omega] at hr
    exact⟨rfl,hr⟩
   ·go_ret
    have hr:=HRES.out
    simp only[if_neg ‹¬ c=x2›] at hr
    rw[show ((p+x2:Nat):Int)=(p:Int)+(x2:Int) by omega] at hr
    exact⟨rfl,hr⟩
  ·have e0:rstep false r (x1,x2,x3)=(false,⟨r.l,r.p,x3⟩):=by unfold rstep;rw[if_neg (by simpa using hf),if_pos (by simpa using he)]
   rw[e0]
   obtain⟨c,h1,h2,h3,h4,h5,h6⟩:=h
   have hC:=hcall c h3 h2 h5
   obtain⟨l,p,f⟩:=r
   simp only at hf h1 h2 h3 h5 h6 hC ⊢
   subst hf
   obtain⟨x0,xx1,xx2,xf0,xf1,xf2⟩:=rd_cells h1
   have hfr:Fr [b] w (w.setCell ⟨b,2,none⟩ (.int .i64 x3)):=(Fr.refl [b] w).set (p:=⟨b,2,none⟩) (by simp) _
   have hres:RdAt (w.setCell ⟨b,2,none⟩ (.int .i64 x3)) b A ⟨l,p,x3⟩:=⟨c,h1.setAt 2 _,h2,(h3.fr hfr (Nat.le_refl _) (by rintro a rfl;simp[blk] at h4 ⊢;exact fun e=>h4 e.symm)).more hfr.size,h4,h5,h6⟩
   have hne:(x3 == 0)=false:=by simpa using he
   have hne2:(x3 != 0)=true:=by simpa using he
   have HRES:=Hd hres
   have HFR:=Hd hfr
   have HC:=Hd hC
   clear h1 h2 h3 h4 hC hfr hres hx hcall e0
   unfold RdPost
   go_enter Tryz.func256,Tryz.ntmps256
   go_wp2_with ((go_at_call 257;(with_reducible refine HC.out.mono ?_);rintro e w1 ⟨rfl,rfl⟩))
   go_ret
   exact⟨rfl,A,HRES.out,HFR.out,fun _ h=>h⟩
 ·have e0:rstep false r (x1,x2,x3)=(false,r):=by unfold rstep;rw[if_pos (by simpa using hf)]
  rw[e0]
  have HH:=Hd h
  obtain⟨c,h1,h2,h3,h4,h5,h6⟩:=h
  obtain⟨x0,xx1,xx2,_⟩:=rd_cells h1
  obtain⟨ff,hff⟩:=nmd (r.f)
  rw[hff] at xx2 hf
  have hf':(ff == 0)=false:=by simpa using hf
  have hf2:(ff != 0)=true:=by simpa using hf
  clear h1 h2 h3 h4 hx hcall e0 hff
  unfold RdPost
  go_enter Tryz.func256,Tryz.ntmps256
  go_wp2_with fail
  go_ret
  exact⟨rfl,A,HH.out,Fr.refl _ _,fun _ h=>h⟩
end Go.Proofs.YtlpmiimgacfmkaaGreatDoor
