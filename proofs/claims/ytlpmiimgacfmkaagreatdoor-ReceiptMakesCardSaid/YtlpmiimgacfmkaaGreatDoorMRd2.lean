/- codec: Parse, the Reader. -/
import Derived.Test.YtlpmiimgacfmkaaGreatDoorMWr3
set_option linter.all false
namespace Go.Proofs.YtlpmiimgacfmkaaGreatDoor
open Go.Proofs.Tryz
open Go.RowKit
set_option maxRecDepth 100000
set_option maxHeartbeats 4000000
theorem parseN_lt (l:Nm):(parseN l).1<9223372036854775808:=by
 unfold parseN;have h:=(lastN_le l 9).1
 by_cases h1:lastN l 9=9
 ·rw[if_pos h1];decide
 ·rw[if_neg h1]
  by_cases h2:lastN l 9=l.length
  ·rw[if_pos h2];decide
  ·rw[if_neg h2]
   by_cases h3:0<lastN l 9/\(l.getD (lastN l 9) 0).toNat=0
   ·rw[if_pos h3];decide
   ·rw[if_neg h3]
    have h4:=numV_lt (l.take (lastN l 9+1));have h5:128 ^ (l.take (lastN l 9+1)).length<=128 ^ 9:=Nat.pow_le_pow_right (by omega) (by rw[List.length_take];omega);have h6:(128:Nat) ^ 9=9223372036854775808:=by decide
    simp only;omega
theorem parseN_size (l:Nm):(parseN l).2.1<=l.length/\(parseN l).2.1<=9:=by
 unfold parseN;have h:=lastN_le l 9
 by_cases h1:lastN l 9=9
 ·rw[if_pos h1];exact⟨Nat.zero_le _,Nat.zero_le _⟩
 ·rw[if_neg h1]
  by_cases h2:lastN l 9=l.length
  ·rw[if_pos h2];exact⟨Nat.zero_le _,Nat.zero_le _⟩
  ·rw[if_neg h2]
   by_cases h3:0<lastN l 9/\(l.getD (lastN l 9) 0).toNat=0
   ·rw[if_pos h3];exact⟨Nat.zero_le _,Nat.zero_le _⟩
   ·rw[if_neg h3];simp only;omega
theorem Parse_any (A:Option Addr) (n c B:Nat) (l:Nm) (w:World) (hr:Row w B 1 A n (dCells l)) (hn:n<=70368744177664) :
 Calls prog 111 #[.slice A n c] w fun e w'=>e=.returned (.tuple #[.int .i64 ((parseN l).1:Int),.int .i64 ((parseN l).2.1:Int),.int .i64 (parseN l).2.2])/\w=w':=by
 have hp:=parseNatural_any A n c B l w hr hn;have hlt:=parseN_lt l;obtain⟨q1,h1⟩:=nmd ((parseN l).1);obtain⟨q2,h2⟩:=nmd ((parseN l).2.1);obtain⟨q3,h3⟩:=nmd ((parseN l).2.2);rw[h1] at hlt;rw[h1,h2,h3] at hp;rw[h1,h2,h3];unfold tup3 at hp;have HP:=Hd hp;clear hp h1 h2 h3 hr
 go_enter func111,ntmps111
 go_wp2_with ((go_at_call 167;(with_reducible refine HP.out.mono ?_);rintro e w1 ⟨rfl,rfl⟩))
 go_ret3
 exact⟨rfl,rfl⟩
structure RS where
 l:Nm
 p:Nat
 f:Int
def RdAt (w:World) (b:Nat) (A:Option Addr) (r:RS):Prop :=
 ∃ c,BoxN w b 214 #[.slice A r.l.length c,.int .i64 (r.p:Int),.int .i64 r.f]/\r.l.length<=c/\Row w w.heap.size 1 A r.l.length (dCells r.l)/\b ∉ blk A/\r.l.length<=70368744177664/\r.p+r.l.length<=70368744177664
theorem rd_cells {w:World} {b:Nat} {v0 v1 v2:Value} {t:TypeId} (h:BoxN w b t #[v0,v1,v2]):w.cell? ⟨b,0,none⟩=some v0/\w.cell? ⟨b,1,none⟩=some v1/\w.cell? ⟨b,2,none⟩=some v2/\w.frozen? ⟨b,0,none⟩=false/\w.frozen? ⟨b,1,none⟩=false/\w.frozen? ⟨b,2,none⟩=false:=⟨h.c 0,h.c 1,h.c 2,h.f 0,h.f 1,h.f 2⟩
theorem RdAt.fr {S:List Nat} {w w':World} {b:Nat} {A:Option Addr} {r:RS} (h:RdAt w b A r) (hf:Fr S w w') (hb:b ∉ S) (hA:∀ k∈blk A,k ∉ S):RdAt w' b A r:=by
 obtain⟨c,h1,h2,h3,h4⟩:=h;exact⟨c,h1.fr hf hb,h2,(h3.fr hf (nlr _) (by rintro a rfl;exact hA _ (by simp[blk]))).more hf.size,h4⟩
theorem RdAt.lt {w:World} {b:Nat} {A:Option Addr} {r:RS} (h:RdAt w b A r):b<w.heap.size:=by obtain⟨c,h1,_⟩:=h;exact h1.lt
theorem Row.rest {w:World} {B n s c b off:Nat} {l:Nm} (h:Row w B 1 (some ⟨b,off,none⟩) n (dCells l)) (hs:s<=n) (hc:n<=c):Row w B 1 (if c=s then some ⟨b,off,none⟩ else some ⟨b,off+s,none⟩) (n - s) (dCells (l.drop s)):=by
 have hl:l.length=n:=by have:=h.1;rw[dcells_len] at this;omega
 refine⟨by rw[dcells_len,List.length_drop];omega,fun hn=>?_⟩;obtain⟨b',off',e,hb,hcc⟩:=h.2 (by omega)
 injection e with e
 injection e with e1 e2
 subst e1 e2;refine⟨b,off+s,by rw[if_neg (by omega)],hb,fun j u hu=>?_⟩;have hd:dCells (l.drop s)=(dCells l).drop s:=by unfold dCells;rw[List.map_drop]
 rw[hd,List.getElem?_drop] at hu;have:=hcc _ _ hu
 rwa [<-Nat.add_assoc] at this
def rstep {α:Type} (z:α) (r:RS) (x:α × Nat × Int):α × RS :=
 if r.f≠0 then (z,r) else if x.2.2≠0 then (z,⟨r.l,r.p,x.2.2⟩) else (x.1,⟨r.l.drop x.2.1,r.p+x.2.1,0⟩)
def RdPost (w:World) (b:Nat) (A:Option Addr) (v:Value) (r:RS) (e:Ending) (w':World):Prop :=
 e=.returned v/\∃ A',RdAt w' b A' r/\Fr [b] w w'/\∀ k∈blk A',k∈blk A
theorem blk_if {b off off':Nat} {p:Prop} [Decidable p]:∀ k∈blk (if p then some (⟨b,off,none⟩:Addr) else some ⟨b,off',none⟩),k∈blk (some (⟨b,off,none⟩:Addr)):=by
 intro k hk
 by_cases h:p
 ·rw[if_pos h] at hk;exact hk
 ·rw[if_neg h] at hk;simpa [blk] using hk
theorem readI (b q:Nat) (A:Option Addr) (r:RS) (w:World) (x1:Int) (x2:Nat) (x3:Int) (h:RdAt w b A r)
 (hx:x3=0->x2<=r.l.length/\0<r.l.length)
 (hcall:∀ c,Row w w.heap.size 1 A r.l.length (dCells r.l)->r.l.length<=c->r.l.length<=70368744177664->Calls prog 113 #[.slice A r.l.length c,.pointer (some ⟨q,0,none⟩)] w fun e w'=>e=.returned (.tuple #[Value.int .i64 x1,.int .i64 (x2:Int),.int .i64 x3])/\w=w') :
 Calls prog 112 #[.pointer (some ⟨b,0,none⟩),.func (Fn.func 113) #[] #[.pointer (some ⟨q,0,none⟩)]] w (RdPost w b A (Value.int .i64 (rstep 0 r (x1,x2,x3)).1) (rstep 0 r (x1,x2,x3)).2):=by
 by_cases hf:r.f=0
 ·by_cases he:x3=0
  ·obtain⟨hx2,hpos⟩:=hx he
   subst he;have e0:rstep 0 r (x1,x2,0)=(x1,⟨r.l.drop x2,r.p+x2,0⟩):=by unfold rstep;rw[if_neg (by simpa using hf),if_neg (by simp)]
   rw[e0];obtain⟨c,h1,h2,h3,h4,h5,h6⟩:=h;have hC:=hcall c h3 h2 h5;obtain⟨l,p,f⟩:=r;simp only at hf hx2 hpos h1 h2 h3 h5 h6 hC ⊢;subst hf;obtain⟨bb,off,rfl,_⟩:=h3.2 hpos;obtain⟨x0,xx1,xx2,xf0,xf1,xf2⟩:=rd_cells h1;have hrr:=h3.rest hx2 h2;have hlen:l.length - x2=(l.drop x2).length:=by rw[List.length_drop]
   have hbb:bb≠b:=by simpa [blk,eq_comm] using h4
   have hg1:(w.setCell ⟨b,0,none⟩ (.slice (if c=x2 then some ⟨bb,off,none⟩ else some ⟨bb,off+x2,none⟩) (l.length - x2) (c - x2))).setCell ⟨b,1,none⟩ (.int .i64 ((p+x2:Nat):Int))=(w.setCell ⟨b,0,none⟩ (.slice (if c=x2 then some ⟨bb,off,none⟩ else some ⟨bb,off+x2,none⟩) (l.length - x2) (c - x2))).setCell ⟨b,1,none⟩ (.int .i64 ((p+x2:Nat):Int)):=rfl;have hbx:=((h1.setAt 0 (.slice (if c=x2 then some ⟨bb,off,none⟩ else some ⟨bb,off+x2,none⟩) (l.length - x2) (c - x2))).setAt 1 (.int .i64 ((p+x2:Nat):Int)));have hfr:Fr [b] w ((w.setCell ⟨b,0,none⟩ (.slice (if c=x2 then some ⟨bb,off,none⟩ else some ⟨bb,off+x2,none⟩) (l.length - x2) (c - x2))).setCell ⟨b,1,none⟩ (.int .i64 ((p+x2:Nat):Int))):=((Fq [b] w).set (p:=⟨b,0,none⟩) (by simp) _).set (p:=⟨b,1,none⟩) (by simp) _
   have hres:∃ A',RdAt ((w.setCell ⟨b,0,none⟩ (.slice (if c=x2 then some ⟨bb,off,none⟩ else some ⟨bb,off+x2,none⟩) (l.length - x2) (c - x2))).setCell ⟨b,1,none⟩ (.int .i64 ((p+x2:Nat):Int))) b A' ⟨l.drop x2,p+x2,0⟩/\Fr [b] w ((w.setCell ⟨b,0,none⟩ (.slice (if c=x2 then some ⟨bb,off,none⟩ else some ⟨bb,off+x2,none⟩) (l.length - x2) (c - x2))).setCell ⟨b,1,none⟩ (.int .i64 ((p+x2:Nat):Int)))/\∀ k∈blk A',k∈blk (some (⟨bb,off,none⟩:Addr)):=by
    refine⟨if c=x2 then some ⟨bb,off,none⟩ else some ⟨bb,off+x2,none⟩,⟨c - x2,by rw[<-hlen];exact hbx,by rw[<-hlen];omega,?_,?_,by rw[<-hlen];omega,by rw[<-hlen];simp only;omega⟩,hfr,blk_if⟩
    ·rw[<-hlen]
     refine (hrr.fr hfr (nlr _) (fun a ha=>?_)).more hfr.size;have:=blk_if (p:=c=x2) (b:=bb) (off:=off) (off':=off+x2) a.block (by rw[ha];simp[blk]);simp[blk] at this ⊢;omega
    ·intro hm
     have:=blk_if _ hm;simp[blk] at this;omega
   have HRES:=Hd hres;have HC:=Hd hC;have hx2i:(x2:Int)<=(l.length:Int):=by omega
   have hci:(l.length:Int)<=(c:Int):=by omega
   clear h1 h2 h3 h4 hC hrr hlen hbb hg1 hbx hfr hres hx hcall hpos e0;unfold RdPost
   go_enter func112,ntmps112
   go_wp2_with ((go_at_call 113;(with_reducible refine HC.out.mono ?_);rintro e w1 ⟨rfl,rfl⟩))
   ·go_ret
    have hr:=HRES.out;simp only[if_pos ‹c=x2›] at hr;rw[show c - x2=0 by omega] at hr;rw[show ((p+x2:Nat):Int)=(p:Int)+(x2:Int) by omega] at hr;exact⟨rfl,hr⟩
   ·go_ret
    have hr:=HRES.out;simp only[if_neg ‹¬ c=x2›] at hr;rw[show ((p+x2:Nat):Int)=(p:Int)+(x2:Int) by omega] at hr;exact⟨rfl,hr⟩
  ·have e0:rstep 0 r (x1,x2,x3)=(0,⟨r.l,r.p,x3⟩):=by unfold rstep;rw[if_neg (by simpa using hf),if_pos (by simpa using he)]
   rw[e0];obtain⟨c,h1,h2,h3,h4,h5,h6⟩:=h;have hC:=hcall c h3 h2 h5;obtain⟨l,p,f⟩:=r;simp only at hf h1 h2 h3 h5 h6 hC ⊢;subst hf;obtain⟨x0,xx1,xx2,xf0,xf1,xf2⟩:=rd_cells h1;have hfr:Fr [b] w (w.setCell ⟨b,2,none⟩ (.int .i64 x3)):=(Fq [b] w).set (p:=⟨b,2,none⟩) (by simp) _;have hres:RdAt (w.setCell ⟨b,2,none⟩ (.int .i64 x3)) b A ⟨l,p,x3⟩:=⟨c,h1.setAt 2 _,h2,(h3.fr hfr (nlr _) (by rintro a rfl;simp[blk] at h4 ⊢;exact fun e=>h4 e.symm)).more hfr.size,h4,h5,h6⟩;have hne:(x3 == 0)=false:=by simpa using he
   have hne2:(x3 != 0)=true:=by simpa using he
   have HRES:=Hd hres;have HFR:=Hd hfr;have HC:=Hd hC;clear h1 h2 h3 h4 hC hfr hres hx hcall e0;unfold RdPost
   go_enter func112,ntmps112
   go_wp2_with ((go_at_call 113;(with_reducible refine HC.out.mono ?_);rintro e w1 ⟨rfl,rfl⟩))
   go_ret
   exact⟨rfl,A,HRES.out,HFR.out,fun _ h=>h⟩
 ·have e0:rstep 0 r (x1,x2,x3)=(0,r):=by unfold rstep;rw[if_pos (by simpa using hf)]
  rw[e0];have HH:=Hd h;obtain⟨c,h1,h2,h3,h4,h5,h6⟩:=h;obtain⟨x0,xx1,xx2,_⟩:=rd_cells h1;obtain⟨ff,hff⟩:=nmd (r.f);rw[hff] at xx2 hf;have hf':(ff == 0)=false:=by simpa using hf
  have hf2:(ff != 0)=true:=by simpa using hf
  clear h1 h2 h3 h4 hx hcall e0 hff;unfold RdPost
  go_enter func112,ntmps112
  go_wp2_with fail
  go_ret
  exact⟨rfl,A,HH.out,Fq _ _,fun _ h=>h⟩
theorem readS (b q:Nat) (A:Option Addr) (r:RS) (w:World) (x1:Nm) (x2:Nat) (x3:Int) (h:RdAt w b A r)
 (hx:x3=0->x2<=r.l.length/\0<r.l.length)
 (hcall:∀ c,Row w w.heap.size 1 A r.l.length (dCells r.l)->r.l.length<=c->r.l.length<=70368744177664->Calls prog 110 #[.slice A r.l.length c,.pointer (some ⟨q,0,none⟩)] w fun e w'=>e=.returned (.tuple #[encN x1,.int .i64 (x2:Int),.int .i64 x3])/\w=w') :
 Calls prog 109 #[.pointer (some ⟨b,0,none⟩),.func (Fn.func 110) #[] #[.pointer (some ⟨q,0,none⟩)]] w (RdPost w b A (encN (rstep [] r (x1,x2,x3)).1) (rstep [] r (x1,x2,x3)).2):=by
 by_cases hf:r.f=0
 ·by_cases he:x3=0
  ·obtain⟨hx2,hpos⟩:=hx he
   subst he;have e0:rstep [] r (x1,x2,0)=(x1,⟨r.l.drop x2,r.p+x2,0⟩):=by unfold rstep;rw[if_neg (by simpa using hf),if_neg (by simp)]
   rw[e0];obtain⟨c,h1,h2,h3,h4,h5,h6⟩:=h;have hC:=hcall c h3 h2 h5;obtain⟨l,p,f⟩:=r;simp only at hf hx2 hpos h1 h2 h3 h5 h6 hC ⊢;subst hf;obtain⟨bb,off,rfl,_⟩:=h3.2 hpos;obtain⟨x0,xx1,xx2,xf0,xf1,xf2⟩:=rd_cells h1;have hrr:=h3.rest hx2 h2;have hlen:l.length - x2=(l.drop x2).length:=by rw[List.length_drop]
   have hbb:bb≠b:=by simpa [blk,eq_comm] using h4
   have hg1:(w.setCell ⟨b,0,none⟩ (.slice (if c=x2 then some ⟨bb,off,none⟩ else some ⟨bb,off+x2,none⟩) (l.length - x2) (c - x2))).setCell ⟨b,1,none⟩ (.int .i64 ((p+x2:Nat):Int))=(w.setCell ⟨b,0,none⟩ (.slice (if c=x2 then some ⟨bb,off,none⟩ else some ⟨bb,off+x2,none⟩) (l.length - x2) (c - x2))).setCell ⟨b,1,none⟩ (.int .i64 ((p+x2:Nat):Int)):=rfl;have hbx:=((h1.setAt 0 (.slice (if c=x2 then some ⟨bb,off,none⟩ else some ⟨bb,off+x2,none⟩) (l.length - x2) (c - x2))).setAt 1 (.int .i64 ((p+x2:Nat):Int)));have hfr:Fr [b] w ((w.setCell ⟨b,0,none⟩ (.slice (if c=x2 then some ⟨bb,off,none⟩ else some ⟨bb,off+x2,none⟩) (l.length - x2) (c - x2))).setCell ⟨b,1,none⟩ (.int .i64 ((p+x2:Nat):Int))):=((Fq [b] w).set (p:=⟨b,0,none⟩) (by simp) _).set (p:=⟨b,1,none⟩) (by simp) _
   have hres:∃ A',RdAt ((w.setCell ⟨b,0,none⟩ (.slice (if c=x2 then some ⟨bb,off,none⟩ else some ⟨bb,off+x2,none⟩) (l.length - x2) (c - x2))).setCell ⟨b,1,none⟩ (.int .i64 ((p+x2:Nat):Int))) b A' ⟨l.drop x2,p+x2,0⟩/\Fr [b] w ((w.setCell ⟨b,0,none⟩ (.slice (if c=x2 then some ⟨bb,off,none⟩ else some ⟨bb,off+x2,none⟩) (l.length - x2) (c - x2))).setCell ⟨b,1,none⟩ (.int .i64 ((p+x2:Nat):Int)))/\∀ k∈blk A',k∈blk (some (⟨bb,off,none⟩:Addr)):=by
    refine⟨if c=x2 then some ⟨bb,off,none⟩ else some ⟨bb,off+x2,none⟩,⟨c - x2,by rw[<-hlen];exact hbx,by rw[<-hlen];omega,?_,?_,by rw[<-hlen];omega,by rw[<-hlen];simp only;omega⟩,hfr,blk_if⟩
    ·rw[<-hlen]
     refine (hrr.fr hfr (nlr _) (fun a ha=>?_)).more hfr.size;have:=blk_if (p:=c=x2) (b:=bb) (off:=off) (off':=off+x2) a.block (by rw[ha];simp[blk]);simp[blk] at this ⊢;omega
    ·intro hm
     have:=blk_if _ hm;simp[blk] at this;omega
   have HRES:=Hd hres;have HC:=Hd hC;have hx2i:(x2:Int)<=(l.length:Int):=by omega
   have hci:(l.length:Int)<=(c:Int):=by omega
   clear h1 h2 h3 h4 hC hrr hlen hbb hg1 hbx hfr hres hx hcall hpos e0;unfold RdPost
   go_enter func109,ntmps109
   go_wp2_with ((go_at_call 110;(with_reducible refine HC.out.mono ?_);rintro e w1 ⟨rfl,rfl⟩))
   ·go_ret
    have hr:=HRES.out;simp only[if_pos ‹c=x2›] at hr;rw[show c - x2=0 by omega] at hr;rw[show ((p+x2:Nat):Int)=(p:Int)+(x2:Int) by omega] at hr;exact⟨rfl,hr⟩
   ·go_ret
    have hr:=HRES.out;simp only[if_neg ‹¬ c=x2›] at hr;rw[show ((p+x2:Nat):Int)=(p:Int)+(x2:Int) by omega] at hr;exact⟨rfl,hr⟩
  ·have e0:rstep [] r (x1,x2,x3)=([],⟨r.l,r.p,x3⟩):=by unfold rstep;rw[if_neg (by simpa using hf),if_pos (by simpa using he)]
   rw[e0];obtain⟨c,h1,h2,h3,h4,h5,h6⟩:=h;have hC:=hcall c h3 h2 h5;obtain⟨l,p,f⟩:=r;simp only at hf h1 h2 h3 h5 h6 hC ⊢;subst hf;obtain⟨x0,xx1,xx2,xf0,xf1,xf2⟩:=rd_cells h1;have hfr:Fr [b] w (w.setCell ⟨b,2,none⟩ (.int .i64 x3)):=(Fq [b] w).set (p:=⟨b,2,none⟩) (by simp) _;have hres:RdAt (w.setCell ⟨b,2,none⟩ (.int .i64 x3)) b A ⟨l,p,x3⟩:=⟨c,h1.setAt 2 _,h2,(h3.fr hfr (nlr _) (by rintro a rfl;simp[blk] at h4 ⊢;exact fun e=>h4 e.symm)).more hfr.size,h4,h5,h6⟩;have hne:(x3 == 0)=false:=by simpa using he
   have hne2:(x3 != 0)=true:=by simpa using he
   have HRES:=Hd hres;have HFR:=Hd hfr;have HC:=Hd hC;clear h1 h2 h3 h4 hC hfr hres hx hcall e0;unfold RdPost
   go_enter func109,ntmps109
   go_wp2_with ((go_at_call 110;(with_reducible refine HC.out.mono ?_);rintro e w1 ⟨rfl,rfl⟩))
   go_ret
   exact⟨rfl,A,HRES.out,HFR.out,fun _ h=>h⟩
 ·have e0:rstep [] r (x1,x2,x3)=([],r):=by unfold rstep;rw[if_pos (by simpa using hf)]
  rw[e0];have HH:=Hd h;obtain⟨c,h1,h2,h3,h4,h5,h6⟩:=h;obtain⟨x0,xx1,xx2,_⟩:=rd_cells h1;obtain⟨ff,hff⟩:=nmd (r.f);rw[hff] at xx2 hf;have hf':(ff == 0)=false:=by simpa using hf
  have hf2:(ff != 0)=true:=by simpa using hf
  clear h1 h2 h3 h4 hx hcall e0 hff;unfold RdPost
  go_enter func109,ntmps109
  go_wp2_with fail
  go_ret
  exact⟨rfl,A,HH.out,Fq _ _,fun _ h=>h⟩
theorem readB (b q:Nat) (A:Option Addr) (r:RS) (w:World) (x1:Bool) (x2:Nat) (x3:Int) (h:RdAt w b A r)
 (hx:x3=0->x2<=r.l.length/\0<r.l.length)
 (hcall:∀ c,Row w w.heap.size 1 A r.l.length (dCells r.l)->r.l.length<=c->r.l.length<=70368744177664->Calls prog 257 #[.slice A r.l.length c] w fun e w'=>e=.returned (.tuple #[Value.bool x1,.int .i64 (x2:Int),.int .i64 x3])/\w=w') :
 Calls prog 256 #[.pointer (some ⟨b,0,none⟩),.func (Fn.func 257) #[] #[]] w (RdPost w b A (Value.bool (rstep false r (x1,x2,x3)).1) (rstep false r (x1,x2,x3)).2):=by
 by_cases hf:r.f=0
 ·by_cases he:x3=0
  ·obtain⟨hx2,hpos⟩:=hx he
   subst he;have e0:rstep false r (x1,x2,0)=(x1,⟨r.l.drop x2,r.p+x2,0⟩):=by unfold rstep;rw[if_neg (by simpa using hf),if_neg (by simp)]
   rw[e0];obtain⟨c,h1,h2,h3,h4,h5,h6⟩:=h;have hC:=hcall c h3 h2 h5;obtain⟨l,p,f⟩:=r;simp only at hf hx2 hpos h1 h2 h3 h5 h6 hC ⊢;subst hf;obtain⟨bb,off,rfl,_⟩:=h3.2 hpos;obtain⟨x0,xx1,xx2,xf0,xf1,xf2⟩:=rd_cells h1;have hrr:=h3.rest hx2 h2;have hlen:l.length - x2=(l.drop x2).length:=by rw[List.length_drop]
   have hbb:bb≠b:=by simpa [blk,eq_comm] using h4
   have hg1:(w.setCell ⟨b,0,none⟩ (.slice (if c=x2 then some ⟨bb,off,none⟩ else some ⟨bb,off+x2,none⟩) (l.length - x2) (c - x2))).setCell ⟨b,1,none⟩ (.int .i64 ((p+x2:Nat):Int))=(w.setCell ⟨b,0,none⟩ (.slice (if c=x2 then some ⟨bb,off,none⟩ else some ⟨bb,off+x2,none⟩) (l.length - x2) (c - x2))).setCell ⟨b,1,none⟩ (.int .i64 ((p+x2:Nat):Int)):=rfl;have hbx:=((h1.setAt 0 (.slice (if c=x2 then some ⟨bb,off,none⟩ else some ⟨bb,off+x2,none⟩) (l.length - x2) (c - x2))).setAt 1 (.int .i64 ((p+x2:Nat):Int)));have hfr:Fr [b] w ((w.setCell ⟨b,0,none⟩ (.slice (if c=x2 then some ⟨bb,off,none⟩ else some ⟨bb,off+x2,none⟩) (l.length - x2) (c - x2))).setCell ⟨b,1,none⟩ (.int .i64 ((p+x2:Nat):Int))):=((Fq [b] w).set (p:=⟨b,0,none⟩) (by simp) _).set (p:=⟨b,1,none⟩) (by simp) _
   have hres:∃ A',RdAt ((w.setCell ⟨b,0,none⟩ (.slice (if c=x2 then some ⟨bb,off,none⟩ else some ⟨bb,off+x2,none⟩) (l.length - x2) (c - x2))).setCell ⟨b,1,none⟩ (.int .i64 ((p+x2:Nat):Int))) b A' ⟨l.drop x2,p+x2,0⟩/\Fr [b] w ((w.setCell ⟨b,0,none⟩ (.slice (if c=x2 then some ⟨bb,off,none⟩ else some ⟨bb,off+x2,none⟩) (l.length - x2) (c - x2))).setCell ⟨b,1,none⟩ (.int .i64 ((p+x2:Nat):Int)))/\∀ k∈blk A',k∈blk (some (⟨bb,off,none⟩:Addr)):=by
    refine⟨if c=x2 then some ⟨bb,off,none⟩ else some ⟨bb,off+x2,none⟩,⟨c - x2,by rw[<-hlen];exact hbx,by rw[<-hlen];omega,?_,?_,by rw[<-hlen];omega,by rw[<-hlen];simp only;omega⟩,hfr,blk_if⟩
    ·rw[<-hlen]
     refine (hrr.fr hfr (nlr _) (fun a ha=>?_)).more hfr.size;have:=blk_if (p:=c=x2) (b:=bb) (off:=off) (off':=off+x2) a.block (by rw[ha];simp[blk]);simp[blk] at this ⊢;omega
    ·intro hm
     have:=blk_if _ hm;simp[blk] at this;omega
   have HRES:=Hd hres;have HC:=Hd hC;have hx2i:(x2:Int)<=(l.length:Int):=by omega
   have hci:(l.length:Int)<=(c:Int):=by omega
   clear h1 h2 h3 h4 hC hrr hlen hbb hg1 hbx hfr hres hx hcall hpos e0;unfold RdPost
   go_enter func256,ntmps256
   go_wp2_with ((go_at_call 257;(with_reducible refine HC.out.mono ?_);rintro e w1 ⟨rfl,rfl⟩))
   ·go_ret
    have hr:=HRES.out;simp only[if_pos ‹c=x2›] at hr;rw[show c - x2=0 by omega] at hr;rw[show ((p+x2:Nat):Int)=(p:Int)+(x2:Int) by omega] at hr;exact⟨rfl,hr⟩
   ·go_ret
    have hr:=HRES.out;simp only[if_neg ‹¬ c=x2›] at hr;rw[show ((p+x2:Nat):Int)=(p:Int)+(x2:Int) by omega] at hr;exact⟨rfl,hr⟩
  ·have e0:rstep false r (x1,x2,x3)=(false,⟨r.l,r.p,x3⟩):=by unfold rstep;rw[if_neg (by simpa using hf),if_pos (by simpa using he)]
   rw[e0];obtain⟨c,h1,h2,h3,h4,h5,h6⟩:=h;have hC:=hcall c h3 h2 h5;obtain⟨l,p,f⟩:=r;simp only at hf h1 h2 h3 h5 h6 hC ⊢;subst hf;obtain⟨x0,xx1,xx2,xf0,xf1,xf2⟩:=rd_cells h1;have hfr:Fr [b] w (w.setCell ⟨b,2,none⟩ (.int .i64 x3)):=(Fq [b] w).set (p:=⟨b,2,none⟩) (by simp) _;have hres:RdAt (w.setCell ⟨b,2,none⟩ (.int .i64 x3)) b A ⟨l,p,x3⟩:=⟨c,h1.setAt 2 _,h2,(h3.fr hfr (nlr _) (by rintro a rfl;simp[blk] at h4 ⊢;exact fun e=>h4 e.symm)).more hfr.size,h4,h5,h6⟩;have hne:(x3 == 0)=false:=by simpa using he
   have hne2:(x3 != 0)=true:=by simpa using he
   have HRES:=Hd hres;have HFR:=Hd hfr;have HC:=Hd hC;clear h1 h2 h3 h4 hC hfr hres hx hcall e0;unfold RdPost
   go_enter func256,ntmps256
   go_wp2_with ((go_at_call 257;(with_reducible refine HC.out.mono ?_);rintro e w1 ⟨rfl,rfl⟩))
   go_ret
   exact⟨rfl,A,HRES.out,HFR.out,fun _ h=>h⟩
 ·have e0:rstep false r (x1,x2,x3)=(false,r):=by unfold rstep;rw[if_pos (by simpa using hf)]
  rw[e0];have HH:=Hd h;obtain⟨c,h1,h2,h3,h4,h5,h6⟩:=h;obtain⟨x0,xx1,xx2,_⟩:=rd_cells h1;obtain⟨ff,hff⟩:=nmd (r.f);rw[hff] at xx2 hf;have hf':(ff == 0)=false:=by simpa using hf
  have hf2:(ff != 0)=true:=by simpa using hf
  clear h1 h2 h3 h4 hx hcall e0 hff;unfold RdPost
  go_enter func256,ntmps256
  go_wp2_with fail
  go_ret
  exact⟨rfl,A,HH.out,Fq _ _,fun _ h=>h⟩
def numR (m:Nat) (l:Nm):Int × Nat × Int:=(((parseN l).1:Int),(parseN l).2.1,if (parseN l).2.2=0/\m<(parseN l).1 then 2 else (parseN l).2.2)
def textR (m:Nat) (l:Nm):Nm × Nat × Int :=
 if (parseN l).2.2≠0 then ([],0,(parseN l).2.2) else if m<(parseN l).1 \/ 16777216<(parseN l).1 then ([],0,5) else if l.length - (parseN l).2.1<(parseN l).1 then ([],0,28) else ((l.drop (parseN l).2.1).take (parseN l).1,(parseN l).2.1+(parseN l).1,0)
def flagR (l:Nm):Bool × Nat × Int :=
 if l.length=0 then (false,0,28) else if 1<(l.getD 0 0).toNat then (false,0,3) else (decide ((l.getD 0 0).toNat=1),1,0)
theorem parseN_pos {l:Nm} (h:(parseN l).2.2=0):0<l.length:=by
 rcases Nat.eq_zero_or_pos l.length with h0 | h0
 ·rw[List.eq_nil_of_length_eq_zero h0] at h
  simp[parseN,lastN] at h
 ·exact h0
theorem Number1_any (A:Option Addr) (n c B q m:Nat) (l:Nm) (w:World) (hr:Row w B 1 A n (dCells l)) (hn:n<=70368744177664) (hq:w.cell? ⟨q,0,none⟩=some (.int .i64 (m:Int))) :
 Calls prog 113 #[.slice A n c,.pointer (some ⟨q,0,none⟩)] w fun e w'=>e=.returned (.tuple #[.int .i64 (numR m l).1,.int .i64 ((numR m l).2.1:Int),.int .i64 (numR m l).2.2])/\w=w':=by
 have hp:=Parse_any A n c B l w hr hn;unfold numR;obtain⟨q1,h1⟩:=nmd ((parseN l).1);obtain⟨q2,h2⟩:=nmd ((parseN l).2.1);obtain⟨q3,h3⟩:=nmd ((parseN l).2.2);rw[h1,h2,h3] at hp;rw[h1,h2,h3];have HP:=Hd hp;clear hp h1 h2 h3 hr
 by_cases he:q3=0
 ·subst he
  by_cases hm:m<q1
  ·have hmi:(m:Int)<(q1:Int):=by omega
   simp only[hm,and_self,if_true]
   go_enter func113,ntmps113
   go_wp2_with ((go_at_call 111;(with_reducible refine HP.out.mono ?_);rintro e w1 ⟨rfl,rfl⟩))
   go_ret3
   exact⟨rfl,rfl⟩
  ·have hmi:¬ (m:Int)<(q1:Int):=by omega
   simp only[hm,and_false,if_false]
   go_enter func113,ntmps113
   go_wp2_with ((go_at_call 111;(with_reducible refine HP.out.mono ?_);rintro e w1 ⟨rfl,rfl⟩))
   go_ret3
   exact⟨rfl,rfl⟩
 ·have he':(q3 == 0)=false:=by simpa using he
  simp only[he,false_and,if_false]
  go_enter func113,ntmps113
  go_wp2_with ((go_at_call 111;(with_reducible refine HP.out.mono ?_);rintro e w1 ⟨rfl,rfl⟩))
  go_ret3
  exact⟨rfl,rfl⟩
def rdNum (m:Nat) (r:RS):Int × RS:=rstep 0 r (numR m r.l)
def rdText (m:Nat) (r:RS):Nm × RS:=rstep [] r (textR m r.l)
def rdFlag (r:RS):Bool × RS:=rstep false r (flagR r.l)
theorem RdPost.of_alloc {w w1 w':World} {b:Nat} {A:Option Addr} {v:Value} {r:RS} {e:Ending} (h:RdPost w1 b A v r e w') (hf:Fr [] w w1):RdPost w b A v r e w':=by
 obtain⟨h1,A',h2,h3,h4⟩:=h;exact⟨h1,A',h2,(hf.mono (by simp)).then h3,h4⟩
theorem numR_ok {m:Nat} {l:Nm} (h:(numR m l).2.2=0):(numR m l).2.1<=l.length/\0<l.length:=by
 unfold numR at h ⊢;simp only at h ⊢
 by_cases hc:(parseN l).2.2=0/\m<(parseN l).1
 ·rw[if_pos hc] at h;simp at h
 ·rw[if_neg hc] at h
  exact⟨(parseN_size l).1,parseN_pos h⟩
theorem textR_ok {m:Nat} {l:Nm} (h:(textR m l).2.2=0):(textR m l).2.1<=l.length/\0<l.length:=by
 unfold textR at h ⊢
 by_cases h1:(parseN l).2.2≠0
 ·rw[if_pos h1] at h;exact absurd h h1
 ·rw[if_neg h1] at h ⊢
  have hp:=parseN_pos (l:=l) (by simpa using h1)
  by_cases h2:m<(parseN l).1 \/ 16777216<(parseN l).1
  ·rw[if_pos h2] at h;simp at h
  ·rw[if_neg h2] at h ⊢
   by_cases h3:l.length - (parseN l).2.1<(parseN l).1
   ·rw[if_pos h3] at h;simp at h
   ·rw[if_neg h3]
    have:=(parseN_size l).1;simp only;omega
theorem flagR_ok {l:Nm} (h:(flagR l).2.2=0):(flagR l).2.1<=l.length/\0<l.length:=by
 unfold flagR at h ⊢
 by_cases h1:l.length=0
 ·rw[if_pos h1] at h;simp at h
 ·rw[if_neg h1] at h ⊢
  by_cases h2:1<(l.getD 0 0).toNat
  ·rw[if_pos h2] at h;simp at h
  ·rw[if_neg h2];simp only;omega
theorem Number_rd (b m:Nat) (A:Option Addr) (r:RS) (w:World) (h:RdAt w b A r):Calls prog 50 #[.pointer (some ⟨b,0,none⟩),.int .i64 (m:Int)] w (RdPost w b A (.int .i64 (rdNum m r).1) (rdNum m r).2):=by
 obtain⟨w1,hw1⟩:=nmd (w.alloc (.cells #[.int .i64 (m:Int)] 3));have hf1:Fr [] w w1:=by rw[<-hw1];exact (Fq [] w).alloc _
 have hq:w1.cell? ⟨w.heap.size,0,none⟩=some (.int .i64 (m:Int)):=by rw[<-hw1];exact (BoxN.new w _ _).c 0
 have h1:=h.fr hf1 (by simp) (by simp);have hR:=readI b w.heap.size A r w1 (numR m r.l).1 (numR m r.l).2.1 (numR m r.l).2.2 h1 numR_ok (fun c hr _ hn=>Number1_any A _ c _ _ m r.l w1 hr hn hq);have HR:=Hd hR;have HW:=Hd hw1;have HF:=Hd hf1;clear hR hw1 hf1 hq h1 h;unfold rdNum
 go_enter func50,ntmps50
 go_wp2_with fail
 rw[HW.out];(with_reducible refine HR.out.mono ?_);intro e w2 h2;obtain⟨rfl,A',h3⟩:=h2.of_alloc HF.out;have H3:=Hd h3;clear h3 h2
 go_wp2_with fail
 go_ret
 exact⟨rfl,A',H3.out⟩
theorem Row.part {w:World} {B n s k c b off:Nat} {l:Nm} (h:Row w B 1 (some ⟨b,off,none⟩) n (dCells l)) (hs:s+k<=n) (hc:n<=c):Row w B 1 (if c=s then some ⟨b,off,none⟩ else some ⟨b,off+s,none⟩) k (dCells ((l.drop s).take k)):=by
 have hl:l.length=n:=by have:=h.1;rw[dcells_len] at this;omega
 have hr:=h.rest (s:=s) (c:=c) (by omega) hc;refine⟨by rw[dcells_len,List.length_take,List.length_drop];omega,fun hk=>?_⟩;obtain⟨b',off',e,hb,hcc⟩:=hr.2 (by omega);refine⟨b',off',e,hb,fun j u hu=>hcc j u ?_⟩;have hd:dCells ((l.drop s).take k)=(dCells (l.drop s)).take k:=by unfold dCells;rw[List.map_take]
 rw[hd] at hu;have hj:j<k:=by have:=(lgs.1 hu).1;rw[List.length_take] at this;omega
 rwa [List.getElem?_take_of_lt hj] at hu
theorem Text1_any (A:Option Addr) (n c B q m:Nat) (l:Nm) (w:World) (hr:Row w B 1 A n (dCells l)) (hnc:n<=c) (hn:n<=70368744177664) (hq:w.cell? ⟨q,0,none⟩=some (.int .i64 (m:Int))) :
 Calls prog 110 #[.slice A n c,.pointer (some ⟨q,0,none⟩)] w fun e w'=>e=.returned (.tuple #[encN (textR m l).1,.int .i64 ((textR m l).2.1:Int),.int .i64 (textR m l).2.2])/\w=w':=by
 have hp:=Parse_any A n c B l w hr hn;have hl:l.length=n:=by have:=hr.1;rw[dcells_len] at this;omega
 have hps:=(parseN_size l).1;have hpp:=parseN_pos (l:=l);unfold textR;obtain⟨q1,h1⟩:=nmd ((parseN l).1);obtain⟨q2,h2⟩:=nmd ((parseN l).2.1);obtain⟨q3,h3⟩:=nmd ((parseN l).2.2);rw[h1,h2,h3] at hp;rw[h2,hl] at hps;rw[h3,hl] at hpp;rw[h1,h2,h3,hl];have HP:=Hd hp;have HR:=Hd hr;clear hp h1 h2 h3 hr hl
 by_cases he:q3=0
 ·subst he
  have hpos:=hpp rfl;clear hpp;rw[if_neg (by simp)]
  by_cases hm:m<q1 \/ 16777216<q1
  ·rw[if_pos hm]
   by_cases hm1:m<q1
   ·have hmi:(m:Int)<(q1:Int):=by omega
    clear hm
    go_enter func110,ntmps110
    go_wp2_with ((go_at_call 111;(with_reducible refine HP.out.mono ?_);rintro e w1 ⟨rfl,rfl⟩))
    go_ret3
    exact⟨rfl,rfl⟩
   ·have hmi:¬ (m:Int)<(q1:Int):=by omega
    have hmj:(16777216:Int)<(q1:Int):=by omega
    clear hm
    go_enter func110,ntmps110
    go_wp2_with ((go_at_call 111;(with_reducible refine HP.out.mono ?_);rintro e w1 ⟨rfl,rfl⟩))
    go_ret3
    exact⟨rfl,rfl⟩
  ·rw[if_neg hm]
   have hmi:¬ (m:Int)<(q1:Int):=by omega
   have hmj:¬ (16777216:Int)<(q1:Int):=by omega
   have hq1:q1<=16777216:=by omega
   clear hm
   by_cases ht:n - q2<q1
   ·rw[if_pos ht]
    have hti:(n:Int) - (q2:Int)<(q1:Int):=by omega
    go_enter func110,ntmps110
    go_wp2_with ((go_at_call 111;(with_reducible refine HP.out.mono ?_);rintro e w1 ⟨rfl,rfl⟩))
    go_ret3
    exact⟨rfl,rfl⟩
   ·rw[if_neg ht]
    have hti:¬ (n:Int) - (q2:Int)<(q1:Int):=by omega
    obtain⟨bb,off,rfl,_⟩:=HR.out.2 hpos;have hpt:=HR.out.part (s:=q2) (k:=q1) (c:=c) (by omega) hnc;have hcv:=run_row_str (P:=prog) hpt 49 5 underlying49 underlying5 9 underlying9 (c - q2);have i1:(q2:Int)<=(q2:Int)+(q1:Int):=by omega
    have i2:(q2:Int)+(q1:Int)<=(c:Int):=by omega
    obtain⟨str,hs,_,_⟩:=str_of ((l.drop q2).take q1);rw[hs] at hcv;rw[hs];clear ht hpt
    by_cases hcq:c=q2
    ·have h0:q1=0:=by omega
     rw[if_pos hcq,show c - q2=0 by omega,h0] at hcv;clear h0;subst hcq
     go_enter func110,ntmps110
     go_wp2_with ((go_at_call 111;(with_reducible refine HP.out.mono ?_);rintro e w1 ⟨rfl,rfl⟩))
     go_ret3
     exact⟨rfl,rfl⟩
    ·rw[if_neg hcq] at hcv
     go_enter func110,ntmps110
     go_wp2_with ((go_at_call 111;(with_reducible refine HP.out.mono ?_);rintro e w1 ⟨rfl,rfl⟩))
     go_ret3
     exact⟨rfl,rfl⟩
 ·have he':(q3 == 0)=false:=by simpa using he
  have he2:(q3 != 0)=true:=by simpa using he
  rw[if_pos he];clear hpp;have e0:encN []=.string ⟨#[]⟩:=rfl;rw[e0]
  go_enter func110,ntmps110
  go_wp2_with ((go_at_call 111;(with_reducible refine HP.out.mono ?_);rintro e w1 ⟨rfl,rfl⟩))
  go_ret3
  exact⟨rfl,rfl⟩
theorem Text_rd (b m:Nat) (A:Option Addr) (r:RS) (w:World) (h:RdAt w b A r):Calls prog 49 #[.pointer (some ⟨b,0,none⟩),.int .i64 (m:Int)] w (RdPost w b A (encN (rdText m r).1) (rdText m r).2):=by
 obtain⟨w1,hw1⟩:=nmd (w.alloc (.cells #[.int .i64 (m:Int)] 3));have hf1:Fr [] w w1:=by rw[<-hw1];exact (Fq [] w).alloc _
 have hq:w1.cell? ⟨w.heap.size,0,none⟩=some (.int .i64 (m:Int)):=by rw[<-hw1];exact (BoxN.new w _ _).c 0
 have h1:=h.fr hf1 (by simp) (by simp);have hR:=readS b w.heap.size A r w1 (textR m r.l).1 (textR m r.l).2.1 (textR m r.l).2.2 h1 textR_ok (fun c hr hc hn=>Text1_any A _ c _ _ m r.l w1 hr hc hn hq);have HR:=Hd hR;have HW:=Hd hw1;have HF:=Hd hf1;clear hR hw1 hf1 hq h1 h;unfold rdText
 go_enter func49,ntmps49
 go_wp2_with fail
 rw[HW.out];(with_reducible refine HR.out.mono ?_);intro e w2 h2;obtain⟨rfl,A',h3⟩:=h2.of_alloc HF.out;have H3:=Hd h3;clear h3 h2;obtain⟨str,hs,_,_⟩:=str_of (rstep [] r ((textR m r.l).1,(textR m r.l).2.1,(textR m r.l).2.2)).1
 go_wp2_with fail
 go_ret
 exact⟨congrArg Ending.returned hs.symm,A',H3.out⟩
theorem Flag1_any (A:Option Addr) (n c B:Nat) (l:Nm) (w:World) (hr:Row w B 1 A n (dCells l)) (hn:n<=70368744177664) :
 Calls prog 257 #[.slice A n c] w fun e w'=>e=.returned (.tuple #[.bool (flagR l).1,.int .i64 ((flagR l).2.1:Int),.int .i64 (flagR l).2.2])/\w=w':=by
 have hl:l.length=n:=by have:=hr.1;rw[dcells_len] at this;omega
 unfold flagR;rw[hl]
 by_cases h0:n=0
 ·rw[if_pos h0]
  have h0':((n:Int) == 0)=true:=by simp;omega
  clear h0 hl hr
  go_enter func257,ntmps257
  go_wp2_with fail
  go_ret3
  exact⟨rfl,rfl⟩
 ·rw[if_neg h0]
  have h0':((n:Int) == 0)=false:=by simp;omega
  obtain⟨b,off,rfl,hc⟩:=hr.byte (k:=0) (by omega);rw[Nat.add_zero] at hc;obtain⟨x,hx⟩:=nmd ((l.getD 0 0).toNat);rw[hx] at hc ⊢;have hn0:(0:Int)<(n:Int):=by omega
  clear h0 hl hr hx
  by_cases h1:1<x
  ·rw[if_pos h1]
   have h1':(1:Int)<(x:Int):=by omega
   go_enter func257,ntmps257
   go_wp2_with fail
   go_ret3
   exact⟨rfl,rfl⟩
  ·rw[if_neg h1]
   have h1':¬ (1:Int)<(x:Int):=by omega
   by_cases h2:x=1
   ·have h2':((x:Int) == 1)=true:=by simp;omega
    rw[show decide (x=1)=true by simp[h2]];clear h2 h1
    go_enter func257,ntmps257
    go_wp2_with fail
    go_ret3
    exact⟨rfl,rfl⟩
   ·have h2':((x:Int) == 1)=false:=by simp;omega
    rw[show decide (x=1)=false by simp[h2]];clear h2 h1
    go_enter func257,ntmps257
    go_wp2_with fail
    go_ret3
    exact⟨rfl,rfl⟩
theorem Flag_rd (b:Nat) (A:Option Addr) (r:RS) (w:World) (h:RdAt w b A r):Calls prog 217 #[.pointer (some ⟨b,0,none⟩)] w (RdPost w b A (.bool (rdFlag r).1) (rdFlag r).2):=by
 have hR:=readB b 0 A r w (flagR r.l).1 (flagR r.l).2.1 (flagR r.l).2.2 h flagR_ok (fun c hr _ hn=>Flag1_any A _ c _ r.l w hr hn);have HR:=Hd hR;clear hR h;unfold rdFlag
 go_enter func217,ntmps217
 go_wp2_with fail
 (with_reducible refine HR.out.mono ?_);intro e w2 h2;obtain⟨rfl,A',h3⟩:=h2;have H3:=Hd h3;clear h3
 go_wp2_with fail
 go_ret
 exact⟨rfl,A',H3.out⟩
theorem Rest_rd (b:Nat) (A:Option Addr) (r:RS) (w:World) (h:RdAt w b A r):Calls prog 216 #[.pointer (some ⟨b,0,none⟩)] w fun e w'=>e=.returned (.int .i64 (r.l.length:Int))/\w=w':=by
 obtain⟨c,h1,_⟩:=h;obtain⟨x0,_⟩:=rd_cells h1;clear h1
 go_enter func216,ntmps216
 go_wp2_with fail
 go_ret
 exact⟨rfl,rfl⟩
def rdClose (r:RS):Int:=if r.f≠0 then r.f else if 0<r.l.length then 5 else 0
theorem Close_rd (b:Nat) (A:Option Addr) (r:RS) (w:World) (h:RdAt w b A r):Calls prog 52 #[.pointer (some ⟨b,0,none⟩)] w fun e w'=>e=.returned (.int .i64 (rdClose r))/\w=w':=by
 obtain⟨c,h1,_⟩:=h;obtain⟨x0,_,x2,_⟩:=rd_cells h1;unfold rdClose;obtain⟨f,hf⟩:∃ f,r.f=f:=⟨_,rfl⟩;obtain⟨n,hn⟩:=nmd (r.l.length);rw[hf] at x2;rw[hn] at x0;rw[hf,hn];clear h1 hf hn
 by_cases h0:f=0
 ·subst h0
  rw[if_neg (by simp)]
  by_cases h1:0<n
  ·rw[if_pos h1]
   have h1':(0:Int)<(n:Int):=by omega
   go_enter func52,ntmps52
   go_wp2_with fail
   go_ret
   exact⟨rfl,rfl⟩
  ·rw[if_neg h1]
   have h1':¬ (0:Int)<(n:Int):=by omega
   go_enter func52,ntmps52
   go_wp2_with fail
   go_ret
   exact⟨rfl,rfl⟩
 ·rw[if_pos h0]
  have h1':(f == 0)=false:=by simpa using h0
  have h2':(f != 0)=true:=by simpa using h0
  go_enter func52,ntmps52
  go_wp2_with fail
  go_ret
  exact⟨rfl,rfl⟩
theorem NewReader_any (A:Option Addr) (n c B:Nat) (l:Nm) (w:World) (hr:Row w B 1 A n (dCells l)) (hsp:∀ a,A=some a->a.spot=none) (hn:n<=70368744177664):Calls prog 47 #[.slice A n c] w fun e w'=>∃ b A',e=.returned (.pointer (some ⟨b,0,none⟩))/\RdAt w' b A' ⟨l,0,0⟩/\Fr [] w w'/\w.heap.size<=b/\∀ k∈blk A',w.heap.size<=k:=by
 have hl:l.length=n:=by have:=hr.1;rw[dcells_len] at this;omega
 have hC:=Clone8_any A n c B l w hr hsp hn;have HC:=Hd hC;have HL:=Hd hl;clear hC hr hsp hl
 go_enter func47,ntmps47
 go_wp2_with ((go_at_call 108;(with_reducible refine HC.out.mono ?_);rintro e w2 ⟨A2,c2,rfl,ho,hf,hs⟩;have HO:=Hd ho;have HF:=Hd hf;have HS:=Hd hs;clear ho hf hs))
 go_ret
 have hlt:=HO.out.lt;have hal:Fr [] w2 (w2.alloc (.cells #[.slice A2 l.length c2,.int .i64 0,.int .i64 0] 214)):=(Fq [] w2).alloc _;refine⟨w2.heap.size,A2,rfl,⟨c2,BoxN.new w2 _ _,HO.out.le_cap,(HO.out.row.fr hal (nlr _) (by simp)).more hal.size,fun hm=>by have:=hlt _ hm;omega,by rw[HL.out];exact hn,by simp only;rw[HL.out];omega⟩,HF.out.then hal,HF.out.size,HS.out⟩
end Go.Proofs.YtlpmiimgacfmkaaGreatDoor
