/- Receipts read and written, in plain Lean: what is read is what its encoding was. -/
import Derived.LoopTactic
import Derived.Test.YtlpmiimgacfmkaaGreatDoorROb4
import Derived.Test.YtlpmiimgacfmkaaGreatDoorRHi5
set_option linter.all false
namespace Go.Proofs.YtlpmiimgacfmkaaGreatDoor
open Go.RowKit
theorem canon:∀ (l:Nm) (M:Nat),lastN l M<M→lastN l M<l.length→(0<lastN l M→(l.getD (lastN l M) 0).toNat≠0)→encU (numV (l.take (lastN l M+1)))=l.take (lastN l M+1)
 | [],M,_,h,_=>by simp at h
 | c::r,0,h,_,_=>by simp[lastN] at h
 | c::r,M+1,h1,h2,h3=>by
  rw[lastN] at h1 h2 h3 ⊢
  by_cases hc:128≤c.toNat
  ·rw[if_pos hc] at h1 h2 h3 ⊢
   have h3':(r.getD (lastN r M) 0).toNat≠0:=by simpa using h3 (by omega)
   have ih:=canon r M (by omega) (by simpa using h2) (fun _=>h3')
   rw[List.take_succ_cons,numV]
   have hp:0<numV (r.take (lastN r M+1)):=by
    rcases Nat.eq_zero_or_pos (numV (r.take (lastN r M+1))) with h0 | h0
    ·exfalso
     rw[h0,encU_lo (by omega)] at ih
     cases r with
     | nil=>simp at h2
     | cons b r' =>
      rw[List.take_succ_cons] at ih
      injection ih with e1 e2
      have hz:lastN (b::r') M=0:=by
       have h4:=congrArg List.length e2
       simp at h4 h2
       omega
      rw[hz] at h3'
      apply h3'
      rw[←e1]
      rfl
    ·exact h0
   have hc2:=c.toNat_lt
   rw[encU_hi (by omega)]
   have e1:(numV (r.take (lastN r M+1))*128+c.toNat % 128) / 128=numV (r.take (lastN r M+1)):=by omega
   have e2:(numV (r.take (lastN r M+1))*128+c.toNat % 128) % 128+128=c.toNat:=by omega
   rw[e1,e2,ih]
   congr 1
   exact UInt8.ofNat_toNat
  ·rw[if_neg hc]
   rw[List.take_succ_cons,List.take_zero,numV,numV]
   rw[encU_lo (by omega),show 0*128+c.toNat % 128=c.toNat by omega]
   congr 1
   exact UInt8.ofNat_toNat
theorem parse_enc {l:Nm} (h:(parseN l).2.2=0):l.take (parseN l).2.1=encU (parseN l).1:=by
 unfold parseN at h ⊢
 split at h
 ·simp at h
 ·rename_i h1
  split at h
  ·simp at h
  ·rename_i h2
   split at h
   ·simp at h
   ·rename_i h3
    rw[if_neg h1,if_neg h2,if_neg h3]
    have h4:=lastN_le l 9
    exact (canon l 9 (by omega) (by omega) (fun h0 h5=>h3 ⟨h0,h5⟩)).symm
def Ate (r:RS) (x:Nm) (r':RS):Prop:=r'.f=0→r.f=0∧r.l=x++r'.l
theorem Ate.refl (r:RS):Ate r [] r:=fun h=>⟨h,rfl⟩
theorem Ate.trans {a b c:RS} {x y:Nm} (h:Ate a x b) (k:Ate b y c):Ate a (x++y) c:=fun hf=>by
 obtain⟨h1,h2⟩:=k hf
 obtain⟨h3,h4⟩:=h h1
 exact⟨h3,by rw[h4,h2,List.append_assoc]⟩
theorem ate_num (m:Nat) (r:RS):Ate r (encU (rdNum m r).1.toNat) (rdNum m r).2:=by
 intro h
 unfold rdNum rstep at h ⊢
 by_cases h0:r.f≠0
 ·rw[if_pos h0] at h;exact absurd h h0
 ·rw[if_neg h0] at h ⊢
  by_cases h1:(numR m r.l).2.2≠0
  ·rw[if_pos h1] at h;exact absurd h h1
  ·rw[if_neg h1]
   refine⟨by simpa using h0,?_⟩
   have h2:(numR m r.l).2.2=0:=by simpa using h1
   have h3:(parseN r.l).2.2=0:=by
    unfold numR at h2
    simp only at h2
    split at h2
    ·simp at h2
    ·exact h2
   show r.l=encU ((parseN r.l).1:Int).toNat++r.l.drop (parseN r.l).2.1
   rw[Int.toNat_natCast,←parse_enc h3,List.take_append_drop]
theorem ate_text (m:Nat) (r:RS):Ate r (encT (rdText m r).1) (rdText m r).2:=by
 intro h
 unfold rdText rstep at h ⊢
 by_cases h0:r.f≠0
 ·rw[if_pos h0] at h;exact absurd h h0
 ·rw[if_neg h0] at h ⊢
  by_cases h1:(textR m r.l).2.2≠0
  ·rw[if_pos h1] at h;exact absurd h h1
  ·rw[if_neg h1]
   refine⟨by simpa using h0,?_⟩
   have h2:(textR m r.l).2.2=0:=by simpa using h1
   unfold textR at h2 ⊢
   split at h2
   ·simp at h2;contradiction
   ·rename_i g1
    split at h2
    ·simp at h2
    ·rename_i g2
     split at h2
     ·simp at h2
     ·rename_i g3
      rw[if_neg g1,if_neg g2,if_neg g3]
      have g0:(parseN r.l).2.2=0:=by simpa using g1
      show r.l=encT ((r.l.drop (parseN r.l).2.1).take (parseN r.l).1)++r.l.drop ((parseN r.l).2.1+(parseN r.l).1)
      unfold encT
      rw[List.length_take,List.length_drop,Nat.min_eq_left (by omega),←parse_enc g0,List.append_assoc,←List.drop_drop,List.take_append_drop,List.take_append_drop]
theorem ate_if {b:Bool} {α:Type} {z:α} {r:RS} {x:α × RS} {e:α→Nm} (h:Ate r (e x.1) x.2):Ate r (if b then e (if b then x else (z,r)).1 else []) (if b then x else (z,r)).2:=by
 cases b
 ·exact Ate.refl r
 ·exact h
theorem ate_name (u:Usage) (k:Int) (r:RS):Ate r ((((if u.owner then encT (decF u k r).1.owner else [])++(if u.number then encU (decF u k r).1.number.toNat else []))++(if u.index then encU (decF u k r).1.index.toNat else []))++(if u.text then encT (decF u k r).1.text else [])) (decF u k r).2:=by
 unfold decF
 exact (((ate_if (e:=encT) (ate_text _ _)).trans (ate_if (e:=fun n:Int=>encU n.toNat) (ate_num _ _))).trans (ate_if (e:=fun n:Int=>encU n.toNat) (ate_num _ _))).trans (ate_if (e:=encT) (ate_text _ _))
theorem close_zero {r:RS} (h:rdClose r=0):r.f=0∧r.l=[]:=by
 unfold rdClose at h
 split at h
 ·rename_i h1;exact absurd h h1
 ·rename_i h1
  split at h
  ·simp at h
  ·rename_i h2
   exact⟨by simpa using h1,List.eq_nil_of_length_eq_zero (by omega)⟩
theorem dec_name {s:Nm} (h:(decO s).2=0):encOn (decO s).1=s∧checkO (decO s).1=0:=by
 unfold decO at h ⊢
 split at h
 ·simp at h
 ·rename_i h1
  rw[if_neg h1]
  have h2:rdClose (decN s).2=0∧checkO (decN s).1=0:=by
   constructor
   ·rcases Int.decEq (rdClose (decN s).2) 0 with h3 | h3
    ·exact absurd (Or.inl h3) h1
    ·exact h3
   ·rcases Int.decEq (checkO (decN s).1) 0 with h3 | h3
    ·exact absurd (Or.inr h3) h1
    ·exact h3
  refine⟨?_,h2.2⟩
  have h4:=close_zero h2.1
  have hk:=ate_num 20 ⟨s,0,0⟩
  have hn:=ate_name (us (rdNum 20 ⟨s,0,0⟩).1.toNat) (rdNum 20 ⟨s,0,0⟩).1 (rdNum 20 ⟨s,0,0⟩).2
  have h5:=((hk.trans hn) h4.1).2
  rw[show (decF (us (rdNum 20 ⟨s,0,0⟩).1.toNat) (rdNum 20 ⟨s,0,0⟩).1 (rdNum 20 ⟨s,0,0⟩).2).2.l=[] from h4.2,List.append_nil] at h5
  unfold encOn encOu
  refine Eq.trans ?_ h5.symm
  simp only[List.append_assoc]
  rfl
structure PF where
 idx:Int
 text:Nm
 path:List Nm
structure RC where
 nm:ON
 at_:Int
 len:Int
 ps:List PF
def rdPath:Nat→RS→List Nm→Bool × List Nm × RS
 | 0,r,a=>(true,a,r)
 | k+1,r,a=>if (rdText 32 r).1.length=32 then rdPath k (rdText 32 r).2 (a++[(rdText 32 r).1]) else (false,[],(rdText 32 r).2)
def pfI (r:RS):Int × RS:=rdNum 9223372036854775807 r
def pfT (r:RS):Nm × RS:=rdText 16777216 (pfI r).2
def pfN (r:RS):Int × RS:=rdNum 64 (pfT r).2
def rdPf (r:RS):Bool × PF × RS:=((rdPath (pfN r).1.toNat (pfN r).2 []).1,⟨(pfI r).1,(pfT r).1,(rdPath (pfN r).1.toNat (pfN r).2 []).2.1⟩,(rdPath (pfN r).1.toNat (pfN r).2 []).2.2)
def rdPfs:Nat→RS→List PF→Bool × List PF × RS
 | 0,r,a=>(true,a,r)
 | k+1,r,a=>if (rdPf r).1 then rdPfs k (rdPf r).2.2 (a++[(rdPf r).2.1]) else (false,[],(rdPf r).2.2)
def encPf (p:PF):Nm:=encU p.idx.toNat++(encT p.text++(encU p.path.length++p.path.flatMap encT))
def encRc (c:RC):Nm:=encT (encOn c.nm)++(encU c.at_.toNat++(encU c.len.toNat++(encU c.ps.length++c.ps.flatMap encPf)))
def PF.ok (p:PF):Prop:=0≤p.idx∧p.idx≤9223372036854775807∧p.path.length≤64∧p.text.length≤16777216∧∀ d∈p.path,d.length=32
theorem path_law:∀ (k:Nat) (r:RS) (a:List Nm),(rdPath k r a).1=true→∃ l,(rdPath k r a).2.1=a++l∧l.length=k∧(∀ d∈l,d.length=32)∧Ate r (l.flatMap encT) (rdPath k r a).2.2
 | 0,r,a,_=>⟨[],by simp[rdPath],rfl,by simp,Ate.refl r⟩
 | k+1,r,a,h=>by
  rw[rdPath] at h ⊢
  by_cases h1:(rdText 32 r).1.length=32
  ·rw[if_pos h1] at h ⊢
   obtain⟨l,e,hl,h32,ha⟩:=path_law k _ _ h
   refine⟨(rdText 32 r).1::l,by rw[e];simp,by simp[hl],?_,?_⟩
   ·intro d hd
    rcases List.mem_cons.1 hd with rfl | hd
    ·exact h1
    ·exact h32 d hd
   ·rw[List.flatMap_cons]
    exact (ate_text 32 r).trans ha
  ·rw[if_neg h1] at h
   simp at h
theorem pf_law {r:RS} (h:(rdPf r).1=true):(rdPf r).2.1.ok∧Ate r (encPf (rdPf r).2.1) (rdPf r).2.2:=by
 obtain⟨l,e,hl,h32,ha⟩:=path_law (pfN r).1.toNat (pfN r).2 [] h
 rw[List.nil_append] at e
 have hb:=rdNum_le 64 (pfT r).2
 have hi:=rdNum_le 9223372036854775807 r
 have hn:((rdPf r).2.1.path.length:Int)=(pfN r).1:=by
  show ((rdPath (pfN r).1.toNat (pfN r).2 []).2.1.length:Int)=_
  rw[e,hl]
  have:(0:Int)≤(pfN r).1:=hb.1
  omega
 refine⟨⟨hi.1,hi.2,?_,rdText_len 16777216 (pfI r).2,?_⟩,?_⟩
 ·have:(pfN r).1≤64:=hb.2
  omega
 ·show ∀ d∈(rdPath (pfN r).1.toNat (pfN r).2 []).2.1,d.length=32
  rw[e];exact h32
 ·unfold encPf
  refine (ate_num _ r).trans ((ate_text _ _).trans ?_)
  have h5:=(ate_num 64 (pfT r).2).trans ha
  have h6:(rdPf r).2.1.path.length=(rdNum 64 (pfT r).2).1.toNat:=by
   show (rdPath (pfN r).1.toNat (pfN r).2 []).2.1.length=_
   rw[e,hl];rfl
  have h7:(rdPf r).2.1.path=l:=e
  rw[h6,h7]
  exact h5
theorem pfs_law:∀ (k:Nat) (r:RS) (a:List PF),(rdPfs k r a).1=true→∃ l,(rdPfs k r a).2.1=a++l∧l.length=k∧(∀ p∈l,p.ok)∧Ate r (l.flatMap encPf) (rdPfs k r a).2.2
 | 0,r,a,_=>⟨[],by simp[rdPfs],rfl,by simp,Ate.refl r⟩
 | k+1,r,a,h=>by
  rw[rdPfs] at h ⊢
  cases h1:(rdPf r).1 with
  | false=>rw[h1] at h;simp at h
  | true =>
   rw[h1] at h
   simp only[if_true] at h ⊢
   obtain⟨l,e,hl,hok,ha⟩:=pfs_law k _ _ h
   have hp:=pf_law h1
   refine⟨(rdPf r).2.1::l,by rw[e];simp,by simp[hl],?_,?_⟩
   ·intro d hd
    rcases List.mem_cons.1 hd with rfl | hd
    ·exact hp.1
    ·exact hok d hd
   ·rw[List.flatMap_cons]
    exact hp.2.trans ha
def dT (s:Nm):Nm × RS:=rdText 16777216 ⟨s,0,0⟩
def dA (s:Nm):Int × RS:=rdNum 9223372036854775807 (dT s).2
def dL (s:Nm):Int × RS:=rdNum 9223372036854775807 (dA s).2
def dK (s:Nm):Int × RS:=rdNum 4096 (dL s).2
def dP (s:Nm):Bool × List PF × RS:=rdPfs (dK s).1.toNat (dK s).2 []
def decR (s:Nm):Option RC :=
 if (decO (dT s).1).2≠0 then none else if (dP s).1=false then none else if rdClose (dP s).2.2≠0 then none else some ⟨(decO (dT s).1).1,(dA s).1,(dL s).1,(dP s).2.1⟩
def RC.ok (c:RC):Prop:=checkO c.nm=0∧0≤c.at_∧c.at_≤9223372036854775807∧0≤c.len∧c.len≤9223372036854775807∧c.ps.length≤4096∧∀ p∈c.ps,p.ok
theorem dec_enc {s:Nm} {c:RC} (h:decR s=some c):encRc c=s∧c.ok:=by
 unfold decR at h
 split at h
 ·simp at h
 ·rename_i h1
  split at h
  ·simp at h
  ·rename_i h2
   split at h
   ·simp at h
   ·rename_i h3
    injection h with h
    subst h
    have g1:(decO (dT s).1).2=0:=by simpa using h1
    have g2:(dP s).1=true:=by simpa using h2
    have g3:rdClose (dP s).2.2=0:=by simpa using h3
    obtain⟨l,e,hl,hok,ha⟩:=pfs_law (dK s).1.toNat (dK s).2 [] g2
    rw[List.nil_append] at e
    obtain⟨n1,n2⟩:=dec_name g1
    have hA:=rdNum_le 9223372036854775807 (dT s).2
    have hL:=rdNum_le 9223372036854775807 (dA s).2
    have hK:=rdNum_le 4096 (dL s).2
    have e':(dP s).2.1=l:=e
    have hk:l.length=(rdNum 4096 (dL s).2).1.toNat:=hl
    have hc:=close_zero g3
    refine⟨?_,n2,hA.1,hA.2,hL.1,hL.2,?_,?_⟩
    ·unfold encRc
     show encT (encOn (decO (dT s).1).1)++(encU (dA s).1.toNat++(encU (dL s).1.toNat++(encU (dP s).2.1.length++(dP s).2.1.flatMap encPf)))=s
     rw[n1,e',hk]
     have h4:=((ate_text 16777216 ⟨s,0,0⟩).trans ((ate_num _ (dT s).2).trans ((ate_num _ (dA s).2).trans ((ate_num 4096 (dL s).2).trans ha)))) hc.1
     have h5:s=_++(rdPfs (dK s).1.toNat (dK s).2 []).2.2.l:=h4.2
     rw[show (rdPfs (dK s).1.toNat (dK s).2 []).2.2.l=[] from hc.2,List.append_nil] at h5
     exact h5.symm
    ·show (dP s).2.1.length≤4096
     rw[e',hk]
     omega
    ·show ∀ p∈(dP s).2.1,p.ok
     rw[e'];exact hok
set_option maxRecDepth 100000
set_option maxHeartbeats 4000000
def RPPost (c0 c1 b:Nat) (r:RS) (w:World) (e:Ending) (w':World):Prop:=RdS c0 c1 b (rdPf r).2.2 w'∧Fr [b] w w' ∧
 ((rdPf r).1=true→∃ A c,e=.returned (.tuple #[.agg #[.int .i64 (rdPf r).2.1.idx,.int .i64 0,encN (rdPf r).2.1.text,.slice A (rdPf r).2.1.path.length c],.bool true])∧Own w' 57 32 A (rdPf r).2.1.path.length c ((rdPf r).2.1.path.flatMap dCells)∧∀ k∈blk A,w.heap.size≤k) ∧
 ((rdPf r).1=false→e=.returned (.tuple #[.agg #[.int .i64 0,.int .i64 0,.string ⟨#[]⟩,.slice none 0 0],.bool false]))
def RPR (w:World) (c0 c1 b R2 P N:Nat) (ix:Int) (ts:ByteArray) (r0:RS) (i:Value) (W:World):Prop :=
 ∃ (j:Nat) (rj:RS) (a:List Nm) (A:Option Addr) (c:Nat),j≤N∧i=.int .i64 (j:Int)∧rdPath (N - j) rj a=rdPath N r0 []∧RdS c0 c1 b rj W∧BoxN W P 53 #[.int .i64 ix,.int .i64 0,.string ts,.slice A j c]∧Own W 57 32 A j c (a.flatMap dCells)∧a.length=j∧BoxN W R2 53 #[.int .i64 0,.int .i64 0,.string ⟨#[]⟩,.slice none 0 0]∧Fr [b] w W∧∀ k∈blk A,P<k
theorem ReadProof_rs {c0 c1 b:Nat} {r:RS} {w:World} (h:RdS c0 c1 b r w) (hc1:c1≤w.heap.size):Calls Tryz.prog 51 #[.pointer (some ⟨b,0,none⟩)] w (RPPost c0 c1 b r w):=by
 have hbc:b<c1:=by obtain⟨_,_,_,q,_⟩:=h;exact q
 obtain⟨w1,hw1⟩:=nmd ((w).alloc (.cells #[.int .i64 0,.int .i64 0,.string ⟨#[]⟩,.slice none 0 0] 53))
 have hz1:(w1).heap.size=w.heap.size+1:=by rw[←hw1,World.size_alloc];try omega
 have n1:BoxN w1 (w.heap.size) 53 #[.int .i64 0,.int .i64 0,.string ⟨#[]⟩,.slice none 0 0]:=by have h0:=BoxN.new (w) 53 #[.int .i64 0,.int .i64 0,.string ⟨#[]⟩,.slice none 0 0];rw[hw1] at h0;rw[show w.heap.size=(w).heap.size from by first | rfl | omega];exact h0
 have f1:Fr [] (w) w1:=by rw[←hw1];exact (Fr.refl [] (w)).alloc _
 have hN1:=Number_rs (h.fr0 f1) 9223372036854775807
 rw[show (((9223372036854775807:Nat)):Int)=9223372036854775807 from rfl] at hN1
 obtain⟨ts,hts⟩:∃ s,encN (pfT r).1=.string s:=⟨_,rfl⟩
 obtain⟨ix,hix⟩:=nmd ((pfI r).1)
 have hN1':Calls Tryz.prog 50 #[.pointer (some ⟨b,0,none⟩),.int .i64 9223372036854775807] w1 fun e w'=>e=.returned (.int .i64 ix)∧RdS c0 c1 b (pfI r).2 w'∧Fr [b] w1 w':=by rw[←hix];exact hN1
 have HT:Hid (∀ W,RdS c0 c1 b (pfI r).2 W→Calls Tryz.prog 49 #[.pointer (some ⟨b,0,none⟩),.int .i64 16777216] W fun e w'=>e=.returned (.string ts)∧RdS c0 c1 b (pfT r).2 w'∧Fr [b] W w'):=Hd fun W hW=>by
  have h:=Text_rs hW 16777216
  rw[show (((16777216:Nat)):Int)=16777216 from rfl] at h
  rw[←hts];exact h
 have hb64:=rdNum_le 64 (pfT r).2
 obtain⟨N,hNN⟩:∃ N:Nat,(pfN r).1=(N:Int):=⟨(pfN r).1.toNat,by have:(0:Int)≤(pfN r).1:=hb64.1;omega⟩
 have hN64:N≤64:=by have:(pfN r).1≤64:=hb64.2;omega
 have HN2:Hid (∀ W,RdS c0 c1 b (pfT r).2 W→Calls Tryz.prog 50 #[.pointer (some ⟨b,0,none⟩),.int .i64 64] W fun e w'=>e=.returned (.int .i64 (N:Int))∧RdS c0 c1 b (pfN r).2 w'∧Fr [b] W w'):=Hd fun W hW=>by
  have h:=Number_rs hW 64
  rw[show (((64:Nat)):Int)=64 from rfl] at h
  rw[←hNN];exact h
 have HN1:=Hd hN1'
 have HW1:=Hd (And.intro hw1 (And.intro n1 f1))
 have HE:=Hd (And.intro hts (And.intro hix (And.intro hNN hN64)))
 have HB:=Hd (And.intro hbc hc1)
 clear hN1 hN1' hw1 n1 f1 hz1 hts hix hNN hN64 hb64 h hbc hc1
 go_enter Tryz.func51,Tryz.ntmps51
 go_upto_region 1 with fail
 rw[HW1.out.1]
 go_upto_region 2 with (first
  | (go_at_call 50;(with_reducible refine HN1.out.mono ?_);rintro e w2 ⟨rfl,hrd2,hf2⟩;have H2:=Hd (And.intro hrd2 hf2);clear hrd2 hf2)
  | (go_at_call 49;(with_reducible refine (HT.out w2 H2.out.1).mono ?_);rintro e w3 ⟨rfl,hrd3,hf3⟩;have H3:=Hd (And.intro hrd3 (H2.out.2.then hf3));clear hrd3 hf3))
 obtain⟨w4,hw4⟩:=nmd ((w3).alloc (.cells #[.int .i64 ix,.int .i64 0,.string ts,.slice none 0 0] 53))
 have hz4:(w4).heap.size=w3.heap.size+1:=by rw[←hw4,World.size_alloc];try omega
 have n4:BoxN w4 (w3.heap.size) 53 #[.int .i64 ix,.int .i64 0,.string ts,.slice none 0 0]:=by have h0:=BoxN.new (w3) 53 #[.int .i64 ix,.int .i64 0,.string ts,.slice none 0 0];rw[hw4] at h0;rw[show w3.heap.size=(w3).heap.size from by first | rfl | omega];exact h0
 have f4:Fr [] (w3) w4:=by rw[←hw4];exact (Fr.refl [] (w3)).alloc _
 rw[hw4]
 have h4:RdS c0 c1 b (pfT r).2 w4:=H3.out.1.fr0 f4
 have hP:w.heap.size<w3.heap.size:=by have h1:=HW1.out.2.1.lt;have h2:=H3.out.2.size;omega
 obtain⟨P,hPe⟩:=nmd (w3.heap.size)
 have hRP:BoxN w4 w.heap.size 53 #[.int .i64 0,.int .i64 0,.string ⟨#[]⟩,.slice none 0 0]:=(HW1.out.2.1.fr H3.out.2 (by have:=HB.out;simp;omega)).fr f4 (by simp)
 have hF4:Fr [b] w w4:=((HW1.out.2.2.mono (by simp)).then H3.out.2).then (f4.mono (by simp))
 rw[hPe] at n4 hP ⊢
 have H4:=Hd (And.intro h4 (And.intro n4 (And.intro hRP (And.intro hP hF4))))
 clear h4 n4 hRP hP hF4 hw4 f4 hz4 hPe
 go_upto_region 3 with (go_at_call 50;(with_reducible refine (HN2.out w4 H4.out.1).mono ?_);rintro e w5 ⟨rfl,hrd5,hf5⟩;have H5:=Hd (And.intro hrd5 hf5);clear hrd5 hf5)
 have hbP:b<w.heap.size:=by have:=HB.out;omega
 have hj0:RPR w c0 c1 b w.heap.size P N ix ts (pfN r).2 (.int .i64 0) w5:=⟨0,(pfN r).2,[],none,0,Nat.zero_le _,rfl,by rw[Nat.sub_zero],H5.out.1,H4.out.2.1.fr H5.out.2 (by have:=H4.out.2.2.2.1;simp;omega),Own.nil _ _ _,rfl,H4.out.2.2.1.fr H5.out.2 (by simp;omega),H4.out.2.2.2.2.then H5.out.2,by simp[blk]⟩
 have HJ0:=Hd hj0
 have HPS:Hid (w.heap.size<P∧b<w.heap.size):=Hd ⟨H4.out.2.2.2.1,hbP⟩
 clear hj0 hbP H2 H3 H4 H5 HN1 HT HN2 HW1
 go_loopw [13] (RPR w c0 c1 b w.heap.size P N ix ts (pfN r).2) (fun i _=>N - (intOf i).toNat)
 case atStart=>exact HJ0.out
 case round =>
  obtain⟨j,rj,a,A,c,hj,rfl,hpath,hrd,hbP,hown,hal,hbR,hfr,hAb⟩:=hrel
  by_cases hlt:j<N
  ·have hlt3:(j:Int)<(N:Int):=by omega
   obtain⟨s,hs⟩:∃ s,encN (rdText 32 rj).1=.string s:=⟨_,rfl⟩
   have hsz:s.size=(rdText 32 rj).1.length:=by
    have h0:=congrArg (fun v:Value=>match v with | .string x=>x.size | _=>0) hs
    simpa [encN,←ByteArray.size_data] using h0.symm
   have hT:=Text_rs hrd 32
   rw[show (((32:Nat)):Int)=32 from rfl,hs] at hT
   have HTT:=Hd hT
   have HH:=Hd (And.intro hpath (And.intro hrd (And.intro hbP (And.intro hown (And.intro hal (And.intro hbR (And.intro hfr (And.intro hAb (And.intro hs (And.intro hsz hlt))))))))))
   clear hT hpath hrd hbP hown hal hbR hfr hAb hs
   go_upto_region 5 with (go_at_call 49;(with_reducible refine HTT.out.mono ?_);rintro e x1 ⟨rfl,hrx,hfx⟩;have HX1:=Hd (And.intro hrx hfx);clear hrx hfx)
   by_cases h32:(rdText 32 rj).1.length=32
   ·have hz32:s.size=32:=by omega
    have hz:((s.size:Nat):Int)=32:=by omega
    go_upto_region 7 with fail
    have hPb:P≠b∧P≠w.heap.size:=by have:=HPS.out;omega
    have hbx:BoxN x1 P 53 #[.int .i64 ix,.int .i64 0,.string ts,.slice A j c]:=HH.out.2.2.1.fr HX1.out.2 (by simpa using hPb.1)
    have hPA:P ∉ blk A:=fun hm=>by have:=HH.out.2.2.2.2.2.2.2.1 P hm;omega
    have HBX:=Hd (And.intro hbx hPA)
    have HSS:=Hd (fun (W:World) (hW:W.cell? ⟨P,3,none⟩=some (.slice A j c))=>hW)
    have hC:=hbx.k3
    obtain⟨cap,y1,hcv,hfy,hrow⟩:=str_row s x1.drew
    have hsl:s.data.toList=(rdText 32 rj).1:=by
     have h0:=congrArg (fun v:Value=>match v with | .string x=>x.data.toList | _=>[]) HH.out.2.2.2.2.2.2.2.2.1
     simpa [encN] using h0.symm
    rw[hsl] at hrow
    obtain⟨dg,hdg⟩:=nmd ((rdText 32 rj).1)
    rw[hdg] at hrow
    have hd32:dg.length=32:=by rw[←hdg];exact h32
    have hcl:(dCells dg).length=32:=by rw[dcells_len,hd32]
    have hrng:y1.rangeAt x1.heap.size 0 (dCells dg):=by
     obtain⟨b',off,e',_,hcell⟩:=hrow.2 (by omega)
     injection e' with e'
     injection e' with e1 e2
     subst e1 e2
     exact hcell
    have har:(Instr.arrayAt 57 (.slice (some ⟨x1.heap.size,0,none⟩) s.size cap)).run Tryz.prog y1=.ok (.pointer (some ⟨x1.heap.size,0,none⟩)) y1:=by
     simp[Instr.arrayAt,run_underlying Tryz.underlying57,hz32,Result.andThen]
    have HY:=Hd (And.intro hfy.undrew (And.intro hrng (And.intro hdg (And.intro hd32 hcl))))
    clear hbx hPA hPb hsl hrow hdg hrng hfy
    refine wp_region_head (fun W:World=>W.cell? ⟨P,3,none⟩=some (.slice A j c)) 8 (by kernel_rfl) ?_ (by decide)
    show headJ 0 _ _ _ _ _ _ _ _ _ _ _
    iterate 3
     refine hdJ (v:=?_) rfl (Or.inl ⟨by rfl,?_⟩) ?_
     rotate_left
     ·intro W hW;obtain p3:=HSS.out W hW;go_simp;try with_reducible rfl
     try simp only[Act.put,qA,qB,qC,qD,qE,qF]
    refine headI_only (i:=3) (by kernel_rfl) (by decide) rfl (fun K hK=>?_)
    rw[if_pos (by rfl)]
    go_simp
    refine hK _ _ ((HBX.out.1.fr HY.out.1 (by simp)).c 3) ?_
    clear hK K hC hcv
    try simp only[Act.put,qA,qB,qC,qD,qE,qF]
    refine headI_only (i:=4) (by kernel_rfl) (by decide) rfl (fun K hK=>?_)
    rw[if_pos (by rfl)]
    go_simp
    refine hK _ _ ((HBX.out.1.fr HY.out.1 (by simp)).c 3) ?_
    clear hK K har
    try simp only[Act.put,qA,qB,qC,qD,qE,qF]
    refine headI_only (i:=5) (by kernel_rfl) (by decide) rfl (fun K hK=>?_)
    rw[if_pos (by rfl)]
    refine wp_load_mid 57 (.tmp 25) rfl x1.heap.size 0 rfl (dCells dg) (.array 32 5) HY.out.2.1 (by kernel_rfl) rfl (by rw[HY.out.2.2.2.2];kernel_rfl) ?_
    refine hK _ _ ((HBX.out.1.fr HY.out.1 (by simp)).c 3) ?_
    clear hK K
    try simp only[Act.put,qA,qB,qC,qD,qE,qF]
    refine headI_only (i:=6) (by kernel_rfl) (by decide) rfl (fun K hK=>?_)
    rw[if_pos (by rfl)]
    go_simp
    rw[fold_zero (by rfl) HY.out.2.2.2.1]
    obtain⟨y2,hy2⟩:=nmd (y1.alloc (.cells (dCells dg).toArray 57))
    have n2:BoxN y2 y1.heap.size 57 (dCells dg).toArray:=by rw[←hy2];exact BoxN.new y1 _ _
    have f2:Fr [] x1 y2:=by rw[←hy2];exact HY.out.1.alloc _
    rw[hy2]
    have hb2:=HBX.out.1.fr f2 (by simp)
    refine hK _ _ (hb2.c 3) ?_
    clear hK K hy2
    try simp only[Act.put,qA,qB,qC,qD,qE,qF]
    refine headI_only (i:=7) (by kernel_rfl) (by decide) rfl (fun K hK=>?_)
    rw[if_pos (by rfl)]
    have hN64:=HE.out.2.2.2
    obtain⟨ii,hii,iz0,iz1,iz2⟩:=info_dig
    have hO2:=(HH.out.2.2.2.1.fr HX1.out.2 (fun k hk=>by have:=HH.out.2.2.2.2.2.2.2.1 k hk;have:=HPS.out;simp;omega)).fr f2 (by simp)
    refine wp_app (.tmp 22) (.tmp 27) 51 rfl 57 ii _ 32 32 Tryz.underlying51 hii iz0 iz1 iz2 rfl (by decide) A j c (a.flatMap dCells) rfl hO2 ⟨y1.heap.size,0,none⟩ 1 1 (dCells dg) rfl (by rw[HY.out.2.2.2.2]) (fun k u hu=>by rw[add_mid',n2.c k];simpa using hu) (dcells_one dg) (by unfold maxLen;omega) (by omega) ?_
    intro A' c' y3 ho3 hf3 hA3
    have hb3:=hb2.fr hf3 HBX.out.2
    refine hK _ _ (hb3.c 3) ?_
    clear hK K
    try simp only[Act.put,qA,qB,qC,qD,qE,qF]
    refine headI_done ⟨by kernel_rfl,?_⟩
    simp only[List.drop_succ_cons,List.drop_zero]
    have q0:=hb3.k3
    have q1:=hb3.f 3
    have hfA:Fr (blk A) x1 y3:=(f2.mono (by simp)).then hf3
    have hnew:∀ k∈blk A',k∈blk A ∨ x1.heap.size≤k:=fun k hk=>(hA3 k hk).imp id (Nat.le_trans f2.size)
    have H3:=Hd (And.intro ho3 (And.intro hb3 (And.intro hfA hnew)))
    clear n2 f2 hb2 hO2 ho3 hf3 hA3 hb3 hfA hnew iz0 iz1 iz2 hii HSS
    go_upto_region 8 with fail
    obtain⟨y4,hy4⟩:=nmd (y3.setCell ⟨P,3,none⟩ (.slice A' (j+1) c'))
    have n4:BoxN y4 P 53 #[.int .i64 ix,.int .i64 0,.string ts,.slice A' (j+1) c']:=by rw[←hy4];exact H3.out.2.1.setAt 3 _
    have f4:Fr [P] y3 y4:=by rw[←hy4];exact (Fr.refl [P] y3).set (.inl (by simp)) _
    rw[hy4]
    have HN4:=Hd (And.intro n4 f4)
    clear n4 f4 hy4 q0 q1
    go_wp2_with fail
    go_roundw
    case rel =>
     have hps:=HPS.out
     have hsz1:x1.heap.size≤y3.heap.size:=H3.out.2.2.1.size
     have hPx:P<x1.heap.size:=HBX.out.1.lt
     have hPA':P ∉ blk A':=fun hm=>by
      rcases H3.out.2.2.2 P hm with h | h
      ·exact HBX.out.2 h
      ·omega
     have hAP:∀ k∈blk A,P<k:=HH.out.2.2.2.2.2.2.2.1
     have hAr:∀ k∈blk A,k≠b∧k≠w.heap.size:=fun k hk=>by have:=hAP k hk;omega
     obtain⟨m,hm⟩:∃ m,N - j=m+1:=⟨N - j - 1,by omega⟩
     have hpth:=HH.out.1
     rw[hm,rdPath,if_pos h32] at hpth
     rw[HY.out.2.2.1] at hpth
     refine⟨j+1,(rdText 32 rj).2,a++[dg],A',c',by omega,by go_num,by rw[show N - (j+1)=m by omega];exact hpth,?_,HN4.out.1,?_,by simp[HH.out.2.2.2.2.1],?_,?_,?_⟩
     ·have hc:=HB.out
      have h1:=HX1.out.1
      have hwx:w.heap.size≤x1.heap.size:=Nat.le_trans HH.out.2.2.2.2.2.2.1.size HX1.out.2.size
      exact (h1.fr H3.out.2.2.1 (fun k hk=>.inr (by have:=hAP k hk;omega))).fr HN4.out.2 (fun k hk=>.inr (by simp at hk;omega))
     ·have h1:=H3.out.1.fr HN4.out.2 (fun k hk=>by simp;rintro rfl;exact hPA' hk)
      rw[List.flatMap_append]
      simpa using h1
     ·have h1:=HH.out.2.2.2.2.2.1.fr HX1.out.2 (by simp;omega)
      exact (h1.fr H3.out.2.2.1 (fun hm=>(hAr _ hm).2 rfl)).fr HN4.out.2 (by simp;omega)
     ·have h1:=HH.out.2.2.2.2.2.2.1.then HX1.out.2
      exact (h1.trans H3.out.2.2.1 (fun k hk=>.inr (by have:=hAP k hk;omega))).trans HN4.out.2 (fun k hk=>.inr (by simp at hk;omega))
     ·intro k hk
      rcases H3.out.2.2.2 k hk with h | h
      ·exact hAP k h
      ·omega
    case measure=>simp[intOf];omega
   ·have hz:decide (((s.size:Nat):Int)=32)=false:=decide_eq_false (by omega)
    have hz':(((s.size:Nat):Int) != 32)=true:=by simp;omega
    have hbR:BoxN x1 w.heap.size 53 #[.int .i64 0,.int .i64 0,.string ⟨#[]⟩,.slice none 0 0]:=HH.out.2.2.2.2.2.1.fr HX1.out.2 (by have:=HPS.out;simp;omega)
    have HBR:=Hd hbR
    obtain⟨z0,z1,z2,z3⟩:=hbR.m4
    have v0:=hbR.f 0
    have v1:=hbR.f 1
    have v2:=hbR.f 2
    have v3:=hbR.f 3
    clear hbR
    go_wp2_with fail
    obtain⟨x2,hW2⟩:=nmd (((((x1).setCell ⟨w.heap.size,0,none⟩ (.int .i64 0)).setCell ⟨w.heap.size,1,none⟩ (.int .i64 0)).setCell ⟨w.heap.size,2,none⟩ (.string ⟨#[]⟩)).setCell ⟨w.heap.size,3,none⟩ (.slice none 0 0))
    have n2:BoxN x2 (w.heap.size) 53 #[.int .i64 0,.int .i64 0,.string ⟨#[]⟩,.slice none 0 0]:=by rw[←hW2];exact ((((HBR.out.setAt 0 _).setAt 1 _).setAt 2 _).setAt 3 _)
    have f2:Fr [w.heap.size] (x1) x2:=by rw[←hW2];exact ((((Fr.refl [w.heap.size] (x1)).set (.inl (by simp)) _).set (.inl (by simp)) _).set (.inl (by simp)) _).set (.inl (by simp)) _
    rw[hW2]
    clear hW2
    obtain⟨t0,t1,t2,t3⟩:=n2.m4
    try simp only[Exit.inBlock,Exit.then]
    refine bodyPost_ret (v:=.tuple #[.agg #[.int .i64 0,.int .i64 0,.string ⟨#[]⟩,.slice none 0 0],.bool false]) (by simp[results,Tryz.results51,go_sem,t0,t1,t2,t3]) rfl ?_
    have hps:=HPS.out
    have hcc:=HB.out
    obtain⟨m,hm⟩:∃ m,N - j=m+1:=⟨N - j - 1,by omega⟩
    have hpth:=HH.out.1
    rw[hm,rdPath,if_neg h32] at hpth
    have hPf:(rdPf r).1=false∧(rdPf r).2.2=(rdText 32 rj).2:=by
     unfold rdPf
     rw[HE.out.2.2.1,Int.toNat_natCast,←hpth]
     exact⟨rfl,rfl⟩
    exact⟨by rw[hPf.2];exact HX1.out.1.fr f2 (fun k hk=>.inr (by simp at hk;omega)),(HH.out.2.2.2.2.2.2.1.then HX1.out.2).trans f2 (fun k hk=>.inr (by simp at hk;omega)),fun h=>(by rw[hPf.1] at h;cases h),fun _=>rfl⟩
  ·obtain rfl:j=N:=by omega
   have HBR:=Hd hbR
   obtain⟨z0,z1,z2,z3⟩:=hbR.m4
   have v0:=hbR.f 0
   have v1:=hbR.f 1
   have v2:=hbR.f 2
   have v3:=hbR.f 3
   obtain⟨p0,p1,p2,p3⟩:=hbP.m4
   have HH:=Hd (And.intro hpath (And.intro hrd (And.intro hown (And.intro hal (And.intro hfr hAb)))))
   clear hpath hrd hbP hown hal hbR hfr hAb
   go_wp2_with fail
   obtain⟨x2,hW2⟩:=nmd (((((wr).setCell ⟨w.heap.size,0,none⟩ (.int .i64 ix)).setCell ⟨w.heap.size,1,none⟩ (.int .i64 0)).setCell ⟨w.heap.size,2,none⟩ (.string ts)).setCell ⟨w.heap.size,3,none⟩ (.slice A j c))
   have n2:BoxN x2 (w.heap.size) 53 #[.int .i64 ix,.int .i64 0,.string ts,.slice A j c]:=by rw[←hW2];exact ((((HBR.out.setAt 0 _).setAt 1 _).setAt 2 _).setAt 3 _)
   have f2:Fr [w.heap.size] (wr) x2:=by rw[←hW2];exact ((((Fr.refl [w.heap.size] (wr)).set (.inl (by simp)) _).set (.inl (by simp)) _).set (.inl (by simp)) _).set (.inl (by simp)) _
   rw[hW2]
   clear hW2
   obtain⟨t0,t1,t2,t3⟩:=n2.m4
   refine bodyPost_ret (v:=.tuple #[.agg #[.int .i64 ix,.int .i64 0,.string ts,.slice A j c],.bool true]) (by simp[results,Tryz.results51,go_sem,t0,t1,t2,t3]) rfl ?_
   have hps:=HPS.out
   have hcc:=HB.out
   have hpth:=HH.out.1
   rw[Nat.sub_self,rdPath] at hpth
   have hPf:rdPf r=(true,⟨(pfI r).1,(pfT r).1,a⟩,rj):=by
    unfold rdPf
    rw[HE.out.2.2.1,Int.toNat_natCast,←hpth]
   refine⟨by rw[hPf];exact HH.out.2.1.fr f2 (fun k hk=>.inr (by simp at hk;omega)),HH.out.2.2.2.2.1.trans f2 (fun k hk=>.inr (by simp at hk;omega)),fun _=>⟨A,c,?_,?_,fun k hk=>by have:=HH.out.2.2.2.2.2 k hk;omega⟩,fun h=>by rw[hPf] at h;cases h⟩
   ·rw[hPf]
    show _=Ending.returned (.tuple #[.agg #[.int .i64 (pfI r).1,.int .i64 0,encN (pfT r).1,.slice A a.length c],.bool true])
    rw[HE.out.1,HE.out.2.1,HH.out.2.2.2.1]
   ·rw[hPf]
    show Own x2 57 32 A a.length c (a.flatMap dCells)
    rw[HH.out.2.2.2.1]
    exact HH.out.2.2.1.fr f2 (fun k hk=>by have:=HH.out.2.2.2.2.2 k hk;simp;omega)
end Go.Proofs.YtlpmiimgacfmkaaGreatDoor
