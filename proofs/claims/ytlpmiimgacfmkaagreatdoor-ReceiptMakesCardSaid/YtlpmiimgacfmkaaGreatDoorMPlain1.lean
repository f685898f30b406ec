/- Plain facts on names of processes, with no program in sight: how a text is parsed into ordinals. -/
import Derived.WalkKit
import Derived.WalkSpells
import Derived.WalkLawsBesides
import Derived.Lib.Hide
import Derived.RangeFuncNested
import Derived.RangeFuncBound
import Derived.RangeFuncCalls
import Derived.RangeFuncLeaves
import Derived.Shelf.Abstract
import Derived.Shelf.RegionOpen
import Derived.OwnWalkIn
import Derived.TacticsInMore
import Derived.LoopNIn
import Derived.LoopIn
import Derived.Test.YtlpmiimgacfmkaaGreatDoorProg
set_option linter.all false
namespace Go.Proofs.YtlpmiimgacfmkaaGreatDoor
open Go.Proofs.Tryz
def isD (c:UInt8):Bool:=decide (48<=c.toNat) && decide (c.toNat<=57)
def run7 (s:List UInt8) (a:Nat):Nat:=(((s.drop a).take 7).takeWhile isD).length
def val10 (l:List UInt8):Nat:=l.foldl (fun v c=>v*10+(c.toNat - 48)) 0
theorem val10_snoc (l:List UInt8) (c:UInt8):val10 (l++[c])=val10 l*10+(c.toNat - 48):=by simp[val10]
theorem isD_bounds {c:UInt8} (h:isD c=true):48<=c.toNat/\c.toNat<=57:=by
 simpa [isD] using h
theorem val10_lt (l:List UInt8) (h:∀ c∈l,isD c=true):val10 l<10 ^ l.length:=by
 have key:∀ (l:List UInt8) (v n:Nat),(∀ c∈l,isD c=true)->v<10 ^ n->l.foldl (fun v c=>v*10+(c.toNat - 48)) v<10 ^ (n+l.length):=by
  intro l
  induction l with
  | nil=>intro v n _ hv;simpa using hv
  | cons c l ih =>
   intro v n hd hv;have hc:=isD_bounds (hd c (by simp));have:=ih (v*10+(c.toNat - 48)) (n+1) (fun x hx=>hd x (by simp[hx])) (by rw[Nat.pow_succ];omega);simpa [Nat.add_assoc,Nat.add_comm 1] using this
 have:=key l 0 0 h (by simp);simpa [val10] using this
theorem run7_eq (s:List UInt8) (a k:Nat) (hk:k<=7) (hak:a+k<=s.length) (hd:∀ c∈(s.drop a).take k,isD c=true)
 (hend:a+k=s.length \/ k=7 \/ ∃ c,s[a+k]?=some c/\isD c=false):run7 s a=k:=by
 unfold run7
 have e1:(s.drop a).take 7=(s.drop a).take k++((s.drop a).drop k).take (7 - k):=by
  have:7=k+(7 - k):=by omega
  conv=>lhs;rw[this]
  rw[List.take_add]
 have e2:(((s.drop a).drop k).take (7 - k)).takeWhile isD=[]:=by
  rcases hend with h | h | ⟨c,hc,hcd⟩
  ·rw[List.drop_drop,List.drop_eq_nil_of_le (by omega)];simp
  ·subst h;simp
  ·rw[List.drop_drop]
   have hlt:a+k<s.length:=by
    rcases Nat.lt_or_ge (a+k) s.length with h | h
    ·exact h
    ·rw[List.getElem?_eq_none h] at hc;cases hc
   rw[List.drop_eq_getElem_cons hlt];rw[List.getElem?_eq_getElem hlt] at hc
   injection hc with hc
   rcases Nat.eq_zero_or_pos (7 - k) with h0 | h0
   ·rw[h0];simp
   ·obtain⟨m,hm⟩:∃ m,7 - k=m+1:=⟨7 - k - 1,by omega⟩
    rw[hm,List.take_succ_cons,List.takeWhile_cons,hc,hcd];simp
 rw[e1,List.takeWhile_append_of_pos hd,e2];simp;omega
theorem run7_le (s:List UInt8) (a:Nat):run7 s a<=7:=by
 unfold run7;have h1:=(List.takeWhile_sublist isD (l:=(s.drop a).take 7)).length_le;have h2:=List.length_take_le 7 (s.drop a);omega
theorem run7_size (s:List UInt8) (a:Nat) (ha:a<=s.length):a+run7 s a<=s.length:=by
 unfold run7;have h1:=(List.takeWhile_sublist isD (l:=(s.drop a).take 7)).length_le;have h2:=List.length_take_le' 7 (s.drop a);simp at h1 h2;omega
abbrev Part:=Nat × Nat × Nat
def firstErr (s:List UInt8) (a count:Nat):Nat :=
 if count=8 then 9 else if a=s.length then 4 else if run7 s a=0 then 6 else if s[a]?=some 48 then 3 else if 6<run7 s a then 2 else 0
def firstP (s:List UInt8) (a count:Nat):Part × Nat :=
 if firstErr s a count=0 then ((val10 ((s.drop a).take (run7 s a)),a,0),a+run7 s a) else ((0,a,firstErr s a count),a)
def partsN:Nat->List UInt8->Nat->Nat->List Part
 | 0,_,_,_=>[]
 | f+1,s,a,count =>
  (firstP s a count).1::(if (firstP s a count).1.2.2≠0 \/ (firstP s a count).2=s.length then []
   else if s[(firstP s a count).2]?≠some 46 then [(0,(firstP s a count).2,6)]
   else partsN f s ((firstP s a count).2+1) (count+1))
def partsOf (s:List UInt8):List Part:=if s=[] then [] else partsN 9 s 0 0
def validB (s:List UInt8):Bool:=(partsOf s).all fun p=>p.2.2 == 0
def ordsOf (s:List UInt8):List Nat:=if validB s then (partsOf s).map (·.1) else []
theorem firstP_zero {s:List UInt8} {a c o p en:Nat} (ha:a<=s.length) (h:firstP s a c=((o,p,0),en)):c≠8/\en<=s.length:=by
 unfold firstP at h;split at h
 ·rename_i h0
  have hc:c≠8:=by rintro rfl;simp[firstErr] at h0
  have he:en=a+run7 s a:=by simp at h;exact h.2.symm
  exact⟨hc,by rw[he];exact run7_size s a ha⟩
 ·rename_i h0
  simp at h;exact absurd h.1.2.2 h0
section
variable {s:List UInt8} {a c o p er en:Nat}
theorem partsN_stop (hc:c<=8) (h:firstP s a c=((o,p,er),en)) (he:er≠0 \/ en=s.length):partsN (9 - c) s a c=[(o,p,er)]:=by
 obtain⟨m,hm⟩:∃ m,9 - c=m+1:=⟨8 - c,by omega⟩;rw[hm,partsN,h];simp only;rw[if_pos he]
theorem partsN_byte (hc:c<=8) (h:firstP s a c=((o,p,er),en)) (he:er=0) (hen:en≠s.length) (hb:s[en]?≠some 46):partsN (9 - c) s a c=[(o,p,er),(0,en,6)]:=by
 obtain⟨m,hm⟩:∃ m,9 - c=m+1:=⟨8 - c,by omega⟩;rw[hm,partsN,h];simp only;rw[if_neg (by simp[he,hen]),if_pos hb]
theorem partsN_next (hc:c<=8) (h:firstP s a c=((o,p,er),en)) (he:er=0) (hen:en≠s.length) (hb:s[en]?=some 46):partsN (9 - c) s a c=(o,p,er)::partsN (9 - (c+1)) s (en+1) (c+1):=by
 obtain⟨m,hm⟩:∃ m,9 - c=m+1:=⟨8 - c,by omega⟩;have hm':9 - (c+1)=m:=by omega
 rw[hm,hm',partsN,h];simp only;rw[if_neg (by simp[he,hen]),if_neg (by simp[hb])]
theorem partsN_head (hc:c<=8) (h:firstP s a c=((o,p,er),en)):∃ r,partsN (9 - c) s a c=(o,p,er)::r:=by
 obtain⟨m,hm⟩:∃ m,9 - c=m+1:=⟨8 - c,by omega⟩;rw[hm,partsN,h];exact⟨_,rfl⟩
end
example:validB [55,46,49]=true:=by decide
example:ordsOf [55,46,49]=[7,1]:=by decide
example:validB [48]=false:=by decide
example:validB [55,46]=false:=by decide
open Go.RowKit
set_option maxHeartbeats 1000000
theorem isDigit_any (c:UInt8) (w:World) :
 Calls prog 272 #[.int .u8 (c.toNat:Int)] w fun e w'=>e=.returned (.bool (isD c))/\w=w':=by
 by_cases h1:48<=c.toNat
 ·have h1':(48:Int)<=(c.toNat:Int):=by omega
  go_enter func272,ntmps272
  go_wp2
  go_ret
  refine⟨?_,rfl⟩;have e:decide ((c.toNat:Int)<=57)=decide (c.toNat<=57):=by rw[Bool.eq_iff_iff];simp;omega
  rw[e];simp[isD,h1]
 ·have h1':¬ (48:Int)<=(c.toNat:Int):=by omega
  go_enter func272,ntmps272
  go_wp2
  go_ret
  refine⟨?_,rfl⟩;simp[isD,h1]
def encPart (p:Part):Value:=.agg #[.int .i64 (p.1:Int),.int .i64 (p.2.1:Int),.int .i64 (p.2.2:Int)]
theorem take_snoc1 (s:List UInt8) (a k:Nat) (c:UInt8) (h:s[a+k]?=some c):(s.drop a).take (k+1)=(s.drop a).take k++[c]:=by
 have hlt:k<(s.drop a).length:=by
  have:=(List.getElem?_eq_some_iff.1 h).1;simp;omega
 rw[List.take_succ_eq_append_getElem hlt]
 congr 1
 have h2:=(List.getElem?_eq_some_iff.1 h).2;simp[h2]
theorem firstP_err {s:List UInt8} {a count e:Nat} (h:firstErr s a count=e) (he:e≠0):firstP s a count=((0,a,e),a):=by
 unfold firstP;rw[if_neg (by omega),h]
theorem firstP_ok {s:List UInt8} {a count k:Nat} (h:firstErr s a count=0) (hk:run7 s a=k):firstP s a count=((val10 ((s.drop a).take k),a,0),a+k):=by
 unfold firstP;rw[if_pos h,hk]
theorem get_of_byte {s:ByteArray} {a:Nat} (h:a<s.size):s.data.toList[a]?=some s[a]:=by
 have h':a<s.data.toList.length:=by simpa using h
 rw[List.getElem?_eq_getElem h'];rfl
theorem len_of_byte (s:ByteArray):s.data.toList.length=s.size:=by simp
section
variable {s:ByteArray} {a count k:Nat}
theorem fe1 (h:((count:Int) == 8)=true):firstErr s.data.toList a count=9:=by
 have:count=8:=by have:=eq_of_beq h;omega
 unfold firstErr;rw[if_pos this]
theorem fe2 (h:((count:Int) == 8)=false) (h2:((a:Int) == (s.size:Int))=true):firstErr s.data.toList a count=4:=by
 have h:count≠8:=by have:=ne_of_beq_false h;omega
 have h2:a=s.size:=by have:=eq_of_beq h2;omega
 unfold firstErr;rw[if_neg h,if_pos (by rw[len_of_byte];exact h2)]
theorem fe3 (hr:run7 s.data.toList a=k) (h:((count:Int) == 8)=false) (h2:((a:Int) == (s.size:Int))=false) (h3:((a:Int)+k == (a:Int))=true):firstErr s.data.toList a count=6:=by
 have h:count≠8:=by have:=ne_of_beq_false h;omega
 have h2:a≠s.size:=by have:=ne_of_beq_false h2;omega
 have h3:k=0:=by have:=eq_of_beq h3;omega
 unfold firstErr;rw[if_neg h,if_neg (by rw[len_of_byte];exact h2),if_pos (by omega)]
theorem fe4 (hr:run7 s.data.toList a=k) (h:((count:Int) == 8)=false) (h2:((a:Int) == (s.size:Int))=false) (h3:((a:Int)+k == (a:Int))=false) (hlt:a<s.size) (h4:(((s[a]).toNat:Int) == 48)=true):firstErr s.data.toList a count=3:=by
 have h:count≠8:=by have:=ne_of_beq_false h;omega
 have h2:a≠s.size:=by have:=ne_of_beq_false h2;omega
 have h3:k≠0:=by have:=ne_of_beq_false h3;omega
 have h4:s[a]=48:=by have:=eq_of_beq h4;exact UInt8.toNat_inj.1 (by simp;omega)
 unfold firstErr;rw[if_neg h,if_neg (by rw[len_of_byte];exact h2),if_neg (by omega),if_pos (by rw[get_of_byte hlt,h4])]
theorem fe5 (hr:run7 s.data.toList a=k) (h:((count:Int) == 8)=false) (h2:((a:Int) == (s.size:Int))=false) (h3:((a:Int)+k == (a:Int))=false) (hlt:a<s.size) (h4:(((s[a]).toNat:Int) == 48)=false) (h5:6<(a:Int)+k - a):firstErr s.data.toList a count=2:=by
 have h:count≠8:=by have:=ne_of_beq_false h;omega
 have h2:a≠s.size:=by have:=ne_of_beq_false h2;omega
 have h3:k≠0:=by have:=ne_of_beq_false h3;omega
 have h4:s[a]≠48:=by intro e;rw[e] at h4;simp at h4
 unfold firstErr;rw[if_neg h,if_neg (by rw[len_of_byte];exact h2),if_neg (by omega),if_neg (by rw[get_of_byte hlt];simpa using h4),if_pos (by omega)]
theorem fe6 (hr:run7 s.data.toList a=k) (h:((count:Int) == 8)=false) (h2:((a:Int) == (s.size:Int))=false) (h3:((a:Int)+k == (a:Int))=false) (hlt:a<s.size) (h4:(((s[a]).toNat:Int) == 48)=false) (h5:(a:Int)+k - a<=6):firstErr s.data.toList a count=0:=by
 have h:count≠8:=by have:=ne_of_beq_false h;omega
 have h2:a≠s.size:=by have:=ne_of_beq_false h2;omega
 have h3:k≠0:=by have:=ne_of_beq_false h3;omega
 have h4:s[a]≠48:=by intro e;rw[e] at h4;simp at h4
 unfold firstErr;rw[if_neg h,if_neg (by rw[len_of_byte];exact h2),if_neg (by omega),if_neg (by rw[get_of_byte hlt];simpa using h4),if_neg (by omega)]
end
theorem first_any (s:ByteArray) (a count:Nat) (w:World) (hs:s.size<=9223372036854775000) (ha:a<=s.size) (_hc:count<=1000) :
 Calls prog 247 #[.string s,.int .i64 (a:Int),.int .i64 (count:Int)] w fun e w' =>
  e=.returned (.tuple #[encPart (firstP s.data.toList a count).1,.int .i64 ((firstP s.data.toList a count).2:Int)])/\Below w.heap.size w w':=by
 go_enter func247,ntmps247
 go_wp2
 go_loop [8,9] (fun e o=>∃ k:Nat,k<=7/\a+k<=s.size/\e=.int .i64 ((a:Int)+k)/\(∀ c∈(s.data.toList.drop a).take k,isD c=true)/\o=.int .i64 (val10 ((s.data.toList.drop a).take k):Int)) (fun e _=>s.size - (intOf e).toNat)
 case atStart=>exact⟨0,by omega,by omega,by simp,by simp,by simp[val10]⟩
 case round =>
  obtain⟨k,hk7,hks,rfl,hd,rfl⟩:=hrel;have HD:=Lib.hid hd
  have hv:val10 ((s.data.toList.drop a).take k)<10 ^ 7:=by
   have h1:=val10_lt _ hd;have h2:((s.data.toList.drop a).take k).length<=7:=by have:=List.length_take_le k (s.data.toList.drop a);omega
   exact Nat.lt_of_lt_of_le h1 (Nat.pow_le_pow_right (by omega) h2)
  clear hd
  by_cases hlt:a+k<s.size
  ·by_cases hk6:k<=6
   ·by_cases hdg:isD s[a+k]=true
    ·have hb:=isD_bounds hdg
     have HS:=Lib.hid (take_snoc1 s.data.toList a k s[a+k] (get_of_byte hlt))
     go_wp2_with (go_at_call 272;refine (isDigit_any _ _).mono ?_;rintro e w' ⟨rfl,rfl⟩)
     go_round
     case rel =>
      refine⟨k+1,by omega,by omega,by go_num,?_,?_⟩
      ·rw[HS.out]
       intro c hc
       rcases List.mem_append.1 hc with h | h
       ·exact HD.out c h
       ·rw[List.mem_singleton] at h;rw[h];exact hdg
      ·rw[HS.out,val10_snoc]
       congr 1
       omega
     case measure=>simp[intOf];omega
    ·have HR:=Lib.hid (run7_eq s.data.toList a k hk7 (by rw[len_of_byte];omega) HD.out (.inr (.inr ⟨_,get_of_byte hlt,by simpa using hdg⟩)))
     have hdf:isD s[a+k]=false:=by simpa using hdg
     clear hdg
     go_wp2_with (go_at_call 272;refine (isDigit_any _ _).mono ?_;rintro e w' ⟨rfl,rfl⟩)
     all_goals first
      | (have hf:=firstP_err (fe1 (s:=s) (a:=a) (by assumption)) (by decide);exact bodyPost_ret (v:=.tuple #[.agg #[.int .i64 0,.int .i64 (a:Int),.int .i64 9],.int .i64 (a:Int)]) (by simp[results,results247,go_sem]) rfl ⟨by rw[hf];rfl,(Below.refl _ _).alloc (Nat.le_refl _) _⟩)
      | (have hf:=firstP_err (fe2 (s:=s) (a:=a) (by assumption) (by assumption)) (by decide);exact bodyPost_ret (v:=.tuple #[.agg #[.int .i64 0,.int .i64 (a:Int),.int .i64 4],.int .i64 (a:Int)]) (by simp[results,results247,go_sem]) rfl ⟨by rw[hf];rfl,(Below.refl _ _).alloc (Nat.le_refl _) _⟩)
      | (have hf:=firstP_err (fe3 (s:=s) (a:=a) HR.out (by assumption) (by assumption) (by assumption)) (by decide);exact bodyPost_ret (v:=.tuple #[.agg #[.int .i64 0,.int .i64 (a:Int),.int .i64 6],.int .i64 (a:Int)]) (by simp[results,results247,go_sem]) rfl ⟨by rw[hf];rfl,(Below.refl _ _).alloc (Nat.le_refl _) _⟩)
      | (have hf:=firstP_err (fe4 (s:=s) (a:=a) HR.out (by assumption) (by assumption) (by assumption) (by assumption) (by assumption)) (by decide);exact bodyPost_ret (v:=.tuple #[.agg #[.int .i64 0,.int .i64 (a:Int),.int .i64 3],.int .i64 (a:Int)]) (by simp[results,results247,go_sem]) rfl ⟨by rw[hf];rfl,(Below.refl _ _).alloc (Nat.le_refl _) _⟩)
      | (have hf:=firstP_err (fe5 (s:=s) (a:=a) HR.out (by assumption) (by assumption) (by assumption) (by assumption) (by assumption) (by assumption)) (by decide);exact bodyPost_ret (v:=.tuple #[.agg #[.int .i64 0,.int .i64 (a:Int),.int .i64 2],.int .i64 (a:Int)]) (by simp[results,results247,go_sem]) rfl ⟨by rw[hf];rfl,(Below.refl _ _).alloc (Nat.le_refl _) _⟩)
      | (have hf:=firstP_ok (fe6 (s:=s) (a:=a) HR.out (by assumption) (by assumption) (by assumption) (by assumption) (by assumption) (by assumption)) HR.out;exact bodyPost_ret (v:=.tuple #[.agg #[.int .i64 (val10 ((s.data.toList.drop a).take k):Int),.int .i64 (a:Int),.int .i64 0],.int .i64 ((a:Int)+k)]) (by simp[results,results247,go_sem]) rfl ⟨by rw[hf];rfl,(Below.refl _ _).alloc (Nat.le_refl _) _⟩)
      | (exfalso;have h2:((a:Int) == (s.size:Int))=false:=by assumption
         have:=ne_of_beq_false h2;omega)
   ·have hk:k=7:=by omega
    have HR:=Lib.hid (run7_eq s.data.toList a k hk7 (by rw[len_of_byte];omega) HD.out (.inr (.inl hk)));clear hk
    go_wp2_with (go_at_call 272;refine (isDigit_any _ _).mono ?_;rintro e w' ⟨rfl,rfl⟩)
    all_goals first
     | (have hf:=firstP_err (fe1 (s:=s) (a:=a) (by assumption)) (by decide);exact bodyPost_ret (v:=.tuple #[.agg #[.int .i64 0,.int .i64 (a:Int),.int .i64 9],.int .i64 (a:Int)]) (by simp[results,results247,go_sem]) rfl ⟨by rw[hf];rfl,(Below.refl _ _).alloc (Nat.le_refl _) _⟩)
     | (have hf:=firstP_err (fe2 (s:=s) (a:=a) (by assumption) (by assumption)) (by decide);exact bodyPost_ret (v:=.tuple #[.agg #[.int .i64 0,.int .i64 (a:Int),.int .i64 4],.int .i64 (a:Int)]) (by simp[results,results247,go_sem]) rfl ⟨by rw[hf];rfl,(Below.refl _ _).alloc (Nat.le_refl _) _⟩)
     | (have hf:=firstP_err (fe3 (s:=s) (a:=a) HR.out (by assumption) (by assumption) (by assumption)) (by decide);exact bodyPost_ret (v:=.tuple #[.agg #[.int .i64 0,.int .i64 (a:Int),.int .i64 6],.int .i64 (a:Int)]) (by simp[results,results247,go_sem]) rfl ⟨by rw[hf];rfl,(Below.refl _ _).alloc (Nat.le_refl _) _⟩)
     | (have hf:=firstP_err (fe4 (s:=s) (a:=a) HR.out (by assumption) (by assumption) (by assumption) (by assumption) (by assumption)) (by decide);exact bodyPost_ret (v:=.tuple #[.agg #[.int .i64 0,.int .i64 (a:Int),.int .i64 3],.int .i64 (a:Int)]) (by simp[results,results247,go_sem]) rfl ⟨by rw[hf];rfl,(Below.refl _ _).alloc (Nat.le_refl _) _⟩)
     | (have hf:=firstP_err (fe5 (s:=s) (a:=a) HR.out (by assumption) (by assumption) (by assumption) (by assumption) (by assumption) (by assumption)) (by decide);exact bodyPost_ret (v:=.tuple #[.agg #[.int .i64 0,.int .i64 (a:Int),.int .i64 2],.int .i64 (a:Int)]) (by simp[results,results247,go_sem]) rfl ⟨by rw[hf];rfl,(Below.refl _ _).alloc (Nat.le_refl _) _⟩)
     | (have hf:=firstP_ok (fe6 (s:=s) (a:=a) HR.out (by assumption) (by assumption) (by assumption) (by assumption) (by assumption) (by assumption)) HR.out;exact bodyPost_ret (v:=.tuple #[.agg #[.int .i64 (val10 ((s.data.toList.drop a).take k):Int),.int .i64 (a:Int),.int .i64 0],.int .i64 ((a:Int)+k)]) (by simp[results,results247,go_sem]) rfl ⟨by rw[hf];rfl,(Below.refl _ _).alloc (Nat.le_refl _) _⟩)
     | (exfalso;have h2:((a:Int) == (s.size:Int))=false:=by assumption
        have:=ne_of_beq_false h2;omega)
  ·have HR:=Lib.hid (run7_eq s.data.toList a k hk7 (by rw[len_of_byte];omega) HD.out (.inl (by rw[len_of_byte];omega)))
   go_wp2_with (go_at_call 272;refine (isDigit_any _ _).mono ?_;rintro e w' ⟨rfl,rfl⟩)
   all_goals first
    | (have hf:=firstP_err (fe1 (s:=s) (a:=a) (by assumption)) (by decide);exact bodyPost_ret (v:=.tuple #[.agg #[.int .i64 0,.int .i64 (a:Int),.int .i64 9],.int .i64 (a:Int)]) (by simp[results,results247,go_sem]) rfl ⟨by rw[hf];rfl,(Below.refl _ _).alloc (Nat.le_refl _) _⟩)
    | (have hf:=firstP_err (fe2 (s:=s) (a:=a) (by assumption) (by assumption)) (by decide);exact bodyPost_ret (v:=.tuple #[.agg #[.int .i64 0,.int .i64 (a:Int),.int .i64 4],.int .i64 (a:Int)]) (by simp[results,results247,go_sem]) rfl ⟨by rw[hf];rfl,(Below.refl _ _).alloc (Nat.le_refl _) _⟩)
    | (have hf:=firstP_err (fe3 (s:=s) (a:=a) HR.out (by assumption) (by assumption) (by assumption)) (by decide);exact bodyPost_ret (v:=.tuple #[.agg #[.int .i64 0,.int .i64 (a:Int),.int .i64 6],.int .i64 (a:Int)]) (by simp[results,results247,go_sem]) rfl ⟨by rw[hf];rfl,(Below.refl _ _).alloc (Nat.le_refl _) _⟩)
    | (have hf:=firstP_err (fe4 (s:=s) (a:=a) HR.out (by assumption) (by assumption) (by assumption) (by assumption) (by assumption)) (by decide);exact bodyPost_ret (v:=.tuple #[.agg #[.int .i64 0,.int .i64 (a:Int),.int .i64 3],.int .i64 (a:Int)]) (by simp[results,results247,go_sem]) rfl ⟨by rw[hf];rfl,(Below.refl _ _).alloc (Nat.le_refl _) _⟩)
    | (have hf:=firstP_err (fe5 (s:=s) (a:=a) HR.out (by assumption) (by assumption) (by assumption) (by assumption) (by assumption) (by assumption)) (by decide);exact bodyPost_ret (v:=.tuple #[.agg #[.int .i64 0,.int .i64 (a:Int),.int .i64 2],.int .i64 (a:Int)]) (by simp[results,results247,go_sem]) rfl ⟨by rw[hf];rfl,(Below.refl _ _).alloc (Nat.le_refl _) _⟩)
    | (have hf:=firstP_ok (fe6 (s:=s) (a:=a) HR.out (by assumption) (by assumption) (by assumption) (by assumption) (by assumption) (by assumption)) HR.out;exact bodyPost_ret (v:=.tuple #[.agg #[.int .i64 (val10 ((s.data.toList.drop a).take k):Int),.int .i64 (a:Int),.int .i64 0],.int .i64 ((a:Int)+k)]) (by simp[results,results247,go_sem]) rfl ⟨by rw[hf];rfl,(Below.refl _ _).alloc (Nat.le_refl _) _⟩)
    | (exfalso;have h2:((a:Int) == (s.size:Int))=false:=by assumption
       have:=ne_of_beq_false h2;omega)
theorem first_as (s:ByteArray) (a count o p er en:Nat) (w:World) (hs:s.size<=9223372036854775000) (ha:a<=s.size) (hc:count<=1000) (hf:firstP s.data.toList a count=((o,p,er),en)) :
 Calls prog 247 #[.string s,.int .i64 (a:Int),.int .i64 (count:Int)] w fun e w' =>
  e=.returned (.tuple #[.agg #[.int .i64 (o:Int),.int .i64 (p:Int),.int .i64 (er:Int)],.int .i64 (en:Int)])/\Below w.heap.size w w':=by
 refine (first_any s a count w hs ha hc).mono fun e w' ⟨he,hb⟩=>⟨?_,hb⟩;rw[he,hf];rfl
theorem isEmpty_of_ne {s:ByteArray} (h:s.data.toList≠[]):s.toList.isEmpty=false:=by
 rw[ByteArray.toList_eq];simpa using h
theorem isEmpty_of_nil {s:ByteArray} (h:s.data.toList=[]):s.toList.isEmpty=true:=by
 rw[ByteArray.toList_eq,h];rfl
open Go.RowKit Go.Shelf
set_option maxRecDepth 100000
attribute [local go_sem] Oper.semAt_some
def KeepT (W W':World):Prop:=∀ (k:Nat) (cs:Array Value) (t:TypeId) (fz:Nat × Nat),(t=325 \/ t=9)->W.heap[k]?=some (.cells cs t fz)->W'.heap[k]?=some (.cells cs t fz)
theorem keepT_t {A B C:World} (h:KeepT A B) (k:KeepT B C):KeepT A C:=fun i cs t fz ht hi=>k i cs t fz ht (h i cs t fz ht hi)
theorem keepT_b {w:World} (W:World) (l:Nat) (o o':Obj) (_:w.heap.size<=l) (h:W.heap[l]?=some o) (hc:o.isCells=false) (_:o.isWalk=false):KeepT W (W.putObj l o'):=by
 intro k cs t fz _ hk
 have hne:k≠l:=by
  rintro rfl;rw[hk] at h
  injection h with h
  subst h;simp[Obj.isCells] at hc
 rw[World.putObj_heap_other hne];exact hk
theorem keepT_refl (W:World):KeepT W W:=fun _ _ _ _ _ h=>h
theorem keepT_below {W W':World} (h:Below W.heap.size W W'):KeepT W W':=fun k cs t fz _ hk=>by
 have hlt:k<W.heap.size:=(Array.getElem?_eq_some_iff.1 hk).1;rw[h.block k hlt];exact hk
theorem parts_in (n:Nat) (s:ByteArray) (w:World) :
 CallsIn Fence.wide n prog 197 #[.string s] w fun e w'=>e=.returned (.func (.func 246) #[] #[.pointer (some ⟨w.heap.size,0,none⟩)])/\w'=w.alloc (.cells #[.string s] 9):=by
 refine callsIn_of_wp func197 rfl trivial ?_ rfl;simp only[ntmps197,List.size_toArray,List.length_cons,List.length_nil,Nat.reduceAdd,Nat.reduceSub,Array.replicate_succ,Array.replicate_zero,List.push_toArray,List.append_toArray,List.nil_append,List.cons_append]
 gi_wp2
 go_ret
 exact⟨rfl,rfl⟩
theorem below_grown0 {a w:World} (h:Below a.heap.size a w):a.grownBy w none:=⟨h.os,h.tape,h.output,h.size,fun i hi _=>h.block i hi⟩
theorem parts1_in (n:Nat) (hn:1<=n) (l Bs:Nat) (s:ByteArray) (hs:s.size<=9223372036854775000) (hne:s.data.toList≠[]) (J Jx:List Part->World->Prop)
 (hJ:∀ pre (X Y:World),J pre X->Below X.heap.size X Y->J pre Y)
 (hY:∀ pre x W,J pre W->pre.length<(partsOf s.data.toList).length->YieldAt Fence.wide (n - 1) prog l #[encPart x] W fun e W' =>
  (e=.returned (.bool true)/\J (pre++[x]) W'/\KeepT W W') \/ (e=.returned (.bool false)/\Jx (pre++[x]) W'))
 (W:World) (hBs:W.heap[Bs]?=some (.cells #[.string s] 9 (0,0))) (h0:J [] W) :
 CallsIn Fence.wide n prog 246 #[.func (.yield l) #[] #[],.pointer (some ⟨Bs,0,none⟩)] W fun e W'=>(∃ v,e=.returned v) /\
  ((∃ ys,ys=partsOf s.data.toList/\J ys W') \/ (∃ pre,pre <+: partsOf s.data.toList/\Jx pre W')):=by
 have hss:0<s.size:=by
  rw[<-len_of_byte];exact List.length_pos_iff.2 hne
 refine callsIn_of_wp func246 rfl trivial ?_ rfl;simp only[ntmps246,List.size_toArray,List.length_cons,List.length_nil,Nat.reduceAdd,Nat.reduceSub,Array.replicate_succ,Array.replicate_zero,List.push_toArray,List.append_toArray,List.nil_append,List.cons_append]
 gi_wp2
 gi_loopw [3,4] (fun at_ cn wr=>∃ (pre:List Part) (a c:Nat),at_=.int .i64 (a:Int)/\cn=.int .i64 (c:Int)/\a<=s.size/\c<=8/\partsOf s.data.toList=pre++partsN (9 - c) s.data.toList a c/\J pre wr/\wr.heap[Bs]?=some (.cells #[.string s] 9 (0,0)))
  (fun _ cn _=>9 - (intOf cn).toNat)
 case atStart=>exact⟨[],0,0,rfl,rfl,by omega,by omega,by simp[partsOf,hne],h0,hBs⟩
 case round =>
  obtain⟨pre,a,c,rfl,rfl,ha,hc8,hp,hJs,hB⟩:=hrel;have HP:=Lib.hid hp;have HB:=Lib.hid hB;have hcell:wr.cell? ⟨Bs,0,none⟩=some (.string s):=by simp[World.cell?,hB]
  have hne':s.toList.isEmpty=false:=isEmpty_of_ne hne;clear hp hB;obtain⟨⟨⟨o,p,er⟩,en⟩,hf⟩:∃ r,firstP s.data.toList a c=r:=⟨_,rfl⟩;have HF:=Lib.hid hf;clear hf
  have hpl:pre.length<(partsOf s.data.toList).length:=by
   obtain⟨r,hr⟩:=partsN_head hc8 HF.out;rw[HP.out,hr];simp
  gi_wp2_with (refine⟨trivial,?_⟩;gi_at_call 247;refine (callsIn_wide.2 (first_as s a c o p er en _ hs ha (by omega) HF.out)).mono ?_;rintro e w' ⟨rfl,hb1⟩)
  have hb2:Below wr.heap.size wr (w'.alloc (.cells #[.int .i64 (o:Int),.int .i64 (p:Int),.int .i64 (er:Int)] 325)):=hb1.alloc hb1.size _;have hx:=World.alloc_heap_new w' (.cells #[.int .i64 (o:Int),.int .i64 (p:Int),.int .i64 (er:Int)] 325)
  have hB2:(w'.alloc (.cells #[.int .i64 (o:Int),.int .i64 (p:Int),.int .i64 (er:Int)] 325)).heap[Bs]?=some (.cells #[.string s] 9 (0,0)):=by
   have hlt:Bs<wr.heap.size:=(Array.getElem?_eq_some_iff.1 HB.out).1;rw[hb2.block Bs hlt];exact HB.out
  obtain⟨fn,tmps,assign,body,hy,hR⟩:=hY pre (o,p,er) _ (hJ pre _ _ hJs hb2) hpl;simp only[encPart] at hy;have HX:=Lib.hid hx;have HB2:=Lib.hid hB2;clear hx hB2;rw[hy];refine⟨fun _=>hn,hR.mono ?_⟩;rintro e W3 (⟨rfl,hJ3,hk3⟩ | ⟨rfl,hJx3⟩)
  ·have hx3:=hk3 _ _ _ _ (.inl rfl) HX.out
   have hB3:=hk3 _ _ _ _ (.inr rfl) HB2.out;have hc2:W3.cell? ⟨w'.heap.size,2,none⟩=some (.int .i64 (er:Int)):=by simp[World.cell?,hx3]
   have hcs:W3.cell? ⟨Bs,0,none⟩=some (.string s):=by simp[World.cell?,hB3]
   have HB3:=Lib.hid hB3;have HX3:=Lib.hid hx3;have HK:=Lib.hid hk3;clear hx3 hB3 hk3 hy
   by_cases her:er=0
   ·have hn0:=firstP_zero (by rw[len_of_byte];exact ha) (her ▸ HF.out)
    rw[len_of_byte] at hn0;have hen:=hn0.2;have hc7:c<=7:=by omega
    have t1:((er:Int) != 0)=false:=by subst her;rfl
    have HER:=Lib.hid her;clear her hn0
    by_cases hes:en=s.size
    ·have t2:((en:Int) == (s.size:Int))=true:=by simp[hes]
     have HES:=Lib.hid hes;clear hes
     gi_wp2
     refine bodyPost_ret (results_none rfl _ _ _) rfl ?_;exact⟨⟨_,rfl⟩,.inl ⟨_,by rw[HP.out,partsN_stop hc8 HF.out (.inr (by rw[len_of_byte];exact HES.out))],hJ3⟩⟩
    ·have hlt:en<s.size:=by omega
     have t2:((en:Int) == (s.size:Int))=false:=by simp;omega
     by_cases hdot:s[en]=46
     ·have t3:(((s[en]).toNat:Int) != 46)=false:=by rw[hdot];rfl
      have HDOT:=Lib.hid hdot;clear hdot
      gi_wp2
      go_roundw
      case rel=>exact⟨pre++[(o,p,er)],en+1,c+1,by go_num,by go_num,by omega,by omega,by rw[HP.out,partsN_next hc8 HF.out HER.out (by rw[len_of_byte];exact hes) (by rw[get_of_byte hlt,HDOT.out])];simp,hJ3,HB3.out⟩
      case measure=>simp[intOf];omega
     ·have t3:(((s[en]).toNat:Int) != 46)=true:=by
       rw[bne_iff_ne];intro e;exact hdot (UInt8.toNat_inj.1 (by simp;omega))
      have hpN:=partsN_byte hc8 HF.out HER.out (by rw[len_of_byte];exact hes) (by rw[get_of_byte hlt];simpa using hdot);obtain⟨fn',tmps',assign',body',hy',hR'⟩:=hY _ (0,en,6) W3 hJ3 (by rw[HP.out,hpN];simp);have hy2:(Instr.yield l #[.agg #[.int .i64 0,.int .i64 (en:Int),.int .i64 6]]).run prog W3=.ok (.round l fn' tmps' assign' body') W3:=hy';clear hy';have HPN:=Lib.hid hpN;clear hpN hdot
      gi_wp2
      refine hR'.mono ?_;rintro e W4 (⟨rfl,hJ4,hk4⟩ | ⟨rfl,hJx4⟩)
      ·gi_wp2
       refine bodyPost_ret (results_none rfl _ _ _) rfl ?_;exact⟨⟨_,rfl⟩,.inl ⟨_,by rw[HP.out,HPN.out];simp,hJ4⟩⟩
      ·gi_wp2
       refine bodyPost_ret (results_none rfl _ _ _) rfl ?_;exact⟨⟨_,rfl⟩,.inr ⟨_,by rw[HP.out,HPN.out];simp,hJx4⟩⟩
   ·have t1:((er:Int) != 0)=true:=by rw[bne_iff_ne];omega
    gi_wp2
    refine bodyPost_ret (results_none rfl _ _ _) rfl ?_;exact⟨⟨_,rfl⟩,.inl ⟨_,by rw[HP.out,partsN_stop hc8 HF.out (.inl her)],hJ3⟩⟩
  ·clear hy
   gi_wp2
   refine bodyPost_ret (results_none rfl _ _ _) rfl ?_;obtain⟨r,hr⟩:=partsN_head hc8 HF.out;exact⟨⟨_,rfl⟩,.inr ⟨_,⟨r,by rw[HP.out,hr];simp⟩,hJx3⟩⟩
end Go.Proofs.YtlpmiimgacfmkaaGreatDoor
