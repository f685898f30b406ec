/- Contracts of the leaf functions of package lineage: isDigit, isOrdinal, first. -/
import Derived.WalkKit
import Derived.WalkSpells
import Derived.WalkLawsBesides
import Derived.Lib.Hide
import Derived.Test.YtlpmiimgacfmkaaGreatDoorRPlain1
import Derived.Test.YtlpmiimgacfmkaaGreatDoorProg
set_option linter.all false
namespace Go.Proofs.YtlpmiimgacfmkaaGreatDoor
open Go.RowKit
set_option maxHeartbeats 1000000
theorem isDigit_any (c:UInt8) (w:World) :
 Calls Tryz.prog 272 #[.int .u8 (c.toNat:Int)] w fun e w'=>e=.returned (.bool (isD c))∧w=w':=by
 by_cases h1:48≤c.toNat
 ·have h1':(48:Int)≤(c.toNat:Int):=by omega
  go_enter Tryz.func272,Tryz.ntmps272
  go_wp2
  go_ret
  refine⟨?_,rfl⟩
  have e:decide ((c.toNat:Int)≤57)=decide (c.toNat≤57):=by rw[Bool.eq_iff_iff];simp;omega
  rw[e]
  simp[isD,h1]
 ·have h1':¬ (48:Int)≤(c.toNat:Int):=by omega
  go_enter Tryz.func272,Tryz.ntmps272
  go_wp2
  go_ret
  refine⟨?_,rfl⟩
  simp[isD,h1]
def encPart (p:Part):Value:=.agg #[.int .i64 (p.1:Int),.int .i64 (p.2.1:Int),.int .i64 (p.2.2:Int)]
theorem take_snoc1 (s:List UInt8) (a k:Nat) (c:UInt8) (h:s[a+k]?=some c):(s.drop a).take (k+1)=(s.drop a).take k++[c]:=by
 have hlt:k<(s.drop a).length:=by
  have:=(List.getElem?_eq_some_iff.1 h).1
  simp;omega
 rw[List.take_succ_eq_append_getElem hlt]
 congr 1
 have h2:=(List.getElem?_eq_some_iff.1 h).2
 simp[h2]
theorem firstP_err {s:List UInt8} {a count e:Nat} (h:firstErr s a count=e) (he:e≠0):firstP s a count=((0,a,e),a):=by
 unfold firstP;rw[if_neg (by omega),h]
theorem firstP_ok {s:List UInt8} {a count k:Nat} (h:firstErr s a count=0) (hk:run7 s a=k):firstP s a count=((val10 ((s.drop a).take k),a,0),a+k):=by
 unfold firstP;rw[if_pos h,hk]
theorem get_of_byte {s:ByteArray} {a:Nat} (h:a<s.size):s.data.toList[a]?=some s[a]:=by
 have h':a<s.data.toList.length:=by simpa using h
 rw[List.getElem?_eq_getElem h'];rfl
theorem len_of_byte (s:ByteArray):s.data.toList.length=s.size:=by simp
section
variable {s:ByteArray} {a count k:Nat}
theorem fe1 (h:((count:Int) == 8)=true):firstErr s.data.toList a count=9:=by
 have:count=8:=by have:=eq_of_beq h;omega
 unfold firstErr;rw[if_pos this]
theorem fe2 (h:((count:Int) == 8)=false) (h2:((a:Int) == (s.size:Int))=true):firstErr s.data.toList a count=4:=by
 have h:count≠8:=by have:=ne_of_beq_false h;omega
 have h2:a=s.size:=by have:=eq_of_beq h2;omega
 unfold firstErr;rw[if_neg h,if_pos (by rw[len_of_byte];exact h2)]
theorem fe3 (hr:run7 s.data.toList a=k) (h:((count:Int) == 8)=false) (h2:((a:Int) == (s.size:Int))=false) (h3:((a:Int)+k == (a:Int))=true):firstErr s.data.toList a count=6:=by
 have h:count≠8:=by have:=ne_of_beq_false h;omega
 have h2:a≠s.size:=by have:=ne_of_beq_false h2;omega
 have h3:k=0:=by have:=eq_of_beq h3;omega
 unfold firstErr;rw[if_neg h,if_neg (by rw[len_of_byte];exact h2),if_pos (by omega)]
theorem fe4 (hr:run7 s.data.toList a=k) (h:((count:Int) == 8)=false) (h2:((a:Int) == (s.size:Int))=false) (h3:((a:Int)+k == (a:Int))=false) (hlt:a<s.size) (h4:(((s[a]).toNat:Int) == 48)=true):firstErr s.data.toList a count=3:=by
 have h:count≠8:=by have:=ne_of_beq_false h;omega
 have h2:a≠s.size:=by have:=ne_of_beq_false h2;omega
 have h3:k≠0:=by have:=ne_of_beq_false h3;omega
 have h4:s[a]=48:=by have:=eq_of_beq h4;exact UInt8.toNat_inj.1 (by simp;omega)
 unfold firstErr;rw[if_neg h,if_neg (by rw[len_of_byte];exact h2),if_neg (by omega),if_pos (by rw[get_of_byte hlt,h4])]
theorem fe5 (hr:run7 s.data.toList a=k) (h:((count:Int) == 8)=false) (h2:((a:Int) == (s.size:Int))=false) (h3:((a:Int)+k == (a:Int))=false) (hlt:a<s.size) (h4:(((s[a]).toNat:Int) == 48)=false) (h5:6<(a:Int)+k - a):firstErr s.data.toList a count=2:=by
 have h:count≠8:=by have:=ne_of_beq_false h;omega
 have h2:a≠s.size:=by have:=ne_of_beq_false h2;omega
 have h3:k≠0:=by have:=ne_of_beq_false h3;omega
 have h4:s[a]≠48:=by intro e;rw[e] at h4;simp at h4
 unfold firstErr;rw[if_neg h,if_neg (by rw[len_of_byte];exact h2),if_neg (by omega),if_neg (by rw[get_of_byte hlt];simpa using h4),if_pos (by omega)]
theorem fe6 (hr:run7 s.data.toList a=k) (h:((count:Int) == 8)=false) (h2:((a:Int) == (s.size:Int))=false) (h3:((a:Int)+k == (a:Int))=false) (hlt:a<s.size) (h4:(((s[a]).toNat:Int) == 48)=false) (h5:(a:Int)+k - a≤6):firstErr s.data.toList a count=0:=by
 have h:count≠8:=by have:=ne_of_beq_false h;omega
 have h2:a≠s.size:=by have:=ne_of_beq_false h2;omega
 have h3:k≠0:=by have:=ne_of_beq_false h3;omega
 have h4:s[a]≠48:=by intro e;rw[e] at h4;simp at h4
 unfold firstErr;rw[if_neg h,if_neg (by rw[len_of_byte];exact h2),if_neg (by omega),if_neg (by rw[get_of_byte hlt];simpa using h4),if_neg (by omega)]
end
theorem first_any (s:ByteArray) (a count:Nat) (w:World) (hs:s.size≤9223372036854775000) (ha:a≤s.size) (_hc:count≤1000) :
 Calls Tryz.prog 247 #[.string s,.int .i64 (a:Int),.int .i64 (count:Int)] w fun e w' =>
  e=.returned (.tuple #[encPart (firstP s.data.toList a count).1,.int .i64 ((firstP s.data.toList a count).2:Int)])∧Below w.heap.size w w':=by
 go_enter Tryz.func247,Tryz.ntmps247
 go_wp2
 go_loop [8,9] (fun e o=>∃ k:Nat,k≤7∧a+k≤s.size∧e=.int .i64 ((a:Int)+k)∧(∀ c∈(s.data.toList.drop a).take k,isD c=true)∧o=.int .i64 (val10 ((s.data.toList.drop a).take k):Int)) (fun e _=>s.size - (intOf e).toNat)
 case atStart=>exact⟨0,by omega,by omega,by simp,by simp,by simp[val10]⟩
 case round =>
  obtain⟨k,hk7,hks,rfl,hd,rfl⟩:=hrel
  have HD:=Lib.hid hd
  have hv:val10 ((s.data.toList.drop a).take k)<10 ^ 7:=by
   have h1:=val10_lt _ hd
   have h2:((s.data.toList.drop a).take k).length≤7:=by have:=List.length_take_le k (s.data.toList.drop a);omega
   exact Nat.lt_of_lt_of_le h1 (Nat.pow_le_pow_right (by omega) h2)
  clear hd
  by_cases hlt:a+k<s.size
  ·by_cases hk6:k≤6
   ·by_cases hdg:isD s[a+k]=true
    ·have hb:=isD_bounds hdg
     have HS:=Lib.hid (take_snoc1 s.data.toList a k s[a+k] (get_of_byte hlt))
     go_wp2_with (go_at_call 272;refine (isDigit_any _ _).mono ?_;rintro e w' ⟨rfl,rfl⟩)
     go_round
     case rel =>
      refine⟨k+1,by omega,by omega,by go_num,?_,?_⟩
      ·rw[HS.out]
       intro c hc
       rcases List.mem_append.1 hc with h | h
       ·exact HD.out c h
       ·rw[List.mem_singleton] at h;rw[h];exact hdg
      ·rw[HS.out,val10_snoc]
       congr 1
       omega
     case measure=>simp[intOf];omega
    ·have HR:=Lib.hid (run7_eq s.data.toList a k hk7 (by rw[len_of_byte];omega) HD.out (.inr (.inr ⟨_,get_of_byte hlt,by simpa using hdg⟩)))
     have hdf:isD s[a+k]=false:=by simpa using hdg
     clear hdg
     go_wp2_with (go_at_call 272;refine (isDigit_any _ _).mono ?_;rintro e w' ⟨rfl,rfl⟩)
     all_goals first
      | (have hf:=firstP_err (fe1 (s:=s) (a:=a) (by assumption)) (by decide);exact bodyPost_ret (v:=.tuple #[.agg #[.int .i64 0,.int .i64 (a:Int),.int .i64 9],.int .i64 (a:Int)]) (by simp[results,Tryz.results247,go_sem]) rfl ⟨by rw[hf];rfl,(Below.refl _ _).alloc (Nat.le_refl _) _⟩)
      | (have hf:=firstP_err (fe2 (s:=s) (a:=a) (by assumption) (by assumption)) (by decide);exact bodyPost_ret (v:=.tuple #[.agg #[.int .i64 0,.int .i64 (a:Int),.int .i64 4],.int .i64 (a:Int)]) (by simp[results,Tryz.results247,go_sem]) rfl ⟨by rw[hf];rfl,(Below.refl _ _).alloc (Nat.le_refl _) _⟩)
      | (have hf:=firstP_err (fe3 (s:=s) (a:=a) HR.out (by assumption) (by assumption) (by assumption)) (by decide);exact bodyPost_ret (v:=.tuple #[.agg #[.int .i64 0,.int .i64 (a:Int),.int .i64 6],.int .i64 (a:Int)]) (by simp[results,Tryz.results247,go_sem]) rfl ⟨by rw[hf];rfl,(Below.refl _ _).alloc (Nat.le_refl _) _⟩)
      | (have hf:=firstP_err (fe4 (s:=s) (a:=a) HR.out (by assumption) (by assumption) (by assumption) (by assumption) (by assumption)) (by decide);exact bodyPost_ret (v:=.tuple #[.agg #[.int .i64 0,.int .i64 (a:Int),.int .i64 3],.int .i64 (a:Int)]) (by simp[results,Tryz.results247,go_sem]) rfl ⟨by rw[hf];rfl,(Below.refl _ _).alloc (Nat.le_refl _) _⟩)
      | (have hf:=firstP_err (fe5 (s:=s) (a:=a) HR.out (by assumption) (by assumption) (by assumption) (by assumption) (by assumption) (by assumption)) (by decide);exact bodyPost_ret (v:=.tuple #[.agg #[.int .i64 0,.int .i64 (a:Int),.int .i64 2],.int .i64 (a:Int)]) (by simp[results,Tryz.results247,go_sem]) rfl ⟨by rw[hf];rfl,(Below.refl _ _).alloc (Nat.le_refl _) _⟩)
      | (have hf:=firstP_ok (fe6 (s:=s) (a:=a) HR.out (by assumption) (by assumption) (by assumption) (by assumption) (by assumption) (by assumption)) HR.out;exact bodyPost_ret (v:=.tuple #[.agg #[.int .i64 (val10 ((s.data.toList.drop a).take k):Int),.int .i64 (a:Int),.int .i64 0],.int .i64 ((a:Int)+k)]) (by simp[results,Tryz.results247,go_sem]) rfl ⟨by rw[hf];rfl,(Below.refl _ _).alloc (Nat.le_refl _) _⟩)
      | (exfalso;have h2:((a:Int) == (s.size:Int))=false:=by assumption
         have:=ne_of_beq_false h2;omega)
   ·have hk:k=7:=by omega
    have HR:=Lib.hid (run7_eq s.data.toList a k hk7 (by rw[len_of_byte];omega) HD.out (.inr (.inl hk)))
    clear hk
    go_wp2_with (go_at_call 272;refine (isDigit_any _ _).mono ?_;rintro e w' ⟨rfl,rfl⟩)
    all_goals first
     | (have hf:=firstP_err (fe1 (s:=s) (a:=a) (by assumption)) (by decide);exact bodyPost_ret (v:=.tuple #[.agg #[.int .i64 0,.int .i64 (a:Int),.int .i64 9],.int .i64 (a:Int)]) (by simp[results,Tryz.results247,go_sem]) rfl ⟨by rw[hf];rfl,(Below.refl _ _).alloc (Nat.le_refl _) _⟩)
     | (have hf:=firstP_err (fe2 (s:=s) (a:=a) (by assumption) (by assumption)) (by decide);exact bodyPost_ret (v:=.tuple #[.agg #[.int .i64 0,.int .i64 (a:Int),.int .i64 4],.int .i64 (a:Int)]) (by simp[results,Tryz.results247,go_sem]) rfl ⟨by rw[hf];rfl,(Below.refl _ _).alloc (Nat.le_refl _) _⟩)
     | (have hf:=firstP_err (fe3 (s:=s) (a:=a) HR.out (by assumption) (by assumption) (by assumption)) (by decide);exact bodyPost_ret (v:=.tuple #[.agg #[.int .i64 0,.int .i64 (a:Int),.int .i64 6],.int .i64 (a:Int)]) (by simp[results,Tryz.results247,go_sem]) rfl ⟨by rw[hf];rfl,(Below.refl _ _).alloc (Nat.le_refl _) _⟩)
     | (have hf:=firstP_err (fe4 (s:=s) (a:=a) HR.out (by assumption) (by assumption) (by assumption) (by assumption) (by assumption)) (by decide);exact bodyPost_ret (v:=.tuple #[.agg #[.int .i64 0,.int .i64 (a:Int),.int .i64 3],.int .i64 (a:Int)]) (by simp[results,Tryz.results247,go_sem]) rfl ⟨by rw[hf];rfl,(Below.refl _ _).alloc (Nat.le_refl _) _⟩)
     | (have hf:=firstP_err (fe5 (s:=s) (a:=a) HR.out (by assumption) (by assumption) (by assumption) (by assumption) (by assumption) (by assumption)) (by decide);exact bodyPost_ret (v:=.tuple #[.agg #[.int .i64 0,.int .i64 (a:Int),.int .i64 2],.int .i64 (a:Int)]) (by simp[results,Tryz.results247,go_sem]) rfl ⟨by rw[hf];rfl,(Below.refl _ _).alloc (Nat.le_refl _) _⟩)
     | (have hf:=firstP_ok (fe6 (s:=s) (a:=a) HR.out (by assumption) (by assumption) (by assumption) (by assumption) (by assumption) (by assumption)) HR.out;exact bodyPost_ret (v:=.tuple #[.agg #[.int .i64 (val10 ((s.data.toList.drop a).take k):Int),.int .i64 (a:Int),.int .i64 0],.int .i64 ((a:Int)+k)]) (by simp[results,Tryz.results247,go_sem]) rfl ⟨by rw[hf];rfl,(Below.refl _ _).alloc (Nat.le_refl _) _⟩)
     | (exfalso;have h2:((a:Int) == (s.size:Int))=false:=by assumption
        have:=ne_of_beq_false h2;omega)
  ·have HR:=Lib.hid (run7_eq s.data.toList a k hk7 (by rw[len_of_byte];omega) HD.out (.inl (by rw[len_of_byte];omega)))
   go_wp2_with (go_at_call 272;refine (isDigit_any _ _).mono ?_;rintro e w' ⟨rfl,rfl⟩)
   all_goals first
    | (have hf:=firstP_err (fe1 (s:=s) (a:=a) (by assumption)) (by decide);exact bodyPost_ret (v:=.tuple #[.agg #[.int .i64 0,.int .i64 (a:Int),.int .i64 9],.int .i64 (a:Int)]) (by simp[results,Tryz.results247,go_sem]) rfl ⟨by rw[hf];rfl,(Below.refl _ _).alloc (Nat.le_refl _) _⟩)
    | (have hf:=firstP_err (fe2 (s:=s) (a:=a) (by assumption) (by assumption)) (by decide);exact bodyPost_ret (v:=.tuple #[.agg #[.int .i64 0,.int .i64 (a:Int),.int .i64 4],.int .i64 (a:Int)]) (by simp[results,Tryz.results247,go_sem]) rfl ⟨by rw[hf];rfl,(Below.refl _ _).alloc (Nat.le_refl _) _⟩)
    | (have hf:=firstP_err (fe3 (s:=s) (a:=a) HR.out (by assumption) (by assumption) (by assumption)) (by decide);exact bodyPost_ret (v:=.tuple #[.agg #[.int .i64 0,.int .i64 (a:Int),.int .i64 6],.int .i64 (a:Int)]) (by simp[results,Tryz.results247,go_sem]) rfl ⟨by rw[hf];rfl,(Below.refl _ _).alloc (Nat.le_refl _) _⟩)
    | (have hf:=firstP_err (fe4 (s:=s) (a:=a) HR.out (by assumption) (by assumption) (by assumption) (by assumption) (by assumption)) (by decide);exact bodyPost_ret (v:=.tuple #[.agg #[.int .i64 0,.int .i64 (a:Int),.int .i64 3],.int .i64 (a:Int)]) (by simp[results,Tryz.results247,go_sem]) rfl ⟨by rw[hf];rfl,(Below.refl _ _).alloc (Nat.le_refl _) _⟩)
    | (have hf:=firstP_err (fe5 (s:=s) (a:=a) HR.out (by assumption) (by assumption) (by assumption) (by assumption) (by assumption) (by assumption)) (by decide);exact bodyPost_ret (v:=.tuple #[.agg #[.int .i64 0,.int .i64 (a:Int),.int .i64 2],.int .i64 (a:Int)]) (by simp[results,Tryz.results247,go_sem]) rfl ⟨by rw[hf];rfl,(Below.refl _ _).alloc (Nat.le_refl _) _⟩)
    | (have hf:=firstP_ok (fe6 (s:=s) (a:=a) HR.out (by assumption) (by assumption) (by assumption) (by assumption) (by assumption) (by assumption)) HR.out;exact bodyPost_ret (v:=.tuple #[.agg #[.int .i64 (val10 ((s.data.toList.drop a).take k):Int),.int .i64 (a:Int),.int .i64 0],.int .i64 ((a:Int)+k)]) (by simp[results,Tryz.results247,go_sem]) rfl ⟨by rw[hf];rfl,(Below.refl _ _).alloc (Nat.le_refl _) _⟩)
    | (exfalso;have h2:((a:Int) == (s.size:Int))=false:=by assumption
       have:=ne_of_beq_false h2;omega)
theorem first_as (s:ByteArray) (a count o p er en:Nat) (w:World) (hs:s.size≤9223372036854775000) (ha:a≤s.size) (hc:count≤1000) (hf:firstP s.data.toList a count=((o,p,er),en)) :
 Calls Tryz.prog 247 #[.string s,.int .i64 (a:Int),.int .i64 (count:Int)] w fun e w' =>
  e=.returned (.tuple #[.agg #[.int .i64 (o:Int),.int .i64 (p:Int),.int .i64 (er:Int)],.int .i64 (en:Int)])∧Below w.heap.size w w':=by
 refine (first_any s a count w hs ha hc).mono fun e w' ⟨he,hb⟩=>⟨?_,hb⟩
 rw[he,hf]
 rfl
theorem isEmpty_of_ne {s:ByteArray} (h:s.data.toList≠[]):s.toList.isEmpty=false:=by
 rw[ByteArray.toList_eq]
 simpa using h
theorem isEmpty_of_nil {s:ByteArray} (h:s.data.toList=[]):s.toList.isEmpty=true:=by
 rw[ByteArray.toList_eq,h]
 rfl
end Go.Proofs.YtlpmiimgacfmkaaGreatDoor
