/- The count of draws never goes down: of every run of an operation, of every step of the machine, of every call. -/
import Derived.Calls
import Derived.RunT
import Derived.Sort.Grow
import Derived.Deep.CutBlock
import Derived.Deep.Cut
import Derived.Test.YtlpmiimgacfmkaaGreatDoorMLin3
import Derived.Test.YtlpmiimgacfmkaaGreatDoorMBase
import Derived.Test.YtlpmiimgacfmkaaGreatDoorMShelf1
import Derived.Test.YtlpmiimgacfmkaaGreatDoorMRd2
set_option linter.all false
namespace Go.Proofs.YtlpmiimgacfmkaaGreatDoor
open Go.Proofs.Tryz
open Go
section
variable {α:Type} {p:Program} {s:Sem α} {w w':World} {x:α} {hh:Halt} {es es':Array Event} {n:Nat}
end
section
variable {p:Program} {n:Nat} {w:World}
end
open Go.RowKit Go.Sort
set_option maxHeartbeats 1000000
theorem Row.len1 {α:Type} {w:World} {B n:Nat} {A:Option Addr} {f:α->Value} {xs:List α} (h:Row w B 1 A n (xs.map f)):xs.length=n:=by simpa using h.1
def cmpL:List Nat->List Nat->Int
 | [],[]=>0
 | [],_::_=>-1
 | _::_,[]=>1
 | x::xs,y::ys=>if x<y then -1 else if y<x then 1 else cmpL xs ys
theorem cmpL_drop {xs ys:List Nat}:∀ (k:Nat),(∀ j,j<k->xs[j]?=ys[j]?)->k<=xs.length->k<=ys.length->cmpL xs ys=cmpL (xs.drop k) (ys.drop k)
 | 0,_,_,_=>by simp
 | k+1,h,hx,hy=>by
  rw[cmpL_drop k (fun j hj=>h j (by omega)) (by omega) (by omega)];rw[List.drop_eq_getElem_cons (i:=k) (by omega),List.drop_eq_getElem_cons (l:=ys) (i:=k) (by omega)];have e:=h k (by omega);rw[lge (by omega),lge (by omega)] at e
  injection e with e
  rw[cmpL,if_neg (by omega),if_neg (by omega)]
theorem sliceCompare_any (A A':Option Addr) (n m c d:Nat) (xs ys:List Nat) (w:World) (hn:n<=1000) (hm:m<=1000) (hbx:∀ x∈xs,x<=10000000) (hby:∀ x∈ys,x<=10000000)
 (ha:Row w w.heap.size 1 A n (xs.map encNat)) (hb:Row w w.heap.size 1 A' m (ys.map encNat)) :
 Calls prog 185 #[.slice A n c,.slice A' m d] w fun e w'=>e=.returned (.int .i64 (cmpL xs ys))/\w=w':=by
 have hlx:=Hd ha.len1;have hly:=Hd hb.len1;have HBX:=Hd hbx;have HBY:=Hd hby;clear hbx hby
 go_enter func185,ntmps185
 go_wp2
 go_loop [11] (fun i=>∃ k:Nat,k<=n/\k<=m/\i=.int .i64 k/\(∀ j,j<k->xs[j]?=ys[j]?)) (fun i=>n - (intOf i).toNat)
 case atStart=>exact⟨0,by omega,by omega,rfl,fun j hj=>absurd hj (by omega)⟩
 case round =>
  obtain⟨k,hk,hkm,rfl,hall⟩:=hrel;have hd:=cmpL_drop k hall (by rw[hlx.out];exact hk) (by rw[hly.out];exact hkm);have HD:=Hd hd;have HALL:=Hd hall;clear hall hd
  by_cases hlt:k<n
  ·obtain⟨b1,o1,u,rfl,_,hx0,cx⟩:=ha.at1 hlt
   rw[List.getElem?_map] at hx0;obtain⟨x,hx,rfl⟩:=Option.map_eq_some_iff.1 hx0;clear hx0;have hxb:=HBX.out x (lmg hx)
   have hdx:xs.drop k=x::xs.drop (k+1):=by
    have hl:=(lgs.1 hx).1;rw[List.drop_eq_getElem_cons hl,(lgs.1 hx).2]
   have HX:=Hd hx;have HDX:=Hd hdx;clear hx hdx;unfold encNat at cx
   by_cases hltm:k<m
   ·obtain⟨b2,o2,u,rfl,_,hy0,cy⟩:=hb.at1 hltm
    rw[List.getElem?_map] at hy0;obtain⟨y,hy,rfl⟩:=Option.map_eq_some_iff.1 hy0;clear hy0;have hyb:=HBY.out y (lmg hy)
    have hdy:ys.drop k=y::ys.drop (k+1):=by
     have hl:=(lgs.1 hy).1;rw[List.drop_eq_getElem_cons hl,(lgs.1 hy).2]
    have HY:=Hd hy;have HDY:=Hd hdy;clear hy hdy;unfold encNat at cy;have call:=fun W=>Tryz.cmp_Compare_int (x:Int) (y:Int) W
    by_cases hxy:x<y
    ·have hc:Lib.compareInt (x:Int) (y:Int)=-1:=by unfold Lib.compareInt;rw[if_pos (by omega)]
     rw[hc] at call;have CALL:=Hd call;clear call hc
     go_wp2_with fail
     refine (CALL.out _).mono ?_;rintro e w' ⟨rfl,rfl⟩
     go_wp2_with fail
     go_ret
     refine⟨?_,rfl⟩;rw[HD.out,HDX.out,HDY.out,cmpL,if_pos hxy];rfl
    ·by_cases hyx:y<x
     ·have hc:Lib.compareInt (x:Int) (y:Int)=1:=by unfold Lib.compareInt;rw[if_neg (by omega),if_pos (by omega)]
      rw[hc] at call;have CALL:=Hd call;clear call hc
      go_wp2_with fail
      refine (CALL.out _).mono ?_;rintro e w' ⟨rfl,rfl⟩
      go_wp2_with fail
      go_ret
      refine⟨?_,rfl⟩;rw[HD.out,HDX.out,HDY.out,cmpL,if_neg hxy,if_pos hyx];rfl
     ·have hc:Lib.compareInt (x:Int) (y:Int)=0:=by unfold Lib.compareInt;rw[if_neg (by omega),if_neg (by omega)]
      have hee:x=y:=by omega
      have HEE:=Hd hee;rw[hc] at call;have CALL:=Hd call;clear call hc hee
      go_wp2_with fail
      refine (CALL.out _).mono ?_;rintro e w' ⟨rfl,rfl⟩
      go_wp2_with fail
      go_round
      case rel=>exact⟨k+1,by omega,by omega,by go_num,fun j hj=>by
       rcases Nat.lt_or_ge j k with h | h
       ·exact HALL.out j h
       ·obtain rfl:j=k:=by omega
        rw[HX.out,HY.out,HEE.out]⟩
      case measure=>simp[intOf];omega
   ·go_wp2_with fail
    go_ret
    refine⟨?_,rfl⟩;rw[HD.out,HDX.out,List.drop_eq_nil_of_le (show ys.length<=_ by rw[hly.out];omega)];rfl
  ·by_cases hnm:n<m
   ·obtain⟨y,ys',hy⟩:∃ y ys',ys.drop k=y::ys':=⟨_,_,List.drop_eq_getElem_cons (by rw[hly.out];omega)⟩
    have HY:=Hd hy;clear hy
    go_wp2_with fail
    go_ret
    refine⟨?_,rfl⟩;rw[HD.out,HY.out,List.drop_eq_nil_of_le (by rw[hlx.out];omega)];rfl
   ·go_wp2_with fail
    go_ret
    refine⟨?_,rfl⟩;rw[HD.out,List.drop_eq_nil_of_le (show ys.length<=_ by rw[hly.out];omega),List.drop_eq_nil_of_le (by rw[hlx.out];omega)];rfl
theorem ordsOf_len (s:Nm):(ordsOf s).length<=10:=by
 unfold ordsOf;split
 ·have:=partsOf_len s;simpa using this
 ·simp
theorem firstP_small (s:Nm) (a c:Nat):(firstP s a c).1.1<=10000000:=by
 unfold firstP;split
 ·simp only
  have hd:∀ x∈(s.drop a).take (run7 s a),isD x=true:=by
   intro x hx
   have e:(s.drop a).take (run7 s a)=((s.drop a).take 7).takeWhile isD:=by
    unfold run7;have h1:((s.drop a).take 7).takeWhile isD <+: (s.drop a):=(List.takeWhile_prefix _).trans (List.take_prefix _ _);exact (List.prefix_iff_eq_take.1 h1).symm
   rw[e] at hx;have:=List.all_takeWhile (p:=isD) (l:=(s.drop a).take 7);rw[List.all_eq_true] at this;exact this x hx
  have h1:=val10_lt _ hd
  have h2:((s.drop a).take (run7 s a)).length<=7:=by
   have:=List.length_take_le (run7 s a) (s.drop a);have:=run7_le s a;omega
  have h3:10 ^ ((s.drop a).take (run7 s a)).length<=10 ^ 7:=Nat.pow_le_pow_right (by omega) h2;omega
 ·simp
theorem partsN_small:∀ (f:Nat) (s:Nm) (a c:Nat),∀ x∈partsN f s a c,x.1<=10000000
 | 0,_,_,_,x,hx=>by simp[partsN] at hx
 | f+1,s,a,c,x,hx=>by
  rw[partsN,List.mem_cons] at hx
  rcases hx with h | h
  ·rw[h];exact firstP_small s a c
  ·split at h
   ·simp at h
   ·split at h
    ·rw[lms] at h;rw[h];simp
    ·exact partsN_small f s _ _ x h
theorem ordsOf_small (s:Nm):∀ x∈ordsOf s,x<=10000000:=by
 intro x hx;unfold ordsOf at hx;split at hx
 ·obtain⟨y,hy,rfl⟩:=List.mem_map.1 hx
  unfold partsOf at hy;split at hy
  ·simp at hy
  ·exact partsN_small 9 s 0 0 y hy
 ·simp at hx
theorem cmpL_self:∀ l:List Nat,cmpL l l=0
 | []=>rfl
 | x::l=>by rw[cmpL,if_neg (by omega),if_neg (by omega)];exact cmpL_self l
theorem Compare_valid (x y:ByteArray) (w:World) (hx:x.size<=140737488355328) (hy:y.size<=140737488355328) (vx:validB x.data.toList=true) (vy:validB y.data.toList=true) :
 Calls prog 152 #[.string x,.string y] w fun e w'=>e=.returned (.int .i64 (cmpL (ordsOf x.data.toList) (ordsOf y.data.toList)))/\Below w.heap.size w w':=by
 by_cases h1:x.data.toList=y.data.toList
 ·have t1:=bytes_eq h1
  have HE:Hid (cmpL (ordsOf x.data.toList) (ordsOf y.data.toList)=0):=by unfold Hid;rw[h1];exact cmpL_self _
  clear h1
  go_enter func152,ntmps152
  go_wp2_with fail
  go_ret
  exact⟨by rw[HE.out];rfl,Below.refl _ _⟩
 ·have t1:=bytes_ne h1
  clear h1
  go_enter func152,ntmps152
  go_wp2_with fail
  refine (Valid_any x _ (by omega)).mono ?_;rintro e w1 ⟨rfl,hb1⟩
  go_wp2_with fail
  refine (Valid_any y _ (by omega)).mono ?_;rintro e w2 ⟨rfl,hb2⟩
  go_wp2_with fail
  refine (Ordinals_any x _ (by omega)).mono ?_;rintro e w3 ⟨v3,rfl,ho3,hb3⟩;obtain⟨A3,c3,rfl,hr3⟩:=own_form ho3
  go_wp2_with fail
  refine (Ordinals_any y _ (by omega)).mono ?_;rintro e w4 ⟨v4,rfl,ho4,hb4⟩;obtain⟨A4,c4,rfl,hr4⟩:=own_form ho4;have hr3':=(hr3.below hb4).more hb4.size;have hl3:=ordsOf_len x.data.toList;have hl4:=ordsOf_len y.data.toList;clear ho3 ho4
  go_wp2_with fail
  refine (sliceCompare_any A3 A4 _ _ c3 c4 _ _ w4 (by omega) (by omega) (ordsOf_small _) (ordsOf_small _) hr3' hr4).mono ?_;rintro e w5 ⟨rfl,rfl⟩
  go_wp2_with fail
  go_ret
  exact⟨rfl,((hb1.trans (hb2.mono hb1.size)).trans (hb3.mono (Nat.le_trans hb1.size hb2.size))).trans (hb4.mono (Nat.le_trans (Nat.le_trans hb1.size hb2.size) hb3.size))⟩
open Go.RowKit
set_option maxRecDepth 100000
set_option maxHeartbeats 4000000
structure ON where
 kind:Int
 owner:Nm
 number:Int
 index:Int
 text:Nm
def ON.cells (n:ON):List Value:=[.int .i64 n.kind,encN n.owner,.int .i64 n.number,.int .i64 n.index,encN n.text]
def encO (n:ON):Value:=.agg #[.int .i64 n.kind,encN n.owner,.int .i64 n.number,.int .i64 n.index,encN n.text]
def kindB (k:Int):Bool:=decide (1<=k/\k<=20)
def withinB (n m:Int):Bool:=decide (0<=n/\n<=m)
def wordC (c:UInt8):Bool:=decide (33<=c.toNat/\c.toNat<=126/\c.toNat≠47)
def wordB (s:Nm):Bool:=decide (s≠[]/\s.length<=32) && s.all wordC
theorem isKind_any (k:Int) (w:World):Calls prog 114 #[.int .i64 k] w fun e w'=>e=.returned (.bool (kindB k))/\w=w':=by
 by_cases h1:1<=k
 ·by_cases h2:k<=20
  ·have e:kindB k=true:=by simp[kindB,h1,h2]
   rw[e]
   go_enter func114,ntmps114
   go_wp2_with fail
   go_ret
   exact⟨rfl,rfl⟩
  ·have e:kindB k=false:=by simp only[kindB,decide_eq_false_iff_not];omega
   rw[e];have h2':decide (k<=20)=false:=by simpa using h2
   go_enter func114,ntmps114
   go_wp2_with fail
   go_ret
   exact⟨rfl,rfl⟩
 ·have e:kindB k=false:=by simp only[kindB,decide_eq_false_iff_not];omega
  rw[e];have h1':decide (1<=k)=false:=by simpa using h1
  go_enter func114,ntmps114
  go_wp2_with fail
  go_ret
  exact⟨rfl,rfl⟩
theorem within_any (n m:Int) (w:World):Calls prog 116 #[.int .i64 n,.int .i64 m] w fun e w'=>e=.returned (.bool (withinB n m))/\w=w':=by
 by_cases h1:0<=n
 ·by_cases h2:n<=m
  ·have e:withinB n m=true:=by simp[withinB,h1,h2]
   rw[e]
   go_enter func116,ntmps116
   go_wp2_with fail
   go_ret
   exact⟨rfl,rfl⟩
  ·have e:withinB n m=false:=by simp only[withinB,decide_eq_false_iff_not];omega
   rw[e];have h2':decide (n<=m)=false:=by simpa using h2
   go_enter func116,ntmps116
   go_wp2_with fail
   go_ret
   exact⟨rfl,rfl⟩
 ·have e:withinB n m=false:=by simp only[withinB,decide_eq_false_iff_not];omega
  rw[e];have h1':decide (0<=n)=false:=by simpa using h1
  go_enter func116,ntmps116
  go_wp2_with fail
  go_ret
  exact⟨rfl,rfl⟩
theorem ltwithin_any (n a m:Int) (w:World):Calls prog 124 #[.int .i64 n,.int .i64 a,.int .i64 m] w fun e w'=>e=.returned (.bool (decide (a<=n/\n<=m)))/\w=w':=by
 by_cases h1:a<=n
 ·by_cases h2:n<=m
  ·rw[show decide (a<=n/\n<=m)=true by simp[h1,h2]]
   go_enter func124,ntmps124
   go_wp2_with fail
   go_ret
   exact⟨rfl,rfl⟩
  ·rw[show decide (a<=n/\n<=m)=false by simp[h2]]
   have h2':decide (n<=m)=false:=by simpa using h2
   go_enter func124,ntmps124
   go_wp2_with fail
   go_ret
   exact⟨rfl,rfl⟩
 ·rw[show decide (a<=n/\n<=m)=false by simp[h1]]
  have h1':decide (a<=n)=false:=by simpa using h1
  go_enter func124,ntmps124
  go_wp2_with fail
  go_ret
  exact⟨rfl,rfl⟩
theorem all_snoc {s:Nm} {k:Nat} {c:UInt8} {p:UInt8->Bool} (h:s[k]?=some c):(s.take (k+1)).all p=((s.take k).all p && p c):=by
 rw[take_snoc' h,List.all_append];simp
theorem Word_any (s:ByteArray) (w:World) (hs:s.size<=9223372036854775000):Calls prog 117 #[.string s] w fun e w'=>e=.returned (.bool (wordB s.data.toList))/\w=w':=by
 have hlen:s.data.toList.length=s.size:=len_of_byte s
 by_cases h0:s.data.toList=[]
 ·have e:wordB s.data.toList=false:=by simp[wordB,h0]
  rw[e];have h0':=isEmpty_of_nil h0;have h0'' : s.toList = [] := by rw [ByteArray.toList_eq]; exact h0
  clear h0 hlen e
  go_enter func117,ntmps117
  go_wp2_with fail
  go_ret
  exact⟨rfl,rfl⟩
 ·have h0':=isEmpty_of_ne h0
  have h0n:s.toList≠[]:=by rw[ByteArray.toList_eq];exact h0
  have h0b:(s.toList == [])=false:=by simpa using h0n
  by_cases h1:32<s.size
  ·have e:wordB s.data.toList=false:=by simp[wordB];intro _ h;omega
   rw[e];have h1':(32:Int)<(s.size:Int):=by omega
   clear h0 hlen e
   go_enter func117,ntmps117
   go_wp2_with fail
   go_ret
   exact⟨rfl,rfl⟩
  ·have e:wordB s.data.toList=s.data.toList.all wordC:=by
    unfold wordB;rw[show decide (s.data.toList≠[]/\s.data.toList.length<=32)=true by simp only[decide_eq_true_eq];exact⟨h0,by omega⟩];simp
   rw[e];have h1':¬ (32:Int)<(s.size:Int):=by omega
   have HL:=Hd hlen;obtain⟨r,hr⟩:=nmd (s.data.toList.all wordC);rw[hr];have HR:=Hd hr;clear h0 hlen e hr
   go_enter func117,ntmps117
   go_wp2_with fail
   go_loop [13] (fun i=>∃ k:Nat,k<=s.size/\i=.int .i64 (k:Int)/\(s.data.toList.take k).all wordC=true) (fun i=>s.size - (intOf i).toNat)
   case atStart=>exact⟨0,by omega,rfl,rfl⟩
   case round =>
    obtain⟨k,hk,rfl,hall⟩:=hrel;have HALL:=Hd hall;clear hall
    by_cases hlt:k<s.size
    ·have hlt':(k:Int)<(s.size:Int):=by omega
     have hg:=get_of_byte hlt
     have hbad:wordC s[k]=false->r=false:=fun hb=>by
      rw[<-HR.out];rw[Bool.eq_false_iff];intro ht;rw[List.all_eq_true] at ht;have:=ht s[k] (lmg hg);rw[hb] at this
      cases this
     have HG:=Hd hg;have HBAD:=Hd hbad;clear hg hbad
     by_cases c1:s[k].toNat<33
     ·have c1':(s[k].toNat:Int)<33:=by omega
      have e:=HBAD.out (by simp only[wordC,decide_eq_false_iff_not];omega);subst e
      go_wp2_with fail
      go_ret
      exact⟨rfl,rfl⟩
     ·have c1':¬ (s[k].toNat:Int)<33:=by omega
      by_cases c2:126<s[k].toNat
      ·have c2':(126:Int)<(s[k].toNat:Int):=by omega
       have e:=HBAD.out (by simp only[wordC,decide_eq_false_iff_not];omega);subst e
       go_wp2_with fail
       go_ret
       exact⟨rfl,rfl⟩
      ·have c2':¬ (126:Int)<(s[k].toNat:Int):=by omega
       by_cases c3:s[k].toNat=47
       ·have c3':((s[k].toNat:Int) == 47)=true:=by simp;omega
        have e:=HBAD.out (by simp only[wordC,decide_eq_false_iff_not];omega);subst e;clear c3
        go_wp2_with fail
        go_ret
        exact⟨rfl,rfl⟩
       ·have c3':((s[k].toNat:Int) == 47)=false:=by simp;omega
        have hall2:(s.data.toList.take (k+1)).all wordC=true:=by rw[all_snoc HG.out,HALL.out];simp only[wordC,Bool.true_and,decide_eq_true_eq];omega
        have HALL2:=Hd hall2;clear hall2 c3
        go_wp2_with fail
        go_round
        case rel=>exact⟨k+1,by omega,by go_num,HALL2.out⟩
        case measure=>simp[intOf];omega
    ·have hk2:k=s.size:=by omega
     have e:r=true:=by
      rw[<-HR.out];have h:=HALL.out;rw[hk2,List.take_of_length_le (by rw[HL.out];exact nlr _)] at h;exact h
     subst e;have hlt':¬ (k:Int)<(s.size:Int):=by omega
     clear hk2
     go_wp2_with fail
     go_ret
     exact⟨rfl,rfl⟩
def neB (s:Nm):Bool:=decide (s≠[])
def tE1 (u:Usage) (n:ON):Bool:=!u.owner && neB n.owner
def tE2 (u:Usage) (n:ON):Bool:=!u.number && decide (n.number≠0)
def tE3 (u:Usage) (n:ON):Bool:=!u.index && decide (n.index≠0)
def tE4 (u:Usage) (n:ON):Bool:=!u.text && neB n.text
def tV (u:Usage) (n:ON):Bool:=u.owner && !validB n.owner
def tN (u:Usage) (n:ON):Bool:=u.number && !withinB n.number 1073741824
def tI (u:Usage) (n:ON):Bool:=u.index && !withinB n.index u.most
def tW (u:Usage) (n:ON):Bool:=u.text && !wordB n.text
def checkU (u:Usage) (n:ON):Int :=
 if tE1 u n then 1 else if tE2 u n then 1 else if tE3 u n then 1 else if tE4 u n then 1 else if tV u n then 12 else if tN u n then 2 else if tI u n then 2 else if tW u n then 12 else 0
def checkO (n:ON):Int:=if kindB n.kind then checkU (us n.kind.toNat) n else 11
theorem len_data (s:ByteArray):s.size=s.data.toList.length:=by rw[Lib.size_eq]
theorem us_cells {w:World} (hok:Ok w) {k:Nat} (hk:k<21):w.cell? ⟨0,k*6,none⟩=some (encN (us k).word)/\w.cell? ⟨0,k*6+1,none⟩=some (.bool (us k).owner)/\w.cell? ⟨0,k*6+2,none⟩=some (.bool (us k).number)/\w.cell? ⟨0,k*6+3,none⟩=some (.bool (us k).index)/\w.cell? ⟨0,k*6+4,none⟩=some (.bool (us k).text)/\w.cell? ⟨0,k*6+5,none⟩=some (.int .i64 (us k).most) :=
 ⟨hok.uss k hk 0 _ rfl,hok.uss k hk 1 _ rfl,hok.uss k hk 2 _ rfl,hok.uss k hk 3 _ rfl,hok.uss k hk 4 _ rfl,hok.uss k hk 5 _ rfl⟩
def ChkPost (w:World) (r:Int) (e:Ending) (w':World):Prop:=e=.returned (.int .i64 r)/\Fr [] w w'
theorem Check_any (n:ON) (w:World) (hok:Ok w) (ho:n.owner.length<=140737488355328) (ht:n.text.length<=140737488355328):Calls prog 53 #[encO n] w (ChkPost w (checkO n)):=by
 obtain⟨kind,owner,number,index,text⟩:=n;unfold encO checkO;simp only at ho ht ⊢;obtain⟨os,hos,hos2,hos3⟩:=str_of owner;obtain⟨ts,hts,hts2,hts3⟩:=str_of text;rw[hos,hts];have hik:=fun W=>isKind_any kind W
 cases hkb:kindB kind with
 | false =>
  rw[hkb] at hik;have HIK:=Hd hik;clear hik hkb hos hts
  go_enter func53,ntmps53
  go_wp2_with ((go_at_call 114;(with_reducible refine (HIK.out _).mono ?_);rintro e w1 ⟨rfl,rfl⟩))
  go_ret
  exact⟨rfl,(Fq [] w).alloc _⟩
 | true =>
  obtain⟨k,hk,hk21⟩:∃ k:Nat,kind=(k:Int)/\k<21:=by
   simp only[kindB,decide_eq_true_eq] at hkb;exact⟨kind.toNat,by omega,by omega⟩
  subst hk;rw[hkb] at hik;rw[if_pos rfl,show ((k:Nat):Int).toNat=k from rfl];obtain⟨w1,hw1,hb1,hf1⟩:=bxn w #[.int .i64 (k:Int),.string os,.int .i64 number,.int .i64 index,.string ts] 31;obtain⟨e0,e1,e2,e3,e4,e5⟩:=us_cells (hok.fr0 hf1) hk21;obtain⟨u,hu⟩:=nmd (us k);rw[hu] at e0 e1 e2 e3 e4 e5 ⊢;obtain⟨uw,uo,un,ui,ut,um⟩:=u;simp only at e0 e1 e2 e3 e4 e5;obtain⟨r,hr⟩:=nmd (checkU ⟨uw,uo,un,ui,ut,um⟩ ⟨(k:Int),owner,number,index,text⟩);rw[hr];unfold checkU tE1 tE2 tE3 tE4 tV tN tI tW at hr;simp only at hr;have HR:=Hd hr;clear hr;obtain⟨us,hus,_,_⟩:=str_of uw;rw[hus] at e0;have x0:=hb1.c 0;simp only[List.getElem?_toArray,List.getElem?_cons_zero,List.getElem?_cons_succ] at x0;have hk0:(k:Int)<21:=by omega
  have HIK:=Hd hik;have HW1:=Hd hw1;have HB1:=Hd hb1;have HF1:=Hd hf1;clear hik hkb hos hts hu hus hw1 hb1 hf1 hos3 hts3
  go_enter func53,ntmps53
  go_upto_region 1 with fail
  rw[HW1.out]
  go_upto_region 4 with ((go_at_call 114;(with_reducible refine (HIK.out _).mono ?_);rintro e w1 ⟨rfl,rfl⟩))
  obtain⟨w2,hw2⟩:=nmd (w1.alloc (.cells #[.string us,.bool uo,.bool un,.bool ui,.bool ut,.int .i64 um] 216));have hf2:Fr [] w w2:=by rw[<-hw2];exact HF1.out.alloc _
  have hn2:BoxN w2 w.heap.size 31 #[.int .i64 (k:Int),.string os,.int .i64 number,.int .i64 index,.string ts]:=by rw[<-hw2];exact HB1.out.alloc _
  have hu2:BoxN w2 w1.heap.size 216 #[.string us,.bool uo,.bool un,.bool ui,.bool ut,.int .i64 um]:=by rw[<-hw2];exact BoxN.new w1 _ _
  rw[hw2];have HF2:=Hd hf2;have HN2:=Hd hn2;have HU2:=Hd hu2;clear hw2 hf2 hn2 hu2 e0 e1 e2 e3 e4 e5 x0 hk0 hok;have n1:=HN2.out.k1;have n2:=HN2.out.k2;have n3:=HN2.out.k3;have n4:=HN2.out.k4;have v1:=HU2.out.k1;have v2:=HU2.out.k2;have v3:=HU2.out.k3;have v4:=HU2.out.k4
  go_upto_region 4 with fail
  go_cut [12] from 13 to 20 (fun s W=>s=.bool (!uo && neB owner)/\w2=W)
  case first =>
   cases uo with
   | true =>
    go_wp2_with fail
    go_meet
    exact⟨rfl,rfl⟩
   | false =>
    by_cases hx:owner=[]
    ·have hx1:os.data.toList=[]:=by rw[hos2];exact hx
     have hx2:=isEmpty_of_nil hx1;have hx3:os.toList=[]:=by rw[ByteArray.toList_eq];exact hx1
     have hx4:(!false && neB owner)=false:=by simp[neB,hx]
     have HX4:=Hd hx4;clear hx hx1 hx4
     go_wp2_with fail
     go_meet
     exact⟨congrArg Value.bool HX4.out.symm,rfl⟩
    ·have hx1:os.data.toList≠[]:=by rw[hos2];exact hx
     have hx2:=isEmpty_of_ne hx1;have hx3:os.toList≠[]:=by rw[ByteArray.toList_eq];exact hx1
     have hx5:(os.toList == [])=false:=by simpa using hx3
     have hx4:(!false && neB owner)=true:=by simp[neB,hx]
     have HX4:=Hd hx4;clear hx hx1 hx4
     go_wp2_with fail
     go_meet
     exact⟨congrArg Value.bool HX4.out.symm,rfl⟩
  case rest =>
  obtain⟨rfl,rfl⟩:=hcut
  cases hB:(!uo && neB owner) with
  | true =>
   have e:=HR.out;rw[if_pos hB] at e;subst e;clear HR hB
   go_wp2_with fail
   go_ret
   exact⟨rfl,HF2.out⟩
  | false =>
  have e:=HR.out;rw[if_neg (by rw[hB];simp)] at e
  replace HR:=Hd e
  clear hB e
  go_upto_region 5 with fail
  go_cut [12] from 21 to 28 (fun s W=>s=.bool (!un && decide (number≠0))/\w2=W)
  case first =>
   cases un with
   | true =>
    go_wp2_with fail
    go_meet
    exact⟨rfl,rfl⟩
   | false =>
    by_cases hx:number=0
    ·have hx1:(number == 0)=true:=by simp[hx]
     have hx4:(!false && decide (number≠0))=false:=by simp[hx]
     have HX4:=Hd hx4;clear hx4;subst hx
     go_wp2_with fail
     go_meet
     exact⟨congrArg Value.bool HX4.out.symm,rfl⟩
    ·have hx1:(number == 0)=false:=by simp[hx]
     have hx5:(number != 0)=true:=by simp[hx]
     have hx4:(!false && decide (number≠0))=true:=by simp[hx]
     have HX4:=Hd hx4;clear hx4 hx
     go_wp2_with fail
     go_meet
     exact⟨congrArg Value.bool HX4.out.symm,rfl⟩
  case rest =>
  obtain⟨rfl,rfl⟩:=hcut
  cases hB:(!un && decide (number≠0)) with
  | true =>
   have e:=HR.out;rw[if_pos hB] at e;subst e;clear HR hB
   go_wp2_with fail
   go_ret
   exact⟨rfl,HF2.out⟩
  | false =>
  have e:=HR.out;rw[if_neg (by rw[hB];simp)] at e
  replace HR:=Hd e
  clear hB e
  go_upto_region 6 with fail
  go_cut [12] from 29 to 36 (fun s W=>s=.bool (!ui && decide (index≠0))/\w2=W)
  case first =>
   cases ui with
   | true =>
    go_wp2_with fail
    go_meet
    exact⟨rfl,rfl⟩
   | false =>
    by_cases hx:index=0
    ·have hx1:(index == 0)=true:=by simp[hx]
     have hx4:(!false && decide (index≠0))=false:=by simp[hx]
     have HX4:=Hd hx4;clear hx4;subst hx
     go_wp2_with fail
     go_meet
     exact⟨congrArg Value.bool HX4.out.symm,rfl⟩
    ·have hx1:(index == 0)=false:=by simp[hx]
     have hx5:(index != 0)=true:=by simp[hx]
     have hx4:(!false && decide (index≠0))=true:=by simp[hx]
     have HX4:=Hd hx4;clear hx4 hx
     go_wp2_with fail
     go_meet
     exact⟨congrArg Value.bool HX4.out.symm,rfl⟩
  case rest =>
  obtain⟨rfl,rfl⟩:=hcut
  cases hB:(!ui && decide (index≠0)) with
  | true =>
   have e:=HR.out;rw[if_pos hB] at e;subst e;clear HR hB
   go_wp2_with fail
   go_ret
   exact⟨rfl,HF2.out⟩
  | false =>
  have e:=HR.out;rw[if_neg (by rw[hB];simp)] at e
  replace HR:=Hd e
  clear hB e
  go_upto_region 7 with fail
  go_cut [12] from 37 to 44 (fun s W=>s=.bool (!ut && neB text)/\w2=W)
  case first =>
   cases ut with
   | true =>
    go_wp2_with fail
    go_meet
    exact⟨rfl,rfl⟩
   | false =>
    by_cases hx:text=[]
    ·have hx1:ts.data.toList=[]:=by rw[hts2];exact hx
     have hx2:=isEmpty_of_nil hx1;have hx3:ts.toList=[]:=by rw[ByteArray.toList_eq];exact hx1
     have hx4:(!false && neB text)=false:=by simp[neB,hx]
     have HX4:=Hd hx4;clear hx hx1 hx4
     go_wp2_with fail
     go_meet
     exact⟨congrArg Value.bool HX4.out.symm,rfl⟩
    ·have hx1:ts.data.toList≠[]:=by rw[hts2];exact hx
     have hx2:=isEmpty_of_ne hx1;have hx3:ts.toList≠[]:=by rw[ByteArray.toList_eq];exact hx1
     have hx5:(ts.toList == [])=false:=by simpa using hx3
     have hx4:(!false && neB text)=true:=by simp[neB,hx]
     have HX4:=Hd hx4;clear hx hx1 hx4
     go_wp2_with fail
     go_meet
     exact⟨congrArg Value.bool HX4.out.symm,rfl⟩
  case rest =>
  obtain⟨rfl,rfl⟩:=hcut
  cases hB:(!ut && neB text) with
  | true =>
   have e:=HR.out;rw[if_pos hB] at e;subst e;clear HR hB
   go_wp2_with fail
   go_ret
   exact⟨rfl,HF2.out⟩
  | false =>
  have e:=HR.out;rw[if_neg (by rw[hB];simp)] at e
  replace HR:=Hd e
  clear hB e;have hvl:validB os.data.toList=validB owner:=by rw[hos2]
  have hwl:wordB ts.data.toList=wordB text:=by rw[hts2]
  have hosz:os.size<=140737488355328:=by rw[len_data,hos2];exact ho
  have htsz:ts.size<=140737488355328:=by rw[len_data,hts2];exact ht
  have HVL:=Hd hvl;have HWL:=Hd hwl;clear hvl hwl
  go_upto_region 9 with fail
  go_cut [45] from 46 to 53 (fun s W=>s=.bool (uo && !validB owner)/\Fr [] w2 W)
  case first =>
   cases uo with
   | false =>
    go_wp2_with fail
    go_meet
    exact⟨rfl,Fq _ _⟩
   | true =>
    go_wp2_with ((go_at_call 115;(with_reducible refine (Valid_any os w2 (by omega)).mono ?_);rintro e w3 ⟨rfl,hb3⟩))
    go_meet
    exact⟨congrArg Value.bool (by first | rfl | (rw[HVL.out];rfl)),Fr.of_below hb3⟩
  case rest =>
  obtain⟨rfl,hfw⟩:=hcut;have HF3:=Hd (HF2.out.then hfw);have HN3:=Hd (HN2.out.fr hfw (by simp));have HU3:=Hd (HU2.out.fr hfw (by simp));clear n1 n2 n3 n4 v1 v2 v3 v4 hfw;have n2:=HN3.out.k2;have n3:=HN3.out.k3;have n4:=HN3.out.k4;have v2:=HU3.out.k2;have v3:=HU3.out.k3;have v4:=HU3.out.k4;have v5:=HU3.out.k5;obtain⟨w3,hw3⟩:=nmd (wc);rw[hw3] at n2 n3 n4 v2 v3 v4 v5 HF3 HN3 HU3 ⊢;clear hw3
  cases hB:(uo && !validB owner) with
  | true =>
   have e:=HR.out;rw[if_pos hB] at e;subst e;clear HR hB
   go_wp2_with fail
   go_ret
   exact⟨rfl,HF3.out⟩
  | false =>
  have e:=HR.out;rw[if_neg (by rw[hB];simp)] at e
  replace HR:=Hd e
  clear hB e
  go_upto_region 11 with fail
  go_cut [54] from 55 to 62 (fun s W=>s=.bool (un && !withinB number 1073741824)/\w3=W)
  case first =>
   cases un with
   | false =>
    go_wp2_with fail
    go_meet
    exact⟨rfl,rfl⟩
   | true =>
    go_wp2_with ((go_at_call 116;(with_reducible refine (within_any number 1073741824 w3).mono ?_);rintro e w4 ⟨rfl,rfl⟩))
    go_meet
    exact⟨rfl,rfl⟩
  case rest =>
  obtain⟨rfl,rfl⟩:=hcut
  cases hB:(un && !withinB number 1073741824) with
  | true =>
   have e:=HR.out;rw[if_pos hB] at e;subst e;clear HR hB
   go_wp2_with fail
   go_ret
   exact⟨rfl,HF3.out⟩
  | false =>
  have e:=HR.out;rw[if_neg (by rw[hB];simp)] at e
  replace HR:=Hd e
  clear hB e
  go_upto_region 12 with fail
  go_cut [54] from 63 to 72 (fun s W=>s=.bool (ui && !withinB index um)/\w3=W)
  case first =>
   cases ui with
   | false =>
    go_wp2_with fail
    go_meet
    exact⟨rfl,rfl⟩
   | true =>
    go_wp2_with ((go_at_call 116;(with_reducible refine (within_any index um w3).mono ?_);rintro e w4 ⟨rfl,rfl⟩))
    go_meet
    exact⟨rfl,rfl⟩
  case rest =>
  obtain⟨rfl,rfl⟩:=hcut
  cases hB:(ui && !withinB index um) with
  | true =>
   have e:=HR.out;rw[if_pos hB] at e;subst e;clear HR hB
   go_wp2_with fail
   go_ret
   exact⟨rfl,HF3.out⟩
  | false =>
  have e:=HR.out;rw[if_neg (by rw[hB];simp)] at e
  replace HR:=Hd e
  clear hB e
  go_upto_region 14 with fail
  go_cut [73] from 74 to 81 (fun s W=>s=.bool (ut && !wordB text)/\w3=W)
  case first =>
   cases ut with
   | false =>
    go_wp2_with fail
    go_meet
    exact⟨rfl,rfl⟩
   | true =>
    go_wp2_with ((go_at_call 117;(with_reducible refine (Word_any ts w3 (by omega)).mono ?_);rintro e w4 ⟨rfl,rfl⟩))
    go_meet
    exact⟨congrArg Value.bool (by first | rfl | (rw[HWL.out];rfl)),rfl⟩
  case rest =>
  obtain⟨rfl,rfl⟩:=hcut
  cases hB:(ut && !wordB text) with
  | true =>
   have e:=HR.out;rw[if_pos hB] at e;subst e;clear HR hB
   go_wp2_with fail
   go_ret
   exact⟨rfl,HF3.out⟩
  | false =>
  have e:=HR.out;rw[if_neg (by rw[hB];simp)] at e
  replace HR:=Hd e
  clear hB e;have e:=HR.out;subst e;clear HR
  go_wp2_with fail
  go_ret
  exact⟨rfl,HF3.out⟩
end Go.Proofs.YtlpmiimgacfmkaaGreatDoor
