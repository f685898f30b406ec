/- object: (Name).Check. -/
import Derived.Deep.CutBlock
import Derived.Deep.Cut
import Derived.Deep.RegionHeld3
import Derived.Test.YtlpmiimgacfmkaaGreatDoorRRd3
set_option linter.all false
namespace Go.Proofs.YtlpmiimgacfmkaaGreatDoor
open Go.RowKit
set_option maxRecDepth 100000
set_option maxHeartbeats 4000000
def neB (s:Nm):Bool:=decide (s≠[])
def tE1 (u:Usage) (n:ON):Bool:=!u.owner && neB n.owner
def tE2 (u:Usage) (n:ON):Bool:=!u.number && decide (n.number≠0)
def tE3 (u:Usage) (n:ON):Bool:=!u.index && decide (n.index≠0)
def tE4 (u:Usage) (n:ON):Bool:=!u.text && neB n.text
def tV (u:Usage) (n:ON):Bool:=u.owner && !validB n.owner
def tN (u:Usage) (n:ON):Bool:=u.number && !withinB n.number 1073741824
def tI (u:Usage) (n:ON):Bool:=u.index && !withinB n.index u.most
def tW (u:Usage) (n:ON):Bool:=u.text && !wordB n.text
def checkU (u:Usage) (n:ON):Int :=
 if tE1 u n then 1 else if tE2 u n then 1 else if tE3 u n then 1 else if tE4 u n then 1 else if tV u n then 12 else if tN u n then 2 else if tI u n then 2 else if tW u n then 12 else 0
def checkO (n:ON):Int:=if kindB n.kind then checkU (us n.kind.toNat) n else 11
theorem len_data (s:ByteArray):s.size=s.data.toList.length:=by rw[Lib.size_eq]
theorem us_cells {w:World} (hok:Ok w) {k:Nat} (hk:k<21):w.cell? ⟨0,k*6,none⟩=some (encN (us k).word)∧w.cell? ⟨0,k*6+1,none⟩=some (.bool (us k).owner)∧w.cell? ⟨0,k*6+2,none⟩=some (.bool (us k).number)∧w.cell? ⟨0,k*6+3,none⟩=some (.bool (us k).index)∧w.cell? ⟨0,k*6+4,none⟩=some (.bool (us k).text)∧w.cell? ⟨0,k*6+5,none⟩=some (.int .i64 (us k).most) :=
 ⟨hok.uss k hk 0 _ rfl,hok.uss k hk 1 _ rfl,hok.uss k hk 2 _ rfl,hok.uss k hk 3 _ rfl,hok.uss k hk 4 _ rfl,hok.uss k hk 5 _ rfl⟩
def ChkPost (w:World) (r:Int) (e:Ending) (w':World):Prop:=e=.returned (.int .i64 r)∧Fr [] w w'
theorem Check_any (n:ON) (w:World) (hok:Ok w) (ho:n.owner.length≤4294967280) (ht:n.text.length≤4294967280):Calls Tryz.prog 53 #[encO n] w (ChkPost w (checkO n)):=by
 obtain⟨kind,owner,number,index,text⟩:=n
 unfold encO checkO
 simp only at ho ht ⊢
 obtain⟨os,hos,hos2,hos3⟩:=str_of owner
 obtain⟨ts,hts,hts2,hts3⟩:=str_of text
 rw[hos,hts]
 have hik:=fun W=>isKind_any kind W
 cases hkb:kindB kind with
 | false =>
  rw[hkb] at hik
  have HIK:=Hd hik
  clear hik hkb hos hts
  go_enter Tryz.func53,Tryz.ntmps53
  go_wp2_with ((go_at_call 114;(with_reducible refine (HIK.out _).mono ?_);rintro e w1 ⟨rfl,rfl⟩))
  go_ret
  exact⟨rfl,(Fr.refl [] w).alloc _⟩
 | true =>
  obtain⟨k,hk,hk21⟩:∃ k:Nat,kind=(k:Int)∧k<21:=by
   simp only[kindB,decide_eq_true_eq] at hkb
   exact⟨kind.toNat,by omega,by omega⟩
  subst hk
  rw[hkb] at hik
  rw[if_pos rfl,show ((k:Nat):Int).toNat=k from rfl]
  obtain⟨w1,hw1,hb1,hf1⟩:=bxn w #[.int .i64 (k:Int),.string os,.int .i64 number,.int .i64 index,.string ts] 31
  obtain⟨e0,e1,e2,e3,e4,e5⟩:=us_cells (hok.fr0 hf1) hk21
  obtain⟨u,hu⟩:=nmd (us k)
  rw[hu] at e0 e1 e2 e3 e4 e5 ⊢
  obtain⟨uw,uo,un,ui,ut,um⟩:=u
  simp only at e0 e1 e2 e3 e4 e5
  obtain⟨r,hr⟩:=nmd (checkU ⟨uw,uo,un,ui,ut,um⟩ ⟨(k:Int),owner,number,index,text⟩)
  rw[hr]
  unfold checkU tE1 tE2 tE3 tE4 tV tN tI tW at hr
  simp only at hr
  have HR:=Hd hr
  clear hr
  obtain⟨us,hus,_,_⟩:=str_of uw
  rw[hus] at e0
  have x0:=hb1.c 0
  simp only[List.getElem?_toArray,List.getElem?_cons_zero,List.getElem?_cons_succ] at x0
  have hk0:(k:Int)<21:=by omega
  have HIK:=Hd hik
  have HW1:=Hd hw1
  have HB1:=Hd hb1
  have HF1:=Hd hf1
  clear hik hkb hos hts hu hus hw1 hb1 hf1 hos3 hts3
  go_enter Tryz.func53,Tryz.ntmps53
  go_upto_region 1 with fail
  rw[HW1.out]
  go_upto_region 4 with ((go_at_call 114;(with_reducible refine (HIK.out _).mono ?_);rintro e w1 ⟨rfl,rfl⟩))
  obtain⟨w2,hw2⟩:=nmd (w1.alloc (.cells #[.string us,.bool uo,.bool un,.bool ui,.bool ut,.int .i64 um] 216))
  have hf2:Fr [] w w2:=by rw[←hw2];exact HF1.out.alloc _
  have hn2:BoxN w2 w.heap.size 31 #[.int .i64 (k:Int),.string os,.int .i64 number,.int .i64 index,.string ts]:=by rw[←hw2];exact HB1.out.alloc _
  have hu2:BoxN w2 w1.heap.size 216 #[.string us,.bool uo,.bool un,.bool ui,.bool ut,.int .i64 um]:=by rw[←hw2];exact BoxN.new w1 _ _
  rw[hw2]
  have HF2:=Hd hf2
  have HN2:=Hd hn2
  have HU2:=Hd hu2
  clear hw2 hf2 hn2 hu2 e0 e1 e2 e3 e4 e5 x0 hk0 hok
  have n1:=HN2.out.k1
  have n2:=HN2.out.k2
  have n3:=HN2.out.k3
  have n4:=HN2.out.k4
  have v1:=HU2.out.k1
  have v2:=HU2.out.k2
  have v3:=HU2.out.k3
  have v4:=HU2.out.k4
  go_upto_region 4 with fail
  go_cut [12] from 13 to 20 (fun s W=>s=.bool (!uo && neB owner)∧w2=W)
  case first =>
   cases uo with
   | true =>
    go_wp2_with fail
    go_meet
    exact⟨rfl,rfl⟩
   | false =>
    by_cases hx:owner=[]
    ·have hx1:os.data.toList=[]:=by rw[hos2];exact hx
     have hx2:=isEmpty_of_nil hx1
     have hx3:os.toList=[]:=by rw[ByteArray.toList_eq];exact hx1
     have hx4:(!false && neB owner)=false:=by simp[neB,hx]
     have HX4:=Hd hx4
     clear hx hx1 hx4
     go_wp2_with fail
     go_meet
     exact⟨congrArg Value.bool HX4.out.symm,rfl⟩
    ·have hx1:os.data.toList≠[]:=by rw[hos2];exact hx
     have hx2:=isEmpty_of_ne hx1
     have hx3:os.toList≠[]:=by rw[ByteArray.toList_eq];exact hx1
     have hx5:(os.toList == [])=false:=by simpa using hx3
     have hx4:(!false && neB owner)=true:=by simp[neB,hx]
     have HX4:=Hd hx4
     clear hx hx1 hx4
     go_wp2_with fail
     go_meet
     exact⟨congrArg Value.bool HX4.out.symm,rfl⟩
  case rest =>
  obtain⟨rfl,rfl⟩:=hcut
  cases hB:(!uo && neB owner) with
  | true =>
   have e:=HR.out
   rw[if_pos hB] at e
   subst e
   clear HR hB
   go_wp2_with fail
   go_ret
   exact⟨rfl,HF2.out⟩
  | false =>
  have e:=HR.out
  rw[if_neg (by rw[hB];simp)] at e
  replace HR:=Hd e
  clear hB e
  go_upto_region 5 with fail
  go_cut [12] from 21 to 28 (fun s W=>s=.bool (!un && decide (number≠0))∧w2=W)
  case first =>
   cases un with
   | true =>
    go_wp2_with fail
    go_meet
    exact⟨rfl,rfl⟩
   | false =>
    by_cases hx:number=0
    ·have hx1:(number == 0)=true:=by simp[hx]
     have hx4:(!false && decide (number≠0))=false:=by simp[hx]
     have HX4:=Hd hx4
     clear hx4
     subst hx
     go_wp2_with fail
     go_meet
     exact⟨congrArg Value.bool HX4.out.symm,rfl⟩
    ·have hx1:(number == 0)=false:=by simp[hx]
     have hx5:(number != 0)=true:=by simp[hx]
     have hx4:(!false && decide (number≠0))=true:=by simp[hx]
     have HX4:=Hd hx4
     clear hx4 hx
     go_wp2_with fail
     go_meet
     exact⟨congrArg Value.bool HX4.out.symm,rfl⟩
  case rest =>
  obtain⟨rfl,rfl⟩:=hcut
  cases hB:(!un && decide (number≠0)) with
  | true =>
   have e:=HR.out
   rw[if_pos hB] at e
   subst e
   clear HR hB
   go_wp2_with fail
   go_ret
   exact⟨rfl,HF2.out⟩
  | false =>
  have e:=HR.out
  rw[if_neg (by rw[hB];simp)] at e
  replace HR:=Hd e
  clear hB e
  go_upto_region 6 with fail
  go_cut [12] from 29 to 36 (fun s W=>s=.bool (!ui && decide (index≠0))∧w2=W)
  case first =>
   cases ui with
   | true =>
    go_wp2_with fail
    go_meet
    exact⟨rfl,rfl⟩
   | false =>
    by_cases hx:index=0
    ·have hx1:(index == 0)=true:=by simp[hx]
     have hx4:(!false && decide (index≠0))=false:=by simp[hx]
     have HX4:=Hd hx4
     clear hx4
     subst hx
     go_wp2_with fail
     go_meet
     exact⟨congrArg Value.bool HX4.out.symm,rfl⟩
    ·have hx1:(index == 0)=false:=by simp[hx]
     have hx5:(index != 0)=true:=by simp[hx]
     have hx4:(!false && decide (index≠0))=true:=by simp[hx]
     have HX4:=Hd hx4
     clear hx4 hx
     go_wp2_with fail
     go_meet
     exact⟨congrArg Value.bool HX4.out.symm,rfl⟩
  case rest =>
  obtain⟨rfl,rfl⟩:=hcut
  cases hB:(!ui && decide (index≠0)) with
  | true =>
   have e:=HR.out
   rw[if_pos hB] at e
   subst e
   clear HR hB
   go_wp2_with fail
   go_ret
   exact⟨rfl,HF2.out⟩
  | false =>
  have e:=HR.out
  rw[if_neg (by rw[hB];simp)] at e
  replace HR:=Hd e
  clear hB e
  go_upto_region 7 with fail
  go_cut [12] from 37 to 44 (fun s W=>s=.bool (!ut && neB text)∧w2=W)
  case first =>
   cases ut with
   | true =>
    go_wp2_with fail
    go_meet
    exact⟨rfl,rfl⟩
   | false =>
    by_cases hx:text=[]
    ·have hx1:ts.data.toList=[]:=by rw[hts2];exact hx
     have hx2:=isEmpty_of_nil hx1
     have hx3:ts.toList=[]:=by rw[ByteArray.toList_eq];exact hx1
     have hx4:(!false && neB text)=false:=by simp[neB,hx]
     have HX4:=Hd hx4
     clear hx hx1 hx4
     go_wp2_with fail
     go_meet
     exact⟨congrArg Value.bool HX4.out.symm,rfl⟩
    ·have hx1:ts.data.toList≠[]:=by rw[hts2];exact hx
     have hx2:=isEmpty_of_ne hx1
     have hx3:ts.toList≠[]:=by rw[ByteArray.toList_eq];exact hx1
     have hx5:(ts.toList == [])=false:=by simpa using hx3
     have hx4:(!false && neB text)=true:=by simp[neB,hx]
     have HX4:=Hd hx4
     clear hx hx1 hx4
     go_wp2_with fail
     go_meet
     exact⟨congrArg Value.bool HX4.out.symm,rfl⟩
  case rest =>
  obtain⟨rfl,rfl⟩:=hcut
  cases hB:(!ut && neB text) with
  | true =>
   have e:=HR.out
   rw[if_pos hB] at e
   subst e
   clear HR hB
   go_wp2_with fail
   go_ret
   exact⟨rfl,HF2.out⟩
  | false =>
  have e:=HR.out
  rw[if_neg (by rw[hB];simp)] at e
  replace HR:=Hd e
  clear hB e
  have hvl:validB os.data.toList=validB owner:=by rw[hos2]
  have hwl:wordB ts.data.toList=wordB text:=by rw[hts2]
  have hosz:os.size≤4294967280:=by rw[len_data,hos2];exact ho
  have htsz:ts.size≤4294967280:=by rw[len_data,hts2];exact ht
  have HVL:=Hd hvl
  have HWL:=Hd hwl
  clear hvl hwl
  go_upto_region 9 with fail
  go_cut [45] from 46 to 53 (fun s W=>s=.bool (uo && !validB owner)∧Fr [] w2 W)
  case first =>
   cases uo with
   | false =>
    go_wp2_with fail
    go_meet
    exact⟨rfl,Fr.refl _ _⟩
   | true =>
    go_wp2_with ((go_at_call 115;(with_reducible refine (Valid_any os w2 (by omega)).mono ?_);rintro e w3 ⟨rfl,hb3⟩))
    go_meet
    exact⟨congrArg Value.bool (by first | rfl | (rw[HVL.out];rfl)),Fr.of_below hb3⟩
  case rest =>
  obtain⟨rfl,hfw⟩:=hcut
  have HF3:=Hd (HF2.out.then hfw)
  have HN3:=Hd (HN2.out.fr hfw (by simp))
  have HU3:=Hd (HU2.out.fr hfw (by simp))
  clear n1 n2 n3 n4 v1 v2 v3 v4 hfw
  have n2:=HN3.out.k2
  have n3:=HN3.out.k3
  have n4:=HN3.out.k4
  have v2:=HU3.out.k2
  have v3:=HU3.out.k3
  have v4:=HU3.out.k4
  have v5:=HU3.out.k5
  obtain⟨w3,hw3⟩:=nmd (wc)
  rw[hw3] at n2 n3 n4 v2 v3 v4 v5 HF3 HN3 HU3 ⊢
  clear hw3
  cases hB:(uo && !validB owner) with
  | true =>
   have e:=HR.out
   rw[if_pos hB] at e
   subst e
   clear HR hB
   go_wp2_with fail
   go_ret
   exact⟨rfl,HF3.out⟩
  | false =>
  have e:=HR.out
  rw[if_neg (by rw[hB];simp)] at e
  replace HR:=Hd e
  clear hB e
  go_upto_region 11 with fail
  go_cut [54] from 55 to 62 (fun s W=>s=.bool (un && !withinB number 1073741824)∧w3=W)
  case first =>
   cases un with
   | false =>
    go_wp2_with fail
    go_meet
    exact⟨rfl,rfl⟩
   | true =>
    go_wp2_with ((go_at_call 116;(with_reducible refine (within_any number 1073741824 w3).mono ?_);rintro e w4 ⟨rfl,rfl⟩))
    go_meet
    exact⟨rfl,rfl⟩
  case rest =>
  obtain⟨rfl,rfl⟩:=hcut
  cases hB:(un && !withinB number 1073741824) with
  | true =>
   have e:=HR.out
   rw[if_pos hB] at e
   subst e
   clear HR hB
   go_wp2_with fail
   go_ret
   exact⟨rfl,HF3.out⟩
  | false =>
  have e:=HR.out
  rw[if_neg (by rw[hB];simp)] at e
  replace HR:=Hd e
  clear hB e
  go_upto_region 12 with fail
  go_cut [54] from 63 to 72 (fun s W=>s=.bool (ui && !withinB index um)∧w3=W)
  case first =>
   cases ui with
   | false =>
    go_wp2_with fail
    go_meet
    exact⟨rfl,rfl⟩
   | true =>
    go_wp2_with ((go_at_call 116;(with_reducible refine (within_any index um w3).mono ?_);rintro e w4 ⟨rfl,rfl⟩))
    go_meet
    exact⟨rfl,rfl⟩
  case rest =>
  obtain⟨rfl,rfl⟩:=hcut
  cases hB:(ui && !withinB index um) with
  | true =>
   have e:=HR.out
   rw[if_pos hB] at e
   subst e
   clear HR hB
   go_wp2_with fail
   go_ret
   exact⟨rfl,HF3.out⟩
  | false =>
  have e:=HR.out
  rw[if_neg (by rw[hB];simp)] at e
  replace HR:=Hd e
  clear hB e
  go_upto_region 14 with fail
  go_cut [73] from 74 to 81 (fun s W=>s=.bool (ut && !wordB text)∧w3=W)
  case first =>
   cases ut with
   | false =>
    go_wp2_with fail
    go_meet
    exact⟨rfl,rfl⟩
   | true =>
    go_wp2_with ((go_at_call 117;(with_reducible refine (Word_any ts w3 (by omega)).mono ?_);rintro e w4 ⟨rfl,rfl⟩))
    go_meet
    exact⟨congrArg Value.bool (by first | rfl | (rw[HWL.out];rfl)),rfl⟩
  case rest =>
  obtain⟨rfl,rfl⟩:=hcut
  cases hB:(ut && !wordB text) with
  | true =>
   have e:=HR.out
   rw[if_pos hB] at e
   subst e
   clear HR hB
   go_wp2_with fail
   go_ret
   exact⟨rfl,HF3.out⟩
  | false =>
  have e:=HR.out
  rw[if_neg (by rw[hB];simp)] at e
  replace HR:=Hd e
  clear hB e
  have e:=HR.out
  subst e
  clear HR
  go_wp2_with fail
  go_ret
  exact⟨rfl,HF3.out⟩
def cmpS (a b:Nm):Int:=if Op.bytesLess a b then -1 else if a=b then 0 else 1
theorem isNaNS_any (s:ByteArray) (w:World):Calls Tryz.prog 193 #[.string s] w fun e w'=>e=.returned (.bool false)∧w=w':=by
 go_enter Tryz.func193,Tryz.ntmps193
 go_wp2_with fail
 go_ret
 exact⟨rfl,rfl⟩
theorem CompareS_any (a b:ByteArray) (w:World):Calls Tryz.prog 163 #[.string a,.string b] w fun e w'=>e=.returned (.int .i64 (cmpS a.data.toList b.data.toList))∧w=w':=by
 have ea:a.toList=a.data.toList:=ByteArray.toList_eq a
 have eb:b.toList=b.data.toList:=ByteArray.toList_eq b
 rw[←ea,←eb]
 unfold cmpS
 clear ea eb
 cases h1:Op.bytesLess a.toList b.toList with
 | true =>
  rw[if_pos rfl]
  go_enter Tryz.func163,Tryz.ntmps163
  go_wp2_with ((go_at_call 193;(with_reducible refine (isNaNS_any _ w).mono ?_);rintro e w1 ⟨rfl,rfl⟩))
  go_ret
  exact⟨rfl,rfl⟩
 | false =>
  rw[if_neg (by simp)]
  by_cases h2:a.toList=b.toList
  ·rw[if_pos h2]
   have h3:(a.toList == b.toList)=true:=by simpa using h2
   clear h2
   go_enter Tryz.func163,Tryz.ntmps163
   go_wp2_with ((go_at_call 193;(with_reducible refine (isNaNS_any _ w).mono ?_);rintro e w1 ⟨rfl,rfl⟩))
   go_ret
   exact⟨rfl,rfl⟩
  ·rw[if_neg h2]
   have h3:(a.toList == b.toList)=false:=by simpa using h2
   clear h2
   go_enter Tryz.func163,Tryz.ntmps163
   go_wp2_with ((go_at_call 193;(with_reducible refine (isNaNS_any _ w).mono ?_);rintro e w1 ⟨rfl,rfl⟩))
   go_ret
   exact⟨rfl,rfl⟩
def orL:List Int→Int
 | []=>0
 | x::r=>if x=0 then orL r else x
theorem Or_any (A:Option Addr) (n c B:Nat) (xs:List Int) (w:World) (hr:Row w B 1 A n (xs.map encI)) (hn:n≤1000):Calls Tryz.prog 132 #[.slice A n c] w fun e w'=>e=.returned (.int .i64 (orL xs))∧w=w':=by
 have hl:xs.length=n:=by simpa using hr.1
 obtain⟨q,hq⟩:=nmd (orL xs)
 rw[hq]
 have HR:=Hd hr
 have HL:=Hd hl
 have HQ:=Hd hq
 clear hr hl hq
 go_enter Tryz.func132,Tryz.ntmps132
 go_wp2_with fail
 go_loop [8] (fun i=>∃ k:Nat,k≤n∧i=.int .i64 (k:Int)∧orL (xs.drop k)=q) (fun i=>n - (intOf i).toNat)
 case atStart=>exact⟨0,Nat.zero_le _,rfl,HQ.out⟩
 case round =>
  obtain⟨k,hk,rfl,hq⟩:=hrel
  have HK:=Hd hq
  clear hq
  by_cases hlt:k<n
  ·obtain⟨b,off,u,rfl,_,hu,hc⟩:=HR.out.at1 hlt
   have hkl:k<xs.length:=by have:=HL.out;omega
   rw[List.getElem?_map,List.getElem?_eq_getElem hkl] at hu
   have hd:=List.drop_eq_getElem_cons hkl
   obtain⟨x,hx⟩:=nmd (xs[k])
   rw[hx] at hu hd
   injection hu with hu
   subst hu
   unfold encI at hc
   have hk2:=HK.out
   rw[hd] at hk2
   unfold orL at hk2
   have HK2:=Hd hk2
   have hlt':(k:Int)<(n:Int):=by omega
   clear hd hx hk2 hkl
   by_cases h0:x=0
   ·have e:=HK2.out
    rw[if_pos h0] at e
    have HE:=Hd e
    subst h0
    clear e
    go_wp2_with fail
    go_round
    case rel=>exact⟨k+1,by omega,by go_num,HE.out⟩
    case measure=>simp[intOf];omega
   ·have e:=HK2.out
    rw[if_neg h0] at e
    subst e
    have h1:(x == 0)=false:=by simpa using h0
    have h2:(x != 0)=true:=by simpa using h0
    go_wp2_with fail
    go_ret
    exact⟨rfl,rfl⟩
  ·have e:=HK.out
   rw[List.drop_eq_nil_of_le (by have:=HL.out;omega)] at e
   have e2:0=q:=e
   subst e2
   have hlt':¬ (k:Int)<(n:Int):=by omega
   clear e
   go_wp2_with fail
   go_ret
   exact⟨rfl,rfl⟩
def cmpO (a b:ON):Int :=
 if Lib.compareInt a.kind b.kind≠0 then Lib.compareInt a.kind b.kind
 else if cmpL (ordsOf a.owner) (ordsOf b.owner)≠0 then cmpL (ordsOf a.owner) (ordsOf b.owner)
 else orL [Lib.compareInt a.number b.number,Lib.compareInt a.index b.index,cmpS a.text b.text]
def CmpOPost (w:World) (r:Int) (e:Ending) (w':World):Prop:=e=.returned (.int .i64 r)∧Fr [] w w'
theorem CompareO_any (a b:ON) (w:World) (va:validB a.owner=true) (vb:validB b.owner=true) (ha:a.owner.length≤4294967280) (hb:b.owner.length≤4294967280):Calls Tryz.prog 103 #[encO a,encO b] w (CmpOPost w (cmpO a b)):=by
 obtain⟨r,hr⟩:=nmd (cmpO a b)
 rw[hr]
 unfold cmpO at hr
 obtain⟨k1,o1,n1,i1,t1⟩:=a
 obtain⟨k2,o2,n2,i2,t2⟩:=b
 simp only at va vb ha hb hr
 unfold encO
 simp only
 obtain⟨p1,hp1,hp1',hp1s⟩:=str_of o1
 obtain⟨p2,hp2,hp2',hp2s⟩:=str_of o2
 obtain⟨q1,hq1,hq1',_⟩:=str_of t1
 obtain⟨q2,hq2,hq2',_⟩:=str_of t2
 rw[hp1,hp2,hq1,hq2]
 obtain⟨w1,hw1⟩:=nmd (w.alloc (.cells #[.int .i64 k1,.string p1,.int .i64 n1,.int .i64 i1,.string q1] 31))
 obtain⟨w2,hw2⟩:=nmd (w1.alloc (.cells #[.int .i64 k2,.string p2,.int .i64 n2,.int .i64 i2,.string q2] 31))
 have hf2:Fr [] w w2:=by rw[←hw2,←hw1];exact ((Fr.refl [] w).alloc _).alloc _
 have hA:BoxN w2 w.heap.size 31 #[.int .i64 k1,.string p1,.int .i64 n1,.int .i64 i1,.string q1]:=by rw[←hw2,←hw1];exact (BoxN.new w _ _).alloc _
 have hB:BoxN w2 (w.heap.size+1) 31 #[.int .i64 k2,.string p2,.int .i64 n2,.int .i64 i2,.string q2]:=by rw[←hw2];have:=BoxN.new w1 31 #[.int .i64 k2,.string p2,.int .i64 n2,.int .i64 i2,.string q2];rw[show w1.heap.size=w.heap.size+1 by rw[←hw1,World.size_alloc]] at this;exact this
 have hC1:=Compare_valid p1 p2 w2 (by omega) (by omega) (by rw[hp1'];exact va) (by rw[hp2'];exact vb)
 rw[hp1',hp2'] at hC1
 obtain⟨c1,hc1⟩:=nmd (Lib.compareInt k1 k2)
 obtain⟨c2,hc2⟩:=nmd (cmpL (ordsOf o1) (ordsOf o2))
 rw[hc2] at hC1
 rw[hc1,hc2] at hr
 have hK1:=fun W=>Tryz.cmp_Compare_int k1 k2 W
 rw[hc1] at hK1
 obtain⟨x0,x1⟩:=hA.m2
 obtain⟨y0,y1⟩:=hB.m2
 have HR:=Hd hr
 have HW1:=Hd hw1
 have HW2:=Hd hw2
 have HF2:=Hd hf2
 have HA:=Hd hA
 have HB:=Hd hB
 have HC1:=Hd hC1
 have HK1:=Hd hK1
 clear hr hw1 hw2 hf2 hA hB hC1 hK1 hc1 hc2 va vb hp1 hp2 hp1' hp2' hq1 hq2 hp1s hp2s
 go_enter Tryz.func103,Tryz.ntmps103
 go_upto_region 1 with fail
 rw[HW1.out,HW2.out]
 by_cases h1:c1=0
 ·have h1b:(c1 != 0)=false:=by simp[h1]
  have h1c:(c1 == 0)=true:=by simp[h1]
  have e:=HR.out
  rw[if_neg (by simpa using h1)] at e
  replace HR:=Hd e
  clear e h1
  by_cases h2:c2=0
  ·have h2b:(c2 != 0)=false:=by simp[h2]
   have e:=HR.out
   rw[if_neg (by simpa using h2)] at e
   replace HR:=Hd e
   clear e h2
   go_upto_region 5 with (first
    | (go_at_call 133;(with_reducible refine (HK1.out _).mono ?_);rintro e w6 ⟨rfl,rfl⟩)
    | (go_at_call 152;(with_reducible refine HC1.out.mono ?_);rintro e w3 ⟨rfl,hb3⟩;have HF3:=Hd (HF2.out.then (Fr.of_below hb3));have HA3:=Hd (HA.out.later hb3);have HB3:=Hd (HB.out.later hb3);clear hb3))
   go_upto_region 7 with fail
   have z0:=HA3.out.drew.k2
   have z1:=HB3.out.drew.k2
   have z2:=HA3.out.drew.k3
   have z3:=HB3.out.drew.k3
   have z4:=HA3.out.drew.k4
   have z5:=HB3.out.drew.k4
   have HKN:=Hd (fun W=>Tryz.cmp_Compare_int n1 n2 W)
   have HKI:=Hd (fun W=>Tryz.cmp_Compare_int i1 i2 W)
   have HKS:=Hd (fun W=>CompareS_any q1 q2 W)
   rw[hq1',hq2'] at HKS
   clear hq1' hq2'
   generalize Lib.compareInt n1 n2=d1 at HKN HR
   generalize Lib.compareInt i1 i2=d2 at HKI HR
   generalize cmpS t1 t2=d3 at HKS HR
   have S3:w3.drew.cell? ⟨w.heap.size,2,none⟩=some (.int .i64 n1)∧w3.drew.cell? ⟨w.heap.size+1,2,none⟩=some (.int .i64 n2)∧w3.drew.cell? ⟨w.heap.size,3,none⟩=some (.int .i64 i1)∧w3.drew.cell? ⟨w.heap.size+1,3,none⟩=some (.int .i64 i2)∧w3.drew.cell? ⟨w.heap.size,4,none⟩=some (.string q1)∧w3.drew.cell? ⟨w.heap.size+1,4,none⟩=some (.string q2):=⟨z0,z1,z2,z3,z4,z5⟩
   have S4:(w3.alloc (.cells #[.int .i64 d1,.int .i64 d2,.int .i64 d3] 3)).drew.cell? ⟨w.heap.size,2,none⟩=some (.int .i64 n1)∧(w3.alloc (.cells #[.int .i64 d1,.int .i64 d2,.int .i64 d3] 3)).drew.cell? ⟨w.heap.size+1,2,none⟩=some (.int .i64 n2)∧(w3.alloc (.cells #[.int .i64 d1,.int .i64 d2,.int .i64 d3] 3)).drew.cell? ⟨w.heap.size,3,none⟩=some (.int .i64 i1)∧(w3.alloc (.cells #[.int .i64 d1,.int .i64 d2,.int .i64 d3] 3)).drew.cell? ⟨w.heap.size+1,3,none⟩=some (.int .i64 i2)∧(w3.alloc (.cells #[.int .i64 d1,.int .i64 d2,.int .i64 d3] 3)).drew.cell? ⟨w.heap.size,4,none⟩=some (.string q1)∧(w3.alloc (.cells #[.int .i64 d1,.int .i64 d2,.int .i64 d3] 3)).drew.cell? ⟨w.heap.size+1,4,none⟩=some (.string q2):=⟨(HA3.out.alloc _).drew.c 2,(HB3.out.alloc _).drew.c 2,(HA3.out.alloc _).drew.c 3,(HB3.out.alloc _).drew.c 3,(HA3.out.alloc _).drew.c 4,(HB3.out.alloc _).drew.c 4⟩
   have F4:Fr [] w ((w3.alloc (.cells #[.int .i64 d1,.int .i64 d2,.int .i64 d3] 3)).drew):=(HF3.out.alloc _).drew
   have R4:Row ((w3.alloc (.cells #[.int .i64 d1,.int .i64 d2,.int .i64 d3] 3)).drew) (w3.alloc (.cells #[.int .i64 d1,.int .i64 d2,.int .i64 d3] 3)).drew.heap.size 1 (some ⟨w3.heap.size,0,none⟩) 3 ([d1,d2,d3].map encI):=by
    refine⟨by simp,fun _=>⟨_,0,rfl,by simp[World.drew],fun j u hu=>?_⟩⟩
    have:=new_cells w3 [.int .i64 d1,.int .i64 d2,.int .i64 d3] 3 j u (by simpa [encI] using hu)
    rw[add_mid'] at this
    rw[Nat.zero_add]
    exact this
   clear z0 z1 z2 z3 z4 z5 HW1 HW2 HC1 HF2 HA HB HA3 HB3 x0 x1 y0 y1
   generalize w.heap.size=Z1 at S3 S4 ⊢
   generalize hX:(w3.alloc (.cells #[.int .i64 d1,.int .i64 d2,.int .i64 d3] 3)).drew=X at S4 F4 R4
   go_region_held3 (fun W=>W.cell? ⟨Z1,2,none⟩=some (.int .i64 n1)∧W.cell? ⟨Z1+1,2,none⟩=some (.int .i64 n2)∧W.cell? ⟨Z1,3,none⟩=some (.int .i64 i1)∧W.cell? ⟨Z1+1,3,none⟩=some (.int .i64 i2)∧W.cell? ⟨Z1,4,none⟩=some (.string q1)∧W.cell? ⟨Z1+1,4,none⟩=some (.string q2)) (first | with_reducible exact S3 | with_reducible exact S4) (first
    | (go_at_call 133;(with_reducible refine (HKN.out _).mono ?_);rintro e w7 ⟨rfl,rfl⟩)
    | (go_at_call 133;(with_reducible refine (HKI.out _).mono ?_);rintro e w7 ⟨rfl,rfl⟩)
    | (go_at_call 163;(with_reducible refine (HKS.out _).mono ?_);rintro e w7 ⟨rfl,rfl⟩)
    | (go_at_call 132;(with_reducible refine (Or_any _ 3 3 _ _ _ R4 (by omega)).mono ?_);rintro e w7 ⟨rfl,rfl⟩))
   all_goals
    go_wp2_with fail
    go_ret
    exact⟨by rw[HR.out];rfl,F4⟩
  ·have h2b:(c2 != 0)=true:=by simpa using h2
   have e:=HR.out
   rw[if_pos (by simpa using h2)] at e
   subst e
   go_wp2_with (first
    | (go_at_call 133;(with_reducible refine (HK1.out _).mono ?_);rintro e w6 ⟨rfl,rfl⟩)
    | (go_at_call 152;(with_reducible refine HC1.out.mono ?_);rintro e w3 ⟨rfl,hb3⟩;have HF3:=Hd (HF2.out.then (Fr.of_below hb3));clear hb3))
   go_ret
   exact⟨rfl,HF3.out⟩
 ·have h1b:(c1 != 0)=true:=by simpa using h1
  have e:=HR.out
  rw[if_pos (by simpa using h1)] at e
  subst e
  go_wp2_with ((go_at_call 133;(with_reducible refine (HK1.out _).mono ?_);rintro e w6 ⟨rfl,rfl⟩))
  go_ret
  exact⟨rfl,HF2.out⟩
end Go.Proofs.YtlpmiimgacfmkaaGreatDoor
