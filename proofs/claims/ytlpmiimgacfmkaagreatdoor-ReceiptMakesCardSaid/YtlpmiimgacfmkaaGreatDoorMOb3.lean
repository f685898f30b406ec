/- cmp.Compare of strings, cmp.Or; object.Compare. -/
import Derived.Deep.RegionHeld3
import Derived.Test.YtlpmiimgacfmkaaGreatDoorMDrawn
import Derived.Test.YtlpmiimgacfmkaaGreatDoorMWr3
import Derived.Test.YtlpmiimgacfmkaaGreatDoorMRd2
set_option linter.all false
namespace Go.Proofs.YtlpmiimgacfmkaaGreatDoor
open Go.Proofs.Tryz
open Go.RowKit
set_option maxRecDepth 100000
set_option maxHeartbeats 4000000
def cmpS (a b:Nm):Int:=if Op.bytesLess a b then -1 else if a=b then 0 else 1
theorem isNaNS_any (s:ByteArray) (w:World):Calls prog 193 #[.string s] w fun e w'=>e=.returned (.bool false)/\w=w':=by
 go_enter func193,ntmps193
 go_wp2_with fail
 go_ret
 exact⟨rfl,rfl⟩
theorem CompareS_any (a b:ByteArray) (w:World):Calls prog 163 #[.string a,.string b] w fun e w'=>e=.returned (.int .i64 (cmpS a.data.toList b.data.toList))/\w=w':=by
 have ea:a.toList=a.data.toList:=ByteArray.toList_eq a;have eb:b.toList=b.data.toList:=ByteArray.toList_eq b;rw[<-ea,<-eb];unfold cmpS;clear ea eb
 cases h1:Op.bytesLess a.toList b.toList with
 | true =>
  rw[if_pos rfl]
  go_enter func163,ntmps163
  go_wp2_with ((go_at_call 193;(with_reducible refine (isNaNS_any _ w).mono ?_);rintro e w1 ⟨rfl,rfl⟩))
  go_ret
  exact⟨rfl,rfl⟩
 | false =>
  rw[if_neg (by simp)]
  by_cases h2:a.toList=b.toList
  ·rw[if_pos h2]
   have h3:(a.toList == b.toList)=true:=by simpa using h2
   clear h2
   go_enter func163,ntmps163
   go_wp2_with ((go_at_call 193;(with_reducible refine (isNaNS_any _ w).mono ?_);rintro e w1 ⟨rfl,rfl⟩))
   go_ret
   exact⟨rfl,rfl⟩
  ·rw[if_neg h2]
   have h3:(a.toList == b.toList)=false:=by simpa using h2
   clear h2
   go_enter func163,ntmps163
   go_wp2_with ((go_at_call 193;(with_reducible refine (isNaNS_any _ w).mono ?_);rintro e w1 ⟨rfl,rfl⟩))
   go_ret
   exact⟨rfl,rfl⟩
def orL:List Int->Int
 | []=>0
 | x::r=>if x=0 then orL r else x
theorem Or_any (A:Option Addr) (n c B:Nat) (xs:List Int) (w:World) (hr:Row w B 1 A n (xs.map encI)) (hn:n<=1000):Calls prog 132 #[.slice A n c] w fun e w'=>e=.returned (.int .i64 (orL xs))/\w=w':=by
 have hl:xs.length=n:=by simpa using hr.1
 obtain⟨q,hq⟩:=nmd (orL xs);rw[hq];have HR:=Hd hr;have HL:=Hd hl;have HQ:=Hd hq;clear hr hl hq
 go_enter func132,ntmps132
 go_wp2_with fail
 go_loop [8] (fun i=>∃ k:Nat,k<=n/\i=.int .i64 (k:Int)/\orL (xs.drop k)=q) (fun i=>n - (intOf i).toNat)
 case atStart=>exact⟨0,Nat.zero_le _,rfl,HQ.out⟩
 case round =>
  obtain⟨k,hk,rfl,hq⟩:=hrel;have HK:=Hd hq;clear hq
  by_cases hlt:k<n
  ·obtain⟨b,off,u,rfl,_,hu,hc⟩:=HR.out.at1 hlt
   have hkl:k<xs.length:=by have:=HL.out;omega
   rw[List.getElem?_map,lge hkl] at hu;have hd:=List.drop_eq_getElem_cons hkl;obtain⟨x,hx⟩:=nmd (xs[k]);rw[hx] at hu hd
   injection hu with hu
   subst hu;unfold encI at hc;have hk2:=HK.out;rw[hd] at hk2;unfold orL at hk2;have HK2:=Hd hk2;have hlt':(k:Int)<(n:Int):=by omega
   clear hd hx hk2 hkl
   by_cases h0:x=0
   ·have e:=HK2.out
    rw[if_pos h0] at e;have HE:=Hd e;subst h0;clear e
    go_wp2_with fail
    go_round
    case rel=>exact⟨k+1,by omega,by go_num,HE.out⟩
    case measure=>simp[intOf];omega
   ·have e:=HK2.out
    rw[if_neg h0] at e;subst e;have h1:(x == 0)=false:=by simpa using h0
    have h2:(x != 0)=true:=by simpa using h0
    go_wp2_with fail
    go_ret
    exact⟨rfl,rfl⟩
  ·have e:=HK.out
   rw[List.drop_eq_nil_of_le (by have:=HL.out;omega)] at e;have e2:0=q:=e;subst e2;have hlt':¬ (k:Int)<(n:Int):=by omega
   clear e
   go_wp2_with fail
   go_ret
   exact⟨rfl,rfl⟩
def cmpO (a b:ON):Int :=
 if Lib.compareInt a.kind b.kind≠0 then Lib.compareInt a.kind b.kind
 else if cmpL (ordsOf a.owner) (ordsOf b.owner)≠0 then cmpL (ordsOf a.owner) (ordsOf b.owner)
 else orL [Lib.compareInt a.number b.number,Lib.compareInt a.index b.index,cmpS a.text b.text]
def CmpOPost (w:World) (r:Int) (e:Ending) (w':World):Prop:=e=.returned (.int .i64 r)/\Fr [] w w'
theorem CompareO_any (a b:ON) (w:World) (va:validB a.owner=true) (vb:validB b.owner=true) (ha:a.owner.length<=140737488355328) (hb:b.owner.length<=140737488355328):Calls prog 103 #[encO a,encO b] w (CmpOPost w (cmpO a b)):=by
 obtain⟨r,hr⟩:=nmd (cmpO a b);rw[hr];unfold cmpO at hr;obtain⟨k1,o1,n1,i1,t1⟩:=a;obtain⟨k2,o2,n2,i2,t2⟩:=b;simp only at va vb ha hb hr;unfold encO;simp only;obtain⟨p1,hp1,hp1',hp1s⟩:=str_of o1;obtain⟨p2,hp2,hp2',hp2s⟩:=str_of o2;obtain⟨q1,hq1,hq1',_⟩:=str_of t1;obtain⟨q2,hq2,hq2',_⟩:=str_of t2;rw[hp1,hp2,hq1,hq2];obtain⟨w1,hw1⟩:=nmd (w.alloc (.cells #[.int .i64 k1,.string p1,.int .i64 n1,.int .i64 i1,.string q1] 31));obtain⟨w2,hw2⟩:=nmd (w1.alloc (.cells #[.int .i64 k2,.string p2,.int .i64 n2,.int .i64 i2,.string q2] 31));have hf2:Fr [] w w2:=by rw[<-hw2,<-hw1];exact ((Fq [] w).alloc _).alloc _
 have hA:BoxN w2 w.heap.size 31 #[.int .i64 k1,.string p1,.int .i64 n1,.int .i64 i1,.string q1]:=by rw[<-hw2,<-hw1];exact (BoxN.new w _ _).alloc _
 have hB:BoxN w2 (w.heap.size+1) 31 #[.int .i64 k2,.string p2,.int .i64 n2,.int .i64 i2,.string q2]:=by rw[<-hw2];have:=BoxN.new w1 31 #[.int .i64 k2,.string p2,.int .i64 n2,.int .i64 i2,.string q2];rw[show w1.heap.size=w.heap.size+1 by rw[<-hw1,wsA]] at this;exact this
 have hC1:=Compare_valid p1 p2 w2 (by omega) (by omega) (by rw[hp1'];exact va) (by rw[hp2'];exact vb);rw[hp1',hp2'] at hC1;obtain⟨c1,hc1⟩:=nmd (Lib.compareInt k1 k2);obtain⟨c2,hc2⟩:=nmd (cmpL (ordsOf o1) (ordsOf o2));rw[hc2] at hC1;rw[hc1,hc2] at hr;have hK1:=fun W=>Tryz.cmp_Compare_int k1 k2 W;rw[hc1] at hK1;obtain⟨x0,x1⟩:=hA.m2;obtain⟨y0,y1⟩:=hB.m2;have HR:=Hd hr;have HW1:=Hd hw1;have HW2:=Hd hw2;have HF2:=Hd hf2;have HA:=Hd hA;have HB:=Hd hB;have HC1:=Hd hC1;have HK1:=Hd hK1;clear hr hw1 hw2 hf2 hA hB hC1 hK1 hc1 hc2 va vb hp1 hp2 hp1' hp2' hq1 hq2 hp1s hp2s
 go_enter func103,ntmps103
 go_upto_region 1 with fail
 rw[HW1.out,HW2.out]
 by_cases h1:c1=0
 ·have h1b:(c1 != 0)=false:=by simp[h1]
  have h1c:(c1 == 0)=true:=by simp[h1]
  have e:=HR.out;rw[if_neg (by simpa using h1)] at e
  replace HR:=Hd e
  clear e h1
  by_cases h2:c2=0
  ·have h2b:(c2 != 0)=false:=by simp[h2]
   have e:=HR.out;rw[if_neg (by simpa using h2)] at e
   replace HR:=Hd e
   clear e h2
   go_upto_region 5 with (first
    | (go_at_call 133;(with_reducible refine (HK1.out _).mono ?_);rintro e w6 ⟨rfl,rfl⟩)
    | (go_at_call 152;(with_reducible refine HC1.out.mono ?_);rintro e w3 ⟨rfl,hb3⟩;have HF3:=Hd (HF2.out.then (Fr.of_below hb3));have HA3:=Hd (HA.out.later hb3);have HB3:=Hd (HB.out.later hb3);clear hb3))
   go_upto_region 7 with fail
   have z0:=HA3.out.drew.k2;have z1:=HB3.out.drew.k2;have z2:=HA3.out.drew.k3;have z3:=HB3.out.drew.k3;have z4:=HA3.out.drew.k4;have z5:=HB3.out.drew.k4;have HKN:=Hd (fun W=>Tryz.cmp_Compare_int n1 n2 W);have HKI:=Hd (fun W=>Tryz.cmp_Compare_int i1 i2 W);have HKS:=Hd (fun W=>CompareS_any q1 q2 W);rw[hq1',hq2'] at HKS;clear hq1' hq2';generalize Lib.compareInt n1 n2=d1 at HKN HR;generalize Lib.compareInt i1 i2=d2 at HKI HR;generalize cmpS t1 t2=d3 at HKS HR;have S3:w3.drew.cell? ⟨w.heap.size,2,none⟩=some (.int .i64 n1)/\w3.drew.cell? ⟨w.heap.size+1,2,none⟩=some (.int .i64 n2)/\w3.drew.cell? ⟨w.heap.size,3,none⟩=some (.int .i64 i1)/\w3.drew.cell? ⟨w.heap.size+1,3,none⟩=some (.int .i64 i2)/\w3.drew.cell? ⟨w.heap.size,4,none⟩=some (.string q1)/\w3.drew.cell? ⟨w.heap.size+1,4,none⟩=some (.string q2):=⟨z0,z1,z2,z3,z4,z5⟩;have S4:(w3.alloc (.cells #[.int .i64 d1,.int .i64 d2,.int .i64 d3] 3)).drew.cell? ⟨w.heap.size,2,none⟩=some (.int .i64 n1)/\(w3.alloc (.cells #[.int .i64 d1,.int .i64 d2,.int .i64 d3] 3)).drew.cell? ⟨w.heap.size+1,2,none⟩=some (.int .i64 n2)/\(w3.alloc (.cells #[.int .i64 d1,.int .i64 d2,.int .i64 d3] 3)).drew.cell? ⟨w.heap.size,3,none⟩=some (.int .i64 i1)/\(w3.alloc (.cells #[.int .i64 d1,.int .i64 d2,.int .i64 d3] 3)).drew.cell? ⟨w.heap.size+1,3,none⟩=some (.int .i64 i2)/\(w3.alloc (.cells #[.int .i64 d1,.int .i64 d2,.int .i64 d3] 3)).drew.cell? ⟨w.heap.size,4,none⟩=some (.string q1)/\(w3.alloc (.cells #[.int .i64 d1,.int .i64 d2,.int .i64 d3] 3)).drew.cell? ⟨w.heap.size+1,4,none⟩=some (.string q2):=⟨(HA3.out.alloc _).drew.c 2,(HB3.out.alloc _).drew.c 2,(HA3.out.alloc _).drew.c 3,(HB3.out.alloc _).drew.c 3,(HA3.out.alloc _).drew.c 4,(HB3.out.alloc _).drew.c 4⟩;have F4:Fr [] w ((w3.alloc (.cells #[.int .i64 d1,.int .i64 d2,.int .i64 d3] 3)).drew):=(HF3.out.alloc _).drew
   have R4:Row ((w3.alloc (.cells #[.int .i64 d1,.int .i64 d2,.int .i64 d3] 3)).drew) (w3.alloc (.cells #[.int .i64 d1,.int .i64 d2,.int .i64 d3] 3)).drew.heap.size 1 (some ⟨w3.heap.size,0,none⟩) 3 ([d1,d2,d3].map encI):=by
    refine⟨by simp,fun _=>⟨_,0,rfl,by simp[World.drew],fun j u hu=>?_⟩⟩;have:=new_cells w3 [.int .i64 d1,.int .i64 d2,.int .i64 d3] 3 j u (by simpa [encI] using hu);rw[add_mid'] at this;rw[Nat.zero_add];exact this
   clear z0 z1 z2 z3 z4 z5 HW1 HW2 HC1 HF2 HA HB HA3 HB3 x0 x1 y0 y1;generalize w.heap.size=Z1 at S3 S4 ⊢;generalize hX:(w3.alloc (.cells #[.int .i64 d1,.int .i64 d2,.int .i64 d3] 3)).drew=X at S4 F4 R4
   go_region_held3 (fun W=>W.cell? ⟨Z1,2,none⟩=some (.int .i64 n1)/\W.cell? ⟨Z1+1,2,none⟩=some (.int .i64 n2)/\W.cell? ⟨Z1,3,none⟩=some (.int .i64 i1)/\W.cell? ⟨Z1+1,3,none⟩=some (.int .i64 i2)/\W.cell? ⟨Z1,4,none⟩=some (.string q1)/\W.cell? ⟨Z1+1,4,none⟩=some (.string q2)) (first | with_reducible exact S3 | with_reducible exact S4) (first
    | (go_at_call 133;(with_reducible refine (HKN.out _).mono ?_);rintro e w7 ⟨rfl,rfl⟩)
    | (go_at_call 133;(with_reducible refine (HKI.out _).mono ?_);rintro e w7 ⟨rfl,rfl⟩)
    | (go_at_call 163;(with_reducible refine (HKS.out _).mono ?_);rintro e w7 ⟨rfl,rfl⟩)
    | (go_at_call 132;(with_reducible refine (Or_any _ 3 3 _ _ _ R4 (by omega)).mono ?_);rintro e w7 ⟨rfl,rfl⟩))
   all_goals
    go_wp2_with fail
    go_ret
    exact⟨by rw[HR.out];rfl,F4⟩
  ·have h2b:(c2 != 0)=true:=by simpa using h2
   have e:=HR.out;rw[if_pos (by simpa using h2)] at e;subst e
   go_wp2_with (first
    | (go_at_call 133;(with_reducible refine (HK1.out _).mono ?_);rintro e w6 ⟨rfl,rfl⟩)
    | (go_at_call 152;(with_reducible refine HC1.out.mono ?_);rintro e w3 ⟨rfl,hb3⟩;have HF3:=Hd (HF2.out.then (Fr.of_below hb3));clear hb3))
   go_ret
   exact⟨rfl,HF3.out⟩
 ·have h1b:(c1 != 0)=true:=by simpa using h1
  have e:=HR.out;rw[if_pos (by simpa using h1)] at e;subst e
  go_wp2_with ((go_at_call 133;(with_reducible refine (HK1.out _).mono ?_);rintro e w6 ⟨rfl,rfl⟩))
  go_ret
  exact⟨rfl,HF2.out⟩
theorem encU_len:∀ (k u:Nat),u<128 ^ (k+1)->(encU u).length<=k+1
 | 0,u,h=>by rw[encU_lo (by simpa using h)];simp
 | k+1,u,h=>by
  by_cases hu:u<128
  ·rw[encU_lo hu];simp
  ·rw[encU_hi hu,List.length_cons]
   have h1:128 ^ (k+1+1)=128 ^ (k+1)*128:=Nat.pow_succ ..;have:=encU_len k (u / 128) (by omega);omega
theorem encU_len9 {u:Nat} (h:u<=9223372036854775807):(encU u).length<=9:=encU_len 8 u (by omega)
theorem encT_len {s:Nm} (h:s.length<=9223372036854775807):(encT s).length<=s.length+9:=by
 unfold encT;have:=encU_len9 h;rw[lla];omega
def WrS (a:World) (b:Nat) (bs:Nm) (w:World):Prop:=∃ A,WrAt w b A bs/\Fr [b] a w/\∀ k∈blk A,a.heap.size<=k
section
variable {a w w':World} {b:Nat} {A:Option Addr} {bs bs':Nm} {e:Ending}
theorem WrS.new (h:WrAt w b none []):WrS w b [] w:=⟨none,h,Fq _ _,by simp[blk]⟩
theorem WrS.fr (h:WrS a b bs w):Fr [b] a w:=by obtain⟨A,_,h,_⟩:=h;exact h
theorem WrS.more (h:WrS a b bs w) (hf:Fr [] w w') (hb:b<w.heap.size):WrS a b bs w':=by
 obtain⟨A,h1,h2,h3⟩:=h;exact⟨A,h1.fr hf (by simp) (by simp),h2.trans hf (by simp),h3⟩
theorem WrS.step (h1:WrAt w b A bs) (h2:Fr [b] a w) (h3:∀ k∈blk A,a.heap.size<=k) (hp:WPost w b A bs' e w'):e=.returned (.tuple #[])/\WrS a b bs' w':=by
 obtain⟨rfl,A',q1,q2,q3⟩:=hp;refine⟨rfl,A',q1,h2.trans q2 (fun x hx=>?_),fun k hk=>?_⟩
 ·rcases List.mem_cons.1 hx with rfl | hx
  ·exact .inl (by simp)
  ·exact .inr (h3 x hx)
 ·rcases q3 k hk with h | h
  ·exact h3 k h
  ·have:=h2.size;omega
theorem Number_ws (h:WrS a b bs w) (n:Nat) (hn:n<=9223372036854775807) (hL:bs.length<=70368744177600) :
 Calls prog 57 #[.pointer (some ⟨b,0,none⟩),.int .i64 (n:Int)] w fun e w'=>e=.returned (.tuple #[])/\WrS a b (bs++encU n) w':=by
 obtain⟨A,h1,h2,h3⟩:=h;have:=encU_len9 hn;exact (Number_any w b A bs n h1 hn (by rw[lla];omega)).mono fun e w' hp=>WrS.step h1 h2 h3 hp
theorem Flag_ws (h:WrS a b bs w) (v:Bool) (hL:bs.length<=70368744177600) :
 Calls prog 122 #[.pointer (some ⟨b,0,none⟩),.bool v] w fun e w'=>e=.returned (.tuple #[])/\WrS a b (bs++[flagB v]) w':=by
 obtain⟨A,h1,h2,h3⟩:=h;exact (Flag_any w b A bs v h1 (by omega)).mono fun e w' hp=>WrS.step h1 h2 h3 hp
theorem Text_ws (h:WrS a b bs w) (s:Nm) (hn:s.length<=16777216) (hL:bs.length+s.length<=70368744177600) :
 Calls prog 56 #[.pointer (some ⟨b,0,none⟩),encN s] w fun e w'=>e=.returned (.tuple #[])/\WrS a b (bs++encT s) w':=by
 obtain⟨A,h1,h2,h3⟩:=h;have:=encT_len (s:=s) (by omega);exact (Text_any w b A bs s h1 hn (by rw[lla];omega)).mono fun e w' hp=>WrS.step h1 h2 h3 hp
theorem Bytes_ws (h:WrS a b bs w) (hL:bs.length<=70368744177600):Calls prog 58 #[.pointer (some ⟨b,0,none⟩)] w (BytesRes w bs):=by
 obtain⟨A,h1,h2,h3⟩:=h;exact Bytes_any w b A bs h1 (by omega)
end
def encOu (u:Usage) (n:ON):Nm :=
 ((((encU n.kind.toNat)++(if u.owner then encT n.owner else []))++(if u.number then encU n.number.toNat else []))++(if u.index then encU n.index.toNat else []))++(if u.text then encT n.text else [])
def encOn (n:ON):Nm:=encOu (us n.kind.toNat) n
def EncPost (w:World) (s:Nm) (r:Int) (e:Ending) (w':World):Prop:=e=.returned (.tuple #[encN s,.int .i64 r])/\Fr [] w w'
theorem us_most {k:Nat} (h:k<21):(us k).most<=1073741824:=by
 have:∀ y:Fin 21,(us y.val).most<=1073741824:=by decide
 exact this ⟨k,h⟩
theorem checkU_zero {u:Usage} {n:ON} (h:checkU u n=0):(u.number=true->withinB n.number 1073741824=true)/\(u.index=true->withinB n.index u.most=true)/\(u.text=true->wordB n.text=true):=by
 unfold checkU at h;split at h
 ·simp at h
 split at h
 ·simp at h
 split at h
 ·simp at h
 split at h
 ·simp at h
 split at h
 ·simp at h
 split at h
 ·simp at h
 rename_i h6;split at h
 ·simp at h
 rename_i h7;split at h
 ·simp at h
 rename_i h8;unfold tN at h6;unfold tI at h7;unfold tW at h8;refine⟨fun e=>?_,fun e=>?_,fun e=>?_⟩
 ·rw[e] at h6;simpa using h6
 ·rw[e] at h7;simpa using h7
 ·rw[e] at h8;simpa using h8
def EncCut (a:World) (u:List Value) (s5 s6:Value) (W:World):Prop:=∃ P b,s5=.pointer (some ⟨P,0,none⟩)/\s6=.pointer (some ⟨b,0,none⟩)/\WrS W b [] W/\BoxN W P 216 u.toArray/\P≠b/\a.heap.size<=P/\a.heap.size<=b/\Fr [] a W
theorem name_cells {W:World} {B:Nat} {a b c d e:Value} {t:TypeId} (h:BoxN W B t #[a,b,c,d,e]):W.cell? ⟨B,1,none⟩=some b/\W.cell? ⟨B,2,none⟩=some c/\W.cell? ⟨B,3,none⟩=some d/\W.cell? ⟨B,4,none⟩=some e:=⟨h.c 1,h.c 2,h.c 3,h.c 4⟩
theorem use_cells {W:World} {B:Nat} {a b c d e f:Value} {t:TypeId} (h:BoxN W B t #[a,b,c,d,e,f]):W.cell? ⟨B,1,none⟩=some b/\W.cell? ⟨B,2,none⟩=some c/\W.cell? ⟨B,3,none⟩=some d/\W.cell? ⟨B,4,none⟩=some e:=⟨h.c 1,h.c 2,h.c 3,h.c 4⟩
theorem EncodeO_ok (n:ON) (w:World) (hok:Ok w) (ho:n.owner.length<=16777216) (ht:n.text.length<=140737488355328) (hr:checkO n=0):Calls prog 55 #[encO n] w (EncPost w (encOn n) 0):=by
 have hC:=fun W h=>Check_any n W h (by omega) ht;rw[hr] at hC
 have hkb:kindB n.kind=true:=by
  unfold checkO at hr
  by_cases h:kindB n.kind=true
  ·exact h
  ·rw[if_neg h] at hr
   simp at hr
 obtain⟨k,hk,hk21⟩:∃ k:Nat,n.kind=(k:Int)/\k<21:=by
  simp only[kindB,decide_eq_true_eq] at hkb;exact⟨n.kind.toNat,by omega,by omega⟩
 unfold checkO at hr;rw[if_pos hkb] at hr;unfold encOn;obtain⟨kind,owner,number,index,text⟩:=n;simp only at hk;subst hk;simp only[show ((k:Nat):Int).toNat=k from rfl] at hr ⊢;obtain⟨q,hq⟩:=nmd (encOu (us k) ⟨(k:Int),owner,number,index,text⟩);rw[hq];unfold encOu at hq;have hz:=checkU_zero hr;have hmo:=us_most hk21;clear hr;unfold encO at hC ⊢;simp only at hC hz hq ho ht ⊢;obtain⟨os,hos,_,_⟩:=str_of owner;obtain⟨ts,hts,_,_⟩:=str_of text;rw[hos,hts] at hC ⊢;obtain⟨w1,hw1,hb1,hf1⟩:=bxn w #[.int .i64 (k:Int),.string os,.int .i64 number,.int .i64 index,.string ts] 31;obtain⟨x0,x1,x2,x3,x4⟩:=hb1.m5;have hC1:=hC w1 (hok.fr0 hf1);have HOK:=Hd (hok.fr0 hf1);have HC1:=Hd hC1;have HF1:=Hd hf1;have HB1:=Hd hb1;have HW1:=Hd hw1;have HR:=Hd hz;have HMO:=Hd hmo;have HQ:=Hd hq;have HOS:=Hd hos;have HTS:=Hd hts;have hk0:(k:Int)<21:=by omega
 clear hC hC1 hf1 hw1 hb1 hos hts hok hz hmo hq hkb
 go_enter func55,ntmps55
 go_upto_region 1 with fail
 rw[HW1.out]
 go_upto_region 4 with ((go_at_call 53;(with_reducible refine HC1.out.mono ?_);rintro e w2 ⟨rfl,hf2⟩;have HB2:=Hd (HB1.out.fr hf2 (by simp));have HF2:=Hd (HF1.out.then hf2);have HOK2:=Hd (HOK.out.fr0 hf2);clear hf2))
 clear HC1 HOK HB1 x0 x1 x2 x3 x4;obtain⟨e0,e1,e2,e3,e4,e5⟩:=us_cells HOK2.out hk21;obtain⟨u,hu⟩:=nmd (us k);rw[hu] at e0 e1 e2 e3 e4 e5 HR HQ HMO;obtain⟨uw,uo,un,ui,ut,um⟩:=u;simp only at e0 e1 e2 e3 e4 e5;obtain⟨us,hus,_,_⟩:=str_of uw;rw[hus] at e0;obtain⟨x0,x1⟩:=HB2.out.m2;clear hu hus;have hlow:=HOK2.out.low;have hlt:=HB2.out.lt;have hss:∀ W,Fr [] w2 W->W.cell? ⟨w.heap.size,0,none⟩=some (.int .i64 (k:Int))/\W.cell? ⟨0,k*6,none⟩=some (.string us)/\W.cell? ⟨0,k*6+1,none⟩=some (.bool uo)/\W.cell? ⟨0,k*6+2,none⟩=some (.bool un)/\W.cell? ⟨0,k*6+3,none⟩=some (.bool ui)/\W.cell? ⟨0,k*6+4,none⟩=some (.bool ut)/\W.cell? ⟨0,k*6+5,none⟩=some (.int .i64 um):=fun W hf=>⟨(hf.cell hlt (by simp)).trans x0,(hf.cell (p:=⟨0,_,none⟩) (by show 0<_;omega) (by simp)).trans e0,(hf.cell (p:=⟨0,_,none⟩) (by show 0<_;omega) (by simp)).trans e1,(hf.cell (p:=⟨0,_,none⟩) (by show 0<_;omega) (by simp)).trans e2,(hf.cell (p:=⟨0,_,none⟩) (by show 0<_;omega) (by simp)).trans e3,(hf.cell (p:=⟨0,_,none⟩) (by show 0<_;omega) (by simp)).trans e4,(hf.cell (p:=⟨0,_,none⟩) (by show 0<_;omega) (by simp)).trans e5⟩;have HSS:=Hd hss;clear hss hlow hlt
 go_cut [5,6] from 14 to 18 (fun s5 s6 W=>EncCut w2 [.string us,.bool uo,.bool un,.bool ui,.bool ut,.int .i64 um] s5 s6 W)
 case first =>
  clear e0 e1 e2 e3 e4 e5 x0 x1
  go_region_held3 (fun W=>W.cell? ⟨w.heap.size,0,none⟩=some (.int .i64 (k:Int))/\W.cell? ⟨0,k*6,none⟩=some (.string us)/\W.cell? ⟨0,k*6+1,none⟩=some (.bool uo)/\W.cell? ⟨0,k*6+2,none⟩=some (.bool un)/\W.cell? ⟨0,k*6+3,none⟩=some (.bool ui)/\W.cell? ⟨0,k*6+4,none⟩=some (.bool ut)/\W.cell? ⟨0,k*6+5,none⟩=some (.int .i64 um)) (with_reducible refine HSS.out _ ?_;(repeat (first | exact Fq _ _ | exact hfN | refine Fr.drew ?_ | refine Fr.alloc ?_ _ | refine Fr.set ?_ (.inr (by simp)) _ | refine Fr.setCells ?_ (.inr (by simp)) _ _ | refine Fr.then ?_ hfN | refine Fr.then ?_ hfN.undrew));done) (first
   | (go_at_call 54;(with_reducible refine (NewWriter_any ((w2.alloc (.cells #[.string ⟨#[]⟩,.bool false,.bool false,.bool false,.bool false,.int .i64 0] 216)).drew)).mono ?_);rintro e w3 ⟨rfl,hwr,hfN⟩;have hz:=(BoxN.new w2 216 #[.string ⟨#[]⟩,.bool false,.bool false,.bool false,.bool false,.int .i64 0]).drew.fr hfN (by simp);have g0:=hz.f 0;have g1:=hz.f 1;have g2:=hz.f 2;have g3:=hz.f 3;have g4:=hz.f 4;have g5:=hz.f 5;have d0:=hz.c 0;have d1:=hz.c 1;have d2:=hz.c 2;have d3:=hz.c 3;have d4:=hz.c 4;have d5:=hz.c 5;simp only[List.getElem?_toArray,List.getElem?_cons_zero,List.getElem?_cons_succ] at d0 d1 d2 d3 d4 d5)
   | (go_at_call 54;(with_reducible refine (NewWriter_any _).mono ?_);rintro e w3 ⟨rfl,hwr,hfN⟩))
  ·go_wp2_with fail
   go_meet
   have hl:=hwr.lt;have hs:=hfN.size;exact⟨_,_,rfl,rfl,WrS.new (hwr.fr ((Fq [] w3).alloc _) (by simp) (by simp)),BoxN.new w3 _ _,Nat.ne_of_gt hl,hs,nlr _,hfN.undrew.alloc _⟩
  ·go_wp2_with fail
   go_meet
   have e:((w2.alloc (.cells #[.string ⟨#[]⟩,.bool false,.bool false,.bool false,.bool false,.int .i64 0] 216)).drew).heap.size=w2.heap.size+1:=wsA ..;rw[e] at hwr;have hs:=hfN.size;exact⟨_,_,rfl,rfl,WrS.new (hwr.fr (S:=[w2.heap.size]) ((((((Fq _ w3).set (.inl (by simp)) _).set (.inl (by simp)) _).set (.inl (by simp)) _).set (.inl (by simp)) _).set (.inl (by simp)) _ |>.set (.inl (by simp)) _) (by simp) (by simp[blk])),((((((hz.setAt 0 _).setAt 1 _).setAt 2 _).setAt 3 _).setAt 4 _).setAt 5 _),by omega,nlr _,by omega,(((((((((Fq [] w2).alloc _).drew).then hfN).set (.inr (nlr _)) _).set (.inr (nlr _)) _).set (.inr (nlr _)) _).set (.inr (nlr _)) _).set (.inr (nlr _)) _).set (.inr (nlr _)) _⟩
 case rest =>
 obtain⟨P,b,rfl,rfl,hws,hbu,hPb,hP,hb,hf3⟩:=hcut;obtain⟨w4,hw4⟩:=nmd (wc);rw[hw4] at hws hbu hf3 ⊢;clear hw4 e0 e1 e2 e3 e4 e5 x0 x1 HSS;have HF4:=Hd (HF2.out.then hf3);have hB0:=HB2.out.lt;have HN4:=Hd (HB2.out.fr hf3 (by simp));have HU4:=Hd hbu;have hB0b:w.heap.size≠b:=by omega
 have hPb':P≠b:=hPb;have hwb:w.heap.size<=b:=by omega
 clear hbu hf3;have n0:=HN4.out.k0
 go_upto_region 6 with ((go_at_call 57;(with_reducible refine (Number_ws hws k (by omega) (by simp)).mono ?_);rintro e w5 ⟨rfl,hws⟩))
 have hbl:(([]:Nm)++encU k).length<=9:=by simpa using encU_len9 (u:=k) (by omega)
 obtain⟨bs0,hbs0⟩:=nmd (([]:Nm)++encU k);rw[hbs0] at hws hbl;obtain⟨hnum,hidx,htxt⟩:=HR.out;have hmo:=HMO.out
 have hl1:(bs0++(if uo then encT owner else [])).length<=20000000:=by
  have:=encT_len (s:=owner) (by omega);rw[lla];split
  ·omega
  ·simp;omega
 have HW5:=Hd hws;have hN5:=HN4.out.fr hws.fr (by simpa using hB0b);have hU5:=HU4.out.fr hws.fr (by simpa using hPb);clear hws;obtain⟨n1,n2,n3,n4⟩:=name_cells hN5;obtain⟨v1,v2,v3,v4⟩:=use_cells hU5;clear hN5 hU5
 go_upto_if 24 with fail
 go_cut [4] from 24 to 28 (fun s4 W=>s4=.int .i64 0/\WrS w4 b (bs0++(if uo then encT owner else [])) W)
 case first =>
  cases hfl:uo with
  | false =>
   go_wp2_with fail
   go_meet
   exact⟨rfl,by rw[hfl];simpa using HW5.out⟩
  | true =>
   go_wp2_with (((go_at_call 56;have hT:=Text_ws HW5.out owner (by omega) (by omega);rw[HOS.out] at hT;(with_reducible refine hT.mono ?_);rintro e w6 ⟨rfl,hws⟩)))
   go_meet
   exact⟨rfl,by rw[hfl];simpa using hws⟩
 case rest =>
 obtain⟨rfl,hws⟩:=hcut;clear HW5 n1 n2 n3 n4 v1 v2 v3 v4;obtain⟨w5,hw5⟩:=nmd (wc);rw[hw5] at hws ⊢;clear hw5;obtain⟨bs1,hbs1⟩:=nmd (bs0++(if uo then encT owner else []));rw[hbs1] at hws hl1
 have hl2:(bs1++(if un then encU number.toNat else [])).length<=20000010:=by
  rw[lla];split
  ·rename_i h
   have:=hnum h;simp only[withinB,decide_eq_true_eq] at this;have:=encU_len9 (u:=number.toNat) (by omega);omega
  ·simp;omega
 have HW5:=Hd hws;have hN5:=HN4.out.fr hws.fr (by simpa using hB0b);have hU5:=HU4.out.fr hws.fr (by simpa using hPb);clear hws;obtain⟨n1,n2,n3,n4⟩:=name_cells hN5;obtain⟨v1,v2,v3,v4⟩:=use_cells hU5;clear hN5 hU5
 go_upto_if 30 with fail
 go_cut [4] from 30 to 34 (fun s4 W=>s4=.int .i64 0/\WrS w4 b (bs1++(if un then encU number.toNat else [])) W)
 case first =>
  cases hfl:un with
  | false =>
   go_wp2_with fail
   go_meet
   exact⟨rfl,by rw[hfl];simpa using HW5.out⟩
  | true =>
   go_wp2_with (((go_at_call 57;have hW:=hnum hfl;simp only[withinB,decide_eq_true_eq] at hW;have hT:=Number_ws HW5.out number.toNat (by omega) (by omega);rw[show ((number.toNat:Nat):Int)=number by omega] at hT;(with_reducible refine hT.mono ?_);rintro e w6 ⟨rfl,hws⟩)))
   go_meet
   exact⟨rfl,by rw[hfl];simpa using hws⟩
 case rest =>
 obtain⟨rfl,hws⟩:=hcut;clear HW5 n1 n2 n3 n4 v1 v2 v3 v4;obtain⟨w5,hw5⟩:=nmd (wc);rw[hw5] at hws ⊢;clear hw5;obtain⟨bs2,hbs2⟩:=nmd (bs1++(if un then encU number.toNat else []));rw[hbs2] at hws hl2
 have hl3:(bs2++(if ui then encU index.toNat else [])).length<=20000020:=by
  rw[lla];split
  ·rename_i h
   have:=hidx h;simp only[withinB,decide_eq_true_eq] at this;have:=encU_len9 (u:=index.toNat) (by omega);omega
  ·simp;omega
 have HW5:=Hd hws;have hN5:=HN4.out.fr hws.fr (by simpa using hB0b);have hU5:=HU4.out.fr hws.fr (by simpa using hPb);clear hws;obtain⟨n1,n2,n3,n4⟩:=name_cells hN5;obtain⟨v1,v2,v3,v4⟩:=use_cells hU5;clear hN5 hU5
 go_upto_if 36 with fail
 go_cut [4] from 36 to 40 (fun s4 W=>s4=.int .i64 0/\WrS w4 b (bs2++(if ui then encU index.toNat else [])) W)
 case first =>
  cases hfl:ui with
  | false =>
   go_wp2_with fail
   go_meet
   exact⟨rfl,by rw[hfl];simpa using HW5.out⟩
  | true =>
   go_wp2_with (((go_at_call 57;have hW:=hidx hfl;simp only[withinB,decide_eq_true_eq] at hW;have hT:=Number_ws HW5.out index.toNat (by omega) (by omega);rw[show ((index.toNat:Nat):Int)=index by omega] at hT;(with_reducible refine hT.mono ?_);rintro e w6 ⟨rfl,hws⟩)))
   go_meet
   exact⟨rfl,by rw[hfl];simpa using hws⟩
 case rest =>
 obtain⟨rfl,hws⟩:=hcut;clear HW5 n1 n2 n3 n4 v1 v2 v3 v4;obtain⟨w5,hw5⟩:=nmd (wc);rw[hw5] at hws ⊢;clear hw5;obtain⟨bs3,hbs3⟩:=nmd (bs2++(if ui then encU index.toNat else []));rw[hbs3] at hws hl3
 have hw32:ut=true->text.length<=32:=fun h=>by
  have:=htxt h;simp only[wordB,Bool.and_eq_true,decide_eq_true_eq] at this;exact this.1.2
 have hl4:(bs3++(if ut then encT text else [])).length<=20000100:=by
  rw[lla];split
  ·rename_i h
   have:=hw32 h;have:=encT_len (s:=text) (by omega);omega
  ·simp;omega
 have HW5:=Hd hws;have hN5:=HN4.out.fr hws.fr (by simpa using hB0b);have hU5:=HU4.out.fr hws.fr (by simpa using hPb);clear hws;obtain⟨n1,n2,n3,n4⟩:=name_cells hN5;obtain⟨v1,v2,v3,v4⟩:=use_cells hU5;clear hN5 hU5
 go_upto_if 42 with fail
 go_cut [4] from 42 to 46 (fun s4 W=>s4=.int .i64 0/\WrS w4 b (bs3++(if ut then encT text else [])) W)
 case first =>
  cases hfl:ut with
  | false =>
   go_wp2_with fail
   go_meet
   exact⟨rfl,by rw[hfl];simpa using HW5.out⟩
  | true =>
   go_wp2_with (((go_at_call 56;have hW:=hw32 hfl;have hT:=Text_ws HW5.out text (by omega) (by omega);rw[HTS.out] at hT;(with_reducible refine hT.mono ?_);rintro e w6 ⟨rfl,hws⟩)))
   go_meet
   exact⟨rfl,by rw[hfl];simpa using hws⟩
 case rest =>
 obtain⟨rfl,hws⟩:=hcut;clear HW5 n1 n2 n3 n4 v1 v2 v3 v4;obtain⟨w5,hw5⟩:=nmd (wc);rw[hw5] at hws ⊢;clear hw5;obtain⟨bs4,hbs4⟩:=nmd (bs3++(if ut then encT text else []));rw[hbs4] at hws hl4
 have hq:bs4=q:=by
  rw[<-HQ.out,<-hbs4,<-hbs3,<-hbs2,<-hbs1,<-hbs0];simp
 subst hq;have HFE:=Hd (HF4.out.trans hws.fr (fun x hx=>by rw[lms] at hx;subst hx;exact .inr hwb))
 go_wp2_with ((go_at_call 58;(with_reducible refine (Bytes_ws hws (by omega)).mono ?_);rintro e w6 ⟨A',c',rfl,ho6,hf6,_⟩;have hcv:=run_row_str ho6.row 49 5 underlying49 underlying5 9 underlying9 c';have HFF:=Hd (HFE.out.then hf6);clear ho6 hf6))
 go_ret2
 exact⟨rfl,HFF.out⟩
def RdS (c0 c1 b:Nat) (r:RS) (w:World):Prop:=∃ A,RdAt w b A r/\c0<=b/\b<c1/\((∀ k∈blk A,c0<=k/\k<c1) \/ r.l=[])
section
variable {S:List Nat} {w w':World} {c0 c1 b:Nat} {r r':RS} {e:Ending} {v:Value}
theorem RdS.fr (h:RdS c0 c1 b r w) (hf:Fr S w w') (hS:∀ k∈S,k<c0 \/ c1<=k):RdS c0 c1 b r w':=by
 obtain⟨A,h1,h2,h3,h4⟩:=h;have hb:b ∉ S:=fun hm=>by have:=hS b hm;omega
 rcases h4 with h4 | h4
 ·exact⟨A,h1.fr hf hb (fun k hk hm=>by have:=hS k hm;have:=h4 k hk;omega),h2,h3,.inl h4⟩
 ·refine⟨A,?_,h2,h3,.inr h4⟩
  obtain⟨c,q1,q2,q3,q4⟩:=h1;refine⟨c,q1.fr hf hb,q2,?_,q4⟩;rw[h4];exact Row.nil_
theorem RdS.fr0 (h:RdS c0 c1 b r w) (hf:Fr [] w w'):RdS c0 c1 b r w':=h.fr hf (by simp)
theorem RdS.step {A:Option Addr} (h2:c0<=b) (h3:b<c1) (h4:(∀ k∈blk A,c0<=k/\k<c1) \/ r.l=[]) (hl:r.l=[]->r'.l=[]) (hp:RdPost w b A v r' e w'):e=.returned v/\RdS c0 c1 b r' w'/\Fr [b] w w':=by
 obtain⟨rfl,A',q1,q2,q3⟩:=hp;refine⟨rfl,⟨A',q1,h2,h3,?_⟩,q2⟩
 rcases h4 with h4 | h4
 ·exact .inl fun k hk=>h4 k (q3 k hk)
 ·exact .inr (hl h4)
theorem rstep_nil {α:Type} {z:α} {r:RS} {x:α × Nat × Int} (h:r.l=[]):(rstep z r x).2.l=[]:=by
 unfold rstep;split
 ·exact h
 ·split
  ·exact h
  ·rw[h];simp
theorem Number_rs (h:RdS c0 c1 b r w) (m:Nat):Calls prog 50 #[.pointer (some ⟨b,0,none⟩),.int .i64 (m:Int)] w fun e w'=>e=.returned (.int .i64 (rdNum m r).1)/\RdS c0 c1 b (rdNum m r).2 w'/\Fr [b] w w':=by
 obtain⟨A,h1,h2,h3,h4⟩:=h;exact (Number_rd b m A r w h1).mono fun e w' hp=>RdS.step h2 h3 h4 rstep_nil hp
theorem Text_rs (h:RdS c0 c1 b r w) (m:Nat):Calls prog 49 #[.pointer (some ⟨b,0,none⟩),.int .i64 (m:Int)] w fun e w'=>e=.returned (encN (rdText m r).1)/\RdS c0 c1 b (rdText m r).2 w'/\Fr [b] w w':=by
 obtain⟨A,h1,h2,h3,h4⟩:=h;exact (Text_rd b m A r w h1).mono fun e w' hp=>RdS.step h2 h3 h4 rstep_nil hp
theorem Flag_rs (h:RdS c0 c1 b r w):Calls prog 217 #[.pointer (some ⟨b,0,none⟩)] w fun e w'=>e=.returned (.bool (rdFlag r).1)/\RdS c0 c1 b (rdFlag r).2 w'/\Fr [b] w w':=by
 obtain⟨A,h1,h2,h3,h4⟩:=h;exact (Flag_rd b A r w h1).mono fun e w' hp=>RdS.step h2 h3 h4 rstep_nil hp
theorem Rest_rs (h:RdS c0 c1 b r w):Calls prog 216 #[.pointer (some ⟨b,0,none⟩)] w fun e w'=>e=.returned (.int .i64 (r.l.length:Int))/\w=w':=by
 obtain⟨A,h1,_⟩:=h;exact Rest_rd b A r w h1
theorem Close_rs (h:RdS c0 c1 b r w):Calls prog 52 #[.pointer (some ⟨b,0,none⟩)] w fun e w'=>e=.returned (.int .i64 (rdClose r))/\w=w':=by
 obtain⟨A,h1,_⟩:=h;exact Close_rd b A r w h1
theorem NewReader_rs (A:Option Addr) (n c B:Nat) (l:Nm) (w:World) (hr:Row w B 1 A n (dCells l)) (hsp:∀ a,A=some a->a.spot=none) (hn:n<=70368744177664):Calls prog 47 #[.slice A n c] w fun e w'=>∃ b,e=.returned (.pointer (some ⟨b,0,none⟩))/\RdS w.heap.size w'.heap.size b ⟨l,0,0⟩ w'/\Fr [] w w':=by
 refine (NewReader_any A n c B l w hr hsp hn).mono ?_;rintro e w' ⟨b,A',rfl,h1,h2,h3,h4⟩;refine⟨b,rfl,⟨A',h1,h3,h1.lt,?_⟩,h2⟩;obtain⟨c',_,_,q3,_⟩:=h1
 by_cases hl:l=[]
 ·exact .inr hl
 ·left
  intro k hk;refine⟨h4 k hk,?_⟩;obtain⟨bb,off,rfl,hlt,_⟩:=q3.2 (List.length_pos_iff.2 hl);have:k=bb:=by simpa [blk] using hk
  omega
end
end Go.Proofs.YtlpmiimgacfmkaaGreatDoor
