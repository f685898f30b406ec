/- lineage.Valid, (Name).Ordinals, (Name).Last. -/
import Derived.Calls
import Derived.RunT
import Derived.Sort.Grow
import Derived.Test.YtlpmiimgacfmkaaGreatDoorRLin3
import Derived.Test.YtlpmiimgacfmkaaGreatDoorRBase
import Derived.Test.YtlpmiimgacfmkaaGreatDoorRShelf1
set_option linter.all false
namespace Go.Proofs.YtlpmiimgacfmkaaGreatDoor
open Go.RowKit Go.Shelf
set_option maxRecDepth 100000
set_option maxHeartbeats 1000000
attribute [local go_sem] Oper.semAt_some
theorem validB_iff (s:List UInt8):validB s=(parseErr (partsOf s) == 0):=by
 unfold validB
 by_cases h:∀ x∈partsOf s,x.2.2=0
 ·rw[parseErr_zero h,List.all_eq_true.2 (fun x hx=>by simp[h x hx])];rfl
 ·have h1:(partsOf s).all (fun p=>p.2.2 == 0)=false:=by
   rw[List.all_eq_false]
   simp only[Classical.not_forall] at h
   obtain⟨x,hx,hne⟩:=h
   exact⟨x,hx,by simpa using hne⟩
  rw[h1]
  symm
  rw[beq_eq_false_iff_ne]
  unfold parseErr
  cases hf:(partsOf s).find? fun p=>p.2.2 != 0 with
  | none =>
   exfalso
   rw[List.find?_eq_none] at hf
   apply h
   intro x hx
   simpa using hf x hx
  | some x =>
   have:=List.find?_some hf
   simpa using this
theorem Valid_any (s:ByteArray) (w:World) (hs:s.size≤9223372036854775000) :
 Calls Tryz.prog 115 #[.string s] w fun e w'=>e=.returned (.bool (validB s.data.toList))∧Below w.heap.size w w':=by
 have hv:=validB_iff s.data.toList
 have HV:=Lib.hid hv
 clear hv
 go_enter Tryz.func115,Tryz.ntmps115
 go_wp2_with (go_at_call 168;refine (LParse_any s _ hs).mono ?_;rintro e w' ⟨⟨nm,at_,rfl⟩,hb⟩)
 go_ret
 refine⟨?_,hb⟩
 rw[HV.out]
 simp only[Array.getD_eq_getD_getElem?]
 have e:(((parseErr (partsOf s.data.toList):Nat):Int) == 0)=(parseErr (partsOf s.data.toList) == 0):=by rw[Bool.eq_iff_iff];simp
 simp[e]
theorem partsN_len:∀ (f:Nat) (s:List UInt8) (a c:Nat),(partsN f s a c).length≤f+1
 | 0,_,_,_=>by simp[partsN]
 | f+1,s,a,c=>by
  rw[partsN]
  simp only[List.length_cons]
  have:=partsN_len f s ((firstP s a c).2+1) (c+1)
  split
  ·simp
  ·split
   ·simp
   ·omega
theorem partsOf_len (s:List UInt8):(partsOf s).length≤10:=by
 unfold partsOf
 split
 ·simp
 ·exact partsN_len 9 s 0 0
def encNat (n:Nat):Value:=.int .i64 (n:Int)
theorem Tryz.infoInt:(Tryz.prog.info? 3).map (fun i=>(i.zero,i.size,i.bytes))=some (some (.int .i64 0),1,8):=by kernel_rfl
theorem keepT_own {W W':World} {base size n:Nat} {v:Value} {xs:List Value} (h:W.ownsRow base 3 size v n xs) (hg:W.grownBy W' v.ownBlock):KeepT W W':=by
 intro k cs t fz ht hk
 have hlt:k<W.heap.size:=(Array.getElem?_eq_some_iff.1 hk).1
 rw[hg.block k hlt ?_];exact hk
 rcases h.2 with ⟨rfl,_⟩ | ⟨g,cap,cur,rfl,_,hh,_⟩
 ·simp[Value.ownBlock]
 ·intro e
  obtain rfl:k=g:=by simpa [Value.ownBlock] using e
  rw[hk] at hh
  injection hh with hh
  injection hh with _ h2
  subst h2
  rcases ht with ht | ht <;> exact absurd ht (by decide)
theorem keepT_box {W:World} {B:Nat} {u v:Value} (h:Boxed W B 36 u):KeepT W (W.setCell ⟨B,0,none⟩ v):=by
 intro k cs t fz ht hk
 have hne:k≠B:=by
  rintro rfl
  rw[show W.heap[k]?=_ from h] at hk
  injection hk with hk
  injection hk with _ h2
  subst h2
  rcases ht with ht | ht <;> exact absurd ht (by decide)
 rw[Below.heap_setCell _ _ _ _ hne];exact hk
def OrdI (w:World) (pre:List Part) (W:World):Prop:=(∀ x∈pre,x.2.2=0)∧((Boxed W w.heap.size 36 (.slice none 0 0)∧(∃ v,Boxed W (w.heap.size+1) 36 v∧W.ownsRow w.heap.size 3 1 v pre.length (pre.map fun x=>encNat x.1)∧True))∧Below w.heap.size w W)
def OrdX (w:World) (c:Code) (pre:List Part) (W:World):Prop:=(c=.ret∧parseErr pre≠0)∧Boxed W w.heap.size 36 (.slice none 0 0)∧Below w.heap.size w W
theorem OrdI.own {w:World} {B:Nat} (hB:w.heap.size≤B):OwnFrom B (OrdI w) :=
 OwnFrom.and (ownFrom_pure _ _) (OwnFrom.and (OwnFrom.and (Own.from (boxed_own _ _ _) _) (Own.from (holdsRow_own w.heap.size (w.heap.size+1) 36 3 1 (fun pre:List Part=>pre.length) (fun pre=>pre.map fun x=>encNat x.1) (fun _ _=>True)) _)) (ownFrom_below (Nat.le_refl _) hB))
theorem OrdX.own {w:World} {B:Nat} (hB:w.heap.size≤B) (c:Code):OwnFrom B (OrdX w c) :=
 OwnFrom.and (ownFrom_pure _ _) (OwnFrom.and (Own.from (boxed_own _ _ _) _) (ownFrom_below (Nat.le_refl _) hB))
theorem ord_step {w W w1:World} {pre:List Part} {x:Part} {v:Value} {tmp:Obj} {g cap:Nat} (h0:∀ x∈pre,x.2.2=0) (hx:x.2.2=0) (c0:Boxed W w.heap.size 36 (.slice none 0 0)) (c1:Boxed W (w.heap.size+1) 36 v)
 (hrow:W.ownsRow w.heap.size 3 1 v pre.length (pre.map fun x=>encNat x.1)) (hB:Below w.heap.size w W)
 (hown:w1.ownsRow w.heap.size 3 1 (.slice (some ⟨g,0,none⟩) (pre.length+1) cap) (pre.length+1) ((pre.map fun x=>encNat x.1)++[.int .i64 (x.1:Int)])) (hgrow:(W.alloc tmp).grownBy w1 v.ownBlock) :
 KeepsOthers W (w1.setCell ⟨w.heap.size+1,0,none⟩ (.slice (some ⟨g,0,none⟩) (pre.length+1) cap))∧KeepT W (w1.setCell ⟨w.heap.size+1,0,none⟩ (.slice (some ⟨g,0,none⟩) (pre.length+1) cap))∧OrdI w (pre++[x]) (w1.setCell ⟨w.heap.size+1,0,none⟩ (.slice (some ⟨g,0,none⟩) (pre.length+1) cap)):=by
 obtain⟨hv1,hv2,hr2,hk2,hb2⟩:=c1.appended (by decide) hrow hB.size (by omega) hown hgrow
 have k1:KeepT W (W.alloc tmp):=keepT_below ((Below.refl _ W).alloc (Nat.le_refl _) _)
 have k2:=keepT_own (hrow.alloc tmp) hgrow
 have k3:=keepT_box (v:=.slice (some ⟨g,0,none⟩) (pre.length+1) cap) hv1
 refine⟨hk2,keepT_t (keepT_t k1 k2) k3,?_,⟨?_,⟨_,hv2,?_,trivial⟩⟩,hB.trans hb2⟩
 ·intro y hy
  rcases List.mem_append.1 hy with h | h
  ·exact h0 y h
  ·rw[List.mem_singleton] at h;rw[h];exact hx
 ·exact ((c0.alloc tmp).kept hgrow (c0.not_row (by decide) hrow)).other (by omega) _
 ·have e:(pre++[x]).length=pre.length+1:=by simp
  rw[e,List.map_append]
  exact hr2
theorem ord_end {w X:World} {D n:Nat} {v:Value} {xs:List Value} (hD:w.heap.size+3≤D) (hK:X.heap[D]?=some (.deferred (some []))) (c0:Boxed X w.heap.size 36 v) (hrow:X.ownsRow w.heap.size 3 1 v n xs) (hB:Below w.heap.size w X) :
 (X.putObj D (.deferred none)).cell? ⟨w.heap.size,0,none⟩=some v∧(X.putObj D (.deferred none)).ownsRow w.heap.size 3 1 v n xs∧Below w.heap.size w (X.putObj D (.deferred none)):=by
 refine⟨?_,?_,?_⟩
 ·exact (c0.kept (grownBy_putObj' X D (.deferred none)) (fun e=>by injection e;omega)).cell
 ·exact ownsRow_putObj hrow _ hK rfl
 ·exact hB.trans (belowK_b (w:=w) (Nat.le_refl _) X D _ _ (by omega) hK rfl rfl)
theorem ord_set {w W:World} {n:Nat} {u v:Value} {xs:List Value} (c0:Boxed W w.heap.size 36 u) (hrow:W.ownsRow w.heap.size 3 1 v n xs) (hB:Below w.heap.size w W) :
 KeepsOthers W (W.setCell ⟨w.heap.size,0,none⟩ v)∧Boxed (W.setCell ⟨w.heap.size,0,none⟩ v) w.heap.size 36 v∧(W.setCell ⟨w.heap.size,0,none⟩ v).ownsRow w.heap.size 3 1 v n xs∧Below w.heap.size w (W.setCell ⟨w.heap.size,0,none⟩ v) :=
 ⟨KeepsOthers.setCell _ _ _,c0.set v,hrow.kept (grownBy_setCell' W w.heap.size v) (.inr (c0.not_row (by decide) hrow).symm),hB.setCell (p:=⟨w.heap.size,0,none⟩) (Nat.le_refl _) _⟩
theorem ordsOf_ok {s:List UInt8} (h:parseErr (partsOf s)=0):ordsOf s=(partsOf s).map (·.1):=by
 unfold ordsOf;rw[if_pos (by rw[validB_iff,h];rfl)]
theorem ordsOf_bad {s:List UInt8} (h:parseErr (partsOf s)≠0):ordsOf s=[]:=by
 unfold ordsOf;rw[if_neg (by rw[validB_iff];simpa using h)]
theorem Ordinals_any (s:ByteArray) (w:World) (hs:s.size≤9223372036854775000) :
 Calls Tryz.prog 186 #[.string s] w fun e w'=>∃ v,e=.returned v∧w'.ownsRow w.heap.size 3 1 v (ordsOf s.data.toList).length ((ordsOf s.data.toList).map encNat)∧Below w.heap.size w w':=by
 refine (callsIn_wide (n:=5)).1 ?_
 refine callsIn_of_wp_marks Tryz.func186 rfl trivial ?_ rfl
 simp only[Tryz.ntmps186,List.size_toArray,List.length_cons,List.length_nil,Nat.reduceAdd,Nat.reduceSub,Array.replicate_succ,Array.replicate_zero,List.push_toArray,List.append_toArray,List.nil_append,List.cons_append]
 obtain⟨i0,hi,hz0,hz1,hz2⟩:=info_parts Tryz.infoInt
 gi_wp2_with (refine⟨trivial,?_⟩;gi_at_call 197;refine (parts_in _ _ _).mono ?_;rintro e w' ⟨rfl,rfl⟩)
 have b0:=((Boxed.new w 36 (.slice none 0 0)).alloc (.cells #[.slice none 0 0] 36)).alloc (.cells #[.string s] 9)
 have b1:=(Boxed.new (w.alloc (.cells #[.slice none 0 0] 36)) 36 (.slice none 0 0)).alloc (.cells #[.string s] 9)
 have b3:=Boxed.new ((w.alloc (.cells #[.slice none 0 0] 36)).alloc (.cells #[.slice none 0 0] 36)) 9 (.string s)
 simp only[World.size_alloc] at b1 b3
 have hB0:Below w.heap.size w (((w.alloc (.cells #[.slice none 0 0] 36)).alloc (.cells #[.slice none 0 0] 36)).alloc (.cells #[.string s] 9)) :=
  (((Below.refl _ w).alloc (Nat.le_refl _) _).alloc (by simp) _).alloc (by simp;omega) _
 have hsz:(((w.alloc (.cells #[.slice none 0 0] 36)).alloc (.cells #[.slice none 0 0] 36)).alloc (.cells #[.string s] 9)).heap.size=w.heap.size+3:=by simp
 obtain⟨W0,hW0⟩:∃ W0,((w.alloc (.cells #[.slice none 0 0] 36)).alloc (.cells #[.slice none 0 0] 36)).alloc (.cells #[.string s] 9)=W0:=⟨_,rfl⟩
 rw[hW0] at b0 b1 b3 hB0 hsz ⊢
 clear hW0
 have hlen:=partsOf_len s.data.toList
 refine wpIn_rangeFunc_ownH rfl (by omega) (gf:=246) (lb:=#[.pointer (some ⟨w.heap.size+1+1,0,none⟩)]) rfl trivial (enters_of Tryz.func246 (by kernel_rfl) rfl)
  (parts_stops 4 (by omega) s hs (w.heap.size+1+1) W0 b3) keepT_t keepT_b (Below.refl _ _) (fun _=>rfl)
  (OrdI w) (OrdX w) (OrdI.own (by omega)) (OrdX.own (by omega))
  ⟨by simp,⟨b0,⟨_,b1,World.ownsRow_nil _ _ _ _,trivial⟩⟩,hB0⟩
  (fun x a' W=>∃ Bx,w.heap.size+1<Bx∧PartAt W Bx x∧a'={ tmps:=#[.string s,undef,.pointer (some ⟨w.heap.size,0,none⟩),.pointer (some ⟨w.heap.size+1,0,none⟩),.pointer (some ⟨Bx,0,none⟩),.string s,.func (.func 246) #[] #[.pointer (some ⟨w.heap.size+1+1,0,none⟩)],encPart x,undef,undef,undef,undef,undef,undef,undef,undef,undef],defers:=[] })
  (fun x a' _ X Y row hs hg hr=>by obtain⟨Bx,h1,h2,h3⟩:=hs;exact⟨Bx,h1,PartAt.own Bx x () X Y row h2 hg (fun r e=>(hr r e).2),h3⟩)
  ?assign ?body ?done ?stop
 case assign =>
  rintro l pre x W K ⟨h0,⟨c0,⟨v,c1,hrow,_⟩⟩,hB1⟩ hK
  unfold encPart
  gi_wp2
  exact hK _ _ ((KeepsOthers.alloc _ _).from _) (keepT_below ((Below.refl _ W).alloc (Nat.le_refl _) _)) ⟨h0,⟨c0.alloc _,⟨v,c1.alloc _,hrow.alloc _,trivial⟩⟩,hB1.alloc hB1.size _⟩ ⟨W.heap.size,c1.lt,World.alloc_heap_new W _,rfl⟩
 case body =>
  rintro l pre x a' W hl ⟨r,hr⟩ ⟨h0,⟨c0,⟨v,c1,hrow,_⟩⟩,hB1⟩ ⟨Bx,hBx,hP,rfl⟩ hlt
  have p0:=hP.cell0
  have p2:=hP.cell2
  have d1:=c1.cell
  have hB1s:=hB1.size
  by_cases hx:x.2.2=0
  ·have t:((x.2.2:Int) != 0)=false:=by rw[hx];rfl
   have HX:=Lib.hid hx
   clear hx
   gi_wp2_with (gi_at_builtin;refine wpListIn_append_own _ rfl _ _ 36 rfl w.heap.size 3 i0 (.int .i64 0) 1 8 Tryz.underlying36 hi hz0 hz1 hz2 rfl (by decide) _ _ _ rfl (hrow.alloc _) ⟨W.heap.size,0,none⟩ 1 1 [.int .i64 (x.1:Int)] rfl rfl (cell_one_new _ _ _) (by simp[Value.oneCell']) (by unfold maxLen;omega) (by omega) (by simp;omega) ?_;intro v' w1 hown' hgrow _;obtain⟨g',cap',rfl⟩:=ownsRow_succ hown';obtain⟨hv1,_⟩:=c1.appended (by decide) hrow hB1.size (by omega) hown' hgrow;have hc1:=hv1.cell;have hf1:=hv1.frozen;have R:=Lib.hid (ord_step (x:=x) h0 HX.out c0 c1 hrow hB1 hown' hgrow))
   exact⟨R.out.1.from _,R.out.2.1,R.out.2.2⟩
  ·have t:((x.2.2:Int) != 0)=true:=by rw[bne_iff_ne];omega
   have d0:=c0.cell
   have f0:=c0.frozen
   have R:=Lib.hid (parseErr_last h0 hx)
   gi_wp2
   exact⟨(KeepsOthers.setCell _ _ _).from _,⟨rfl,by rw[R.out];exact hx⟩,c0.set _,hB1.setCell (p:=⟨w.heap.size,0,none⟩) (Nat.le_refl _) _⟩
 case done =>
  rintro D ys W hD rfl ⟨h0,⟨c0,⟨v,c1,hrow,_⟩⟩,hB1⟩ hK
  have d0:=c0.cell
  have f0:=c0.frozen
  have d1:=c1.cell
  have e:=parseErr_zero h0
  have hE:=Lib.hid e
  clear e
  have S:=Lib.hid (ord_set c0 hrow hB1)
  have ho:=ordsOf_ok hE.out
  have hl:(ordsOf s.data.toList).length=(partsOf s.data.toList).length:=by rw[ho];simp
  have hm:(ordsOf s.data.toList).map encNat=(partsOf s.data.toList).map fun x=>encNat x.1:=by rw[ho];simp
  have HL:=Lib.hid hl
  have HM:=Lib.hid hm
  clear ho hl hm
  rcases hrow.2 with ⟨rfl,_⟩ | ⟨g,cap,cur,rfl,hg⟩
  all_goals
   gi_wp2
   have hK':=S.out.1.same D _ hK rfl
   obtain⟨e0,e1,e2⟩:=ord_end (by omega) hK' S.out.2.1 S.out.2.2.1 S.out.2.2.2
   refine⟨by simp,.inl ⟨_,_,rfl,run_takeDeferred hK',?_⟩⟩
   refine⟨_,?_,⟨_,rfl,by rw[HL.out,HM.out];exact e1,e2⟩⟩
   simp[results,Tryz.f186,go_sem,e0]
 case stop =>
  rintro D c pre W hD hpre ⟨⟨rfl,hne⟩,c0,hB1⟩ hK
  gi_wp2
  obtain⟨e0,e1,e2⟩:=ord_end (by omega) hK c0 (World.ownsRow_nil _ _ _ _) hB1
  refine⟨by simp,.inl ⟨_,_,rfl,run_takeDeferred hK,?_⟩⟩
  refine⟨_,?_,⟨_,rfl,by rw[ordsOf_bad (by rw[parseErr_prefix hpre hne];exact hne)];exact e1,e2⟩⟩
  simp[results,Tryz.f186,go_sem,e0]
end Go.Proofs.YtlpmiimgacfmkaaGreatDoor
namespace Go.Proofs.YtlpmiimgacfmkaaGreatDoor
open Go
section
variable {α:Type} {p:Program} {s:Sem α} {w w':World} {x:α} {hh:Halt} {es es':Array Event} {n:Nat}
end
section
variable {p:Program} {n:Nat} {w:World}
end
open Go.RowKit Go.Sort
set_option maxHeartbeats 1000000
theorem Row.len1 {α:Type} {w:World} {B n:Nat} {A:Option Addr} {f:α→Value} {xs:List α} (h:Row w B 1 A n (xs.map f)):xs.length=n:=by simpa using h.1
def cmpL:List Nat→List Nat→Int
 | [],[]=>0
 | [],_::_=>-1
 | _::_,[]=>1
 | x::xs,y::ys=>if x<y then -1 else if y<x then 1 else cmpL xs ys
theorem cmpL_drop {xs ys:List Nat}:∀ (k:Nat),(∀ j,j<k→xs[j]?=ys[j]?)→k≤xs.length→k≤ys.length→cmpL xs ys=cmpL (xs.drop k) (ys.drop k)
 | 0,_,_,_=>by simp
 | k+1,h,hx,hy=>by
  rw[cmpL_drop k (fun j hj=>h j (by omega)) (by omega) (by omega)]
  rw[List.drop_eq_getElem_cons (i:=k) (by omega),List.drop_eq_getElem_cons (l:=ys) (i:=k) (by omega)]
  have e:=h k (by omega)
  rw[List.getElem?_eq_getElem (by omega),List.getElem?_eq_getElem (by omega)] at e
  injection e with e
  rw[cmpL,if_neg (by omega),if_neg (by omega)]
theorem sliceCompare_any (A A':Option Addr) (n m c d:Nat) (xs ys:List Nat) (w:World) (hn:n≤1000) (hm:m≤1000) (hbx:∀ x∈xs,x≤10000000) (hby:∀ x∈ys,x≤10000000)
 (ha:Row w w.heap.size 1 A n (xs.map encNat)) (hb:Row w w.heap.size 1 A' m (ys.map encNat)) :
 Calls Tryz.prog 185 #[.slice A n c,.slice A' m d] w fun e w'=>e=.returned (.int .i64 (cmpL xs ys))∧w=w':=by
 have hlx:=Hd ha.len1
 have hly:=Hd hb.len1
 have HBX:=Hd hbx
 have HBY:=Hd hby
 clear hbx hby
 go_enter Tryz.func185,Tryz.ntmps185
 go_wp2
 go_loop [11] (fun i=>∃ k:Nat,k≤n∧k≤m∧i=.int .i64 k∧(∀ j,j<k→xs[j]?=ys[j]?)) (fun i=>n - (intOf i).toNat)
 case atStart=>exact⟨0,by omega,by omega,rfl,fun j hj=>absurd hj (by omega)⟩
 case round =>
  obtain⟨k,hk,hkm,rfl,hall⟩:=hrel
  have hd:=cmpL_drop k hall (by rw[hlx.out];exact hk) (by rw[hly.out];exact hkm)
  have HD:=Hd hd
  have HALL:=Hd hall
  clear hall hd
  by_cases hlt:k<n
  ·obtain⟨b1,o1,u,rfl,_,hx0,cx⟩:=ha.at1 hlt
   rw[List.getElem?_map] at hx0
   obtain⟨x,hx,rfl⟩:=Option.map_eq_some_iff.1 hx0
   clear hx0
   have hxb:=HBX.out x (List.mem_of_getElem? hx)
   have hdx:xs.drop k=x::xs.drop (k+1):=by
    have hl:=(List.getElem?_eq_some_iff.1 hx).1
    rw[List.drop_eq_getElem_cons hl,(List.getElem?_eq_some_iff.1 hx).2]
   have HX:=Hd hx
   have HDX:=Hd hdx
   clear hx hdx
   unfold encNat at cx
   by_cases hltm:k<m
   ·obtain⟨b2,o2,u,rfl,_,hy0,cy⟩:=hb.at1 hltm
    rw[List.getElem?_map] at hy0
    obtain⟨y,hy,rfl⟩:=Option.map_eq_some_iff.1 hy0
    clear hy0
    have hyb:=HBY.out y (List.mem_of_getElem? hy)
    have hdy:ys.drop k=y::ys.drop (k+1):=by
     have hl:=(List.getElem?_eq_some_iff.1 hy).1
     rw[List.drop_eq_getElem_cons hl,(List.getElem?_eq_some_iff.1 hy).2]
    have HY:=Hd hy
    have HDY:=Hd hdy
    clear hy hdy
    unfold encNat at cy
    have call:=fun W=>Tryz.cmp_Compare_int (x:Int) (y:Int) W
    by_cases hxy:x<y
    ·have hc:Lib.compareInt (x:Int) (y:Int)=-1:=by unfold Lib.compareInt;rw[if_pos (by omega)]
     rw[hc] at call
     have CALL:=Hd call
     clear call hc
     go_wp2_with fail
     refine (CALL.out _).mono ?_
     rintro e w' ⟨rfl,rfl⟩
     go_wp2_with fail
     go_ret
     refine⟨?_,rfl⟩
     rw[HD.out,HDX.out,HDY.out,cmpL,if_pos hxy]
     rfl
    ·by_cases hyx:y<x
     ·have hc:Lib.compareInt (x:Int) (y:Int)=1:=by unfold Lib.compareInt;rw[if_neg (by omega),if_pos (by omega)]
      rw[hc] at call
      have CALL:=Hd call
      clear call hc
      go_wp2_with fail
      refine (CALL.out _).mono ?_
      rintro e w' ⟨rfl,rfl⟩
      go_wp2_with fail
      go_ret
      refine⟨?_,rfl⟩
      rw[HD.out,HDX.out,HDY.out,cmpL,if_neg hxy,if_pos hyx]
      rfl
     ·have hc:Lib.compareInt (x:Int) (y:Int)=0:=by unfold Lib.compareInt;rw[if_neg (by omega),if_neg (by omega)]
      have hee:x=y:=by omega
      have HEE:=Hd hee
      rw[hc] at call
      have CALL:=Hd call
      clear call hc hee
      go_wp2_with fail
      refine (CALL.out _).mono ?_
      rintro e w' ⟨rfl,rfl⟩
      go_wp2_with fail
      go_round
      case rel=>exact⟨k+1,by omega,by omega,by go_num,fun j hj=>by
       rcases Nat.lt_or_ge j k with h | h
       ·exact HALL.out j h
       ·obtain rfl:j=k:=by omega
        rw[HX.out,HY.out,HEE.out]⟩
      case measure=>simp[intOf];omega
   ·go_wp2_with fail
    go_ret
    refine⟨?_,rfl⟩
    rw[HD.out,HDX.out,List.drop_eq_nil_of_le (show ys.length≤_ by rw[hly.out];omega)]
    rfl
  ·by_cases hnm:n<m
   ·obtain⟨y,ys',hy⟩:∃ y ys',ys.drop k=y::ys':=⟨_,_,List.drop_eq_getElem_cons (by rw[hly.out];omega)⟩
    have HY:=Hd hy
    clear hy
    go_wp2_with fail
    go_ret
    refine⟨?_,rfl⟩
    rw[HD.out,HY.out,List.drop_eq_nil_of_le (by rw[hlx.out];omega)]
    rfl
   ·go_wp2_with fail
    go_ret
    refine⟨?_,rfl⟩
    rw[HD.out,List.drop_eq_nil_of_le (show ys.length≤_ by rw[hly.out];omega),List.drop_eq_nil_of_le (by rw[hlx.out];omega)]
    rfl
theorem ordsOf_len (s:Nm):(ordsOf s).length≤10:=by
 unfold ordsOf
 split
 ·have:=partsOf_len s;simpa using this
 ·simp
theorem firstP_small (s:Nm) (a c:Nat):(firstP s a c).1.1≤10000000:=by
 unfold firstP
 split
 ·simp only
  have hd:∀ x∈(s.drop a).take (run7 s a),isD x=true:=by
   intro x hx
   have e:(s.drop a).take (run7 s a)=((s.drop a).take 7).takeWhile isD:=by
    unfold run7
    have h1:((s.drop a).take 7).takeWhile isD <+: (s.drop a):=(List.takeWhile_prefix _).trans (List.take_prefix _ _)
    exact (List.prefix_iff_eq_take.1 h1).symm
   rw[e] at hx
   have:=List.all_takeWhile (p:=isD) (l:=(s.drop a).take 7)
   rw[List.all_eq_true] at this
   exact this x hx
  have h1:=val10_lt _ hd
  have h2:((s.drop a).take (run7 s a)).length≤7:=by
   have:=List.length_take_le (run7 s a) (s.drop a)
   have:=run7_le s a
   omega
  have h3:10 ^ ((s.drop a).take (run7 s a)).length≤10 ^ 7:=Nat.pow_le_pow_right (by omega) h2
  omega
 ·simp
theorem partsN_small:∀ (f:Nat) (s:Nm) (a c:Nat),∀ x∈partsN f s a c,x.1≤10000000
 | 0,_,_,_,x,hx=>by simp[partsN] at hx
 | f+1,s,a,c,x,hx=>by
  rw[partsN,List.mem_cons] at hx
  rcases hx with h | h
  ·rw[h];exact firstP_small s a c
  ·split at h
   ·simp at h
   ·split at h
    ·rw[List.mem_singleton] at h;rw[h];simp
    ·exact partsN_small f s _ _ x h
theorem ordsOf_small (s:Nm):∀ x∈ordsOf s,x≤10000000:=by
 intro x hx
 unfold ordsOf at hx
 split at hx
 ·obtain⟨y,hy,rfl⟩:=List.mem_map.1 hx
  unfold partsOf at hy
  split at hy
  ·simp at hy
  ·exact partsN_small 9 s 0 0 y hy
 ·simp at hx
theorem cmpL_self:∀ l:List Nat,cmpL l l=0
 | []=>rfl
 | x::l=>by rw[cmpL,if_neg (by omega),if_neg (by omega)];exact cmpL_self l
theorem Compare_valid (x y:ByteArray) (w:World) (hx:x.size≤4294967280) (hy:y.size≤4294967280) (vx:validB x.data.toList=true) (vy:validB y.data.toList=true) :
 Calls Tryz.prog 152 #[.string x,.string y] w fun e w'=>e=.returned (.int .i64 (cmpL (ordsOf x.data.toList) (ordsOf y.data.toList)))∧Below w.heap.size w w':=by
 by_cases h1:x.data.toList=y.data.toList
 ·have t1:=bytes_eq h1
  have HE:Hid (cmpL (ordsOf x.data.toList) (ordsOf y.data.toList)=0):=by unfold Hid;rw[h1];exact cmpL_self _
  clear h1
  go_enter Tryz.func152,Tryz.ntmps152
  go_wp2_with fail
  go_ret
  exact⟨by rw[HE.out];rfl,Below.refl _ _⟩
 ·have t1:=bytes_ne h1
  clear h1
  go_enter Tryz.func152,Tryz.ntmps152
  go_wp2_with fail
  refine (Valid_any x _ (by omega)).mono ?_
  rintro e w1 ⟨rfl,hb1⟩
  go_wp2_with fail
  refine (Valid_any y _ (by omega)).mono ?_
  rintro e w2 ⟨rfl,hb2⟩
  go_wp2_with fail
  refine (Ordinals_any x _ (by omega)).mono ?_
  rintro e w3 ⟨v3,rfl,ho3,hb3⟩
  obtain⟨A3,c3,rfl,hr3⟩:=own_form ho3
  go_wp2_with fail
  refine (Ordinals_any y _ (by omega)).mono ?_
  rintro e w4 ⟨v4,rfl,ho4,hb4⟩
  obtain⟨A4,c4,rfl,hr4⟩:=own_form ho4
  have hr3':=(hr3.below hb4).more hb4.size
  have hl3:=ordsOf_len x.data.toList
  have hl4:=ordsOf_len y.data.toList
  clear ho3 ho4
  go_wp2_with fail
  refine (sliceCompare_any A3 A4 _ _ c3 c4 _ _ w4 (by omega) (by omega) (ordsOf_small _) (ordsOf_small _) hr3' hr4).mono ?_
  rintro e w5 ⟨rfl,rfl⟩
  go_wp2_with fail
  go_ret
  exact⟨rfl,((hb1.trans (hb2.mono hb1.size)).trans (hb3.mono (Nat.le_trans hb1.size hb2.size))).trans (hb4.mono (Nat.le_trans (Nat.le_trans hb1.size hb2.size) hb3.size))⟩
end Go.Proofs.YtlpmiimgacfmkaaGreatDoor
