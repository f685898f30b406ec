/- lineage.Parse, Valid and Ordinals: the range over the iterator. -/
import Derived.Maps.AppendAt
import Derived.Test.YtlpmiimgacfmkaaGreatDoorMPlain1
set_option linter.all false
namespace Go.Proofs.YtlpmiimgacfmkaaGreatDoor
open Go.Proofs.Tryz
open Go.RowKit Go.Shelf
set_option maxRecDepth 100000
set_option maxHeartbeats 1000000
attribute [local go_sem] Oper.semAt_some
theorem box_kept {w W:World} {Bs:Nat} {o:Obj} (h:w.heap[Bs]?=some o) (hb:Below w.heap.size w W):W.heap[Bs]?=some o:=by
 rw[hb.block Bs (Array.getElem?_eq_some_iff.1 h).1];exact h
theorem parts1_nil (n l Bs:Nat) (s:ByteArray) (hne:s.data.toList=[]) (W:World) (hBs:W.heap[Bs]?=some (.cells #[.string s] 9 (0,0))) (J:World->Prop) (h0:J W) :
 CallsIn Fence.wide n prog 246 #[.func (.yield l) #[] #[],.pointer (some ⟨Bs,0,none⟩)] W fun e W'=>(∃ v,e=.returned v)/\J W':=by
 have hcell:W.cell? ⟨Bs,0,none⟩=some (.string s):=by simp[World.cell?,hBs]
 have hne':=isEmpty_of_nil hne;clear hBs;refine callsIn_of_wp func246 rfl trivial ?_ rfl;simp only[ntmps246,List.size_toArray,List.length_cons,List.length_nil,Nat.reduceAdd,Nat.reduceSub,Array.replicate_succ,Array.replicate_zero,List.push_toArray,List.append_toArray,List.nil_append,List.cons_append]
 gi_wp2
 gi_loopw [3,4] (fun at_ cn wr=>at_=.int .i64 0/\cn=.int .i64 0/\wr=W) (fun _ _ _=>0)
 case atStart=>exact⟨rfl,rfl,rfl⟩
 case round =>
  obtain⟨rfl,rfl,rfl⟩:=hrel
  gi_wp2
  go_end0
  exact⟨⟨_,rfl⟩,h0⟩
theorem parts_stops (n:Nat) (hn:1<=n) (s:ByteArray) (hs:s.size<=9223372036854775000) (Bs:Nat) (w:World) (hBs:w.heap[Bs]?=some (.cells #[.string s] 9 (0,0))) :
 SeqStopsK Fence.wide n prog 246 #[.pointer (some ⟨Bs,0,none⟩)] (fun x:Part=>#[encPart x]) KeepT (fun ys=>ys=partsOf s.data.toList) (fun pre=>pre <+: partsOf s.data.toList) (partsOf s.data.toList).length w:=fun l J Jx W hW hJ _ hY h0=>by
 have hB:=box_kept hBs hW
 by_cases hne:s.data.toList=[]
 ·refine (parts1_nil n l Bs s hne W hB (J []) h0).mono fun e W' ⟨he,hj⟩=>⟨he,.inl ⟨[],?_,hj⟩⟩
  simp[partsOf,hne]
 ·exact parts1_in n hn l Bs s hs hne J Jx (fun pre X Y hx hb=>hJ pre X Y none hx (below_grown0 hb) (fun r e=>by cases e)) hY W hB h0
def parseErr (l:List Part):Nat:=((l.find? fun p=>p.2.2 != 0).map (·.2.2)).getD 0
def PartAt (W:World) (B:Nat) (x:Part):Prop:=W.heap[B]?=some (.cells #[.int .i64 (x.1:Int),.int .i64 (x.2.1:Int),.int .i64 (x.2.2:Int)] 325 (0,0))
theorem PartAt.lt {W:World} {B:Nat} {x:Part} (h:PartAt W B x):B<W.heap.size:=(Array.getElem?_eq_some_iff.1 h).1
theorem PartAt.own (B:Nat) (x:Part):Own (fun (_:Unit) W=>PartAt W B x):=fun _ X Y row hs hg hrow =>
 (hg.block B hs.lt (fun e=>by obtain⟨o,ho,hc⟩:=hrow B e.symm;rw[show X.heap[B]?=_ from hs] at ho;cases ho;cases hc)).trans hs
theorem PartAt.cell1 {W:World} {B:Nat} {x:Part} (h:PartAt W B x):W.cell? ⟨B,1,none⟩=some (.int .i64 (x.2.1:Int)):=by
 unfold PartAt at h;simp[World.cell?,h]
theorem PartAt.cell2 {W:World} {B:Nat} {x:Part} (h:PartAt W B x):W.cell? ⟨B,2,none⟩=some (.int .i64 (x.2.2:Int)):=by
 unfold PartAt at h;simp[World.cell?,h]
theorem PartAt.cell0 {W:World} {B:Nat} {x:Part} (h:PartAt W B x):W.cell? ⟨B,0,none⟩=some (.int .i64 (x.1:Int)):=by
 unfold PartAt at h;simp[World.cell?,h]
theorem parseErr_zero {l:List Part} (h:∀ x∈l,x.2.2=0):parseErr l=0:=by
 unfold parseErr;rw[List.find?_eq_none.2 (fun x hx=>by simp[h x hx])];rfl
theorem parseErr_last {l:List Part} {x:Part} (h:∀ y∈l,y.2.2=0) (hx:x.2.2≠0):parseErr (l++[x])=x.2.2:=by
 unfold parseErr;rw[List.find?_append,List.find?_eq_none.2 (fun x hx=>by simp[h x hx])];simp[hx]
theorem parseErr_prefix {l m:List Part} (h:l <+: m) (hl:parseErr l≠0):parseErr m=parseErr l:=by
 obtain⟨r,rfl⟩:=h;unfold parseErr at hl ⊢;rw[List.find?_append]
 cases hf:l.find? fun p=>p.2.2 != 0 with
 | none=>rw[hf] at hl;simp at hl
 | some x=>simp
def parseSt (w W:World) (nm:ByteArray) (at_ er:Int):World:=((W.setCell ⟨w.heap.size,0,none⟩ (.string nm)).setCell ⟨w.heap.size+1,0,none⟩ (.int .i64 at_)).setCell ⟨w.heap.size+1+1,0,none⟩ (.int .i64 er)
theorem parse_stored {w W:World} (at_ er:Int) (nm:ByteArray) {n0:ByteArray} {a0 e0:Int} (c0:Boxed W w.heap.size 29 (.string n0)) (c1:Boxed W (w.heap.size+1) 3 (.int .i64 a0)) (c2:Boxed W (w.heap.size+1+1) 40 (.int .i64 e0)) (hB:Below w.heap.size w W) :
 KeepsOthers W (parseSt w W nm at_ er)/\(Boxed (parseSt w W nm at_ er) w.heap.size 29 (.string nm)/\Boxed (parseSt w W nm at_ er) (w.heap.size+1) 3 (.int .i64 at_)) /\
 Boxed (parseSt w W nm at_ er) (w.heap.size+1+1) 40 (.int .i64 er)/\Below w.heap.size w (parseSt w W nm at_ er):=by
 unfold parseSt;refine⟨?_,⟨?_,?_⟩,?_,?_⟩
 ·exact ((KeepsOthers.setCell _ _ _).trans (KeepsOthers.setCell _ _ _)).trans (KeepsOthers.setCell _ _ _)
 ·exact ((c0.set (.string nm)).other (B':=w.heap.size+1) (by omega) (.int .i64 at_)).other (B':=w.heap.size+1+1) (by omega) (.int .i64 er)
 ·exact ((c1.other (B':=w.heap.size) (by omega) (.string nm)).set (.int .i64 at_)).other (B':=w.heap.size+1+1) (by omega) (.int .i64 er)
 ·exact ((c2.other (B':=w.heap.size) (by omega) (.string nm)).other (B':=w.heap.size+1) (by omega) (.int .i64 at_)).set (.int .i64 er)
 ·exact ((hB.setCell (p:=⟨w.heap.size,0,none⟩) (Nat.le_refl _) _).setCell (p:=⟨w.heap.size+1,0,none⟩) (by simp) _).setCell (p:=⟨w.heap.size+1+1,0,none⟩) (by simp;omega) _
theorem parse_end {w X:World} {D:Nat} {nm:ByteArray} {at_ er:Int} (hD:w.heap.size+4<=D) (hK:X.heap[D]?=some (.deferred (some [])))
 (c0:Boxed X w.heap.size 29 (.string nm)) (c1:Boxed X (w.heap.size+1) 3 (.int .i64 at_)) (c2:Boxed X (w.heap.size+1+1) 40 (.int .i64 er)) (hB:Below w.heap.size w X) :
 (X.putObj D (.deferred none)).cell? ⟨w.heap.size,0,none⟩=some (.string nm)/\(X.putObj D (.deferred none)).cell? ⟨w.heap.size+1,0,none⟩=some (.int .i64 at_) /\
 (X.putObj D (.deferred none)).cell? ⟨w.heap.size+1+1,0,none⟩=some (.int .i64 er)/\Below w.heap.size w (X.putObj D (.deferred none)):=by
 refine⟨?_,?_,?_,?_⟩
 ·exact (c0.kept (grownBy_putObj' X D (.deferred none)) (fun e=>by injection e;omega)).cell
 ·exact (c1.kept (grownBy_putObj' X D (.deferred none)) (fun e=>by injection e;omega)).cell
 ·exact (c2.kept (grownBy_putObj' X D (.deferred none)) (fun e=>by injection e;omega)).cell
 ·exact hB.trans (belowK_b (w:=w) (Nat.le_refl _) X D _ _ (by omega) hK rfl rfl)
theorem LParse_any (s:ByteArray) (w:World) (hs:s.size<=9223372036854775000) :
 Calls prog 168 #[.string s] w fun e w'=>(∃ nm at_,e=.returned (.tuple #[.string nm,.int .i64 at_,.int .i64 (parseErr (partsOf s.data.toList):Int)]))/\Below w.heap.size w w':=by
 refine (callsIn_wide (n:=5)).1 ?_;refine callsIn_of_wp_marks func168 rfl trivial ?_ rfl;simp only[ntmps168,List.size_toArray,List.length_cons,List.length_nil,Nat.reduceAdd,Nat.reduceSub,Array.replicate_succ,Array.replicate_zero,List.push_toArray,List.append_toArray,List.nil_append,List.cons_append]
 gi_wp2_with (refine⟨trivial,?_⟩;gi_at_call 197;refine (parts_in _ _ _).mono ?_;rintro e w' ⟨rfl,rfl⟩)
 have b0:=(((Boxed.new w 29 (.string ⟨#[]⟩)).alloc (.cells #[.int .i64 0] 3)).alloc (.cells #[.int .i64 0] 40)).alloc (.cells #[.string s] 9);have b1:=((Boxed.new (w.alloc (.cells #[.string ⟨#[]⟩] 29)) 3 (.int .i64 0)).alloc (.cells #[.int .i64 0] 40)).alloc (.cells #[.string s] 9);have b2:=(Boxed.new ((w.alloc (.cells #[.string ⟨#[]⟩] 29)).alloc (.cells #[.int .i64 0] 3)) 40 (.int .i64 0)).alloc (.cells #[.string s] 9);have b3:=Boxed.new (((w.alloc (.cells #[.string ⟨#[]⟩] 29)).alloc (.cells #[.int .i64 0] 3)).alloc (.cells #[.int .i64 0] 40)) 9 (.string s);simp only[World.size_alloc] at b1 b2 b3
 have hB0:Below w.heap.size w ((((w.alloc (.cells #[.string ⟨#[]⟩] 29)).alloc (.cells #[.int .i64 0] 3)).alloc (.cells #[.int .i64 0] 40)).alloc (.cells #[.string s] 9)) :=
  ((((Below.refl _ w).alloc (Nat.le_refl _) _).alloc (by simp) _).alloc (by simp;omega) _).alloc (by simp;omega) _
 have hsz:((((w.alloc (.cells #[.string ⟨#[]⟩] 29)).alloc (.cells #[.int .i64 0] 3)).alloc (.cells #[.int .i64 0] 40)).alloc (.cells #[.string s] 9)).heap.size=w.heap.size+4:=by simp
 obtain⟨W0,hW0⟩:∃ W0,(((w.alloc (.cells #[.string ⟨#[]⟩] 29)).alloc (.cells #[.int .i64 0] 3)).alloc (.cells #[.int .i64 0] 40)).alloc (.cells #[.string s] 9)=W0:=⟨_,rfl⟩;rw[hW0] at b0 b1 b2 b3 hB0 hsz ⊢;clear hW0
 refine wpIn_rangeFunc_ownH rfl (by omega) (gf:=246) (lb:=#[.pointer (some ⟨w.heap.size+1+1+1,0,none⟩)]) rfl trivial (enters_of func246 (by kernel_rfl) rfl)
  (parts_stops 4 (by omega) s hs (w.heap.size+1+1+1) W0 b3) keepT_t keepT_b (Below.refl _ _) (fun _=>rfl)
  (fun pre W=>(∀ x∈pre,x.2.2=0)/\((Boxed W w.heap.size 29 (.string ⟨#[]⟩)/\Boxed W (w.heap.size+1) 3 (.int .i64 0))/\Boxed W (w.heap.size+1+1) 40 (.int .i64 0))/\Below w.heap.size w W)
  (fun c pre W=>(c=.ret/\parseErr pre≠0)/\(∃ at_:Int,(Boxed W w.heap.size 29 (.string ⟨#[]⟩)/\Boxed W (w.heap.size+1) 3 (.int .i64 at_))/\Boxed W (w.heap.size+1+1) 40 (.int .i64 (parseErr pre:Int)))/\Below w.heap.size w W)
  (OwnFrom.and (ownFrom_pure _ _) (OwnFrom.and (OwnFrom.and (OwnFrom.and (Own.from (boxed_own _ _ _) _) (Own.from (boxed_own _ _ _) _)) (Own.from (boxed_own _ _ _) _)) (ownFrom_below (Nat.le_refl _) (by omega))))
  (fun c pre X Y row hs hg hr=>by
   obtain⟨h1,⟨at_,⟨h2,h3⟩,h4⟩,h5⟩:=hs;have hr':=fun r e=>(hr r e).2;exact⟨h1,⟨at_,⟨boxed_own _ _ (fun (_:Unit)=>_) () X Y row h2 hg hr',boxed_own _ _ (fun (_:Unit)=>_) () X Y row h3 hg hr'⟩,boxed_own _ _ (fun (_:Unit)=>_) () X Y row h4 hg hr'⟩,ownFrom_below (Nat.le_refl _) (by omega) () X Y row h5 hg hr⟩)
  ⟨by simp,⟨⟨b0,b1⟩,b2⟩,hB0⟩
  (fun x a' W=>∃ Bx,w.heap.size+1+1<Bx/\PartAt W Bx x/\a'={ tmps:=#[.string s,undef,.pointer (some ⟨w.heap.size,0,none⟩),.pointer (some ⟨w.heap.size+1,0,none⟩),.pointer (some ⟨w.heap.size+1+1,0,none⟩),.pointer (some ⟨Bx,0,none⟩),.string s,.func (.func 246) #[] #[.pointer (some ⟨w.heap.size+1+1+1,0,none⟩)],encPart x,undef,undef,undef,undef,undef,undef,undef,undef],defers:=[] })
  (fun x a' _ X Y row hs hg hr=>by obtain⟨Bx,h1,h2,h3⟩:=hs;exact⟨Bx,h1,PartAt.own Bx x () X Y row h2 hg (fun r e=>(hr r e).2),h3⟩)
  ?assign ?body ?done ?stop
 case assign =>
  rintro l pre x W K ⟨h0,⟨⟨c0,c1⟩,c2⟩,hB1⟩ hK;unfold encPart
  gi_wp2
  exact hK _ _ ((KeepsOthers.alloc _ _).from _) (keepT_below ((Below.refl _ W).alloc (Nat.le_refl _) _)) ⟨h0,⟨⟨c0.alloc _,c1.alloc _⟩,c2.alloc _⟩,hB1.alloc hB1.size _⟩ ⟨W.heap.size,c2.lt,World.alloc_heap_new W _,rfl⟩
 case body =>
  rintro l pre x a' W hl ⟨r,hr⟩ ⟨h0,⟨⟨c0,c1⟩,c2⟩,hB1⟩ ⟨Bx,hBx,hP,rfl⟩ hlt;have p1:=hP.cell1;have p2:=hP.cell2
  by_cases hx:x.2.2=0
  ·have t:((x.2.2:Int) != 0)=false:=by rw[hx];rfl
   have HX:=Lib.hid hx;clear hx
   gi_wp2
   exact⟨KeepsFrom.refl _ _,keepT_refl _,fun y hy=>(List.mem_append.1 hy).elim (h0 y) (fun e=>by rw[List.mem_singleton] at e;rw[e];exact HX.out),⟨⟨c0,c1⟩,c2⟩,hB1⟩
  ·have t:((x.2.2:Int) != 0)=true:=by rw[bne_iff_ne];omega
   have d0:=c0.cell;have d1:=c1.cell;have d2:=c2.cell;have f0:=c0.frozen;have f1:=c1.frozen;have f2:=c2.frozen;have hmx:prog.follows .mixedOrders=true:=by kernel_rfl
   have R:=Lib.hid (parse_stored (x.2.1:Int) (x.2.2:Int) ⟨#[]⟩ c0 c1 c2 hB1)
   gi_wp2
   gi_region_o
   all_goals gi_wp2
   all_goals exact⟨(R.out.1.trans (KeepsOthers.drew _)).from _,⟨rfl,by rw[parseErr_last h0 hx];exact hx⟩,⟨_,R.out.2.1,by rw[parseErr_last h0 hx];exact R.out.2.2.1⟩,R.out.2.2.2.drew⟩
 case done =>
  rintro D ys W hD rfl ⟨h0,⟨⟨c0,c1⟩,c2⟩,hB1⟩ hK;have d0:=c0.cell;have d1:=c1.cell;have d2:=c2.cell;have f0:=c0.frozen;have f1:=c1.frozen;have f2:=c2.frozen;have R:=Lib.hid (parse_stored 0 0 s c0 c1 c2 hB1)
  gi_wp2
  have hK':=R.out.1.same D _ hK rfl;obtain⟨e0,e1,e2,e3⟩:=parse_end (by omega) hK' R.out.2.1.1 R.out.2.1.2 R.out.2.2.1 R.out.2.2.2;refine⟨by simp,.inl ⟨_,_,rfl,run_takeDeferred hK',?_⟩⟩;refine⟨.tuple #[.string s,.int .i64 0,.int .i64 0],?_,⟨s,0,by rw[parseErr_zero h0];rfl⟩,e3⟩;simp only[parseSt] at e0 e1 e2;simp[results,Tryz.f168,go_sem,e0,e1,e2]
 case stop =>
  rintro D c pre W hD hpre ⟨⟨rfl,hne⟩,⟨at_,⟨c0,c1⟩,c2⟩,hB1⟩ hK
  gi_wp2
  obtain⟨e0,e1,e2,e3⟩:=parse_end (by omega) hK c0 c1 c2 hB1;refine⟨by simp,.inl ⟨_,_,rfl,run_takeDeferred hK,?_⟩⟩;refine⟨.tuple #[.string ⟨#[]⟩,.int .i64 at_,.int .i64 (parseErr pre:Int)],?_,⟨⟨#[]⟩,at_,by rw[parseErr_prefix hpre hne]⟩,e3⟩;simp[results,Tryz.f168,go_sem,e0,e1,e2]
end Go.Proofs.YtlpmiimgacfmkaaGreatDoor
namespace Go.Proofs.YtlpmiimgacfmkaaGreatDoor
open Go.Proofs.Tryz
open Go.RowKit Go.Shelf
set_option maxRecDepth 100000
set_option maxHeartbeats 1000000
attribute [local go_sem] Oper.semAt_some
theorem validB_iff (s:List UInt8):validB s=(parseErr (partsOf s) == 0):=by
 unfold validB
 by_cases h:∀ x∈partsOf s,x.2.2=0
 ·rw[parseErr_zero h,List.all_eq_true.2 (fun x hx=>by simp[h x hx])];rfl
 ·have h1:(partsOf s).all (fun p=>p.2.2 == 0)=false:=by
   rw[List.all_eq_false];simp only[Classical.not_forall] at h;obtain⟨x,hx,hne⟩:=h;exact⟨x,hx,by simpa using hne⟩
  rw[h1]
  symm
  rw[beq_eq_false_iff_ne];unfold parseErr
  cases hf:(partsOf s).find? fun p=>p.2.2 != 0 with
  | none =>
   exfalso
   rw[List.find?_eq_none] at hf
   apply h
   intro x hx
   simpa using hf x hx
  | some x =>
   have:=List.find?_some hf;simpa using this
theorem Valid_any (s:ByteArray) (w:World) (hs:s.size<=9223372036854775000) :
 Calls prog 115 #[.string s] w fun e w'=>e=.returned (.bool (validB s.data.toList))/\Below w.heap.size w w':=by
 have hv:=validB_iff s.data.toList;have HV:=Lib.hid hv;clear hv
 go_enter func115,ntmps115
 go_wp2_with (go_at_call 168;refine (LParse_any s _ hs).mono ?_;rintro e w' ⟨⟨nm,at_,rfl⟩,hb⟩)
 go_ret
 refine⟨?_,hb⟩;rw[HV.out];simp only[Array.getD_eq_getD_getElem?];have e:(((parseErr (partsOf s.data.toList):Nat):Int) == 0)=(parseErr (partsOf s.data.toList) == 0):=by rw[Bool.eq_iff_iff];simp
 simp[e]
theorem partsN_len:∀ (f:Nat) (s:List UInt8) (a c:Nat),(partsN f s a c).length<=f+1
 | 0,_,_,_=>by simp[partsN]
 | f+1,s,a,c=>by
  rw[partsN];simp only[List.length_cons];have:=partsN_len f s ((firstP s a c).2+1) (c+1);split
  ·simp
  ·split
   ·simp
   ·omega
theorem partsOf_len (s:List UInt8):(partsOf s).length<=10:=by
 unfold partsOf;split
 ·simp
 ·exact partsN_len 9 s 0 0
def encNat (n:Nat):Value:=.int .i64 (n:Int)
theorem Tryz.infoInt:(prog.info? 3).map (fun i=>(i.zero,i.size,i.bytes))=some (some (.int .i64 0),1,8):=by kernel_rfl
theorem keepT_own {W W':World} {base size n:Nat} {v:Value} {xs:List Value} (h:W.ownsRow base 3 size v n xs) (hg:W.grownBy W' v.ownBlock):KeepT W W':=by
 intro k cs t fz ht hk;have hlt:k<W.heap.size:=(Array.getElem?_eq_some_iff.1 hk).1;rw[hg.block k hlt ?_];exact hk
 rcases h.2 with ⟨rfl,_⟩ | ⟨g,cap,cur,rfl,_,hh,_⟩
 ·simp[Value.ownBlock]
 ·intro e
  obtain rfl:k=g:=by simpa [Value.ownBlock] using e
  rw[hk] at hh
  injection hh with hh
  injection hh with _ h2
  subst h2
  rcases ht with ht | ht <;> exact absurd ht (by decide)
theorem keepT_box {W:World} {B:Nat} {u v:Value} (h:Boxed W B 36 u):KeepT W (W.setCell ⟨B,0,none⟩ v):=by
 intro k cs t fz ht hk
 have hne:k≠B:=by
  rintro rfl;rw[show W.heap[k]?=_ from h] at hk
  injection hk with hk
  injection hk with _ h2
  subst h2
  rcases ht with ht | ht <;> exact absurd ht (by decide)
 rw[Below.heap_setCell _ _ _ _ hne];exact hk
def OrdI (w:World) (pre:List Part) (W:World):Prop:=(∀ x∈pre,x.2.2=0)/\((Boxed W w.heap.size 36 (.slice none 0 0)/\(∃ v,Boxed W (w.heap.size+1) 36 v/\W.ownsRow w.heap.size 3 1 v pre.length (pre.map fun x=>encNat x.1)/\True))/\Below w.heap.size w W)
def OrdX (w:World) (c:Code) (pre:List Part) (W:World):Prop:=(c=.ret/\parseErr pre≠0)/\Boxed W w.heap.size 36 (.slice none 0 0)/\Below w.heap.size w W
theorem OrdI.own {w:World} {B:Nat} (hB:w.heap.size<=B):OwnFrom B (OrdI w) :=
 OwnFrom.and (ownFrom_pure _ _) (OwnFrom.and (OwnFrom.and (Own.from (boxed_own _ _ _) _) (Own.from (holdsRow_own w.heap.size (w.heap.size+1) 36 3 1 (fun pre:List Part=>pre.length) (fun pre=>pre.map fun x=>encNat x.1) (fun _ _=>True)) _)) (ownFrom_below (Nat.le_refl _) hB))
theorem OrdX.own {w:World} {B:Nat} (hB:w.heap.size<=B) (c:Code):OwnFrom B (OrdX w c) :=
 OwnFrom.and (ownFrom_pure _ _) (OwnFrom.and (Own.from (boxed_own _ _ _) _) (ownFrom_below (Nat.le_refl _) hB))
theorem ord_step {w W w1:World} {pre:List Part} {x:Part} {v:Value} {tmp:Obj} {g cap:Nat} (h0:∀ x∈pre,x.2.2=0) (hx:x.2.2=0) (c0:Boxed W w.heap.size 36 (.slice none 0 0)) (c1:Boxed W (w.heap.size+1) 36 v)
 (hrow:W.ownsRow w.heap.size 3 1 v pre.length (pre.map fun x=>encNat x.1)) (hB:Below w.heap.size w W)
 (hown:w1.ownsRow w.heap.size 3 1 (.slice (some ⟨g,0,none⟩) (pre.length+1) cap) (pre.length+1) ((pre.map fun x=>encNat x.1)++[.int .i64 (x.1:Int)])) (hgrow:(W.alloc tmp).grownBy w1 v.ownBlock) :
 KeepsOthers W (w1.setCell ⟨w.heap.size+1,0,none⟩ (.slice (some ⟨g,0,none⟩) (pre.length+1) cap))/\KeepT W (w1.setCell ⟨w.heap.size+1,0,none⟩ (.slice (some ⟨g,0,none⟩) (pre.length+1) cap))/\OrdI w (pre++[x]) (w1.setCell ⟨w.heap.size+1,0,none⟩ (.slice (some ⟨g,0,none⟩) (pre.length+1) cap)):=by
 obtain⟨hv1,hv2,hr2,hk2,hb2⟩:=c1.appended (by decide) hrow hB.size (by omega) hown hgrow;have k1:KeepT W (W.alloc tmp):=keepT_below ((Below.refl _ W).alloc (Nat.le_refl _) _);have k2:=keepT_own (hrow.alloc tmp) hgrow;have k3:=keepT_box (v:=.slice (some ⟨g,0,none⟩) (pre.length+1) cap) hv1;refine⟨hk2,keepT_t (keepT_t k1 k2) k3,?_,⟨?_,⟨_,hv2,?_,trivial⟩⟩,hB.trans hb2⟩
 ·intro y hy
  rcases List.mem_append.1 hy with h | h
  ·exact h0 y h
  ·rw[List.mem_singleton] at h;rw[h];exact hx
 ·exact ((c0.alloc tmp).kept hgrow (c0.not_row (by decide) hrow)).other (by omega) _
 ·have e:(pre++[x]).length=pre.length+1:=by simp
  rw[e,List.map_append];exact hr2
theorem ord_end {w X:World} {D n:Nat} {v:Value} {xs:List Value} (hD:w.heap.size+3<=D) (hK:X.heap[D]?=some (.deferred (some []))) (c0:Boxed X w.heap.size 36 v) (hrow:X.ownsRow w.heap.size 3 1 v n xs) (hB:Below w.heap.size w X) :
 (X.putObj D (.deferred none)).cell? ⟨w.heap.size,0,none⟩=some v/\(X.putObj D (.deferred none)).ownsRow w.heap.size 3 1 v n xs/\Below w.heap.size w (X.putObj D (.deferred none)):=by
 refine⟨?_,?_,?_⟩
 ·exact (c0.kept (grownBy_putObj' X D (.deferred none)) (fun e=>by injection e;omega)).cell
 ·exact ownsRow_putObj hrow _ hK rfl
 ·exact hB.trans (belowK_b (w:=w) (Nat.le_refl _) X D _ _ (by omega) hK rfl rfl)
theorem ord_set {w W:World} {n:Nat} {u v:Value} {xs:List Value} (c0:Boxed W w.heap.size 36 u) (hrow:W.ownsRow w.heap.size 3 1 v n xs) (hB:Below w.heap.size w W) :
 KeepsOthers W (W.setCell ⟨w.heap.size,0,none⟩ v)/\Boxed (W.setCell ⟨w.heap.size,0,none⟩ v) w.heap.size 36 v/\(W.setCell ⟨w.heap.size,0,none⟩ v).ownsRow w.heap.size 3 1 v n xs/\Below w.heap.size w (W.setCell ⟨w.heap.size,0,none⟩ v) :=
 ⟨KeepsOthers.setCell _ _ _,c0.set v,hrow.kept (grownBy_setCell' W w.heap.size v) (.inr (c0.not_row (by decide) hrow).symm),hB.setCell (p:=⟨w.heap.size,0,none⟩) (Nat.le_refl _) _⟩
theorem ordsOf_ok {s:List UInt8} (h:parseErr (partsOf s)=0):ordsOf s=(partsOf s).map (·.1):=by
 unfold ordsOf;rw[if_pos (by rw[validB_iff,h];rfl)]
theorem ordsOf_bad {s:List UInt8} (h:parseErr (partsOf s)≠0):ordsOf s=[]:=by
 unfold ordsOf;rw[if_neg (by rw[validB_iff];simpa using h)]
theorem Ordinals_any (s:ByteArray) (w:World) (hs:s.size<=9223372036854775000) :
 Calls prog 186 #[.string s] w fun e w'=>∃ v,e=.returned v/\w'.ownsRow w.heap.size 3 1 v (ordsOf s.data.toList).length ((ordsOf s.data.toList).map encNat)/\Below w.heap.size w w':=by
 refine (callsIn_wide (n:=5)).1 ?_;refine callsIn_of_wp_marks func186 rfl trivial ?_ rfl;simp only[ntmps186,List.size_toArray,List.length_cons,List.length_nil,Nat.reduceAdd,Nat.reduceSub,Array.replicate_succ,Array.replicate_zero,List.push_toArray,List.append_toArray,List.nil_append,List.cons_append];obtain⟨i0,hi,hz0,hz1,hz2⟩:=info_parts Tryz.infoInt
 gi_wp2_with (refine⟨trivial,?_⟩;gi_at_call 197;refine (parts_in _ _ _).mono ?_;rintro e w' ⟨rfl,rfl⟩)
 have b0:=((Boxed.new w 36 (.slice none 0 0)).alloc (.cells #[.slice none 0 0] 36)).alloc (.cells #[.string s] 9);have b1:=(Boxed.new (w.alloc (.cells #[.slice none 0 0] 36)) 36 (.slice none 0 0)).alloc (.cells #[.string s] 9);have b3:=Boxed.new ((w.alloc (.cells #[.slice none 0 0] 36)).alloc (.cells #[.slice none 0 0] 36)) 9 (.string s);simp only[World.size_alloc] at b1 b3
 have hB0:Below w.heap.size w (((w.alloc (.cells #[.slice none 0 0] 36)).alloc (.cells #[.slice none 0 0] 36)).alloc (.cells #[.string s] 9)) :=
  (((Below.refl _ w).alloc (Nat.le_refl _) _).alloc (by simp) _).alloc (by simp;omega) _
 have hsz:(((w.alloc (.cells #[.slice none 0 0] 36)).alloc (.cells #[.slice none 0 0] 36)).alloc (.cells #[.string s] 9)).heap.size=w.heap.size+3:=by simp
 obtain⟨W0,hW0⟩:∃ W0,((w.alloc (.cells #[.slice none 0 0] 36)).alloc (.cells #[.slice none 0 0] 36)).alloc (.cells #[.string s] 9)=W0:=⟨_,rfl⟩;rw[hW0] at b0 b1 b3 hB0 hsz ⊢;clear hW0;have hlen:=partsOf_len s.data.toList
 refine wpIn_rangeFunc_ownH rfl (by omega) (gf:=246) (lb:=#[.pointer (some ⟨w.heap.size+1+1,0,none⟩)]) rfl trivial (enters_of func246 (by kernel_rfl) rfl)
  (parts_stops 4 (by omega) s hs (w.heap.size+1+1) W0 b3) keepT_t keepT_b (Below.refl _ _) (fun _=>rfl)
  (OrdI w) (OrdX w) (OrdI.own (by omega)) (OrdX.own (by omega))
  ⟨by simp,⟨b0,⟨_,b1,World.ownsRow_nil _ _ _ _,trivial⟩⟩,hB0⟩
  (fun x a' W=>∃ Bx,w.heap.size+1<Bx/\PartAt W Bx x/\a'={ tmps:=#[.string s,undef,.pointer (some ⟨w.heap.size,0,none⟩),.pointer (some ⟨w.heap.size+1,0,none⟩),.pointer (some ⟨Bx,0,none⟩),.string s,.func (.func 246) #[] #[.pointer (some ⟨w.heap.size+1+1,0,none⟩)],encPart x,undef,undef,undef,undef,undef,undef,undef,undef,undef],defers:=[] })
  (fun x a' _ X Y row hs hg hr=>by obtain⟨Bx,h1,h2,h3⟩:=hs;exact⟨Bx,h1,PartAt.own Bx x () X Y row h2 hg (fun r e=>(hr r e).2),h3⟩)
  ?assign ?body ?done ?stop
 case assign =>
  rintro l pre x W K ⟨h0,⟨c0,⟨v,c1,hrow,_⟩⟩,hB1⟩ hK;unfold encPart
  gi_wp2
  exact hK _ _ ((KeepsOthers.alloc _ _).from _) (keepT_below ((Below.refl _ W).alloc (Nat.le_refl _) _)) ⟨h0,⟨c0.alloc _,⟨v,c1.alloc _,hrow.alloc _,trivial⟩⟩,hB1.alloc hB1.size _⟩ ⟨W.heap.size,c1.lt,World.alloc_heap_new W _,rfl⟩
 case body =>
  rintro l pre x a' W hl ⟨r,hr⟩ ⟨h0,⟨c0,⟨v,c1,hrow,_⟩⟩,hB1⟩ ⟨Bx,hBx,hP,rfl⟩ hlt;have p0:=hP.cell0;have p2:=hP.cell2;have d1:=c1.cell;have hB1s:=hB1.size
  by_cases hx:x.2.2=0
  ·have t:((x.2.2:Int) != 0)=false:=by rw[hx];rfl
   have HX:=Lib.hid hx;clear hx
   gi_wp2_with (gi_at_builtin;refine wpListIn_append_own _ rfl _ _ 36 rfl w.heap.size 3 i0 (.int .i64 0) 1 8 underlying36 hi hz0 hz1 hz2 rfl (by decide) _ _ _ rfl (hrow.alloc _) ⟨W.heap.size,0,none⟩ 1 1 [.int .i64 (x.1:Int)] rfl rfl (cell_one_new _ _ _) (by simp[Value.oneCell']) (by unfold maxLen;omega) (by omega) (by simp;omega) ?_;intro v' w1 hown' hgrow _;obtain⟨g',cap',rfl⟩:=ownsRow_succ hown';obtain⟨hv1,_⟩:=c1.appended (by decide) hrow hB1.size (by omega) hown' hgrow;have hc1:=hv1.cell;have hf1:=hv1.frozen;have R:=Lib.hid (ord_step (x:=x) h0 HX.out c0 c1 hrow hB1 hown' hgrow))
   exact⟨R.out.1.from _,R.out.2.1,R.out.2.2⟩
  ·have t:((x.2.2:Int) != 0)=true:=by rw[bne_iff_ne];omega
   have d0:=c0.cell;have f0:=c0.frozen;have R:=Lib.hid (parseErr_last h0 hx)
   gi_wp2
   exact⟨(KeepsOthers.setCell _ _ _).from _,⟨rfl,by rw[R.out];exact hx⟩,c0.set _,hB1.setCell (p:=⟨w.heap.size,0,none⟩) (Nat.le_refl _) _⟩
 case done =>
  rintro D ys W hD rfl ⟨h0,⟨c0,⟨v,c1,hrow,_⟩⟩,hB1⟩ hK;have d0:=c0.cell;have f0:=c0.frozen;have d1:=c1.cell;have e:=parseErr_zero h0;have hE:=Lib.hid e;clear e;have S:=Lib.hid (ord_set c0 hrow hB1);have ho:=ordsOf_ok hE.out;have hl:(ordsOf s.data.toList).length=(partsOf s.data.toList).length:=by rw[ho];simp
  have hm:(ordsOf s.data.toList).map encNat=(partsOf s.data.toList).map fun x=>encNat x.1:=by rw[ho];simp
  have HL:=Lib.hid hl;have HM:=Lib.hid hm;clear ho hl hm
  rcases hrow.2 with ⟨rfl,_⟩ | ⟨g,cap,cur,rfl,hg⟩
  all_goals
   gi_wp2
   have hK':=S.out.1.same D _ hK rfl;obtain⟨e0,e1,e2⟩:=ord_end (by omega) hK' S.out.2.1 S.out.2.2.1 S.out.2.2.2;refine⟨by simp,.inl ⟨_,_,rfl,run_takeDeferred hK',?_⟩⟩;refine⟨_,?_,⟨_,rfl,by rw[HL.out,HM.out];exact e1,e2⟩⟩;simp[results,Tryz.f186,go_sem,e0]
 case stop =>
  rintro D c pre W hD hpre ⟨⟨rfl,hne⟩,c0,hB1⟩ hK
  gi_wp2
  obtain⟨e0,e1,e2⟩:=ord_end (by omega) hK c0 (World.ownsRow_nil _ _ _ _) hB1;refine⟨by simp,.inl ⟨_,_,rfl,run_takeDeferred hK,?_⟩⟩;refine⟨_,?_,⟨_,rfl,by rw[ordsOf_bad (by rw[parseErr_prefix hpre hne];exact hne)];exact e1,e2⟩⟩;simp[results,Tryz.f186,go_sem,e0]
end Go.Proofs.YtlpmiimgacfmkaaGreatDoor
