/- logtree: the tree in memory; complete, root. -/
import Derived.Test.YtlpmiimgacfmkaaGreatDoorRSa3
import Derived.Test.YtlpmiimgacfmkaaGreatDoorRTr1
import Derived.Test.YtlpmiimgacfmkaaGreatDoorRJoi
import Derived.Test.YtlpmiimgacfmkaaGreatDoorRLin2
set_option linter.all false
namespace Go.Proofs.YtlpmiimgacfmkaaGreatDoor
open Go.RowKit
set_option maxRecDepth 100000
set_option maxHeartbeats 4000000
section
variable {P:Program} {C:World→Prop} {K:Act→Prop} {o:Oper} {a:Act}
theorem quiet_load_mid (ty:TypeId) (x:Operand) (ho:o.op=.load ty x) (b off:Nat) (hx:a.eval x=.pointer (some ⟨b,off,none⟩)) (cs:List Value) (d:TypeDesc) (hc:∀ W,C W→W.rangeAt b off cs)
 (hu:P.underlying ty=some d) (hd:d.isRow=true) (hi:(P.info? ty).map (·.size)=some cs.length) (hk:K (a.put o.dst (.agg cs.toArray))):o.quiet P a C K :=
 ⟨_,fun W hW=>by
  unfold Oper.quietAt execOp
  simp only[ho,hx,Instr.loadAt,Instr.sureAddr,Sem.run_bind,Sem.run_pure,Result.andThen_ok,run_loadVar_mid W b off ty cs d (hc W hW) hu hd hi]
  exact⟨rfl,rfl⟩,hk⟩
end
structure TreeIs (w:World) (b:Nat) (A:Option Addr) (c:Nat) (m:Option Nat) (ds:List Nm) (kvs:List (Value × Value)):Prop where
 box:BoxN w b 237 #[.slice A ds.length c,.map m]
 own:Own w 57 32 A ds.length c (ds.flatMap dCells)
 len:∀ d∈ds,d.length=32
 nb:b ∉ blk A
 mn:m=none→kvs=[]
 ms:∀ r,m=some r→MapIs Tryz.prog 270 w r kvs∧r≠b∧r ∉ blk A
def TreeAt (w:World) (b:Nat) (ds:List Nm) (kvs:List (Value × Value)) (F:List Nat):Prop:=∃ A c m,TreeIs w b A c m ds kvs∧F=b::(blk A++m.toList)
section
variable {w w':World} {b c:Nat} {A:Option Addr} {m:Option Nat} {ds:List Nm} {kvs:List (Value × Value)} {F S:List Nat}
theorem TreeIs.fr (h:TreeIs w b A c m ds kvs) (hf:Fr S w w') (hS:∀ k∈b::(blk A++m.toList),k ∉ S):TreeIs w' b A c m ds kvs :=
 ⟨h.box.fr hf (hS b (by simp)),h.own.fr hf (fun k hk=>hS k (by simp[hk])),h.len,h.nb,h.mn,fun r hr=>⟨(h.ms r hr).1.fr hf (hS r (by simp[hr])),(h.ms r hr).2⟩⟩
theorem TreeAt.fr (h:TreeAt w b ds kvs F) (hf:Fr S w w') (hS:∀ k∈F,k ∉ S):TreeAt w' b ds kvs F:=by
 obtain⟨A,c,m,h1,rfl⟩:=h
 exact⟨A,c,m,h1.fr hf hS,rfl⟩
theorem TreeAt.fr0 (h:TreeAt w b ds kvs F) (hf:Fr [] w w'):TreeAt w' b ds kvs F:=h.fr hf (by simp)
theorem flat_get {d:Nm}:∀ {ds:List Nm} {i:Nat},(∀ d∈ds,d.length=32)→ds[i]?=some d→∀ j v,(dCells d)[j]?=some v→(ds.flatMap dCells)[32*i+j]?=some v
 | [],i,_,h,_,_,_=>by simp at h
 | x::ds,0,hl,h,j,v,hv=>by
  obtain rfl:x=d:=by simpa using h
  rw[List.flatMap_cons,List.getElem?_append_left (by have:=(List.getElem?_eq_some_iff.1 hv).1;omega),Nat.mul_zero,Nat.zero_add]
  exact hv
 | x::ds,i+1,hl,h,j,v,hv=>by
  have hx:(dCells x).length=32:=by rw[dcells_len,hl x (by simp)]
  rw[List.flatMap_cons,List.getElem?_append_right (by omega),hx,show 32*(i+1)+j - 32=32*i+j by omega]
  exact flat_get (i:=i) (fun y hy=>hl y (by simp[hy])) (by simpa using h) j v hv
theorem TreeIs.leaf (h:TreeIs w b A c m ds kvs) {i:Nat} {d:Nm} (hd:ds[i]?=some d):∃ g,A=some ⟨g,0,none⟩∧w.rangeAt g (i*32) (dCells d)∧g<w.heap.size:=by
 have hi:=(List.getElem?_eq_some_iff.1 hd).1
 obtain⟨g,hg,hc⟩:=Cs.of_own h.own (by omega)
 refine⟨g,hg,fun j v hv=>?_,hc.1⟩
 have:=hc.2 _ _ (flat_get (i:=i) h.len hd j v hv)
 rw[Nat.mul_comm] at this
 exact this
end
theorem complete_leaf (b i:Nat) (ds:List Nm) (kvs:List (Value × Value)) (F:List Nat) (d:Nm) (w:World) (h:TreeAt w b ds kvs F) (hd:ds[i]?=some d):Calls Tryz.prog 149 #[.pointer (some ⟨b,0,none⟩),partV 0 (i:Int)] w (SumPost w d):=by
 obtain⟨A,c,m,hT,rfl⟩:=h
 obtain⟨g,rfl,hg,hgl⟩:=hT.leaf hd
 have hi:=(List.getElem?_eq_some_iff.1 hd).1
 have hd32:d.length=32:=hT.len d (List.mem_of_getElem? hd)
 have hcl:(dCells d).length=32:=by rw[dcells_len,hd32]
 obtain⟨n,hn'⟩:=nmd (ds.length)
 have hbx:=hT.box
 rw[hn'] at hbx hi
 obtain⟨w1,hw1⟩:=nmd (w.alloc (.cells #[.int .i64 0,.int .i64 (i:Int)] 270))
 obtain⟨w2,hw2⟩:=nmd (w1.alloc (.cells (z32) 57))
 have hs1:w1.heap.size=w.heap.size+1:=by rw[←hw1,World.size_alloc]
 have hf1:Fr [] w w1:=by rw[←hw1];exact (Fr.refl [] w).alloc _
 have hf12:Fr [] w1 w2:=by rw[←hw2];exact (Fr.refl [] w1).alloc _
 have hp2:BoxN w2 w.heap.size 270 #[.int .i64 0,.int .i64 (i:Int)]:=by rw[←hw2,←hw1];exact (BoxN.new w _ _).alloc _
 obtain⟨fR,hR⟩:∃ f,w2.rowIs w1.heap.size 57 32 f:=by rw[←hw2];exact⟨_,row_new w1 _ _⟩
 rw[hs1] at hR
 have hf2:=hf1.then hf12
 have hss:∀ W,Fr [] w2 W→W.cell? ⟨w.heap.size,1,none⟩=some (.int .i64 (i:Int))∧W.cell? ⟨b,0,none⟩=some (.slice (some ⟨g,0,none⟩) n c):=fun W hW=>⟨(hp2.fr hW (by simp)).c 1,((hbx.fr hf2 (by simp)).fr hW (by simp)).c 0⟩
 have HGR:=Hd (fun (W:World) (hW:Fr [] w2 W)=>(show W.rangeAt g (i*32) (dCells d) from fun j v hv=>((hf2.then hW).fcell hgl (by simp) _).trans (hg j v hv)))
 have x0:=hp2.k0
 have HSS:=Hd hss
 have HR:=Hd hR
 have HF2:=Hd hf2
 have HW1:=Hd hw1
 have HW2:=Hd hw2
 have hi2:(i:Int)<(n:Int):=by omega
 clear hss hR hf2 hw1 hw2 hp2 hbx hg hgl hf1 hf12 hT
 unfold partV
 go_enter Tryz.func149,Tryz.ntmps149
 go_upto_region 1 with fail
 rw[HW1.out,HW2.out]
 go_upto_region 2 with fail
 refine wp_region_qtail (fun W=>Fr [] w2 W) 8 (by kernel_rfl) (by kernel_rfl) ((Fr.refl [] w2).drew) ?_
 simp only[List.take_succ_cons,List.take_zero,List.drop_succ_cons,List.drop_zero]
 repeat (
  first
  | go_big_quiet_skip
  | (go_big_quiet_want
     first
     | (go_big_quiet_op
        go_big_quiet_on)
     | (apply Exists.intro
        refine⟨fun W hW=>?_,?_⟩
        ·(obtain⟨z0,z1⟩:=HSS.out W hW
          go_simp
          first
          | done
          | (with_reducible exact rfl)
          | (with_reducible exact⟨rfl,rfl⟩)
          | (fail))
        simp only[Act.put,qA,qB,qC]
        go_big_quiet_on))
  )
 go_big_quiet_want
 refine quiet_load_mid 57 (.tmp 14) rfl g (i*32) rfl (dCells d) (.array 32 5) HGR.out (by kernel_rfl) rfl (by rw[hcl];kernel_rfl) ?_
 simp only[Act.put,qA,qB,qC]
 go_big_quiet_on
 refine wpQuiet_nil ?_
 intro W3 hW3
 have hst:=store_digest (d:=d) (rowIs_fr HR.out hW3 (by simp)) (hd32)
 have hrd:=row_digest (d:=d) (rowIs_fr HR.out hW3 (by simp)) (hd32)
 obtain⟨w4,hw4⟩:=nmd ((W3).setCells (w.heap.size+1) 0 (dCells (d)))
 have hfw4:Fr [w.heap.size+1] W3 w4:=by rw[←hw4];exact (Fr.refl [w.heap.size+1] (W3)).setCells (.inl (by simp)) _ _
 rw[hw4] at hst hrd
 clear hw4
 have hf4:Fr [] w w4:=(HF2.out.then hW3).trans hfw4 (by simp)
 have HRD:=Hd hrd.1
 have HF4:=Hd hf4
 clear hrd hf4 hfw4 HSS HGR HR
 go_wp2_with fail
 exact bodyPost_ret (v:=encD d) (results_cell_mid (d:=.array 32 5) (p:=4) (ty:=57) (b:=w.heap.size+1) (o:=0) rfl rfl HRD.out (by kernel_rfl) rfl (by rw[hcl];rfl)) rfl ⟨rfl,HF4.out⟩
theorem complete_node (b:Nat) (l i:Int) (ds:List Nm) (kvs:List (Value × Value)) (F:List Nat) (d:Nm) (w:World) (h:TreeAt w b ds kvs F) (hk:∃ k,keyOf Tryz.prog 270 (partV l i)=some k) (hm:(partV l i,encD d)∈kvs) (h0:l≠0) (hd32:d.length=32):Calls Tryz.prog 149 #[.pointer (some ⟨b,0,none⟩),partV l i] w (SumPost w d):=by
 obtain⟨A,c,m,hT,rfl⟩:=h
 obtain⟨kl,hkl⟩:=hk
 have hl0:(l == 0)=false:=by simpa using h0
 have hcl:(dCells d).length=32:=by rw[dcells_len,hd32]
 cases m with
 | none=>rw[hT.mn rfl] at hm;simp at hm
 | some r =>
  have hbx:=hT.box
  obtain⟨hms,_⟩:=hT.ms r rfl
  obtain⟨w1,hw1⟩:=nmd (w.alloc (.cells #[.int .i64 l,.int .i64 i] 270))
  obtain⟨w2,hw2⟩:=nmd (w1.alloc (.cells (z32) 57))
  have hs1:w1.heap.size=w.heap.size+1:=by rw[←hw1,World.size_alloc]
  have hf1:Fr [] w w1:=by rw[←hw1];exact (Fr.refl [] w).alloc _
  have hf12:Fr [] w1 w2:=by rw[←hw2];exact (Fr.refl [] w1).alloc _
  have hp2:BoxN w2 w.heap.size 270 #[.int .i64 l,.int .i64 i]:=by rw[←hw2,←hw1];exact (BoxN.new w _ _).alloc _
  obtain⟨fR,hR⟩:∃ f,w2.rowIs w1.heap.size 57 32 f:=by rw[←hw2];exact⟨_,row_new w1 _ _⟩
  rw[hs1] at hR
  have hf2:=hf1.then hf12
  have hss:∀ W,Fr [] w2 W→W.cell? ⟨w.heap.size,0,none⟩=some (.int .i64 l)∧W.cell? ⟨w.heap.size,1,none⟩=some (.int .i64 i)∧W.cell? ⟨b,1,none⟩=some (.map (some r))∧(Instr.lookup 235 (.map (some r)) (.agg #[.int .i64 l,.int .i64 i]) false).run Tryz.prog W=.ok (.agg (dCells d).toArray) W:=fun W hW=>⟨(hp2.fr hW (by simp)).c 0,(hp2.fr hW (by simp)).c 1,((hbx.fr hf2 (by simp)).fr hW (by simp)).c 1,(hms.fr (hf2.then hW) (by simp)).look_some key_part Tryz.underlying235 hkl hm false⟩
  have x0:=hp2.k0
  have HSS:=Hd hss
  have HR:=Hd hR
  have HF2:=Hd hf2
  have HW1:=Hd hw1
  have HW2:=Hd hw2
  clear hss hR hf2 hw1 hw2 hp2 hbx hf1 hf12 hT hms hkl hm h0
  unfold partV
  go_enter Tryz.func149,Tryz.ntmps149
  go_upto_region 1 with fail
  rw[HW1.out,HW2.out]
  go_upto_region 3 with fail
  refine wp_region_qtail (fun W=>Fr [] w2 W) 6 (by kernel_rfl) (by kernel_rfl) ((Fr.refl [] w2).drew) ?_
  simp only[List.take_succ_cons,List.take_zero,List.drop_succ_cons,List.drop_zero]
  repeat (
   first
   | go_big_quiet_skip
   | (go_big_quiet_want
      first
      | (go_big_quiet_op
         go_big_quiet_on)
      | (apply Exists.intro
         refine⟨fun W hW=>?_,?_⟩
         ·(obtain⟨z0,z1,z2,z3⟩:=HSS.out W hW
           go_simp
           first
           | done
           | (with_reducible exact rfl)
           | (with_reducible exact⟨rfl,rfl⟩)
           | (fail))
         simp only[Act.put,qA,qB,qC]
         go_big_quiet_on))
   )
  refine wpQuiet_nil ?_
  intro W3 hW3
  have hst:=store_digest (d:=d) (rowIs_fr HR.out hW3 (by simp)) (hd32)
  have hrd:=row_digest (d:=d) (rowIs_fr HR.out hW3 (by simp)) (hd32)
  obtain⟨w4,hw4⟩:=nmd ((W3).setCells (w.heap.size+1) 0 (dCells (d)))
  have hfw4:Fr [w.heap.size+1] W3 w4:=by rw[←hw4];exact (Fr.refl [w.heap.size+1] (W3)).setCells (.inl (by simp)) _ _
  rw[hw4] at hst hrd
  clear hw4
  have hf4:Fr [] w w4:=(HF2.out.then hW3).trans hfw4 (by simp)
  have HRD:=Hd hrd.1
  have HF4:=Hd hf4
  clear hrd hf4 hfw4 HSS HR
  go_wp2_with fail
  exact bodyPost_ret (v:=encD d) (results_cell_mid (d:=.array 32 5) (p:=4) (ty:=57) (b:=w.heap.size+1) (o:=0) rfl rfl HRD.out (by kernel_rfl) rfl (by rw[hcl];rfl)) rfl ⟨rfl,HF4.out⟩
def PartIs (ds:List Nm) (kvs:List (Value × Value)) (l i:Nat) (d:Nm):Prop :=
 d.length=32∧((l=0∧ds[i]?=some d) ∨ (l≠0∧(partV (l:Int) (i:Int),encD d)∈kvs∧∃ k,keyOf Tryz.prog 270 (partV (l:Int) (i:Int))=some k))
theorem complete_any (b l i:Nat) (ds:List Nm) (kvs:List (Value × Value)) (F:List Nat) (d:Nm) (w:World) (h:TreeAt w b ds kvs F) (hp:PartIs ds kvs l i d):Calls Tryz.prog 149 #[.pointer (some ⟨b,0,none⟩),partV (l:Int) (i:Int)] w (SumPost w d):=by
 rcases hp with ⟨h32,⟨rfl,hd⟩ | ⟨hl,hm,hk⟩⟩
 ·exact complete_leaf b i ds kvs F d w h hd
 ·exact complete_node b l i ds kvs F d w h hk hm (by omega) h32
theorem root_0_4 (b:Nat) (ds:List Nm) (kvs:List (Value × Value)) (F:List Nat) (d:Nm) (w:World) (h:TreeAt w b ds kvs F) (hp:PartIs ds kvs 2 0 d):Calls Tryz.prog 127 #[.pointer (some ⟨b,0,none⟩),.int .i64 0,.int .i64 4] w (SumPost w d):=by
 obtain⟨w1,hw1⟩:=nmd (w.alloc (.cells (z32) 57))
 have hf1:Fr [] w w1:=by rw[←hw1];exact (Fr.refl [] w).alloc _
 obtain⟨fR,hR⟩:∃ f,w1.rowIs w.heap.size 57 32 f:=by rw[←hw1];exact⟨_,row_new w _ _⟩
 have hC:=complete_any b 2 0 ds kvs F d w1 (h.fr0 hf1) hp
 have hd32:=hp.1
 have hcl:(dCells d).length=32:=by rw[dcells_len,hd32]
 have hb:=Tryz.bits_Len 4 w1 (by omega) (by omega)
 rw[show ((Lib.bitLen ((4:Int)).toNat:Nat):Int)=3 from by decide] at hb
 unfold partV at hC
 have hC2:Calls Tryz.prog 149 #[.pointer (some ⟨b,0,none⟩),.agg #[.int .i64 2,.int .i64 0]] w1 (SumPost w1 d):=hC
 have HB:=Hd hb
 have HC:=Hd hC2
 clear hC2
 have HR:=Hd hR
 have HF1:=Hd hf1
 have HW1:=Hd hw1
 clear hb hC hR hf1 hw1 h hp
 go_enter Tryz.func127,Tryz.ntmps127
 go_upto_region 1 with fail
 rw[HW1.out]
 go_wp2_with (first
  | (go_at_call 172;(with_reducible refine HB.out.mono ?_);rintro e w1 ⟨rfl,rfl⟩)
  | (go_at_call 149;(with_reducible refine HC.out.mono ?_);rintro e w3 ⟨rfl,hf3⟩;unfold encD;have hR3:=rowIs_fr HR.out hf3 (by simp);have hst:=store_digest (d:=d) hR3 hd32;have hrd:=row_digest (d:=d) hR3 hd32;obtain⟨w4,hw4⟩:∃ X,w3.setCells w.heap.size 0 (dCells d)=X:=⟨_,rfl⟩;have hf4:Fr [] w w4:=(by rw[←hw4];exact ((HF1.out.then hf3).setCells (.inr (Nat.le_refl _)) _ _));rw[hw4] at hst hrd;have HRD:=Hd hrd.1;have HF4:=Hd hf4;clear hw4 hrd hf4 hR3 hf3))
 exact bodyPost_ret (v:=encD d) (results_cell_mid (d:=.array 32 5) (p:=6) (ty:=57) (b:=w.heap.size) (o:=0) rfl rfl HRD.out (by kernel_rfl) rfl (by rw[hcl];rfl)) rfl ⟨rfl,HF4.out⟩
theorem root_0_1 (b:Nat) (ds:List Nm) (kvs:List (Value × Value)) (F:List Nat) (d:Nm) (w:World) (h:TreeAt w b ds kvs F) (hp:PartIs ds kvs 0 0 d):Calls Tryz.prog 127 #[.pointer (some ⟨b,0,none⟩),.int .i64 0,.int .i64 1] w (SumPost w d):=by
 obtain⟨w1,hw1⟩:=nmd (w.alloc (.cells (z32) 57))
 have hf1:Fr [] w w1:=by rw[←hw1];exact (Fr.refl [] w).alloc _
 obtain⟨fR,hR⟩:∃ f,w1.rowIs w.heap.size 57 32 f:=by rw[←hw1];exact⟨_,row_new w _ _⟩
 have hC:=complete_any b 0 0 ds kvs F d w1 (h.fr0 hf1) hp
 have hd32:=hp.1
 have hcl:(dCells d).length=32:=by rw[dcells_len,hd32]
 have hb:=Tryz.bits_Len 1 w1 (by omega) (by omega)
 rw[show ((Lib.bitLen ((1:Int)).toNat:Nat):Int)=1 from by decide] at hb
 unfold partV at hC
 have hC2:Calls Tryz.prog 149 #[.pointer (some ⟨b,0,none⟩),.agg #[.int .i64 0,.int .i64 0]] w1 (SumPost w1 d):=hC
 have HB:=Hd hb
 have HC:=Hd hC2
 clear hC2
 have HR:=Hd hR
 have HF1:=Hd hf1
 have HW1:=Hd hw1
 clear hb hC hR hf1 hw1 h hp
 go_enter Tryz.func127,Tryz.ntmps127
 go_upto_region 1 with fail
 rw[HW1.out]
 go_wp2_with (first
  | (go_at_call 172;(with_reducible refine HB.out.mono ?_);rintro e w1 ⟨rfl,rfl⟩)
  | (go_at_call 149;(with_reducible refine HC.out.mono ?_);rintro e w3 ⟨rfl,hf3⟩;unfold encD;have hR3:=rowIs_fr HR.out hf3 (by simp);have hst:=store_digest (d:=d) hR3 hd32;have hrd:=row_digest (d:=d) hR3 hd32;obtain⟨w4,hw4⟩:∃ X,w3.setCells w.heap.size 0 (dCells d)=X:=⟨_,rfl⟩;have hf4:Fr [] w w4:=(by rw[←hw4];exact ((HF1.out.then hf3).setCells (.inr (Nat.le_refl _)) _ _));rw[hw4] at hst hrd;have HRD:=Hd hrd.1;have HF4:=Hd hf4;clear hw4 hrd hf4 hR3 hf3))
 exact bodyPost_ret (v:=encD d) (results_cell_mid (d:=.array 32 5) (p:=6) (ty:=57) (b:=w.heap.size) (o:=0) rfl rfl HRD.out (by kernel_rfl) rfl (by rw[hcl];rfl)) rfl ⟨rfl,HF4.out⟩
theorem root_2_2 (b:Nat) (ds:List Nm) (kvs:List (Value × Value)) (F:List Nat) (d:Nm) (w:World) (h:TreeAt w b ds kvs F) (hp:PartIs ds kvs 1 1 d):Calls Tryz.prog 127 #[.pointer (some ⟨b,0,none⟩),.int .i64 2,.int .i64 2] w (SumPost w d):=by
 obtain⟨w1,hw1⟩:=nmd (w.alloc (.cells (z32) 57))
 have hf1:Fr [] w w1:=by rw[←hw1];exact (Fr.refl [] w).alloc _
 obtain⟨fR,hR⟩:∃ f,w1.rowIs w.heap.size 57 32 f:=by rw[←hw1];exact⟨_,row_new w _ _⟩
 have hC:=complete_any b 1 1 ds kvs F d w1 (h.fr0 hf1) hp
 have hd32:=hp.1
 have hcl:(dCells d).length=32:=by rw[dcells_len,hd32]
 have hb:=Tryz.bits_Len 2 w1 (by omega) (by omega)
 rw[show ((Lib.bitLen ((2:Int)).toNat:Nat):Int)=2 from by decide] at hb
 unfold partV at hC
 have hC2:Calls Tryz.prog 149 #[.pointer (some ⟨b,0,none⟩),.agg #[.int .i64 1,.int .i64 1]] w1 (SumPost w1 d):=hC
 have HB:=Hd hb
 have HC:=Hd hC2
 clear hC2
 have HR:=Hd hR
 have HF1:=Hd hf1
 have HW1:=Hd hw1
 clear hb hC hR hf1 hw1 h hp
 go_enter Tryz.func127,Tryz.ntmps127
 go_upto_region 1 with fail
 rw[HW1.out]
 go_wp2_with (first
  | (go_at_call 172;(with_reducible refine HB.out.mono ?_);rintro e w1 ⟨rfl,rfl⟩)
  | (go_at_call 149;(with_reducible refine HC.out.mono ?_);rintro e w3 ⟨rfl,hf3⟩;unfold encD;have hR3:=rowIs_fr HR.out hf3 (by simp);have hst:=store_digest (d:=d) hR3 hd32;have hrd:=row_digest (d:=d) hR3 hd32;obtain⟨w4,hw4⟩:∃ X,w3.setCells w.heap.size 0 (dCells d)=X:=⟨_,rfl⟩;have hf4:Fr [] w w4:=(by rw[←hw4];exact ((HF1.out.then hf3).setCells (.inr (Nat.le_refl _)) _ _));rw[hw4] at hst hrd;have HRD:=Hd hrd.1;have HF4:=Hd hf4;clear hw4 hrd hf4 hR3 hf3))
 exact bodyPost_ret (v:=encD d) (results_cell_mid (d:=.array 32 5) (p:=6) (ty:=57) (b:=w.heap.size) (o:=0) rfl rfl HRD.out (by kernel_rfl) rfl (by rw[hcl];rfl)) rfl ⟨rfl,HF4.out⟩
theorem root_0_2 (b:Nat) (ds:List Nm) (kvs:List (Value × Value)) (F:List Nat) (d:Nm) (w:World) (h:TreeAt w b ds kvs F) (hp:PartIs ds kvs 1 0 d):Calls Tryz.prog 127 #[.pointer (some ⟨b,0,none⟩),.int .i64 0,.int .i64 2] w (SumPost w d):=by
 obtain⟨w1,hw1⟩:=nmd (w.alloc (.cells (z32) 57))
 have hf1:Fr [] w w1:=by rw[←hw1];exact (Fr.refl [] w).alloc _
 obtain⟨fR,hR⟩:∃ f,w1.rowIs w.heap.size 57 32 f:=by rw[←hw1];exact⟨_,row_new w _ _⟩
 have hC:=complete_any b 1 0 ds kvs F d w1 (h.fr0 hf1) hp
 have hd32:=hp.1
 have hcl:(dCells d).length=32:=by rw[dcells_len,hd32]
 have hb:=Tryz.bits_Len 2 w1 (by omega) (by omega)
 rw[show ((Lib.bitLen ((2:Int)).toNat:Nat):Int)=2 from by decide] at hb
 unfold partV at hC
 have hC2:Calls Tryz.prog 149 #[.pointer (some ⟨b,0,none⟩),.agg #[.int .i64 1,.int .i64 0]] w1 (SumPost w1 d):=hC
 have HB:=Hd hb
 have HC:=Hd hC2
 clear hC2
 have HR:=Hd hR
 have HF1:=Hd hf1
 have HW1:=Hd hw1
 clear hb hC hR hf1 hw1 h hp
 go_enter Tryz.func127,Tryz.ntmps127
 go_upto_region 1 with fail
 rw[HW1.out]
 go_wp2_with (first
  | (go_at_call 172;(with_reducible refine HB.out.mono ?_);rintro e w1 ⟨rfl,rfl⟩)
  | (go_at_call 149;(with_reducible refine HC.out.mono ?_);rintro e w3 ⟨rfl,hf3⟩;unfold encD;have hR3:=rowIs_fr HR.out hf3 (by simp);have hst:=store_digest (d:=d) hR3 hd32;have hrd:=row_digest (d:=d) hR3 hd32;obtain⟨w4,hw4⟩:∃ X,w3.setCells w.heap.size 0 (dCells d)=X:=⟨_,rfl⟩;have hf4:Fr [] w w4:=(by rw[←hw4];exact ((HF1.out.then hf3).setCells (.inr (Nat.le_refl _)) _ _));rw[hw4] at hst hrd;have HRD:=Hd hrd.1;have HF4:=Hd hf4;clear hw4 hrd hf4 hR3 hf3))
 exact bodyPost_ret (v:=encD d) (results_cell_mid (d:=.array 32 5) (p:=6) (ty:=57) (b:=w.heap.size) (o:=0) rfl rfl HRD.out (by kernel_rfl) rfl (by rw[hcl];rfl)) rfl ⟨rfl,HF4.out⟩
theorem root_3_1 (b:Nat) (ds:List Nm) (kvs:List (Value × Value)) (F:List Nat) (d:Nm) (w:World) (h:TreeAt w b ds kvs F) (hp:PartIs ds kvs 0 3 d):Calls Tryz.prog 127 #[.pointer (some ⟨b,0,none⟩),.int .i64 3,.int .i64 1] w (SumPost w d):=by
 obtain⟨w1,hw1⟩:=nmd (w.alloc (.cells (z32) 57))
 have hf1:Fr [] w w1:=by rw[←hw1];exact (Fr.refl [] w).alloc _
 obtain⟨fR,hR⟩:∃ f,w1.rowIs w.heap.size 57 32 f:=by rw[←hw1];exact⟨_,row_new w _ _⟩
 have hC:=complete_any b 0 3 ds kvs F d w1 (h.fr0 hf1) hp
 have hd32:=hp.1
 have hcl:(dCells d).length=32:=by rw[dcells_len,hd32]
 have hb:=Tryz.bits_Len 1 w1 (by omega) (by omega)
 rw[show ((Lib.bitLen ((1:Int)).toNat:Nat):Int)=1 from by decide] at hb
 unfold partV at hC
 have hC2:Calls Tryz.prog 149 #[.pointer (some ⟨b,0,none⟩),.agg #[.int .i64 0,.int .i64 3]] w1 (SumPost w1 d):=hC
 have HB:=Hd hb
 have HC:=Hd hC2
 clear hC2
 have HR:=Hd hR
 have HF1:=Hd hf1
 have HW1:=Hd hw1
 clear hb hC hR hf1 hw1 h hp
 go_enter Tryz.func127,Tryz.ntmps127
 go_upto_region 1 with fail
 rw[HW1.out]
 go_wp2_with (first
  | (go_at_call 172;(with_reducible refine HB.out.mono ?_);rintro e w1 ⟨rfl,rfl⟩)
  | (go_at_call 149;(with_reducible refine HC.out.mono ?_);rintro e w3 ⟨rfl,hf3⟩;unfold encD;have hR3:=rowIs_fr HR.out hf3 (by simp);have hst:=store_digest (d:=d) hR3 hd32;have hrd:=row_digest (d:=d) hR3 hd32;obtain⟨w4,hw4⟩:∃ X,w3.setCells w.heap.size 0 (dCells d)=X:=⟨_,rfl⟩;have hf4:Fr [] w w4:=(by rw[←hw4];exact ((HF1.out.then hf3).setCells (.inr (Nat.le_refl _)) _ _));rw[hw4] at hst hrd;have HRD:=Hd hrd.1;have HF4:=Hd hf4;clear hw4 hrd hf4 hR3 hf3))
 exact bodyPost_ret (v:=encD d) (results_cell_mid (d:=.array 32 5) (p:=6) (ty:=57) (b:=w.heap.size) (o:=0) rfl rfl HRD.out (by kernel_rfl) rfl (by rw[hcl];rfl)) rfl ⟨rfl,HF4.out⟩
theorem info_dig:∃ i,(Tryz.prog).info? 57=some i∧i.zero=some (.agg (#[.int .u8 0,.int .u8 0,.int .u8 0,.int .u8 0,.int .u8 0,.int .u8 0,.int .u8 0,.int .u8 0,.int .u8 0,.int .u8 0,.int .u8 0,.int .u8 0,.int .u8 0,.int .u8 0,.int .u8 0,.int .u8 0,.int .u8 0,.int .u8 0,.int .u8 0,.int .u8 0,.int .u8 0,.int .u8 0,.int .u8 0,.int .u8 0,.int .u8 0,.int .u8 0,.int .u8 0,.int .u8 0,.int .u8 0,.int .u8 0,.int .u8 0,.int .u8 0]))∧i.size=32∧i.bytes=32:=info_parts (by kernel_rfl)
theorem run_makeMap (w:World) (t:TypeId):(Instr.makeMap t none).run Tryz.prog w=.ok (.map (some w.heap.size)) (w.alloc (.map #[] 0)):=by simp[Instr.makeMap,Result.andThen]
theorem fold_set (l:List Value):∀ (k:Nat) (z:Array Value),k+l.length≤z.size→∀ i,((l.zipIdx k).foldl (fun cs x=>cs.setIfInBounds x.2 x.1) z)[i]?=if k≤i∧i<k+l.length then l[i - k]? else z[i]?:=by
 induction l with
 | nil =>
  intro k z _ i
  simp only[List.zipIdx_nil,List.foldl_nil,List.length_nil]
  rw[if_neg (by omega)]
 | cons x l ih =>
  intro k z hz i
  simp only[List.length_cons] at hz
  rw[List.zipIdx_cons,List.foldl_cons,ih (k+1) _ (by simp;omega)]
  simp only[List.length_cons]
  by_cases h1:k+1≤i∧i<k+1+l.length
  ·rw[if_pos h1,if_pos (by omega),show i - k=(i - (k+1))+1 by omega,List.getElem?_cons_succ]
  ·rw[if_neg h1]
   by_cases h2:i=k
   ·subst h2
    rw[if_pos (by omega),Nat.sub_self,List.getElem?_cons_zero,Array.getElem?_setIfInBounds_self_of_lt (by omega)]
   ·rw[if_neg (by omega),Array.getElem?_setIfInBounds_ne (by omega)]
theorem fold_zero {d:Nm} {z:Array Value} (hz:z.size=32) (hd:d.length=32):(List.foldl (fun cs x=>cs.setIfInBounds x.snd x.fst) z (dCells d).zipIdx)=(dCells d).toArray:=by
 have hcl:(dCells d).length=32:=by rw[dcells_len,hd]
 apply Array.ext_getElem?
 intro i
 rw[fold_set (dCells d) 0 z (by omega) i]
 simp only[Nat.zero_add,Nat.zero_le,true_and,Nat.sub_zero,List.getElem?_toArray]
 split
 ·rfl
 ·rw[Array.getElem?_eq_none (by omega),List.getElem?_eq_none (by omega)]
theorem flat_snoc (ds:List Nm) (d:Nm):(ds++[d]).flatMap dCells=ds.flatMap dCells++dCells d:=by simp
def TreeM (w:World) (b:Nat) (ds:List Nm) (kvs:List (Value × Value)) (F:List Nat):Prop:=∃ A c r,TreeIs w b A c (some r) ds kvs∧F=b::(blk A++(some r).toList)
theorem TreeM.at_ {w:World} {b:Nat} {ds:List Nm} {kvs:List (Value × Value)} {F:List Nat} (h:TreeM w b ds kvs F):TreeAt w b ds kvs F:=by
 obtain⟨A,c,r,h1,h2⟩:=h
 exact⟨A,c,some r,h1,h2⟩
theorem TreeM.fr {w w':World} {b:Nat} {ds:List Nm} {kvs:List (Value × Value)} {F S:List Nat} (h:TreeM w b ds kvs F) (hf:Fr S w w') (hS:∀ k∈F,k ∉ S):TreeM w' b ds kvs F:=by
 obtain⟨A,c,r,h1,rfl⟩:=h
 exact⟨A,c,r,h1.fr hf hS,rfl⟩
theorem TreeM.lt {w:World} {b:Nat} {ds:List Nm} {kvs:List (Value × Value)} {F:List Nat} (h:TreeM w b ds kvs F):∀ k∈F,k<w.heap.size:=by
 obtain⟨A,c,r,h1,rfl⟩:=h
 intro k hk
 rcases List.mem_cons.1 hk with h | h
 ·rw[h];exact h1.box.lt
 ·rcases List.mem_append.1 h with h | h
  ·exact h1.own.lt k h
  ·have:k=r:=by simpa using h
   rw[this];exact (h1.ms r rfl).1.lt
theorem Append_0 (b:Nat) (d:Nm) (w:World) (h:TreeIs w b none 0 none [] []) (hd32:d.length=32):Calls Tryz.prog 89 #[.pointer (some ⟨b,0,none⟩),encD d] w fun e w'=>e=.returned (.int .i64 0)∧∃ F',TreeM w' b [d] [] F'∧Fr [b] w w'∧∀ k∈F',k=b ∨ w.heap.size≤k:=by
 have hcl:(dCells d).length=32:=by rw[dcells_len,hd32]
 have hcs:(dCells d).toArray.size=32:=by rw[dcells_size,hd32]
 have hbx:=h.box
 have hbl:=hbx.lt
 have x0:=hbx.k0
 unfold encD
 obtain⟨w1,hw1⟩:=nmd (w.alloc (.cells (dCells d).toArray 57))
 have hL1:w1.rowIs w.heap.size 57 32 (fun j=>.int .u8 ((d.getD j 0).toNat:Int)):=by rw[←hw1];exact row_cells w hcl
 have hf1:Fr [] w w1:=by rw[←hw1];exact (Fr.refl [] w).alloc _
 have hb1:=hbx.fr hf1 (by simp)
 obtain⟨y0,y1⟩:=hb1.m2
 have g1:=hb1.f 1
 have HW1:=Hd hw1
 have HB1:=Hd hb1
 have HF1:=Hd hf1
 have HL1:=Hd hL1
 clear hw1 hb1 hf1 hL1 hbx h x0
 go_enter Tryz.func89,Tryz.ntmps89
 go_upto_region 1 with fail
 rw[HW1.out]
 have qT:∀ (w:World) (r:Option Nat),(binOp .eql 235 (.map r) (.map none)).run Tryz.prog w=.ok (.bool r.isNone) w:=fun w r=>run_eql_map_nil w _ _ _ r Tryz.underlying235
 have hb1a:=HB1.out.alloc (.map #[] 0)
 have y1a:=hb1a.k1
 have g1a:=hb1a.f 1
 have qM:=run_makeMap w1 235
 go_upto_region 7 with fail
 obtain⟨w2,hw2⟩:=nmd (w1.alloc (.map #[] 0))
 have hm2:MapIs Tryz.prog 270 w2 w1.heap.size []:=by rw[←hw2];exact MapIs.new w1
 have hf2:Fr [] w1 w2:=by rw[←hw2];exact (Fr.refl [] w1).alloc _
 obtain⟨w3,hw3⟩:=nmd (w2.setCell ⟨b,1,none⟩ (.map (some w1.heap.size)))
 have hf3:Fr [b] w2 w3:=by rw[←hw3];exact (Fr.refl [b] w2).set (.inl (by simp)) _
 have hb3:BoxN w3 b 237 #[.slice none 0 0,.map (some w1.heap.size)]:=by rw[←hw3];exact (HB1.out.fr hf2 (by simp)).setAt 1 _
 have hmb:w1.heap.size≠b:=by have:=HF1.out.size;omega
 have hm3:=hm2.fr hf3 (by simpa using hmb)
 rw[hw2,hw3]
 have u0:=hb3.k0
 have hf13:=HF1.out.then hf2
 have hf03:Fr [b] w w3:=(hf13.mono (by simp)).then hf3
 have HL3:=Hd (rowIs_fr (rowIs_fr HL1.out hf2 (by simp)) hf3 (by simp;omega))
 have HB3:=Hd hb3
 have HM3:=Hd (And.intro hm3 hmb)
 have HF3:=Hd hf03
 clear hw2 hm2 hf2 hw3 hf3 hb3 hm3 hf13 hf03 y0 y1 g1 y1a g1a hb1a qM HB1 HL1
 go_upto_region 8 with fail
 obtain⟨w4,hw4,hp4,hf34⟩:=bxn w3 #[.int .i64 0,.int .i64 0] 270
 rw[hw4]
 have hcb:(w4.drew).cell? ⟨b,0,none⟩=some (.slice none 0 0):=(HB3.out.fr hf34 (by simp)).c 0
 have hL4:=rowIs_fr HL3.out hf34 (by simp)
 have HBW:=Hd (HB3.out.fr hf34 (by simp))
 have HOW:Hid (Own w4 57 32 none 0 0 []):=Hd (Own.nil _ _ _)
 have hnb:b ∉ blk none:=by simp[blk]
 have hlb:w.heap.size ∉ blk none:=by simp[blk]
 have hrng:∀ X:World,X.rowIs w.heap.size 57 32 (fun j=>.int .u8 ((d.getD j 0).toNat:Int))→X.rangeAt w.heap.size 0 (dCells d):=fun X hr j v hv=>by
  rw[Nat.zero_add]
  have hj:j<32:=by have:=(List.getElem?_eq_some_iff.1 hv).1;rw[hcl] at this;exact this
  rw[hr.cell hj,←hv,dcells_get (by omega)]
 have hC:(fun X:World=>X.cell? ⟨b,0,none⟩=some (.slice none 0 0)∧X.rangeAt w.heap.size 0 (dCells d)) w4.drew:=⟨hcb,hrng _ hL4.drew⟩
 have HSS:=Hd (fun (X:World) (hX:X.cell? ⟨b,0,none⟩=some (.slice none 0 0)∧X.rangeAt w.heap.size 0 (dCells d))=>And.intro hX.1 trivial)
 refine wp_region_head (fun X:World=>X.cell? ⟨b,0,none⟩=some (.slice none 0 0)∧X.rangeAt w.heap.size 0 (dCells d)) 10 (by kernel_rfl) ?_ (by decide)
 show headJ 0 _ _ _ _ _ _ _ _ _ _ _
 iterate 5
  refine hdJ (v:=?_) rfl (Or.inl ⟨by rfl,?_⟩) ?_
  rotate_left
  ·intro W hW;obtain⟨z0,_⟩:=HSS.out W hW;go_simp;try with_reducible rfl
  try simp only[Act.put,qA,qB,qC,qD,qE,qF]
 refine headI_take (i:=5) (v:=.agg (dCells d).toArray) (by kernel_rfl) head_done rfl (by decide) (by kernel_rfl) (fun _ _ _ h=>h) (yieldsIf_load_mid (by rfl) 57 (.tmp 3) rfl w.heap.size (0) rfl (dCells d) (.array 32 5) (fun X hX=>hX.2) (by kernel_rfl) rfl (by rw[hcl];kernel_rfl)) (by assumption) ?_
 try simp only[Act.put,qA,qB,qC,qD,qE,qF]
 refine headI_only (i:=6) (by kernel_rfl) (by decide) rfl (fun K hK=>?_)
 rw[if_pos (by rfl)]
 go_simp
 rw[fold_zero (by rfl) hd32]
 obtain⟨X5,hX5,n5,f5⟩:=bxd w4 (dCells d).toArray 57
 have hC5:X5.cell? ⟨b,0,none⟩=some (.slice none 0 0)∧X5.rangeAt w.heap.size 0 (dCells d):=⟨(HBW.out.fr f5 (by simp)).c 0,hrng _ (rowIs_fr hL4 f5 (by simp))⟩
 rw[hX5]
 refine hK _ _ hC5 ?_
 clear hK K hX5
 try simp only[Act.put,qA,qB,qC,qD,qE,qF]
 refine headI_only (i:=7) (by kernel_rfl) (by decide) rfl (fun K hK=>?_)
 rw[if_pos (by rfl)]
 obtain⟨ii,hii,iz0,iz1,iz2⟩:=info_dig
 have HO5:=Hd (HOW.out.fr f5 (by simp))
 refine wp_app (.tmp 37) (.tmp 39) 51 rfl 57 ii _ 32 32 Tryz.underlying51 hii iz0 iz1 iz2 rfl (by decide) none 0 0 ([]) rfl HO5.out ⟨w4.heap.size,0,none⟩ 1 1 (dCells d) rfl (by rw[hcl]) (fun j u hu=>by rw[add_mid',n5.c j];simpa using hu) (dcells_one d) (by unfold maxLen;omega) (by omega) ?_
 intro A' c' X6 ho6 hf6 hA6
 rw[show (0+1:Nat)=1 from rfl] at ho6 ⊢
 have hC6:X6.cell? ⟨b,0,none⟩=some (.slice none 0 0)∧X6.rangeAt w.heap.size 0 (dCells d):=⟨((HBW.out.fr f5 (by simp)).fr hf6 hnb).c 0,hrng _ (rowIs_fr (rowIs_fr hL4 f5 (by simp)) hf6 hlb)⟩
 refine hK _ _ hC6 ?_
 clear hK K hC hC5
 try simp only[Act.put,qA,qB,qC,qD,qE,qF]
 show headJ 8 _ _ _ _ _ _ _ _ _ _ _
 iterate 2
  refine hdJ (v:=?_) rfl (Or.inl ⟨by rfl,?_⟩) ?_
  rotate_left
  ·intro W hW;obtain⟨z0,_⟩:=HSS.out W hW;go_simp;try with_reducible rfl
  try simp only[Act.put,qA,qB,qC,qD,qE,qF]
 refine headI_done ⟨by kernel_rfl,?_⟩
 simp only[List.drop_succ_cons,List.drop_zero]
 have hb6:=(HBW.out.fr f5 (by simp)).fr hf6 hnb
 have e0:=hb6.k0
 have e1:=hb6.f 0
 obtain⟨X7,hX7⟩:=nmd (X6.setCell ⟨b,0,none⟩ (.slice A' 1 c'))
 have f67:Fr [b] X6 X7:=by rw[←hX7];exact (Fr.refl [b] X6).set (.inl (by simp)) _
 have hb7:=hb6.setAt 0 (.slice A' 1 c')
 have hbA:b ∉ blk A':=by
  intro hm
  rcases hA6 b hm with h | h
  ·exact hnb h
  ·have:=HBW.out.lt;have:=f5.size;omega
 have ho7:Own X7 57 32 A' 1 c' (([])++dCells d):=ho6.fr f67 (by intro k hk;simp only[List.mem_singleton];rintro rfl;exact hbA hk)
 have f47:Fr (b::blk none) w4 X7:=((f5.mono (by simp)).trans (hf6.mono (T:=b::blk none) (by intro x hx;exact .inl (by simp[hx]))) (fun x hx=>.inl hx)).trans f67 (by simp)
 rw[hX7] at hb7
 have HB7:=Hd hb7
 have HO7:=Hd ho7
 have HF47:=Hd f47
 have HA7:=Hd (And.intro hbA (fun k hk=>(hA6 k hk).imp id (fun h=>Nat.le_trans f5.size h)))
 clear hb6 f67 hb7 ho7 f47 hbA ho6 hf6 hA6 hC6 HO5 f5 n5 HSS hrng
 have hP:w3.heap.size ∉ b::blk none:=by have:=HF3.out.size;simp[blk];omega
 have hp7:=hp4.fr HF47.out hP
 have q1:=hp7.k1
 go_wp2_with fail
 try rw[hX7]
 refine wp_loop_rounds 1 ?_
 rw[rounds_succ]
 go_wp2_with fail
 go_ret
 have hfin:Fr [b] w X7:=(HF3.out.then (hf34.mono (by simp))).then (HF47.out.mono (by simp[blk]))
 have hm7:=(HM3.out.1.fr hf34 (by simp)).fr HF47.out (by simp[blk];omega)
 refine⟨rfl,b::(blk A'++(some w1.heap.size).toList),⟨A',c',w1.heap.size,⟨HB7.out,by simpa using HO7.out,by simpa using hd32,HA7.out.1,by simp,fun r hr=>?_⟩,rfl⟩,hfin,fun k hk=>?_⟩
 ·injection hr with hr
  subst hr
  refine⟨hm7,hmb,fun hm=>?_⟩
  rcases HA7.out.2 _ hm with h | h
  ·simp[blk] at h
  ·have h1:=HM3.out.1.lt;have h2:=hf34.size;omega
 ·rcases List.mem_cons.1 hk with h | h
  ·exact .inl h
  ·rcases List.mem_append.1 h with h | h
   ·rcases HA7.out.2 _ h with h2 | h2
    ·simp[blk] at h2
    ·right;have:=HF3.out.size;have:=hf34.size;omega
   ·right
    have:k=w1.heap.size:=by simpa using h
    have:=HF1.out.size
    omega
end Go.Proofs.YtlpmiimgacfmkaaGreatDoor
