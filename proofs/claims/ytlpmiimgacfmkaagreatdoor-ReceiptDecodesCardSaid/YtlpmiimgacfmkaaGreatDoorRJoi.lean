/- SHA-256: Join. -/
import Derived.LoopTactic
import Derived.Deep.RegionHeld3
import Derived.Deep.Cut
import Derived.Test.YtlpmiimgacfmkaaGreatDoorRHsh2
set_option linter.all false
namespace Go.Proofs.YtlpmiimgacfmkaaGreatDoor
open Go.RowKit
set_option maxRecDepth 100000
set_option maxHeartbeats 4000000
def JoinPost (w:World) (t:Nm) (e:Ending) (w':World):Prop:=e=.returned (.tuple #[encN t,.int .i64 0])∧Fr [] w w'
def JR (w:World) (tag:UInt8) (ps:List Nm) (n:Nat) (v i:Value) (W:World):Prop :=
 ∃ (j:Nat) (A':Option Addr) (c':Nat),j≤n∧i=.int .i64 (j:Int)∧v=.slice A' (2+joinL (ps.take j)) c'∧Own W 5 1 A' (2+joinL (ps.take j)) c' (dCells ([tag,UInt8.ofNat n]++joinP (ps.take j)))∧Fr [] w W∧∀ b∈blk A',w.heap.size≤b
theorem Join_any (tag:UInt8) (A:Option Addr) (n c:Nat) (ps:List Nm) (w:World) (hn:n≤255) (hr:Row w w.heap.size 1 A n (ps.map encN)) (hL:joinL ps≤1099511627776) :
 Calls Tryz.prog 143 #[.int .u8 (tag.toNat:Int),.slice A n c] w (JoinPost w (joinN tag ps)):=by
 have hlen:ps.length=n:=by have:=hr.1;simpa using this
 have HR:=Hd hr
 have HL:=Hd hlen
 clear hr hlen
 go_enter Tryz.func143,Tryz.ntmps143
 go_wp2_with fail
 go_loop [6,18] (fun s i=>∃ k:Nat,k≤n∧i=.int .i64 (k:Int)∧s=.int .i64 ((2+joinL (ps.take k):Nat):Int)) (fun _ i=>n - (intOf i).toNat)
 case atStart=>exact⟨0,Nat.zero_le _,rfl,rfl⟩
 case round =>
  obtain⟨k,hk,rfl,rfl⟩:=hrel
  by_cases hlt:k<n
  ·obtain⟨b,off,p,s,rfl,hb,hp,hs,hsl,hsz,hc⟩:=HR.out.str hlt
   have hst:=joinL_take hp
   have hmo:=joinL_mono ps (k+1)
   have HST:=Hd hst
   have HSZ:=Hd hsz
   have hz:s.size≤1099511627776:=by omega
   have hz2:joinL (ps.take k)≤1099511627776:=by omega
   have hlt':(k:Int)<(n:Int):=by omega
   clear hst hp hs hsl hsz hmo
   go_wp2_with fail
   go_round
   case rel=>exact⟨k+1,by omega,by go_num,by rw[HST.out,←HSZ.out];go_num⟩
   case measure=>simp[intOf];omega
  ·obtain rfl:k=n:=by omega
   have htk:ps.take k=ps:=List.take_of_length_le (by rw[HL.out];exact Nat.le_refl _)
   rw[htk]
   clear htk
   obtain⟨C,hC⟩:=nmd (2+joinL ps)
   rw[hC]
   have HC:=Hd hC
   have hC2:C≤1099511627778:=by omega
   clear hC
   obtain⟨ii,hii,iz0,iz1,iz2⟩:=info_u8
   go_wp2_with (first
    | ((with_reducible refine wpList_make_own w rfl (.const (.int .i64 0)) (.tmp 28) 49 rfl 0 5 ii (.int .u8 0) 1 Tryz.underlying49 hii iz0 iz1 .i64 .i64 (C:Int) C rfl rfl rfl (by rw[iz2];omega) (by unfold maxLen;omega) (Nat.zero_le _) ?_);intro W1 hown1 hg1;have O1:Own W1 5 1 (some ⟨w.heap.size,0,none⟩) 0 C (dCells []):=hown1;have HO1:=Hd O1;have F1:=Hd ((Fr.refl [] w).grown hg1 (by simp));clear hown1 hg1 O1)
    | (at_builtin;(with_reducible refine wpList_app_tmp (w:=W1) rfl (.tmp 30) (.tmp 35) 49 rfl 5 ii (.int .u8 0) 1 1 Tryz.underlying49 hii iz0 iz1 iz2 rfl (by decide) (some ⟨w.heap.size,0,none⟩) 0 C (dCells []) rfl HO1.out 2 2 [.int .u8 (tag.toNat:Int),.int .u8 (k:Int)] 5 rfl rfl (by simp[Value.oneCell']) (by unfold maxLen;omega) (by omega) ?_);intro A2 c2 W2 h2 f2 s2;have HO2:=Hd h2;have F2:=Hd (F1.out.trans f2 (by simp[blk]));have HS2:=Hd s2;clear h2 f2 s2))
   have hj0:JR w tag ps k (.slice A2 2 c2) (.int .i64 0) W2:=⟨0,A2,c2,by omega,rfl,rfl,(by
    have h:=HO2.out
    have e:dCells []++[Value.int .u8 (tag.toNat:Int),Value.int .u8 (k:Int)]=dCells ([tag,UInt8.ofNat k]++joinP (ps.take 0)):=by
     simp[dCells,joinP]
     omega
    rw[e] at h
    exact h),F2.out,fun b hb=>by
     rcases HS2.out b hb with h | h
     ·simp[blk] at h;omega
     ·have:=F1.out.size;omega⟩
   have HJ0:=Hd hj0
   clear hj0 HO1 HO2 F1 F2 HS2
   go_loopw [9,39] (JR w tag ps k) (fun _ i _=>k - (intOf i).toNat)
   case atStart=>exact HJ0.out
   case round =>
    obtain⟨j,A3,c3,hj,rfl,rfl,hown,hf,hb⟩:=hrel
    by_cases hlt2:j<k
    ·obtain⟨b,off,p,s,rfl,hbb,hp,hs,hsl,hsz,hc⟩:=HR.out.str hlt2
     have hc':=(hf.cell (p:=⟨b,off+j,none⟩) hbb (by simp)).trans hc
     have hst:=joinL_take hp
     have hsp:=joinP_take hp
     have hmo:=joinL_mono ps (j+1)
     have hz:s.size≤1099511627776:=by omega
     have hz2:joinL (ps.take j)≤1099511627776:=by omega
     obtain⟨N,hN⟩:=nmd (2+joinL (ps.take j))
     have hN2:N≤1099511627780:=by omega
     rw[hN] at hown ⊢
     have HN:=Hd hN
     have HST:=Hd hst
     have HSP:=Hd hsp
     have HSZ:=Hd hsz
     have HSL:=Hd hsl
     have HOW:=Hd hown
     have HF:=Hd hf
     have HB:=Hd hb
     have hlt3:(j:Int)<(k:Int):=by omega
     clear hst hsp hp hs hsl hsz hmo hc hown hf hb hN
     go_wp2_with (first
      | (at_builtin;(with_reducible refine wpList_app_tmp (w:=wr) rfl (.tmp 45) (.tmp 57) 49 rfl 5 ii (.int .u8 0) 1 1 Tryz.underlying49 hii iz0 iz1 iz2 rfl (by decide) A3 N c3 _ rfl HOW.out 4 4 [.int .u8 ((s.size:Int) / 16777216 % 256),.int .u8 ((s.size:Int) / 65536 % 256),.int .u8 ((s.size:Int) / 256 % 256),.int .u8 ((s.size:Int) % 256)] 5 rfl rfl (by simp[Value.oneCell']) (by unfold maxLen;omega) (by omega) ?_);intro A4 c4 W4 h4 f4 s4;have HO4:=Hd h4;have F4:=Hd (HF.out.trans f4 (fun x hx=>.inr (HB.out x hx)));have HS4:=Hd s4;have hsz4:=f4.size;clear h4 f4 s4)
      | (at_builtin;(with_reducible refine wpList_app_str (w:=W4) rfl (.tmp 59) (.tmp 60) 49 9 rfl 5 ii Tryz.underlying49 Tryz.underlying9 hii iz0 iz1 iz2 A4 (N+4) c4 _ rfl HO4.out s rfl (by unfold maxLen;omega) (by omega) ?_);intro A5 c5 W5 h5 f5 s5;have HO5:=Hd h5;have HS5:=Hd s5;have HF5:=Hd f5;clear h5 f5 s5))
     go_roundw
     case rel =>
      have hw0:∀ x∈blk A4,w.heap.size≤x:=fun x hx=>by
       rcases HS4.out x hx with h | h
       ·exact HB.out x h
       ·have:=HF.out.size;omega
      have eN:N+4+s.size=2+joinL (ps.take (j+1)):=by have:=HN.out;have:=HST.out;have:=HSZ.out;omega
      refine⟨j+1,A5,c5,by omega,by go_num,by rw[eN],?_,F4.out.trans HF5.out (fun x hx=>.inr (hw0 x hx)),fun x hx=>?_⟩
      ·have h:=HO5.out
       rw[eN] at h
       have e:dCells ([tag,UInt8.ofNat k]++joinP (ps.take j))++[Value.int .u8 ((s.size:Int) / 16777216 % 256),.int .u8 ((s.size:Int) / 65536 % 256),.int .u8 ((s.size:Int) / 256 % 256),.int .u8 ((s.size:Int) % 256)]++dCells s.data.toList=dCells ([tag,UInt8.ofNat k]++joinP (ps.take (j+1))):=by
        rw[HSP.out,←be4_cells,←dcells_append,←dcells_append,HSL.out,HSZ.out,List.append_assoc,List.append_assoc]
       rw[e] at h
       exact h
      ·rcases HS5.out x hx with h | h
       ·exact hw0 x h
       ·have:=F4.out.size;omega
     case measure=>simp[intOf];omega
    ·obtain rfl:j=k:=by omega
     have htk:ps.take j=ps:=List.take_of_length_le (by rw[HL.out];exact Nat.le_refl _)
     rw[htk] at hown ⊢
     have hcv:=run_row_str (P:=Tryz.prog) hown.row 49 5 Tryz.underlying49 Tryz.underlying5 9 Tryz.underlying9 c3
     have hjn:[tag,UInt8.ofNat j]++joinP ps=joinN tag ps:=by unfold joinN;rw[HL.out]
     rw[hjn] at hcv
     have HF:=Hd hf
     clear htk hown hf hb hjn
     rw[HC.out] at hcv ⊢
     go_wp2_with fail
     go_ret2
     exact⟨rfl,HF.out⟩
theorem results_cell_mid2 {P:Program} {fn:Func} {p u:Tmp} {ty:TypeId} {tmps:Array Value} {w:World} {b o:Nat} {cs:List Value} {d:TypeDesc} {v:Value} (h:fn.results=#[.cell p ty,.tmp u]) (hp:tmps.getD p undef=.pointer (some ⟨b,o,none⟩)) (hv:tmps.getD u undef=v) (hc:w.rangeAt b o cs) (hu:P.underlying ty=some d) (hd:d.isRow=true) (hi:(P.info? ty).map (·.size)=some cs.length) :
 (results fn tmps).run P w=.ok (.tuple #[.agg cs.toArray,v]) w:=by
 have hp':tmps[p]?.getD undef=.pointer (some ⟨b,o,none⟩):=by rw[←Array.getD_eq_getD_getElem?];exact hp
 have hv':tmps[u]?.getD undef=v:=by rw[←Array.getD_eq_getD_getElem?];exact hv
 simp only[results,h]
 simp[Sem.run_bind,Result.andThen,hp',hv',asAddr,run_loadVar_mid w b o ty cs d hc hu hd hi]
theorem digest_new (w:World):∃ f,(w.alloc (.cells #[.int .u8 0,.int .u8 0,.int .u8 0,.int .u8 0,.int .u8 0,.int .u8 0,.int .u8 0,.int .u8 0,.int .u8 0,.int .u8 0,.int .u8 0,.int .u8 0,.int .u8 0,.int .u8 0,.int .u8 0,.int .u8 0,.int .u8 0,.int .u8 0,.int .u8 0,.int .u8 0,.int .u8 0,.int .u8 0,.int .u8 0,.int .u8 0,.int .u8 0,.int .u8 0,.int .u8 0,.int .u8 0,.int .u8 0,.int .u8 0,.int .u8 0,.int .u8 0] 57)).rowIs w.heap.size 57 32 f:=⟨_,row_new w _ _⟩
def TagPost (w:World) (d:Nm) (e:Ending) (w':World):Prop:=e=.returned (.tuple #[encD d,.int .i64 0])∧Fr [] w w'
theorem Tagged_any (tag:UInt8) (A:Option Addr) (n c:Nat) (ps:List Nm) (w:World) (hok:Ok w) (hn:n≤255) (hr:Row w w.heap.size 1 A n (ps.map encN)) (hL:joinL ps≤1099511627776) :
 Calls Tryz.prog 151 #[.int .u8 (tag.toNat:Int),.slice A n c] w (TagPost w (shaN (joinN tag ps))):=by
 obtain⟨w1,hw1⟩:=nmd (w.alloc (.cells z32 57))
 obtain⟨fR,hR⟩:∃ f,w1.rowIs w.heap.size 57 32 f:=by rw[←hw1];exact digest_new w
 have hF1:Fr [] w w1:=by rw[←hw1];exact (Fr.refl [] w).alloc _
 have hr1:Row w1 w1.heap.size 1 A n (ps.map encN):=(hr.fr hF1 (Nat.le_refl _) (by simp)).more hF1.size
 have hjl:(joinN tag ps).length≤1152921504606846976:=by unfold joinN;rw[List.length_append,joinP_len];simp;omega
 have HW1:=Hd hw1
 have HR:=Hd hR
 have HF1:=Hd hF1
 have HR1:=Hd hr1
 have HJL:=Hd hjl
 clear hw1 hR hF1 hr1 hr hjl
 go_enter Tryz.func151,Tryz.ntmps151
 go_wp2_with fail
 rw[HW1.out]
 refine (Join_any tag A n c ps w1 hn HR1.out hL).mono ?_
 rintro e w2 ⟨rfl,hf2⟩
 have hR2:=rowIs_fr HR.out hf2 (by simp)
 have hF2:=HF1.out.then hf2
 have HR2:=Hd hR2
 have HF2:=Hd hF2
 clear hf2 hR2 hF2
 go_wp2_with fail
 refine (SumS_any (joinN tag ps) w2 (hok.fr0 HF2.out) HJL.out).mono ?_
 rintro e w3 ⟨rfl,hf3⟩
 have hR4:=rowIs_fr HR2.out hf3 (by simp)
 have hst:=store_digest (d:=shaN (joinN tag ps)) hR4 (shaN_len _)
 have hrd:=row_digest (d:=shaN (joinN tag ps)) hR4 (shaN_len _)
 obtain⟨w5,hw5⟩:=nmd ((w3).setCells w.heap.size 0 (dCells (shaN (joinN tag ps))))
 have hF5:Fr [] w w5:=by rw[←hw5];exact (HF2.out.then hf3).setCells (.inr (Nat.le_refl _)) _ _
 rw[hw5] at hst hrd
 have HRD:=Hd hrd.1
 have HF5:=Hd hF5
 clear hR4 hrd hF5 hw5 hf3
 unfold encD
 go_wp2_with fail
 exact bodyPost_ret (v:=.tuple #[encD (shaN (joinN tag ps)),.int .i64 0]) (results_cell_mid2 (d:=.array 32 5) (p:=4) (u:=5) (ty:=57) (b:=w.heap.size) (o:=0) rfl rfl rfl HRD.out (by kernel_rfl) rfl (by rw[dcells_len,shaN_len];rfl)) rfl ⟨rfl,HF5.out⟩
def leafN (s:Nm):Nm:=shaN (joinN 0 [s])
def nodeN (l r:Nm):Nm:=shaN (joinN 1 [l,r])
theorem Leaf_any (s:Nm) (w:World) (hok:Ok w) (hs:s.length≤1099511627000):Calls Tryz.prog 90 #[encN s] w (SumPost w (leafN s)):=by
 obtain⟨str,hstr,_,_⟩:=str_of s
 obtain⟨w1,hw1⟩:=nmd (w.alloc (.cells z32 57))
 obtain⟨fR,hR⟩:∃ f,w1.rowIs w.heap.size 57 32 f:=by rw[←hw1];exact digest_new w
 have hF1:Fr [] w w1:=by rw[←hw1];exact (Fr.refl [] w).alloc _
 obtain⟨w2,hw2⟩:=nmd (w1.alloc (.cells #[.string str] 9))
 have hR2:w2.rowIs w.heap.size 57 32 fR:=by rw[←hw2];exact hR.alloc _
 have hF2:Fr [] w w2:=by rw[←hw2];exact hF1.alloc _
 have hr2:Row w2 w2.heap.size 1 (some ⟨w1.heap.size,0,none⟩) 1 ([s].map encN):=by
  rw[←hw2]
  refine⟨by simp,fun _=>⟨_,0,rfl,by simp,fun j u hu=>?_⟩⟩
  have:=new_cells w1 [.string str] 9 j u (by rw[←hstr];simpa using hu)
  rw[add_mid'] at this
  rw[Nat.zero_add]
  exact this
 have hs1:w1.heap.size=w.heap.size+1:=by rw[←hw1,World.size_alloc]
 rw[hs1] at hr2
 have HW1:=Hd hw1
 have HW2:=Hd hw2
 have HR2:=Hd hR2
 have HF2:=Hd hF2
 have HR1:=Hd hr2
 rw[hstr]
 clear hw1 hR hF1 hw2 hR2 hF2 hr2 hstr hs1
 go_enter Tryz.func90,Tryz.ntmps90
 go_wp2_with fail
 rw[HW1.out,HW2.out]
 have hT:=Tagged_any 0 _ 1 1 [s] w2 (hok.fr0 HF2.out) (by omega) HR1.out (by simp[joinL];omega)
 rw[show (((0:UInt8).toNat:Nat):Int)=0 from rfl] at hT
 (with_reducible refine hT.mono ?_)
 clear hT
 rintro e w3 ⟨rfl,hf3⟩
 have hl:(shaN (joinN 0 [s]))=leafN s:=rfl
 rw[hl]
 have hl32:(leafN s).length=32:=shaN_len _
 clear hl
 obtain⟨d,hd⟩:=nmd (leafN s)
 rw[hd] at hl32 ⊢
 have HL32:=Hd hl32
 have HD:=Hd hd
 clear hl32 hd
 have hR3:=rowIs_fr HR2.out hf3 (by simp)
 have hF3:=HF2.out.then hf3
 obtain⟨w4,hw4⟩:=nmd (w3.alloc (.cells z32 57))
 obtain⟨fD,hD4⟩:∃ f,w4.rowIs w3.heap.size 57 32 f:=by rw[←hw4];exact digest_new w3
 have hR4:w4.rowIs w.heap.size 57 32 fR:=by rw[←hw4];exact hR3.alloc _
 have hF4:Fr [] w w4:=by rw[←hw4];exact hF3.alloc _
 have hDR:w.heap.size≠w3.heap.size:=by have:=hR3.lt;omega
 have hDg:w.heap.size≤w3.heap.size:=hF3.size
 have hst:=store_digest (d:=d) hD4 (HL32.out)
 obtain⟨w5,hw5⟩:=nmd (w4.setCells w3.heap.size 0 (dCells (d)))
 have hrd:=row_digest (d:=d) hD4 (HL32.out)
 have hR5:w5.rowIs w.heap.size 57 32 fR:=by rw[←hw5];exact rowIs_setCells_other hDR _ _ _ hR4
 have hF5:Fr [] w w5:=by rw[←hw5];exact hF4.setCells (.inr hDg) _ _
 rw[hw5] at hst hrd
 rw[←hw4] at hst
 have hst2:=store_digest (d:=d) hR5 (HL32.out)
 have hrd2:=row_digest (d:=d) hR5 (HL32.out)
 obtain⟨w6,hw6⟩:=nmd (w5.setCells w.heap.size 0 (dCells (d)))
 have hF6:Fr [] w w6:=by rw[←hw6];exact hF5.setCells (.inr (Nat.le_refl _)) _ _
 rw[hw6] at hst2 hrd2
 have HDD:=Hd hrd.1
 have HRD:=Hd hrd2.1
 have HF6:=Hd hF6
 have HW4:=Hd hw4
 clear hR3 hF3 hD4 hR4 hF4 hw4 hw5 hw6 hrd hrd2 hR5 hF5 hF6 hf3 hDR hDg
 unfold encD
 have hcl:(dCells d).length=32:=by rw[dcells_len,HL32.out]
 have hcs:(dCells d).toArray.size=32:=by rw[dcells_size,HL32.out]
 go_wp2_with (first
  | (with_reducible refine wpList_load_mid rfl 57 (.tmp 3) rfl w3.heap.size 0 rfl (dCells d) (.array 32 5) HDD.out (by kernel_rfl) rfl (by rw[hcl];kernel_rfl) ?_))
 exact bodyPost_ret (v:=encD d) (results_cell_mid (d:=.array 32 5) (p:=2) (ty:=57) (b:=w.heap.size) (o:=0) rfl rfl HRD.out (by kernel_rfl) rfl (by rw[hcl];rfl)) rfl ⟨by rw[HD.out],HF6.out⟩
def Two (b0 b1:Nat) (l r:Nm) (W:World):Prop:=Row W W.heap.size 1 (some ⟨b0,0,none⟩) 32 (dCells l)∧Row W W.heap.size 1 (some ⟨b1,0,none⟩) 32 (dCells r)∧b0<W.heap.size∧b1<W.heap.size
theorem Two.fr {b0 b1:Nat} {l r:Nm} {S:List Nat} {W W':World} (h:Two b0 b1 l r W) (hf:Fr S W W') (h0:b0 ∉ S) (h1:b1 ∉ S):Two b0 b1 l r W' :=
 ⟨(h.1.fr hf (Nat.le_refl _) (by simpa using h0)).more hf.size,(h.2.1.fr hf (Nat.le_refl _) (by simpa using h1)).more hf.size,Nat.lt_of_lt_of_le h.2.2.1 hf.size,Nat.lt_of_lt_of_le h.2.2.2 hf.size⟩
theorem Two.alloc {b0 b1:Nat} {l r:Nm} {W:World} (h:Two b0 b1 l r W) (o:Obj):Two b0 b1 l r (W.alloc o):=h.fr (S:=[]) ((Fr.refl [] W).alloc o) (by simp) (by simp)
theorem row_cells (w:World) {d:Nm} {t:TypeId} (h:(dCells d).length=32):(w.alloc (.cells (dCells d).toArray t)).rowIs w.heap.size t 32 (fun j=>.int .u8 ((d.getD j 0).toNat:Int)):=by
 have hd:d.length=32:=by rw[dcells_len] at h;exact h
 have:=World.rowIs_alloc w (dCells d).toArray t (fun j=>.int .u8 ((d.getD j 0).toNat:Int)) (fun i hi=>by
  have hi':i<d.length:=by rw[dcells_size] at hi;exact hi
  have:=dcells_get hi'
  simpa using this)
 rw[dcells_size,hd] at this
 exact this
theorem row_of_row {w:World} {b:Nat} {t:TypeId} {d:Nm} (h:w.rowIs b t 32 (fun j=>.int .u8 ((d.getD j 0).toNat:Int))) (hd:d.length=32):Row w w.heap.size 1 (some ⟨b,0,none⟩) 32 (dCells d) :=
 ⟨by rw[dcells_len,hd],fun _=>⟨b,0,rfl,h.lt,fun j u hu=>by
  have hj:j<32:=by have:=(List.getElem?_eq_some_iff.1 hu).1;rwa [dcells_len,hd] at this
  rw[Nat.zero_add,h.cell hj,←hu,dcells_get (by omega)]⟩⟩
theorem two_mk {b0 b1:Nat} {l r:Nm} {w:World} {t t':TypeId} (h0:w.rowIs b0 t 32 (fun j=>.int .u8 ((l.getD j 0).toNat:Int))) (h1:w.rowIs b1 t' 32 (fun j=>.int .u8 ((r.getD j 0).toNat:Int))) (hl:l.length=32) (hr:r.length=32):Two b0 b1 l r w :=
 ⟨row_of_row h0 hl,row_of_row h1 hr,h0.lt,h1.lt⟩
theorem parts_row (w:World) {l r:Nm} {sl sr:ByteArray} {t:TypeId} (hl:encN l=.string sl) (hr:encN r=.string sr):Row (w.alloc (.cells #[.string sl,.string sr] t)) (w.alloc (.cells #[.string sl,.string sr] t)).heap.size 1 (some ⟨w.heap.size,0,none⟩) 2 ([l,r].map encN):=by
 refine⟨by simp,fun _=>⟨_,0,rfl,by simp,fun j u hu=>?_⟩⟩
 have:=new_cells w [.string sl,.string sr] t j u (by rw[←hl,←hr];simpa using hu)
 rw[add_mid'] at this
 rw[Nat.zero_add]
 exact this
def NodeCut (w0:World) (d:Nm) (s5:Value) (W:World):Prop:=∃ D,s5=.pointer (some ⟨D,0,none⟩)∧w0.heap.size≤D∧D<W.heap.size∧W.rangeAt D 0 (dCells d)∧Fr [] w0 W
theorem Node_any (l r:Nm) (w:World) (hok:Ok w) (hl:l.length=32) (hr:r.length=32):Calls Tryz.prog 150 #[encD l,encD r] w (SumPost w (nodeN l r)):=by
 obtain⟨sl,hsl,_,hsl2⟩:=str_of l
 obtain⟨sr,hsr,_,hsr2⟩:=str_of r
 obtain⟨w1,hw1⟩:=nmd (w.alloc (.cells (dCells l).toArray 57))
 obtain⟨w2,hw2⟩:=nmd (w1.alloc (.cells (dCells r).toArray 57))
 have hcl:(dCells l).length=32:=by rw[dcells_len,hl]
 have hcr:(dCells r).length=32:=by rw[dcells_len,hr]
 unfold encD
 go_enter Tryz.func150,Tryz.ntmps150
 go_upto_region 1 with fail
 obtain⟨w3,hw3⟩:=nmd (w2.alloc (.cells z32 57))
 rw[hw3]
 have b0:w1.rowIs w.heap.size 57 32 (fun j=>.int .u8 ((l.getD j 0).toNat:Int)):=by rw[←hw1];exact row_cells w hcl
 have b1:w2.rowIs w1.heap.size 57 32 (fun j=>.int .u8 ((r.getD j 0).toNat:Int)):=by rw[←hw2];exact row_cells w1 hcr
 obtain⟨fR,hR3⟩:∃ f,w3.rowIs w2.heap.size 57 32 f:=by rw[←hw3];exact digest_new w2
 have f1:Fr [] w w1:=by rw[←hw1];exact (Fr.refl [] w).alloc _
 have f2:Fr [] w1 w2:=by rw[←hw2];exact (Fr.refl [] w1).alloc _
 have f3:Fr [] w2 w3:=by rw[←hw3];exact (Fr.refl [] w2).alloc _
 have hT2:Two w.heap.size w1.heap.size l r w3:=two_mk (rowIs_fr (rowIs_fr b0 f2 (by simp)) f3 (by simp)) (rowIs_fr b1 f3 (by simp)) hl hr
 have hF3:Fr [] w w3:=(f1.then f2).then f3
 have hRw:w.heap.size≤w2.heap.size:=(f1.then f2).size
 have hR2:w2.heap.size<w3.heap.size:=hR3.lt
 have hnd:shaN (joinN 1 [l,r])=nodeN l r:=rfl
 have hd32:(nodeN l r).length=32:=shaN_len _
 obtain⟨d,hd⟩:=nmd (nodeN l r)
 rw[hd] at hnd hd32
 have HND:=Hd hnd
 have HD:=Hd hd
 have HD32:=Hd hd32
 have HT2:=Hd hT2
 have HF3:=Hd hF3
 have HR3:=Hd hR3
 have hok3:Ok w3:=hok.fr0 hF3
 clear hw1 hw2 hw3 b0 b1 f1 f2 f3 hnd hd hd32 hT2 hF3 hR3
 have HRW:=Hd hRw
 clear hRw
 generalize w2.heap.size=RR at HR3 HRW hR2 ⊢
 generalize w.heap.size=B0 at HT2 ⊢
 generalize w1.heap.size=B1 at HT2 ⊢
 go_cut [5] from 6 to 15 (fun s5 W=>NodeCut w3 d s5 W)
 case first =>
  refine wp_region_held_drew (S:=fun W=>Two B0 B1 l r W) (by kernel_rfl) HT2.out (fun hHeld=>?_)
  refine wpAnyH_take (i:=0) (v:=?_) rfl (by kernel_rfl) (by kernel_rfl) (by kernel_rfl) (fun _ _ _ h=>h) (Or.inl ⟨by rfl,?_⟩) (by assumption) ?_
  rotate_left
  ·intro wS hSw
   have hc0:=run_row_str (P:=Tryz.prog) hSw.1 49 5 Tryz.underlying49 Tryz.underlying5 9 Tryz.underlying9 32
   have hc1:=run_row_str (P:=Tryz.prog) hSw.2.1 49 5 Tryz.underlying49 Tryz.underlying5 9 Tryz.underlying9 32
   rw[hsl] at hc0
   rw[hsr] at hc1
   go_simp
   try with_reducible rfl
  try simp only[Act.put,qD,qE,qF,qA,qB,qC]
  refine wpAnyH_take (i:=1) (v:=?_) rfl (by kernel_rfl) (by kernel_rfl) (by kernel_rfl) (fun _ _ _ h=>h) (Or.inl ⟨by rfl,?_⟩) (by assumption) ?_
  rotate_left
  ·intro wS hSw
   have hc0:=run_row_str (P:=Tryz.prog) hSw.1 49 5 Tryz.underlying49 Tryz.underlying5 9 Tryz.underlying9 32
   have hc1:=run_row_str (P:=Tryz.prog) hSw.2.1 49 5 Tryz.underlying49 Tryz.underlying5 9 Tryz.underlying9 32
   rw[hsl] at hc0
   rw[hsr] at hc1
   go_simp
   try with_reducible rfl
  try simp only[Act.put,qD,qE,qF,qA,qB,qC]
  refine wpAnyH_take (i:=2) (v:=?_) rfl (by kernel_rfl) (by kernel_rfl) (by kernel_rfl) (fun _ _ _ h=>h) (Or.inl ⟨by rfl,?_⟩) (by assumption) ?_
  rotate_left
  ·intro wS hSw
   have hc0:=run_row_str (P:=Tryz.prog) hSw.1 49 5 Tryz.underlying49 Tryz.underlying5 9 Tryz.underlying9 32
   have hc1:=run_row_str (P:=Tryz.prog) hSw.2.1 49 5 Tryz.underlying49 Tryz.underlying5 9 Tryz.underlying9 32
   rw[hsl] at hc0
   rw[hsr] at hc1
   go_simp
   try with_reducible rfl
  try simp only[Act.put,qD,qE,qF,qA,qB,qC]
  refine wpAnyH_take (i:=3) (v:=?_) rfl (by kernel_rfl) (by kernel_rfl) (by kernel_rfl) (fun _ _ _ h=>h) (Or.inl ⟨by rfl,?_⟩) (by assumption) ?_
  rotate_left
  ·intro wS hSw
   have hc0:=run_row_str (P:=Tryz.prog) hSw.1 49 5 Tryz.underlying49 Tryz.underlying5 9 Tryz.underlying9 32
   have hc1:=run_row_str (P:=Tryz.prog) hSw.2.1 49 5 Tryz.underlying49 Tryz.underlying5 9 Tryz.underlying9 32
   rw[hsl] at hc0
   rw[hsr] at hc1
   go_simp
   try with_reducible rfl
  try simp only[Act.put,qD,qE,qF,qA,qB,qC]
  refine wpAnyH_ready (rs:=[4,9]) (by kernel_rfl) (by simp) ?_
  refine AllReadyH.cons rfl (fun K hK=>?_) (AllReadyH.cons rfl (fun K hK=>?_) AllReadyH.nil)
  ·-- an alloc has come up: its world is named
   go_simp
   refine hK.out _ _ ?_ (fun hHeld=>?_)
   ·exact hHeld.alloc _
   clear hK K
   try simp only[Act.put,qD,qE,qF,qA,qB,qC]
   obtain⟨X1,hX1⟩:=nmd ((w3.alloc (.cells #[.string sl,.string sr] 9)).drew)
   rw[hX1] at hHeld ⊢
   have hp1:Row X1 X1.heap.size 1 (some ⟨w3.heap.size,0,none⟩) 2 ([l,r].map encN):=by rw[←hX1];exact parts_row w3 hsl hsr
   have f1:Fr [] w3 X1:=by rw[←hX1];exact ((Fr.refl [] w3).alloc _).drew
   clear hX1
   refine wpAnyH_ready (rs:=[5,9]) (by kernel_rfl) (by simp) ?_
   refine AllReadyH.cons rfl (fun K hK=>?_) (AllReadyH.cons rfl (fun K hK=>?_) AllReadyH.nil)
   ·have hT:=Tagged_any 1 _ 2 2 [l,r] (X1) (hok3.fr0 f1) (by omega) (hp1) (by simp[joinL];omega)
    rw[show (((1:UInt8).toNat:Nat):Int)=1 from rfl,HND.out] at hT
    go_simp
    go_at_call 151
    (with_reducible refine hT.mono ?_)
    clear hT
    rintro e Y ⟨rfl,hfY⟩
    unfold encD
    refine hK.out _ _ (hHeld.fr hfY (by simp) (by simp)) (fun hHeld=>?_)
    clear hK K
    try simp only[Act.put,qD,qE,qF,qA,qB,qC]
    refine wpAnyH_take (i:=6) (v:=?_) rfl (by kernel_rfl) (by kernel_rfl) (by kernel_rfl) (fun _ _ _ h=>h) (Or.inl ⟨by rfl,?_⟩) (by assumption) ?_
    rotate_left
    ·intro wS hSw
     have hc0:=run_row_str (P:=Tryz.prog) hSw.1 49 5 Tryz.underlying49 Tryz.underlying5 9 Tryz.underlying9 32
     have hc1:=run_row_str (P:=Tryz.prog) hSw.2.1 49 5 Tryz.underlying49 Tryz.underlying5 9 Tryz.underlying9 32
     rw[hsl] at hc0
     rw[hsr] at hc1
     go_simp
     try with_reducible rfl
    try simp only[Act.put,qD,qE,qF,qA,qB,qC]
    refine wpAnyH_take (i:=7) (v:=?_) rfl (by kernel_rfl) (by kernel_rfl) (by kernel_rfl) (fun _ _ _ h=>h) (Or.inl ⟨by rfl,?_⟩) (by assumption) ?_
    rotate_left
    ·intro wS hSw
     have hc0:=run_row_str (P:=Tryz.prog) hSw.1 49 5 Tryz.underlying49 Tryz.underlying5 9 Tryz.underlying9 32
     have hc1:=run_row_str (P:=Tryz.prog) hSw.2.1 49 5 Tryz.underlying49 Tryz.underlying5 9 Tryz.underlying9 32
     rw[hsl] at hc0
     rw[hsr] at hc1
     go_simp
     try with_reducible rfl
    try simp only[Act.put,qD,qE,qF,qA,qB,qC]
    refine wpAnyH_take (i:=8) (v:=?_) rfl (by kernel_rfl) (by kernel_rfl) (by kernel_rfl) (fun _ _ _ h=>h) (Or.inl ⟨by rfl,?_⟩) (by assumption) ?_
    rotate_left
    ·intro wS hSw
     have hc0:=run_row_str (P:=Tryz.prog) hSw.1 49 5 Tryz.underlying49 Tryz.underlying5 9 Tryz.underlying9 32
     have hc1:=run_row_str (P:=Tryz.prog) hSw.2.1 49 5 Tryz.underlying49 Tryz.underlying5 9 Tryz.underlying9 32
     rw[hsl] at hc0
     rw[hsr] at hc1
     go_simp
     try with_reducible rfl
    try simp only[Act.put,qD,qE,qF,qA,qB,qC]
    have fY:=f1.then hfY
    refine wpAnyH_ready (rs:=[9]) (by kernel_rfl) (by simp) ?_
    refine AllReadyH.cons rfl (fun K hK=>?_) AllReadyH.nil
    go_simp
    refine hK.out _ _ ?_ (fun hHeld=>?_)
    ·exact hHeld.alloc _
    clear hK K
    try simp only[Act.put,qD,qE,qF,qA,qB,qC]
    obtain⟨X2,hX2⟩:=nmd (Y.alloc (.cells z32 57))
    rw[hX2] at hHeld ⊢
    obtain⟨fD,hDr⟩:∃ f,X2.rowIs Y.heap.size 57 32 f:=by rw[←hX2];exact digest_new Y
    have hFX:Fr [] w3 X2:=by rw[←hX2];exact fY.alloc _
    have hDg:w3.heap.size≤Y.heap.size:=fY.size
    have hBD:B0≠Y.heap.size∧B1≠Y.heap.size:=by have:=HT2.out.2.2;omega
    clear hX2
    refine wpAnyH_ready (rs:=[10]) (by kernel_rfl) (by simp) ?_
    refine AllReadyH.cons rfl (fun K hK=>?_) AllReadyH.nil
    rw[if_pos (by rfl)]
    have hcs:(dCells d).toArray.size=32:=by rw[dcells_size,HD32.out]
    refine wp_store_mid 57 (.tmp 5) (.tmp 14) rfl (Y.heap.size) 0 (dCells d).toArray rfl rfl (by rw[hcs];exact there_row hDr (by omega)) (by rw[hcs];kernel_rfl) (all_oneCell_toArray (dcells_one d)) ?_
    rw[show (dCells d).toArray.toList=dCells d from rfl]
    have hrd:=row_digest (d:=d) hDr HD32.out
    have hfr:Fr [] w3 ((X2).setCells (Y.heap.size) 0 (dCells d)):=hFX.setCells (.inr hDg) _ _
    have hsz:(X2).heap.size=((X2).setCells (Y.heap.size) 0 (dCells d)).heap.size:=(size_setCells _ _ _ _).symm
    have hlt:=hDr.lt
    have h0:=hHeld.2.2.1
    have hTw:Two B0 B1 l r ((X2).setCells (Y.heap.size) 0 (dCells d)):=hHeld.fr ((Fr.refl [Y.heap.size] (X2)).setCells (by simp) _ _) (by simpa using hBD.1) (by simpa using hBD.2)
    obtain⟨XX,hXX⟩:=nmd ((X2).setCells (Y.heap.size) 0 (dCells d))
    rw[hXX] at hrd hfr hsz hTw ⊢
    clear hHeld
    refine hK.out _ _ hTw (fun hHeld=>?_)
    clear hK K hXX
    try simp only[Act.put,qD,qE,qF,qA,qB,qC]
    refine wpAnyH_take (i:=11) (v:=?_) rfl (by kernel_rfl) (by kernel_rfl) (by kernel_rfl) (fun _ _ _ h=>h) (Or.inl ⟨by rfl,?_⟩) (by assumption) ?_
    rotate_left
    ·intro wS hSw
     have hc0:=run_row_str (P:=Tryz.prog) hSw.1 49 5 Tryz.underlying49 Tryz.underlying5 9 Tryz.underlying9 32
     have hc1:=run_row_str (P:=Tryz.prog) hSw.2.1 49 5 Tryz.underlying49 Tryz.underlying5 9 Tryz.underlying9 32
     rw[hsl] at hc0
     rw[hsr] at hc1
     go_simp
     try with_reducible rfl
    try simp only[Act.put,qD,qE,qF,qA,qB,qC]
    refine wpAnyH_done (by kernel_rfl) ?_ _
    go_wp2_with fail
    go_meet
    exact⟨_,rfl,hDg,by omega,hrd.1,hfr⟩
   ·-- an alloc has come up: its world is named
    go_simp
    refine hK.out _ _ ?_ (fun hHeld=>?_)
    ·exact hHeld.alloc _
    clear hK K
    try simp only[Act.put,qD,qE,qF,qA,qB,qC]
    obtain⟨X2,hX2⟩:=nmd (X1.alloc (.cells z32 57))
    rw[hX2] at hHeld ⊢
    obtain⟨fD,hD2⟩:∃ f,X2.rowIs X1.heap.size 57 32 f:=by rw[←hX2];exact digest_new X1
    have f2:Fr [] X1 X2:=by rw[←hX2];exact (Fr.refl [] X1).alloc _
    have hp2:=(hp1.fr f2 (Nat.le_refl _) (by simp)).more f2.size
    clear hX2
    refine wpAnyH_ready (rs:=[5]) (by kernel_rfl) (by simp) ?_
    refine AllReadyH.cons rfl (fun K hK=>?_) AllReadyH.nil
    have hT:=Tagged_any 1 _ 2 2 [l,r] (X2) (hok3.fr0 (f1.then f2)) (by omega) (hp2) (by simp[joinL];omega)
    rw[show (((1:UInt8).toNat:Nat):Int)=1 from rfl,HND.out] at hT
    go_simp
    go_at_call 151
    (with_reducible refine hT.mono ?_)
    clear hT
    rintro e Y ⟨rfl,hfY⟩
    unfold encD
    refine hK.out _ _ (hHeld.fr hfY (by simp) (by simp)) (fun hHeld=>?_)
    clear hK K
    try simp only[Act.put,qD,qE,qF,qA,qB,qC]
    refine wpAnyH_take (i:=6) (v:=?_) rfl (by kernel_rfl) (by kernel_rfl) (by kernel_rfl) (fun _ _ _ h=>h) (Or.inl ⟨by rfl,?_⟩) (by assumption) ?_
    rotate_left
    ·intro wS hSw
     have hc0:=run_row_str (P:=Tryz.prog) hSw.1 49 5 Tryz.underlying49 Tryz.underlying5 9 Tryz.underlying9 32
     have hc1:=run_row_str (P:=Tryz.prog) hSw.2.1 49 5 Tryz.underlying49 Tryz.underlying5 9 Tryz.underlying9 32
     rw[hsl] at hc0
     rw[hsr] at hc1
     go_simp
     try with_reducible rfl
    try simp only[Act.put,qD,qE,qF,qA,qB,qC]
    refine wpAnyH_take (i:=7) (v:=?_) rfl (by kernel_rfl) (by kernel_rfl) (by kernel_rfl) (fun _ _ _ h=>h) (Or.inl ⟨by rfl,?_⟩) (by assumption) ?_
    rotate_left
    ·intro wS hSw
     have hc0:=run_row_str (P:=Tryz.prog) hSw.1 49 5 Tryz.underlying49 Tryz.underlying5 9 Tryz.underlying9 32
     have hc1:=run_row_str (P:=Tryz.prog) hSw.2.1 49 5 Tryz.underlying49 Tryz.underlying5 9 Tryz.underlying9 32
     rw[hsl] at hc0
     rw[hsr] at hc1
     go_simp
     try with_reducible rfl
    try simp only[Act.put,qD,qE,qF,qA,qB,qC]
    refine wpAnyH_take (i:=8) (v:=?_) rfl (by kernel_rfl) (by kernel_rfl) (by kernel_rfl) (fun _ _ _ h=>h) (Or.inl ⟨by rfl,?_⟩) (by assumption) ?_
    rotate_left
    ·intro wS hSw
     have hc0:=run_row_str (P:=Tryz.prog) hSw.1 49 5 Tryz.underlying49 Tryz.underlying5 9 Tryz.underlying9 32
     have hc1:=run_row_str (P:=Tryz.prog) hSw.2.1 49 5 Tryz.underlying49 Tryz.underlying5 9 Tryz.underlying9 32
     rw[hsl] at hc0
     rw[hsr] at hc1
     go_simp
     try with_reducible rfl
    try simp only[Act.put,qD,qE,qF,qA,qB,qC]
    have hDr:=rowIs_fr hD2 hfY (by simp)
    have hFX:Fr [] w3 Y:=(f1.then f2).then hfY
    have hDg:w3.heap.size≤X1.heap.size:=f1.size
    have hBD:B0≠X1.heap.size∧B1≠X1.heap.size:=by have:=HT2.out.2.2;omega
    refine wpAnyH_ready (rs:=[10]) (by kernel_rfl) (by simp) ?_
    refine AllReadyH.cons rfl (fun K hK=>?_) AllReadyH.nil
    rw[if_pos (by rfl)]
    have hcs:(dCells d).toArray.size=32:=by rw[dcells_size,HD32.out]
    refine wp_store_mid 57 (.tmp 5) (.tmp 14) rfl (X1.heap.size) 0 (dCells d).toArray rfl rfl (by rw[hcs];exact there_row hDr (by omega)) (by rw[hcs];kernel_rfl) (all_oneCell_toArray (dcells_one d)) ?_
    rw[show (dCells d).toArray.toList=dCells d from rfl]
    have hrd:=row_digest (d:=d) hDr HD32.out
    have hfr:Fr [] w3 ((Y).setCells (X1.heap.size) 0 (dCells d)):=hFX.setCells (.inr hDg) _ _
    have hsz:(Y).heap.size=((Y).setCells (X1.heap.size) 0 (dCells d)).heap.size:=(size_setCells _ _ _ _).symm
    have hlt:=hDr.lt
    have h0:=hHeld.2.2.1
    have hTw:Two B0 B1 l r ((Y).setCells (X1.heap.size) 0 (dCells d)):=hHeld.fr ((Fr.refl [X1.heap.size] (Y)).setCells (by simp) _ _) (by simpa using hBD.1) (by simpa using hBD.2)
    obtain⟨XX,hXX⟩:=nmd ((Y).setCells (X1.heap.size) 0 (dCells d))
    rw[hXX] at hrd hfr hsz hTw ⊢
    clear hHeld
    refine hK.out _ _ hTw (fun hHeld=>?_)
    clear hK K hXX
    try simp only[Act.put,qD,qE,qF,qA,qB,qC]
    refine wpAnyH_take (i:=11) (v:=?_) rfl (by kernel_rfl) (by kernel_rfl) (by kernel_rfl) (fun _ _ _ h=>h) (Or.inl ⟨by rfl,?_⟩) (by assumption) ?_
    rotate_left
    ·intro wS hSw
     have hc0:=run_row_str (P:=Tryz.prog) hSw.1 49 5 Tryz.underlying49 Tryz.underlying5 9 Tryz.underlying9 32
     have hc1:=run_row_str (P:=Tryz.prog) hSw.2.1 49 5 Tryz.underlying49 Tryz.underlying5 9 Tryz.underlying9 32
     rw[hsl] at hc0
     rw[hsr] at hc1
     go_simp
     try with_reducible rfl
    try simp only[Act.put,qD,qE,qF,qA,qB,qC]
    refine wpAnyH_done (by kernel_rfl) ?_ _
    go_wp2_with fail
    go_meet
    exact⟨_,rfl,hDg,by omega,hrd.1,hfr⟩
  ·-- an alloc has come up: its world is named
   go_simp
   refine hK.out _ _ ?_ (fun hHeld=>?_)
   ·exact hHeld.alloc _
   clear hK K
   try simp only[Act.put,qD,qE,qF,qA,qB,qC]
   obtain⟨X1,hX1⟩:=nmd ((w3.alloc (.cells z32 57)).drew)
   rw[hX1] at hHeld ⊢
   obtain⟨fD,hD1⟩:∃ f,X1.rowIs w3.heap.size 57 32 f:=by rw[←hX1];obtain⟨f,hf⟩:=digest_new w3;exact⟨f,hf.drew⟩
   have f1:Fr [] w3 X1:=by rw[←hX1];exact ((Fr.refl [] w3).alloc _).drew
   clear hX1
   refine wpAnyH_ready (rs:=[4]) (by kernel_rfl) (by simp) ?_
   refine AllReadyH.cons rfl (fun K hK=>?_) AllReadyH.nil
   go_simp
   refine hK.out _ _ ?_ (fun hHeld=>?_)
   ·exact hHeld.alloc _
   clear hK K
   try simp only[Act.put,qD,qE,qF,qA,qB,qC]
   obtain⟨X2,hX2⟩:=nmd (X1.alloc (.cells #[.string sl,.string sr] 9))
   rw[hX2] at hHeld ⊢
   have hp2:Row X2 X2.heap.size 1 (some ⟨X1.heap.size,0,none⟩) 2 ([l,r].map encN):=by rw[←hX2];exact parts_row X1 hsl hsr
   have f2:Fr [] X1 X2:=by rw[←hX2];exact (Fr.refl [] X1).alloc _
   clear hX2
   refine wpAnyH_ready (rs:=[5]) (by kernel_rfl) (by simp) ?_
   refine AllReadyH.cons rfl (fun K hK=>?_) AllReadyH.nil
   have hT:=Tagged_any 1 _ 2 2 [l,r] (X2) (hok3.fr0 (f1.then f2)) (by omega) (hp2) (by simp[joinL];omega)
   rw[show (((1:UInt8).toNat:Nat):Int)=1 from rfl,HND.out] at hT
   go_simp
   go_at_call 151
   (with_reducible refine hT.mono ?_)
   clear hT
   rintro e Y ⟨rfl,hfY⟩
   unfold encD
   refine hK.out _ _ (hHeld.fr hfY (by simp) (by simp)) (fun hHeld=>?_)
   clear hK K
   try simp only[Act.put,qD,qE,qF,qA,qB,qC]
   refine wpAnyH_take (i:=6) (v:=?_) rfl (by kernel_rfl) (by kernel_rfl) (by kernel_rfl) (fun _ _ _ h=>h) (Or.inl ⟨by rfl,?_⟩) (by assumption) ?_
   rotate_left
   ·intro wS hSw
    have hc0:=run_row_str (P:=Tryz.prog) hSw.1 49 5 Tryz.underlying49 Tryz.underlying5 9 Tryz.underlying9 32
    have hc1:=run_row_str (P:=Tryz.prog) hSw.2.1 49 5 Tryz.underlying49 Tryz.underlying5 9 Tryz.underlying9 32
    rw[hsl] at hc0
    rw[hsr] at hc1
    go_simp
    try with_reducible rfl
   try simp only[Act.put,qD,qE,qF,qA,qB,qC]
   refine wpAnyH_take (i:=7) (v:=?_) rfl (by kernel_rfl) (by kernel_rfl) (by kernel_rfl) (fun _ _ _ h=>h) (Or.inl ⟨by rfl,?_⟩) (by assumption) ?_
   rotate_left
   ·intro wS hSw
    have hc0:=run_row_str (P:=Tryz.prog) hSw.1 49 5 Tryz.underlying49 Tryz.underlying5 9 Tryz.underlying9 32
    have hc1:=run_row_str (P:=Tryz.prog) hSw.2.1 49 5 Tryz.underlying49 Tryz.underlying5 9 Tryz.underlying9 32
    rw[hsl] at hc0
    rw[hsr] at hc1
    go_simp
    try with_reducible rfl
   try simp only[Act.put,qD,qE,qF,qA,qB,qC]
   refine wpAnyH_take (i:=8) (v:=?_) rfl (by kernel_rfl) (by kernel_rfl) (by kernel_rfl) (fun _ _ _ h=>h) (Or.inl ⟨by rfl,?_⟩) (by assumption) ?_
   rotate_left
   ·intro wS hSw
    have hc0:=run_row_str (P:=Tryz.prog) hSw.1 49 5 Tryz.underlying49 Tryz.underlying5 9 Tryz.underlying9 32
    have hc1:=run_row_str (P:=Tryz.prog) hSw.2.1 49 5 Tryz.underlying49 Tryz.underlying5 9 Tryz.underlying9 32
    rw[hsl] at hc0
    rw[hsr] at hc1
    go_simp
    try with_reducible rfl
   try simp only[Act.put,qD,qE,qF,qA,qB,qC]
   have hDr:=rowIs_fr hD1 (f2.then hfY) (by simp)
   have hFX:Fr [] w3 Y:=(f1.then f2).then hfY
   have hDg:w3.heap.size≤w3.heap.size:=Nat.le_refl _
   have hBD:B0≠w3.heap.size∧B1≠w3.heap.size:=by have:=HT2.out.2.2;omega
   refine wpAnyH_ready (rs:=[10]) (by kernel_rfl) (by simp) ?_
   refine AllReadyH.cons rfl (fun K hK=>?_) AllReadyH.nil
   rw[if_pos (by rfl)]
   have hcs:(dCells d).toArray.size=32:=by rw[dcells_size,HD32.out]
   refine wp_store_mid 57 (.tmp 5) (.tmp 14) rfl (w3.heap.size) 0 (dCells d).toArray rfl rfl (by rw[hcs];exact there_row hDr (by omega)) (by rw[hcs];kernel_rfl) (all_oneCell_toArray (dcells_one d)) ?_
   rw[show (dCells d).toArray.toList=dCells d from rfl]
   have hrd:=row_digest (d:=d) hDr HD32.out
   have hfr:Fr [] w3 ((Y).setCells (w3.heap.size) 0 (dCells d)):=hFX.setCells (.inr hDg) _ _
   have hsz:(Y).heap.size=((Y).setCells (w3.heap.size) 0 (dCells d)).heap.size:=(size_setCells _ _ _ _).symm
   have hlt:=hDr.lt
   have h0:=hHeld.2.2.1
   have hTw:Two B0 B1 l r ((Y).setCells (w3.heap.size) 0 (dCells d)):=hHeld.fr ((Fr.refl [w3.heap.size] (Y)).setCells (by simp) _ _) (by simpa using hBD.1) (by simpa using hBD.2)
   obtain⟨XX,hXX⟩:=nmd ((Y).setCells (w3.heap.size) 0 (dCells d))
   rw[hXX] at hrd hfr hsz hTw ⊢
   clear hHeld
   refine hK.out _ _ hTw (fun hHeld=>?_)
   clear hK K hXX
   try simp only[Act.put,qD,qE,qF,qA,qB,qC]
   refine wpAnyH_take (i:=11) (v:=?_) rfl (by kernel_rfl) (by kernel_rfl) (by kernel_rfl) (fun _ _ _ h=>h) (Or.inl ⟨by rfl,?_⟩) (by assumption) ?_
   rotate_left
   ·intro wS hSw
    have hc0:=run_row_str (P:=Tryz.prog) hSw.1 49 5 Tryz.underlying49 Tryz.underlying5 9 Tryz.underlying9 32
    have hc1:=run_row_str (P:=Tryz.prog) hSw.2.1 49 5 Tryz.underlying49 Tryz.underlying5 9 Tryz.underlying9 32
    rw[hsl] at hc0
    rw[hsr] at hc1
    go_simp
    try with_reducible rfl
   try simp only[Act.put,qD,qE,qF,qA,qB,qC]
   refine wpAnyH_done (by kernel_rfl) ?_ _
   go_wp2_with fail
   go_meet
   exact⟨_,rfl,hDg,by omega,hrd.1,hfr⟩
 case rest =>
  obtain⟨D,rfl,hDg,hDlt,hdr,hf⟩:=hcut
  have hRc:=rowIs_fr HR3.out hf (by simp)
  have hst2:=store_digest (d:=d) hRc HD32.out
  have hrd2:=row_digest (d:=d) hRc HD32.out
  obtain⟨w6,hw6⟩:=nmd (wc.setCells RR 0 (dCells d))
  have hF6:Fr [] w w6:=by rw[←hw6];exact (HF3.out.then hf).setCells (.inr HRW.out) _ _
  rw[hw6] at hst2 hrd2
  have HDD:=Hd hdr
  have HRD:=Hd hrd2.1
  have HF6:=Hd hF6
  have hcl:(dCells d).length=32:=by rw[dcells_len,HD32.out]
  have hcs:(dCells d).toArray.size=32:=by rw[dcells_size,HD32.out]
  clear hRc hrd2 hw6 hF6 hdr hf
  go_wp2_with (first
   | (with_reducible refine wpList_load_mid rfl 57 (.tmp 5) rfl D 0 rfl (dCells d) (.array 32 5) HDD.out (by kernel_rfl) rfl (by rw[hcl];kernel_rfl) ?_))
  exact bodyPost_ret (v:=encD d) (results_cell_mid (d:=.array 32 5) (p:=4) (ty:=57) (b:=RR) (o:=0) rfl rfl HRD.out (by kernel_rfl) rfl (by rw[hcl];rfl)) rfl ⟨by rw[HD.out],HF6.out⟩
end Go.Proofs.YtlpmiimgacfmkaaGreatDoor
