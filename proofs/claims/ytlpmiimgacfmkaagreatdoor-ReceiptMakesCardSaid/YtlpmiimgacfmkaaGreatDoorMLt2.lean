/- logtree: Node, Empty. -/
import Derived.Deep.RegionHeld3
import Derived.Deep.Cut
import Derived.Test.YtlpmiimgacfmkaaGreatDoorMJoi
import Derived.Test.YtlpmiimgacfmkaaGreatDoorMRf1
import Derived.Test.YtlpmiimgacfmkaaGreatDoorMGj
set_option linter.all false
namespace Go.Proofs.YtlpmiimgacfmkaaGreatDoor
open Go.Proofs.Tryz
open Go.RowKit
set_option maxRecDepth 100000
set_option maxHeartbeats 4000000
def Two (b0 b1:Nat) (l r:Nm) (W:World):Prop:=Row W W.heap.size 1 (some ⟨b0,0,none⟩) 32 (dCells l)/\Row W W.heap.size 1 (some ⟨b1,0,none⟩) 32 (dCells r)/\b0<W.heap.size/\b1<W.heap.size
theorem Two.fr {b0 b1:Nat} {l r:Nm} {S:List Nat} {W W':World} (h:Two b0 b1 l r W) (hf:Fr S W W') (h0:b0 ∉ S) (h1:b1 ∉ S):Two b0 b1 l r W' :=
 ⟨(h.1.fr hf (nlr _) (by simpa using h0)).more hf.size,(h.2.1.fr hf (nlr _) (by simpa using h1)).more hf.size,Nat.lt_of_lt_of_le h.2.2.1 hf.size,Nat.lt_of_lt_of_le h.2.2.2 hf.size⟩
theorem Two.alloc {b0 b1:Nat} {l r:Nm} {W:World} (h:Two b0 b1 l r W) (o:Obj):Two b0 b1 l r (W.alloc o):=h.fr (S:=[]) ((Fq [] W).alloc o) (by simp) (by simp)
theorem row_cells (w:World) {d:Nm} {t:TypeId} (h:(dCells d).length=32):(w.alloc (.cells (dCells d).toArray t)).rowIs w.heap.size t 32 (fun j=>.int .u8 ((d.getD j 0).toNat:Int)):=by
 have hd:d.length=32:=by rw[dcells_len] at h;exact h
 have:=World.rowIs_alloc w (dCells d).toArray t (fun j=>.int .u8 ((d.getD j 0).toNat:Int)) (fun i hi=>by
  have hi':i<d.length:=by rw[dcells_size] at hi;exact hi
  have:=dcells_get hi';simpa using this)
 rw[dcells_size,hd] at this;exact this
theorem row_of_row {w:World} {b:Nat} {t:TypeId} {d:Nm} (h:w.rowIs b t 32 (fun j=>.int .u8 ((d.getD j 0).toNat:Int))) (hd:d.length=32):Row w w.heap.size 1 (some ⟨b,0,none⟩) 32 (dCells d) :=
 ⟨by rw[dcells_len,hd],fun _=>⟨b,0,rfl,h.lt,fun j u hu=>by
  have hj:j<32:=by have:=(lgs.1 hu).1;rwa [dcells_len,hd] at this
  rw[Nat.zero_add,h.cell hj,<-hu,dcells_get (by omega)]⟩⟩
theorem two_mk {b0 b1:Nat} {l r:Nm} {w:World} {t t':TypeId} (h0:w.rowIs b0 t 32 (fun j=>.int .u8 ((l.getD j 0).toNat:Int))) (h1:w.rowIs b1 t' 32 (fun j=>.int .u8 ((r.getD j 0).toNat:Int))) (hl:l.length=32) (hr:r.length=32):Two b0 b1 l r w :=
 ⟨row_of_row h0 hl,row_of_row h1 hr,h0.lt,h1.lt⟩
theorem parts_row (w:World) {l r:Nm} {sl sr:ByteArray} {t:TypeId} (hl:encN l=.string sl) (hr:encN r=.string sr):Row (w.alloc (.cells #[.string sl,.string sr] t)) (w.alloc (.cells #[.string sl,.string sr] t)).heap.size 1 (some ⟨w.heap.size,0,none⟩) 2 ([l,r].map encN):=by
 refine⟨by simp,fun _=>⟨_,0,rfl,by simp,fun j u hu=>?_⟩⟩;have:=new_cells w [.string sl,.string sr] t j u (by rw[<-hl,<-hr];simpa using hu);rw[add_mid'] at this;rw[Nat.zero_add];exact this
def NodeCut (w0:World) (d:Nm) (s5:Value) (W:World):Prop:=∃ D,s5=.pointer (some ⟨D,0,none⟩)/\w0.heap.size<=D/\D<W.heap.size/\W.rangeAt D 0 (dCells d)/\Fr [] w0 W
theorem Node_any (l r:Nm) (w:World) (hok:Ok w) (hl:l.length=32) (hr:r.length=32):Calls prog 150 #[encD l,encD r] w (SumPost w (nodeN l r)):=by
 obtain⟨sl,hsl,_,hsl2⟩:=str_of l;obtain⟨sr,hsr,_,hsr2⟩:=str_of r;obtain⟨w1,hw1⟩:=nmd (w.alloc (.cells (dCells l).toArray 57));obtain⟨w2,hw2⟩:=nmd (w1.alloc (.cells (dCells r).toArray 57));have hcl:(dCells l).length=32:=by rw[dcells_len,hl]
 have hcr:(dCells r).length=32:=by rw[dcells_len,hr]
 unfold encD
 go_enter func150,ntmps150
 go_upto_region 1 with fail
 obtain⟨w3,hw3⟩:=nmd (w2.alloc (.cells z32 57));rw[hw3];have b0:w1.rowIs w.heap.size 57 32 (fun j=>.int .u8 ((l.getD j 0).toNat:Int)):=by rw[<-hw1];exact row_cells w hcl
 have b1:w2.rowIs w1.heap.size 57 32 (fun j=>.int .u8 ((r.getD j 0).toNat:Int)):=by rw[<-hw2];exact row_cells w1 hcr
 obtain⟨fR,hR3⟩:∃ f,w3.rowIs w2.heap.size 57 32 f:=by rw[<-hw3];exact digest_new w2
 have f1:Fr [] w w1:=by rw[<-hw1];exact (Fq [] w).alloc _
 have f2:Fr [] w1 w2:=by rw[<-hw2];exact (Fq [] w1).alloc _
 have f3:Fr [] w2 w3:=by rw[<-hw3];exact (Fq [] w2).alloc _
 have hT2:Two w.heap.size w1.heap.size l r w3:=two_mk (rowIs_fr (rowIs_fr b0 f2 (by simp)) f3 (by simp)) (rowIs_fr b1 f3 (by simp)) hl hr;have hF3:Fr [] w w3:=(f1.then f2).then f3;have hRw:w.heap.size<=w2.heap.size:=(f1.then f2).size;have hR2:w2.heap.size<w3.heap.size:=hR3.lt;have hnd:shaN (joinN 1 [l,r])=nodeN l r:=rfl;have hd32:(nodeN l r).length=32:=shaN_len _;obtain⟨d,hd⟩:=nmd (nodeN l r);rw[hd] at hnd hd32;have HND:=Hd hnd;have HD:=Hd hd;have HD32:=Hd hd32;have HT2:=Hd hT2;have HF3:=Hd hF3;have HR3:=Hd hR3;have hok3:Ok w3:=hok.fr0 hF3;clear hw1 hw2 hw3 b0 b1 f1 f2 f3 hnd hd hd32 hT2 hF3 hR3;have HRW:=Hd hRw;clear hRw;generalize w2.heap.size=RR at HR3 HRW hR2 ⊢;generalize w.heap.size=B0 at HT2 ⊢;generalize w1.heap.size=B1 at HT2 ⊢
 go_cut [5] from 6 to 15 (fun s5 W=>NodeCut w3 d s5 W)
 case first =>
  refine wp_region_held_drew (S:=fun W=>Two B0 B1 l r W) (by kernel_rfl) HT2.out (fun hHeld=>?_);refine wpAnyH_take (i:=0) (v:=?_) rfl (by kernel_rfl) (by kernel_rfl) (by kernel_rfl) (fun _ _ _ h=>h) (Or.inl ⟨by rfl,?_⟩) (by assumption) ?_
  rotate_left
  ·intro wS hSw
   have hc0:=run_row_str (P:=prog) hSw.1 49 5 underlying49 underlying5 9 underlying9 32;have hc1:=run_row_str (P:=prog) hSw.2.1 49 5 underlying49 underlying5 9 underlying9 32;rw[hsl] at hc0;rw[hsr] at hc1;go_simp
   try with_reducible rfl
  try simp only[Act.put,qD,qE,qF,qA,qB,qC]
  refine wpAnyH_take (i:=1) (v:=?_) rfl (by kernel_rfl) (by kernel_rfl) (by kernel_rfl) (fun _ _ _ h=>h) (Or.inl ⟨by rfl,?_⟩) (by assumption) ?_
  rotate_left
  ·intro wS hSw
   have hc0:=run_row_str (P:=prog) hSw.1 49 5 underlying49 underlying5 9 underlying9 32;have hc1:=run_row_str (P:=prog) hSw.2.1 49 5 underlying49 underlying5 9 underlying9 32;rw[hsl] at hc0;rw[hsr] at hc1;go_simp
   try with_reducible rfl
  try simp only[Act.put,qD,qE,qF,qA,qB,qC]
  refine wpAnyH_take (i:=2) (v:=?_) rfl (by kernel_rfl) (by kernel_rfl) (by kernel_rfl) (fun _ _ _ h=>h) (Or.inl ⟨by rfl,?_⟩) (by assumption) ?_
  rotate_left
  ·intro wS hSw
   have hc0:=run_row_str (P:=prog) hSw.1 49 5 underlying49 underlying5 9 underlying9 32;have hc1:=run_row_str (P:=prog) hSw.2.1 49 5 underlying49 underlying5 9 underlying9 32;rw[hsl] at hc0;rw[hsr] at hc1;go_simp
   try with_reducible rfl
  try simp only[Act.put,qD,qE,qF,qA,qB,qC]
  refine wpAnyH_take (i:=3) (v:=?_) rfl (by kernel_rfl) (by kernel_rfl) (by kernel_rfl) (fun _ _ _ h=>h) (Or.inl ⟨by rfl,?_⟩) (by assumption) ?_
  rotate_left
  ·intro wS hSw
   have hc0:=run_row_str (P:=prog) hSw.1 49 5 underlying49 underlying5 9 underlying9 32;have hc1:=run_row_str (P:=prog) hSw.2.1 49 5 underlying49 underlying5 9 underlying9 32;rw[hsl] at hc0;rw[hsr] at hc1;go_simp
   try with_reducible rfl
  try simp only[Act.put,qD,qE,qF,qA,qB,qC]
  refine wpAnyH_ready (rs:=[4,9]) (by kernel_rfl) (by simp) ?_;refine AllReadyH.cons rfl (fun K hK=>?_) (AllReadyH.cons rfl (fun K hK=>?_) AllReadyH.nil)
  ·-- an alloc has come up: its world is named
   go_simp
   refine hK.out _ _ ?_ (fun hHeld=>?_)
   ·exact hHeld.alloc _
   clear hK K
   try simp only[Act.put,qD,qE,qF,qA,qB,qC]
   obtain⟨X1,hX1⟩:=nmd ((w3.alloc (.cells #[.string sl,.string sr] 9)).drew);rw[hX1] at hHeld ⊢;have hp1:Row X1 X1.heap.size 1 (some ⟨w3.heap.size,0,none⟩) 2 ([l,r].map encN):=by rw[<-hX1];exact parts_row w3 hsl hsr
   have f1:Fr [] w3 X1:=by rw[<-hX1];exact ((Fq [] w3).alloc _).drew
   clear hX1;refine wpAnyH_ready (rs:=[5,9]) (by kernel_rfl) (by simp) ?_;refine AllReadyH.cons rfl (fun K hK=>?_) (AllReadyH.cons rfl (fun K hK=>?_) AllReadyH.nil)
   ·have hT:=Tagged_any 1 _ 2 2 [l,r] (X1) (hok3.fr0 f1) (by omega) (hp1) (by simp[joinL];omega)
    rw[show (((1:UInt8).toNat:Nat):Int)=1 from rfl,HND.out] at hT;go_simp
    go_at_call 151
    (with_reducible refine hT.mono ?_);clear hT;rintro e Y ⟨rfl,hfY⟩;unfold encD;refine hK.out _ _ (hHeld.fr hfY (by simp) (by simp)) (fun hHeld=>?_);clear hK K
    try simp only[Act.put,qD,qE,qF,qA,qB,qC]
    refine wpAnyH_take (i:=6) (v:=?_) rfl (by kernel_rfl) (by kernel_rfl) (by kernel_rfl) (fun _ _ _ h=>h) (Or.inl ⟨by rfl,?_⟩) (by assumption) ?_
    rotate_left
    ·intro wS hSw
     have hc0:=run_row_str (P:=prog) hSw.1 49 5 underlying49 underlying5 9 underlying9 32;have hc1:=run_row_str (P:=prog) hSw.2.1 49 5 underlying49 underlying5 9 underlying9 32;rw[hsl] at hc0;rw[hsr] at hc1;go_simp
     try with_reducible rfl
    try simp only[Act.put,qD,qE,qF,qA,qB,qC]
    refine wpAnyH_take (i:=7) (v:=?_) rfl (by kernel_rfl) (by kernel_rfl) (by kernel_rfl) (fun _ _ _ h=>h) (Or.inl ⟨by rfl,?_⟩) (by assumption) ?_
    rotate_left
    ·intro wS hSw
     have hc0:=run_row_str (P:=prog) hSw.1 49 5 underlying49 underlying5 9 underlying9 32;have hc1:=run_row_str (P:=prog) hSw.2.1 49 5 underlying49 underlying5 9 underlying9 32;rw[hsl] at hc0;rw[hsr] at hc1;go_simp
     try with_reducible rfl
    try simp only[Act.put,qD,qE,qF,qA,qB,qC]
    refine wpAnyH_take (i:=8) (v:=?_) rfl (by kernel_rfl) (by kernel_rfl) (by kernel_rfl) (fun _ _ _ h=>h) (Or.inl ⟨by rfl,?_⟩) (by assumption) ?_
    rotate_left
    ·intro wS hSw
     have hc0:=run_row_str (P:=prog) hSw.1 49 5 underlying49 underlying5 9 underlying9 32;have hc1:=run_row_str (P:=prog) hSw.2.1 49 5 underlying49 underlying5 9 underlying9 32;rw[hsl] at hc0;rw[hsr] at hc1;go_simp
     try with_reducible rfl
    try simp only[Act.put,qD,qE,qF,qA,qB,qC]
    have fY:=f1.then hfY;refine wpAnyH_ready (rs:=[9]) (by kernel_rfl) (by simp) ?_;refine AllReadyH.cons rfl (fun K hK=>?_) AllReadyH.nil;go_simp
    refine hK.out _ _ ?_ (fun hHeld=>?_)
    ·exact hHeld.alloc _
    clear hK K
    try simp only[Act.put,qD,qE,qF,qA,qB,qC]
    obtain⟨X2,hX2⟩:=nmd (Y.alloc (.cells z32 57));rw[hX2] at hHeld ⊢;obtain⟨fD,hDr⟩:∃ f,X2.rowIs Y.heap.size 57 32 f:=by rw[<-hX2];exact digest_new Y
    have hFX:Fr [] w3 X2:=by rw[<-hX2];exact fY.alloc _
    have hDg:w3.heap.size<=Y.heap.size:=fY.size;have hBD:B0≠Y.heap.size/\B1≠Y.heap.size:=by have:=HT2.out.2.2;omega
    clear hX2;refine wpAnyH_ready (rs:=[10]) (by kernel_rfl) (by simp) ?_;refine AllReadyH.cons rfl (fun K hK=>?_) AllReadyH.nil;rw[if_pos (by rfl)];have hcs:(dCells d).toArray.size=32:=by rw[dcells_size,HD32.out]
    refine wp_store_mid 57 (.tmp 5) (.tmp 14) rfl (Y.heap.size) 0 (dCells d).toArray rfl rfl (by rw[hcs];exact there_row hDr (by omega)) (by rw[hcs];kernel_rfl) (all_oneCell_toArray (dcells_one d)) ?_;rw[show (dCells d).toArray.toList=dCells d from rfl];have hrd:=row_digest (d:=d) hDr HD32.out;have hfr:Fr [] w3 ((X2).setCells (Y.heap.size) 0 (dCells d)):=hFX.setCells (.inr hDg) _ _;have hsz:(X2).heap.size=((X2).setCells (Y.heap.size) 0 (dCells d)).heap.size:=(size_setCells _ _ _ _).symm;have hlt:=hDr.lt;have h0:=hHeld.2.2.1;have hTw:Two B0 B1 l r ((X2).setCells (Y.heap.size) 0 (dCells d)):=hHeld.fr ((Fq [Y.heap.size] (X2)).setCells (by simp) _ _) (by simpa using hBD.1) (by simpa using hBD.2);obtain⟨XX,hXX⟩:=nmd ((X2).setCells (Y.heap.size) 0 (dCells d));rw[hXX] at hrd hfr hsz hTw ⊢;clear hHeld;refine hK.out _ _ hTw (fun hHeld=>?_);clear hK K hXX
    try simp only[Act.put,qD,qE,qF,qA,qB,qC]
    refine wpAnyH_take (i:=11) (v:=?_) rfl (by kernel_rfl) (by kernel_rfl) (by kernel_rfl) (fun _ _ _ h=>h) (Or.inl ⟨by rfl,?_⟩) (by assumption) ?_
    rotate_left
    ·intro wS hSw
     have hc0:=run_row_str (P:=prog) hSw.1 49 5 underlying49 underlying5 9 underlying9 32;have hc1:=run_row_str (P:=prog) hSw.2.1 49 5 underlying49 underlying5 9 underlying9 32;rw[hsl] at hc0;rw[hsr] at hc1;go_simp
     try with_reducible rfl
    try simp only[Act.put,qD,qE,qF,qA,qB,qC]
    refine wpAnyH_done (by kernel_rfl) ?_ _
    go_wp2_with fail
    go_meet
    exact⟨_,rfl,hDg,by omega,hrd.1,hfr⟩
   ·-- an alloc has come up: its world is named
    go_simp
    refine hK.out _ _ ?_ (fun hHeld=>?_)
    ·exact hHeld.alloc _
    clear hK K
    try simp only[Act.put,qD,qE,qF,qA,qB,qC]
    obtain⟨X2,hX2⟩:=nmd (X1.alloc (.cells z32 57));rw[hX2] at hHeld ⊢;obtain⟨fD,hD2⟩:∃ f,X2.rowIs X1.heap.size 57 32 f:=by rw[<-hX2];exact digest_new X1
    have f2:Fr [] X1 X2:=by rw[<-hX2];exact (Fq [] X1).alloc _
    have hp2:=(hp1.fr f2 (nlr _) (by simp)).more f2.size;clear hX2;refine wpAnyH_ready (rs:=[5]) (by kernel_rfl) (by simp) ?_;refine AllReadyH.cons rfl (fun K hK=>?_) AllReadyH.nil;have hT:=Tagged_any 1 _ 2 2 [l,r] (X2) (hok3.fr0 (f1.then f2)) (by omega) (hp2) (by simp[joinL];omega);rw[show (((1:UInt8).toNat:Nat):Int)=1 from rfl,HND.out] at hT;go_simp
    go_at_call 151
    (with_reducible refine hT.mono ?_);clear hT;rintro e Y ⟨rfl,hfY⟩;unfold encD;refine hK.out _ _ (hHeld.fr hfY (by simp) (by simp)) (fun hHeld=>?_);clear hK K
    try simp only[Act.put,qD,qE,qF,qA,qB,qC]
    refine wpAnyH_take (i:=6) (v:=?_) rfl (by kernel_rfl) (by kernel_rfl) (by kernel_rfl) (fun _ _ _ h=>h) (Or.inl ⟨by rfl,?_⟩) (by assumption) ?_
    rotate_left
    ·intro wS hSw
     have hc0:=run_row_str (P:=prog) hSw.1 49 5 underlying49 underlying5 9 underlying9 32;have hc1:=run_row_str (P:=prog) hSw.2.1 49 5 underlying49 underlying5 9 underlying9 32;rw[hsl] at hc0;rw[hsr] at hc1;go_simp
     try with_reducible rfl
    try simp only[Act.put,qD,qE,qF,qA,qB,qC]
    refine wpAnyH_take (i:=7) (v:=?_) rfl (by kernel_rfl) (by kernel_rfl) (by kernel_rfl) (fun _ _ _ h=>h) (Or.inl ⟨by rfl,?_⟩) (by assumption) ?_
    rotate_left
    ·intro wS hSw
     have hc0:=run_row_str (P:=prog) hSw.1 49 5 underlying49 underlying5 9 underlying9 32;have hc1:=run_row_str (P:=prog) hSw.2.1 49 5 underlying49 underlying5 9 underlying9 32;rw[hsl] at hc0;rw[hsr] at hc1;go_simp
     try with_reducible rfl
    try simp only[Act.put,qD,qE,qF,qA,qB,qC]
    refine wpAnyH_take (i:=8) (v:=?_) rfl (by kernel_rfl) (by kernel_rfl) (by kernel_rfl) (fun _ _ _ h=>h) (Or.inl ⟨by rfl,?_⟩) (by assumption) ?_
    rotate_left
    ·intro wS hSw
     have hc0:=run_row_str (P:=prog) hSw.1 49 5 underlying49 underlying5 9 underlying9 32;have hc1:=run_row_str (P:=prog) hSw.2.1 49 5 underlying49 underlying5 9 underlying9 32;rw[hsl] at hc0;rw[hsr] at hc1;go_simp
     try with_reducible rfl
    try simp only[Act.put,qD,qE,qF,qA,qB,qC]
    have hDr:=rowIs_fr hD2 hfY (by simp);have hFX:Fr [] w3 Y:=(f1.then f2).then hfY;have hDg:w3.heap.size<=X1.heap.size:=f1.size;have hBD:B0≠X1.heap.size/\B1≠X1.heap.size:=by have:=HT2.out.2.2;omega
    refine wpAnyH_ready (rs:=[10]) (by kernel_rfl) (by simp) ?_;refine AllReadyH.cons rfl (fun K hK=>?_) AllReadyH.nil;rw[if_pos (by rfl)];have hcs:(dCells d).toArray.size=32:=by rw[dcells_size,HD32.out]
    refine wp_store_mid 57 (.tmp 5) (.tmp 14) rfl (X1.heap.size) 0 (dCells d).toArray rfl rfl (by rw[hcs];exact there_row hDr (by omega)) (by rw[hcs];kernel_rfl) (all_oneCell_toArray (dcells_one d)) ?_;rw[show (dCells d).toArray.toList=dCells d from rfl];have hrd:=row_digest (d:=d) hDr HD32.out;have hfr:Fr [] w3 ((Y).setCells (X1.heap.size) 0 (dCells d)):=hFX.setCells (.inr hDg) _ _;have hsz:(Y).heap.size=((Y).setCells (X1.heap.size) 0 (dCells d)).heap.size:=(size_setCells _ _ _ _).symm;have hlt:=hDr.lt;have h0:=hHeld.2.2.1;have hTw:Two B0 B1 l r ((Y).setCells (X1.heap.size) 0 (dCells d)):=hHeld.fr ((Fq [X1.heap.size] (Y)).setCells (by simp) _ _) (by simpa using hBD.1) (by simpa using hBD.2);obtain⟨XX,hXX⟩:=nmd ((Y).setCells (X1.heap.size) 0 (dCells d));rw[hXX] at hrd hfr hsz hTw ⊢;clear hHeld;refine hK.out _ _ hTw (fun hHeld=>?_);clear hK K hXX
    try simp only[Act.put,qD,qE,qF,qA,qB,qC]
    refine wpAnyH_take (i:=11) (v:=?_) rfl (by kernel_rfl) (by kernel_rfl) (by kernel_rfl) (fun _ _ _ h=>h) (Or.inl ⟨by rfl,?_⟩) (by assumption) ?_
    rotate_left
    ·intro wS hSw
     have hc0:=run_row_str (P:=prog) hSw.1 49 5 underlying49 underlying5 9 underlying9 32;have hc1:=run_row_str (P:=prog) hSw.2.1 49 5 underlying49 underlying5 9 underlying9 32;rw[hsl] at hc0;rw[hsr] at hc1;go_simp
     try with_reducible rfl
    try simp only[Act.put,qD,qE,qF,qA,qB,qC]
    refine wpAnyH_done (by kernel_rfl) ?_ _
    go_wp2_with fail
    go_meet
    exact⟨_,rfl,hDg,by omega,hrd.1,hfr⟩
  ·-- an alloc has come up: its world is named
   go_simp
   refine hK.out _ _ ?_ (fun hHeld=>?_)
   ·exact hHeld.alloc _
   clear hK K
   try simp only[Act.put,qD,qE,qF,qA,qB,qC]
   obtain⟨X1,hX1⟩:=nmd ((w3.alloc (.cells z32 57)).drew);rw[hX1] at hHeld ⊢;obtain⟨fD,hD1⟩:∃ f,X1.rowIs w3.heap.size 57 32 f:=by rw[<-hX1];obtain⟨f,hf⟩:=digest_new w3;exact⟨f,hf.drew⟩
   have f1:Fr [] w3 X1:=by rw[<-hX1];exact ((Fq [] w3).alloc _).drew
   clear hX1;refine wpAnyH_ready (rs:=[4]) (by kernel_rfl) (by simp) ?_;refine AllReadyH.cons rfl (fun K hK=>?_) AllReadyH.nil;go_simp
   refine hK.out _ _ ?_ (fun hHeld=>?_)
   ·exact hHeld.alloc _
   clear hK K
   try simp only[Act.put,qD,qE,qF,qA,qB,qC]
   obtain⟨X2,hX2⟩:=nmd (X1.alloc (.cells #[.string sl,.string sr] 9));rw[hX2] at hHeld ⊢;have hp2:Row X2 X2.heap.size 1 (some ⟨X1.heap.size,0,none⟩) 2 ([l,r].map encN):=by rw[<-hX2];exact parts_row X1 hsl hsr
   have f2:Fr [] X1 X2:=by rw[<-hX2];exact (Fq [] X1).alloc _
   clear hX2;refine wpAnyH_ready (rs:=[5]) (by kernel_rfl) (by simp) ?_;refine AllReadyH.cons rfl (fun K hK=>?_) AllReadyH.nil;have hT:=Tagged_any 1 _ 2 2 [l,r] (X2) (hok3.fr0 (f1.then f2)) (by omega) (hp2) (by simp[joinL];omega);rw[show (((1:UInt8).toNat:Nat):Int)=1 from rfl,HND.out] at hT;go_simp
   go_at_call 151
   (with_reducible refine hT.mono ?_);clear hT;rintro e Y ⟨rfl,hfY⟩;unfold encD;refine hK.out _ _ (hHeld.fr hfY (by simp) (by simp)) (fun hHeld=>?_);clear hK K
   try simp only[Act.put,qD,qE,qF,qA,qB,qC]
   refine wpAnyH_take (i:=6) (v:=?_) rfl (by kernel_rfl) (by kernel_rfl) (by kernel_rfl) (fun _ _ _ h=>h) (Or.inl ⟨by rfl,?_⟩) (by assumption) ?_
   rotate_left
   ·intro wS hSw
    have hc0:=run_row_str (P:=prog) hSw.1 49 5 underlying49 underlying5 9 underlying9 32;have hc1:=run_row_str (P:=prog) hSw.2.1 49 5 underlying49 underlying5 9 underlying9 32;rw[hsl] at hc0;rw[hsr] at hc1;go_simp
    try with_reducible rfl
   try simp only[Act.put,qD,qE,qF,qA,qB,qC]
   refine wpAnyH_take (i:=7) (v:=?_) rfl (by kernel_rfl) (by kernel_rfl) (by kernel_rfl) (fun _ _ _ h=>h) (Or.inl ⟨by rfl,?_⟩) (by assumption) ?_
   rotate_left
   ·intro wS hSw
    have hc0:=run_row_str (P:=prog) hSw.1 49 5 underlying49 underlying5 9 underlying9 32;have hc1:=run_row_str (P:=prog) hSw.2.1 49 5 underlying49 underlying5 9 underlying9 32;rw[hsl] at hc0;rw[hsr] at hc1;go_simp
    try with_reducible rfl
   try simp only[Act.put,qD,qE,qF,qA,qB,qC]
   refine wpAnyH_take (i:=8) (v:=?_) rfl (by kernel_rfl) (by kernel_rfl) (by kernel_rfl) (fun _ _ _ h=>h) (Or.inl ⟨by rfl,?_⟩) (by assumption) ?_
   rotate_left
   ·intro wS hSw
    have hc0:=run_row_str (P:=prog) hSw.1 49 5 underlying49 underlying5 9 underlying9 32;have hc1:=run_row_str (P:=prog) hSw.2.1 49 5 underlying49 underlying5 9 underlying9 32;rw[hsl] at hc0;rw[hsr] at hc1;go_simp
    try with_reducible rfl
   try simp only[Act.put,qD,qE,qF,qA,qB,qC]
   have hDr:=rowIs_fr hD1 (f2.then hfY) (by simp);have hFX:Fr [] w3 Y:=(f1.then f2).then hfY;have hDg:w3.heap.size<=w3.heap.size:=nlr _;have hBD:B0≠w3.heap.size/\B1≠w3.heap.size:=by have:=HT2.out.2.2;omega
   refine wpAnyH_ready (rs:=[10]) (by kernel_rfl) (by simp) ?_;refine AllReadyH.cons rfl (fun K hK=>?_) AllReadyH.nil;rw[if_pos (by rfl)];have hcs:(dCells d).toArray.size=32:=by rw[dcells_size,HD32.out]
   refine wp_store_mid 57 (.tmp 5) (.tmp 14) rfl (w3.heap.size) 0 (dCells d).toArray rfl rfl (by rw[hcs];exact there_row hDr (by omega)) (by rw[hcs];kernel_rfl) (all_oneCell_toArray (dcells_one d)) ?_;rw[show (dCells d).toArray.toList=dCells d from rfl];have hrd:=row_digest (d:=d) hDr HD32.out;have hfr:Fr [] w3 ((Y).setCells (w3.heap.size) 0 (dCells d)):=hFX.setCells (.inr hDg) _ _;have hsz:(Y).heap.size=((Y).setCells (w3.heap.size) 0 (dCells d)).heap.size:=(size_setCells _ _ _ _).symm;have hlt:=hDr.lt;have h0:=hHeld.2.2.1;have hTw:Two B0 B1 l r ((Y).setCells (w3.heap.size) 0 (dCells d)):=hHeld.fr ((Fq [w3.heap.size] (Y)).setCells (by simp) _ _) (by simpa using hBD.1) (by simpa using hBD.2);obtain⟨XX,hXX⟩:=nmd ((Y).setCells (w3.heap.size) 0 (dCells d));rw[hXX] at hrd hfr hsz hTw ⊢;clear hHeld;refine hK.out _ _ hTw (fun hHeld=>?_);clear hK K hXX
   try simp only[Act.put,qD,qE,qF,qA,qB,qC]
   refine wpAnyH_take (i:=11) (v:=?_) rfl (by kernel_rfl) (by kernel_rfl) (by kernel_rfl) (fun _ _ _ h=>h) (Or.inl ⟨by rfl,?_⟩) (by assumption) ?_
   rotate_left
   ·intro wS hSw
    have hc0:=run_row_str (P:=prog) hSw.1 49 5 underlying49 underlying5 9 underlying9 32;have hc1:=run_row_str (P:=prog) hSw.2.1 49 5 underlying49 underlying5 9 underlying9 32;rw[hsl] at hc0;rw[hsr] at hc1;go_simp
    try with_reducible rfl
   try simp only[Act.put,qD,qE,qF,qA,qB,qC]
   refine wpAnyH_done (by kernel_rfl) ?_ _
   go_wp2_with fail
   go_meet
   exact⟨_,rfl,hDg,by omega,hrd.1,hfr⟩
 case rest =>
  obtain⟨D,rfl,hDg,hDlt,hdr,hf⟩:=hcut;have hRc:=rowIs_fr HR3.out hf (by simp);have hst2:=store_digest (d:=d) hRc HD32.out;have hrd2:=row_digest (d:=d) hRc HD32.out;obtain⟨w6,hw6⟩:=nmd (wc.setCells RR 0 (dCells d));have hF6:Fr [] w w6:=by rw[<-hw6];exact (HF3.out.then hf).setCells (.inr HRW.out) _ _
  rw[hw6] at hst2 hrd2;have HDD:=Hd hdr;have HRD:=Hd hrd2.1;have HF6:=Hd hF6;have hcl:(dCells d).length=32:=by rw[dcells_len,HD32.out]
  have hcs:(dCells d).toArray.size=32:=by rw[dcells_size,HD32.out]
  clear hRc hrd2 hw6 hF6 hdr hf
  go_wp2_with (first
   | (with_reducible refine wpList_load_mid rfl 57 (.tmp 5) rfl D 0 rfl (dCells d) (.array 32 5) HDD.out (by kernel_rfl) rfl (by rw[hcl];kernel_rfl) ?_))
  exact bodyPost_ret (v:=encD d) (results_cell_mid (d:=.array 32 5) (p:=4) (ty:=57) (b:=RR) (o:=0) rfl rfl HRD.out (by kernel_rfl) rfl (by rw[hcl];rfl)) rfl ⟨by rw[HD.out],HF6.out⟩
theorem info_dig:∃ i,(prog).info? 57=some i/\i.zero=some (.agg (#[.int .u8 0,.int .u8 0,.int .u8 0,.int .u8 0,.int .u8 0,.int .u8 0,.int .u8 0,.int .u8 0,.int .u8 0,.int .u8 0,.int .u8 0,.int .u8 0,.int .u8 0,.int .u8 0,.int .u8 0,.int .u8 0,.int .u8 0,.int .u8 0,.int .u8 0,.int .u8 0,.int .u8 0,.int .u8 0,.int .u8 0,.int .u8 0,.int .u8 0,.int .u8 0,.int .u8 0,.int .u8 0,.int .u8 0,.int .u8 0,.int .u8 0,.int .u8 0]))/\i.size=32/\i.bytes=32:=info_parts (by kernel_rfl)
theorem run_makeMap (w:World) (t:TypeId):(Instr.makeMap t none).run prog w=.ok (.map (some w.heap.size)) (w.alloc (.map #[] 0)):=by simp[Instr.makeMap,Result.andThen]
theorem fold_set (l:List Value):∀ (k:Nat) (z:Array Value),k+l.length<=z.size->∀ i,((l.zipIdx k).foldl (fun cs x=>cs.setIfInBounds x.2 x.1) z)[i]?=if k<=i/\i<k+l.length then l[i - k]? else z[i]?:=by
 induction l with
 | nil =>
  intro k z _ i;simp only[List.zipIdx_nil,List.foldl_nil,List.length_nil]
  rw[if_neg (by omega)]
 | cons x l ih =>
  intro k z hz i;simp only[List.length_cons] at hz;rw[List.zipIdx_cons,List.foldl_cons,ih (k+1) _ (by simp;omega)];simp only[List.length_cons]
  by_cases h1:k+1<=i/\i<k+1+l.length
  ·rw[if_pos h1,if_pos (by omega),show i - k=(i - (k+1))+1 by omega,List.getElem?_cons_succ]
  ·rw[if_neg h1]
   by_cases h2:i=k
   ·subst h2
    rw[if_pos (by omega),Nat.sub_self,List.getElem?_cons_zero,Array.getElem?_setIfInBounds_self_of_lt (by omega)]
   ·rw[if_neg (by omega),Array.getElem?_setIfInBounds_ne (by omega)]
theorem fold_zero {d:Nm} {z:Array Value} (hz:z.size=32) (hd:d.length=32):(List.foldl (fun cs x=>cs.setIfInBounds x.snd x.fst) z (dCells d).zipIdx)=(dCells d).toArray:=by
 have hcl:(dCells d).length=32:=by rw[dcells_len,hd]
 apply Array.ext_getElem?
 intro i;rw[fold_set (dCells d) 0 z (by omega) i];simp only[Nat.zero_add,Nat.zero_le,true_and,Nat.sub_zero,List.getElem?_toArray];split
 ·rfl
 ·rw[Array.getElem?_eq_none (by omega),List.getElem?_eq_none (by omega)]
theorem flat_snoc (ds:List Nm) (d:Nm):(ds++[d]).flatMap dCells=ds.flatMap dCells++dCells d:=by simp
def TreeM (w:World) (b:Nat) (ds:List Nm) (kvs:List (Value × Value)) (F:List Nat):Prop:=∃ A c r,TreeIs w b A c (some r) ds kvs/\F=b::(blk A++(some r).toList)
theorem TreeM.at_ {w:World} {b:Nat} {ds:List Nm} {kvs:List (Value × Value)} {F:List Nat} (h:TreeM w b ds kvs F):TreeAt w b ds kvs F:=by
 obtain⟨A,c,r,h1,h2⟩:=h;exact⟨A,c,some r,h1,h2⟩
theorem TreeM.fr {w w':World} {b:Nat} {ds:List Nm} {kvs:List (Value × Value)} {F S:List Nat} (h:TreeM w b ds kvs F) (hf:Fr S w w') (hS:∀ k∈F,k ∉ S):TreeM w' b ds kvs F:=by
 obtain⟨A,c,r,h1,rfl⟩:=h;exact⟨A,c,r,h1.fr hf hS,rfl⟩
theorem TreeM.lt {w:World} {b:Nat} {ds:List Nm} {kvs:List (Value × Value)} {F:List Nat} (h:TreeM w b ds kvs F):∀ k∈F,k<w.heap.size:=by
 obtain⟨A,c,r,h1,rfl⟩:=h;intro k hk
 rcases List.mem_cons.1 hk with h | h
 ·rw[h];exact h1.box.lt
 ·rcases List.mem_append.1 h with h | h
  ·exact h1.own.lt k h
  ·have:k=r:=by simpa using h
   rw[this];exact (h1.ms r rfl).1.lt
theorem Append_0 (b:Nat) (d:Nm) (w:World) (h:TreeIs w b none 0 none [] []) (hd32:d.length=32):Calls prog 89 #[.pointer (some ⟨b,0,none⟩),encD d] w fun e w'=>e=.returned (.int .i64 0)/\∃ F',TreeM w' b [d] [] F'/\Fr [b] w w'/\∀ k∈F',k=b \/ w.heap.size<=k:=by
 have hcl:(dCells d).length=32:=by rw[dcells_len,hd32]
 have hcs:(dCells d).toArray.size=32:=by rw[dcells_size,hd32]
 have hbx:=h.box;have hbl:=hbx.lt;have x0:=hbx.k0;unfold encD;obtain⟨w1,hw1⟩:=nmd (w.alloc (.cells (dCells d).toArray 57));have hL1:w1.rowIs w.heap.size 57 32 (fun j=>.int .u8 ((d.getD j 0).toNat:Int)):=by rw[<-hw1];exact row_cells w hcl
 have hf1:Fr [] w w1:=by rw[<-hw1];exact (Fq [] w).alloc _
 have hb1:=hbx.fr hf1 (by simp);obtain⟨y0,y1⟩:=hb1.m2;have g1:=hb1.f 1;have HW1:=Hd hw1;have HB1:=Hd hb1;have HF1:=Hd hf1;have HL1:=Hd hL1;clear hw1 hb1 hf1 hL1 hbx h x0
 go_enter func89,ntmps89
 go_upto_region 1 with fail
 rw[HW1.out];have qT:∀ (w:World) (r:Option Nat),(binOp .eql 235 (.map r) (.map none)).run prog w=.ok (.bool r.isNone) w:=fun w r=>run_eql_map_nil w _ _ _ r underlying235;have hb1a:=HB1.out.alloc (.map #[] 0);have y1a:=hb1a.k1;have g1a:=hb1a.f 1;have qM:=run_makeMap w1 235
 go_upto_region 7 with fail
 obtain⟨w2,hw2⟩:=nmd (w1.alloc (.map #[] 0));have hm2:MapIs prog 270 w2 w1.heap.size []:=by rw[<-hw2];exact MapIs.new w1
 have hf2:Fr [] w1 w2:=by rw[<-hw2];exact (Fq [] w1).alloc _
 obtain⟨w3,hw3⟩:=nmd (w2.setCell ⟨b,1,none⟩ (.map (some w1.heap.size)));have hf3:Fr [b] w2 w3:=by rw[<-hw3];exact (Fq [b] w2).set (.inl (by simp)) _
 have hb3:BoxN w3 b 237 #[.slice none 0 0,.map (some w1.heap.size)]:=by rw[<-hw3];exact (HB1.out.fr hf2 (by simp)).setAt 1 _
 have hmb:w1.heap.size≠b:=by have:=HF1.out.size;omega
 have hm3:=hm2.fr hf3 (by simpa using hmb);rw[hw2,hw3];have u0:=hb3.k0;have hf13:=HF1.out.then hf2;have hf03:Fr [b] w w3:=(hf13.mono (by simp)).then hf3;have HL3:=Hd (rowIs_fr (rowIs_fr HL1.out hf2 (by simp)) hf3 (by simp;omega));have HB3:=Hd hb3;have HM3:=Hd (An hm3 hmb);have HF3:=Hd hf03;clear hw2 hm2 hf2 hw3 hf3 hb3 hm3 hf13 hf03 y0 y1 g1 y1a g1a hb1a qM HB1 HL1
 go_upto_region 8 with fail
 obtain⟨w4,hw4,hp4,hf34⟩:=bxn w3 #[.int .i64 0,.int .i64 0] 270;rw[hw4];have hcb:(w4.drew).cell? ⟨b,0,none⟩=some (.slice none 0 0):=(HB3.out.fr hf34 (by simp)).c 0;have hL4:=rowIs_fr HL3.out hf34 (by simp);have HBW:=Hd (HB3.out.fr hf34 (by simp));have HOW:Hid (Own w4 57 32 none 0 0 []):=Hd (Own.nil _ _ _);have hnb:b ∉ blk none:=by simp[blk]
 have hlb:w.heap.size ∉ blk none:=by simp[blk]
 have hrng:∀ X:World,X.rowIs w.heap.size 57 32 (fun j=>.int .u8 ((d.getD j 0).toNat:Int))->X.rangeAt w.heap.size 0 (dCells d):=fun X hr j v hv=>by
  rw[Nat.zero_add];have hj:j<32:=by have:=(lgs.1 hv).1;rw[hcl] at this;exact this
  rw[hr.cell hj,<-hv,dcells_get (by omega)]
 have hC:(fun X:World=>X.cell? ⟨b,0,none⟩=some (.slice none 0 0)/\X.rangeAt w.heap.size 0 (dCells d)) w4.drew:=⟨hcb,hrng _ hL4.drew⟩;have HSS:=Hd (fun (X:World) (hX:X.cell? ⟨b,0,none⟩=some (.slice none 0 0)/\X.rangeAt w.heap.size 0 (dCells d))=>An hX.1 trivial);refine wp_region_head (fun X:World=>X.cell? ⟨b,0,none⟩=some (.slice none 0 0)/\X.rangeAt w.heap.size 0 (dCells d)) 10 (by kernel_rfl) ?_ (by decide)
 show headJ 0 _ _ _ _ _ _ _ _ _ _ _
 iterate 5
  refine hdJ (v:=?_) rfl (Or.inl ⟨by rfl,?_⟩) ?_
  rotate_left
  ·intro W hW;obtain⟨z0,_⟩:=HSS.out W hW;go_simp;try with_reducible rfl
  try simp only[Act.put,qA,qB,qC,qD,qE,qF]
 refine headI_take (i:=5) (v:=.agg (dCells d).toArray) (by kernel_rfl) head_done rfl (by decide) (by kernel_rfl) (fun _ _ _ h=>h) (yieldsIf_load_mid (by rfl) 57 (.tmp 3) rfl w.heap.size (0) rfl (dCells d) (.array 32 5) (fun X hX=>hX.2) (by kernel_rfl) rfl (by rw[hcl];kernel_rfl)) (by assumption) ?_
 try simp only[Act.put,qA,qB,qC,qD,qE,qF]
 refine hO (i:=6) rfl fun K hK=>?_;go_simp
 rw[fold_zero (by rfl) hd32];obtain⟨X5,hX5,n5,f5⟩:=bxd w4 (dCells d).toArray 57;have hC5:X5.cell? ⟨b,0,none⟩=some (.slice none 0 0)/\X5.rangeAt w.heap.size 0 (dCells d):=⟨(HBW.out.fr f5 (by simp)).c 0,hrng _ (rowIs_fr hL4 f5 (by simp))⟩;rw[hX5];refine hK _ _ hC5 ?_;clear hK K hX5
 try simp only[Act.put,qA,qB,qC,qD,qE,qF]
 refine hO (i:=7) rfl fun K hK=>?_;obtain⟨ii,hii,iz0,iz1,iz2⟩:=info_dig;have HO5:=Hd (HOW.out.fr f5 (by simp));refine wp_app (.tmp 37) (.tmp 39) 51 rfl 57 ii _ 32 32 underlying51 hii iz0 iz1 iz2 rfl (by decide) none 0 0 ([]) rfl HO5.out ⟨w4.heap.size,0,none⟩ 1 1 (dCells d) rfl (by rw[hcl]) (fun j u hu=>by rw[add_mid',n5.c j];simpa using hu) (dcells_one d) (by unfold maxLen;omega) (by omega) ?_;intro A' c' X6 ho6 hf6 hA6;rw[show (0+1:Nat)=1 from rfl] at ho6 ⊢;have hC6:X6.cell? ⟨b,0,none⟩=some (.slice none 0 0)/\X6.rangeAt w.heap.size 0 (dCells d):=⟨((HBW.out.fr f5 (by simp)).fr hf6 hnb).c 0,hrng _ (rowIs_fr (rowIs_fr hL4 f5 (by simp)) hf6 hlb)⟩;refine hK _ _ hC6 ?_;clear hK K hC hC5
 try simp only[Act.put,qA,qB,qC,qD,qE,qF]
 show headJ 8 _ _ _ _ _ _ _ _ _ _ _
 iterate 2
  refine hdJ (v:=?_) rfl (Or.inl ⟨by rfl,?_⟩) ?_
  rotate_left
  ·intro W hW;obtain⟨z0,_⟩:=HSS.out W hW;go_simp;try with_reducible rfl
  try simp only[Act.put,qA,qB,qC,qD,qE,qF]
 refine headI_done ⟨by kernel_rfl,?_⟩;simp only[qG,qH];have hb6:=(HBW.out.fr f5 (by simp)).fr hf6 hnb;have e0:=hb6.k0;have e1:=hb6.f 0;obtain⟨X7,hX7⟩:=nmd (X6.setCell ⟨b,0,none⟩ (.slice A' 1 c'));have f67:Fr [b] X6 X7:=by rw[<-hX7];exact (Fq [b] X6).set (.inl (by simp)) _
 have hb7:=hb6.setAt 0 (.slice A' 1 c')
 have hbA:b ∉ blk A':=by
  intro hm
  rcases hA6 b hm with h | h
  ·exact hnb h
  ·have:=HBW.out.lt;have:=f5.size;omega
 have ho7:Own X7 57 32 A' 1 c' (([])++dCells d):=ho6.fr f67 (by intro k hk;simp only[lms];rintro rfl;exact hbA hk);have f47:Fr (b::blk none) w4 X7:=((f5.mono (by simp)).trans (hf6.mono (T:=b::blk none) (by intro x hx;exact .inl (by simp[hx]))) (fun x hx=>.inl hx)).trans f67 (by simp);rw[hX7] at hb7;have HB7:=Hd hb7;have HO7:=Hd ho7;have HF47:=Hd f47;have HA7:=Hd (An hbA (fun k hk=>(hA6 k hk).imp id (fun h=>Nat.le_trans f5.size h)));clear hb6 f67 hb7 ho7 f47 hbA ho6 hf6 hA6 hC6 HO5 f5 n5 HSS hrng;have hP:w3.heap.size ∉ b::blk none:=by have:=HF3.out.size;simp[blk];omega
 have hp7:=hp4.fr HF47.out hP;have q1:=hp7.k1
 go_wp2_with fail
 try rw[hX7]
 refine wp_loop_rounds 1 ?_;rw[rounds_succ]
 go_wp2_with fail
 go_ret
 have hfin:Fr [b] w X7:=(HF3.out.then (hf34.mono (by simp))).then (HF47.out.mono (by simp[blk]));have hm7:=(HM3.out.1.fr hf34 (by simp)).fr HF47.out (by simp[blk];omega);refine⟨rfl,b::(blk A'++(some w1.heap.size).toList),⟨A',c',w1.heap.size,⟨HB7.out,by simpa using HO7.out,by simpa using hd32,HA7.out.1,by simp,fun r hr=>?_⟩,rfl⟩,hfin,fun k hk=>?_⟩
 ·injection hr with hr
  subst hr;refine⟨hm7,hmb,fun hm=>?_⟩
  rcases HA7.out.2 _ hm with h | h
  ·simp[blk] at h
  ·have h1:=HM3.out.1.lt;have h2:=hf34.size;omega
 ·rcases List.mem_cons.1 hk with h | h
  ·exact .inl h
  ·rcases List.mem_append.1 h with h | h
   ·rcases HA7.out.2 _ h with h2 | h2
    ·simp[blk] at h2
    ·right;have:=HF3.out.size;have:=hf34.size;omega
   ·right
    have:k=w1.heap.size:=by simpa using h
    have:=HF1.out.size;omega
theorem row_range {X:World} {L:Nat} {t:TypeId} {d:Nm} (hr:X.rowIs L t 32 (fun j=>.int .u8 ((d.getD j 0).toNat:Int))) (hd:d.length=32):X.rangeAt L 0 (dCells d):=fun j v hv=>by
 rw[Nat.zero_add];have hj:j<32:=by have:=(lgs.1 hv).1;rw[dcells_len,hd] at this;exact this
 rw[hr.cell hj,<-hv,dcells_get (by omega)]
theorem new_dig (W:World) (d:Nm) (hd:d.length=32):∃ Y,(storeCells ⟨W.heap.size,0,none⟩ (dCells d)).run prog (W.alloc (.cells (#[.int .u8 0,.int .u8 0,.int .u8 0,.int .u8 0,.int .u8 0,.int .u8 0,.int .u8 0,.int .u8 0,.int .u8 0,.int .u8 0,.int .u8 0,.int .u8 0,.int .u8 0,.int .u8 0,.int .u8 0,.int .u8 0,.int .u8 0,.int .u8 0,.int .u8 0,.int .u8 0,.int .u8 0,.int .u8 0,.int .u8 0,.int .u8 0,.int .u8 0,.int .u8 0,.int .u8 0,.int .u8 0,.int .u8 0,.int .u8 0,.int .u8 0,.int .u8 0]) 57))=.ok () Y/\Fr [] W Y/\Y.rowIs W.heap.size 57 32 (fun j=>.int .u8 ((d.getD j 0).toNat:Int)):=by
 obtain⟨f,hf⟩:=digest_new W;exact⟨_,store_digest hf hd,((Fq [] W).alloc _).setCells (.inr (nlr _)) _ _,(row_digest hf hd).2⟩
end Go.Proofs.YtlpmiimgacfmkaaGreatDoor
