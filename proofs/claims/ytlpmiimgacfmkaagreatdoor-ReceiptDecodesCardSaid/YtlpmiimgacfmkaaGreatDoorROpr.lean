/- The arguments of ReceiptErrors opened; what the listed variables give: Ok. -/
import Derived.ProofKit
import Derived.OpenShut
import Derived.LaidMore
import Derived.Lib.LaidTab
import Derived.Stop.Joined
import Derived.Stop.LaidErr
import Derived.ChangeMaps5
import Derived.Shelf.Vars
import Derived.Deep.DeepHandedRow
import Derived.Lib.SmallJoins
import Derived.Test.YtlpmiimgacfmkaaGreatDoorRCmp6
import Derived.Test.YtlpmiimgacfmkaaGreatDoorRPlain1
import Derived.Test.YtlpmiimgacfmkaaGreatDoorRows
set_option linter.all false
namespace Go.Proofs.YtlpmiimgacfmkaaGreatDoor
open Go.RowKit Go.ChangeShapes Go.WideShapes Go.Deep Go.Joins
set_option maxRecDepth 100000
theorem exists_list {α:Type} (p:Nat→α→Prop):∀ n,(∀ i,i<n→∃ x,p i x)→∃ l:List α,l.length=n∧∀ i x,l[i]?=some x→p i x
 | 0,_=>⟨[],rfl,fun i x h=>by simp at h⟩
 | n+1,h=>by
  obtain⟨l,hl,hp⟩:=exists_list p n (fun i hi=>h i (by omega))
  obtain⟨x,hx⟩:=h n (by omega)
  refine⟨l++[x],by simp[hl],fun i y hy=>?_⟩
  rcases Nat.lt_or_ge i n with hi | hi
  ·rw[List.getElem?_append_left (by omega)] at hy
   exact hp i y hy
  ·rw[List.getElem?_append_right (by omega)] at hy
   have:i=n:=by
    have:=(List.getElem?_eq_some_iff.1 hy).1
    simp at this
    omega
   subst this
   rw[hl,Nat.sub_self] at hy
   simp at hy
   subst hy
   exact hx
section
variable {H:Type} {enc:TypeId × Value→H} {w:World} {fuel:Nat} {cs:List Value} {x:DataW H × List MemPlace}
theorem op_name (h:DataW.trod enc Tryz.prog w 0 (fun _=>true) true fuel 31 cs=some x):∃ (k nn xx:Int) (so st:ByteArray),cs=[.int .i64 k,.string so,.int .i64 nn,.int .i64 xx,.string st]:=by
 obtain⟨xs,n,_,_,hlen,hxl,hf⟩:=DataW.trod_struct Tryz.underlying31 h
 have hlen':cs.length=5:=hlen.trans (by kernel_rfl)
 match cs,hlen' with
 | [c0,c1,c2,c3,c4],_ =>
  have q:∀ j,j<5→∃ y,xs[j]?=some y:=fun j hj=>⟨_,List.getElem?_eq_getElem (by rw[hxl];exact hj)⟩
  obtain⟨y0,e0⟩:=q 0 (by omega)
  obtain⟨y1,e1⟩:=q 1 (by omega)
  obtain⟨y2,e2⟩:=q 2 (by omega)
  obtain⟨y3,e3⟩:=q 3 (by omega)
  obtain⟨y4,e4⟩:=q 4 (by omega)
  have k3:Tryz.prog.cellsOf 3=1:=by kernel_rfl
  have k29:Tryz.prog.cellsOf 29=1:=by kernel_rfl
  have k9:Tryz.prog.cellsOf 9=1:=by kernel_rfl
  have f0:DataW.trod enc Tryz.prog w 0 (fun _=>true) true n 3 (([c0,c1,c2,c3,c4].drop 0).take (Tryz.prog.cellsOf 3))=some y0:=(hf 0 _ rfl).trans e0
  have f1:DataW.trod enc Tryz.prog w 0 (fun _=>true) true n 29 (([c0,c1,c2,c3,c4].drop 1).take (Tryz.prog.cellsOf 29))=some y1:=(hf 1 _ rfl).trans e1
  have f2:DataW.trod enc Tryz.prog w 0 (fun _=>true) true n 3 (([c0,c1,c2,c3,c4].drop 2).take (Tryz.prog.cellsOf 3))=some y2:=(hf 2 _ rfl).trans e2
  have f3:DataW.trod enc Tryz.prog w 0 (fun _=>true) true n 3 (([c0,c1,c2,c3,c4].drop 3).take (Tryz.prog.cellsOf 3))=some y3:=(hf 3 _ rfl).trans e3
  have f4:DataW.trod enc Tryz.prog w 0 (fun _=>true) true n 9 (([c0,c1,c2,c3,c4].drop 4).take (Tryz.prog.cellsOf 9))=some y4:=(hf 4 _ rfl).trans e4
  rw[k3] at f0 f2 f3
  rw[k29] at f1
  rw[k9] at f4
  obtain⟨a0,g0,_,_⟩:=DataW.trod_int Tryz.underlying3 f0
  obtain⟨s1,g1,_,_⟩:=DataW.trod_string Tryz.underlying29 f1
  obtain⟨a2,g2,_,_⟩:=DataW.trod_int Tryz.underlying3 f2
  obtain⟨a3,g3,_,_⟩:=DataW.trod_int Tryz.underlying3 f3
  obtain⟨s4,g4,_,_⟩:=DataW.trod_string Tryz.underlying9 f4
  simp at g0 g1 g2 g3 g4
  subst g0 g1 g2 g3 g4
  exact⟨a0,a2,a3,s1,s4,rfl⟩
theorem op_place {r:Reach} {b0:Nat} {v:Value} {d:DataW H} {p:List MemPlace} (hv:Value.okWide Tryz.prog w r b0 33 v) (h:DataW.Trod enc Tryz.prog w 0 (fun _=>true) true 33 v d p) :
 ∃ (k nn xx a:Int) (so st:ByteArray),v=.agg #[.int .i64 k,.string so,.int .i64 nn,.int .i64 xx,.string st,.int .i64 a]:=by
 obtain⟨cs,rfl,hsz⟩:=okWide_struct Tryz.underlying33 hv
 obtain⟨l⟩:=cs
 have hC:Tryz.prog.cellsOf 33=6:=by kernel_rfl
 match l,hsz.trans hC with
 | [c0,c1,c2,c3,c4,c5],_ =>
  obtain⟨fuel,hf⟩:=h
  obtain⟨xs,n,_,hx,_,hxl,hg⟩:=DataW.trod_struct Tryz.underlying33 hf
  have q:∀ j,j<2→∃ y,xs[j]?=some y:=fun j hj=>⟨_,List.getElem?_eq_getElem (by rw[hxl];exact hj)⟩
  obtain⟨y0,e0⟩:=q 0 (by omega)
  obtain⟨y1,e1⟩:=q 1 (by omega)
  have k31:Tryz.prog.cellsOf 31=5:=by kernel_rfl
  have k3:Tryz.prog.cellsOf 3=1:=by kernel_rfl
  have f0:DataW.trod enc Tryz.prog w 0 (fun _=>true) true n 31 (([c0,c1,c2,c3,c4,c5].drop 0).take (Tryz.prog.cellsOf 31))=some y0:=(hg 0 _ rfl).trans e0
  have f1:DataW.trod enc Tryz.prog w 0 (fun _=>true) true n 3 (([c0,c1,c2,c3,c4,c5].drop 5).take (Tryz.prog.cellsOf 3))=some y1:=(hg 1 _ rfl).trans e1
  rw[k31] at f0
  rw[k3] at f1
  obtain⟨k,nn,xx,so,st,g0⟩:=op_name f0
  obtain⟨a,g1,_,_⟩:=DataW.trod_int Tryz.underlying3 f1
  simp at g0 g1
  obtain⟨rfl,rfl,rfl,rfl,rfl⟩:=g0
  subst g1
  exact⟨k,nn,xx,a,so,st,rfl⟩
theorem bounds_u8 {n:Int} (h:(Lit.int .u8 n).wf=true):0≤n∧n<256:=by
 simp[Lit.wf,IntKind.min,IntKind.max,IntKind.bits,IntKind.signed] at h
 omega
theorem op_bytes (hlen:cs.length=32) (h:∀ i,i<32→∃ k:Int,(cs.drop i).take 1=[.int .u8 k]∧0≤k∧k<256):∃ rt:Nm,rt.length=32∧cs=rt.map fun b=>Value.int .u8 (b.toNat:Int):=by
 obtain⟨l,hl,hp⟩:=exists_list (fun i (b:UInt8)=>cs[i]?=some (.int .u8 (b.toNat:Int))) 32 (fun i hi=>by
  obtain⟨k,hk,h0,h1⟩:=h i hi
  refine⟨UInt8.ofNat k.toNat,?_⟩
  have h2:=congrArg (·[0]?) hk
  simp[List.getElem?_take,List.getElem?_drop] at h2
  rw[h2,UInt8.toNat_ofNat']
  congr 2
  omega)
 refine⟨l,hl,List.ext_getElem? fun i=>?_⟩
 rw[List.getElem?_map]
 rcases Nat.lt_or_ge i 32 with hi | hi
 ·have hg:=List.getElem?_eq_getElem (l:=l) (i:=i) (by omega)
  rw[hp i _ hg,hg]
  rfl
 ·rw[List.getElem?_eq_none (by omega),List.getElem?_eq_none (by omega)]
  rfl
theorem op_dig {r:Reach} {b0:Nat} {v:Value} {d:DataW H} {p:List MemPlace} (hv:Value.okWide Tryz.prog w r b0 57 v) (h:DataW.Trod enc Tryz.prog w 0 (fun _=>true) true 57 v d p) :
 ∃ rt:Nm,rt.length=32∧v=.agg (rt.map fun b=>Value.int .u8 (b.toNat:Int)).toArray:=by
 have hv':=hv
 simp only[Value.okWide,Tryz.underlying57] at hv'
 obtain⟨cs,rfl,hsz,_⟩:=hv'
 obtain⟨l⟩:=cs
 have hC:Tryz.prog.cellsOf 57=32:=by kernel_rfl
 have hE:Tryz.prog.cellsOf 5=1:=by kernel_rfl
 obtain⟨fuel,hf⟩:=h
 obtain⟨xs,n,_,_,hlen,hxl,hg⟩:=DataW.trod_array Tryz.underlying57 hf
 obtain⟨rt,h1,h2⟩:=op_bytes (cs:=l) (hlen.trans hC) (fun i hi=>by
  have h3:=hg i hi
  rw[hE,Nat.mul_one,List.getElem?_eq_getElem (by omega)] at h3
  obtain⟨k,g,_,hw⟩:=DataW.trod_int Tryz.underlying5 h3
  exact⟨k,g,bounds_u8 hw⟩)
 exact⟨rt,h1,by rw[h2]⟩
end
def laid3 : List (String × DataW Unit) := [("replevin/sha256.initial", Rows.laid_replevin_sha256_initial), ("replevin/sha256.constants", Rows.laid_replevin_sha256_constants), ("replevin/object.usages", Rows.laid_replevin_object_usages)]
theorem low_of_shaped {W:World} (h:W.ShapedOpen Tryz.prog):6≤W.heap.size:=by
 obtain⟨o,_,ho,_⟩:=h.2 6 (of_decide_eq_true (by kernel_rfl)) (of_decide_eq_true (by kernel_rfl))
 have:=(Array.getElem?_eq_some_iff.1 ho).1
 omega
theorem initial_data:Rows.laid_replevin_sha256_initial (H:=Unit)=Lib.tabData .u32 ivL:=rfl
theorem constants_data:Rows.laid_replevin_sha256_constants (H:=Unit)=Lib.tabData .u32 kcL:=rfl
def usD (u:Usage):DataW Unit:=.agg [.lit (.string u.word),.lit (.bool u.owner),.lit (.bool u.number),.lit (.bool u.index),.lit (.bool u.text),.lit (.int .i64 u.most)]
theorem usages_data:Rows.laid_replevin_object_usages (H:=Unit)=.agg (usL.map usD):=rfl
theorem usage_cells {w:World} {fuel:Nat} {cs:List Value} {x:DataW Unit × List MemPlace} {u:Usage} (h:DataW.trod (fun _=>()) Tryz.prog w 0 (fun _=>true) false fuel 216 cs=some x) (hx:x.1=usD u):cs=u.cells:=by
 obtain⟨xs,n,_,rfl,hlen,hxl,hf⟩:=DataW.trod_struct Tryz.underlying216 h
 have hlen':cs.length=6:=hlen.trans (by kernel_rfl)
 match cs,hlen' with
 | [c0,c1,c2,c3,c4,c5],_ =>
  have q:∀ j,j<6→∃ y,xs[j]?=some y:=fun j hj=>⟨_,List.getElem?_eq_getElem (by rw[hxl];exact hj)⟩
  obtain⟨y0,e0⟩:=q 0 (by omega)
  obtain⟨y1,e1⟩:=q 1 (by omega)
  obtain⟨y2,e2⟩:=q 2 (by omega)
  obtain⟨y3,e3⟩:=q 3 (by omega)
  obtain⟨y4,e4⟩:=q 4 (by omega)
  obtain⟨y5,e5⟩:=q 5 (by omega)
  have k9:Tryz.prog.cellsOf 9=1:=by kernel_rfl
  have k4:Tryz.prog.cellsOf 4=1:=by kernel_rfl
  have k3:Tryz.prog.cellsOf 3=1:=by kernel_rfl
  have f0:DataW.trod (fun _=>()) Tryz.prog w 0 (fun _=>true) false n 9 (([c0,c1,c2,c3,c4,c5].drop 0).take (Tryz.prog.cellsOf 9))=some y0:=(hf 0 _ rfl).trans e0
  have f1:DataW.trod (fun _=>()) Tryz.prog w 0 (fun _=>true) false n 4 (([c0,c1,c2,c3,c4,c5].drop 1).take (Tryz.prog.cellsOf 4))=some y1:=(hf 1 _ rfl).trans e1
  have f2:DataW.trod (fun _=>()) Tryz.prog w 0 (fun _=>true) false n 4 (([c0,c1,c2,c3,c4,c5].drop 2).take (Tryz.prog.cellsOf 4))=some y2:=(hf 2 _ rfl).trans e2
  have f3:DataW.trod (fun _=>()) Tryz.prog w 0 (fun _=>true) false n 4 (([c0,c1,c2,c3,c4,c5].drop 3).take (Tryz.prog.cellsOf 4))=some y3:=(hf 3 _ rfl).trans e3
  have f4:DataW.trod (fun _=>()) Tryz.prog w 0 (fun _=>true) false n 4 (([c0,c1,c2,c3,c4,c5].drop 4).take (Tryz.prog.cellsOf 4))=some y4:=(hf 4 _ rfl).trans e4
  have f5:DataW.trod (fun _=>()) Tryz.prog w 0 (fun _=>true) false n 3 (([c0,c1,c2,c3,c4,c5].drop 5).take (Tryz.prog.cellsOf 3))=some y5:=(hf 5 _ rfl).trans e5
  rw[k9] at f0
  rw[k4] at f1 f2 f3 f4
  rw[k3] at f5
  obtain⟨s0,g0,rfl,_⟩:=DataW.trod_string Tryz.underlying9 f0
  obtain⟨b1,g1,rfl⟩:=DataW.trod_bool Tryz.underlying4 f1
  obtain⟨b2,g2,rfl⟩:=DataW.trod_bool Tryz.underlying4 f2
  obtain⟨b3,g3,rfl⟩:=DataW.trod_bool Tryz.underlying4 f3
  obtain⟨b4,g4,rfl⟩:=DataW.trod_bool Tryz.underlying4 f4
  obtain⟨i5,g5,rfl,_⟩:=DataW.trod_int Tryz.underlying3 f5
  match xs,hxl with
  | [x0,x1,x2,x3,x4,x5],_ =>
   simp at e0 e1 e2 e3 e4 e5
   subst e0 e1 e2 e3 e4 e5
   simp[usD] at hx
   obtain⟨h0,h1,h2,h3,h4,h5⟩:=hx
   simp at g0 g1 g2 g3 g4 g5
   subst g0 g1 g2 g3 g4 g5
   unfold Usage.cells
   rw[←h0,←h1,←h2,←h3,←h4,←h5]
   rfl
theorem ok_of {W:World} (h:W.ShapedOpen Tryz.prog) (hL:laidMetH Tryz.prog laid3 W):Ok W:=by
 rw[MakeChecks.laidMetH_plain _ _ _ (by kernel_rfl)] at hL
 unfold laid3 at hL
 rw[initial_data,constants_data,usages_data] at hL
 have h1:=Lib.tabIs_of_head (k:=.u32) (zs:=ivL) (g:=1) (by kernel_rfl) (by kernel_rfl) Tryz.underlying162 Tryz.underlying161 (by kernel_rfl) (by kernel_rfl) hL
 have h2:=Lib.tabIs_of_head (k:=.u32) (zs:=kcL) (g:=2) (by kernel_rfl) (by kernel_rfl) Tryz.underlying309 Tryz.underlying161 (by kernel_rfl) (by kernel_rfl) hL.tail
 refine⟨low_of_shaped h,fun j hj=>?_,fun j hj=>?_,fun k hk j v hv=>?_⟩
 ·exact h2.cell (g:=2) (by kernel_rfl) j (by rw[show kcL.length=64 from rfl];exact hj)
 ·exact h1.cell (g:=1) (by kernel_rfl) j (by rw[show ivL.length=8 from rfl];exact hj)
 ·obtain⟨ps,⟨g',t',cs,fuel,p,q,hg',ht',hvar,hd,_,_⟩,_⟩:=hL.tail.tail
  have hg : Tryz.prog.globalNamed "replevin/object.usages" = some 0 := by kernel_rfl
  have hty:(Tryz.prog.globals[0]?).map (·.type)=some 217:=by kernel_rfl
  obtain rfl:=Option.some.inj (hg.symm.trans hg')
  obtain rfl:=Option.some.inj (hty.symm.trans ht')
  obtain⟨xs,n,_,hx,hlen,hxl,hf⟩:=DataW.trod_array Tryz.underlying217 hd
  simp only[Prod.mk.injEq,DataW.agg.injEq] at hx
  have hE:Tryz.prog.cellsOf 216=6:=by kernel_rfl
  have hfk:=hf k hk
  rw[hE] at hfk
  obtain⟨y,hy⟩:∃ y,xs[k]?=some y:=⟨_,List.getElem?_eq_getElem (by omega)⟩
  rw[hy] at hfk
  have hyd:y.1=usD (us k):=by
   have h3:=congrArg (·[k]?) hx.1
   simp only[List.getElem?_map,hy,Option.map_some] at h3
   have hul:usL.length=21:=rfl
   rw[List.getElem?_eq_getElem (by omega)] at h3
   simp only[Option.map_some,Option.some.injEq] at h3
   rw[←h3]
   unfold us
   rw[List.getD_eq_getElem?_getD,List.getElem?_eq_getElem (by omega)]
   rfl
  have hc:=usage_cells hfk hyd
  have hj:j<6:=by
   have:=(List.getElem?_eq_some_iff.1 hv).1
   simpa [Usage.cells] using this
  rw[World.var?_cell hg hvar]
  rw[←hc] at hv
  rw[List.getElem?_take_of_lt (by omega),List.getElem?_drop] at hv
  simpa using hv
end Go.Proofs.YtlpmiimgacfmkaaGreatDoor
