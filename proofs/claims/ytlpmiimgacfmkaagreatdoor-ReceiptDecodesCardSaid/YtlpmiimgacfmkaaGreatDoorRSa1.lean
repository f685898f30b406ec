/- state: the search tree's small functions, join. -/
import Derived.Deep.Cut
import Derived.Deep.RegionHeld3
import Derived.LoopN
import Derived.Test.YtlpmiimgacfmkaaGreatDoorRLin2
import Derived.Test.YtlpmiimgacfmkaaGreatDoorRMaps
set_option linter.all false
namespace Go.Proofs.YtlpmiimgacfmkaaGreatDoor
open Go.RowKit
set_option maxRecDepth 100000
set_option maxHeartbeats 4000000
inductive TR
 | nil
 | node (b:Nat) (l:TR) (i:Int) (v:ByteArray) (h s y:Int) (r:TR)
def TR.adr:TR→Option Addr
 | .nil=>none
 | .node b _ _ _ _ _ _ _=>some ⟨b,0,none⟩
def TR.ptr (t:TR):Value:=.pointer t.adr
def mx (a b:Int):Int:=if a<b then b else a
def TR.h:TR→Int
 | .nil=>0
 | .node _ _ _ _ h _ _ _=>h
def TR.s:TR→Int
 | .nil=>0
 | .node _ _ _ _ _ s _ _=>s
def TR.y:TR→Int
 | .nil=>0
 | .node _ _ _ _ _ _ y _=>y
def nodeC (l r:Value) (i:Int) (v:ByteArray) (h s y:Int):Array Value:=#[l,r,.int .i64 16,.string ⟨#[]⟩,.int .i64 i,.int .i64 0,.string ⟨#[]⟩,.string v,.int .i64 h,.int .i64 s,.int .i64 y]
def TRat (w:World):TR→Prop
 | .nil=>True
 | .node b l i v h s y r=>BoxN w b 191 (nodeC l.ptr r.ptr i v h s y)∧TRat w l∧TRat w r
theorem TRat.fr0 {w w':World} (hf:Fr [] w w'):∀ {t:TR},TRat w t→TRat w' t
 | .nil,_=>trivial
 | .node _ _ _ _ _ _ _ _,h=>⟨h.1.fr hf (by simp),TRat.fr0 hf h.2.1,TRat.fr0 hf h.2.2⟩
def TR.sm (t:TR):Prop:=0≤t.h∧t.h≤1000000∧0≤t.s∧t.s≤1000000∧0≤t.y∧t.y≤1000000000
theorem heightOf_any (t:TR) (w:World) (h:TRat w t):Calls Tryz.prog 278 #[t.ptr] w fun e w'=>e=.returned (.int .i64 t.h)∧w'=w:=by
 cases t with
 | nil =>
  unfold TR.ptr TR.adr TR.h
  go_enter Tryz.func278,Tryz.ntmps278
  go_wp2_with fail
  go_ret
  exact⟨rfl,rfl⟩
 | node b l i v h0 s0 y0 r =>
  have c:=h.1.c 8
  unfold nodeC at c
  simp only[List.getElem?_toArray,List.getElem?_cons_zero,List.getElem?_cons_succ] at c
  clear h
  unfold TR.ptr TR.adr TR.h
  go_enter Tryz.func278,Tryz.ntmps278
  go_wp2_with fail
  go_ret
  exact⟨rfl,rfl⟩
theorem sizeOf_any (t:TR) (w:World) (h:TRat w t):Calls Tryz.prog 95 #[t.ptr] w fun e w'=>e=.returned (.int .i64 t.s)∧w'=w:=by
 cases t with
 | nil =>
  unfold TR.ptr TR.adr TR.s
  go_enter Tryz.func95,Tryz.ntmps95
  go_wp2_with fail
  go_ret
  exact⟨rfl,rfl⟩
 | node b l i v h0 s0 y0 r =>
  have c:=h.1.c 9
  unfold nodeC at c
  simp only[List.getElem?_toArray,List.getElem?_cons_zero,List.getElem?_cons_succ] at c
  clear h
  unfold TR.ptr TR.adr TR.s
  go_enter Tryz.func95,Tryz.ntmps95
  go_wp2_with fail
  go_ret
  exact⟨rfl,rfl⟩
theorem bytesOf_any (t:TR) (w:World) (h:TRat w t):Calls Tryz.prog 279 #[t.ptr] w fun e w'=>e=.returned (.int .i64 t.y)∧w'=w:=by
 cases t with
 | nil =>
  unfold TR.ptr TR.adr TR.y
  go_enter Tryz.func279,Tryz.ntmps279
  go_wp2_with fail
  go_ret
  exact⟨rfl,rfl⟩
 | node b l i v h0 s0 y0 r =>
  have c:=h.1.c 10
  unfold nodeC at c
  simp only[List.getElem?_toArray,List.getElem?_cons_zero,List.getElem?_cons_succ] at c
  clear h
  unfold TR.ptr TR.adr TR.y
  go_enter Tryz.func279,Tryz.ntmps279
  go_wp2_with fail
  go_ret
  exact⟨rfl,rfl⟩
theorem join_any (l r:TR) (m:Nat) (ml mr:Value) (i mh ms my:Int) (v:ByteArray) (w:World) (hl:TRat w l) (hr:TRat w r) (hm:BoxN w m 191 (nodeC ml mr i v mh ms my)) (sl:l.sm) (sr:r.sm) (hv:v.size≤65536) :
 Calls Tryz.prog 268 #[l.ptr,.pointer (some ⟨m,0,none⟩),r.ptr] w fun e w'=>∃ b,e=.returned (.pointer (some ⟨b,0,none⟩))∧w.heap.size≤b∧TRat w' (.node b l i v (1+mx l.h r.h) (1+l.s+r.s) ((v.size:Int)+l.y+r.y) r)∧Fr [] w w':=by
 have HSS:=Hd (fun (W:World) (hW:Fr [] w W)=>(show W.cell? ⟨m,2,none⟩=some (.int .i64 16)∧W.cell? ⟨m,3,none⟩=some (.string ⟨#[]⟩)∧W.cell? ⟨m,4,none⟩=some (.int .i64 i)∧W.cell? ⟨m,5,none⟩=some (.int .i64 0)∧W.cell? ⟨m,6,none⟩=some (.string ⟨#[]⟩)∧W.cell? ⟨m,7,none⟩=some (.string v) from by
  have hb:=hm.fr hW (by simp)
  exact⟨hb.c 2,hb.c 3,hb.c 4,hb.c 5,hb.c 6,hb.c 7⟩))
 have HHL:=Hd (fun (W:World) (hW:Fr [] w W)=>heightOf_any l W (hl.fr0 hW))
 have HHR:=Hd (fun (W:World) (hW:Fr [] w W)=>heightOf_any r W (hr.fr0 hW))
 have HSL:=Hd (fun (W:World) (hW:Fr [] w W)=>sizeOf_any l W (hl.fr0 hW))
 have HSR:=Hd (fun (W:World) (hW:Fr [] w W)=>sizeOf_any r W (hr.fr0 hW))
 have HYL:=Hd (fun (W:World) (hW:Fr [] w W)=>bytesOf_any l W (hl.fr0 hW))
 have HYR:=Hd (fun (W:World) (hW:Fr [] w W)=>bytesOf_any r W (hr.fr0 hW))
 have HL:=Hd hl
 have HR:=Hd hr
 unfold TR.sm at sl sr
 obtain⟨lp,hlp⟩:∃ p,l.ptr=.pointer p:=⟨_,rfl⟩
 obtain⟨rp,hrp⟩:∃ p,r.ptr=.pointer p:=⟨_,rfl⟩
 obtain⟨lh,hlh⟩:=nmd (l.h)
 obtain⟨rh,hrh⟩:=nmd (r.h)
 obtain⟨ls,hls⟩:=nmd (l.s)
 obtain⟨rs,hrs⟩:=nmd (r.s)
 obtain⟨ly,hly⟩:=nmd (l.y)
 obtain⟨ry,hry⟩:=nmd (r.y)
 rw[hlp] at HHL HSL HYL
 rw[hrp] at HHR HSR HYR
 rw[hlh] at HHL sl
 rw[hrh] at HHR sr
 rw[hls] at HSL sl
 rw[hrs] at HSR sr
 rw[hly] at HYL sl
 rw[hry] at HYR sr
 rw[hlp,hrp,hlh,hrh,hls,hrs,hly,hry]
 have HPL:=Hd hlp
 have HPR:=Hd hrp
 have hm0:=hm.lt
 clear hlp hrp hlh hrh hls hrs hly hry hl hr hm hm0
 have e1:IntKind.i64.wrap (1+if lh<rh then rh else lh)=1+if lh<rh then rh else lh:=by simp only[IntKind.wrap_i64];split <;> omega
 obtain⟨q,hq⟩:=nmd (mx lh rh)
 rw[hq]
 have HQ:=Hd hq
 clear hq
 have e2:IntKind.i64.wrap (1+ls)=1+ls:=by simp only[IntKind.wrap_i64];omega
 have e3:IntKind.i64.wrap (1+ls+rs)=1+ls+rs:=by simp only[IntKind.wrap_i64];omega
 have e4:IntKind.i64.wrap ((v.size:Int)+ly)=(v.size:Int)+ly:=by simp only[IntKind.wrap_i64];omega
 have e5:IntKind.i64.wrap ((v.size:Int)+ly+ry)=(v.size:Int)+ly+ry:=by simp only[IntKind.wrap_i64];omega
 clear sl sr hv
 go_enter Tryz.func268,Tryz.ntmps268
 go_upto_region 1 with fail
 refine wp_region_qtail (fun W=>Fr [] w W) 34 (by kernel_rfl) (by kernel_rfl) ((Fr.refl [] w).drew) ?_
 simp only[List.take_succ_cons,List.take_zero,List.drop_succ_cons,List.drop_zero]
 repeat (
  first
  | go_big_quiet_skip
  | (go_big_quiet_want
     first
     | (go_big_quiet_op
        go_big_quiet_on)
     | (apply Exists.intro
        refine⟨fun W hW=>?_,?_⟩
        ·(obtain⟨z1,z2,z3,z4,z5,z6⟩:=HSS.out W hW
          go_simp
          first
          | done
          | (with_reducible exact rfl)
          | (with_reducible exact⟨rfl,rfl⟩)
          | (first | (go_at_call 278;first | with_reducible exact (HHL.out W hW).mono (fun e w' h=>⟨h.1,by rw[h.2];exact hW⟩) | with_reducible exact (HHR.out W hW).mono (fun e w' h=>⟨h.1,by rw[h.2];exact hW⟩)) | (go_at_call 95;first | with_reducible exact (HSL.out W hW).mono (fun e w' h=>⟨h.1,by rw[h.2];exact hW⟩) | with_reducible exact (HSR.out W hW).mono (fun e w' h=>⟨h.1,by rw[h.2];exact hW⟩)) | (go_at_call 279;first | with_reducible exact (HYL.out W hW).mono (fun e w' h=>⟨h.1,by rw[h.2];exact hW⟩) | with_reducible exact (HYR.out W hW).mono (fun e w' h=>⟨h.1,by rw[h.2];exact hW⟩))))
        simp only[Act.put,qA,qB,qC]
        go_big_quiet_on))
  )
 refine wpQuiet_nil ?_
 intro W hW
 generalize hq2:(if lh<rh then rh else lh)=q2 at e1 ⊢
 obtain rfl:q=q2:=by rw[←hq2,←HQ.out];rfl
 clear hq2
 have hf:=(Fr.alloc hW (.cells (nodeC (.pointer lp) (.pointer rp) i v (1+q) (1+ls+rs) ((v.size:Int)+ly+ry)) 191))
 have hn:=BoxN.new W 191 (nodeC (.pointer lp) (.pointer rp) i v (1+q) (1+ls+rs) ((v.size:Int)+ly+ry))
 have HX:=Hd (And.intro hW.size (And.intro hf hn))
 clear hf hn HSS HHL HHR HSL HSR HYL HYR
 go_wp2_with fail
 go_ret
 refine⟨_,rfl,HX.out.1,⟨?_,HL.out.fr0 HX.out.2.1,HR.out.fr0 HX.out.2.1⟩,HX.out.2.1⟩
 rw[HPL.out,HPR.out]
 exact HX.out.2.2
end Go.Proofs.YtlpmiimgacfmkaaGreatDoor
