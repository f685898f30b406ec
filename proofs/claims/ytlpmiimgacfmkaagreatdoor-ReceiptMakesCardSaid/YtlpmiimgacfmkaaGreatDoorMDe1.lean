/- Sorting of at most one element (names, changes, links). -/
import Derived.LoopN
import Derived.Laws.StructEq
import Derived.Test.YtlpmiimgacfmkaaGreatDoorMHi1
import Derived.Test.YtlpmiimgacfmkaaGreatDoorMShelf1
import Derived.Test.YtlpmiimgacfmkaaGreatDoorMVm
import Derived.Test.YtlpmiimgacfmkaaGreatDoorMMaps3
import Derived.Test.YtlpmiimgacfmkaaGreatDoorMRf2
import Derived.Test.YtlpmiimgacfmkaaGreatDoorMTr5
set_option linter.all false
namespace Go.Proofs.YtlpmiimgacfmkaaGreatDoor
open Go.Proofs.Tryz
open Go.RowKit Go.Shelf
set_option maxRecDepth 100000
set_option maxHeartbeats 2000000
theorem InsN (A:Option Addr) (n c:Nat) (f:Value) (hn:n<=1) (w:World):Calls prog 220 #[.slice A n c,.int .i64 0,.int .i64 n,f] w fun e w'=>e=.returned (.tuple #[])/\w=w':=by
 obtain rfl | rfl:n=0 \/ n=1:=by omega
 all_goals
  simp only[Int.ofNat_zero,Int.ofNat_one,Int.natCast_zero,Int.natCast_one]
  go_enter func220,ntmps220
  go_wp2_with fail
  refine wp_loop_rounds 1 ?_;rw[rounds_succ]
  go_wp2_with fail
  go_end0
  exact⟨rfl,rfl⟩
theorem PdqN (A:Option Addr) (n c:Nat) (m:Int) (f:Value) (hn:n<=1) (w:World):Calls prog 179 #[.slice A n c,.int .i64 0,.int .i64 n,.int .i64 m,f] w fun e w'=>e=.returned (.tuple #[])/\w=w':=by
 obtain rfl | rfl:n=0 \/ n=1:=by omega
 all_goals
  simp only[Int.ofNat_zero,Int.ofNat_one,Int.natCast_zero,Int.natCast_one]
 ·have HI:=Hd (InsN A 0 c f (by omega) w)
  simp only[Int.ofNat_zero,Int.natCast_zero] at HI
  go_enter func179,ntmps179
  go_wp2_with fail
  refine wp_loop_rounds 1 ?_;rw[rounds_succ]
  go_wp2_with ((go_at_call 220;(with_reducible refine HI.out.mono ?_);rintro e w1 ⟨rfl,rfl⟩))
  try simp only[Exit.inBlock,Exit.then]
  refine bodyPost_ret (results_none rfl _ _ _) rfl ?_;exact⟨rfl,rfl⟩
 ·have HI:=Hd (InsN A 1 c f (by omega) w)
  simp only[Int.ofNat_one,Int.natCast_one] at HI
  go_enter func179,ntmps179
  go_wp2_with fail
  refine wp_loop_rounds 1 ?_;rw[rounds_succ]
  go_wp2_with ((go_at_call 220;(with_reducible refine HI.out.mono ?_);rintro e w1 ⟨rfl,rfl⟩))
  try simp only[Exit.inBlock,Exit.then]
  refine bodyPost_ret (results_none rfl _ _ _) rfl ?_;exact⟨rfl,rfl⟩
theorem SortN (A:Option Addr) (n c:Nat) (f:Value) (hn:n<=1) (w:World):Calls prog 137 #[.slice A n c,f] w fun e w'=>e=.returned (.tuple #[])/\w=w':=by
 obtain rfl | rfl:n=0 \/ n=1:=by omega
 ·have HB:=Hd (Tryz.bits_Len 0 w (by omega) (by omega))
  have HP:=Hd (fun m=>PdqN A 0 c m f (by omega) w);simp only[Int.ofNat_zero,Int.natCast_zero] at HP
  go_enter func137,ntmps137
  go_wp2_with (first
   | (go_at_call 172;(with_reducible refine HB.out.mono ?_);rintro e w1 ⟨rfl,rfl⟩)
   | (go_at_call 179;(with_reducible refine (HP.out _).mono ?_);rintro e w1 ⟨rfl,rfl⟩))
  go_end0
  exact⟨rfl,rfl⟩
 ·have HB:=Hd (Tryz.bits_Len 1 w (by omega) (by omega))
  have HP:=Hd (fun m=>PdqN A 1 c m f (by omega) w);simp only[Int.ofNat_one,Int.natCast_one] at HP
  go_enter func137,ntmps137
  go_wp2_with (first
   | (go_at_call 172;(with_reducible refine HB.out.mono ?_);rintro e w1 ⟨rfl,rfl⟩)
   | (go_at_call 179;(with_reducible refine (HP.out _).mono ?_);rintro e w1 ⟨rfl,rfl⟩))
  go_end0
  exact⟨rfl,rfl⟩
theorem InsC (A:Option Addr) (n c:Nat) (f:Value) (hn:n<=1) (w:World):Calls prog 200 #[.slice A n c,.int .i64 0,.int .i64 n,f] w fun e w'=>e=.returned (.tuple #[])/\w=w':=by
 obtain rfl | rfl:n=0 \/ n=1:=by omega
 all_goals
  simp only[Int.ofNat_zero,Int.ofNat_one,Int.natCast_zero,Int.natCast_one]
  go_enter func200,ntmps200
  go_wp2_with fail
  refine wp_loop_rounds 1 ?_;rw[rounds_succ]
  go_wp2_with fail
  go_end0
  exact⟨rfl,rfl⟩
theorem PdqC (A:Option Addr) (n c:Nat) (m:Int) (f:Value) (hn:n<=1) (w:World):Calls prog 173 #[.slice A n c,.int .i64 0,.int .i64 n,.int .i64 m,f] w fun e w'=>e=.returned (.tuple #[])/\w=w':=by
 obtain rfl | rfl:n=0 \/ n=1:=by omega
 all_goals
  simp only[Int.ofNat_zero,Int.ofNat_one,Int.natCast_zero,Int.natCast_one]
 ·have HI:=Hd (InsC A 0 c f (by omega) w)
  simp only[Int.ofNat_zero,Int.natCast_zero] at HI
  go_enter func173,ntmps173
  go_wp2_with fail
  refine wp_loop_rounds 1 ?_;rw[rounds_succ]
  go_wp2_with ((go_at_call 200;(with_reducible refine HI.out.mono ?_);rintro e w1 ⟨rfl,rfl⟩))
  try simp only[Exit.inBlock,Exit.then]
  refine bodyPost_ret (results_none rfl _ _ _) rfl ?_;exact⟨rfl,rfl⟩
 ·have HI:=Hd (InsC A 1 c f (by omega) w)
  simp only[Int.ofNat_one,Int.natCast_one] at HI
  go_enter func173,ntmps173
  go_wp2_with fail
  refine wp_loop_rounds 1 ?_;rw[rounds_succ]
  go_wp2_with ((go_at_call 200;(with_reducible refine HI.out.mono ?_);rintro e w1 ⟨rfl,rfl⟩))
  try simp only[Exit.inBlock,Exit.then]
  refine bodyPost_ret (results_none rfl _ _ _) rfl ?_;exact⟨rfl,rfl⟩
theorem SortC (A:Option Addr) (n c:Nat) (f:Value) (hn:n<=1) (w:World):Calls prog 128 #[.slice A n c,f] w fun e w'=>e=.returned (.tuple #[])/\w=w':=by
 obtain rfl | rfl:n=0 \/ n=1:=by omega
 ·have HB:=Hd (Tryz.bits_Len 0 w (by omega) (by omega))
  have HP:=Hd (fun m=>PdqC A 0 c m f (by omega) w);simp only[Int.ofNat_zero,Int.natCast_zero] at HP
  go_enter func128,ntmps128
  go_wp2_with (first
   | (go_at_call 172;(with_reducible refine HB.out.mono ?_);rintro e w1 ⟨rfl,rfl⟩)
   | (go_at_call 173;(with_reducible refine (HP.out _).mono ?_);rintro e w1 ⟨rfl,rfl⟩))
  go_end0
  exact⟨rfl,rfl⟩
 ·have HB:=Hd (Tryz.bits_Len 1 w (by omega) (by omega))
  have HP:=Hd (fun m=>PdqC A 1 c m f (by omega) w);simp only[Int.ofNat_one,Int.natCast_one] at HP
  go_enter func128,ntmps128
  go_wp2_with (first
   | (go_at_call 172;(with_reducible refine HB.out.mono ?_);rintro e w1 ⟨rfl,rfl⟩)
   | (go_at_call 173;(with_reducible refine (HP.out _).mono ?_);rintro e w1 ⟨rfl,rfl⟩))
  go_end0
  exact⟨rfl,rfl⟩
theorem InsL (A:Option Addr) (n c:Nat) (f:Value) (hn:n<=1) (w:World):Calls prog 208 #[.slice A n c,.int .i64 0,.int .i64 n,f] w fun e w'=>e=.returned (.tuple #[])/\w=w':=by
 obtain rfl | rfl:n=0 \/ n=1:=by omega
 all_goals
  simp only[Int.ofNat_zero,Int.ofNat_one,Int.natCast_zero,Int.natCast_one]
  go_enter func208,ntmps208
  go_wp2_with fail
  refine wp_loop_rounds 1 ?_;rw[rounds_succ]
  go_wp2_with fail
  go_end0
  exact⟨rfl,rfl⟩
theorem PdqL (A:Option Addr) (n c:Nat) (m:Int) (f:Value) (hn:n<=1) (w:World):Calls prog 174 #[.slice A n c,.int .i64 0,.int .i64 n,.int .i64 m,f] w fun e w'=>e=.returned (.tuple #[])/\w=w':=by
 obtain rfl | rfl:n=0 \/ n=1:=by omega
 all_goals
  simp only[Int.ofNat_zero,Int.ofNat_one,Int.natCast_zero,Int.natCast_one]
 ·have HI:=Hd (InsL A 0 c f (by omega) w)
  simp only[Int.ofNat_zero,Int.natCast_zero] at HI
  go_enter func174,ntmps174
  go_wp2_with fail
  refine wp_loop_rounds 1 ?_;rw[rounds_succ]
  go_wp2_with ((go_at_call 208;(with_reducible refine HI.out.mono ?_);rintro e w1 ⟨rfl,rfl⟩))
  try simp only[Exit.inBlock,Exit.then]
  refine bodyPost_ret (results_none rfl _ _ _) rfl ?_;exact⟨rfl,rfl⟩
 ·have HI:=Hd (InsL A 1 c f (by omega) w)
  simp only[Int.ofNat_one,Int.natCast_one] at HI
  go_enter func174,ntmps174
  go_wp2_with fail
  refine wp_loop_rounds 1 ?_;rw[rounds_succ]
  go_wp2_with ((go_at_call 208;(with_reducible refine HI.out.mono ?_);rintro e w1 ⟨rfl,rfl⟩))
  try simp only[Exit.inBlock,Exit.then]
  refine bodyPost_ret (results_none rfl _ _ _) rfl ?_;exact⟨rfl,rfl⟩
theorem SortL (A:Option Addr) (n c:Nat) (f:Value) (hn:n<=1) (w:World):Calls prog 130 #[.slice A n c,f] w fun e w'=>e=.returned (.tuple #[])/\w=w':=by
 obtain rfl | rfl:n=0 \/ n=1:=by omega
 ·have HB:=Hd (Tryz.bits_Len 0 w (by omega) (by omega))
  have HP:=Hd (fun m=>PdqL A 0 c m f (by omega) w);simp only[Int.ofNat_zero,Int.natCast_zero] at HP
  go_enter func130,ntmps130
  go_wp2_with (first
   | (go_at_call 172;(with_reducible refine HB.out.mono ?_);rintro e w1 ⟨rfl,rfl⟩)
   | (go_at_call 174;(with_reducible refine (HP.out _).mono ?_);rintro e w1 ⟨rfl,rfl⟩))
  go_end0
  exact⟨rfl,rfl⟩
 ·have HB:=Hd (Tryz.bits_Len 1 w (by omega) (by omega))
  have HP:=Hd (fun m=>PdqL A 1 c m f (by omega) w);simp only[Int.ofNat_one,Int.natCast_one] at HP
  go_enter func130,ntmps130
  go_wp2_with (first
   | (go_at_call 172;(with_reducible refine HB.out.mono ?_);rintro e w1 ⟨rfl,rfl⟩)
   | (go_at_call 174;(with_reducible refine (HP.out _).mono ?_);rintro e w1 ⟨rfl,rfl⟩))
  go_end0
  exact⟨rfl,rfl⟩
set_option maxHeartbeats 4000000
def AscN (xs:List ON):Prop:=∀ i x y,xs[i]?=some x->xs[i+1]?=some y->0<cmpO y x
theorem cmpO_ne {a b:ON} (h:0<cmpO a b):a≠b:=fun e=>by
 rw[e,cmpO_self] at h;omega
theorem run_eqON {a b:ON} (ha:checkO a=0) (hb:checkO b=0) (hne:a≠b) (w:World):(binOp .eql 31 (encO a) (encO b)).run prog w=.ok (.bool false) w:=by
 obtain⟨la,hla⟩:=keyOf_check ha;obtain⟨lb,hlb⟩:=keyOf_check hb;obtain⟨r,hr,hiff⟩:=run_equal_deep (P:=prog) w (m:=4) (by omega) (by kernel_rfl) (by kernel_rfl) hla hlb
 have hr0:r=false:=by
  cases r with
  | false=>rfl
  | true =>
   have he:=hiff.1 rfl;subst he;exact absurd (encO_inj _ _ (keyOf_inj_deep (P:=prog) (m:=4) (by kernel_rfl) (by kernel_rfl) hla hlb)) hne
 subst hr0;have h2:∀ xs ys:Array Value,(binOp .eql 31 (.agg xs) (.agg ys)).run prog w=((Op.equal 31 (.agg xs) (.agg ys)).run prog w).andThen fun b w'=>.ok (.bool b) w':=fun xs ys=>by simp[binOp]
 unfold encO at hr ⊢;rw[h2,hr];rfl
theorem InsN_g (b c:Nat) (xs:List ON) (w:World) (hb:Cs w b (xs.flatMap ON.cs)) (hok:∀ x∈xs,checkO x=0) (hord:AscN xs) (hn:xs.length<=12):Calls prog 220 #[.slice (some ⟨b,0,none⟩) xs.length c,.int .i64 0,.int .i64 xs.length,.func (.func 103) #[] #[]] w fun e w'=>e=.returned (.tuple #[])/\Fr [] w w':=by
 obtain⟨n,hxn⟩:=nmd (xs.length);have HX:=Hd (An hxn (An hok (An hord hb)));rw[hxn] at hn ⊢;clear hxn hok hord hb
 go_enter func220,ntmps220
 go_wp2_with fail
 go_loopw [8] (fun i W=>∃ m:Nat,1<=m/\m<=max n 1/\i=.int .i64 (m:Int)/\Fr [] w W) (fun i _=>n+1 - (intOf i).toNat)
 case atStart=>exact⟨1,by omega,by omega,rfl,Fq _ _⟩
 case round =>
  obtain⟨m,hm1,hm2,rfl,hfr⟩:=hrel
  by_cases hlt:m<n
  ·obtain⟨j,hjm⟩:∃ j,j+1=m:=⟨m - 1,by omega⟩
   have hlt3:(m:Int)<(n:Int):=by omega
   have hlt4:(j:Int)<(n:Int):=by omega
   have hgt:decide (0<m)=true:=by simp;omega
   have hsub:(m:Int) - 1=(j:Int):=by omega
   have hwm:IntKind.i64.wrap (m:Int)=(m:Int):=by simp only[IntKind.wrap_i64];omega
   have hwj:IntKind.i64.wrap (j:Int)=(j:Int):=by simp only[IntKind.wrap_i64];omega
   obtain⟨x,hx⟩:∃ x,xs[j]?=some x:=⟨_,lge (by rw[HX.out.1];omega)⟩;obtain⟨y,hy⟩:∃ x,xs[m]?=some x:=⟨_,lge (by rw[HX.out.1];exact hlt)⟩;have hcmp:=HX.out.2.2.1 j x y hx (by rw[hjm];exact hy);obtain⟨sx,hssx,_,_⟩:=str_of (x).owner;obtain⟨tx,hstx,_,_⟩:=str_of (x).text;have hcsx:=fun o (ho:o<5)=>flat_at on_len hx ho;unfold ON.cs at hcsx;rw[hssx,hstx] at hcsx;obtain⟨sy,hssy,_,_⟩:=str_of (y).owner;obtain⟨ty,hsty,_,_⟩:=str_of (y).text;have hcsy:=fun o (ho:o<5)=>flat_at on_len hy ho;unfold ON.cs at hcsy;rw[hssy,hsty] at hcsy;have hCM:∀ W,Calls prog 103 #[encO y,encO x] W (CmpOPost W (cmpO y x)):=fun W=>cmp_ok y x W (HX.out.2.1 y (lmg hy)) (HX.out.2.1 x (lmg hx));rw[encO_str hssy hsty,encO_str hssx hstx] at hCM;generalize cmpO y x=cc at hcmp hCM;have hcn:decide (cc<0)=false:=by simp;omega
   have HSS:=Hd (fun (W:World) (hW:Fr [] wr W)=>(show W.cell? ⟨b,j*5,none⟩=some (.int .i64 x.kind)/\W.cell? ⟨b,j*5+1,none⟩=some (.string sx)/\W.cell? ⟨b,j*5+2,none⟩=some (.int .i64 x.number)/\W.cell? ⟨b,j*5+3,none⟩=some (.int .i64 x.index)/\W.cell? ⟨b,j*5+4,none⟩=some (.string tx)/\W.cell? ⟨b,m*5,none⟩=some (.int .i64 y.kind)/\W.cell? ⟨b,m*5+1,none⟩=some (.string sy)/\W.cell? ⟨b,m*5+2,none⟩=some (.int .i64 y.number)/\W.cell? ⟨b,m*5+3,none⟩=some (.int .i64 y.index)/\W.cell? ⟨b,m*5+4,none⟩=some (.string ty) from by
    have h:=HX.out.2.2.2.fr0 (hfr.then hW);exact⟨h.2 _ _ (hcsx 0 (by omega)),h.2 _ _ (hcsx 1 (by omega)),h.2 _ _ (hcsx 2 (by omega)),h.2 _ _ (hcsx 3 (by omega)),h.2 _ _ (hcsx 4 (by omega)),h.2 _ _ (hcsy 0 (by omega)),h.2 _ _ (hcsy 1 (by omega)),h.2 _ _ (hcsy 2 (by omega)),h.2 _ _ (hcsy 3 (by omega)),h.2 _ _ (hcsy 4 (by omega))⟩))
   have HCM:=Hd hCM;have HF:=Hd hfr;clear hCM hfr hcmp hx hy hcsx hcsy hssx hstx hssy hsty
   go_upto_region 4 with fail
   refine wp_loop_rounds 1 ?_;rw[rounds_succ]
   go_upto_region 4 with fail
   refine wp_region_qall (fun W=>Fr [] wr W) (by kernel_rfl) (by kernel_rfl) ((Fq _ wr).drew) ?_
   repeat (
    first
    | go_big_quiet_skip
    | (go_big_quiet_want
       first
       | (go_big_quiet_op
          go_big_quiet_on)
       | (apply Exists.intro
          refine⟨fun W hW=>?_,?_⟩
          ·(obtain⟨x0,x1,x2,x3,x4,y0,y1,y2,y3,y4⟩:=HSS.out W hW
            go_simp
            first
            | done
            | (with_reducible exact rfl)
            | (with_reducible exact⟨rfl,rfl⟩)
            | ((go_at_call 103;(with_reducible refine (HCM.out W).mono ?_);rintro e w' ⟨rfl,h⟩;exact⟨rfl,hW.then h⟩)))
          simp only[Act.put,qA,qB,qC]
          go_big_quiet_on))
    )
   refine wpQuiet_nil ?_;intro W hW;have HW:=Hd (HF.out.then hW);clear hW
   go_wp2_with fail
   go_roundw
   case rel=>exact⟨m+1,by omega,by omega,by go_num,HW.out⟩
   case measure=>simp[intOf];omega
  ·have hge3:¬ (m:Int)<(n:Int):=by omega
   go_wp2_with fail
   go_end0
   exact⟨rfl,hfr⟩
theorem PdqN_g (b c:Nat) (lim:Int) (xs:List ON) (w:World) (hb:Cs w b (xs.flatMap ON.cs)) (hok:∀ x∈xs,checkO x=0) (hord:AscN xs) (hn:xs.length<=12):Calls prog 179 #[.slice (some ⟨b,0,none⟩) xs.length c,.int .i64 0,.int .i64 xs.length,.int .i64 lim,.func (.func 103) #[] #[]] w fun e w'=>e=.returned (.tuple #[])/\Fr [] w w':=by
 have hI:=InsN_g b c xs w hb hok hord hn;obtain⟨n,hxn⟩:=nmd (xs.length);rw[hxn] at hn hI ⊢;have HI:=Hd hI;have hle:decide (n<=12)=true:=by simp;omega
 have hle2:(n:Int)<=12:=by omega
 have hsub:(n:Int) - 0=(n:Int):=by omega
 clear hxn hok hord hb hI
 go_enter func179,ntmps179
 go_wp2_with fail
 refine wp_loop_rounds 1 ?_;rw[rounds_succ]
 go_wp2_with ((go_at_call 220;(with_reducible refine HI.out.mono ?_);rintro e w1 ⟨rfl,hf⟩;have HF:=Hd hf;clear hf))
 try simp only[Exit.inBlock,Exit.then]
 refine bodyPost_ret (results_none rfl _ _ _) rfl ?_;exact⟨rfl,HF.out⟩
theorem SortN_g (b c:Nat) (xs:List ON) (w:World) (hb:Cs w b (xs.flatMap ON.cs)) (hok:∀ x∈xs,checkO x=0) (hord:AscN xs) (hn:xs.length<=12):Calls prog 137 #[.slice (some ⟨b,0,none⟩) xs.length c,.func (.func 103) #[] #[]] w fun e w'=>e=.returned (.tuple #[])/\Fr [] w w':=by
 have hP:=fun lim=>PdqN_g b c lim xs w hb hok hord hn;obtain⟨n,hxn⟩:=nmd (xs.length);rw[hxn] at hn hP ⊢;have HP:=Hd hP;have HB:=Hd (Tryz.bits_Len (n:Int) w (by omega) (by omega));clear hxn hok hord hb hP
 go_enter func137,ntmps137
 go_wp2_with (first
  | (go_at_call 172;(with_reducible refine HB.out.mono ?_);rintro e w1 ⟨rfl,rfl⟩)
  | (go_at_call 179;(with_reducible refine (HP.out _).mono ?_);rintro e w1 ⟨rfl,hf⟩;have HF:=Hd hf;clear hf))
 go_end0
 exact⟨rfl,HF.out⟩
theorem CompN_g (b c:Nat) (xs:List ON) (w:World) (hb:Cs w b (xs.flatMap ON.cs)) (hok:∀ x∈xs,checkO x=0) (hord:AscN xs) (hn:xs.length<=12):Calls prog 138 #[.slice (some ⟨b,0,none⟩) xs.length c] w fun e w'=>e=.returned (.slice (some ⟨b,0,none⟩) xs.length c)/\Fr [] w w':=by
 obtain⟨n,hxn⟩:=nmd (xs.length);have HX:=Hd (An hxn (An hord hb));have HOK:=Hd hok;rw[hxn] at hn ⊢;clear hxn hord hb hok
 rcases Nat.lt_or_ge n 2 with h2 | h2
 ·have h3:decide (n<2)=true:=by simp;omega
  have h4:(n:Int)<2:=by omega
  go_enter func138,ntmps138
  go_wp2_with fail
  go_ret
  exact⟨rfl,Fq _ _⟩
 have h3:decide (n<2)=false:=by simp;omega
 have h4:¬ (n:Int)<2:=by omega
 go_enter func138,ntmps138
 go_wp2_with fail
 clear h3 h4
 go_loopw [3] (fun i W=>∃ m:Nat,1<=m/\m<=n/\i=.int .i64 (m:Int)/\Fr [] w W) (fun i _=>n+1 - (intOf i).toNat)
 case atStart=>exact⟨1,by omega,by omega,rfl,Fq _ _⟩
 case round =>
  obtain⟨m,hm1,hm2,rfl,hfr⟩:=hrel
  by_cases hlt:m<n
  ·obtain⟨j,hjm⟩:∃ j,j+1=m:=⟨m - 1,by omega⟩
   have hlt3:(m:Int)<(n:Int):=by omega
   have hlt4:(j:Int)<(n:Int):=by omega
   have hsub:(m:Int) - 1=(j:Int):=by omega
   have hwm:IntKind.i64.wrap (m:Int)=(m:Int):=by simp only[IntKind.wrap_i64];omega
   have hwj:IntKind.i64.wrap (j:Int)=(j:Int):=by simp only[IntKind.wrap_i64];omega
   obtain⟨x,hx⟩:∃ x,xs[j]?=some x:=⟨_,lge (by rw[HX.out.1];omega)⟩;obtain⟨y,hy⟩:∃ x,xs[m]?=some x:=⟨_,lge (by rw[HX.out.1];exact hlt)⟩;have hne:x≠y:=Ne.symm (cmpO_ne (HX.out.2.1 j x y hx (by rw[hjm];exact hy)));obtain⟨sx,hssx,_,_⟩:=str_of (x).owner;obtain⟨tx,hstx,_,_⟩:=str_of (x).text;have hcsx:=fun o (ho:o<5)=>flat_at on_len hx ho;unfold ON.cs at hcsx;rw[hssx,hstx] at hcsx;obtain⟨sy,hssy,_,_⟩:=str_of (y).owner;obtain⟨ty,hsty,_,_⟩:=str_of (y).text;have hcsy:=fun o (ho:o<5)=>flat_at on_len hy ho;unfold ON.cs at hcsy;rw[hssy,hsty] at hcsy
   have HSS:=Hd (fun (W:World) (hW:Fr [] wr W)=>(show W.cell? ⟨b,j*5,none⟩=some (.int .i64 x.kind)/\W.cell? ⟨b,j*5+1,none⟩=some (.string sx)/\W.cell? ⟨b,j*5+2,none⟩=some (.int .i64 x.number)/\W.cell? ⟨b,j*5+3,none⟩=some (.int .i64 x.index)/\W.cell? ⟨b,j*5+4,none⟩=some (.string tx)/\W.cell? ⟨b,m*5,none⟩=some (.int .i64 y.kind)/\W.cell? ⟨b,m*5+1,none⟩=some (.string sy)/\W.cell? ⟨b,m*5+2,none⟩=some (.int .i64 y.number)/\W.cell? ⟨b,m*5+3,none⟩=some (.int .i64 y.index)/\W.cell? ⟨b,m*5+4,none⟩=some (.string ty) from by
    have h:=HX.out.2.2.fr0 (hfr.then hW);exact⟨h.2 _ _ (hcsx 0 (by omega)),h.2 _ _ (hcsx 1 (by omega)),h.2 _ _ (hcsx 2 (by omega)),h.2 _ _ (hcsx 3 (by omega)),h.2 _ _ (hcsx 4 (by omega)),h.2 _ _ (hcsy 0 (by omega)),h.2 _ _ (hcsy 1 (by omega)),h.2 _ _ (hcsy 2 (by omega)),h.2 _ _ (hcsy 3 (by omega)),h.2 _ _ (hcsy 4 (by omega))⟩))
   have hEQ:=fun W=>run_eqON (HOK.out y (lmg hy)) (HOK.out x (lmg hx)) (Ne.symm hne) W;rw[encO_str hssy hsty,encO_str hssx hstx] at hEQ;have HF:=Hd hfr;clear hfr hx hy hcsx hcsy hssx hstx hssy hsty hne
   go_upto_region 6 with fail
   refine wp_region_qall (fun W=>Fr [] wr W) (by kernel_rfl) (by kernel_rfl) ((Fq _ wr).drew) ?_
   repeat (
    first
    | go_big_quiet_skip
    | (go_big_quiet_want
       first
       | (go_big_quiet_op
          go_big_quiet_on)
       | (apply Exists.intro
          refine⟨fun W hW=>?_,?_⟩
          ·(obtain⟨x0,x1,x2,x3,x4,y0,y1,y2,y3,y4⟩:=HSS.out W hW
            go_simp
            first
            | done
            | (with_reducible exact rfl)
            | (with_reducible exact⟨rfl,rfl⟩)
            | (fail))
          simp only[Act.put,qA,qB,qC]
          go_big_quiet_on))
    )
   refine wpQuiet_nil ?_;intro W hW;have HW:=Hd (HF.out.then hW);clear hW
   go_wp2_with fail
   go_roundw
   case rel=>exact⟨m+1,by omega,by omega,by go_num,HW.out⟩
   case measure=>simp[intOf];omega
  ·have hge3:¬ (m:Int)<(n:Int):=by omega
   go_wp2_with fail
   go_ret
   exact⟨rfl,hfr⟩
open Go.RowKit
set_option maxHeartbeats 1000000
attribute [local go_sem] Oper.semAt_some
end Go.Proofs.YtlpmiimgacfmkaaGreatDoor
namespace Go.Proofs.YtlpmiimgacfmkaaGreatDoor
open Go.Proofs.Tryz
open Go.RowKit Go.Shelf
set_option maxRecDepth 100000
set_option maxHeartbeats 4000000
attribute [local go_sem] Oper.semAt_some
theorem RoundIn.inRoundT {n m r:Nat} {P:Program} {l f:Nat} {tmps:Array Value} {assign body:Code} {w:World} {R:Ending->World->Prop} (h:RoundIn Fence.wide n P l f tmps assign body w R):RoundIn (Fence.wide.inRound r) m P l f tmps assign body w R :=
 ⟨trivial,fun c cs _=>h.2 c cs (room_wide _)⟩
end Go.Proofs.YtlpmiimgacfmkaaGreatDoor
namespace Go.Proofs.YtlpmiimgacfmkaaGreatDoor
open Go.Proofs.Tryz
open Go.RowKit Go.Shelf
set_option maxRecDepth 100000
set_option maxHeartbeats 4000000
attribute [local go_sem] Oper.semAt_some
end Go.Proofs.YtlpmiimgacfmkaaGreatDoor
namespace Go.Proofs.YtlpmiimgacfmkaaGreatDoor
open Go.Proofs.Tryz
open Go.RowKit
set_option maxRecDepth 100000
set_option maxHeartbeats 4000000
theorem info_name:∃ i,(prog).info? 31=some i/\i.zero=some (.agg #[.int .i64 0,.string ⟨#[]⟩,.int .i64 0,.int .i64 0,.string ⟨#[]⟩])/\i.size=5/\i.bytes=56:=info_parts (by kernel_rfl)
theorem CompactN_any (A:Option Addr) (n c:Nat) (hn:n<=1) (w:World):Calls prog 138 #[.slice A n c] w fun e w'=>e=.returned (.slice A n c)/\w=w':=by
 obtain rfl | rfl:n=0 \/ n=1:=by omega
 all_goals
  go_enter func138,ntmps138
  go_wp2_with fail
  go_ret
  exact⟨rfl,rfl⟩
open Go.RowKit Go.Shelf
theorem CloneN_g (n c:Nat) (A:Option Addr) (xs:List Value) (w:World) (h:Rd w 5 A n xs) (h1:∀ u∈xs,u.oneCell'=true) (hn:n<=1000000):Calls prog 136 #[.slice A n c] w fun e w'=>∃ A' c',e=.returned (.slice A' n c')/\Own w' 31 5 A' n c' xs/\Fr [] w w'/\∀ k∈blk A',w.heap.size<=k:=by
 have hq:=Lib.run_eql_slice_nil (P:=prog) w 101 31 A n c 0 0 underlying101
 cases A with
 | none =>
  have hn0:n=0:=by
   rcases Nat.eq_zero_or_pos n with h0 | h0
   ·exact h0
   ·obtain⟨b,off,e,_⟩:=h.2 h0
    cases e
  subst hn0;have hx:xs=[]:=by have:=h.1;simpa using this
  subst hx;simp only[Option.isNone_none] at hq
  go_enter func136,ntmps136
  go_wp2_with fail
  go_ret
  exact⟨none,0,rfl,Own.nil _ _ _,Fq _ _,by simp[blk]⟩
 | some a =>
  simp only[Option.isNone_some] at hq;obtain⟨ii,hii,iz0,iz1,iz2⟩:=info_name
  have hcell:∀ j u,xs[j]?=some u->w.cell? (a.add j)=some u:=by
   intro j u hu
   rcases Nat.eq_zero_or_pos n with h0 | h0
   ·have:=h.1;rw[h0] at this;have hx:xs=[]:=by simpa using this
    subst hx;simp at hu
   ·obtain⟨b,off,e,hb,hc⟩:=h.2 h0
    cases e
    rw[Addr.add_mid];exact hc j u hu
  have hlen:xs.length=n*5:=h.1;have HC:=Hd (An hcell (An h1 hlen));clear hcell h1 hlen h
  go_enter func136,ntmps136
  go_wp2_with (at_builtin;(with_reducible refine wpList_app (w:=w.alloc (.cells #[] 31)) rfl (.tmp 5) (.tmp 6) 101 rfl 31 ii _ 5 56 underlying101 hii iz0 iz1 iz2 rfl (by decide) (some ⟨w.heap.size,0,none⟩) 0 0 [] rfl (Own.empty w _ _) a n c xs rfl HC.out.2.2 (fun j u hu=>Lib.cell?_alloc_some _ (HC.out.1 j u hu)) HC.out.2.1 (by unfold maxLen;omega) (by omega) ?_);intro A2 c2 w2 ho hf hs;have HO:=Hd ho;have HF:=Hd hf;have HS:=Hd hs;clear ho hf hs)
  go_ret
  have ho:=HO.out;rw[List.nil_append] at ho;have hz:=HF.out.size;refine⟨A2,c2,rfl,by rw[Nat.zero_add] at ho;exact ho,((Fq [] w).alloc _).trans HF.out (fun x hx=>.inr (by simp[blk] at hx;omega)),fun k hk=>?_⟩
  rcases HS.out k hk with h | h
  ·simp[blk] at h;omega
  ·rw[wsA] at h;omega
theorem SortedN_g (n c:Nat) (A:Option Addr) (xs:List ON) (w:World) (hn:xs.length=n) (h:Rd w 5 A n (xs.flatMap ON.cs)) (hok:∀ x∈xs,checkO x=0) (hord:AscN xs) (hn12:n<=12):Calls prog 102 #[.slice A n c,.func (.func 103) #[] #[]] w fun e w'=>∃ A' c',e=.returned (.slice A' n c')/\Own w' 31 5 A' n c' (xs.flatMap ON.cs)/\Fr [] w w'/\∀ k∈blk A',w.heap.size<=k:=by
 have HC:=Hd (CloneN_g n c A (xs.flatMap ON.cs) w h (fun u hu=>by
  obtain⟨x,_,hu⟩:=List.mem_flatMap.1 hu;exact on_one x u hu) (by omega))
 have HX:=Hd (An hn (An hok (An hord hn12)));clear h
 have hsort:∀ (A':Option Addr) (c':Nat) (W:World),Own W 31 5 A' n c' (xs.flatMap ON.cs)->Calls prog 137 #[.slice A' n c',.func (.func 103) #[] #[]] W fun e w'=>e=.returned (.tuple #[])/\Fr [] W w':=fun A' c' W ho=>by
  rcases Nat.lt_or_ge n 1 with h0 | h0
  ·exact (SortN A' n c' _ (by omega) W).mono (by rintro e w' ⟨rfl,rfl⟩;exact⟨rfl,Fq _ _⟩)
  ·obtain⟨g,rfl,hg⟩:=Cs.of_own ho (by omega)
   subst hn;exact SortN_g g c' xs W hg hok hord (by omega)
 have hcomp:∀ (A':Option Addr) (c':Nat) (W:World),Own W 31 5 A' n c' (xs.flatMap ON.cs)->Calls prog 138 #[.slice A' n c'] W fun e w'=>e=.returned (.slice A' n c')/\Fr [] W w':=fun A' c' W ho=>by
  rcases Nat.lt_or_ge n 1 with h0 | h0
  ·exact (CompactN_any A' n c' (by omega) W).mono (by rintro e w' ⟨rfl,rfl⟩;exact⟨rfl,Fq _ _⟩)
  ·obtain⟨g,rfl,hg⟩:=Cs.of_own ho (by omega)
   subst hn;exact CompN_g g c' xs W hg hok hord (by omega)
 have HS:=Hd hsort;have HP:=Hd hcomp;clear hsort hcomp hok hord hn hn12
 go_enter func102,ntmps102
 go_wp2_with (first
  | (go_at_call 136;(with_reducible refine HC.out.mono ?_);rintro e w1 ⟨A',c',rfl,hg,hf,hk⟩;have HG:=Hd hg;have HF:=Hd hf;have HK:=Hd hk;clear hg hf hk)
  | (go_at_call 137;(with_reducible refine (HS.out A' c' w1 HG.out).mono ?_);rintro e w2 ⟨rfl,hf2⟩;have HF2:=Hd hf2;clear hf2)
  | (go_at_call 138;(with_reducible refine (HP.out A' c' w2 (HG.out.fr HF2.out (by simp))).mono ?_);rintro e w3 ⟨rfl,hf3⟩;have HF3:=Hd hf3;clear hf3))
 go_ret
 exact⟨A',c',rfl,(HG.out.fr HF2.out (by simp)).fr HF3.out (by simp),(HF.out.then HF2.out).then HF3.out,HK.out⟩
theorem Increasing_g (L c N:Nat) (ys:List AX) (w:World) (hL:ActL w L N ys) (hr:Run ys):Calls prog 101 #[.slice (some ⟨L,0,none⟩) ys.length c] w (RetPost w (.bool true)):=by
 obtain⟨n,hyn⟩:=nmd (ys.length);have hl12:=hr.len;have HX:=Hd (An hyn (An hr hL));rw[hyn] at hl12 ⊢;clear hyn hr hL
 go_enter func101,ntmps101
 go_wp2_with fail
 go_loopw [3] (fun i W=>∃ m:Nat,1<=m/\m<=max n 1/\i=.int .i64 (m:Int)/\Fr [] w W) (fun i _=>n+1 - (intOf i).toNat)
 case atStart=>exact⟨1,by omega,by omega,rfl,Fq _ _⟩
 case round =>
  obtain⟨m,hm1,hm2,rfl,hfr⟩:=hrel
  by_cases hlt:m<n
  ·obtain⟨j,hjm⟩:∃ j,j+1=m:=⟨m - 1,by omega⟩
   have hlt3:(m:Int)<(n:Int):=by omega
   have hlt4:(j:Int)<(n:Int):=by omega
   have hsub:(m:Int) - 1=(j:Int):=by omega
   have hwm:IntKind.i64.wrap (m:Int)=(m:Int):=by simp only[IntKind.wrap_i64];omega
   have hwj:IntKind.i64.wrap (j:Int)=(j:Int):=by simp only[IntKind.wrap_i64];omega
   obtain⟨x,hx⟩:∃ x,ys[j]?=some x:=⟨_,lge (by rw[HX.out.1];omega)⟩;obtain⟨y,hy⟩:∃ x,ys[m]?=some x:=⟨_,lge (by rw[HX.out.1];exact hlt)⟩;have hcmp:=HX.out.2.1.inc j x y hx (by rw[hjm];exact hy);have hxo:=HX.out.2.2.ok x (lmg hx);have hyo:=HX.out.2.2.ok y (lmg hy);have hxv:=checkK_valid (wfB_key (HX.out.2.1.wf x (lmg hx)).1);have hyv:=checkK_valid (wfB_key (HX.out.2.1.wf y (lmg hy)).1);have hCM:∀ W,Calls prog 91 #[encK x.a.k,encK y.a.k] W (CmpOPost W (cmpK x.a.k y.a.k)):=fun W=>CompareK_any x.a.k y.a.k W hxv.1 hyv.1 (by omega) (by omega);unfold encK at hCM;rw[hxo.s,hyo.s] at hCM;have hneg:cmpK x.a.k y.a.k<0:=by have:=tot_cmpK.anti x.a.k y.a.k;omega
   generalize cmpK x.a.k y.a.k=cc at hneg hCM;have hcn:decide ((0:Int)<=cc)=false:=by simp;omega
   have HSS:=Hd (fun (W:World) (hW:Fr [] wr W)=>(show W.cell? ⟨L,j*6,none⟩=some (.int .i64 x.a.k.rnd)/\W.cell? ⟨L,j*6+1,none⟩=some (.int .i64 x.a.k.phase)/\W.cell? ⟨L,j*6+2,none⟩=some (.int .i64 x.a.k.idx)/\W.cell? ⟨L,j*6+3,none⟩=some (.string x.sl)/\W.cell? ⟨L,m*6,none⟩=some (.int .i64 y.a.k.rnd)/\W.cell? ⟨L,m*6+1,none⟩=some (.int .i64 y.a.k.phase)/\W.cell? ⟨L,m*6+2,none⟩=some (.int .i64 y.a.k.idx)/\W.cell? ⟨L,m*6+3,none⟩=some (.string y.sl) from by
    have h:=HX.out.2.2.fr0 (hfr.then hW);exact⟨h.c hx 0 _ rfl,h.c hx 1 _ rfl,h.c hx 2 _ rfl,h.c hx 3 _ rfl,h.c hy 0 _ rfl,h.c hy 1 _ rfl,h.c hy 2 _ rfl,h.c hy 3 _ rfl⟩))
   have HCM:=Hd hCM;have HF:=Hd hfr;clear hCM hfr hcmp hx hy hxo hyo hxv hyv
   go_upto_region 4 with fail
   refine wp_region_qall (fun W=>Fr [] wr W) (by kernel_rfl) (by kernel_rfl) ((Fq _ wr).drew) ?_
   repeat (
    first
    | go_big_quiet_skip
    | (go_big_quiet_want
       first
       | (go_big_quiet_op
          go_big_quiet_on)
       | (apply Exists.intro
          refine⟨fun W hW=>?_,?_⟩
          ·(obtain⟨x0,x1,x2,x3,y0,y1,y2,y3⟩:=HSS.out W hW
            go_simp
            first
            | done
            | (with_reducible exact rfl)
            | (with_reducible exact⟨rfl,rfl⟩)
            | ((go_at_call 91;(with_reducible refine (HCM.out W).mono ?_);rintro e w' ⟨rfl,h⟩;exact⟨rfl,hW.then h⟩)))
          simp only[Act.put,qA,qB,qC]
          go_big_quiet_on))
    )
   refine wpQuiet_nil ?_;intro W hW;have HW:=Hd (HF.out.then hW);clear hW
   go_wp2_with fail
   go_roundw
   case rel=>exact⟨m+1,by omega,by omega,by go_num,HW.out⟩
   case measure=>simp[intOf];omega
  ·have hge3:¬ (m:Int)<(n:Int):=by omega
   go_wp2_with fail
   go_ret
   exact⟨rfl,hfr⟩
set_option maxHeartbeats 2000000
theorem SearchI_nil (x:Int) (w:World):Calls prog 164 #[.slice none 0 0,.int .i64 x] w (RetPost w (.int .i64 0)):=by
 obtain⟨w2,hw2⟩:=nmd ((w.alloc (.cells #[.slice none 0 0] 36)).alloc (.cells #[.int .i64 x] 3));have hf:Fr [] w w2:=by rw[<-hw2];exact ((Fq [] w).alloc _).alloc _
 have h0:w2.cell? ⟨w.heap.size,0,none⟩=some (.slice none 0 0):=by rw[<-hw2];exact ((BoxN.new w 36 #[.slice none 0 0]).alloc _).c 0
 have hmf:∀ (fn:Fn) (first cap:Array Value) (w:World),(Instr.makeFunc fn first cap).run prog w=.ok (.func fn first cap) w:=fun _ _ _ _=>rfl
 have HS:∀ f:Value,Calls prog 194 #[.int .i64 0,f] w2 fun e w'=>e=.returned (.int .i64 0)/\w2=w':=fun f=>by
  go_enter func194,ntmps194
  go_wp2_with fail
  refine wp_loop_rounds 1 ?_;rw[rounds_succ]
  go_wp2_with fail
  go_ret
  exact⟨rfl,rfl⟩
 have HS:=Hd HS;have HW:=Hd hw2;have HF:=Hd hf;clear hw2 hf
 go_enter func164,ntmps164
 go_upto_region 1 with fail
 rw[HW.out]
 go_wp2_with ((go_at_call 194;(with_reducible refine (HS.out _).mono ?_);rintro e w3 ⟨rfl,rfl⟩))
 go_ret
 exact⟨rfl,HF.out⟩
end Go.Proofs.YtlpmiimgacfmkaaGreatDoor
