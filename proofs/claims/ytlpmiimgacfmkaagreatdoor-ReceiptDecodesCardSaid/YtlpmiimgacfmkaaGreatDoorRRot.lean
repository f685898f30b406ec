/- SHA-256: words turned to the right. -/
import Derived.Test.YtlpmiimgacfmkaaGreatDoorRBase
set_option linter.all false
namespace Go.Proofs.YtlpmiimgacfmkaaGreatDoor
open Go.RowKit
set_option maxHeartbeats 1000000
def rotr (n x:Int):Int:=bits BinOp.or IntKind.u32 (x*2 ^ (32 - n).toNat % 4294967296) (x / 2 ^ n.toNat)
theorem right_2 (x:Int) (w:World):Calls Tryz.prog 182 #[.int .i64 2,.int .u32 x] w fun e w'=>e=.returned (.int .u32 (rotr 2 x))∧w'=w:=by
 go_enter Tryz.func182,Tryz.ntmps182
 have h1:bits BinOp.and IntKind.u64 (IntKind.u64.wrap (-2)) 31=30:=by rfl
 go_wp2
 go_ret
 exact⟨rfl,rfl⟩
theorem right_6 (x:Int) (w:World):Calls Tryz.prog 182 #[.int .i64 6,.int .u32 x] w fun e w'=>e=.returned (.int .u32 (rotr 6 x))∧w'=w:=by
 go_enter Tryz.func182,Tryz.ntmps182
 have h1:bits BinOp.and IntKind.u64 (IntKind.u64.wrap (-6)) 31=26:=by rfl
 go_wp2
 go_ret
 exact⟨rfl,rfl⟩
theorem right_7 (x:Int) (w:World):Calls Tryz.prog 182 #[.int .i64 7,.int .u32 x] w fun e w'=>e=.returned (.int .u32 (rotr 7 x))∧w'=w:=by
 go_enter Tryz.func182,Tryz.ntmps182
 have h1:bits BinOp.and IntKind.u64 (IntKind.u64.wrap (-7)) 31=25:=by rfl
 go_wp2
 go_ret
 exact⟨rfl,rfl⟩
theorem right_11 (x:Int) (w:World):Calls Tryz.prog 182 #[.int .i64 11,.int .u32 x] w fun e w'=>e=.returned (.int .u32 (rotr 11 x))∧w'=w:=by
 go_enter Tryz.func182,Tryz.ntmps182
 have h1:bits BinOp.and IntKind.u64 (IntKind.u64.wrap (-11)) 31=21:=by rfl
 go_wp2
 go_ret
 exact⟨rfl,rfl⟩
theorem right_13 (x:Int) (w:World):Calls Tryz.prog 182 #[.int .i64 13,.int .u32 x] w fun e w'=>e=.returned (.int .u32 (rotr 13 x))∧w'=w:=by
 go_enter Tryz.func182,Tryz.ntmps182
 have h1:bits BinOp.and IntKind.u64 (IntKind.u64.wrap (-13)) 31=19:=by rfl
 go_wp2
 go_ret
 exact⟨rfl,rfl⟩
theorem right_17 (x:Int) (w:World):Calls Tryz.prog 182 #[.int .i64 17,.int .u32 x] w fun e w'=>e=.returned (.int .u32 (rotr 17 x))∧w'=w:=by
 go_enter Tryz.func182,Tryz.ntmps182
 have h1:bits BinOp.and IntKind.u64 (IntKind.u64.wrap (-17)) 31=15:=by rfl
 go_wp2
 go_ret
 exact⟨rfl,rfl⟩
theorem right_18 (x:Int) (w:World):Calls Tryz.prog 182 #[.int .i64 18,.int .u32 x] w fun e w'=>e=.returned (.int .u32 (rotr 18 x))∧w'=w:=by
 go_enter Tryz.func182,Tryz.ntmps182
 have h1:bits BinOp.and IntKind.u64 (IntKind.u64.wrap (-18)) 31=14:=by rfl
 go_wp2
 go_ret
 exact⟨rfl,rfl⟩
theorem right_19 (x:Int) (w:World):Calls Tryz.prog 182 #[.int .i64 19,.int .u32 x] w fun e w'=>e=.returned (.int .u32 (rotr 19 x))∧w'=w:=by
 go_enter Tryz.func182,Tryz.ntmps182
 have h1:bits BinOp.and IntKind.u64 (IntKind.u64.wrap (-19)) 31=13:=by rfl
 go_wp2
 go_ret
 exact⟨rfl,rfl⟩
theorem right_22 (x:Int) (w:World):Calls Tryz.prog 182 #[.int .i64 22,.int .u32 x] w fun e w'=>e=.returned (.int .u32 (rotr 22 x))∧w'=w:=by
 go_enter Tryz.func182,Tryz.ntmps182
 have h1:bits BinOp.and IntKind.u64 (IntKind.u64.wrap (-22)) 31=10:=by rfl
 go_wp2
 go_ret
 exact⟨rfl,rfl⟩
theorem right_25 (x:Int) (w:World):Calls Tryz.prog 182 #[.int .i64 25,.int .u32 x] w fun e w'=>e=.returned (.int .u32 (rotr 25 x))∧w'=w:=by
 go_enter Tryz.func182,Tryz.ntmps182
 have h1:bits BinOp.and IntKind.u64 (IntKind.u64.wrap (-25)) 31=7:=by rfl
 go_wp2
 go_ret
 exact⟨rfl,rfl⟩
end Go.Proofs.YtlpmiimgacfmkaaGreatDoor
