/- Part of the proof. -/
import Derived.Shelf.Small.Bits
import Derived.Shelf.Small.Wraps
import Derived.Shelf.Sort.Plain
import Derived.Test.YtlpmiimgacfmkaaGreatDoorProg
namespace Go.Proofs
open Go.Shelf
def Tryz.lays189_ren: Go.Shelf.Ren := ⟨fun|189 => 166|125 => 172|257 => 196|128 => 198|129 => 199|294 => 237|295 => 238|296 => 239|297 => 240|298 => 241|299 => 242|216 => 243|300 => 244|301 => 245|328 => 269|329 => 249|330 => 250|331 => 270|332 => 271|215 => 175|343 => 280|n => n, fun|28 => 36|3 => 3|46 => 265|0 => 0|51 => 161|53 => 229|4 => 4|183 => 330|182 => 329|131 => 334|5 => 5|9 => 9|218 => 363|222 => 367|228 => 384|229 => 385|n => n, fun|n => n⟩
theorem Tryz.lays189: Go.Proofs.Lays.n189 Tryz.prog Tryz.lays189_ren := {
  mixed := by kernel_rfl
  f125 := Tryz.func172.trans (congrArg some (by kernel_rfl))
  f128 := Tryz.func198.trans (congrArg some (by kernel_rfl))
  f129 := Tryz.func199.trans (congrArg some (by kernel_rfl))
  f189 := Tryz.func166.trans (congrArg some (by kernel_rfl))
  f215 := Tryz.func175.trans (congrArg some (by kernel_rfl))
  f216 := Tryz.func243.trans (congrArg some (by kernel_rfl))
  f257 := Tryz.func196.trans (congrArg some (by kernel_rfl))
  f294 := Tryz.func237.trans (congrArg some (by kernel_rfl))
  f295 := Tryz.func238.trans (congrArg some (by kernel_rfl))
  f296 := Tryz.func239.trans (congrArg some (by kernel_rfl))
  f297 := Tryz.func240.trans (congrArg some (by kernel_rfl))
  f298 := Tryz.func241.trans (congrArg some (by kernel_rfl))
  f299 := Tryz.func242.trans (congrArg some (by kernel_rfl))
  f300 := Tryz.func244.trans (congrArg some (by kernel_rfl))
  f301 := Tryz.func245.trans (congrArg some (by kernel_rfl))
  f328 := Tryz.func269.trans (congrArg some (by kernel_rfl))
  f329 := Tryz.func249.trans (congrArg some (by kernel_rfl))
  f330 := Tryz.func250.trans (congrArg some (by kernel_rfl))
  f331 := Tryz.func270.trans (congrArg some (by kernel_rfl))
  f332 := Tryz.func271.trans (congrArg some (by kernel_rfl))
  f343 := Tryz.func280.trans (congrArg some (by kernel_rfl))
  t0 := Tryz.underlying0
  a0 := Tryz.isAgg0
  z0 := Tryz.sizeOf0
  v0 := Tryz.zeroValue0
  t3 := Tryz.underlying3
  a3 := Tryz.isAgg3
  z3 := Tryz.sizeOf3
  v3 := Tryz.zeroValue3
  t4 := Tryz.underlying4
  a4 := Tryz.isAgg4
  z4 := Tryz.sizeOf4
  v4 := Tryz.zeroValue4
  t5 := Tryz.underlying5
  a5 := Tryz.isAgg5
  z5 := Tryz.sizeOf5
  v5 := Tryz.zeroValue5
  t9 := Tryz.underlying9
  a9 := Tryz.isAgg9
  z9 := Tryz.sizeOf9
  v9 := Tryz.zeroValue9
  t28 := Tryz.underlying36
  a28 := Tryz.isAgg36
  z28 := Tryz.sizeOf36
  v28 := Tryz.zeroValue36
  t46 := Tryz.underlying265
  a46 := Tryz.isAgg265
  z46 := Tryz.sizeOf265
  v46 := Tryz.zeroValue265
  t51 := Tryz.underlying161
  a51 := Tryz.isAgg161
  z51 := Tryz.sizeOf161
  v51 := Tryz.zeroValue161
  t53 := Tryz.underlying229
  a53 := Tryz.isAgg229
  z53 := Tryz.sizeOf229
  v53 := Tryz.zeroValue229
  t131 := Tryz.underlying334
  a131 := Tryz.isAgg334
  z131 := Tryz.sizeOf334
  v131 := Tryz.zeroValue334
  t182 := Tryz.underlying329
  a182 := Tryz.isAgg329
  z182 := Tryz.sizeOf329
  v182 := Tryz.zeroValue329
  t183 := Tryz.underlying330
  a183 := Tryz.isAgg330
  z183 := Tryz.sizeOf330
  v183 := Tryz.zeroValue330
  t218 := Tryz.underlying363
  a218 := Tryz.isAgg363
  z218 := Tryz.sizeOf363
  v218 := Tryz.zeroValue363
  t222 := Tryz.underlying367
  a222 := Tryz.isAgg367
  z222 := Tryz.sizeOf367
  v222 := Tryz.zeroValue367
  t228 := Tryz.underlying384
  a228 := Tryz.isAgg384
  z228 := Tryz.sizeOf384
  v228 := Tryz.zeroValue384
  t229 := Tryz.underlying385
  a229 := Tryz.isAgg385
  z229 := Tryz.sizeOf385
  v229 := Tryz.zeroValue385 }
open Go.Sort Go.RowKit in
theorem Tryz.slices_Sort_int(eX off cap : Nat)(zs : List Int)(w : World)(hH : Holds (Value.int .i64) w eX off zs.toArray)(hblk : eX < w.heap.size)(hsz : zs.length < 4611686018427387904):
    Calls Tryz.prog 166 #[.slice (some ⟨eX, off, none⟩) zs.length cap] w λe w' =>
      e = .returned (.tuple #[]) ∧ ∃n os, w' = grow (putRow (Value.int .i64) (Sort.ahead w n) eX off (zs.mergeSort λx y => decide (x ≤ y)).toArray) os := Any.slices_Sort_int Tryz.lays189 eX off cap zs w hH hblk hsz

end Go.Proofs
