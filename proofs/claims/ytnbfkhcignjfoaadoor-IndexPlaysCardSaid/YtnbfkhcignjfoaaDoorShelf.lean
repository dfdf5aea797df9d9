/- The library contracts that this seat uses, laid by the shelf at its translation: slices.Sort, slices.DeleteFunc. -/
import Derived.Shelf.Sort.Plain
import Derived.Shelf.Slices.In.SortNone
import Derived.Shelf.SlicesE.DeleteFunc
import Derived.Test.YtnbfkhcignjfoaaDoorProg
namespace Go.Proofs
open Go.Shelf
def Tryd.lays189_ren : Go.Shelf.Ren := ⟨fun | 189 => 40 | 125 => 46 | 257 => 45 | 128 => 56 | 129 => 57 | 294 => 47 | 295 => 48 | 296 => 49 | 297 => 50 | 298 => 51 | 299 => 52 | 216 => 53 | 300 => 54 | 301 => 55 | 328 => 58 | 329 => 59 | 330 => 60 | 331 => 61 | 332 => 62 | 215 => 63 | 343 => 64 | n => n, fun | 28 => 40 | 3 => 3 | 46 => 88 | 0 => 0 | 51 => 110 | 53 => 112 | 4 => 4 | 183 => 102 | 182 => 101 | 131 => 107 | 5 => 5 | 9 => 9 | 218 => 113 | 222 => 117 | 228 => 119 | 229 => 120 | n => n, fun | n => n⟩
theorem Tryd.lays189 : Go.Proofs.Lays.n189 Tryd.prog Tryd.lays189_ren := {
  mixed := by kernel_rfl
  f125 := Tryd.func46.trans (congrArg some (by kernel_rfl))
  f128 := Tryd.func56.trans (congrArg some (by kernel_rfl))
  f129 := Tryd.func57.trans (congrArg some (by kernel_rfl))
  f189 := Tryd.func40.trans (congrArg some (by kernel_rfl))
  f215 := Tryd.func63.trans (congrArg some (by kernel_rfl))
  f216 := Tryd.func53.trans (congrArg some (by kernel_rfl))
  f257 := Tryd.func45.trans (congrArg some (by kernel_rfl))
  f294 := Tryd.func47.trans (congrArg some (by kernel_rfl))
  f295 := Tryd.func48.trans (congrArg some (by kernel_rfl))
  f296 := Tryd.func49.trans (congrArg some (by kernel_rfl))
  f297 := Tryd.func50.trans (congrArg some (by kernel_rfl))
  f298 := Tryd.func51.trans (congrArg some (by kernel_rfl))
  f299 := Tryd.func52.trans (congrArg some (by kernel_rfl))
  f300 := Tryd.func54.trans (congrArg some (by kernel_rfl))
  f301 := Tryd.func55.trans (congrArg some (by kernel_rfl))
  f328 := Tryd.func58.trans (congrArg some (by kernel_rfl))
  f329 := Tryd.func59.trans (congrArg some (by kernel_rfl))
  f330 := Tryd.func60.trans (congrArg some (by kernel_rfl))
  f331 := Tryd.func61.trans (congrArg some (by kernel_rfl))
  f332 := Tryd.func62.trans (congrArg some (by kernel_rfl))
  f343 := Tryd.func64.trans (congrArg some (by kernel_rfl))
  t0 := Tryd.underlying0
  a0 := Tryd.isAgg0
  z0 := Tryd.sizeOf0
  v0 := Tryd.zeroValue0
  t3 := Tryd.underlying3
  a3 := Tryd.isAgg3
  z3 := Tryd.sizeOf3
  v3 := Tryd.zeroValue3
  t4 := Tryd.underlying4
  a4 := Tryd.isAgg4
  z4 := Tryd.sizeOf4
  v4 := Tryd.zeroValue4
  t5 := Tryd.underlying5
  a5 := Tryd.isAgg5
  z5 := Tryd.sizeOf5
  v5 := Tryd.zeroValue5
  t9 := Tryd.underlying9
  a9 := Tryd.isAgg9
  z9 := Tryd.sizeOf9
  v9 := Tryd.zeroValue9
  t28 := Tryd.underlying40
  a28 := Tryd.isAgg40
  z28 := Tryd.sizeOf40
  v28 := Tryd.zeroValue40
  t46 := Tryd.underlying88
  a46 := Tryd.isAgg88
  z46 := Tryd.sizeOf88
  v46 := Tryd.zeroValue88
  t51 := Tryd.underlying110
  a51 := Tryd.isAgg110
  z51 := Tryd.sizeOf110
  v51 := Tryd.zeroValue110
  t53 := Tryd.underlying112
  a53 := Tryd.isAgg112
  z53 := Tryd.sizeOf112
  v53 := Tryd.zeroValue112
  t131 := Tryd.underlying107
  a131 := Tryd.isAgg107
  z131 := Tryd.sizeOf107
  v131 := Tryd.zeroValue107
  t182 := Tryd.underlying101
  a182 := Tryd.isAgg101
  z182 := Tryd.sizeOf101
  v182 := Tryd.zeroValue101
  t183 := Tryd.underlying102
  a183 := Tryd.isAgg102
  z183 := Tryd.sizeOf102
  v183 := Tryd.zeroValue102
  t218 := Tryd.underlying113
  a218 := Tryd.isAgg113
  z218 := Tryd.sizeOf113
  v218 := Tryd.zeroValue113
  t222 := Tryd.underlying117
  a222 := Tryd.isAgg117
  z222 := Tryd.sizeOf117
  v222 := Tryd.zeroValue117
  t228 := Tryd.underlying119
  a228 := Tryd.isAgg119
  z228 := Tryd.sizeOf119
  v228 := Tryd.zeroValue119
  t229 := Tryd.underlying120
  a229 := Tryd.isAgg120
  z229 := Tryd.sizeOf120
  v229 := Tryd.zeroValue120 }
open Go.Sort Go.RowKit in
theorem Tryd.slices_Sort_int (blk off cap : Nat) (zs : List Int) (w : World) (hH : Holds (Value.int .i64) w blk off zs.toArray) (hblk : blk < w.heap.size) (hsz : zs.length < 4611686018427387904) :
    Calls Tryd.prog 40 #[.slice (some ⟨blk, off, none⟩) zs.length cap] w fun e w' =>
      e = .returned (.tuple #[]) ∧ ∃ n os, w' = grow (putRow (Value.int .i64) (Sort.ahead w n) blk off (zs.mergeSort fun x y => decide (x ≤ y)).toArray) os := Any.slices_Sort_int Tryd.lays189 blk off cap zs w hH hblk hsz
open Go.RowKit Go.Sort in
theorem Tryd.slices_Sort_int_none (p : Option Addr) (cap : Nat) (w : World) :
    Calls Tryd.prog 40 #[.slice p 0 cap] w fun e w' => e = .returned (.tuple #[]) ∧ w' = w := Any.slices_Sort_int_none Tryd.lays189 p cap w
def Tryd.laysDF_ren : Go.Shelf.Ren := ⟨fun | 10 => 37 | 6 => 43 | n => n, fun | 22 => 40 | 23 => 3 | 25 => 38 | 3 => 3 | 4 => 4 | 0 => 0 | n => n, fun | n => n⟩
theorem Tryd.laysDF : Go.Proofs.SlLaysH.n10 Tryd.prog Tryd.laysDF_ren := {
  mixed := by kernel_rfl
  f6 := ⟨Tryd.f43.name, by decide, Tryd.func43.trans (congrArg some (by kernel_rfl))⟩
  f10 := ⟨Tryd.f37.name, by decide, Tryd.func37.trans (congrArg some (by kernel_rfl))⟩
  t0 := Tryd.underlying0
  a0 := Tryd.isAgg0
  z0 := Tryd.sizeOf0
  v0 := Tryd.zeroValue0
  t3 := Tryd.underlying3
  a3 := Tryd.isAgg3
  z3 := Tryd.sizeOf3
  v3 := Tryd.zeroValue3
  t4 := Tryd.underlying4
  a4 := Tryd.isAgg4
  z4 := Tryd.sizeOf4
  v4 := Tryd.zeroValue4
  t22 := Tryd.underlying40
  a22 := Tryd.isAgg40
  z22 := Tryd.sizeOf40
  v22 := Tryd.zeroValue40
  a23 := Tryd.isAgg3
  z23 := Tryd.sizeOf3
  t25 := Tryd.underlying38
  a25 := Tryd.isAgg38
  z25 := Tryd.sizeOf38
  v25 := Tryd.zeroValue38 }
end Go.Proofs
