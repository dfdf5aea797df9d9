/- More library contracts that this seat uses, laid by the shelf at its translation. -/
import Derived.Test.YtmhfioimgllgeaaGreatDoorR39
import Derived.Shelf.Sort.Plain
import Derived.Shelf.Slices.In.SortNone
namespace Go.Proofs
open Go.Shelf
def Tryz.lays190_ren :Go.Shelf.Ren:=⟨fun|190=>40|125=>90|258=>89|128=>218|129=>219|302=>209|303=>210|304=>211|305=>212|306=>213|307=>214|308=>215|309=>216|310=>217|333=>274|329=>275|330=>276|334=>277|335=>278|336=>279|344=>309|n=>n,fun|31=>23|9=>9|3=>3|46=>135|0=>0|51=>190|53=>114|4=>4|183=>183|182=>182|131=>158|5=>5|218=>225|222=>229|228=>263|229=>264|n=>n,fun|n=>n⟩
theorem Tryz.lays190 :Go.Proofs.Lays.n190 Tryz.prog Tryz.lays190_ren:= {
 mixed:=by kernel_rfl
 f125:=Tryz.func90.trans (congrArg some (by kernel_rfl))
 f128:=Tryz.func218.trans (congrArg some (by kernel_rfl))
 f129:=Tryz.func219.trans (congrArg some (by kernel_rfl))
 f190:=Tryz.func40.trans (congrArg some (by kernel_rfl))
 f258:=Tryz.func89.trans (congrArg some (by kernel_rfl))
 f302:=Tryz.func209.trans (congrArg some (by kernel_rfl))
 f303:=Tryz.func210.trans (congrArg some (by kernel_rfl))
 f304:=Tryz.func211.trans (congrArg some (by kernel_rfl))
 f305:=Tryz.func212.trans (congrArg some (by kernel_rfl))
 f306:=Tryz.func213.trans (congrArg some (by kernel_rfl))
 f307:=Tryz.func214.trans (congrArg some (by kernel_rfl))
 f308:=Tryz.func215.trans (congrArg some (by kernel_rfl))
 f309:=Tryz.func216.trans (congrArg some (by kernel_rfl))
 f310:=Tryz.func217.trans (congrArg some (by kernel_rfl))
 f329:=Tryz.func275.trans (congrArg some (by kernel_rfl))
 f330:=Tryz.func276.trans (congrArg some (by kernel_rfl))
 f333:=Tryz.func274.trans (congrArg some (by kernel_rfl))
 f334:=Tryz.func277.trans (congrArg some (by kernel_rfl))
 f335:=Tryz.func278.trans (congrArg some (by kernel_rfl))
 f336:=Tryz.func279.trans (congrArg some (by kernel_rfl))
 f344:=Tryz.func309.trans (congrArg some (by kernel_rfl))
 t0:=Tryz.underlying0
 a0:=Tryz.isAgg0
 z0:=Tryz.sizeOf0
 v0:=Tryz.zeroValue0
 t3:=Tryz.underlying3
 a3:=Tryz.isAgg3
 z3:=Tryz.sizeOf3
 v3:=Tryz.zeroValue3
 t4:=Tryz.underlying4
 a4:=Tryz.isAgg4
 z4:=Tryz.sizeOf4
 v4:=Tryz.zeroValue4
 t5:=Tryz.underlying5
 a5:=Tryz.isAgg5
 z5:=Tryz.sizeOf5
 v5:=Tryz.zeroValue5
 t9:=Tryz.underlying9
 a9:=Tryz.isAgg9
 z9:=Tryz.sizeOf9
 v9:=Tryz.zeroValue9
 t31:=Tryz.underlying23
 a31:=Tryz.isAgg23
 z31:=Tryz.sizeOf23
 v31:=Tryz.zeroValue23
 t46:=Tryz.underlying135
 a46:=Tryz.isAgg135
 z46:=Tryz.sizeOf135
 v46:=Tryz.zeroValue135
 t51:=Tryz.underlying190
 a51:=Tryz.isAgg190
 z51:=Tryz.sizeOf190
 v51:=Tryz.zeroValue190
 t53:=Tryz.underlying114
 a53:=Tryz.isAgg114
 z53:=Tryz.sizeOf114
 v53:=Tryz.zeroValue114
 t131:=Tryz.underlying158
 a131:=Tryz.isAgg158
 z131:=Tryz.sizeOf158
 v131:=Tryz.zeroValue158
 t182:=Tryz.underlying182
 a182:=Tryz.isAgg182
 z182:=Tryz.sizeOf182
 v182:=Tryz.zeroValue182
 t183:=Tryz.underlying183
 a183:=Tryz.isAgg183
 z183:=Tryz.sizeOf183
 v183:=Tryz.zeroValue183
 t218:=Tryz.underlying225
 a218:=Tryz.isAgg225
 z218:=Tryz.sizeOf225
 v218:=Tryz.zeroValue225
 t222:=Tryz.underlying229
 a222:=Tryz.isAgg229
 z222:=Tryz.sizeOf229
 v222:=Tryz.zeroValue229
 t228:=Tryz.underlying263
 a228:=Tryz.isAgg263
 z228:=Tryz.sizeOf263
 v228:=Tryz.zeroValue263
 t229:=Tryz.underlying264
 a229:=Tryz.isAgg264
 z229:=Tryz.sizeOf264
 v229:=Tryz.zeroValue264}
open Go.Sort Go.RowKit in
theorem Tryz.slices_Sort_string (blk off cap:Nat) (ss:List (List UInt8)) (w:World) (hH:Holds encStr w blk off ss.toArray) (hblk:blk<w.heap.size) (hsz:ss.length<4611686018427387904):
 Calls Tryz.prog 40 #[.slice (some ⟨blk,off,none⟩) ss.length cap] w fun e w'=>
  e= .returned (.tuple #[])∧∃n os,w'=grow (putRow encStr (Sort.ahead w n) blk off (ss.mergeSort fun x y=>decide (x≤y)).toArray) os:=Any.slices_Sort_string Tryz.lays190 blk off cap ss w hH hblk hsz
theorem Tryz.slices_Sort_string_none (p:Option Addr) (cap:Nat) (w:World):
 Calls Tryz.prog 40 #[.slice p 0 cap] w fun e w'=>e= .returned (.tuple #[])∧w'=w:=Any.slices_Sort_string_none Tryz.lays190 p cap w
end Go.Proofs
