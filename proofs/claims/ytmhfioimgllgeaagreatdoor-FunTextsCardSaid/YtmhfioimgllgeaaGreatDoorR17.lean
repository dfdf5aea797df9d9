/- Merged: Lib, Lib3. -/
import Derived.Test.YtmhfioimgllgeaaGreatDoorProg
import Derived.Test.YtmhfioimgllgeaaGreatDoorR03
import Derived.Test.YtmhfioimgllgeaaGreatDoorR13
import Derived.Shelf.Strings.Builder1
import Derived.Shelf.Strings.Builder2
import Derived.Shelf.Strings.OnBuilder
import Derived.Shelf.Strings.Trim
import Derived.Shelf.Small.Utf8
import Derived.Shelf.Small.Bits
import Derived.Shelf.Small.Strs
import Derived.Shelf.Small.Wraps
import Derived.Shelf.Strings.BuilderF
import Derived.Shelf.Strings.BuilderK
import Derived.Shelf.Strconv.Itoa0
import Derived.Shelf.Strings.Search1
import Derived.Shelf.Strings.Search2
import Derived.Shelf.Strings.Search3
import Derived.Shelf.Strings.Cut
import Derived.Shelf.Strings.Count
import Derived.Shelf.LaysM
import Derived.Shelf.Strings.Shaped
import Derived.Shelf.GgClosure.StringsIndexFunc
import Derived.Shelf.GgClosure.StringsIndexFuncTop
import Derived.Shelf.Strings.Prefix
import Derived.Shelf.Strings.Split
import Derived.Shelf.Strings.Replace
import Derived.Shelf.Strings.Runes
import Derived.Shelf.Strings.AsciiSet
import Derived.Shelf.Unicode.DecodeSlow
import Derived.Shelf.Unicode.DecodeAny
import Derived.Shelf.Slices.Equal
import Derived.Shelf.Slices.Clone
import Derived.Shelf.SlicesE.Equal
import Derived.Shelf.SlicesE.Clone
import Derived.Shelf.Unicode.ValidAny
import Derived.Shelf.SlicesQ.IndexFunc
namespace Go.Proofs
open Go.Shelf
def Tryz.lays196_ren :Go.Shelf.Ren:=⟨fun|196=>225|259=>287|n=>n,fun|9=>9|4=>4|3=>3|5=>5|12=>12|119=>237|0=>0|46=>135|139=>240|138=>239|53=>114|n=>n,fun|3=>2|4=>3|n=>n⟩
theorem Tryz.lays196 :Go.Proofs.Lays.n196 Tryz.prog Tryz.lays196_ren:= {
 mixed:=by kernel_rfl
 f196:=Tryz.func225.trans (congrArg some (by kernel_rfl))
 f259:=Tryz.func287.trans (congrArg some (by kernel_rfl))
 t0:=Tryz.underlying0
 a0:=Tryz.isAgg0
 z0:=Tryz.sizeOf0
 v0:=Tryz.zeroValue0
 t3:=Tryz.underlying3
 a3:=Tryz.isAgg3
 z3:=Tryz.sizeOf3
 v3:=Tryz.zeroValue3
 t4:=Tryz.underlying4
 a4:=Tryz.isAgg4
 z4:=Tryz.sizeOf4
 v4:=Tryz.zeroValue4
 t5:=Tryz.underlying5
 a5:=Tryz.isAgg5
 z5:=Tryz.sizeOf5
 v5:=Tryz.zeroValue5
 t9:=Tryz.underlying9
 a9:=Tryz.isAgg9
 z9:=Tryz.sizeOf9
 v9:=Tryz.zeroValue9
 t12:=Tryz.underlying12
 a12:=Tryz.isAgg12
 z12:=Tryz.sizeOf12
 v12:=Tryz.zeroValue12
 t46:=Tryz.underlying135
 a46:=Tryz.isAgg135
 z46:=Tryz.sizeOf135
 v46:=Tryz.zeroValue135
 t53:=Tryz.underlying114
 a53:=Tryz.isAgg114
 z53:=Tryz.sizeOf114
 v53:=Tryz.zeroValue114
 t119:=Tryz.underlying237
 a119:=Tryz.isAgg237
 z119:=Tryz.sizeOf237
 t138:=Tryz.underlying239
 a138:=Tryz.isAgg239
 z138:=Tryz.sizeOf239
 v138:=Tryz.zeroValue239
 t139:=Tryz.underlying240
 a139:=Tryz.isAgg240
 z139:=Tryz.sizeOf240
 v139:=Tryz.zeroValue240
 g3:=by kernel_rfl
 g4:=by kernel_rfl}
def Tryz.laysE110_ren :Go.Shelf.Ren:=⟨fun|41=>93|n=>n,fun|22=>23|23=>9|4=>4|n=>n,fun|n=>n⟩
theorem Tryz.laysE110 :Go.Proofs.SlLaysE0.n41 Tryz.prog Tryz.laysE110_ren:= {
 mixed:=by kernel_rfl
 f41:=⟨Tryz.f93.name,by decide,Tryz.func93.trans (congrArg some (by kernel_rfl))⟩
 t4:=Tryz.underlying4
 a4:=Tryz.isAgg4
 z4:=Tryz.sizeOf4
 v4:=Tryz.zeroValue4
 t22:=Tryz.underlying23
 a22:=Tryz.isAgg23
 z22:=Tryz.sizeOf23
 v22:=Tryz.zeroValue23}
def Tryz.lays106_ren :Go.Shelf.Ren:=⟨fun|106=>109|213=>232|265=>291|n=>n,fun|9=>9|3=>3|n=>n,fun|n=>n⟩
theorem Tryz.lays106 :Go.Proofs.Lays.n106 Tryz.prog Tryz.lays106_ren:= {
 mixed:=by kernel_rfl
 f106:=Tryz.func109.trans (congrArg some (by kernel_rfl))
 f213:=Tryz.func232.trans (congrArg some (by kernel_rfl))
 f265:=Tryz.func291.trans (congrArg some (by kernel_rfl))
 t3:=Tryz.underlying3
 a3:=Tryz.isAgg3
 z3:=Tryz.sizeOf3
 v3:=Tryz.zeroValue3
 t9:=Tryz.underlying9
 a9:=Tryz.isAgg9
 z9:=Tryz.sizeOf9
 v9:=Tryz.zeroValue9}
open Go.RowKit in
theorem Tryz.strings_Compare (a b:ByteArray) (w:World):
 Calls Tryz.prog 109 #[.string a,.string b] w fun e w'=>e= .returned (.int .i64 (Lib.compareBytes a.data.toList b.data.toList))∧w'=w:=Any.strings_Compare Tryz.lays106 a b w
def Tryz.lays122_ren :Go.Shelf.Ren:=⟨fun|122=>65|215=>111|n=>n,fun|3=>3|4=>4|n=>n,fun|n=>n⟩
theorem Tryz.lays122 :Go.Proofs.Lays.n122 Tryz.prog Tryz.lays122_ren:= {
 mixed:=by kernel_rfl
 f122:=Tryz.func65.trans (congrArg some (by kernel_rfl))
 f215:=Tryz.func111.trans (congrArg some (by kernel_rfl))
 t3:=Tryz.underlying3
 a3:=Tryz.isAgg3
 z3:=Tryz.sizeOf3
 v3:=Tryz.zeroValue3
 t4:=Tryz.underlying4
 a4:=Tryz.isAgg4
 z4:=Tryz.sizeOf4
 v4:=Tryz.zeroValue4}
open Go.RowKit in
theorem Tryz.cmp_Compare_int (x y:Int) (w:World):
 Calls Tryz.prog 65 #[.int .i64 x,.int .i64 y] w fun e w'=>e= .returned (.int .i64 (Lib.compareInt x y))∧w'=w:=Any.cmp_Compare_int Tryz.lays122 x y w
def Tryz.laysGw17_ren :Go.Shelf.Ren:=⟨fun|17=>226|15=>288|20=>314|n=>n,fun|9=>9|23=>192|4=>4|3=>3|0=>0|21=>21|n=>n,fun|n=>n⟩
theorem Tryz.laysGw17 :Go.Proofs.LaysGw.n17 Tryz.prog Tryz.laysGw17_ren:= {
 mixed:=by kernel_rfl
 f15:=Tryz.func288.trans (congrArg some (by kernel_rfl))
 f17:=Tryz.func226.trans (congrArg some (by kernel_rfl))
 f20:=Tryz.func314.trans (congrArg some (by kernel_rfl))
 t0:=Tryz.underlying0
 a0:=Tryz.isAgg0
 z0:=Tryz.sizeOf0
 v0:=Tryz.zeroValue0
 i0:=by kernel_rfl
 t3:=Tryz.underlying3
 a3:=Tryz.isAgg3
 z3:=Tryz.sizeOf3
 v3:=Tryz.zeroValue3
 i3:=by kernel_rfl
 t4:=Tryz.underlying4
 a4:=Tryz.isAgg4
 z4:=Tryz.sizeOf4
 v4:=Tryz.zeroValue4
 i4:=by kernel_rfl
 t9:=Tryz.underlying9
 a9:=Tryz.isAgg9
 z9:=Tryz.sizeOf9
 v9:=Tryz.zeroValue9
 i9:=by kernel_rfl
 t21:=Tryz.underlying21
 a21:=Tryz.isAgg21
 z21:=Tryz.sizeOf21
 v21:=Tryz.zeroValue21
 i21:=by kernel_rfl
 t23:=Tryz.underlying192
 a23:=Tryz.isAgg192
 z23:=Tryz.sizeOf192
 v23:=Tryz.zeroValue192
 i23:=by kernel_rfl}
open Go.RowKit Go.Lib in
theorem Tryz.strings_ContainsFunc (g:Nat) (lb:Array Value) (eg:∀args w,(callFunc g args).run Tryz.prog w= .ok (.enter g args) w) (p:Nat→Bool) (s:ByteArray) (w:World) (hp:PredAt Tryz.prog g lb encR p w):
 Calls Tryz.prog 226 #[.string s,.func (.func g) #[] lb] w fun e w'=>e= .returned (.bool (decide (0≤Lib.idxFunc p true s)))∧Below w.heap.size w w':=Any.strings_ContainsFunc Tryz.laysGw17 g lb eg p s w hp
def Tryz.lays193_ren :Go.Shelf.Ren:=⟨fun|193=>55|n=>n,fun|31=>23|9=>9|4=>4|3=>3|0=>0|n=>n,fun|n=>n⟩
theorem Tryz.lays193 :Go.Proofs.Lays.n193 Tryz.prog Tryz.lays193_ren:= {
 mixed:=by kernel_rfl
 f193:=Tryz.func55.trans (congrArg some (by kernel_rfl))
 t0:=Tryz.underlying0
 a0:=Tryz.isAgg0
 z0:=Tryz.sizeOf0
 v0:=Tryz.zeroValue0
 t3:=Tryz.underlying3
 a3:=Tryz.isAgg3
 z3:=Tryz.sizeOf3
 v3:=Tryz.zeroValue3
 t4:=Tryz.underlying4
 a4:=Tryz.isAgg4
 z4:=Tryz.sizeOf4
 v4:=Tryz.zeroValue4
 t9:=Tryz.underlying9
 a9:=Tryz.isAgg9
 z9:=Tryz.sizeOf9
 v9:=Tryz.zeroValue9
 t31:=Tryz.underlying23
 a31:=Tryz.isAgg23
 z31:=Tryz.sizeOf23
 v31:=Tryz.zeroValue23}
open Go.RowKit Go.Lib in
theorem Tryz.slices_Equal_string (b1 o1 n c b2 o2 m d:Nat) (xs ys:List ByteArray) (w:World) (hx:n≤xs.length) (hy:m≤ys.length) (hbig:n≤9223372036854775807) (hbig2:m≤9223372036854775807) (hc1:∀j,j<xs.length→w.cell? ⟨b1,o1+j,none⟩=some (.string (xs.getD j ByteArray.empty))) (hc2:∀j,j<ys.length→w.cell? ⟨b2,o2+j,none⟩=some (.string (ys.getD j ByteArray.empty))):
 Calls Tryz.prog 55 #[.slice (some ⟨b1,o1,none⟩) n c,.slice (some ⟨b2,o2,none⟩) m d] w fun e w'=>e= .returned (.bool (decide (xs.take n=ys.take m)))∧∃q,w'=w.drewN q:=Any.slices_Equal_string Tryz.lays193 b1 o1 n c b2 o2 m d xs ys w hx hy hbig hbig2 hc1 hc2
open Go.RowKit Go.Lib in
theorem Tryz.slices_Equal_string_empty (a1 a2:Option Addr) (c m d:Nat) (w:World) (hbig2:m≤9223372036854775807):
 Calls Tryz.prog 55 #[.slice a1 0 c,.slice a2 m d] w fun e w'=>e= .returned (.bool (decide (m=0)))∧w'=w:=Any.slices_Equal_string_empty Tryz.lays193 a1 a2 c m d w hbig2
end Go.Proofs
namespace Go.Proofs
open Go.Shelf
def Tryz.laysF92_ren :Go.Shelf.Ren:=⟨fun|41=>92|n=>n,fun|22=>31|23=>39|4=>4|n=>n,fun|n=>n⟩
theorem Tryz.laysF92 :Go.Proofs.SlLaysE0.n41 Tryz.prog Tryz.laysF92_ren:= {
 mixed:=by kernel_rfl
 f41:=⟨Tryz.f92.name,by decide,Tryz.func92.trans (congrArg some (by kernel_rfl))⟩
 t4:=Tryz.underlying4
 a4:=Tryz.isAgg4
 z4:=Tryz.sizeOf4
 v4:=Tryz.zeroValue4
 t22:=Tryz.underlying31
 a22:=Tryz.isAgg31
 z22:=Tryz.sizeOf31
 v22:=Tryz.zeroValue31}
def Tryz.laysF93_ren :Go.Shelf.Ren:=⟨fun|41=>93|n=>n,fun|22=>23|23=>9|4=>4|n=>n,fun|n=>n⟩
theorem Tryz.laysF93 :Go.Proofs.SlLaysE0.n41 Tryz.prog Tryz.laysF93_ren:= {
 mixed:=by kernel_rfl
 f41:=⟨Tryz.f93.name,by decide,Tryz.func93.trans (congrArg some (by kernel_rfl))⟩
 t4:=Tryz.underlying4
 a4:=Tryz.isAgg4
 z4:=Tryz.sizeOf4
 v4:=Tryz.zeroValue4
 t22:=Tryz.underlying23
 a22:=Tryz.isAgg23
 z22:=Tryz.sizeOf23
 v22:=Tryz.zeroValue23}
def Tryz.laysF94_ren :Go.Shelf.Ren:=⟨fun|41=>94|n=>n,fun|22=>35|23=>93|4=>4|n=>n,fun|n=>n⟩
theorem Tryz.laysF94 :Go.Proofs.SlLaysE0.n41 Tryz.prog Tryz.laysF94_ren:= {
 mixed:=by kernel_rfl
 f41:=⟨Tryz.f94.name,by decide,Tryz.func94.trans (congrArg some (by kernel_rfl))⟩
 t4:=Tryz.underlying4
 a4:=Tryz.isAgg4
 z4:=Tryz.sizeOf4
 v4:=Tryz.zeroValue4
 t22:=Tryz.underlying35
 a22:=Tryz.isAgg35
 z22:=Tryz.sizeOf35
 v22:=Tryz.zeroValue35}
end Go.Proofs
