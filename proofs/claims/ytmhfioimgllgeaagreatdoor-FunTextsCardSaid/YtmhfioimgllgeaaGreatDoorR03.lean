/- The library contracts that this seat uses, laid by the shelf at its translation. -/
import Derived.Test.YtmhfioimgllgeaaGreatDoorProg
import Derived.Shelf.Strings.Builder1
import Derived.Shelf.Strings.Trim
import Derived.Shelf.Small.Utf8
import Derived.Shelf.Small.Bits
import Derived.Shelf.Small.Strs
import Derived.Shelf.Small.Wraps
import Derived.Shelf.Strings.BuilderF
import Derived.Shelf.Strings.BuilderK
import Derived.Shelf.Strconv.Itoa0
import Derived.Shelf.Strings.Search1
import Derived.Shelf.Strings.Search2
import Derived.Shelf.Strings.Cut
import Derived.Shelf.LaysM
import Derived.Shelf.Strings.Shaped
import Derived.Shelf.Strings.Prefix
import Derived.Shelf.Strings.AsciiSet
import Derived.Shelf.Bits.Mul64
namespace Go.Proofs
open Go.Shelf
def Tryz.lays169_ren :Go.Shelf.Ren:=⟨fun|169=>81|n=>n,fun|70=>120|9=>9|0=>0|72=>122|37=>85|127=>154|3=>3|5=>5|n=>n,fun|n=>n⟩
theorem Tryz.lays169 :Go.Proofs.Lays.n169 Tryz.prog Tryz.lays169_ren:= {
 mixed:=by kernel_rfl
 f169:=Tryz.func81.trans (congrArg some (by kernel_rfl))
 t0:=Tryz.underlying0
 a0:=Tryz.isAgg0
 z0:=Tryz.sizeOf0
 v0:=Tryz.zeroValue0
 t3:=Tryz.underlying3
 a3:=Tryz.isAgg3
 z3:=Tryz.sizeOf3
 v3:=Tryz.zeroValue3
 t9:=Tryz.underlying9
 a9:=Tryz.isAgg9
 z9:=Tryz.sizeOf9
 v9:=Tryz.zeroValue9
 t37:=Tryz.underlying85
 a37:=Tryz.isAgg85
 z37:=Tryz.sizeOf85
 v37:=Tryz.zeroValue85
 t70:=Tryz.underlying120
 a70:=Tryz.isAgg120
 z70:=Tryz.sizeOf120
 v70:=Tryz.zeroValue120
 t72:=Tryz.underlying122
 a72:=Tryz.isAgg122
 z72:=Tryz.sizeOf122
 v72:=Tryz.zeroValue122
 t127:=Tryz.underlying154
 a127:=Tryz.isAgg154
 z127:=Tryz.sizeOf154
 v127:=Tryz.zeroValue154}
theorem Tryz.Builder_Extra_169 :Builder.Extra Tryz.prog Tryz.lays169_ren:= {
 sizeBuilder:=by kernel_rfl
 liesBuilder:=by kernel_rfl
 t5:=Tryz.underlying5
 a5:=Tryz.isAgg5
 z5:=Tryz.sizeOf5
 v5:=Tryz.zeroValue5
 infoByte:=by kernel_rfl
 cellsByte:=by kernel_rfl
 sizeByte:=by kernel_rfl
 neB5:=by decide}
open Go.RowKit in
theorem Tryz.Builder_String_any (B b:Nat) (l:List UInt8) (w:World) (h:Lib.IsBuilder 122 5 B b (Lib.byteCells l) w) (hBw:B≤w.heap.size):
 Calls Tryz.prog 81 #[.pointer (some ⟨b,0,none⟩)] w fun e w'=>e= .returned (.string ⟨l.toArray⟩)∧Below B w w':=Any.Builder_String_any Tryz.lays169 Tryz.Builder_Extra_169 B b l w h hBw
def Tryz.lays134_ren :Go.Shelf.Ren:=⟨fun|134=>233|129=>219|n=>n,fun|53=>114|3=>3|4=>4|46=>135|5=>5|9=>9|n=>n,fun|n=>n⟩
theorem Tryz.lays134 :Go.Proofs.Lays.n134 Tryz.prog Tryz.lays134_ren:= {
 mixed:=by kernel_rfl
 f129:=Tryz.func219.trans (congrArg some (by kernel_rfl))
 f134:=Tryz.func233.trans (congrArg some (by kernel_rfl))
 t3:=Tryz.underlying3
 a3:=Tryz.isAgg3
 z3:=Tryz.sizeOf3
 v3:=Tryz.zeroValue3
 t4:=Tryz.underlying4
 a4:=Tryz.isAgg4
 z4:=Tryz.sizeOf4
 v4:=Tryz.zeroValue4
 t5:=Tryz.underlying5
 a5:=Tryz.isAgg5
 z5:=Tryz.sizeOf5
 v5:=Tryz.zeroValue5
 t9:=Tryz.underlying9
 a9:=Tryz.isAgg9
 z9:=Tryz.sizeOf9
 v9:=Tryz.zeroValue9
 t46:=Tryz.underlying135
 a46:=Tryz.isAgg135
 z46:=Tryz.sizeOf135
 v46:=Tryz.zeroValue135
 t53:=Tryz.underlying114
 a53:=Tryz.isAgg114
 z53:=Tryz.sizeOf114
 v53:=Tryz.zeroValue114}
theorem Tryz.bits_LeadingZeros64 (x:Int) (w:World) (h0:0≤x) (h1:x≤18446744073709551615):
 Calls Tryz.prog 233 #[.int .u64 x] w fun e w'=>e= .returned (.int .i64 (64-(Lib.bitLen x.toNat:Int)))∧w'=w:=Any.bits_LeadingZeros64 Tryz.lays134 x w h0 h1
def Tryz.lays103_ren :Go.Shelf.Ren:=⟨fun|103=>310|210=>332|206=>316|n=>n,fun|9=>9|4=>4|24=>266|3=>3|n=>n,fun|n=>n⟩
theorem Tryz.lays103 :Go.Proofs.Lays.n103 Tryz.prog Tryz.lays103_ren:= {
 mixed:=by kernel_rfl
 f103:=Tryz.func310.trans (congrArg some (by kernel_rfl))
 f206:=Tryz.func316.trans (congrArg some (by kernel_rfl))
 f210:=Tryz.func332.trans (congrArg some (by kernel_rfl))
 t3:=Tryz.underlying3
 a3:=Tryz.isAgg3
 z3:=Tryz.sizeOf3
 v3:=Tryz.zeroValue3
 t4:=Tryz.underlying4
 a4:=Tryz.isAgg4
 z4:=Tryz.sizeOf4
 v4:=Tryz.zeroValue4
 t9:=Tryz.underlying9
 a9:=Tryz.isAgg9
 z9:=Tryz.sizeOf9
 v9:=Tryz.zeroValue9
 t24:=Tryz.underlying266
 a24:=Tryz.isAgg266
 z24:=Tryz.sizeOf266
 v24:=Tryz.zeroValue266}
open Go.RowKit in
theorem Tryz.strings_CutPrefix (s p:ByteArray) (w:World):
 Calls Tryz.prog 310 #[.string s,.string p] w fun e w'=>e= .returned (.tuple #[.string ⟨(Lib.trimPrefix s.data.toList p.data.toList).toArray⟩,.bool (Lib.hasPrefix s.data.toList p.data.toList)])∧w'=w:=Any.strings_CutPrefix Tryz.lays103 s p w
def Tryz.lays145_ren :Go.Shelf.Ren:=⟨fun|145=>311|220=>333|219=>299|217=>320|225=>321|224=>322|267=>323|266=>336|314=>337|n=>n,fun|9=>9|4=>4|59=>268|3=>3|5=>5|46=>135|146=>273|51=>190|n=>n,fun|1=>4|n=>n⟩
theorem Tryz.lays145 :Go.Proofs.Lays.n145 Tryz.prog Tryz.lays145_ren:= {
 mixed:=by kernel_rfl
 f145:=Tryz.func311.trans (congrArg some (by kernel_rfl))
 f217:=Tryz.func320.trans (congrArg some (by kernel_rfl))
 f219:=Tryz.func299.trans (congrArg some (by kernel_rfl))
 f220:=Tryz.func333.trans (congrArg some (by kernel_rfl))
 f224:=Tryz.func322.trans (congrArg some (by kernel_rfl))
 f225:=Tryz.func321.trans (congrArg some (by kernel_rfl))
 f266:=Tryz.func336.trans (congrArg some (by kernel_rfl))
 f267:=Tryz.func323.trans (congrArg some (by kernel_rfl))
 f314:=Tryz.func337.trans (congrArg some (by kernel_rfl))
 t3:=Tryz.underlying3
 a3:=Tryz.isAgg3
 z3:=Tryz.sizeOf3
 v3:=Tryz.zeroValue3
 t4:=Tryz.underlying4
 a4:=Tryz.isAgg4
 z4:=Tryz.sizeOf4
 v4:=Tryz.zeroValue4
 t5:=Tryz.underlying5
 a5:=Tryz.isAgg5
 z5:=Tryz.sizeOf5
 v5:=Tryz.zeroValue5
 t9:=Tryz.underlying9
 a9:=Tryz.isAgg9
 z9:=Tryz.sizeOf9
 v9:=Tryz.zeroValue9
 t46:=Tryz.underlying135
 a46:=Tryz.isAgg135
 z46:=Tryz.sizeOf135
 v46:=Tryz.zeroValue135
 t51:=Tryz.underlying190
 a51:=Tryz.isAgg190
 z51:=Tryz.sizeOf190
 v51:=Tryz.zeroValue190
 t59:=Tryz.underlying268
 a59:=Tryz.isAgg268
 z59:=Tryz.sizeOf268
 v59:=Tryz.zeroValue268
 t146:=Tryz.underlying273
 a146:=Tryz.isAgg273
 z146:=Tryz.sizeOf273
 v146:=Tryz.zeroValue273
 g1:=by kernel_rfl}
open Go.RowKit Go.Lib in
theorem Tryz.strings_Cut (s sep:ByteArray) (m:Int) (w:World) (hs:s.size<4294967281) (hm:w.cell? ⟨4,0,none⟩=some (.int .i64 m)):
 Calls Tryz.prog 311 #[.string s,.string sep] w fun e w'=>e= .returned (.tuple #[.string ⟨(Lib.cut s.data.toList sep.data.toList).1.toArray⟩,.string ⟨(Lib.cut s.data.toList sep.data.toList).2.1.toArray⟩,.bool (Lib.cut s.data.toList sep.data.toList).2.2])∧∃n,w'=w.drewN n:=Any.strings_Cut Tryz.lays145 s sep m w hs hm
end Go.Proofs
