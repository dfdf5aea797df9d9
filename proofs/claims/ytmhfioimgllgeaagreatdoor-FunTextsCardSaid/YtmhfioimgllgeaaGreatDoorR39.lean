/- Merged: Lib2, Lib4, Lib6. -/
import Derived.Test.YtmhfioimgllgeaaGreatDoorProg
import Derived.Test.YtmhfioimgllgeaaGreatDoorR03
import Derived.Test.YtmhfioimgllgeaaGreatDoorR13
import Derived.Test.YtmhfioimgllgeaaGreatDoorR17
import Derived.Test.YtmhfioimgllgeaaGreatDoorR22
import Derived.Test.YtmhfioimgllgeaaGreatDoorR15
import Derived.Shelf.Strings.Builder1
import Derived.Shelf.Strings.Builder2
import Derived.Shelf.Strings.OnBuilder
import Derived.Shelf.Strings.Trim
import Derived.Shelf.Small.Utf8
import Derived.Shelf.Small.Bits
import Derived.Shelf.Small.Strs
import Derived.Shelf.Small.Wraps
import Derived.Shelf.Strings.BuilderF
import Derived.Shelf.Strings.BuilderK
import Derived.Shelf.Utf8.RuneCount
import Derived.Shelf.Strconv.Itoa0
import Derived.Shelf.Strings.Search1
import Derived.Shelf.Strings.Search2
import Derived.Shelf.Strings.Search3
import Derived.Shelf.Strings.Cut
import Derived.Shelf.Strings.Count
import Derived.Shelf.LaysM
import Derived.Shelf.Strings.Shaped
import Derived.Shelf.GgClosure.StringsIndexFunc
import Derived.Shelf.GgClosure.StringsIndexFuncTop
import Derived.Shelf.Strings.Prefix
import Derived.Shelf.Strings.Split
import Derived.Shelf.Strings.Replace
import Derived.Shelf.Strings.SplitShaped
import Derived.Shelf.Unicode.Decode
import Derived.Shelf.Strings.Runes
import Derived.Shelf.Strings.RuneCount
import Derived.Shelf.Strings.AsciiSet
import Derived.Shelf.Bits.Mul64
import Derived.Shelf.Strings.Repeat
import Derived.Shelf.Unicode.DecodeSlow
import Derived.Shelf.Unicode.DecodeAny
import Derived.Shelf.Unicode.DecodeLast
import Derived.Shelf.Slices.Reverse
import Derived.Shelf.Slices.Equal
import Derived.Shelf.Slices.Clone
import Derived.Shelf.Slices.SearchI
import Derived.Shelf.Slices.Cells
import Derived.Shelf.SlicesE.Equal
import Derived.Shelf.SlicesE.Clone
import Derived.Shelf.Strings.BuilderRune
namespace Go.Proofs
open Go.Shelf
def Tryz.lays105_ren :Go.Shelf.Ren:=⟨fun|105=>235|212=>292|99=>293|165=>294|166=>295|170=>296|169=>81|263=>315|264=>75|206=>316|240=>115|241=>317|276=>234|277=>335|n=>n,fun|9=>9|3=>3|4=>4|20=>20|0=>0|46=>135|109=>243|5=>5|72=>122|76=>204|51=>190|146=>273|53=>114|148=>115|70=>120|37=>85|75=>124|127=>154|164=>199|80=>126|n=>n,fun|n=>n⟩
theorem Tryz.lays105 :Go.Proofs.Lays.n105 Tryz.prog Tryz.lays105_ren:= {
 mixed:=by kernel_rfl
 f99:=Tryz.func293.trans (congrArg some (by kernel_rfl))
 f105:=Tryz.func235.trans (congrArg some (by kernel_rfl))
 f165:=Tryz.func294.trans (congrArg some (by kernel_rfl))
 f166:=Tryz.func295.trans (congrArg some (by kernel_rfl))
 f169:=Tryz.func81.trans (congrArg some (by kernel_rfl))
 f170:=Tryz.func296.trans (congrArg some (by kernel_rfl))
 f206:=Tryz.func316.trans (congrArg some (by kernel_rfl))
 f212:=Tryz.func292.trans (congrArg some (by kernel_rfl))
 f240:=Tryz.func115.trans (congrArg some (by kernel_rfl))
 f241:=Tryz.func317.trans (congrArg some (by kernel_rfl))
 f263:=Tryz.func315.trans (congrArg some (by kernel_rfl))
 f264:=Tryz.func75.trans (congrArg some (by kernel_rfl))
 f276:=Tryz.func234.trans (congrArg some (by kernel_rfl))
 f277:=Tryz.func335.trans (congrArg some (by kernel_rfl))
 t0:=Tryz.underlying0
 a0:=Tryz.isAgg0
 z0:=Tryz.sizeOf0
 v0:=Tryz.zeroValue0
 t3:=Tryz.underlying3
 a3:=Tryz.isAgg3
 z3:=Tryz.sizeOf3
 v3:=Tryz.zeroValue3
 t4:=Tryz.underlying4
 a4:=Tryz.isAgg4
 z4:=Tryz.sizeOf4
 v4:=Tryz.zeroValue4
 t5:=Tryz.underlying5
 a5:=Tryz.isAgg5
 z5:=Tryz.sizeOf5
 v5:=Tryz.zeroValue5
 t9:=Tryz.underlying9
 a9:=Tryz.isAgg9
 z9:=Tryz.sizeOf9
 v9:=Tryz.zeroValue9
 t20:=Tryz.underlying20
 a20:=Tryz.isAgg20
 z20:=Tryz.sizeOf20
 v20:=Tryz.zeroValue20
 t37:=Tryz.underlying85
 a37:=Tryz.isAgg85
 z37:=Tryz.sizeOf85
 v37:=Tryz.zeroValue85
 t46:=Tryz.underlying135
 a46:=Tryz.isAgg135
 z46:=Tryz.sizeOf135
 v46:=Tryz.zeroValue135
 t51:=Tryz.underlying190
 a51:=Tryz.isAgg190
 z51:=Tryz.sizeOf190
 v51:=Tryz.zeroValue190
 t53:=Tryz.underlying114
 a53:=Tryz.isAgg114
 z53:=Tryz.sizeOf114
 v53:=Tryz.zeroValue114
 t70:=Tryz.underlying120
 a70:=Tryz.isAgg120
 z70:=Tryz.sizeOf120
 v70:=Tryz.zeroValue120
 t72:=Tryz.underlying122
 a72:=Tryz.isAgg122
 z72:=Tryz.sizeOf122
 v72:=Tryz.zeroValue122
 t75:=Tryz.underlying124
 a75:=Tryz.isAgg124
 z75:=Tryz.sizeOf124
 v75:=Tryz.zeroValue124
 t76:=Tryz.underlying204
 a76:=Tryz.isAgg204
 z76:=Tryz.sizeOf204
 v76:=Tryz.zeroValue204
 t109:=Tryz.underlying243
 a109:=Tryz.isAgg243
 z109:=Tryz.sizeOf243
 v109:=Tryz.zeroValue243
 t127:=Tryz.underlying154
 a127:=Tryz.isAgg154
 z127:=Tryz.sizeOf154
 v127:=Tryz.zeroValue154
 t146:=Tryz.underlying273
 a146:=Tryz.isAgg273
 z146:=Tryz.sizeOf273
 v146:=Tryz.zeroValue273
 t148:=Tryz.underlying115
 a148:=Tryz.isAgg115
 z148:=Tryz.sizeOf115
 v148:=Tryz.zeroValue115
 t164:=Tryz.underlying199
 a164:=Tryz.isAgg199
 z164:=Tryz.sizeOf199
 v164:=Tryz.zeroValue199}
theorem Tryz.Builder_Extra_105 :Builder.Extra Tryz.prog Tryz.lays105_ren:= {
 sizeBuilder:=by kernel_rfl
 liesBuilder:=by kernel_rfl
 t5:=Tryz.underlying5
 a5:=Tryz.isAgg5
 z5:=Tryz.sizeOf5
 v5:=Tryz.zeroValue5
 infoByte:=by kernel_rfl
 cellsByte:=by kernel_rfl
 sizeByte:=by kernel_rfl
 neB5:=by decide}
open Go.RowKit Go.Lib in
theorem Tryz.strings_Repeat (s:ByteArray) (c:Nat) (w:World) (hc:c≤9223372036854775807) (hlen:s.size*c≤140737488355328):
 Calls Tryz.prog 235 #[.string s,.int .i64 c] w fun e w'=>e= .returned (.string ⟨(Lib.repeatL s.data.toList c).toArray⟩)∧Below w.heap.size w w':=Any.strings_Repeat Tryz.lays105 Tryz.Builder_Extra_105 s c w hc hlen
end Go.Proofs
namespace Go.Proofs
open Go.Shelf
def Tryz.lays156_ren :Go.Shelf.Ren:=⟨fun|156=>246|165=>294|166=>295|169=>81|240=>115|241=>317|276=>234|277=>335|n=>n,fun|31=>23|9=>9|3=>3|4=>4|0=>0|20=>20|72=>122|76=>204|70=>120|37=>85|75=>124|127=>154|164=>199|5=>5|80=>126|n=>n,fun|n=>n⟩
theorem Tryz.lays156 :Go.Proofs.Lays.n156 Tryz.prog Tryz.lays156_ren:= {
 mixed:=by kernel_rfl
 f156:=Tryz.func246.trans (congrArg some (by kernel_rfl))
 f165:=Tryz.func294.trans (congrArg some (by kernel_rfl))
 f166:=Tryz.func295.trans (congrArg some (by kernel_rfl))
 f169:=Tryz.func81.trans (congrArg some (by kernel_rfl))
 f240:=Tryz.func115.trans (congrArg some (by kernel_rfl))
 f241:=Tryz.func317.trans (congrArg some (by kernel_rfl))
 f276:=Tryz.func234.trans (congrArg some (by kernel_rfl))
 f277:=Tryz.func335.trans (congrArg some (by kernel_rfl))
 t0:=Tryz.underlying0
 a0:=Tryz.isAgg0
 z0:=Tryz.sizeOf0
 v0:=Tryz.zeroValue0
 t3:=Tryz.underlying3
 a3:=Tryz.isAgg3
 z3:=Tryz.sizeOf3
 v3:=Tryz.zeroValue3
 t4:=Tryz.underlying4
 a4:=Tryz.isAgg4
 z4:=Tryz.sizeOf4
 v4:=Tryz.zeroValue4
 t9:=Tryz.underlying9
 a9:=Tryz.isAgg9
 z9:=Tryz.sizeOf9
 v9:=Tryz.zeroValue9
 t20:=Tryz.underlying20
 a20:=Tryz.isAgg20
 z20:=Tryz.sizeOf20
 v20:=Tryz.zeroValue20
 t31:=Tryz.underlying23
 a31:=Tryz.isAgg23
 z31:=Tryz.sizeOf23
 v31:=Tryz.zeroValue23
 t37:=Tryz.underlying85
 a37:=Tryz.isAgg85
 z37:=Tryz.sizeOf85
 v37:=Tryz.zeroValue85
 t70:=Tryz.underlying120
 a70:=Tryz.isAgg120
 z70:=Tryz.sizeOf120
 v70:=Tryz.zeroValue120
 t72:=Tryz.underlying122
 a72:=Tryz.isAgg122
 z72:=Tryz.sizeOf122
 v72:=Tryz.zeroValue122
 t75:=Tryz.underlying124
 a75:=Tryz.isAgg124
 z75:=Tryz.sizeOf124
 v75:=Tryz.zeroValue124
 t76:=Tryz.underlying204
 a76:=Tryz.isAgg204
 z76:=Tryz.sizeOf204
 v76:=Tryz.zeroValue204
 t127:=Tryz.underlying154
 a127:=Tryz.isAgg154
 z127:=Tryz.sizeOf154
 v127:=Tryz.zeroValue154
 t164:=Tryz.underlying199
 a164:=Tryz.isAgg199
 z164:=Tryz.sizeOf199
 v164:=Tryz.zeroValue199}
theorem Tryz.Builder_Extra_156 :Builder.Extra Tryz.prog Tryz.lays156_ren:= {
 sizeBuilder:=by kernel_rfl
 liesBuilder:=by kernel_rfl
 t5:=Tryz.underlying5
 a5:=Tryz.isAgg5
 z5:=Tryz.sizeOf5
 v5:=Tryz.zeroValue5
 infoByte:=by kernel_rfl
 cellsByte:=by kernel_rfl
 sizeByte:=by kernel_rfl
 neB5:=by decide}
open Go.RowKit in
theorem Tryz.strings_Join_none (a:Option Addr) (c:Nat) (sep:ByteArray) (w:World):
 Calls Tryz.prog 246 #[.slice a 0 c,.string sep] w fun e w'=>e= .returned (.string ⟨#[]⟩)∧w'=w:=Any.strings_Join_none Tryz.lays156 Tryz.Builder_Extra_156 a c sep w
open Go.RowKit in
theorem Tryz.strings_Join (bk o c:Nat) (xs:List ByteArray) (sep:ByteArray) (w:World) (hcells:∀(j:Nat) x,xs[j]? =some x→w.cell? ⟨bk,o+j,none⟩=some (.string x)) (hbk:bk<w.heap.size) (hN:xs.length≤140737488355328) (hcap:xs.length≤c) (hlen:(Lib.join (xs.map (·.data.toList)) sep.data.toList).length≤140737488355328):
 Calls Tryz.prog 246 #[.slice (some ⟨bk,o,none⟩) xs.length c,.string sep] w fun e w'=>e= .returned (.string ⟨(Lib.join (xs.map (·.data.toList)) sep.data.toList).toArray⟩)∧Below w.heap.size w w':=Any.strings_Join Tryz.lays156 Tryz.Builder_Extra_156 bk o c xs sep w hcells hbk hN hcap hlen
def Tryz.lays195_ren :Go.Shelf.Ren:=⟨fun|195=>151|n=>n,fun|9=>9|3=>3|0=>0|4=>4|n=>n,fun|n=>n⟩
theorem Tryz.lays195 :Go.Proofs.Lays.n195 Tryz.prog Tryz.lays195_ren:= {
 mixed:=by kernel_rfl
 f195:=Tryz.func151.trans (congrArg some (by kernel_rfl))
 t0:=Tryz.underlying0
 a0:=Tryz.isAgg0
 z0:=Tryz.sizeOf0
 v0:=Tryz.zeroValue0
 t3:=Tryz.underlying3
 a3:=Tryz.isAgg3
 z3:=Tryz.sizeOf3
 v3:=Tryz.zeroValue3
 t4:=Tryz.underlying4
 a4:=Tryz.isAgg4
 z4:=Tryz.sizeOf4
 v4:=Tryz.zeroValue4
 t9:=Tryz.underlying9
 a9:=Tryz.isAgg9
 z9:=Tryz.sizeOf9
 v9:=Tryz.zeroValue9}
open Go.RowKit in
theorem Tryz.utf8_RuneCountInString (s:ByteArray) (w:World) (hs:s.size<9223372036854775807):
 Calls Tryz.prog 151 #[.string s] w fun e w'=>e= .returned (.int .i64 (Lib.runeCount s))∧∃pos,w'=w.iter s pos:=Any.utf8_RuneCountInString Tryz.lays195 s w hs
def Tryz.lays143_ren :Go.Shelf.Ren:=⟨fun|143=>251|219=>299|217=>320|225=>321|224=>322|267=>323|266=>336|314=>337|n=>n,fun|9=>9|3=>3|4=>4|5=>5|46=>135|146=>273|51=>190|n=>n,fun|1=>4|n=>n⟩
theorem Tryz.lays143 :Go.Proofs.Lays.n143 Tryz.prog Tryz.lays143_ren:= {
 mixed:=by kernel_rfl
 f143:=Tryz.func251.trans (congrArg some (by kernel_rfl))
 f217:=Tryz.func320.trans (congrArg some (by kernel_rfl))
 f219:=Tryz.func299.trans (congrArg some (by kernel_rfl))
 f224:=Tryz.func322.trans (congrArg some (by kernel_rfl))
 f225:=Tryz.func321.trans (congrArg some (by kernel_rfl))
 f266:=Tryz.func336.trans (congrArg some (by kernel_rfl))
 f267:=Tryz.func323.trans (congrArg some (by kernel_rfl))
 f314:=Tryz.func337.trans (congrArg some (by kernel_rfl))
 t3:=Tryz.underlying3
 a3:=Tryz.isAgg3
 z3:=Tryz.sizeOf3
 v3:=Tryz.zeroValue3
 t4:=Tryz.underlying4
 a4:=Tryz.isAgg4
 z4:=Tryz.sizeOf4
 v4:=Tryz.zeroValue4
 t5:=Tryz.underlying5
 a5:=Tryz.isAgg5
 z5:=Tryz.sizeOf5
 v5:=Tryz.zeroValue5
 t9:=Tryz.underlying9
 a9:=Tryz.isAgg9
 z9:=Tryz.sizeOf9
 v9:=Tryz.zeroValue9
 t46:=Tryz.underlying135
 a46:=Tryz.isAgg135
 z46:=Tryz.sizeOf135
 v46:=Tryz.zeroValue135
 t51:=Tryz.underlying190
 a51:=Tryz.isAgg190
 z51:=Tryz.sizeOf190
 v51:=Tryz.zeroValue190
 t146:=Tryz.underlying273
 a146:=Tryz.isAgg273
 z146:=Tryz.sizeOf273
 v146:=Tryz.zeroValue273
 g1:=by kernel_rfl}
open Go.RowKit Go.Lib in
theorem Tryz.strings_Index (s sub:ByteArray) (m:Int) (w:World) (hs:s.size<4294967281) (hm:w.cell? ⟨4,0,none⟩=some (.int .i64 m)):
 Calls Tryz.prog 251 #[.string s,.string sub] w fun e w'=>e= .returned (.int .i64 (Lib.index s.data.toList sub.data.toList))∧w'=w:=Any.strings_Index Tryz.lays143 s sub m w hs hm
def Tryz.lays197_ren :Go.Shelf.Ren:=⟨fun|197=>297|260=>318|n=>n,fun|9=>9|21=>21|3=>3|4=>4|5=>5|105=>247|119=>237|0=>0|46=>135|139=>240|138=>239|n=>n,fun|3=>2|4=>3|n=>n⟩
theorem Tryz.lays197 :Go.Proofs.Lays.n197 Tryz.prog Tryz.lays197_ren:= {
 mixed:=by kernel_rfl
 f197:=Tryz.func297.trans (congrArg some (by kernel_rfl))
 f260:=Tryz.func318.trans (congrArg some (by kernel_rfl))
 t0:=Tryz.underlying0
 a0:=Tryz.isAgg0
 z0:=Tryz.sizeOf0
 v0:=Tryz.zeroValue0
 t3:=Tryz.underlying3
 a3:=Tryz.isAgg3
 z3:=Tryz.sizeOf3
 v3:=Tryz.zeroValue3
 t4:=Tryz.underlying4
 a4:=Tryz.isAgg4
 z4:=Tryz.sizeOf4
 v4:=Tryz.zeroValue4
 t5:=Tryz.underlying5
 a5:=Tryz.isAgg5
 z5:=Tryz.sizeOf5
 v5:=Tryz.zeroValue5
 t9:=Tryz.underlying9
 a9:=Tryz.isAgg9
 z9:=Tryz.sizeOf9
 v9:=Tryz.zeroValue9
 t21:=Tryz.underlying21
 a21:=Tryz.isAgg21
 z21:=Tryz.sizeOf21
 v21:=Tryz.zeroValue21
 t46:=Tryz.underlying135
 a46:=Tryz.isAgg135
 z46:=Tryz.sizeOf135
 v46:=Tryz.zeroValue135
 t105:=Tryz.underlying247
 a105:=Tryz.isAgg247
 z105:=Tryz.sizeOf247
 v105:=Tryz.zeroValue247
 t119:=Tryz.underlying237
 a119:=Tryz.isAgg237
 z119:=Tryz.sizeOf237
 t138:=Tryz.underlying239
 a138:=Tryz.isAgg239
 z138:=Tryz.sizeOf239
 v138:=Tryz.zeroValue239
 t139:=Tryz.underlying240
 a139:=Tryz.isAgg240
 z139:=Tryz.sizeOf240
 v139:=Tryz.zeroValue240
 g3:=by kernel_rfl
 g4:=by kernel_rfl}
open Go.RowKit Go.Lib in
theorem Tryz.utf8_DecodeRuneInString (s:ByteArray) (w:World) (hT:Lib.Utf8Tabs 2 3 w):
 Calls Tryz.prog 297 #[.string s] w fun e w'=>e= .returned (.tuple #[.int .i32 (Lib.decodeGo s).1,.int .i64 (Lib.decodeGo s).2])∧Below w.heap.size w w':=Any.utf8_DecodeRuneInString Tryz.lays197 s w hT
end Go.Proofs
namespace Go.Proofs
open Go.Shelf
def Tryz.lays168_ren :Go.Shelf.Ren:=⟨fun|168=>248|240=>115|242=>298|276=>234|278=>319|n=>n,fun|0=>0|3=>3|4=>4|5=>5|9=>9|20=>20|21=>21|37=>85|46=>135|51=>190|70=>120|72=>122|75=>124|80=>126|164=>199|n=>n,fun|n=>n⟩
theorem Tryz.lays168 :Go.Proofs.Lays.n168 Tryz.prog Tryz.lays168_ren:= {
 mixed:=by kernel_rfl
 f168:=Tryz.func248.trans (congrArg some (by kernel_rfl))
 f240:=Tryz.func115.trans (congrArg some (by kernel_rfl))
 f242:=Tryz.func298.trans (congrArg some (by kernel_rfl))
 f276:=Tryz.func234.trans (congrArg some (by kernel_rfl))
 f278:=Tryz.func319.trans (congrArg some (by kernel_rfl))
 t0:=Tryz.underlying0
 a0:=Tryz.isAgg0
 z0:=Tryz.sizeOf0
 v0:=Tryz.zeroValue0
 t3:=Tryz.underlying3
 a3:=Tryz.isAgg3
 z3:=Tryz.sizeOf3
 v3:=Tryz.zeroValue3
 t4:=Tryz.underlying4
 a4:=Tryz.isAgg4
 z4:=Tryz.sizeOf4
 v4:=Tryz.zeroValue4
 t5:=Tryz.underlying5
 a5:=Tryz.isAgg5
 z5:=Tryz.sizeOf5
 v5:=Tryz.zeroValue5
 t9:=Tryz.underlying9
 a9:=Tryz.isAgg9
 z9:=Tryz.sizeOf9
 v9:=Tryz.zeroValue9
 t20:=Tryz.underlying20
 a20:=Tryz.isAgg20
 z20:=Tryz.sizeOf20
 v20:=Tryz.zeroValue20
 t21:=Tryz.underlying21
 a21:=Tryz.isAgg21
 z21:=Tryz.sizeOf21
 v21:=Tryz.zeroValue21
 t37:=Tryz.underlying85
 a37:=Tryz.isAgg85
 z37:=Tryz.sizeOf85
 v37:=Tryz.zeroValue85
 t46:=Tryz.underlying135
 a46:=Tryz.isAgg135
 z46:=Tryz.sizeOf135
 v46:=Tryz.zeroValue135
 t51:=Tryz.underlying190
 a51:=Tryz.isAgg190
 z51:=Tryz.sizeOf190
 v51:=Tryz.zeroValue190
 t70:=Tryz.underlying120
 a70:=Tryz.isAgg120
 z70:=Tryz.sizeOf120
 v70:=Tryz.zeroValue120
 t72:=Tryz.underlying122
 a72:=Tryz.isAgg122
 z72:=Tryz.sizeOf122
 v72:=Tryz.zeroValue122
 t75:=Tryz.underlying124
 a75:=Tryz.isAgg124
 z75:=Tryz.sizeOf124
 v75:=Tryz.zeroValue124
 t164:=Tryz.underlying199
 a164:=Tryz.isAgg199
 z164:=Tryz.sizeOf199
 v164:=Tryz.zeroValue199}
theorem Tryz.Builder_Extra_168 :Builder.Extra Tryz.prog Tryz.lays168_ren:= {
 sizeBuilder:=by kernel_rfl
 liesBuilder:=by kernel_rfl
 t5:=Tryz.underlying5
 a5:=Tryz.isAgg5
 z5:=Tryz.sizeOf5
 v5:=Tryz.zeroValue5
 infoByte:=by kernel_rfl
 cellsByte:=by kernel_rfl
 sizeByte:=by kernel_rfl
 neB5:=by decide}
open Go.RowKit in
theorem Tryz.Builder_WriteRune_k (B b:Nat) (bs:List Value) (r:Int) (hr0: -2147483648≤r) (hr1:r≤2147483647) (w:World) (h:Lib.IsBuilderF 122 5 B b bs w) (hlen:bs.length+4≤140737488355328) (hBw:B≤w.heap.size):
 Calls Tryz.prog 248 #[.pointer (some ⟨b,0,none⟩),.int .i32 r] w fun e w'=>e= .returned (.tuple #[.int .i64 (Lib.runeCells r).length,.nilIface])∧(Lib.BuilderAtF 122 5 B b (.pointer (some ⟨b,0,none⟩)) (bs++Lib.runeCells r) w'∧Below B w w'∧Lib.OthersKept 5 (some b) w w'):=Any.Builder_WriteRune_k Tryz.lays168 Tryz.Builder_Extra_168 B b bs r hr0 hr1 w h hlen hBw
end Go.Proofs
