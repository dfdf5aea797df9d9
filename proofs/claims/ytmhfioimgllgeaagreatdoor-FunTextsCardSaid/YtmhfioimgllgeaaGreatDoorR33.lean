/- What the row lays, as the walks want it. (By genframe07.py.) -/
import Derived.Test.YtmhfioimgllgeaaGreatDoorR32
import Derived.Test.YtmhfioimgllgeaaGreatDoorCards
import Derived.Test.YtmhfioimgllgeaaGreatDoorTie
import Derived.Deep.Slices
import Derived.Deep.Fields
import Derived.ChangeSame
import Derived.Lib.SmallJoins
import Derived.Lib.LaidU8T
import Derived.ProofKit
import Derived.Carry
import Derived.ChangeMaps5
import Derived.Lay
import Derived.Deep.DeepHandedRow
import Derived.JoinedOf
import Derived.JoinedAt
import Derived.RowKit3
namespace Go.Proofs.YtmhfioimgllgeaaGreatDoor
open Go Go.ChangeShapes Go.WideShapes Go.Deep Go.Joins Go.RowKit
theorem i64_of {n:Int} (h:(Lit.int .i64 n).wf=true):i64R n:=by
 have: -9223372036854775808≤n∧n≤9223372036854775807:=by simpa [Lit.wf,IntKind.min,IntKind.max,IntKind.signed,IntKind.bits]using h
 unfold i64R
 omega
theorem u8_of {n:Int} (h:(Lit.int .u8 n).wf=true):0≤n∧n≤255:=by
 simpa [Lit.wf,IntKind.min,IntKind.max,IntKind.signed,IntKind.bits]using h
theorem outLaid :laidOutB Tryz.prog=true:=by kernel_rfl
theorem shp_laid {W:World} (h:W.ShapedOpen Tryz.prog):Shp W:=Go.Proofs.cell_of_shapedOpen_int (zero:= #[.int .i64 0]) (t:=3) h (of_decide_eq_true (by kernel_rfl)) (by kernel_rfl) rfl (by kernel_rfl) (by kernel_rfl) Tryz.underlying3
set_option maxRecDepth 100000 in
theorem tabs_laid {W : World} (hL : laidMet Tryz.prog [("unicode/utf8.acceptRanges", Rows.laid_unicode_utf8_acceptRanges), ("unicode/utf8.first", Rows.laid_unicode_utf8_first)] W) : Lib.Utf8Tabs 2 3 W :=
 utf8Tabs_of_readsT (U8Types.of196 Tryz.lays196) ⟨by kernel_rfl,by kernel_rfl,by kernel_rfl,by kernel_rfl,by kernel_rfl,by kernel_rfl,by kernel_rfl⟩ (Lib.laidMet.reads hL (.tail _ (.head _))) (Lib.laidMet.reads hL (.head _))
theorem env_laid {W : World} (hL : laidMet Tryz.prog [("unicode/utf8.acceptRanges", Rows.laid_unicode_utf8_acceptRanges), ("unicode/utf8.first", Rows.laid_unicode_utf8_first)] W) (h : W.ShapedOpen Tryz.prog) : Env W := ⟨tabs_laid hL, shp_laid h⟩
end Go.Proofs.YtmhfioimgllgeaaGreatDoor
