/- Merged: Arg, Ard. -/
import Derived.Test.YtmhfioimgllgeaaGreatDoorQ33
import Derived.Test.YtmhfioimgllgeaaGreatDoorCards
import Derived.Test.YtmhfioimgllgeaaGreatDoorTie
import Derived.Deep.Slices
import Derived.Deep.Fields
import Derived.ChangeSame
import Derived.Lib.SmallJoins
import Derived.Lib.LaidU8T
import Derived.ProofKit
import Derived.Carry
import Derived.ChangeMaps5
import Derived.Lay
import Derived.Deep.DeepHandedRow
import Derived.JoinedOf
import Derived.JoinedAt
import Derived.RowKit3
namespace Go.Proofs.YtmhfioimgllgeaaGreatDoor
open Go Go.ChangeShapes Go.WideShapes Go.Deep Go.Joins Go.RowKit
theorem i64_of {n:Int} (h:(Lit.int .i64 n).wf=true):i64R n:=by
 have: -9223372036854775808≤n∧n≤9223372036854775807:=by simpa [Lit.wf,IntKind.min,IntKind.max,IntKind.signed,IntKind.bits]using h
 unfold i64R
 omega
theorem u8_of {n:Int} (h:(Lit.int .u8 n).wf=true):0≤n∧n≤255:=by
 simpa [Lit.wf,IntKind.min,IntKind.max,IntKind.signed,IntKind.bits]using h
theorem outLaid :laidOutB Tryz.prog=true:=by kernel_rfl
theorem shp_laid {W:World} (h:W.ShapedOpen Tryz.prog):Shp W:=Go.Proofs.cell_of_shapedOpen_int (zero:= #[.int .i64 0]) (t:=3) h (of_decide_eq_true (by kernel_rfl)) (by kernel_rfl) rfl (by kernel_rfl) (by kernel_rfl) Tryz.underlying3
set_option maxRecDepth 100000 in
theorem tabs_laid {W : World} (hL : laidMet Tryz.prog [("unicode/utf8.acceptRanges", Rows.laid_unicode_utf8_acceptRanges), ("unicode/utf8.first", Rows.laid_unicode_utf8_first)] W) : Lib.Utf8Tabs 2 3 W :=
 utf8Tabs_of_readsT (U8Types.of196 Tryz.lays196) ⟨by kernel_rfl,by kernel_rfl,by kernel_rfl,by kernel_rfl,by kernel_rfl,by kernel_rfl,by kernel_rfl⟩ (Lib.laidMet.reads hL (.tail _ (.head _))) (Lib.laidMet.reads hL (.head _))
theorem env_laid {W : World} (hL : laidMet Tryz.prog [("unicode/utf8.acceptRanges", Rows.laid_unicode_utf8_acceptRanges), ("unicode/utf8.first", Rows.laid_unicode_utf8_first)] W) (h : W.ShapedOpen Tryz.prog) : Env W := ⟨tabs_laid hL, shp_laid h⟩
end Go.Proofs.YtmhfioimgllgeaaGreatDoor
namespace Go.Proofs.YtmhfioimgllgeaaGreatDoor
open Go Go.ChangeShapes Go.WideShapes Go.Deep Go.Joins Go.RowKit
section
variable {H : Type} {enc : TypeId × Value → H} {w : World} {base : Nat} {spare : Nat → Bool} {held : Bool}
theorem cd3 :Tryz.prog.cellsOf 3=1:=by kernel_rfl
theorem cd34 :Tryz.prog.cellsOf 34=2:=by kernel_rfl
set_option maxRecDepth 100000 in
theorem dec_open {r:Reach} {b0:Nat} {v:Value} {d:DataW H} {p:List MemPlace} (hv:Value.okWide Tryz.prog w r b0 34 v) (h:DataW.Trod enc Tryz.prog w base spare held 34 v d p):∃a b,v= .agg #[.int .i64 a,.int .i64 b]∧i64R a∧i64R b:=by
 obtain⟨cs,rfl,hsz⟩:=okWide_struct Tryz.underlying34 hv
 obtain⟨fuel,hf⟩:=h
 have hl:cs.toList.length=2:=by simpa [Value.cells,cd34]using hsz
 obtain⟨u0,u1,hcs⟩:∃a b,cs.toList= [a,b]:=by
  match cs.toList,hl with
  | [a,b],_=>exact⟨a,b,rfl⟩
 have hf':DataW.trod enc Tryz.prog w base spare held fuel 34 [u0,u1]=some (d,p):=by rw[←hcs];exact hf
 obtain⟨zs,n2,_,_,_,hzl,hg⟩:=DataW.trod_struct Tryz.underlying34 hf'
 have hzl':zs.length=2:=hzl
 match zs,hzl' with
 | [z0,z1],_=>
  have g0:DataW.trod enc Tryz.prog w base spare held n2 3 [u0]=some z0:=by
   have:=hg 0 _ rfl
   simpa [cd3]using this
  have g1:DataW.trod enc Tryz.prog w base spare held n2 3 [u1]=some z1:=by
   have:=hg 1 _ rfl
   simpa [cd3]using this
  obtain⟨m,e1,_,w1⟩:=DataW.trod_int Tryz.underlying3 g0
  obtain⟨ee,e2,_,w2⟩:=DataW.trod_int Tryz.underlying3 g1
  simp at e1 e2
  subst e1 e2
  refine⟨m,ee,?_,i64_of w1,i64_of w2⟩
  have:cs= #[.int .i64 m,.int .i64 ee]:=Array.toList_inj.1 (by rw[hcs])
  rw[this]
end
end Go.Proofs.YtmhfioimgllgeaaGreatDoor
