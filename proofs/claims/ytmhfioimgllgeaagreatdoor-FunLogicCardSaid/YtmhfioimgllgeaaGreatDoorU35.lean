/- Merged: Arg, Arw. -/
import Derived.Test.YtmhfioimgllgeaaGreatDoorU33
import Derived.Test.YtmhfioimgllgeaaGreatDoorCards
import Derived.Test.YtmhfioimgllgeaaGreatDoorTie
import Derived.Deep.Slices
import Derived.Deep.Fields
import Derived.ChangeSame
import Derived.Lib.SmallJoins
import Derived.Lib.LaidU8T
import Derived.ProofKit
import Derived.Carry
import Derived.ChangeMaps5
import Derived.Lay
import Derived.Deep.DeepHandedRow
import Derived.JoinedOf
import Derived.JoinedAt
import Derived.RowKit3
namespace Go.Proofs.YtmhfioimgllgeaaGreatDoor
open Go Go.ChangeShapes Go.WideShapes Go.Deep Go.Joins Go.RowKit
theorem i64_of {n:Int} (h:(Lit.int .i64 n).wf=true):i64R n:=by
 have: -9223372036854775808≤n∧n≤9223372036854775807:=by simpa [Lit.wf,IntKind.min,IntKind.max,IntKind.signed,IntKind.bits]using h
 unfold i64R
 omega
theorem outLaid :laidOutB Tryz.prog=true:=by kernel_rfl
theorem shp_laid {W:World} (h:W.ShapedOpen Tryz.prog):Shp W:=Go.Proofs.cell_of_shapedOpen_int (zero:= #[.int .i64 0]) (t:=3) h (of_decide_eq_true (by kernel_rfl)) (by kernel_rfl) rfl (by kernel_rfl) (by kernel_rfl) Tryz.underlying3
set_option maxRecDepth 100000 in
theorem tabs_laid {W : World} (hL : laidMet Tryz.prog [("unicode/utf8.acceptRanges", Rows.laid_unicode_utf8_acceptRanges), ("unicode/utf8.first", Rows.laid_unicode_utf8_first)] W) : Lib.Utf8Tabs 2 3 W :=
 utf8Tabs_of_readsT (U8Types.of196 Tryz.lays196) ⟨by kernel_rfl,by kernel_rfl,by kernel_rfl,by kernel_rfl,by kernel_rfl,by kernel_rfl,by kernel_rfl⟩ (Lib.laidMet.reads hL (.tail _ (.head _))) (Lib.laidMet.reads hL (.head _))
theorem env_laid {W : World} (hL : laidMet Tryz.prog [("unicode/utf8.acceptRanges", Rows.laid_unicode_utf8_acceptRanges), ("unicode/utf8.first", Rows.laid_unicode_utf8_first)] W) (h : W.ShapedOpen Tryz.prog) : Env W := ⟨tabs_laid hL, shp_laid h⟩
end Go.Proofs.YtmhfioimgllgeaaGreatDoor
namespace Go.Proofs.YtmhfioimgllgeaaGreatDoor
open Go Go.ChangeShapes Go.WideShapes Go.Deep Go.Joins Go.RowKit
section
variable {H : Type} {enc : TypeId × Value → H} {w : World} {base : Nat} {spare : Nat → Bool} {held : Bool}
theorem c3 :Tryz.prog.cellsOf 3=1:=by kernel_rfl
theorem c4 :Tryz.prog.cellsOf 4=1:=by kernel_rfl
theorem c9 :Tryz.prog.cellsOf 9=1:=by kernel_rfl
theorem c34 :Tryz.prog.cellsOf 34=2:=by kernel_rfl
theorem c61 :Tryz.prog.cellsOf 61=5:=by kernel_rfl
theorem list5 {cs:List Value} (h:cs.length=5):∃a b c d e,cs= [a,b,c,d,e]:=by
 match cs,h with
 | [a,b,c,d,e],_=>exact⟨a,b,c,d,e,rfl⟩
/-- A raw number's five cells. -/
theorem raw_cells {fuel:Nat} {cs:List Value} {x:DataW H×List MemPlace} (hl:cs.length=5) (h:DataW.trod enc Tryz.prog w base spare held fuel 61 cs=some x):∃z:Rw,RwOk z∧cs=z.c.toList:=by
 obtain⟨a,b,c,d,e,rfl⟩:=list5 hl
 obtain⟨ys,n,_,_,_,hyl,hf⟩:=DataW.trod_struct Tryz.underlying61 h
 have hyl':ys.length=4:=hyl
 match ys,hyl' with
 | [y0,y1,y2,y3],_=>
  have h0:DataW.trod enc Tryz.prog w base spare held n 3 [a]=some y0:=by
   have:=hf 0 _ rfl
   simpa [c3]using this
  have h1:DataW.trod enc Tryz.prog w base spare held n 34 [b,c]=some y1:=by
   have:=hf 1 _ rfl
   simpa [c34]using this
  have h2:DataW.trod enc Tryz.prog w base spare held n 9 [d]=some y2:=by
   have:=hf 2 _ rfl
   simpa [c9]using this
  have h3:DataW.trod enc Tryz.prog w base spare held n 4 [e]=some y3:=by
   have:=hf 3 _ rfl
   simpa [c4]using this
  obtain⟨zs,n2,_,_,_,hzl,hg⟩:=DataW.trod_struct Tryz.underlying34 h1
  have hzl':zs.length=2:=hzl
  match zs,hzl' with
  | [z0,z1],_=>
   have g0:DataW.trod enc Tryz.prog w base spare held n2 3 [b]=some z0:=by
    have:=hg 0 _ rfl
    simpa [c3]using this
   have g1:DataW.trod enc Tryz.prog w base spare held n2 3 [c]=some z1:=by
    have:=hg 1 _ rfl
    simpa [c3]using this
   obtain⟨k,e0,_,w0⟩:=DataW.trod_int Tryz.underlying3 h0
   obtain⟨m,e1,_,w1⟩:=DataW.trod_int Tryz.underlying3 g0
   obtain⟨ee,e2,_,w2⟩:=DataW.trod_int Tryz.underlying3 g1
   obtain⟨ss,e3,_,w3⟩:=DataW.trod_string Tryz.underlying9 h2
   obtain⟨bb,e4,_⟩:=DataW.trod_bool Tryz.underlying4 h3
   simp at e0 e1 e2 e3 e4
   subst e0 e1 e2 e3 e4
   exact⟨⟨k,m,ee,ss,bb⟩,⟨i64_of w0,i64_of w1,i64_of w2,by unfold maxLen at w3;show ss.size≤_;omega⟩,rfl⟩
set_option maxRecDepth 100000 in
theorem raw_open {r:Reach} {b0:Nat} {v:Value} {d:DataW H} {p:List MemPlace} (hv:Value.okWide Tryz.prog w r b0 61 v) (h:DataW.Trod enc Tryz.prog w base spare held 61 v d p):∃z:Rw,RwOk z∧v= .agg z.c:=by
 obtain⟨cs,rfl,hsz⟩:=okWide_struct Tryz.underlying61 hv
 obtain⟨fuel,hf⟩:=h
 obtain⟨z,hz,e⟩:=raw_cells (by simpa [Value.cells,c61]using hsz) hf
 refine⟨z,hz,?_⟩
 have:cs=z.c:=Array.toList_inj.1 (by simpa [Value.cells]using e)
 rw[this]
end
end Go.Proofs.YtmhfioimgllgeaaGreatDoor
