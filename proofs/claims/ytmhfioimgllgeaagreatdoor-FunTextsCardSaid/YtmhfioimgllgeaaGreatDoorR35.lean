/- Merged: YSums, YFit, YBoth. -/
import Derived.Test.YtmhfioimgllgeaaGreatDoorR22
import Derived.Test.YtmhfioimgllgeaaGreatDoorR15
import Derived.Test.YtmhfioimgllgeaaGreatDoorR05
import Derived.Test.YtmhfioimgllgeaaGreatDoorR01
import Derived.Test.YtmhfioimgllgeaaGreatDoorR08
import Derived.Test.YtmhfioimgllgeaaGreatDoorR06
import Derived.Test.YtmhfioimgllgeaaGreatDoorR02
import Derived.Test.YtmhfioimgllgeaaGreatDoorR04
import Derived.Test.YtmhfioimgllgeaaGreatDoorR03
import Derived.Shelf.Strings.Builder1
import Derived.Shelf.Strings.Trim
import Derived.Shelf.Small.Utf8
import Derived.Shelf.Small.Bits
import Derived.Shelf.Small.Strs
import Derived.Shelf.Small.Wraps
import Derived.Shelf.Strings.BuilderF
import Derived.Shelf.Strings.BuilderK
import Derived.Shelf.Strconv.Itoa0
import Derived.Shelf.Strings.Search1
import Derived.Shelf.Strings.Search2
import Derived.Shelf.Strings.Cut
import Derived.Shelf.LaysM
import Derived.Shelf.Strings.Shaped
import Derived.Shelf.Strings.Prefix
import Derived.Shelf.Strings.AsciiSet
import Derived.Shelf.Bits.Mul64
namespace Go.Proofs.YtmhfioimgllgeaaGreatDoor
/-- A sum of signed numbers: its sign, and what it is without it. -/
def plusD (s:Bool) (D:Nat) (s':Bool) (D':Nat):Bool×Nat:=if s=s' then(s,D+D')else if D<D' then(s',D'-D)else(s,D-D')
def mixTo (f g:Nat→Int) (K:Nat):Nat→Int:=fun i=>if i<K then f i else g i
theorem mixTo_succ (f g:Nat→Int) (K i:Nat):(if i=K then f K else mixTo f g K i)=mixTo f g (K+1) i:=by
 unfold mixTo
 by_cases h:i=K
 ·subst h;simp
 ·by_cases h2:i<K
  ·rw[if_neg h,if_pos h2,if_pos (by omega)]
  ·rw[if_neg h,if_neg h2,if_neg (by omega)]
end Go.Proofs.YtmhfioimgllgeaaGreatDoor
namespace Go.Proofs.YtmhfioimgllgeaaGreatDoor
open Go.RowKit
set_option maxHeartbeats 1000000 in
theorem fit_any (M E:Int) (w:World) (h0: -9223372036854775808≤M) (h1:M≤9223372036854775807) (hr:rightB M E=true):
 Calls Tryz.prog 72 #[.agg #[.int .i64 M,.int .i64 E]] w fun e w'=>e= .returned (decV (M,E))∧Below w.heap.size w w':=by
 go_enter Tryz.func72,Tryz.ntmps72
 go_wp2_with fail
 obtain⟨W,hW⟩:∃W,W=(w.alloc (.cells #[.int .i64 M,.int .i64 E] 34)).alloc (.cells #[.int .i64 0,.int .i64 0] 34):=⟨_,rfl⟩
 rw[←hW]
 have d0:World.dec W w.heap.size M E:=by rw[hW];exact(World.dec_new w M E _ rfl).alloc _
 have d1:World.dec W (w.heap.size+1) 0 0:=by rw[hW];exact World.dec_new _ 0 0 _ (by simp)
 have hB:Below w.heap.size w W:=by rw[hW];exact((Below.refl _ w).alloc (Nat.le_refl _) _).alloc (by simp) _
 clear hW
 refine(right_any M E _ h0 h1).mono ?_
 rintro e w1 ⟨rfl,hB1⟩
 have e0:=d0.below hB1 d0.lt
 have e1:=d1.below hB1 d1.lt
 have hB2:Below w.heap.size w w1:=hB.trans (hB1.mono hB.size)
 clear d0 d1 hB hB1
 have a0:=e0.c0
 have a1:=e0.c1
 have g0:=e1.c0
 have g1:=e1.c1
 have gf0:=e1.frozen 0
 have gf1:=e1.frozen 1
 go_wp2_with fail
 refine bodyPost_ret (results_cell_row rfl _ _ _ 34 _ (0,0) _ rfl (World.dec.set1 (World.dec.set0 e1 M) E) Tryz.underlying34 rfl (by kernel_rfl)) rfl ?_
 exact⟨rfl,(hB2.setCell (by simp) _).setCell (by simp) _⟩
set_option maxHeartbeats 1000000 in
theorem fit_no (M E:Int) (w:World) (h0: -9223372036854775808≤M) (h1:M≤9223372036854775807) (hr:rightB M E=false):
 Calls Tryz.prog 72 #[.agg #[.int .i64 M,.int .i64 E]] w fun e w'=>e= .returned (decV (0,0))∧Below w.heap.size w w':=by
 go_enter Tryz.func72,Tryz.ntmps72
 go_wp2_with fail
 obtain⟨W,hW⟩:∃W,W=(w.alloc (.cells #[.int .i64 M,.int .i64 E] 34)).alloc (.cells #[.int .i64 0,.int .i64 0] 34):=⟨_,rfl⟩
 rw[←hW]
 have d0:World.dec W w.heap.size M E:=by rw[hW];exact(World.dec_new w M E _ rfl).alloc _
 have d1:World.dec W (w.heap.size+1) 0 0:=by rw[hW];exact World.dec_new _ 0 0 _ (by simp)
 have hB:Below w.heap.size w W:=by rw[hW];exact((Below.refl _ w).alloc (Nat.le_refl _) _).alloc (by simp) _
 clear hW
 refine(right_any M E _ h0 h1).mono ?_
 rintro e w1 ⟨rfl,hB1⟩
 have e0:=d0.below hB1 d0.lt
 have e1:=d1.below hB1 d1.lt
 have hB2:Below w.heap.size w w1:=hB.trans (hB1.mono hB.size)
 clear d0 d1 hB hB1
 have a0:=e0.c0
 have a1:=e0.c1
 have g0:=e1.c0
 have g1:=e1.c1
 have gf0:=e1.frozen 0
 have gf1:=e1.frozen 1
 go_wp2_with fail
 refine bodyPost_ret (results_cell_row rfl _ _ _ 34 _ (0,0) _ rfl (World.dec.set1 (World.dec.set0 e1 0) 0) Tryz.underlying34 rfl (by kernel_rfl)) rfl ?_
 exact⟨rfl,(hB2.setCell (by simp) _).setCell (by simp) _⟩
end Go.Proofs.YtmhfioimgllgeaaGreatDoor
namespace Go.Proofs.YtmhfioimgllgeaaGreatDoor
open Go.RowKit
set_option maxRecDepth 100000 in
set_option maxHeartbeats 2000000 in
theorem both_ok (M E M' E':Int) (fid:FuncId) (fst cap:Array Value) (w:World) (h0: -9223372036854775808≤M) (h1:M≤9223372036854775807) (h0': -9223372036854775808≤M') (h1':M'≤9223372036854775807) (hr:rightB M E=true) (hr':rightB M' E'=true)
 (hent:∀args w,(callFunc fid args).run Tryz.prog w= .ok (.enter fid args) w) (s:Bool) (D:Nat) (m:Bool) (hD:Hid (D+10 ^ 57<10 ^ 96))
 (hdo:Hid (∀w3,Below w.heap.size w w3→Calls Tryz.prog fid (fst.push (.agg (numF (decide (M'<0)) (dg (layD M' E')) false))++cap) w3 fun e w'=>e= .returned (.agg (numF s (dg D) m))∧Below w3.heap.size w3 w')):
 Calls Tryz.prog 71 #[.agg #[.int .i64 M,.int .i64 E],.agg #[.int .i64 M',.int .i64 E'],.func (.func fid) fst cap] w (DecPost (near s D m) w):=by
 go_enter Tryz.func71,Tryz.ntmps71
 go_wp2_with fail
 obtain⟨W,hW⟩:∃W,W=((w.alloc (.cells #[.int .i64 M,.int .i64 E] 34)).alloc (.cells #[.int .i64 M',.int .i64 E'] 34)).alloc (.cells #[.int .i64 0,.int .i64 0] 34):=⟨_,rfl⟩
 rw[←hW]
 have d0:World.dec W w.heap.size M E:=by rw[hW];exact((World.dec_new w M E _ rfl).alloc _).alloc _
 have d1:World.dec W (w.heap.size+1) M' E':=by rw[hW];exact(World.dec_new _ M' E' _ (by simp)).alloc _
 have d2:World.dec W (w.heap.size+1+1) 0 0:=by rw[hW];exact World.dec_new _ 0 0 _ (by simp)
 have hB:Below w.heap.size w W:=by rw[hW];exact(((Below.refl _ w).alloc (Nat.le_refl _) _).alloc (by simp) _).alloc (by simp;omega) _
 clear hW
 refine(right_any M E _ h0 h1).mono ?_
 rintro e w1 ⟨rfl,hB1⟩
 have d0:=d0.below hB1 d0.lt
 have d1:=d1.below hB1 d1.lt
 have d2:=d2.below hB1 d2.lt
 have hB:=hB.trans (hB1.mono hB.size)
 clear hB1
 have a0:=d1.c0
 have a1:=d1.c1
 go_wp2_with fail
 refine(right_any M' E' _ h0' h1').mono ?_
 rintro e w2 ⟨rfl,hB1⟩
 have d0:=d0.below hB1 d0.lt
 have d1:=d1.below hB1 d1.lt
 have d2:=d2.below hB1 d2.lt
 have hB:=hB.trans (hB1.mono hB.size)
 clear hB1 a0 a1
 have a0:=d1.c0
 have a1:=d1.c1
 obtain⟨r1,r2,r3,r4,_⟩:=rightB_iff.1 hr'
 go_wp2_with fail
 refine(lay_any M' E' _ r1 r2 r3 r4).mono ?_
 rintro e w3 ⟨rfl,hB1⟩
 have d2:=d2.below hB1 d2.lt
 have hB:=hB.trans (hB1.mono hB.size)
 clear hB1 a0 a1 d0 d1
 go_wp2_with fail
 refine(hdo.out _ hB).mono ?_
 rintro e w4 ⟨rfl,hB1⟩
 have d2:=d2.below hB1 d2.lt
 have hB:=hB.trans (hB1.mono hB.size)
 clear hB1
 go_wp2_with fail
 refine(nearest_any s D m _ hD).mono ?_
 rintro e w5 ⟨rfl,hB1⟩
 have d2:=d2.below hB1 d2.lt
 have hB:=hB.trans (hB1.mono hB.size)
 clear hB1
 have g0:=d2.c0
 have g1:=d2.c1
 have gf0:=d2.frozen 0
 have gf1:=d2.frozen 1
 go_wp2_with fail
 refine bodyPost_ret (results_dec_tmp rfl _ _ _ _ _ rfl (World.dec.set1 (World.dec.set0 d2 _) _)) rfl ?_
 exact⟨rfl,(hB.setCell (by simp;omega) _).setCell (by simp;omega) _⟩
set_option maxRecDepth 100000 in
set_option maxHeartbeats 2000000 in
theorem both_no1 (M E M' E':Int) (fid:FuncId) (fst cap:Array Value) (w:World) (h0: -9223372036854775808≤M) (h1:M≤9223372036854775807) (_h0': -9223372036854775808≤M') (_h1':M'≤9223372036854775807) (hr:rightB M E=false):
 Calls Tryz.prog 71 #[.agg #[.int .i64 M,.int .i64 E],.agg #[.int .i64 M',.int .i64 E'],.func (.func fid) fst cap] w (DecPost ((0,0),10) w):=by
 go_enter Tryz.func71,Tryz.ntmps71
 go_wp2_with fail
 obtain⟨W,hW⟩:∃W,W=((w.alloc (.cells #[.int .i64 M,.int .i64 E] 34)).alloc (.cells #[.int .i64 M',.int .i64 E'] 34)).alloc (.cells #[.int .i64 0,.int .i64 0] 34):=⟨_,rfl⟩
 rw[←hW]
 have d0:World.dec W w.heap.size M E:=by rw[hW];exact((World.dec_new w M E _ rfl).alloc _).alloc _
 have d1:World.dec W (w.heap.size+1) M' E':=by rw[hW];exact(World.dec_new _ M' E' _ (by simp)).alloc _
 have d2:World.dec W (w.heap.size+1+1) 0 0:=by rw[hW];exact World.dec_new _ 0 0 _ (by simp)
 have hB:Below w.heap.size w W:=by rw[hW];exact(((Below.refl _ w).alloc (Nat.le_refl _) _).alloc (by simp) _).alloc (by simp;omega) _
 clear hW
 refine(right_any M E _ h0 h1).mono ?_
 rintro e w1 ⟨rfl,hB1⟩
 have d0:=d0.below hB1 d0.lt
 have d1:=d1.below hB1 d1.lt
 have d2:=d2.below hB1 d2.lt
 have hB:=hB.trans (hB1.mono hB.size)
 clear hB1
 have a0:=d1.c0
 have a1:=d1.c1
 have g0:=d2.c0
 have g1:=d2.c1
 have gf0:=d2.frozen 0
 have gf1:=d2.frozen 1
 go_wp2_with fail
 refine bodyPost_ret (results_dec_tmp rfl _ _ _ 0 0 rfl (World.dec.set1 (World.dec.set0 d2 0) 0)) rfl ?_
 exact⟨rfl,(hB.setCell (by simp;omega) _).setCell (by simp;omega) _⟩
set_option maxRecDepth 100000 in
set_option maxHeartbeats 2000000 in
theorem both_no2 (M E M' E':Int) (fid:FuncId) (fst cap:Array Value) (w:World) (h0: -9223372036854775808≤M) (h1:M≤9223372036854775807) (h0': -9223372036854775808≤M') (h1':M'≤9223372036854775807) (hr:rightB M E=true) (hr':rightB M' E'=false):
 Calls Tryz.prog 71 #[.agg #[.int .i64 M,.int .i64 E],.agg #[.int .i64 M',.int .i64 E'],.func (.func fid) fst cap] w (DecPost ((0,0),10) w):=by
 go_enter Tryz.func71,Tryz.ntmps71
 go_wp2_with fail
 obtain⟨W,hW⟩:∃W,W=((w.alloc (.cells #[.int .i64 M,.int .i64 E] 34)).alloc (.cells #[.int .i64 M',.int .i64 E'] 34)).alloc (.cells #[.int .i64 0,.int .i64 0] 34):=⟨_,rfl⟩
 rw[←hW]
 have d0:World.dec W w.heap.size M E:=by rw[hW];exact((World.dec_new w M E _ rfl).alloc _).alloc _
 have d1:World.dec W (w.heap.size+1) M' E':=by rw[hW];exact(World.dec_new _ M' E' _ (by simp)).alloc _
 have d2:World.dec W (w.heap.size+1+1) 0 0:=by rw[hW];exact World.dec_new _ 0 0 _ (by simp)
 have hB:Below w.heap.size w W:=by rw[hW];exact(((Below.refl _ w).alloc (Nat.le_refl _) _).alloc (by simp) _).alloc (by simp;omega) _
 clear hW
 refine(right_any M E _ h0 h1).mono ?_
 rintro e w1 ⟨rfl,hB1⟩
 have d0:=d0.below hB1 d0.lt
 have d1:=d1.below hB1 d1.lt
 have d2:=d2.below hB1 d2.lt
 have hB:=hB.trans (hB1.mono hB.size)
 clear hB1
 have a0:=d1.c0
 have a1:=d1.c1
 go_wp2_with fail
 refine(right_any M' E' _ h0' h1').mono ?_
 rintro e w2 ⟨rfl,hB1⟩
 have d2:=d2.below hB1 d2.lt
 have hB:=hB.trans (hB1.mono hB.size)
 clear hB1
 have g0:=d2.c0
 have g1:=d2.c1
 have gf0:=d2.frozen 0
 have gf1:=d2.frozen 1
 go_wp2_with fail
 refine bodyPost_ret (results_dec_tmp rfl _ _ _ 0 0 rfl (World.dec.set1 (World.dec.set0 d2 0) 0)) rfl ?_
 exact⟨rfl,(hB.setCell (by simp;omega) _).setCell (by simp;omega) _⟩
end Go.Proofs.YtmhfioimgllgeaaGreatDoor
