/- Merged: YAdd, YMul. -/
import Derived.Test.YtmhfioimgllgeaaGreatDoorQ01
import Derived.Test.YtmhfioimgllgeaaGreatDoorQ23
import Derived.Test.YtmhfioimgllgeaaGreatDoorQ17
import Derived.Test.YtmhfioimgllgeaaGreatDoorQ08
import Derived.Test.YtmhfioimgllgeaaGreatDoorQ37
import Derived.Test.YtmhfioimgllgeaaGreatDoorQ39
import Derived.Shelf.Abstract
import Derived.Deep.RegionHeld3
namespace Go.Proofs.YtmhfioimgllgeaaGreatDoor
open Go.RowKit Go.Shelf
theorem enters57 :∀args w,(callFunc 73 args).run Tryz.prog w= .ok (.enter 73 args) w:=enters_of Tryz.func73 (by kernel_rfl) rfl
theorem enters58 :∀args w,(callFunc 74 args).run Tryz.prog w= .ok (.enter 74 args) w:=enters_of Tryz.func74 (by kernel_rfl) rfl
theorem enters60 :∀args w,(callFunc 114 args).run Tryz.prog w= .ok (.enter 114 args) w:=enters_of Tryz.func114 (by kernel_rfl) rfl
theorem plusD_le (s s':Bool) (D D':Nat):(plusD s D s' D').2≤D+D':=by unfold plusD;split<;>(try split)<;>simp<;>omega
/-- The sum of two right decimals. -/
def addR (M E M' E':Int):(Int×Int)×Int:=near (plusD (decide (M<0)) (layD M E) (decide (M'<0)) (layD M' E')).1 (plusD (decide (M<0)) (layD M E) (decide (M'<0)) (layD M' E')).2 false
theorem both_add (M E M' E':Int) (w:World) (h0: -9223372036854775808≤M) (h1:M≤9223372036854775807) (h0': -9223372036854775808≤M') (h1':M'≤9223372036854775807) (hr:rightB M E=true) (hr':rightB M' E'=true):
 Calls Tryz.prog 71 #[.agg #[.int .i64 M,.int .i64 E],.agg #[.int .i64 M',.int .i64 E'],.func (.func 73) #[.agg (numF (decide (M<0)) (dg (layD M E)) false)] #[]] w (DecPost (addR M E M' E') w):=by
 have l1:=layD_lt hr
 have l2:=layD_lt hr'
 have HPD:Hid ((plusD (decide (M<0)) (layD M E) (decide (M'<0)) (layD M' E')).2+10 ^ 57<10 ^ 96):=by
  have:=plusD_le (decide (M<0)) (decide (M'<0)) (layD M E) (layD M' E')
  have h3:(10:Nat) ^ 72+10 ^ 72+10 ^ 57<10 ^ 96:=by decide
  show _<_;omega
 have HDO:∀wc:World,Hid (∀w3,Below wc.heap.size wc w3→Calls Tryz.prog 73 (#[.agg (numF (decide (M<0)) (dg (layD M E)) false)].push (.agg (numF (decide (M'<0)) (dg (layD M' E')) false))++ #[]) w3 fun e w'=>
  e= .returned (.agg (numF (plusD (decide (M<0)) (layD M E) (decide (M'<0)) (layD M' E')).1 (dg (plusD (decide (M<0)) (layD M E) (decide (M'<0)) (layD M' E')).2) false))∧Below w3.heap.size w3 w'):=fun wc w3 _=>by
  have h3:(10:Nat) ^ 72<10 ^ 96:=by decide
  exact plus_any (decide (M<0)) (decide (M'<0)) (layD M E) (layD M' E') w3 (by show _<_;omega) (by show _<_;omega)
 exact both_ok M E M' E' 73 _ #[] w h0 h1 h0' h1' hr hr' enters57 _ _ false HPD (HDO w)
set_option maxRecDepth 100000 in
set_option maxHeartbeats 2000000 in
theorem add_ok (M E M' E':Int) (w:World) (h0: -9223372036854775808≤M) (h1:M≤9223372036854775807) (h0': -9223372036854775808≤M') (h1':M'≤9223372036854775807) (hr:rightB M E=true) (hr':rightB M' E'=true):
 Calls Tryz.prog 31 #[.agg #[.int .i64 M,.int .i64 E],.agg #[.int .i64 M',.int .i64 E']] w (DecPost (addR M E M' E') w):=by
 go_enter Tryz.func31,Tryz.ntmps31
 go_wp2_with fail
 obtain⟨W,hW⟩:∃W,W=((w.alloc (.cells #[.int .i64 M,.int .i64 E] 34)).alloc (.cells #[.int .i64 M',.int .i64 E'] 34)).alloc (.cells #[.int .i64 0,.int .i64 0] 34):=⟨_,rfl⟩
 rw[←hW]
 have d0:World.dec W w.heap.size M E:=by rw[hW];exact((World.dec_new w M E _ rfl).alloc _).alloc _
 have d1:World.dec W (w.heap.size+1) M' E':=by rw[hW];exact(World.dec_new _ M' E' _ (by simp)).alloc _
 have d2:World.dec W (w.heap.size+1+1) 0 0:=by rw[hW];exact World.dec_new _ 0 0 _ (by simp)
 have hB:Below w.heap.size w W:=by rw[hW];exact(((Below.refl _ w).alloc (Nat.le_refl _) _).alloc (by simp) _).alloc (by simp;omega) _
 clear hW
 have a0:=d0.c0
 have a1:=d0.c1
 have b0:=d1.c0
 have b1:=d1.c1
 obtain⟨r1,r2,r3,r4,_⟩:=rightB_iff.1 hr
 go_region_held3 (fun w'=>w'.cell? ⟨w.heap.size,0,none⟩=some (.int .i64 M)∧w'.cell? ⟨w.heap.size,1,none⟩=some (.int .i64 E)∧w'.cell? ⟨w.heap.size+1,0,none⟩=some (.int .i64 M')∧w'.cell? ⟨w.heap.size+1,1,none⟩=some (.int .i64 E'))
  (first|exact⟨a0,a1,b0,b1⟩|exact⟨(World.cell?_setCell_far _ _ _ _ (by first|(simp;done)|(simp;omega))).trans ((World.cell?_setCell_far _ _ _ _ (by first|(simp;done)|(simp;omega))).trans a0),(World.cell?_setCell_far _ _ _ _ (by first|(simp;done)|(simp;omega))).trans ((World.cell?_setCell_far _ _ _ _ (by first|(simp;done)|(simp;omega))).trans a1),(World.cell?_setCell_far _ _ _ _ (by first|(simp;done)|(simp;omega))).trans ((World.cell?_setCell_far _ _ _ _ (by first|(simp;done)|(simp;omega))).trans b0),(World.cell?_setCell_far _ _ _ _ (by first|(simp;done)|(simp;omega))).trans ((World.cell?_setCell_far _ _ _ _ (by first|(simp;done)|(simp;omega))).trans b1)⟩)
  (first
   |(go_at_call 72;refine(fit_any M E _ h0 h1 hr).mono ?_;rintro e w1 ⟨rfl,hB1⟩;have e0:=World.dec.below (World.dec.drew d0) hB1 d0.lt;have e1:=World.dec.below (World.dec.drew d1) hB1 d1.lt;have e2:=World.dec.below (World.dec.drew d2) hB1 d2.lt;have hC:=hB.drew.trans (hB1.mono hB.size);have a0:=e0.c0;have a1:=e0.c1;have b0:=e1.c0;have b1:=e1.c1)
   |(go_at_call 59;refine(lay_any M E _ r1 r2 r3 r4).mono ?_;rintro e w1 ⟨rfl,hB1⟩;have f0:=World.dec.below e0 hB1 e0.lt;have f1:=World.dec.below e1 hB1 e1.lt;have f2:=World.dec.below e2 hB1 e2.lt;have hD:=hC.trans (hB1.mono hC.size);have a0:=f0.c0;have a1:=f0.c1;have b0:=f1.c0;have b1:=f1.c1)
   |(go_at_call 71;refine(both_add M E M' E' _ h0 h1 h0' h1' hr hr').mono ?_;rintro e w1 ⟨rfl,hB1⟩;have g2:=World.dec.below f2 hB1 f2.lt;have hE:=hD.trans (hB1.mono hD.size);have a0:=((World.dec.below f0 hB1 f0.lt)).c0;have a1:=(World.dec.below f0 hB1 f0.lt).c1;have b0:=(World.dec.below f1 hB1 f1.lt).c0;have b1:=(World.dec.below f1 hB1 f1.lt).c1;have c0:=g2.c0;have c1:=g2.c1;have cf0:=g2.frozen 0;have cf1:=g2.frozen 1))
 go_wp2_with fail
 refine bodyPost_ret (results_dec_tmp rfl _ _ _ _ _ rfl (World.dec.set1 (World.dec.set0 g2 _) _)) rfl ?_
 exact⟨rfl,(hE.setCell (by simp;omega) _).setCell (by simp;omega) _⟩
set_option maxRecDepth 100000 in
set_option maxHeartbeats 2000000 in
theorem add_no2 (M E M' E':Int) (w:World) (h0: -9223372036854775808≤M) (h1:M≤9223372036854775807) (h0': -9223372036854775808≤M') (h1':M'≤9223372036854775807) (hr:rightB M E=true) (hr':rightB M' E'=false):
 Calls Tryz.prog 31 #[.agg #[.int .i64 M,.int .i64 E],.agg #[.int .i64 M',.int .i64 E']] w (DecPost ((0,0),10) w):=by
 go_enter Tryz.func31,Tryz.ntmps31
 go_wp2_with fail
 obtain⟨W,hW⟩:∃W,W=((w.alloc (.cells #[.int .i64 M,.int .i64 E] 34)).alloc (.cells #[.int .i64 M',.int .i64 E'] 34)).alloc (.cells #[.int .i64 0,.int .i64 0] 34):=⟨_,rfl⟩
 rw[←hW]
 have d0:World.dec W w.heap.size M E:=by rw[hW];exact((World.dec_new w M E _ rfl).alloc _).alloc _
 have d1:World.dec W (w.heap.size+1) M' E':=by rw[hW];exact(World.dec_new _ M' E' _ (by simp)).alloc _
 have d2:World.dec W (w.heap.size+1+1) 0 0:=by rw[hW];exact World.dec_new _ 0 0 _ (by simp)
 have hB:Below w.heap.size w W:=by rw[hW];exact(((Below.refl _ w).alloc (Nat.le_refl _) _).alloc (by simp) _).alloc (by simp;omega) _
 clear hW
 have a0:=d0.c0
 have a1:=d0.c1
 have b0:=d1.c0
 have b1:=d1.c1
 obtain⟨r1,r2,r3,r4,_⟩:=rightB_iff.1 hr
 go_region_held3 (fun w'=>w'.cell? ⟨w.heap.size,0,none⟩=some (.int .i64 M)∧w'.cell? ⟨w.heap.size,1,none⟩=some (.int .i64 E)∧w'.cell? ⟨w.heap.size+1,0,none⟩=some (.int .i64 M')∧w'.cell? ⟨w.heap.size+1,1,none⟩=some (.int .i64 E'))
  (first|exact⟨a0,a1,b0,b1⟩|exact⟨(World.cell?_setCell_far _ _ _ _ (by first|(simp;done)|(simp;omega))).trans ((World.cell?_setCell_far _ _ _ _ (by first|(simp;done)|(simp;omega))).trans a0),(World.cell?_setCell_far _ _ _ _ (by first|(simp;done)|(simp;omega))).trans ((World.cell?_setCell_far _ _ _ _ (by first|(simp;done)|(simp;omega))).trans a1),(World.cell?_setCell_far _ _ _ _ (by first|(simp;done)|(simp;omega))).trans ((World.cell?_setCell_far _ _ _ _ (by first|(simp;done)|(simp;omega))).trans b0),(World.cell?_setCell_far _ _ _ _ (by first|(simp;done)|(simp;omega))).trans ((World.cell?_setCell_far _ _ _ _ (by first|(simp;done)|(simp;omega))).trans b1)⟩)
  (first
   |(go_at_call 72;refine(fit_any M E _ h0 h1 hr).mono ?_;rintro e w1 ⟨rfl,hB1⟩;have e0:=World.dec.below (World.dec.drew d0) hB1 d0.lt;have e1:=World.dec.below (World.dec.drew d1) hB1 d1.lt;have e2:=World.dec.below (World.dec.drew d2) hB1 d2.lt;have hC:=hB.drew.trans (hB1.mono hB.size);have a0:=e0.c0;have a1:=e0.c1;have b0:=e1.c0;have b1:=e1.c1)
   |(go_at_call 59;refine(lay_any M E _ r1 r2 r3 r4).mono ?_;rintro e w1 ⟨rfl,hB1⟩;have f0:=World.dec.below e0 hB1 e0.lt;have f1:=World.dec.below e1 hB1 e1.lt;have f2:=World.dec.below e2 hB1 e2.lt;have hD:=hC.trans (hB1.mono hC.size);have a0:=f0.c0;have a1:=f0.c1;have b0:=f1.c0;have b1:=f1.c1)
   |(go_at_call 71;refine(both_no2 M E M' E' 73 _ #[] _ h0 h1 h0' h1' hr hr').mono ?_;rintro e w1 ⟨rfl,hB1⟩;have g2:=World.dec.below f2 hB1 f2.lt;have hE:=hD.trans (hB1.mono hD.size);have a0:=((World.dec.below f0 hB1 f0.lt)).c0;have a1:=(World.dec.below f0 hB1 f0.lt).c1;have b0:=(World.dec.below f1 hB1 f1.lt).c0;have b1:=(World.dec.below f1 hB1 f1.lt).c1;have c0:=g2.c0;have c1:=g2.c1;have cf0:=g2.frozen 0;have cf1:=g2.frozen 1))
 go_wp2_with fail
 refine bodyPost_ret (results_dec_tmp rfl _ _ _ _ _ rfl (World.dec.set1 (World.dec.set0 g2 _) _)) rfl ?_
 exact⟨rfl,(hE.setCell (by simp;omega) _).setCell (by simp;omega) _⟩
set_option maxRecDepth 100000 in
set_option maxHeartbeats 2000000 in
theorem add_no1 (M E M' E':Int) (w:World) (h0: -9223372036854775808≤M) (h1:M≤9223372036854775807) (h0': -9223372036854775808≤M') (h1':M'≤9223372036854775807) (hr:rightB M E=false):
 Calls Tryz.prog 31 #[.agg #[.int .i64 M,.int .i64 E],.agg #[.int .i64 M',.int .i64 E']] w (DecPost ((0,0),10) w):=by
 go_enter Tryz.func31,Tryz.ntmps31
 go_wp2_with fail
 obtain⟨W,hW⟩:∃W,W=((w.alloc (.cells #[.int .i64 M,.int .i64 E] 34)).alloc (.cells #[.int .i64 M',.int .i64 E'] 34)).alloc (.cells #[.int .i64 0,.int .i64 0] 34):=⟨_,rfl⟩
 rw[←hW]
 have d0:World.dec W w.heap.size M E:=by rw[hW];exact((World.dec_new w M E _ rfl).alloc _).alloc _
 have d1:World.dec W (w.heap.size+1) M' E':=by rw[hW];exact(World.dec_new _ M' E' _ (by simp)).alloc _
 have d2:World.dec W (w.heap.size+1+1) 0 0:=by rw[hW];exact World.dec_new _ 0 0 _ (by simp)
 have hB:Below w.heap.size w W:=by rw[hW];exact(((Below.refl _ w).alloc (Nat.le_refl _) _).alloc (by simp) _).alloc (by simp;omega) _
 clear hW
 have a0:=d0.c0
 have a1:=d0.c1
 have b0:=d1.c0
 have b1:=d1.c1
 go_region_held3 (fun w'=>w'.cell? ⟨w.heap.size,0,none⟩=some (.int .i64 M)∧w'.cell? ⟨w.heap.size,1,none⟩=some (.int .i64 E)∧w'.cell? ⟨w.heap.size+1,0,none⟩=some (.int .i64 M')∧w'.cell? ⟨w.heap.size+1,1,none⟩=some (.int .i64 E'))
  (first|exact⟨a0,a1,b0,b1⟩|exact⟨(World.cell?_setCell_far _ _ _ _ (by first|(simp;done)|(simp;omega))).trans ((World.cell?_setCell_far _ _ _ _ (by first|(simp;done)|(simp;omega))).trans a0),(World.cell?_setCell_far _ _ _ _ (by first|(simp;done)|(simp;omega))).trans ((World.cell?_setCell_far _ _ _ _ (by first|(simp;done)|(simp;omega))).trans a1),(World.cell?_setCell_far _ _ _ _ (by first|(simp;done)|(simp;omega))).trans ((World.cell?_setCell_far _ _ _ _ (by first|(simp;done)|(simp;omega))).trans b0),(World.cell?_setCell_far _ _ _ _ (by first|(simp;done)|(simp;omega))).trans ((World.cell?_setCell_far _ _ _ _ (by first|(simp;done)|(simp;omega))).trans b1)⟩)
  (first
   |(go_at_call 72;refine(fit_no M E _ h0 h1 hr).mono ?_;rintro e w1 ⟨rfl,hB1⟩;have e0:=World.dec.below (World.dec.drew d0) hB1 d0.lt;have e1:=World.dec.below (World.dec.drew d1) hB1 d1.lt;have e2:=World.dec.below (World.dec.drew d2) hB1 d2.lt;have hC:=hB.drew.trans (hB1.mono hB.size);have a0:=e0.c0;have a1:=e0.c1;have b0:=e1.c0;have b1:=e1.c1)
   |(go_at_call 59;refine(lay_any 0 0 _ (by omega) (by omega) (by omega) (by omega)).mono ?_;rintro e w1 ⟨rfl,hB1⟩;have f0:=World.dec.below e0 hB1 e0.lt;have f1:=World.dec.below e1 hB1 e1.lt;have f2:=World.dec.below e2 hB1 e2.lt;have hD:=hC.trans (hB1.mono hC.size);have a0:=f0.c0;have a1:=f0.c1;have b0:=f1.c0;have b1:=f1.c1)
   |(go_at_call 71;refine(both_no1 M E M' E' 73 _ #[] _ h0 h1 h0' h1' hr).mono ?_;rintro e w1 ⟨rfl,hB1⟩;have g2:=World.dec.below f2 hB1 f2.lt;have hE:=hD.trans (hB1.mono hD.size);have a0:=((World.dec.below f0 hB1 f0.lt)).c0;have a1:=(World.dec.below f0 hB1 f0.lt).c1;have b0:=(World.dec.below f1 hB1 f1.lt).c0;have b1:=(World.dec.below f1 hB1 f1.lt).c1;have c0:=g2.c0;have c1:=g2.c1;have cf0:=g2.frozen 0;have cf1:=g2.frozen 1))
 go_wp2_with fail
 refine bodyPost_ret (results_dec_tmp rfl _ _ _ _ _ rfl (World.dec.set1 (World.dec.set0 g2 _) _)) rfl ?_
 exact⟨rfl,(hE.setCell (by simp;omega) _).setCell (by simp;omega) _⟩
/-- The sum of two decimals. -/
def addD (M E M' E':Int):(Int×Int)×Int:=if rightB M E=true∧rightB M' E'=true then addR M E M' E' else((0,0),10)
theorem add_any (M E M' E':Int) (w:World) (h0: -9223372036854775808≤M) (h1:M≤9223372036854775807) (h0': -9223372036854775808≤M') (h1':M'≤9223372036854775807):
 Calls Tryz.prog 31 #[.agg #[.int .i64 M,.int .i64 E],.agg #[.int .i64 M',.int .i64 E']] w (DecPost (addD M E M' E') w):=by
 unfold addD
 by_cases hr:rightB M E=true
 ·by_cases hr':rightB M' E'=true
  ·rw[if_pos ⟨hr,hr'⟩];exact add_ok M E M' E' w h0 h1 h0' h1' hr hr'
  ·rw[if_neg (fun h=>hr' h.2)];exact add_no2 M E M' E' w h0 h1 h0' h1' hr (by simpa using hr')
 ·rw[if_neg (fun h=>hr h.1)];exact add_no1 M E M' E' w h0 h1 h0' h1' (by simpa using hr)
end Go.Proofs.YtmhfioimgllgeaaGreatDoor
namespace Go.Proofs.YtmhfioimgllgeaaGreatDoor
open Go.RowKit Go.Shelf
def mulN (M E M' E':Int):Nat:=M.natAbs*M'.natAbs*10 ^ (48+(E+E')).toNat
theorem mul_lt15 {a b:Nat} (ha:a≤999999999999999) (hb:b≤999999999999999):a*b<1000000000000000000000000000000:=
 Nat.lt_of_le_of_lt (Nat.mul_le_mul ha hb) (by decide)
theorem two_words (P:Nat):(((P / 18446744073709551616:Nat):Int))*18446744073709551616+((P%18446744073709551616:Nat):Int)=(P:Int):=by omega
theorem hi_le (P:Nat) (h:P<1000000000000000000000000000000):((P / 18446744073709551616:Nat):Int)≤18446744073709551615:=by omega
theorem lo_le (P:Nat):((P%18446744073709551616:Nat):Int)≤18446744073709551615:=by omega
set_option maxRecDepth 100000 in
set_option maxHeartbeats 2000000 in
theorem mulf_any (s:Bool) (f:Nat→Int) (m:Bool) (ba bb:Nat) (M E M' E':Int) (w:World) (hr:rightB M E=true) (hr':rightB M' E'=true) (ha:World.dec w ba M E) (hb:World.dec w bb M' E'):
 Calls Tryz.prog 74 #[.agg (numF s f m),.pointer (some ⟨ba,0,none⟩),.pointer (some ⟨bb,0,none⟩)] w (OfPost (mulS M M') (mulN M E M' E') w):=by
 obtain⟨r1,r2,r3,r4,_⟩:=rightB_iff.1 hr
 obtain⟨q1,q2,q3,q4,_⟩:=rightB_iff.1 hr'
 have la:=ha.lt
 have lb:=hb.lt
 go_enter Tryz.func74,Tryz.ntmps74
 go_wp2_with (first
  |(refine wpList_alloc56 rfl rfl ?_
    obtain⟨W,hW⟩:∃W,W=(w.alloc (.cells (numF s f m) 105)).alloc (.cells (numF false z96 false) 105):=⟨_,rfl⟩
    rw[←hW]
    have d0:World.dec W ba M E:=by rw[hW];exact(ha.alloc _).alloc _
    have d1:World.dec W bb M' E':=by rw[hW];exact(hb.alloc _).alloc _
    have n2:World.num W (w.heap.size+1) false z96 false:=by rw[hW];exact World.num_new' _ _ _ _ _ (by simp)
    have hB:Below w.heap.size w W:=by rw[hW];exact((Below.refl _ w).alloc (Nat.le_refl _) _).alloc (by simp) _
    clear hW
    have a0:=d0.c0
    have a1:=d0.c1
    have b0:=d1.c0
    have b1:=d1.c1))
 go_quiet ((first|(go_at_call 76;exact Calls.quiet_of_same (abs_any _ _ (by omega) (by omega)))|(go_at_call 75;exact Calls.quiet_of_same (Tryz.bits_Mul64 _ _ (by omega) (by omega) _))))
 go_wp2_with fail
 have hP:M.natAbs*M'.natAbs<1000000000000000000000000000000:=mul_lt15 (by omega) (by omega)
 have hlow:Hid (M.natAbs*M'.natAbs*10 ^ (48+(E+E')).toNat<10 ^ 96):=lay_lt (a:=30) (b:=66) (by rw[show (10:Nat) ^ 30=1000000000000000000000000000000 from by decide];exact hP) (by omega) (by decide)
 refine(of_any _ _ _ _ (M.natAbs*M'.natAbs) (48+(E+E')).toNat _ ?_ ?_ ?_ ?_ ?_ ?_ hlow ?_).mono ?_
 ·exact Int.natCast_nonneg _
 ·exact Int.natCast_nonneg _
 ·exact hi_le _ hP
 ·exact lo_le _
 ·exact two_words _
 ·omega
 ·omega
 rintro e w1 ⟨rfl,hB1⟩
 have n2:=World.num.below (World.num.drewN n2 _) hB1 (by simp;exact n2.lt)
 have hB:=(below_drewN hB _).trans (hB1.mono (by simp;exact hB.size))
 clear hB1 hP hlow a0 a1 b0 b1 d0 d1
 go_wp2_with (refine wpList_store56 rfl rfl rfl rfl n2 ?_;intro w2 n3 g3 z3)
 refine bodyPost_ret (results_cell_row rfl _ _ _ 105 _ (0,0) _ rfl n3 Tryz.underlying105 rfl (info56' _ _ _)) rfl ?_
 exact⟨rfl,hB.grown g3 hB.size (fun k hk=>by cases hk;omega)⟩
def mulR (M E M' E':Int):(Int×Int)×Int:=near (mulS M M') (mulN M E M' E') false
theorem mulN_lt {M E M' E':Int} (hr:rightB M E=true) (hr':rightB M' E'=true):mulN M E M' E'+10 ^ 57<10 ^ 96:=by
 obtain⟨r1,r2,r3,r4,_⟩:=rightB_iff.1 hr
 obtain⟨q1,q2,q3,q4,_⟩:=rightB_iff.1 hr'
 have h1:M.natAbs*M'.natAbs≤999999999999999*999999999999999:=Nat.mul_le_mul (by omega) (by omega)
 have h2:10 ^ (48+(E+E')).toNat≤10 ^ 66:=Nat.pow_le_pow_right (by decide) (by omega)
 have h3:mulN M E M' E'≤999999999999999*999999999999999*10 ^ 66:=Nat.mul_le_mul h1 h2
 have h4:999999999999999*999999999999999*10 ^ 66+10 ^ 57<10 ^ 96:=by decide
 omega
set_option maxRecDepth 100000 in
set_option maxHeartbeats 2000000 in
theorem mul_ok (M E M' E':Int) (w:World) (h0: -9223372036854775808≤M) (h1:M≤9223372036854775807) (h0': -9223372036854775808≤M') (h1':M'≤9223372036854775807) (hr:rightB M E=true) (hr':rightB M' E'=true):
 Calls Tryz.prog 32 #[.agg #[.int .i64 M,.int .i64 E],.agg #[.int .i64 M',.int .i64 E']] w (DecPost (mulR M E M' E') w):=by
 go_enter Tryz.func32,Tryz.ntmps32
 go_wp2_with fail
 obtain⟨W,hW⟩:∃W,W=((w.alloc (.cells #[.int .i64 M,.int .i64 E] 34)).alloc (.cells #[.int .i64 M',.int .i64 E'] 34)).alloc (.cells #[.int .i64 0,.int .i64 0] 34):=⟨_,rfl⟩
 rw[←hW]
 have d0:World.dec W w.heap.size M E:=by rw[hW];exact((World.dec_new w M E _ rfl).alloc _).alloc _
 have d1:World.dec W (w.heap.size+1) M' E':=by rw[hW];exact(World.dec_new _ M' E' _ (by simp)).alloc _
 have d2:World.dec W (w.heap.size+1+1) 0 0:=by rw[hW];exact World.dec_new _ 0 0 _ (by simp)
 have hB:Below w.heap.size w W:=by rw[hW];exact(((Below.refl _ w).alloc (Nat.le_refl _) _).alloc (by simp) _).alloc (by simp;omega) _
 clear hW
 refine(both_ok M E M' E' 74 #[] #[.pointer (some ⟨w.heap.size,0,none⟩),.pointer (some ⟨w.heap.size+1,0,none⟩)] _ h0 h1 h0' h1' hr hr' enters58 (mulS M M') (mulN M E M' E') false (mulN_lt hr hr') (fun w3 hb=>mulf_any _ _ _ _ _ M E M' E' w3 hr hr' (d0.below hb d0.lt) (d1.below hb d1.lt))).mono ?_
 rintro e w1 ⟨rfl,hB1⟩
 have d2:=d2.below hB1 d2.lt
 have hB:=hB.trans (hB1.mono hB.size)
 clear hB1
 have g0:=d2.c0
 have g1:=d2.c1
 have gf0:=d2.frozen 0
 have gf1:=d2.frozen 1
 go_wp2_with fail
 refine bodyPost_ret (results_dec_tmp rfl _ _ _ _ _ rfl (World.dec.set1 (World.dec.set0 d2 _) _)) rfl ?_
 exact⟨rfl,(hB.setCell (by simp;omega) _).setCell (by simp;omega) _⟩
set_option maxRecDepth 100000 in
set_option maxHeartbeats 2000000 in
theorem mul_no1 (M E M' E':Int) (w:World) (h0: -9223372036854775808≤M) (h1:M≤9223372036854775807) (h0': -9223372036854775808≤M') (h1':M'≤9223372036854775807) (hr:rightB M E=false):
 Calls Tryz.prog 32 #[.agg #[.int .i64 M,.int .i64 E],.agg #[.int .i64 M',.int .i64 E']] w (DecPost ((0,0),10) w):=by
 go_enter Tryz.func32,Tryz.ntmps32
 go_wp2_with fail
 obtain⟨W,hW⟩:∃W,W=((w.alloc (.cells #[.int .i64 M,.int .i64 E] 34)).alloc (.cells #[.int .i64 M',.int .i64 E'] 34)).alloc (.cells #[.int .i64 0,.int .i64 0] 34):=⟨_,rfl⟩
 rw[←hW]
 have d0:World.dec W w.heap.size M E:=by rw[hW];exact((World.dec_new w M E _ rfl).alloc _).alloc _
 have d1:World.dec W (w.heap.size+1) M' E':=by rw[hW];exact(World.dec_new _ M' E' _ (by simp)).alloc _
 have d2:World.dec W (w.heap.size+1+1) 0 0:=by rw[hW];exact World.dec_new _ 0 0 _ (by simp)
 have hB:Below w.heap.size w W:=by rw[hW];exact(((Below.refl _ w).alloc (Nat.le_refl _) _).alloc (by simp) _).alloc (by simp;omega) _
 clear hW
 refine(both_no1 M E M' E' 74 #[] _ _ h0 h1 h0' h1' hr).mono ?_
 rintro e w1 ⟨rfl,hB1⟩
 have d2:=d2.below hB1 d2.lt
 have hB:=hB.trans (hB1.mono hB.size)
 clear hB1
 have g0:=d2.c0
 have g1:=d2.c1
 have gf0:=d2.frozen 0
 have gf1:=d2.frozen 1
 go_wp2_with fail
 refine bodyPost_ret (results_dec_tmp rfl _ _ _ _ _ rfl (World.dec.set1 (World.dec.set0 d2 _) _)) rfl ?_
 exact⟨rfl,(hB.setCell (by simp;omega) _).setCell (by simp;omega) _⟩
set_option maxRecDepth 100000 in
set_option maxHeartbeats 2000000 in
theorem mul_no2 (M E M' E':Int) (w:World) (h0: -9223372036854775808≤M) (h1:M≤9223372036854775807) (h0': -9223372036854775808≤M') (h1':M'≤9223372036854775807) (hr:rightB M E=true) (hr':rightB M' E'=false):
 Calls Tryz.prog 32 #[.agg #[.int .i64 M,.int .i64 E],.agg #[.int .i64 M',.int .i64 E']] w (DecPost ((0,0),10) w):=by
 go_enter Tryz.func32,Tryz.ntmps32
 go_wp2_with fail
 obtain⟨W,hW⟩:∃W,W=((w.alloc (.cells #[.int .i64 M,.int .i64 E] 34)).alloc (.cells #[.int .i64 M',.int .i64 E'] 34)).alloc (.cells #[.int .i64 0,.int .i64 0] 34):=⟨_,rfl⟩
 rw[←hW]
 have d0:World.dec W w.heap.size M E:=by rw[hW];exact((World.dec_new w M E _ rfl).alloc _).alloc _
 have d1:World.dec W (w.heap.size+1) M' E':=by rw[hW];exact(World.dec_new _ M' E' _ (by simp)).alloc _
 have d2:World.dec W (w.heap.size+1+1) 0 0:=by rw[hW];exact World.dec_new _ 0 0 _ (by simp)
 have hB:Below w.heap.size w W:=by rw[hW];exact(((Below.refl _ w).alloc (Nat.le_refl _) _).alloc (by simp) _).alloc (by simp;omega) _
 clear hW
 refine(both_no2 M E M' E' 74 #[] _ _ h0 h1 h0' h1' hr hr').mono ?_
 rintro e w1 ⟨rfl,hB1⟩
 have d2:=d2.below hB1 d2.lt
 have hB:=hB.trans (hB1.mono hB.size)
 clear hB1
 have g0:=d2.c0
 have g1:=d2.c1
 have gf0:=d2.frozen 0
 have gf1:=d2.frozen 1
 go_wp2_with fail
 refine bodyPost_ret (results_dec_tmp rfl _ _ _ _ _ rfl (World.dec.set1 (World.dec.set0 d2 _) _)) rfl ?_
 exact⟨rfl,(hB.setCell (by simp;omega) _).setCell (by simp;omega) _⟩
/-- The product of two decimals. -/
def mulD (M E M' E':Int):(Int×Int)×Int:=if rightB M E=true∧rightB M' E'=true then mulR M E M' E' else((0,0),10)
theorem mul_any (M E M' E':Int) (w:World) (h0: -9223372036854775808≤M) (h1:M≤9223372036854775807) (h0': -9223372036854775808≤M') (h1':M'≤9223372036854775807):
 Calls Tryz.prog 32 #[.agg #[.int .i64 M,.int .i64 E],.agg #[.int .i64 M',.int .i64 E']] w (DecPost (mulD M E M' E') w):=by
 unfold mulD
 by_cases hr:rightB M E=true
 ·by_cases hr':rightB M' E'=true
  ·rw[if_pos ⟨hr,hr'⟩];exact mul_ok M E M' E' w h0 h1 h0' h1' hr hr'
  ·rw[if_neg (fun h=>hr' h.2)];exact mul_no2 M E M' E' w h0 h1 h0' h1' hr (by simpa using hr')
 ·rw[if_neg (fun h=>hr h.1)];exact mul_no1 M E M' E' w h0 h1 h0' h1' (by simpa using hr)
end Go.Proofs.YtmhfioimgllgeaaGreatDoor
