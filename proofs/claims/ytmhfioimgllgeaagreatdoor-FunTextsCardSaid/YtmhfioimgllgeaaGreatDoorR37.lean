/- Merged: YAdd, YRound, YFloor, YEqs, YOfn. -/
import Derived.Test.YtmhfioimgllgeaaGreatDoorR01
import Derived.Test.YtmhfioimgllgeaaGreatDoorR22
import Derived.Test.YtmhfioimgllgeaaGreatDoorR15
import Derived.Test.YtmhfioimgllgeaaGreatDoorR08
import Derived.Test.YtmhfioimgllgeaaGreatDoorR35
import Derived.Test.YtmhfioimgllgeaaGreatDoorR36
import Derived.Shelf.Abstract
import Derived.Deep.RegionHeld3
import Derived.Test.YtmhfioimgllgeaaGreatDoorR12
import Derived.Test.YtmhfioimgllgeaaGreatDoorR05
import Derived.Deep.DeepCutAuto
import Derived.RegionTactic
import Derived.ChangeAlike
import Derived.ChangeKeysEq
import Derived.DeepKeys
namespace Go.Proofs.YtmhfioimgllgeaaGreatDoor
open Go.RowKit Go.Shelf
theorem enters57 :∀args w,(callFunc 73 args).run Tryz.prog w= .ok (.enter 73 args) w:=enters_of Tryz.func73 (by kernel_rfl) rfl
theorem plusD_le (s s':Bool) (D D':Nat):(plusD s D s' D').2≤D+D':=by unfold plusD;split<;>(try split)<;>simp<;>omega
/-- The sum of two right decimals. -/
def addR (M E M' E':Int):(Int×Int)×Int:=near (plusD (decide (M<0)) (layD M E) (decide (M'<0)) (layD M' E')).1 (plusD (decide (M<0)) (layD M E) (decide (M'<0)) (layD M' E')).2 false
theorem both_add (M E M' E':Int) (w:World) (h0: -9223372036854775808≤M) (h1:M≤9223372036854775807) (h0': -9223372036854775808≤M') (h1':M'≤9223372036854775807) (hr:rightB M E=true) (hr':rightB M' E'=true):
 Calls Tryz.prog 71 #[.agg #[.int .i64 M,.int .i64 E],.agg #[.int .i64 M',.int .i64 E'],.func (.func 73) #[.agg (numF (decide (M<0)) (dg (layD M E)) false)] #[]] w (DecPost (addR M E M' E') w):=by
 have l1:=layD_lt hr
 have l2:=layD_lt hr'
 have HPD:Hid ((plusD (decide (M<0)) (layD M E) (decide (M'<0)) (layD M' E')).2+10 ^ 57<10 ^ 96):=by
  have:=plusD_le (decide (M<0)) (decide (M'<0)) (layD M E) (layD M' E')
  have h3:(10:Nat) ^ 72+10 ^ 72+10 ^ 57<10 ^ 96:=by decide
  show _<_;omega
 have HDO:∀wc:World,Hid (∀w3,Below wc.heap.size wc w3→Calls Tryz.prog 73 (#[.agg (numF (decide (M<0)) (dg (layD M E)) false)].push (.agg (numF (decide (M'<0)) (dg (layD M' E')) false))++ #[]) w3 fun e w'=>
  e= .returned (.agg (numF (plusD (decide (M<0)) (layD M E) (decide (M'<0)) (layD M' E')).1 (dg (plusD (decide (M<0)) (layD M E) (decide (M'<0)) (layD M' E')).2) false))∧Below w3.heap.size w3 w'):=fun wc w3 _=>by
  have h3:(10:Nat) ^ 72<10 ^ 96:=by decide
  exact plus_any (decide (M<0)) (decide (M'<0)) (layD M E) (layD M' E') w3 (by show _<_;omega) (by show _<_;omega)
 exact both_ok M E M' E' 73 _ #[] w h0 h1 h0' h1' hr hr' enters57 _ _ false HPD (HDO w)
set_option maxRecDepth 100000 in
set_option maxHeartbeats 2000000 in
theorem add_ok (M E M' E':Int) (w:World) (h0: -9223372036854775808≤M) (h1:M≤9223372036854775807) (h0': -9223372036854775808≤M') (h1':M'≤9223372036854775807) (hr:rightB M E=true) (hr':rightB M' E'=true):
 Calls Tryz.prog 31 #[.agg #[.int .i64 M,.int .i64 E],.agg #[.int .i64 M',.int .i64 E']] w (DecPost (addR M E M' E') w):=by
 go_enter Tryz.func31,Tryz.ntmps31
 go_wp2_with fail
 obtain⟨W,hW⟩:∃W,W=((w.alloc (.cells #[.int .i64 M,.int .i64 E] 34)).alloc (.cells #[.int .i64 M',.int .i64 E'] 34)).alloc (.cells #[.int .i64 0,.int .i64 0] 34):=⟨_,rfl⟩
 rw[←hW]
 have d0:World.dec W w.heap.size M E:=by rw[hW];exact((World.dec_new w M E _ rfl).alloc _).alloc _
 have d1:World.dec W (w.heap.size+1) M' E':=by rw[hW];exact(World.dec_new _ M' E' _ (by simp)).alloc _
 have d2:World.dec W (w.heap.size+1+1) 0 0:=by rw[hW];exact World.dec_new _ 0 0 _ (by simp)
 have hB:Below w.heap.size w W:=by rw[hW];exact(((Below.refl _ w).alloc (Nat.le_refl _) _).alloc (by simp) _).alloc (by simp;omega) _
 clear hW
 have a0:=d0.c0
 have a1:=d0.c1
 have b0:=d1.c0
 have b1:=d1.c1
 obtain⟨r1,r2,r3,r4,_⟩:=rightB_iff.1 hr
 go_region_held3 (fun w'=>w'.cell? ⟨w.heap.size,0,none⟩=some (.int .i64 M)∧w'.cell? ⟨w.heap.size,1,none⟩=some (.int .i64 E)∧w'.cell? ⟨w.heap.size+1,0,none⟩=some (.int .i64 M')∧w'.cell? ⟨w.heap.size+1,1,none⟩=some (.int .i64 E'))
  (first|exact⟨a0,a1,b0,b1⟩|exact⟨(World.cell?_setCell_far _ _ _ _ (by first|(simp;done)|(simp;omega))).trans ((World.cell?_setCell_far _ _ _ _ (by first|(simp;done)|(simp;omega))).trans a0),(World.cell?_setCell_far _ _ _ _ (by first|(simp;done)|(simp;omega))).trans ((World.cell?_setCell_far _ _ _ _ (by first|(simp;done)|(simp;omega))).trans a1),(World.cell?_setCell_far _ _ _ _ (by first|(simp;done)|(simp;omega))).trans ((World.cell?_setCell_far _ _ _ _ (by first|(simp;done)|(simp;omega))).trans b0),(World.cell?_setCell_far _ _ _ _ (by first|(simp;done)|(simp;omega))).trans ((World.cell?_setCell_far _ _ _ _ (by first|(simp;done)|(simp;omega))).trans b1)⟩)
  (first
   |(go_at_call 72;refine(fit_any M E _ h0 h1 hr).mono ?_;rintro e w1 ⟨rfl,hB1⟩;have e0:=World.dec.below (World.dec.drew d0) hB1 d0.lt;have e1:=World.dec.below (World.dec.drew d1) hB1 d1.lt;have e2:=World.dec.below (World.dec.drew d2) hB1 d2.lt;have hC:=hB.drew.trans (hB1.mono hB.size);have a0:=e0.c0;have a1:=e0.c1;have b0:=e1.c0;have b1:=e1.c1)
   |(go_at_call 59;refine(lay_any M E _ r1 r2 r3 r4).mono ?_;rintro e w1 ⟨rfl,hB1⟩;have f0:=World.dec.below e0 hB1 e0.lt;have f1:=World.dec.below e1 hB1 e1.lt;have f2:=World.dec.below e2 hB1 e2.lt;have hD:=hC.trans (hB1.mono hC.size);have a0:=f0.c0;have a1:=f0.c1;have b0:=f1.c0;have b1:=f1.c1)
   |(go_at_call 71;refine(both_add M E M' E' _ h0 h1 h0' h1' hr hr').mono ?_;rintro e w1 ⟨rfl,hB1⟩;have g2:=World.dec.below f2 hB1 f2.lt;have hE:=hD.trans (hB1.mono hD.size);have a0:=((World.dec.below f0 hB1 f0.lt)).c0;have a1:=(World.dec.below f0 hB1 f0.lt).c1;have b0:=(World.dec.below f1 hB1 f1.lt).c0;have b1:=(World.dec.below f1 hB1 f1.lt).c1;have c0:=g2.c0;have c1:=g2.c1;have cf0:=g2.frozen 0;have cf1:=g2.frozen 1))
 go_wp2_with fail
 refine bodyPost_ret (results_dec_tmp rfl _ _ _ _ _ rfl (World.dec.set1 (World.dec.set0 g2 _) _)) rfl ?_
 exact⟨rfl,(hE.setCell (by simp;omega) _).setCell (by simp;omega) _⟩
set_option maxRecDepth 100000 in
set_option maxHeartbeats 2000000 in
theorem add_no2 (M E M' E':Int) (w:World) (h0: -9223372036854775808≤M) (h1:M≤9223372036854775807) (h0': -9223372036854775808≤M') (h1':M'≤9223372036854775807) (hr:rightB M E=true) (hr':rightB M' E'=false):
 Calls Tryz.prog 31 #[.agg #[.int .i64 M,.int .i64 E],.agg #[.int .i64 M',.int .i64 E']] w (DecPost ((0,0),10) w):=by
 go_enter Tryz.func31,Tryz.ntmps31
 go_wp2_with fail
 obtain⟨W,hW⟩:∃W,W=((w.alloc (.cells #[.int .i64 M,.int .i64 E] 34)).alloc (.cells #[.int .i64 M',.int .i64 E'] 34)).alloc (.cells #[.int .i64 0,.int .i64 0] 34):=⟨_,rfl⟩
 rw[←hW]
 have d0:World.dec W w.heap.size M E:=by rw[hW];exact((World.dec_new w M E _ rfl).alloc _).alloc _
 have d1:World.dec W (w.heap.size+1) M' E':=by rw[hW];exact(World.dec_new _ M' E' _ (by simp)).alloc _
 have d2:World.dec W (w.heap.size+1+1) 0 0:=by rw[hW];exact World.dec_new _ 0 0 _ (by simp)
 have hB:Below w.heap.size w W:=by rw[hW];exact(((Below.refl _ w).alloc (Nat.le_refl _) _).alloc (by simp) _).alloc (by simp;omega) _
 clear hW
 have a0:=d0.c0
 have a1:=d0.c1
 have b0:=d1.c0
 have b1:=d1.c1
 obtain⟨r1,r2,r3,r4,_⟩:=rightB_iff.1 hr
 go_region_held3 (fun w'=>w'.cell? ⟨w.heap.size,0,none⟩=some (.int .i64 M)∧w'.cell? ⟨w.heap.size,1,none⟩=some (.int .i64 E)∧w'.cell? ⟨w.heap.size+1,0,none⟩=some (.int .i64 M')∧w'.cell? ⟨w.heap.size+1,1,none⟩=some (.int .i64 E'))
  (first|exact⟨a0,a1,b0,b1⟩|exact⟨(World.cell?_setCell_far _ _ _ _ (by first|(simp;done)|(simp;omega))).trans ((World.cell?_setCell_far _ _ _ _ (by first|(simp;done)|(simp;omega))).trans a0),(World.cell?_setCell_far _ _ _ _ (by first|(simp;done)|(simp;omega))).trans ((World.cell?_setCell_far _ _ _ _ (by first|(simp;done)|(simp;omega))).trans a1),(World.cell?_setCell_far _ _ _ _ (by first|(simp;done)|(simp;omega))).trans ((World.cell?_setCell_far _ _ _ _ (by first|(simp;done)|(simp;omega))).trans b0),(World.cell?_setCell_far _ _ _ _ (by first|(simp;done)|(simp;omega))).trans ((World.cell?_setCell_far _ _ _ _ (by first|(simp;done)|(simp;omega))).trans b1)⟩)
  (first
   |(go_at_call 72;refine(fit_any M E _ h0 h1 hr).mono ?_;rintro e w1 ⟨rfl,hB1⟩;have e0:=World.dec.below (World.dec.drew d0) hB1 d0.lt;have e1:=World.dec.below (World.dec.drew d1) hB1 d1.lt;have e2:=World.dec.below (World.dec.drew d2) hB1 d2.lt;have hC:=hB.drew.trans (hB1.mono hB.size);have a0:=e0.c0;have a1:=e0.c1;have b0:=e1.c0;have b1:=e1.c1)
   |(go_at_call 59;refine(lay_any M E _ r1 r2 r3 r4).mono ?_;rintro e w1 ⟨rfl,hB1⟩;have f0:=World.dec.below e0 hB1 e0.lt;have f1:=World.dec.below e1 hB1 e1.lt;have f2:=World.dec.below e2 hB1 e2.lt;have hD:=hC.trans (hB1.mono hC.size);have a0:=f0.c0;have a1:=f0.c1;have b0:=f1.c0;have b1:=f1.c1)
   |(go_at_call 71;refine(both_no2 M E M' E' 73 _ #[] _ h0 h1 h0' h1' hr hr').mono ?_;rintro e w1 ⟨rfl,hB1⟩;have g2:=World.dec.below f2 hB1 f2.lt;have hE:=hD.trans (hB1.mono hD.size);have a0:=((World.dec.below f0 hB1 f0.lt)).c0;have a1:=(World.dec.below f0 hB1 f0.lt).c1;have b0:=(World.dec.below f1 hB1 f1.lt).c0;have b1:=(World.dec.below f1 hB1 f1.lt).c1;have c0:=g2.c0;have c1:=g2.c1;have cf0:=g2.frozen 0;have cf1:=g2.frozen 1))
 go_wp2_with fail
 refine bodyPost_ret (results_dec_tmp rfl _ _ _ _ _ rfl (World.dec.set1 (World.dec.set0 g2 _) _)) rfl ?_
 exact⟨rfl,(hE.setCell (by simp;omega) _).setCell (by simp;omega) _⟩
set_option maxRecDepth 100000 in
set_option maxHeartbeats 2000000 in
theorem add_no1 (M E M' E':Int) (w:World) (h0: -9223372036854775808≤M) (h1:M≤9223372036854775807) (h0': -9223372036854775808≤M') (h1':M'≤9223372036854775807) (hr:rightB M E=false):
 Calls Tryz.prog 31 #[.agg #[.int .i64 M,.int .i64 E],.agg #[.int .i64 M',.int .i64 E']] w (DecPost ((0,0),10) w):=by
 go_enter Tryz.func31,Tryz.ntmps31
 go_wp2_with fail
 obtain⟨W,hW⟩:∃W,W=((w.alloc (.cells #[.int .i64 M,.int .i64 E] 34)).alloc (.cells #[.int .i64 M',.int .i64 E'] 34)).alloc (.cells #[.int .i64 0,.int .i64 0] 34):=⟨_,rfl⟩
 rw[←hW]
 have d0:World.dec W w.heap.size M E:=by rw[hW];exact((World.dec_new w M E _ rfl).alloc _).alloc _
 have d1:World.dec W (w.heap.size+1) M' E':=by rw[hW];exact(World.dec_new _ M' E' _ (by simp)).alloc _
 have d2:World.dec W (w.heap.size+1+1) 0 0:=by rw[hW];exact World.dec_new _ 0 0 _ (by simp)
 have hB:Below w.heap.size w W:=by rw[hW];exact(((Below.refl _ w).alloc (Nat.le_refl _) _).alloc (by simp) _).alloc (by simp;omega) _
 clear hW
 have a0:=d0.c0
 have a1:=d0.c1
 have b0:=d1.c0
 have b1:=d1.c1
 go_region_held3 (fun w'=>w'.cell? ⟨w.heap.size,0,none⟩=some (.int .i64 M)∧w'.cell? ⟨w.heap.size,1,none⟩=some (.int .i64 E)∧w'.cell? ⟨w.heap.size+1,0,none⟩=some (.int .i64 M')∧w'.cell? ⟨w.heap.size+1,1,none⟩=some (.int .i64 E'))
  (first|exact⟨a0,a1,b0,b1⟩|exact⟨(World.cell?_setCell_far _ _ _ _ (by first|(simp;done)|(simp;omega))).trans ((World.cell?_setCell_far _ _ _ _ (by first|(simp;done)|(simp;omega))).trans a0),(World.cell?_setCell_far _ _ _ _ (by first|(simp;done)|(simp;omega))).trans ((World.cell?_setCell_far _ _ _ _ (by first|(simp;done)|(simp;omega))).trans a1),(World.cell?_setCell_far _ _ _ _ (by first|(simp;done)|(simp;omega))).trans ((World.cell?_setCell_far _ _ _ _ (by first|(simp;done)|(simp;omega))).trans b0),(World.cell?_setCell_far _ _ _ _ (by first|(simp;done)|(simp;omega))).trans ((World.cell?_setCell_far _ _ _ _ (by first|(simp;done)|(simp;omega))).trans b1)⟩)
  (first
   |(go_at_call 72;refine(fit_no M E _ h0 h1 hr).mono ?_;rintro e w1 ⟨rfl,hB1⟩;have e0:=World.dec.below (World.dec.drew d0) hB1 d0.lt;have e1:=World.dec.below (World.dec.drew d1) hB1 d1.lt;have e2:=World.dec.below (World.dec.drew d2) hB1 d2.lt;have hC:=hB.drew.trans (hB1.mono hB.size);have a0:=e0.c0;have a1:=e0.c1;have b0:=e1.c0;have b1:=e1.c1)
   |(go_at_call 59;refine(lay_any 0 0 _ (by omega) (by omega) (by omega) (by omega)).mono ?_;rintro e w1 ⟨rfl,hB1⟩;have f0:=World.dec.below e0 hB1 e0.lt;have f1:=World.dec.below e1 hB1 e1.lt;have f2:=World.dec.below e2 hB1 e2.lt;have hD:=hC.trans (hB1.mono hC.size);have a0:=f0.c0;have a1:=f0.c1;have b0:=f1.c0;have b1:=f1.c1)
   |(go_at_call 71;refine(both_no1 M E M' E' 73 _ #[] _ h0 h1 h0' h1' hr).mono ?_;rintro e w1 ⟨rfl,hB1⟩;have g2:=World.dec.below f2 hB1 f2.lt;have hE:=hD.trans (hB1.mono hD.size);have a0:=((World.dec.below f0 hB1 f0.lt)).c0;have a1:=(World.dec.below f0 hB1 f0.lt).c1;have b0:=(World.dec.below f1 hB1 f1.lt).c0;have b1:=(World.dec.below f1 hB1 f1.lt).c1;have c0:=g2.c0;have c1:=g2.c1;have cf0:=g2.frozen 0;have cf1:=g2.frozen 1))
 go_wp2_with fail
 refine bodyPost_ret (results_dec_tmp rfl _ _ _ _ _ rfl (World.dec.set1 (World.dec.set0 g2 _) _)) rfl ?_
 exact⟨rfl,(hE.setCell (by simp;omega) _).setCell (by simp;omega) _⟩
/-- The sum of two decimals. -/
def addD (M E M' E':Int):(Int×Int)×Int:=if rightB M E=true∧rightB M' E'=true then addR M E M' E' else((0,0),10)
theorem add_any (M E M' E':Int) (w:World) (h0: -9223372036854775808≤M) (h1:M≤9223372036854775807) (h0': -9223372036854775808≤M') (h1':M'≤9223372036854775807):
 Calls Tryz.prog 31 #[.agg #[.int .i64 M,.int .i64 E],.agg #[.int .i64 M',.int .i64 E']] w (DecPost (addD M E M' E') w):=by
 unfold addD
 by_cases hr:rightB M E=true
 ·by_cases hr':rightB M' E'=true
  ·rw[if_pos ⟨hr,hr'⟩];exact add_ok M E M' E' w h0 h1 h0' h1' hr hr'
  ·rw[if_neg (fun h=>hr' h.2)];exact add_no2 M E M' E' w h0 h1 h0' h1' hr (by simpa using hr')
 ·rw[if_neg (fun h=>hr h.1)];exact add_no1 M E M' E' w h0 h1 h0' h1' (by simpa using hr)
end Go.Proofs.YtmhfioimgllgeaaGreatDoor
namespace Go.Proofs.YtmhfioimgllgeaaGreatDoor
open Go.RowKit
/-- A number cut at a place, one more of that place if so told. -/
def cutN (D:Nat) (k:Nat) (up:Bool):Nat:=(D / 10 ^ k+(if up=true then 1 else 0))*10 ^ k
theorem cutN_le {D k:Nat} {up:Bool}:cutN D k up≤D+10 ^ k:=by
 unfold cutN
 have:=Nat.div_mul_le_self D (10 ^ k)
 rw[Nat.add_mul]
 have h0:=pow10_pos k
 split<;>(try rw[Nat.one_mul])<;>(try rw[Nat.zero_mul])<;>omega
theorem cutN_lt {D k:Nat} {up:Bool} (hk:k≤57) (hD:D<10 ^ 72):cutN D k up+10 ^ 57<10 ^ 96:=by
 have h1:= @cutN_le D k up
 have h2:10 ^ k≤10 ^ 57:=Nat.pow_le_pow_right (by decide) hk
 have h3:(10:Nat) ^ 72+10 ^ 57+10 ^ 57<10 ^ 96:=by decide
 omega
theorem cut_b (b:Nat) (s m:Bool) (D:Nat) (k:Int) (up:Bool) (w:World) (hx:World.num w b s (dg D) m) (k0:1≤k) (k1:k≤57) (hD:Hid (D<10 ^ 72)):
 Calls Tryz.prog 60 #[.pointer (some ⟨b,0,none⟩),.int .i64 k,.bool up] w (CutPost b s (cutN D k.toNat up) w):=by
 obtain⟨n,rfl⟩:=Int.eq_ofNat_of_zero_le (by omega:0≤k)
 have hq:=cutN_lt (up:=up) (show n≤57 by omega) hD.out
 rw[Int.toNat_natCast]at*
 unfold cutN at hq⊢
 cases up
 ·exact cut_f b s m D n w hx (by omega) (by omega)
 ·exact cut_t b s m D n w hx (by omega) (by omega) (by show _<_;simp at hq;omega)
set_option maxRecDepth 100000 in
set_option maxHeartbeats 2000000 in
theorem round_ok (M E n:Int) (w:World) (h0: -9223372036854775808≤M) (h1:M≤9223372036854775807) (hr:rightB M E=true) (n0: -9≤n) (n1:n≤9):
 Calls Tryz.prog 33 #[.agg #[.int .i64 M,.int .i64 E],.int .i64 n] w
  (DecPost (near (decide (M<0)) (cutN (layD M E) (48-n).toNat (decide (0≤restD (layD M E) false (48-n).toNat))) false) w):=by
 go_enter Tryz.func33,Tryz.ntmps33
 go_wp2_with fail
 obtain⟨W,hW⟩:∃W,W=(w.alloc (.cells #[.int .i64 M,.int .i64 E] 34)).alloc (.cells #[.int .i64 0,.int .i64 0] 34):=⟨_,rfl⟩
 rw[←hW]
 have d0:World.dec W w.heap.size M E:=by rw[hW];exact(World.dec_new w M E _ rfl).alloc _
 have d2:World.dec W (w.heap.size+1) 0 0:=by rw[hW];exact World.dec_new _ 0 0 _ (by simp)
 have hB:Below w.heap.size w W:=by rw[hW];exact((Below.refl _ w).alloc (Nat.le_refl _) _).alloc (by simp) _
 clear hW
 refine(right_any M E _ h0 h1).mono ?_
 rintro e w1 ⟨rfl,hB1⟩
 have d0:=d0.below hB1 d0.lt
 have d2:=d2.below hB1 d2.lt
 have hB:=hB.trans (hB1.mono hB.size)
 clear hB1
 have a0:=d0.c0
 have a1:=d0.c1
 obtain⟨r1,r2,r3,r4,_⟩:=rightB_iff.1 hr
 have hD:=Lib.hid (layD_lt hr)
 go_wp2_with fail
 refine(lay_any M E _ r1 r2 r3 r4).mono ?_
 rintro e w2 ⟨rfl,hB1⟩
 have d2:=d2.below hB1 d2.lt
 have hB:=hB.trans (hB1.mono hB.size)
 clear hB1 a0 a1 d0
 go_wp2_with (first
  |refine wpList_alloc56 rfl rfl ?_
  |(refine wpList_store56 rfl rfl rfl rfl (World.num_new _ _ _ _) ?_;intro w3 hn3 hg3 hz3))
 have hs:=d2.lt
 have d3:World.dec w3 (w.heap.size+1) 0 0:=World.dec.below (d2.alloc _) (Below.grown (Below.refl w2.heap.size _) hg3 (by simp) (fun k hk=>by cases hk;exact Nat.le_refl _)) (by omega)
 have hB3:Below w.heap.size w w3:=(hB.alloc hB.size _).grown hg3 (by have:=hB.size;simp;omega) (fun k hk=>by cases hk;exact hB.size)
 have hbs:=hB.size
 clear hg3 hz3 d2
 refine(rest_i _ _ _ _ _ _ hn3 (by omega) (by omega)).mono ?_
 rintro e w4 ⟨rfl,rfl⟩
 obtain⟨r,hr'⟩:∃r:Int,r=restD (layD M E) false (48-n).toNat:=⟨_,rfl⟩
 rw[←hr']
 have Hr:=Lib.hid hr'
 clear hr'
 go_wp2_with fail
 refine(cut_b _ _ _ _ _ _ _ hn3 (by omega) (by omega) hD).mono ?_
 rintro e w5 ⟨rfl,hn5,hg5⟩
 have d5:World.dec w5 (w.heap.size+1) 0 0:=World.dec.grown d3 hg5 (by simp;omega)
 have hB5:Below w.heap.size w w5:=hB3.grown hg5 hB3.size (fun k hk=>by cases hk;exact hbs)
 clear hg5 hn3 hB3 hB d3
 have hN:Hid (cutN (layD M E) (48-n).toNat (decide (0≤r))+10 ^ 57<10 ^ 96):=cutN_lt (by omega) hD.out
 go_wp2_with (refine wpList_load56 rfl rfl rfl hn5 ?_)
 refine(nearest_any _ _ false _ hN).mono ?_
 rintro e w6 ⟨rfl,hB1⟩
 have d6:=d5.below hB1 d5.lt
 have hB6:=hB5.trans (hB1.mono hB5.size)
 have g0:=d6.c0
 have g1:=d6.c1
 have gf0:=d6.frozen 0
 have gf1:=d6.frozen 1
 go_wp2_with fail
 refine bodyPost_ret (results_dec_tmp rfl _ _ _ _ _ rfl (World.dec.set1 (World.dec.set0 d6 _) _)) rfl ?_
 rw[←Hr.out]
 exact⟨rfl,(hB6.setCell (by simp) _).setCell (by simp) _⟩
set_option maxRecDepth 100000 in
set_option maxHeartbeats 2000000 in
theorem round_arg (M E n:Int) (w:World) (h0: -9223372036854775808≤M) (h1:M≤9223372036854775807) (hr:rightB M E=true) (hn:n< -9∨9<n):
 Calls Tryz.prog 33 #[.agg #[.int .i64 M,.int .i64 E],.int .i64 n] w (DecPost ((0,0),2) w):=by
 go_enter Tryz.func33,Tryz.ntmps33
 go_wp2_with fail
 obtain⟨W,hW⟩:∃W,W=(w.alloc (.cells #[.int .i64 M,.int .i64 E] 34)).alloc (.cells #[.int .i64 0,.int .i64 0] 34):=⟨_,rfl⟩
 rw[←hW]
 have d0:World.dec W w.heap.size M E:=by rw[hW];exact(World.dec_new w M E _ rfl).alloc _
 have d2:World.dec W (w.heap.size+1) 0 0:=by rw[hW];exact World.dec_new _ 0 0 _ (by simp)
 have hB:Below w.heap.size w W:=by rw[hW];exact((Below.refl _ w).alloc (Nat.le_refl _) _).alloc (by simp) _
 clear hW
 refine(right_any M E _ h0 h1).mono ?_
 rintro e w1 ⟨rfl,hB1⟩
 have d2:=d2.below hB1 d2.lt
 have hB:=hB.trans (hB1.mono hB.size)
 clear hB1
 have g0:=d2.c0
 have g1:=d2.c1
 have gf0:=d2.frozen 0
 have gf1:=d2.frozen 1
 rcases hn with hn|hn
 all_goals
  go_wp2_with fail
  refine bodyPost_ret (results_dec_tmp rfl _ _ _ 0 0 rfl (World.dec.set1 (World.dec.set0 d2 0) 0)) rfl ?_
  exact⟨rfl,(hB.setCell (by simp) _).setCell (by simp) _⟩
set_option maxRecDepth 100000 in
set_option maxHeartbeats 2000000 in
theorem round_no (M E n:Int) (w:World) (h0: -9223372036854775808≤M) (h1:M≤9223372036854775807) (hr:rightB M E=false):
 Calls Tryz.prog 33 #[.agg #[.int .i64 M,.int .i64 E],.int .i64 n] w (DecPost ((0,0),10) w):=by
 go_enter Tryz.func33,Tryz.ntmps33
 go_wp2_with fail
 obtain⟨W,hW⟩:∃W,W=(w.alloc (.cells #[.int .i64 M,.int .i64 E] 34)).alloc (.cells #[.int .i64 0,.int .i64 0] 34):=⟨_,rfl⟩
 rw[←hW]
 have d0:World.dec W w.heap.size M E:=by rw[hW];exact(World.dec_new w M E _ rfl).alloc _
 have d2:World.dec W (w.heap.size+1) 0 0:=by rw[hW];exact World.dec_new _ 0 0 _ (by simp)
 have hB:Below w.heap.size w W:=by rw[hW];exact((Below.refl _ w).alloc (Nat.le_refl _) _).alloc (by simp) _
 clear hW
 refine(right_any M E _ h0 h1).mono ?_
 rintro e w1 ⟨rfl,hB1⟩
 have d2:=d2.below hB1 d2.lt
 have hB:=hB.trans (hB1.mono hB.size)
 clear hB1
 have g0:=d2.c0
 have g1:=d2.c1
 have gf0:=d2.frozen 0
 have gf1:=d2.frozen 1
 go_wp2_with fail
 refine bodyPost_ret (results_dec_tmp rfl _ _ _ 0 0 rfl (World.dec.set1 (World.dec.set0 d2 0) 0)) rfl ?_
 exact⟨rfl,(hB.setCell (by simp) _).setCell (by simp) _⟩
/-- A decimal rounded. -/
def roundR (M E n:Int):(Int×Int)×Int:=near (decide (M<0)) (cutN (layD M E) (48-n).toNat (decide (0≤restD (layD M E) false (48-n).toNat))) false
def roundD (M E n:Int):(Int×Int)×Int:=if rightB M E=true then(if -9≤n∧n≤9 then roundR M E n else((0,0),2))else((0,0),10)
theorem round_any (M E n:Int) (w:World) (h0: -9223372036854775808≤M) (h1:M≤9223372036854775807):
 Calls Tryz.prog 33 #[.agg #[.int .i64 M,.int .i64 E],.int .i64 n] w (DecPost (roundD M E n) w):=by
 unfold roundD
 by_cases hr:rightB M E=true
 ·rw[if_pos hr]
  by_cases hn: -9≤n∧n≤9
  ·rw[if_pos hn];exact round_ok M E n w h0 h1 hr hn.1 hn.2
  ·rw[if_neg hn];exact round_arg M E n w h0 h1 hr (by omega)
 ·rw[if_neg hr];exact round_no M E n w h0 h1 (by simpa using hr)
end Go.Proofs.YtmhfioimgllgeaaGreatDoor
namespace Go.Proofs.YtmhfioimgllgeaaGreatDoor
open Go.RowKit
/-- One more than the whole part, where a decimal below 0 has more behind the point. -/
def floorUp (M E:Int):Bool:=decide (M<0)&&decide (-2<restD (layD M E) false 48)
def floorQ (M E:Int):Nat:=layD M E / 10 ^ 48+(if floorUp M E=true then 1 else 0)
def floorR (M E:Int):Int×Int:=if floorQ M E<10 ^ 15 then(if M<0 then -((floorQ M E:Nat):Int)else((floorQ M E:Nat):Int),0)else(0,10)
def floorD (M E:Int):Int×Int:=if rightB M E=true then floorR M E else(0,10)
/-- What Floor leaves. -/
def FloorPost (r:Int×Int) (w:World) (e:Ending) (w':World):Prop:=e= .returned (.tuple #[.int .i64 r.1,.int .i64 r.2])∧Below w.heap.size w w'
theorem q_zero {q:Nat} {i:Nat} (h:q*10 ^ 48<10 ^ i) (hi:i≤48):q=0:=by
 have h1:(10:Nat) ^ i≤10 ^ 48:=Nat.pow_le_pow_right (by decide) hi
 have h2:(0:Nat)<10 ^ 48:=pow10_pos 48
 rcases Nat.eq_zero_or_pos q with h0|h0
 ·exact h0
 ·have:=Nat.le_mul_of_pos_left (10 ^ 48) h0
  omega
theorem q_div (q i:Nat) (h:q*10 ^ 48<10 ^ i∧i≤48∨i=48):q*10 ^ 48 / 10 ^ i=q:=by
 rcases h with ⟨h,hi⟩|rfl
 ·rw[q_zero h hi,Nat.zero_mul,Nat.zero_div]
 ·exact Nat.mul_div_cancel q (pow10_pos 48)
theorem q15 {q:Nat} (h:q<10 ^ 15):(q:Int)<1000000000000000:=by
 have h1:(10:Nat) ^ 15=1000000000000000:=by decide
 omega
theorem q_le (q i:Nat) (h:48≤i):q*10 ^ 48 / 10 ^ i≤q:=by
 calc q*10 ^ 48 / 10 ^ i≤q*10 ^ 48 / 10 ^ 48:=Nat.div_le_div_left (Nat.pow_le_pow_right (by decide) h) (pow10_pos 48)
  _=q:=Nat.mul_div_cancel q (pow10_pos 48)
set_option maxRecDepth 100000 in
set_option maxHeartbeats 2000000 in
theorem floor_neg (M E:Int) (w:World) (h0: -9223372036854775808≤M) (h1:M≤9223372036854775807) (hr:rightB M E=true) (hM:M<0):
 Calls Tryz.prog 26 #[.agg #[.int .i64 M,.int .i64 E]] w (FloorPost (floorR M E) w):=by
 obtain⟨R,hR⟩:∃R,R=floorR M E:=⟨_,rfl⟩
 rw[←hR]
 have HR:=Lib.hid hR
 clear hR
 go_enter Tryz.func26,Tryz.ntmps26
 go_wp2_with fail
 obtain⟨W,hW⟩:∃W,W=w.alloc (.cells #[.int .i64 M,.int .i64 E] 34):=⟨_,rfl⟩
 rw[←hW]
 have d0:World.dec W w.heap.size M E:=by rw[hW];exact World.dec_new w M E _ rfl
 have hB:Below w.heap.size w W:=by rw[hW];exact(Below.refl _ w).alloc (Nat.le_refl _) _
 clear hW
 refine(right_any M E _ h0 h1).mono ?_
 rintro e w1 ⟨rfl,hB1⟩
 have d0:=d0.below hB1 d0.lt
 have hB:=hB.trans (hB1.mono hB.size)
 clear hB1
 have a0:=d0.c0
 have a1:=d0.c1
 obtain⟨r1,r2,r3,r4,_⟩:=rightB_iff.1 hr
 have hD:=Lib.hid (layD_lt hr)
 go_wp2_with fail
 refine(lay_any M E _ r1 r2 r3 r4).mono ?_
 rintro e w2 ⟨rfl,hB1⟩
 have d0:=d0.below hB1 d0.lt
 have hB:=hB.trans (hB1.mono hB.size)
 clear hB1 a0 a1
 have hs:=d0.lt
 have hbs:=hB.size
 go_wp2_with (first
  |refine wpList_alloc56 rfl rfl ?_
  |(refine wpList_store56 rfl rfl rfl rfl (World.num_new _ _ _ _) ?_;intro w3 hn3 hg3 hz3
    have d3:World.dec w3 w.heap.size M E:=World.dec.below (d0.alloc _) (Below.grown (Below.refl w2.heap.size _) hg3 (by simp) (fun k hk=>by cases hk;exact Nat.le_refl _)) (by omega)
    have hB3:Below w.heap.size w w3:=(hB.alloc hB.size _).grown hg3 (by simp;omega) (fun k hk=>by cases hk;exact hbs)
    clear hg3 hz3
    have a0:=d3.c0))
 refine(rest_i _ _ _ _ _ _ hn3 (by omega) (by omega)).mono ?_
 rintro e w4 ⟨rfl,rfl⟩
 have HU:Hid (floorUp M E=decide (-2<restD (layD M E) false 48)):=by show _=_;unfold floorUp;rw[decide_eq_true hM];rfl
 go_wp2_with fail
 refine(cut_b _ _ _ _ _ _ _ hn3 (by omega) (by omega) hD).mono ?_
 rintro e w5 ⟨rfl,hn5,hg5⟩
 have d5:World.dec w5 w.heap.size M E:=World.dec.grown d3 hg5 (by simp;omega)
 have hB5:Below w.heap.size w w5:=hB3.grown hg5 hB3.size (fun k hk=>by cases hk;exact hbs)
 clear hg5 hn3 hB3 d3 a0 d0 hB
 have a0:=d5.c0
 have hcut:(cutN (layD M E) (48:Int).toNat (decide (-2<restD (layD M E) false 48)))=floorQ M E*10 ^ 48:=by rw[floorQ,HU.out];rfl
 rw[hcut]at hn5
 have hq96:floorQ M E*10 ^ 48<10 ^ 96:=by rw[←hcut];have:= @cutN_lt (layD M E) (48:Int).toNat (decide (-2<restD (layD M E) false 48)) (by decide) hD.out;omega
 clear hcut
 obtain⟨t,t0,t1,t2,t3⟩:=top_exists 96 (floorQ M E*10 ^ 48) hq96
 have hq:=top_lt t2 t3
 have T2:=Lib.hid t2
 have T3:=Lib.hid t3
 have HQ:=Lib.hid hq
 clear hq t2 t3 hq96
 go_wp2_with fail
 refine(top_any _ _ _ false t _ hn5 t0 (by omega) (fun k _ hk=>top_hi T2.out k hk) (top_at T2.out T3.out)).mono ?_
 rintro e w6 ⟨rfl,rfl⟩
 by_cases h15:floorQ M E<10 ^ 15
 ·have hlt15:t<63:=by have:=HQ.out.2 h15;omega
  have HRe:=HR.out
  rw[floorR,if_pos h15,if_pos hM]at HRe
  clear HR
  have hq15:Hid (∀_:Unit,((floorQ M E:Nat):Int)<1000000000000000):=fun _=>q15 h15
  clear h15
  obtain⟨q,hq⟩:∃q,q=floorQ M E:=⟨_,rfl⟩
  rw[←hq]at hn5 T2 T3 hq15 HRe
  have HR:=Lib.hid HRe
  clear HQ hq HRe HU T3
  obtain⟨D,hD'⟩:∃D,D=q*10 ^ 48:=⟨_,rfl⟩
  rw[←hD']at hn5 T2
  have HDq:Hid (∀i,(D<10 ^ i∧i≤48∨i=48)→D / 10 ^ i=q):=by rw[hD'];exact fun i h=>q_div q i h
  have HDl:Hid (∀i,48≤i→D / 10 ^ i≤q):=by rw[hD'];exact fun i h=>q_le q i h
  clear hD'
  go_wp2_with fail
  go_loop [6,7] (fun n k=>∃(i:Nat) (v:Int),n= .int .i64 v∧k= .int .i64 ((i:Int)-1)∧i≤63∧0≤v∧v≤999999999999999∧Hid (v=((D / 10 ^ i:Nat):Int))∧Hid (D<10 ^ i∧i≤48∨48≤i)) (fun _ k=>(intOf k+1).toNat)
  case atStart=>
   refine⟨(t+1).toNat,0,rfl,by congr 1;omega,by omega,by omega,by omega,?_,?_⟩
   ·show _=_;rw[Nat.div_eq_of_lt T2.out];rfl
   ·show _∨_
    have:=T2.out
    by_cases hh:(t+1).toNat≤48
    ·exact Or.inl ⟨this,hh⟩
    ·exact Or.inr (by omega)
  case round=>
   obtain⟨i,v,rfl,rfl,i1,v0,v1,HV,HI⟩:=hrel
   by_cases hi:48<i
   ·obtain⟨k,rfl⟩:∃k,i=k+1:=⟨i-1,by omega⟩
    obtain⟨hc,hf⟩:=World.num.at hn5 k (by omega)
    have e0:=dg_nonneg D k
    have e1:=dg_le D k
    have hs:=div_take D k
    rw[←HV.out]at hs
    have hle:10*v+dg D k≤999999999999999:=by
     rw[hs]
     have h1:=HDl.out k (by omega)
     have h2:=hq15.out ()
     omega
    have HS:=Lib.hid hs
    clear hs HV
    obtain⟨d,hd⟩:∃d,d=dg D k:=⟨_,rfl⟩
    rw[←hd]at hc e0 e1 HS hle
    clear hd
    rw[show ((k+1:Nat):Int)-1=(k:Int) by omega]
    go_wp2_with fail
    go_round
    case rel=>exact⟨k,10*v+d,rfl,rfl,by omega,by omega,hle,HS,Or.inr (by omega)⟩
    case measure=>first|(simp[intOf];done)|(simp[intOf];omega)
   ·have hvq:v=(q:Int):=by
     rw[HV.out,HDq.out i (by rcases HI.out with h|h;exact Or.inl h;exact Or.inr (by omega))]
    have HVQ:=Lib.hid hvq
    clear HV HI T2 hvq
    go_wp2_with fail
    refine bodyPost_ret (results_tmp2 rfl _ _ _) rfl ?_
    refine⟨?_,hB5⟩
    rw[HR.out,←HVQ.out];rfl
 ·have hlt15:¬t<63:=by have:=mt HQ.out.1 h15;omega
  have HRe:=HR.out
  rw[floorR,if_neg h15]at HRe
  have HR:=Lib.hid HRe
  clear h15 HQ HRe
  go_wp2_with fail
  refine bodyPost_ret (results_tmp2 rfl _ _ _) rfl ?_
  refine⟨?_,hB5⟩
  rw[HR.out];rfl
set_option maxRecDepth 100000 in
set_option maxHeartbeats 2000000 in
theorem floor_pos (M E:Int) (w:World) (h0: -9223372036854775808≤M) (h1:M≤9223372036854775807) (hr:rightB M E=true) (hM:¬M<0):
 Calls Tryz.prog 26 #[.agg #[.int .i64 M,.int .i64 E]] w (FloorPost (floorR M E) w):=by
 obtain⟨R,hR⟩:∃R,R=floorR M E:=⟨_,rfl⟩
 rw[←hR]
 have HR:=Lib.hid hR
 clear hR
 go_enter Tryz.func26,Tryz.ntmps26
 go_wp2_with fail
 obtain⟨W,hW⟩:∃W,W=w.alloc (.cells #[.int .i64 M,.int .i64 E] 34):=⟨_,rfl⟩
 rw[←hW]
 have d0:World.dec W w.heap.size M E:=by rw[hW];exact World.dec_new w M E _ rfl
 have hB:Below w.heap.size w W:=by rw[hW];exact(Below.refl _ w).alloc (Nat.le_refl _) _
 clear hW
 refine(right_any M E _ h0 h1).mono ?_
 rintro e w1 ⟨rfl,hB1⟩
 have d0:=d0.below hB1 d0.lt
 have hB:=hB.trans (hB1.mono hB.size)
 clear hB1
 have a0:=d0.c0
 have a1:=d0.c1
 obtain⟨r1,r2,r3,r4,_⟩:=rightB_iff.1 hr
 have hD:=Lib.hid (layD_lt hr)
 go_wp2_with fail
 refine(lay_any M E _ r1 r2 r3 r4).mono ?_
 rintro e w2 ⟨rfl,hB1⟩
 have d0:=d0.below hB1 d0.lt
 have hB:=hB.trans (hB1.mono hB.size)
 clear hB1 a0 a1
 have hs:=d0.lt
 have hbs:=hB.size
 go_wp2_with (first
  |refine wpList_alloc56 rfl rfl ?_
  |(refine wpList_store56 rfl rfl rfl rfl (World.num_new _ _ _ _) ?_;intro w3 hn3 hg3 hz3
    have d3:World.dec w3 w.heap.size M E:=World.dec.below (d0.alloc _) (Below.grown (Below.refl w2.heap.size _) hg3 (by simp) (fun k hk=>by cases hk;exact Nat.le_refl _)) (by omega)
    have hB3:Below w.heap.size w w3:=(hB.alloc hB.size _).grown hg3 (by simp;omega) (fun k hk=>by cases hk;exact hbs)
    clear hg3 hz3
    have a0:=d3.c0))
 have HU:Hid (floorUp M E=false):=by show _=_;unfold floorUp;rw[decide_eq_false (by omega:¬M<0)];rfl
 refine(cut_b _ _ _ _ _ _ _ hn3 (by omega) (by omega) hD).mono ?_
 rintro e w5 ⟨rfl,hn5,hg5⟩
 have d5:World.dec w5 w.heap.size M E:=World.dec.grown d3 hg5 (by simp;omega)
 have hB5:Below w.heap.size w w5:=hB3.grown hg5 hB3.size (fun k hk=>by cases hk;exact hbs)
 clear hg5 hn3 hB3 d3 a0 d0 hB
 have a0:=d5.c0
 have hcut:(cutN (layD M E) (48:Int).toNat false)=floorQ M E*10 ^ 48:=by rw[floorQ,HU.out];rfl
 rw[hcut]at hn5
 have hq96:floorQ M E*10 ^ 48<10 ^ 96:=by rw[←hcut];have:= @cutN_lt (layD M E) (48:Int).toNat false (by decide) hD.out;omega
 clear hcut
 obtain⟨t,t0,t1,t2,t3⟩:=top_exists 96 (floorQ M E*10 ^ 48) hq96
 have hq:=top_lt t2 t3
 have T2:=Lib.hid t2
 have T3:=Lib.hid t3
 have HQ:=Lib.hid hq
 clear hq t2 t3 hq96
 go_wp2_with fail
 refine(top_any _ _ _ false t _ hn5 t0 (by omega) (fun k _ hk=>top_hi T2.out k hk) (top_at T2.out T3.out)).mono ?_
 rintro e w6 ⟨rfl,rfl⟩
 by_cases h15:floorQ M E<10 ^ 15
 ·have hlt15:t<63:=by have:=HQ.out.2 h15;omega
  have HRe:=HR.out
  rw[floorR,if_pos h15,if_neg (by omega:¬M<0)]at HRe
  clear HR
  have hq15:Hid (∀_:Unit,((floorQ M E:Nat):Int)<1000000000000000):=fun _=>q15 h15
  clear h15
  obtain⟨q,hq⟩:∃q,q=floorQ M E:=⟨_,rfl⟩
  rw[←hq]at hn5 T2 T3 hq15 HRe
  have HR:=Lib.hid HRe
  clear HQ hq HRe HU T3
  obtain⟨D,hD'⟩:∃D,D=q*10 ^ 48:=⟨_,rfl⟩
  rw[←hD']at hn5 T2
  have HDq:Hid (∀i,(D<10 ^ i∧i≤48∨i=48)→D / 10 ^ i=q):=by rw[hD'];exact fun i h=>q_div q i h
  have HDl:Hid (∀i,48≤i→D / 10 ^ i≤q):=by rw[hD'];exact fun i h=>q_le q i h
  clear hD'
  go_wp2_with fail
  go_loop [6,7] (fun n k=>∃(i:Nat) (v:Int),n= .int .i64 v∧k= .int .i64 ((i:Int)-1)∧i≤63∧0≤v∧v≤999999999999999∧Hid (v=((D / 10 ^ i:Nat):Int))∧Hid (D<10 ^ i∧i≤48∨48≤i)) (fun _ k=>(intOf k+1).toNat)
  case atStart=>
   refine⟨(t+1).toNat,0,rfl,by congr 1;omega,by omega,by omega,by omega,?_,?_⟩
   ·show _=_;rw[Nat.div_eq_of_lt T2.out];rfl
   ·show _∨_
    have:=T2.out
    by_cases hh:(t+1).toNat≤48
    ·exact Or.inl ⟨this,hh⟩
    ·exact Or.inr (by omega)
  case round=>
   obtain⟨i,v,rfl,rfl,i1,v0,v1,HV,HI⟩:=hrel
   by_cases hi:48<i
   ·obtain⟨k,rfl⟩:∃k,i=k+1:=⟨i-1,by omega⟩
    obtain⟨hc,hf⟩:=World.num.at hn5 k (by omega)
    have e0:=dg_nonneg D k
    have e1:=dg_le D k
    have hs:=div_take D k
    rw[←HV.out]at hs
    have hle:10*v+dg D k≤999999999999999:=by
     rw[hs]
     have h1:=HDl.out k (by omega)
     have h2:=hq15.out ()
     omega
    have HS:=Lib.hid hs
    clear hs HV
    obtain⟨d,hd⟩:∃d,d=dg D k:=⟨_,rfl⟩
    rw[←hd]at hc e0 e1 HS hle
    clear hd
    rw[show ((k+1:Nat):Int)-1=(k:Int) by omega]
    go_wp2_with fail
    go_round
    case rel=>exact⟨k,10*v+d,rfl,rfl,by omega,by omega,hle,HS,Or.inr (by omega)⟩
    case measure=>first|(simp[intOf];done)|(simp[intOf];omega)
   ·have hvq:v=(q:Int):=by
     rw[HV.out,HDq.out i (by rcases HI.out with h|h;exact Or.inl h;exact Or.inr (by omega))]
    have HVQ:=Lib.hid hvq
    clear HV HI T2 hvq
    go_wp2_with fail
    refine bodyPost_ret (results_tmp2 rfl _ _ _) rfl ?_
    refine⟨?_,hB5⟩
    rw[HR.out,←HVQ.out];rfl
 ·have hlt15:¬t<63:=by have:=mt HQ.out.1 h15;omega
  have HRe:=HR.out
  rw[floorR,if_neg h15]at HRe
  have HR:=Lib.hid HRe
  clear h15 HQ HRe
  go_wp2_with fail
  refine bodyPost_ret (results_tmp2 rfl _ _ _) rfl ?_
  refine⟨?_,hB5⟩
  rw[HR.out];rfl
set_option maxRecDepth 100000 in
set_option maxHeartbeats 2000000 in
theorem floor_no (M E:Int) (w:World) (h0: -9223372036854775808≤M) (h1:M≤9223372036854775807) (hr:rightB M E=false):
 Calls Tryz.prog 26 #[.agg #[.int .i64 M,.int .i64 E]] w (FloorPost (0,10) w):=by
 go_enter Tryz.func26,Tryz.ntmps26
 go_wp2_with fail
 obtain⟨W,hW⟩:∃W,W=w.alloc (.cells #[.int .i64 M,.int .i64 E] 34):=⟨_,rfl⟩
 rw[←hW]
 have d0:World.dec W w.heap.size M E:=by rw[hW];exact World.dec_new w M E _ rfl
 have hB:Below w.heap.size w W:=by rw[hW];exact(Below.refl _ w).alloc (Nat.le_refl _) _
 clear hW
 refine(right_any M E _ h0 h1).mono ?_
 rintro e w1 ⟨rfl,hB1⟩
 have hB:=hB.trans (hB1.mono hB.size)
 clear hB1
 go_wp2_with fail
 refine bodyPost_ret (results_tmp2 rfl _ _ _) rfl ?_
 exact⟨rfl,hB⟩
theorem floor_any (M E:Int) (w:World) (h0: -9223372036854775808≤M) (h1:M≤9223372036854775807):
 Calls Tryz.prog 26 #[.agg #[.int .i64 M,.int .i64 E]] w (FloorPost (floorD M E) w):=by
 unfold floorD
 by_cases hr:rightB M E=true
 ·rw[if_pos hr]
  by_cases hM:M<0
  ·exact floor_neg M E w h0 h1 hr hM
  ·exact floor_pos M E w h0 h1 hr (by omega)
 ·rw[if_neg hr];exact floor_no M E w h0 h1 (by simpa using hr)
end Go.Proofs.YtmhfioimgllgeaaGreatDoor
namespace Go.Proofs.YtmhfioimgllgeaaGreatDoor
open Go.RowKit Go.Shelf
theorem plain4 :Tryz.prog.plainKey 4=true:=by kernel_rfl
theorem part54 (s:Bool) (f:Nat→Int) (m:Bool) (w:World):(part 103 (numF s f m) 1).run Tryz.prog w= .ok (.agg (digs f)) w:=by
 have h1:(isAgg 103).run Tryz.prog w= .ok true w:=by kernel_rfl
 have h2:(sizeOf 103).run Tryz.prog w= .ok 96 w:=by kernel_rfl
 simp only[part,Sem.run_bind,h1,h2,Result.andThen_ok,if_true,Sem.run_pure]
 have:(numF s f m).extract 1 (1+96)=digs f:=by
  unfold numF digs
  simp[List.extract_toArray,List.extract_eq_take_drop]
 rw[this]
theorem eqFields_one {P : Program} {w : World} (d : Nat) (xs ys : Array Value) (f : Field) (fs : List Field) {x y : Value} {r q : Bool} (hn : f.name ≠ "_") (hx : (part f.type xs f.offset).run P w = .ok x w) (hy : (part f.type ys f.offset).run P w = .ok y w)
 (he:(Op.equalIn d f.type x y).run P w= .ok r w) (hq:(Op.eqFields d xs ys fs).run P w= .ok q w):(Op.eqFields d xs ys (f :: fs)).run P w= .ok (r&&q) w:=by
 simp only[Op.eqFields,hn,ne_eq,not_false_eq_true,if_true,Sem.run_bind,hx,hy,he,Result.andThen_ok]
 cases r
 ·simp
 ·simpa using hq
theorem eqFields_nil {P:Program} {w:World} (d:Nat) (xs ys:Array Value):(Op.eqFields d xs ys []).run P w= .ok true w:=by simp[Op.eqFields]
theorem stood56 :Tryz.prog.stoodInHeld 105=false:=by kernel_rfl
theorem fields56 : Tryz.prog.fieldsOf 105 = #[{ name := "below", type := 4, offset := 0, embedded := false, tag := "", pkgPath := "tabula/dec", byteOffset := 0 }, { name := "d", type := 103, offset := 1, embedded := false, tag := "", pkgPath := "tabula/dec", byteOffset := 1 }, { name := "more", type := 4, offset := 97, embedded := false, tag := "", pkgPath := "tabula/dec", byteOffset := 97 }] := by simp [Program.fieldsOf, Tryz.underlying105]
theorem equal56 (d:Nat) (w:World) (s s':Bool) (f f':Nat→Int) (m m':Bool):(Op.equalIn (d+3) 105 (.agg (numF s f m)) (.agg (numF s' f' m'))).run Tryz.prog w= .ok (sameF s s' f f' m m') w:=by
 have a1:=run_part_plain (P:=Tryz.prog) w plain4 (numF_sign s f m)
 have a2:=run_part_plain (P:=Tryz.prog) w plain4 (numF_sign s' f' m')
 have b1:=run_part_plain (P:=Tryz.prog) w plain4 (numF_more s f m)
 have b2:=run_part_plain (P:=Tryz.prog) w plain4 (numF_more s' f' m')
 have c1:=part54 s f m w
 have c2:=part54 s' f' m' w
 have e1:(Op.equalIn (d+2) 4 (.bool s) (.bool s')).run Tryz.prog w=_:=run_equalIn_bool (P:=Tryz.prog) w (d+1) 4 s s' Tryz.underlying4
 have e2:(Op.equalIn (d+2) 103 (.agg (digs f)) (.agg (digs f'))).run Tryz.prog w=_:=equal54 d w f f'
 have e3:(Op.equalIn (d+2) 4 (.bool m) (.bool m')).run Tryz.prog w=_:=run_equalIn_bool (P:=Tryz.prog) w (d+1) 4 m m' Tryz.underlying4
 have g0:=eqFields_nil (P:=Tryz.prog) (w:=w) (d+2) (numF s f m) (numF s' f' m')
 have g1 := eqFields_one (P := Tryz.prog) (d + 2) (numF s f m) (numF s' f' m') { name := "more", type := 4, offset := 97, embedded := false, tag := "", pkgPath := "tabula/dec", byteOffset := 97 } [] (by simp) b1 b2 e3 g0
 have g2 := eqFields_one (P := Tryz.prog) (d + 2) (numF s f m) (numF s' f' m') { name := "d", type := 103, offset := 1, embedded := false, tag := "", pkgPath := "tabula/dec", byteOffset := 1 } _ (by simp) c1 c2 e2 g1
 have g3 := eqFields_one (P := Tryz.prog) (d + 2) (numF s f m) (numF s' f' m') { name := "below", type := 4, offset := 0, embedded := false, tag := "", pkgPath := "tabula/dec", byteOffset := 0 } _ (by simp) a1 a2 e1 g2
 clear a1 a2 b1 b2 c1 c2 e1 e2 e3 g0 g1 g2
 have:=run_equalIn_struct (P:=Tryz.prog) w (d+2) 105 (numF s f m) (numF s' f' m') (by rw[fields56];exact Tryz.underlying105) stood56
 rw[fields56]at this
 refine this.trans ?_
 rw[Bool.and_true]at g3
 exact g3
theorem eq56 (w:World) (s s':Bool) (f f':Nat→Int) (m m':Bool):(Op.equal 105 (.agg (numF s f m)) (.agg (numF s' f' m'))).run Tryz.prog w= .ok (sameF s s' f f' m m') w:=by
 have h:=equal56 9997 w s s' f f' m m'
 simp only[Nat.reduceAdd]at h
 unfold Op.equal Op.maxDepth
 exact h
end Go.Proofs.YtmhfioimgllgeaaGreatDoor
namespace Go.Proofs.YtmhfioimgllgeaaGreatDoor
open Go.RowKit Go.Shelf
section
variable {P : Program} {ops : Array Oper} {S : World → Prop} {o : Oper} {a : Act}
theorem yieldsIf_load56 {x:Operand} {g:Nat} {s:Bool} {f:Nat→Int} {m:Bool} (hw:Region.wanted o (yielded ops a.tmps)=true) (ho:o.op= .load 105 x) (hx:a.eval x= .pointer (some ⟨g,0,none⟩))
 (hS:∀w,S w→World.num w g s f m):YieldsIf Tryz.prog ops S o (.agg (numF s f m)) a:= .inl ⟨hw,fun w h=>by
 unfold execOp
 simp only[ho,hx,Instr.loadAt,Instr.sureAddr,Sem.run_bind,Sem.run_pure,Result.andThen_ok,run_loadVar_row w g 105 105 _ (0,0) _ (hS w h) Tryz.underlying105 rfl (info56' s f m)]⟩
theorem eqGuard56 (op:BinOp) (x y:Operand) (u v:Array Value) (w:World):(eqGuard op 105 x y (.agg u) (.agg v)).run Tryz.prog w= .ok () w:=by
 have h:Tryz.prog.eqGuardType Tryz.prog.depth 105=false:=by kernel_rfl
 unfold eqGuard
 by_cases c:(!(op matches .eql| .neq))=true
 ·simp
 ·simp[h]
theorem yieldsIf_neq56 {x y:Operand} {t:TypeId} {s s':Bool} {f f':Nat→Int} {m m':Bool} (hw:Region.wanted o (yielded ops a.tmps)=true) (ho:o.op= .binOp .neq 105 x y t)
 (hx:a.eval x= .agg (numF s f m)) (hy:a.eval y= .agg (numF s' f' m')):YieldsIf Tryz.prog ops S o (.bool (!sameF s s' f f' m m')) a:= .inl ⟨hw,fun w _=>by
 have h:=eq56 w s s' f f' m m'
 have hg:=eqGuard56 .neq x y (numF s f m) (numF s' f' m') w
 unfold execOp
 simp only[ho,hx,hy,binOp,Sem.run_bind,hg,h,Sem.run_pure,Result.andThen_ok]⟩
end
theorem of_int (n:Int) (w:World) (h0: -9223372036854775808≤n) (h1:n≤9223372036854775807):
 Calls Tryz.prog 77 #[.bool (decide (n<0)),.int .u64 0,.int .u64 (n.natAbs:Int),.int .i64 0] w (OfPost (decide (n<0)) (ofN n) w):=by
 have hV:n.natAbs<10 ^ 19:=by rw[show (10:Nat) ^ 19=10000000000000000000 from by decide];omega
 have hb:Hid (n.natAbs*10 ^ 48<10 ^ 96):=lay_lt (a:=19) (b:=48) hV (by decide) (by decide)
 exact of_any _ 0 _ 0 n.natAbs 48 w (by omega) (Int.natCast_nonneg _) (by omega) (by omega) (by show _=_;omega) (by omega) hb (by decide)
theorem near_int (n:Int) (w:World) (h0: -9223372036854775808≤n) (h1:n≤9223372036854775807):
 Calls Tryz.prog 78 #[.agg (numF (decide (n<0)) (dg (ofN n)) false)] w (DecPost (near (decide (n<0)) (ofN n) false) w):=nearest_any _ _ _ w (ofN_lt h0 h1)
set_option maxRecDepth 100000 in
set_option maxHeartbeats 4000000 in
theorem of_n (n:Int) (w:World) (h0: -9223372036854775808≤n) (h1:n≤9223372036854775807):
 Calls Tryz.prog 237 #[.int .i64 n] w (DecPost (ofD n) w):=by
 go_enter Tryz.func237,Tryz.ntmps237
 go_wp2_with (first
  |(go_at_call 76;refine(abs_any _ _ h0 h1).mono ?_;rintro e w1 ⟨rfl,rfl⟩)
  |(go_at_call 77;go_must (refine(of_int n _ h0 h1).mono ?_;rintro e w1 ⟨rfl,hB1⟩))
  |refine wpList_alloc56 rfl rfl ?_
  |(refine wpList_store56 rfl rfl rfl rfl (World.num_new _ _ _ _) ?_;intro w3 hn3 hg3 hz3)
  |(refine wpList_load56 rfl rfl rfl hn3 ?_))
 have d2:World.dec w1 w.heap.size 0 0:=World.dec.below (World.dec_new w 0 0 _ rfl) hB1 (by simp)
 have hB:Below w.heap.size w w1:=((Below.refl _ w).alloc (Nat.le_refl _) _).trans (hB1.mono (by simp))
 have hlt:=d2.lt
 have d2:World.dec w3 w.heap.size 0 0:=World.dec.grown (d2.alloc _) hg3 (by simp;omega)
 have hB:Below w.heap.size w w3:=(hB.alloc hB.size _).grown hg3 (by have:=hB.size;simp;omega) (fun k hk=>by cases hk;exact hB.size)
 clear hg3 hz3 hB1
 refine(near_int n _ h0 h1).mono ?_
 rintro e w4 ⟨rfl,hB1⟩
 have d2:=d2.below hB1 d2.lt
 have hn4:=hn3.below hB1 hn3.lt
 have hB:=hB.trans (hB1.mono hB.size)
 have hl2:=d2.lt
 have hl3:=hn4.lt
 clear hB1 hn3
 rcases near_two (decide (n<0)) (ofN n)with h|h
 ·obtain⟨⟨X,Y⟩,hp⟩:∃p,near (decide (n<0)) (ofN n) false=(p,0):=⟨_,Prod.ext rfl h⟩
  rw[hp]
  have hR:=near_right hp
  have HP:=Lib.hid hp
  clear hp h
  obtain⟨x0,x1,y0,y1,_⟩:=hR
  simp only at x0 x1 y0 y1
  go_wp2_with fail
  obtain⟨W,hW⟩:∃W,W=w4.alloc (.cells #[.int .i64 X,.int .i64 Y] 34):=⟨_,rfl⟩
  rw[←hW]
  obtain⟨g,hg⟩:∃g,g=w4.heap.size:=⟨_,rfl⟩
  rw[←hg]
  have d5:World.dec W g X Y:=by rw[hW];exact World.dec_new w4 X Y _ hg
  have d2:World.dec W w.heap.size 0 0:=by rw[hW];exact d2.alloc _
  have hn4:World.num W w1.heap.size (decide (n<0)) (dg (ofN n)) false:=by rw[hW];exact hn4.alloc _
  have hB:Below w.heap.size w W:=by rw[hW];exact hB.alloc hB.size _
  have hne:w.heap.size<g:=by omega
  clear hW hg
  have a0:=d5.c0
  have a1:=d5.c1
  go_cut [24] (fun v wc=>v= .bool (!ofS n (X,Y))∧World.dec wc g X Y∧World.dec wc w.heap.size 0 0∧Below w.heap.size w wc)
  case first=>
   refine wp_region_held_drew (S:=fun w'=>w'.cell? ⟨g,0,none⟩=some (.int .i64 X)∧w'.cell? ⟨g,1,none⟩=some (.int .i64 Y)∧World.num w' w1.heap.size (decide (n<0)) (dg (ofN n)) false) (by kernel_rfl) ⟨a0,a1,hn4⟩ (fun hHeld=> ?_)
   refine tk 0 ⟨some 17,_,_,_,_,_⟩ ?_ hHeld ?_ ?_
   rotate_left
   ·(intro w hSw;(try dsimp only at hSw);go_simp)
    all_goals with_reducible rfl
   try simp only[Act.put,List.setIfInBounds_toArray,List.set_cons_zero,List.set_cons_succ]
   refine tk 1 ⟨some 18,_,_,_,_,_⟩ ?_ hHeld ?_ ?_
   rotate_left
   ·(intro w hSw;(try dsimp only at hSw);go_simp)
    all_goals with_reducible rfl
   try simp only[Act.put,List.setIfInBounds_toArray,List.set_cons_zero,List.set_cons_succ]
   refine tk 2 ⟨some 19,_,_,_,_,_⟩ ?_ hHeld ?_ ?_
   rotate_left
   ·(intro w hSw;(try dsimp only at hSw);go_simp)
    all_goals with_reducible rfl
   try simp only[Act.put,List.setIfInBounds_toArray,List.set_cons_zero,List.set_cons_succ]
   refine tk 3 ⟨some 20,_,_,_,_,_⟩ ?_ hHeld ?_ ?_
   rotate_left
   ·(intro w hSw;(try dsimp only at hSw);go_simp)
    all_goals with_reducible rfl
   try simp only[Act.put,List.setIfInBounds_toArray,List.set_cons_zero,List.set_cons_succ]
   refine wpAnyH_take (i:=5) (oi:=⟨some 22,_,_,_,_,_⟩) rfl (by kernel_rfl) (by kernel_rfl) (by kernel_rfl) (fun _ _ _ h=>h) (yieldsIf_load56 (by rfl) rfl rfl (fun w h=>h.2.2)) hHeld ?_
   try simp only[Act.put,List.setIfInBounds_toArray,List.set_cons_zero,List.set_cons_succ]
   refine wpAnyH_ready (rs:= [4]) (by kernel_rfl) (by simp) ?_
   refine AllReadyH.cons (o:=⟨some 21,_,_,_,_,_⟩) rfl (fun K hK=> ?_) AllReadyH.nil
   go_simp
   refine(lay_any X Y _ x0 x1 y0 y1).mono ?_
   rintro e w5 ⟨rfl,hB1⟩
   have d5:=(World.dec.drew d5).below hB1 d5.lt
   have d2:=(World.dec.drew d2).below hB1 d2.lt
   have hn4:=(World.num.drew hn4).below hB1 hn4.lt
   have hB:=hB.drew.trans (hB1.mono hB.size)
   clear hHeld
   refine hK.out _ _ ⟨d5.c0,d5.c1,hn4⟩ (fun hHeld=> ?_)
   clear hK K
   try simp only[Act.put,List.setIfInBounds_toArray,List.set_cons_zero,List.set_cons_succ]
   refine wpAnyH_take (i:=6) (oi:=⟨some 23,_,_,_,_,_⟩) rfl (by kernel_rfl) (by kernel_rfl) (by kernel_rfl) (fun _ _ _ h=>h) (yieldsIf_neq56 (by rfl) rfl rfl rfl) hHeld ?_
   try simp only[Act.put,List.setIfInBounds_toArray,List.set_cons_zero,List.set_cons_succ]
   refine tk 7 ⟨some 24,_,_,_,_,_⟩ ?_ hHeld ?_ ?_
   rotate_left
   ·(intro w hSw;(try dsimp only at hSw);go_simp)
    all_goals with_reducible rfl
   try simp only[Act.put,List.setIfInBounds_toArray,List.set_cons_zero,List.set_cons_succ]
   refine wpAnyH_done (by kernel_rfl) ?_ _
   try simp only[Act.put,List.setIfInBounds_toArray,List.set_cons_zero,List.set_cons_succ]
   go_wp2_with fail
   go_meet
   case rel=>exact⟨rfl,d5,d2,hB⟩
  case rest=>
  obtain⟨rfl,d5,d2,hB⟩:=hcut
  clear a0 a1
  have f0:=d2.frozen 0
  have f1:=d2.frozen 1
  have b0:=d2.c0
  have b1:=d2.c1
  have a0:=d5.c0
  have a1:=d5.c1
  cases hs:ofS n (X,Y)
  ·have HS:=Lib.hid hs
   clear hs
   go_wp2_with fail
   refine bodyPost_ret (results_dec_tmp rfl _ _ _ 0 0 rfl ((d2.set0 0).set1 0)) rfl ?_
   refine⟨?_,(hB.setCell (by simp) _).setCell (by simp) _⟩
   rw[ofD_no HP.out HS.out];rfl
  ·have HS:=Lib.hid hs
   clear hs
   go_wp2_with fail
   refine bodyPost_ret (results_dec_tmp rfl _ _ _ X Y rfl ((d2.set0 X).set1 Y)) rfl ?_
   refine⟨?_,(hB.setCell (by simp) _).setCell (by simp) _⟩
   rw[ofD_yes HP.out HS.out];rfl
 ·rw[h]
  have HP:=Lib.hid h
  clear h
  go_wp2_with fail
  obtain⟨W,hW⟩:∃W,W=w4.alloc (.cells #[.int .i64 0,.int .i64 0] 34):=⟨_,rfl⟩
  rw[←hW]
  obtain⟨g,hg⟩:∃g,g=w4.heap.size:=⟨_,rfl⟩
  rw[←hg]
  have d5:World.dec W g 0 0:=by rw[hW];exact World.dec_new w4 0 0 _ hg
  have d2:World.dec W w.heap.size 0 0:=by rw[hW];exact d2.alloc _
  have hn4:World.num W w1.heap.size (decide (n<0)) (dg (ofN n)) false:=by rw[hW];exact hn4.alloc _
  have hB:Below w.heap.size w W:=by rw[hW];exact hB.alloc hB.size _
  have hne:w.heap.size<g:=by omega
  clear hW hg
  have a0:=d5.c0
  have a1:=d5.c1
  go_cut [24] (fun v wc=>v= .bool true∧World.dec wc g 0 0∧World.dec wc w.heap.size 0 0∧Below w.heap.size w wc)
  case first=>
   refine wp_region_held_drew (S:=fun w'=>w'.cell? ⟨g,0,none⟩=some (.int .i64 0)∧w'.cell? ⟨g,1,none⟩=some (.int .i64 0)∧World.num w' w1.heap.size (decide (n<0)) (dg (ofN n)) false) (by kernel_rfl) ⟨a0,a1,hn4⟩ (fun hHeld=> ?_)
   refine tk 0 ⟨some 17,_,_,_,_,_⟩ ?_ hHeld ?_ ?_
   rotate_left
   ·(intro w hSw;(try dsimp only at hSw);go_simp)
    all_goals with_reducible rfl
   try simp only[Act.put,List.setIfInBounds_toArray,List.set_cons_zero,List.set_cons_succ]
   refine tk 1 ⟨some 18,_,_,_,_,_⟩ ?_ hHeld ?_ ?_
   rotate_left
   ·(intro w hSw;(try dsimp only at hSw);go_simp)
    all_goals with_reducible rfl
   try simp only[Act.put,List.setIfInBounds_toArray,List.set_cons_zero,List.set_cons_succ]
   refine tk 2 ⟨some 19,_,_,_,_,_⟩ ?_ hHeld ?_ ?_
   rotate_left
   ·(intro w hSw;(try dsimp only at hSw);go_simp)
    all_goals with_reducible rfl
   try simp only[Act.put,List.setIfInBounds_toArray,List.set_cons_zero,List.set_cons_succ]
   refine wpAnyH_take (i:=3) (oi:=⟨some 20,_,_,_,_,_⟩) rfl (by kernel_rfl) (by kernel_rfl) (by kernel_rfl) (fun _ _ _ h=>h) (Or.inr ⟨by rfl,rfl⟩) hHeld ?_
   try simp only[Act.put,List.setIfInBounds_toArray,List.set_cons_zero,List.set_cons_succ]
   refine wpAnyH_take (i:=4) (oi:=⟨some 21,_,_,_,_,_⟩) rfl (by kernel_rfl) (by kernel_rfl) (by kernel_rfl) (fun _ _ _ h=>h) (Or.inr ⟨by rfl,rfl⟩) hHeld ?_
   try simp only[Act.put,List.setIfInBounds_toArray,List.set_cons_zero,List.set_cons_succ]
   refine wpAnyH_take (i:=5) (oi:=⟨some 22,_,_,_,_,_⟩) rfl (by kernel_rfl) (by kernel_rfl) (by kernel_rfl) (fun _ _ _ h=>h) (Or.inr ⟨by rfl,rfl⟩) hHeld ?_
   try simp only[Act.put,List.setIfInBounds_toArray,List.set_cons_zero,List.set_cons_succ]
   refine wpAnyH_take (i:=6) (oi:=⟨some 23,_,_,_,_,_⟩) rfl (by kernel_rfl) (by kernel_rfl) (by kernel_rfl) (fun _ _ _ h=>h) (Or.inr ⟨by rfl,rfl⟩) hHeld ?_
   try simp only[Act.put,List.setIfInBounds_toArray,List.set_cons_zero,List.set_cons_succ]
   refine tk 7 ⟨some 24,_,_,_,_,_⟩ ?_ hHeld ?_ ?_
   rotate_left
   ·(intro w hSw;(try dsimp only at hSw);go_simp)
    all_goals with_reducible rfl
   try simp only[Act.put,List.setIfInBounds_toArray,List.set_cons_zero,List.set_cons_succ]
   refine wpAnyH_done (by kernel_rfl) ?_ _
   try simp only[Act.put,List.setIfInBounds_toArray,List.set_cons_zero,List.set_cons_succ]
   have d5:=World.dec.drew d5
   have d2:=World.dec.drew d2
   have hB:=hB.drew
   go_wp2_with fail
   go_meet
   case rel=>exact⟨rfl,d5,d2,hB⟩
  case rest=>
  obtain⟨rfl,d5,d2,hB⟩:=hcut
  have f0:=d2.frozen 0
  have f1:=d2.frozen 1
  have b0:=d2.c0
  have b1:=d2.c1
  go_wp2_with fail
  refine bodyPost_ret (results_dec_tmp rfl _ _ _ 0 0 rfl ((d2.set0 0).set1 0)) rfl ?_
  refine⟨?_,(hB.setCell (by simp) _).setCell (by simp) _⟩
  rw[ofD_bad HP.out];rfl
end Go.Proofs.YtmhfioimgllgeaaGreatDoor
