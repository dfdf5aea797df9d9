/- dec.both: something done with two decimals, if they are right. -/
import Derived.Test.YtpkohfdebgiloaaDoorFit
namespace Go.Proofs.YtpkohfdebgiloaaDoor
open Go.RowKit

set_option maxRecDepth 100000 in
set_option maxHeartbeats 2000000 in
theorem both_ok (M E M' E' : Int) (fid : FuncId) (fst cap : Array Value) (w : World) (h0 : -9223372036854775808 ≤ M) (h1 : M ≤ 9223372036854775807) (h0' : -9223372036854775808 ≤ M') (h1' : M' ≤ 9223372036854775807) (hr : rightB M E = true) (hr' : rightB M' E' = true)
    (hent : ∀ args w, (callFunc fid args).run Tryd.prog w = .ok (.enter fid args) w) (s : Bool) (D : Nat) (m : Bool) (hD : Hid (D + 10 ^ 57 < 10 ^ 96))
    (hdo : Hid (∀ w3, Below w.heap.size w w3 → Calls Tryd.prog fid (fst.push (.agg (numF (decide (M' < 0)) (dg (layD M' E')) false)) ++ cap) w3 fun e w' => e = .returned (.agg (numF s (dg D) m)) ∧ Below w3.heap.size w3 w')) :
    Calls Tryd.prog 55 #[.agg #[.int .i64 M, .int .i64 E], .agg #[.int .i64 M', .int .i64 E'], .func (.func fid) fst cap] w (DecPost (near s D m) w) := by
  go_enter Tryd.func55, Tryd.ntmps55
  go_wp2_with fail
  obtain ⟨W, hW⟩ : ∃ W, W = ((w.alloc (.cells #[.int .i64 M, .int .i64 E] 23)).alloc (.cells #[.int .i64 M', .int .i64 E'] 23)).alloc (.cells #[.int .i64 0, .int .i64 0] 23) := ⟨_, rfl⟩
  rw [← hW]
  have d0 : World.dec W w.heap.size M E := by rw [hW]; exact ((World.dec_new w M E _ rfl).alloc _).alloc _
  have d1 : World.dec W (w.heap.size + 1) M' E' := by rw [hW]; exact (World.dec_new _ M' E' _ (by simp)).alloc _
  have d2 : World.dec W (w.heap.size + 1 + 1) 0 0 := by rw [hW]; exact World.dec_new _ 0 0 _ (by simp)
  have hB : Below w.heap.size w W := by rw [hW]; exact (((Below.refl _ w).alloc (Nat.le_refl _) _).alloc (by simp) _).alloc (by simp; omega) _
  clear hW
  refine (right_any M E _ h0 h1).mono ?_
  rintro e w1 ⟨rfl, hB1⟩
  have d0 := d0.below hB1 d0.lt
  have d1 := d1.below hB1 d1.lt
  have d2 := d2.below hB1 d2.lt
  have hB := hB.trans (hB1.mono hB.size)
  clear hB1
  have a0 := d1.c0
  have a1 := d1.c1
  go_wp2_with fail
  refine (right_any M' E' _ h0' h1').mono ?_
  rintro e w2 ⟨rfl, hB1⟩
  have d0 := d0.below hB1 d0.lt
  have d1 := d1.below hB1 d1.lt
  have d2 := d2.below hB1 d2.lt
  have hB := hB.trans (hB1.mono hB.size)
  clear hB1 a0 a1
  have a0 := d1.c0
  have a1 := d1.c1
  obtain ⟨r1, r2, r3, r4, _⟩ := rightB_iff.1 hr'
  go_wp2_with fail
  refine (lay_any M' E' _ r1 r2 r3 r4).mono ?_
  rintro e w3 ⟨rfl, hB1⟩
  have d2 := d2.below hB1 d2.lt
  have hB := hB.trans (hB1.mono hB.size)
  clear hB1 a0 a1 d0 d1
  go_wp2_with fail
  refine (hdo.out _ hB).mono ?_
  rintro e w4 ⟨rfl, hB1⟩
  have d2 := d2.below hB1 d2.lt
  have hB := hB.trans (hB1.mono hB.size)
  clear hB1
  go_wp2_with fail
  refine (nearest_any s D m _ hD).mono ?_
  rintro e w5 ⟨rfl, hB1⟩
  have d2 := d2.below hB1 d2.lt
  have hB := hB.trans (hB1.mono hB.size)
  clear hB1
  have g0 := d2.c0
  have g1 := d2.c1
  have gf0 := d2.frozen 0
  have gf1 := d2.frozen 1
  go_wp2_with fail
  refine bodyPost_ret (results_dec_tmp rfl _ _ _ _ _ rfl (World.dec.set1 (World.dec.set0 d2 _) _)) rfl ?_
  exact ⟨rfl, (hB.setCell (by simp; omega) _).setCell (by simp; omega) _⟩

set_option maxRecDepth 100000 in
set_option maxHeartbeats 2000000 in
theorem both_no1 (M E M' E' : Int) (fid : FuncId) (fst cap : Array Value) (w : World) (h0 : -9223372036854775808 ≤ M) (h1 : M ≤ 9223372036854775807) (_h0' : -9223372036854775808 ≤ M') (_h1' : M' ≤ 9223372036854775807) (hr : rightB M E = false) :
    Calls Tryd.prog 55 #[.agg #[.int .i64 M, .int .i64 E], .agg #[.int .i64 M', .int .i64 E'], .func (.func fid) fst cap] w (DecPost ((0, 0), 10) w) := by
  go_enter Tryd.func55, Tryd.ntmps55
  go_wp2_with fail
  obtain ⟨W, hW⟩ : ∃ W, W = ((w.alloc (.cells #[.int .i64 M, .int .i64 E] 23)).alloc (.cells #[.int .i64 M', .int .i64 E'] 23)).alloc (.cells #[.int .i64 0, .int .i64 0] 23) := ⟨_, rfl⟩
  rw [← hW]
  have d0 : World.dec W w.heap.size M E := by rw [hW]; exact ((World.dec_new w M E _ rfl).alloc _).alloc _
  have d1 : World.dec W (w.heap.size + 1) M' E' := by rw [hW]; exact (World.dec_new _ M' E' _ (by simp)).alloc _
  have d2 : World.dec W (w.heap.size + 1 + 1) 0 0 := by rw [hW]; exact World.dec_new _ 0 0 _ (by simp)
  have hB : Below w.heap.size w W := by rw [hW]; exact (((Below.refl _ w).alloc (Nat.le_refl _) _).alloc (by simp) _).alloc (by simp; omega) _
  clear hW
  refine (right_any M E _ h0 h1).mono ?_
  rintro e w1 ⟨rfl, hB1⟩
  have d0 := d0.below hB1 d0.lt
  have d1 := d1.below hB1 d1.lt
  have d2 := d2.below hB1 d2.lt
  have hB := hB.trans (hB1.mono hB.size)
  clear hB1
  have a0 := d1.c0
  have a1 := d1.c1
  have g0 := d2.c0
  have g1 := d2.c1
  have gf0 := d2.frozen 0
  have gf1 := d2.frozen 1
  go_wp2_with fail
  refine bodyPost_ret (results_dec_tmp rfl _ _ _ 0 0 rfl (World.dec.set1 (World.dec.set0 d2 0) 0)) rfl ?_
  exact ⟨rfl, (hB.setCell (by simp; omega) _).setCell (by simp; omega) _⟩

set_option maxRecDepth 100000 in
set_option maxHeartbeats 2000000 in
theorem both_no2 (M E M' E' : Int) (fid : FuncId) (fst cap : Array Value) (w : World) (h0 : -9223372036854775808 ≤ M) (h1 : M ≤ 9223372036854775807) (h0' : -9223372036854775808 ≤ M') (h1' : M' ≤ 9223372036854775807) (hr : rightB M E = true) (hr' : rightB M' E' = false) :
    Calls Tryd.prog 55 #[.agg #[.int .i64 M, .int .i64 E], .agg #[.int .i64 M', .int .i64 E'], .func (.func fid) fst cap] w (DecPost ((0, 0), 10) w) := by
  go_enter Tryd.func55, Tryd.ntmps55
  go_wp2_with fail
  obtain ⟨W, hW⟩ : ∃ W, W = ((w.alloc (.cells #[.int .i64 M, .int .i64 E] 23)).alloc (.cells #[.int .i64 M', .int .i64 E'] 23)).alloc (.cells #[.int .i64 0, .int .i64 0] 23) := ⟨_, rfl⟩
  rw [← hW]
  have d0 : World.dec W w.heap.size M E := by rw [hW]; exact ((World.dec_new w M E _ rfl).alloc _).alloc _
  have d1 : World.dec W (w.heap.size + 1) M' E' := by rw [hW]; exact (World.dec_new _ M' E' _ (by simp)).alloc _
  have d2 : World.dec W (w.heap.size + 1 + 1) 0 0 := by rw [hW]; exact World.dec_new _ 0 0 _ (by simp)
  have hB : Below w.heap.size w W := by rw [hW]; exact (((Below.refl _ w).alloc (Nat.le_refl _) _).alloc (by simp) _).alloc (by simp; omega) _
  clear hW
  refine (right_any M E _ h0 h1).mono ?_
  rintro e w1 ⟨rfl, hB1⟩
  have d0 := d0.below hB1 d0.lt
  have d1 := d1.below hB1 d1.lt
  have d2 := d2.below hB1 d2.lt
  have hB := hB.trans (hB1.mono hB.size)
  clear hB1
  have a0 := d1.c0
  have a1 := d1.c1
  go_wp2_with fail
  refine (right_any M' E' _ h0' h1').mono ?_
  rintro e w2 ⟨rfl, hB1⟩
  have d2 := d2.below hB1 d2.lt
  have hB := hB.trans (hB1.mono hB.size)
  clear hB1
  have g0 := d2.c0
  have g1 := d2.c1
  have gf0 := d2.frozen 0
  have gf1 := d2.frozen 1
  go_wp2_with fail
  refine bodyPost_ret (results_dec_tmp rfl _ _ _ 0 0 rfl (World.dec.set1 (World.dec.set0 d2 0) 0)) rfl ?_
  exact ⟨rfl, (hB.setCell (by simp; omega) _).setCell (by simp; omega) _⟩

end Go.Proofs.YtpkohfdebgiloaaDoor
