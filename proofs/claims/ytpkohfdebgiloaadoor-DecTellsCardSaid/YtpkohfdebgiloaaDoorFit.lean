/- dec.fit. -/
import Derived.Test.YtpkohfdebgiloaaDoorRight
namespace Go.Proofs.YtpkohfdebgiloaaDoor
open Go.RowKit

set_option maxHeartbeats 1000000 in
theorem fit_any (M E : Int) (w : World) (h0 : -9223372036854775808 ≤ M) (h1 : M ≤ 9223372036854775807) (hr : rightB M E = true) :
    Calls Tryd.prog 56 #[.agg #[.int .i64 M, .int .i64 E]] w fun e w' => e = .returned (decV (M, E)) ∧ Below w.heap.size w w' := by
  go_enter Tryd.func56, Tryd.ntmps56
  go_wp2_with fail
  obtain ⟨W, hW⟩ : ∃ W, W = (w.alloc (.cells #[.int .i64 M, .int .i64 E] 23)).alloc (.cells #[.int .i64 0, .int .i64 0] 23) := ⟨_, rfl⟩
  rw [← hW]
  have d0 : World.dec W w.heap.size M E := by rw [hW]; exact (World.dec_new w M E _ rfl).alloc _
  have d1 : World.dec W (w.heap.size + 1) 0 0 := by rw [hW]; exact World.dec_new _ 0 0 _ (by simp)
  have hB : Below w.heap.size w W := by rw [hW]; exact ((Below.refl _ w).alloc (Nat.le_refl _) _).alloc (by simp) _
  clear hW
  refine (right_any M E _ h0 h1).mono ?_
  rintro e w1 ⟨rfl, hB1⟩
  have e0 := d0.below hB1 d0.lt
  have e1 := d1.below hB1 d1.lt
  have hB2 : Below w.heap.size w w1 := hB.trans (hB1.mono hB.size)
  clear d0 d1 hB hB1
  have a0 := e0.c0
  have a1 := e0.c1
  have g0 := e1.c0
  have g1 := e1.c1
  have gf0 := e1.frozen 0
  have gf1 := e1.frozen 1
  go_wp2_with fail
  refine bodyPost_ret (results_cell_row rfl _ _ _ 23 _ (0, 0) _ rfl (World.dec.set1 (World.dec.set0 e1 M) E) Tryd.underlying23 rfl (by kernel_rfl)) rfl ?_
  exact ⟨rfl, (hB2.setCell (by simp) _).setCell (by simp) _⟩

set_option maxHeartbeats 1000000 in
theorem fit_no (M E : Int) (w : World) (h0 : -9223372036854775808 ≤ M) (h1 : M ≤ 9223372036854775807) (hr : rightB M E = false) :
    Calls Tryd.prog 56 #[.agg #[.int .i64 M, .int .i64 E]] w fun e w' => e = .returned (decV (0, 0)) ∧ Below w.heap.size w w' := by
  go_enter Tryd.func56, Tryd.ntmps56
  go_wp2_with fail
  obtain ⟨W, hW⟩ : ∃ W, W = (w.alloc (.cells #[.int .i64 M, .int .i64 E] 23)).alloc (.cells #[.int .i64 0, .int .i64 0] 23) := ⟨_, rfl⟩
  rw [← hW]
  have d0 : World.dec W w.heap.size M E := by rw [hW]; exact (World.dec_new w M E _ rfl).alloc _
  have d1 : World.dec W (w.heap.size + 1) 0 0 := by rw [hW]; exact World.dec_new _ 0 0 _ (by simp)
  have hB : Below w.heap.size w W := by rw [hW]; exact ((Below.refl _ w).alloc (Nat.le_refl _) _).alloc (by simp) _
  clear hW
  refine (right_any M E _ h0 h1).mono ?_
  rintro e w1 ⟨rfl, hB1⟩
  have e0 := d0.below hB1 d0.lt
  have e1 := d1.below hB1 d1.lt
  have hB2 : Below w.heap.size w w1 := hB.trans (hB1.mono hB.size)
  clear d0 d1 hB hB1
  have a0 := e0.c0
  have a1 := e0.c1
  have g0 := e1.c0
  have g1 := e1.c1
  have gf0 := e1.frozen 0
  have gf1 := e1.frozen 1
  go_wp2_with fail
  refine bodyPost_ret (results_cell_row rfl _ _ _ 23 _ (0, 0) _ rfl (World.dec.set1 (World.dec.set0 e1 0) 0) Tryd.underlying23 rfl (by kernel_rfl)) rfl ?_
  exact ⟨rfl, (hB2.setCell (by simp) _).setCell (by simp) _⟩

end Go.Proofs.YtpkohfdebgiloaaDoor
