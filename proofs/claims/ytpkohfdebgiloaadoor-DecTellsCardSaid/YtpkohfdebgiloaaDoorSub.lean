/- dec.Sub. -/
import Derived.Test.YtpkohfdebgiloaaDoorAdd
namespace Go.Proofs.YtpkohfdebgiloaaDoor
open Go.RowKit Go.Shelf

def subD (M E M' E' : Int) : (Int × Int) × Int := if rightB M' E' = true then addD M E (-M') E' else ((0, 0), 10)

set_option maxRecDepth 100000 in
set_option maxHeartbeats 2000000 in
theorem sub_any (M E M' E' : Int) (w : World) (h0 : -9223372036854775808 ≤ M) (h1 : M ≤ 9223372036854775807) (h0' : -9223372036854775808 ≤ M') (h1' : M' ≤ 9223372036854775807) :
    Calls Tryd.prog 24 #[.agg #[.int .i64 M, .int .i64 E], .agg #[.int .i64 M', .int .i64 E']] w (DecPost (subD M E M' E') w) := by
  by_cases hr' : rightB M' E' = true
  all_goals
    have Hs : Hid (subD M E M' E' = if rightB M' E' = true then addD M E (-M') E' else ((0, 0), 10)) := rfl
    go_enter Tryd.func24, Tryd.ntmps24
    go_wp2_with fail
    obtain ⟨W, hW⟩ : ∃ W, W = ((w.alloc (.cells #[.int .i64 M, .int .i64 E] 23)).alloc (.cells #[.int .i64 M', .int .i64 E'] 23)).alloc (.cells #[.int .i64 0, .int .i64 0] 23) := ⟨_, rfl⟩
    rw [← hW]
    have d0 : World.dec W w.heap.size M E := by rw [hW]; exact ((World.dec_new w M E _ rfl).alloc _).alloc _
    have d1 : World.dec W (w.heap.size + 1) M' E' := by rw [hW]; exact (World.dec_new _ M' E' _ (by simp)).alloc _
    have d2 : World.dec W (w.heap.size + 1 + 1) 0 0 := by rw [hW]; exact World.dec_new _ 0 0 _ (by simp)
    have hB : Below w.heap.size w W := by rw [hW]; exact (((Below.refl _ w).alloc (Nat.le_refl _) _).alloc (by simp) _).alloc (by simp; omega) _
    clear hW
    refine (right_any M' E' _ h0' h1').mono ?_
    rintro e w1 ⟨rfl, hB1⟩
    have d0 := d0.below hB1 d0.lt
    have d1 := d1.below hB1 d1.lt
    have d2 := d2.below hB1 d2.lt
    have hB := hB.trans (hB1.mono hB.size)
    clear hB1
    have a0 := d0.c0
    have a1 := d0.c1
    have b0 := d1.c0
    have b1 := d1.c1
    have bf := d1.frozen 0
  · obtain ⟨r1, r2, r3, r4, _⟩ := rightB_iff.1 hr'
    go_wp2_with fail

    refine (add_any M E (-M') E' _ h0 h1 (by omega) (by omega)).mono ?_
    rintro e w2 ⟨rfl, hB1⟩
    have d2 := World.dec.below (World.dec.other d2 (by simp) _) hB1 (by simp; exact d2.lt)
    have hB := (hB.setCell (p := ⟨w.heap.size + 1, 0, none⟩) (by simp) (.int .i64 (-M'))).trans (hB1.mono (by simp; exact hB.size))
    clear hB1 a0 a1 b0 b1 bf
    have g0 := d2.c0
    have g1 := d2.c1
    have gf0 := d2.frozen 0
    have gf1 := d2.frozen 1
    go_wp2_with fail
    refine bodyPost_ret (results_dec_tmp rfl _ _ _ _ _ rfl (World.dec.set1 (World.dec.set0 d2 _) _)) rfl ?_
    refine ⟨?_, (hB.setCell (by simp; omega) _).setCell (by simp; omega) _⟩
    rw [Hs.out, if_pos hr']; rfl
  · have hr' : rightB M' E' = false := by simpa using hr'
    have g0 := d2.c0
    have g1 := d2.c1
    have gf0 := d2.frozen 0
    have gf1 := d2.frozen 1
    go_wp2_with fail
    refine bodyPost_ret (results_dec_tmp rfl _ _ _ 0 0 rfl (World.dec.set1 (World.dec.set0 d2 0) 0)) rfl ?_
    refine ⟨?_, (hB.setCell (by simp; omega) _).setCell (by simp; omega) _⟩
    rw [Hs.out, if_neg (by simp [hr'])]; rfl
end Go.Proofs.YtpkohfdebgiloaaDoor
