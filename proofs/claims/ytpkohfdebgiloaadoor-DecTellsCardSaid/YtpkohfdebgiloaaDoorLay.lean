/- dec.abs and dec.lay. -/
import Derived.Test.YtpkohfdebgiloaaDoorOf
import Derived.StillTailTactics
import Derived.Lib.Hide
namespace Go.Proofs.YtpkohfdebgiloaaDoor
open Go.RowKit

set_option maxHeartbeats 400000 in
theorem abs_any (n : Int) (w : World) (h0 : -9223372036854775808 ≤ n) (h1 : n ≤ 9223372036854775807) :
    Calls Tryd.prog 44 #[.int .i64 n] w fun e w' => e = .returned (.int .u64 (n.natAbs : Int)) ∧ w' = w := by
  by_cases h : n < 0
  · go_enter Tryd.func44, Tryd.ntmps44
    go_wp2
    go_ret
    refine ⟨ret_int ?_, rfl⟩
    rw [wrap_u64, wrap_u64]; omega
  · go_enter Tryd.func44, Tryd.ntmps44
    go_wp2
    go_ret
    refine ⟨ret_int ?_, rfl⟩
    first | (rw [wrap_u64]; omega) | omega

theorem lay_lt {V p a b : Nat} (hV : V < 10 ^ a) (hp : p ≤ b) (hab : a + b ≤ 96) : V * 10 ^ p < 10 ^ 96 := by
  calc V * 10 ^ p < 10 ^ a * 10 ^ p := Nat.mul_lt_mul_of_pos_right hV (pow10_pos p)
    _ = 10 ^ (a + p) := by rw [Nat.pow_add]
    _ ≤ 10 ^ 96 := Nat.pow_le_pow_right (by decide) (by omega)

/-- The digits of a decimal: those of ten to i stand at 48 + i. -/
def layD (M E : Int) : Nat := M.natAbs * 10 ^ (48 + E).toNat

set_option maxHeartbeats 1000000 in
set_option maxRecDepth 100000 in
theorem lay_any (M E : Int) (w : World) (h0 : -999999999999999 ≤ M) (h1 : M ≤ 999999999999999) (e0 : -9 ≤ E) (e1 : E ≤ 9) :
    Calls Tryd.prog 35 #[.agg #[.int .i64 M, .int .i64 E]] w (OfPost (decide (M < 0)) (layD M E) w) := by
  go_enter Tryd.func35, Tryd.ntmps35
  go_wp2_with (first | refine wpList_alloc56 rfl rfl ?_)
  obtain ⟨W, hW⟩ : ∃ W, W = (w.alloc (.cells #[.int .i64 M, .int .i64 E] 23)).alloc (.cells (numF false z96 false) 56) := ⟨_, rfl⟩
  rw [← hW]
  have hc0 : W.cell? ⟨w.heap.size, 0, none⟩ = some (.int .i64 M) := by rw [hW]; go_simp
  have hc1 : W.cell? ⟨w.heap.size, 1, none⟩ = some (.int .i64 E) := by rw [hW]; go_simp
  have hn : World.num W (w.heap.size + 1) false z96 false := by rw [hW]; exact World.num_new' _ _ _ _ _ (by simp)
  have hB : Below w.heap.size w W := by rw [hW]; exact ((Below.refl _ w).alloc (Nat.le_refl _) _).alloc (by simp) _
  have hz : w.heap.size + 1 < W.heap.size := by rw [hW]; simp
  clear hW
  refine wp_region_still_tail 8 (by kernel_rfl) (by kernel_rfl) ?_
  change wpStill _ _ W.drew _ _ _
  simp only [List.take_succ_cons, List.take_zero, List.drop_succ_cons, List.drop_zero]
  iterate 5 still_step
  still_call (abs_any _ _ (by omega) (by omega))
  iterate 2 still_step
  refine wpStill_nil ?_
  change wpList _ _ _ _ _ W.drew
  have hb : Hid (M.natAbs * 10 ^ (48 + E).toNat < 10 ^ 96) := lay_lt (a := 15) (b := 57) (by rw [show (10 : Nat) ^ 15 = 1000000000000000 from by decide]; omega) (by omega) (by decide)
  have hp : (((48 + E).toNat : Nat) : Int) = 48 + E := by omega
  have Hp := Lib.hid hp
  clear hp
  go_wp2_with (first
    | (go_at_call 43; go_must (refine (of_any _ _ _ _ M.natAbs (48 + E).toNat _ ?_ ?_ ?_ ?_ ?_ Hp.out hb ?_).mono ?_; (first | omega | skip); (first | omega | skip); (first | omega | skip); (first | omega | skip); (show _ = _; omega); (omega); rintro e w1 ⟨rfl, hB1⟩; have hn1 := World.num.below (World.num.drew hn) hB1 (by simp; exact hz)))
    | (refine wpList_store56 rfl rfl rfl rfl hn1 ?_; intro w2 hn2 hg2 hz2))
  refine bodyPost_ret (results_cell_row rfl _ _ _ 56 _ (0, 0) _ rfl hn2 Tryd.underlying56 rfl (info56' _ _ _)) rfl ?_
  refine ⟨rfl, ?_⟩
  have hBd : Below w.heap.size W.drew w1 := hB1.mono (by simp; omega)
  exact (hB.drew.trans hBd).grown hg2 (by have := hBd.size; simp at this; omega) (fun k hk => by cases hk; omega)

end Go.Proofs.YtpkohfdebgiloaaDoor
