/- dec.Round. -/
import Derived.Test.YtpkohfdebgiloaaDoorAdd
namespace Go.Proofs.YtpkohfdebgiloaaDoor
open Go.RowKit

/-- A number cut at a place, one more of that place if so told. -/
def cutN (D : Nat) (k : Nat) (up : Bool) : Nat := (D / 10 ^ k + (if up = true then 1 else 0)) * 10 ^ k

theorem cutN_le {D k : Nat} {up : Bool} : cutN D k up ≤ D + 10 ^ k := by
  unfold cutN
  have := Nat.div_mul_le_self D (10 ^ k)
  rw [Nat.add_mul]
  have h0 := pow10_pos k
  split <;> (try rw [Nat.one_mul]) <;> (try rw [Nat.zero_mul]) <;> omega

theorem cutN_lt {D k : Nat} {up : Bool} (hk : k ≤ 57) (hD : D < 10 ^ 72) : cutN D k up + 10 ^ 57 < 10 ^ 96 := by
  have h1 := @cutN_le D k up
  have h2 : 10 ^ k ≤ 10 ^ 57 := Nat.pow_le_pow_right (by decide) hk
  have h3 : (10 : Nat) ^ 72 + 10 ^ 57 + 10 ^ 57 < 10 ^ 96 := by decide
  omega

theorem cut_b (b : Nat) (s m : Bool) (D : Nat) (k : Int) (up : Bool) (w : World) (hx : World.num w b s (dg D) m) (k0 : 1 ≤ k) (k1 : k ≤ 57) (hD : Hid (D < 10 ^ 72)) :
    Calls Tryd.prog 61 #[.pointer (some ⟨b, 0, none⟩), .int .i64 k, .bool up] w (CutPost b s (cutN D k.toNat up) w) := by
  obtain ⟨n, rfl⟩ := Int.eq_ofNat_of_zero_le (by omega : 0 ≤ k)
  have hq := cutN_lt (up := up) (show n ≤ 57 by omega) hD.out
  rw [Int.toNat_natCast] at *
  unfold cutN at hq ⊢
  cases up
  · exact cut_f b s m D n w hx (by omega) (by omega)
  · exact cut_t b s m D n w hx (by omega) (by omega) (by show _ < _; simp at hq; omega)

set_option maxRecDepth 100000 in
set_option maxHeartbeats 2000000 in
theorem round_ok (M E n : Int) (w : World) (h0 : -9223372036854775808 ≤ M) (h1 : M ≤ 9223372036854775807) (hr : rightB M E = true) (n0 : -9 ≤ n) (n1 : n ≤ 9) :
    Calls Tryd.prog 28 #[.agg #[.int .i64 M, .int .i64 E], .int .i64 n] w
      (DecPost (near (decide (M < 0)) (cutN (layD M E) (48 - n).toNat (decide (0 ≤ restD (layD M E) false (48 - n).toNat))) false) w) := by
  go_enter Tryd.func28, Tryd.ntmps28
  go_wp2_with fail
  obtain ⟨W, hW⟩ : ∃ W, W = (w.alloc (.cells #[.int .i64 M, .int .i64 E] 23)).alloc (.cells #[.int .i64 0, .int .i64 0] 23) := ⟨_, rfl⟩
  rw [← hW]
  have d0 : World.dec W w.heap.size M E := by rw [hW]; exact (World.dec_new w M E _ rfl).alloc _
  have d2 : World.dec W (w.heap.size + 1) 0 0 := by rw [hW]; exact World.dec_new _ 0 0 _ (by simp)
  have hB : Below w.heap.size w W := by rw [hW]; exact ((Below.refl _ w).alloc (Nat.le_refl _) _).alloc (by simp) _
  clear hW
  refine (right_any M E _ h0 h1).mono ?_
  rintro e w1 ⟨rfl, hB1⟩
  have d0 := d0.below hB1 d0.lt
  have d2 := d2.below hB1 d2.lt
  have hB := hB.trans (hB1.mono hB.size)
  clear hB1
  have a0 := d0.c0
  have a1 := d0.c1
  obtain ⟨r1, r2, r3, r4, _⟩ := rightB_iff.1 hr
  have hD := Lib.hid (layD_lt hr)
  go_wp2_with fail
  refine (lay_any M E _ r1 r2 r3 r4).mono ?_
  rintro e w2 ⟨rfl, hB1⟩
  have d2 := d2.below hB1 d2.lt
  have hB := hB.trans (hB1.mono hB.size)
  clear hB1 a0 a1 d0
  go_wp2_with (first
        | refine wpList_alloc56 rfl rfl ?_
        | (refine wpList_store56 rfl rfl rfl rfl (World.num_new _ _ _ _) ?_; intro w3 hn3 hg3 hz3))
  have hs := d2.lt
  have d3 : World.dec w3 (w.heap.size + 1) 0 0 := World.dec.below (d2.alloc _) (Below.grown (Below.refl w2.heap.size _) hg3 (by simp) (fun k hk => by cases hk; exact Nat.le_refl _)) (by omega)
  have hB3 : Below w.heap.size w w3 := (hB.alloc hB.size _).grown hg3 (by have := hB.size; simp; omega) (fun k hk => by cases hk; exact hB.size)
  have hbs := hB.size
  clear hg3 hz3 d2
  refine (rest_i _ _ _ _ _ _ hn3 (by omega) (by omega)).mono ?_
  rintro e w4 ⟨rfl, rfl⟩
  obtain ⟨r, hr'⟩ : ∃ r : Int, r = restD (layD M E) false (48 - n).toNat := ⟨_, rfl⟩
  rw [← hr']
  have Hr := Lib.hid hr'
  clear hr'
  go_wp2_with fail
  refine (cut_b _ _ _ _ _ _ _ hn3 (by omega) (by omega) hD).mono ?_
  rintro e w5 ⟨rfl, hn5, hg5⟩
  have d5 : World.dec w5 (w.heap.size + 1) 0 0 := World.dec.grown d3 hg5 (by simp; omega)
  have hB5 : Below w.heap.size w w5 := hB3.grown hg5 hB3.size (fun k hk => by cases hk; exact hbs)
  clear hg5 hn3 hB3 hB d3
  have hN : Hid (cutN (layD M E) (48 - n).toNat (decide (0 ≤ r)) + 10 ^ 57 < 10 ^ 96) := cutN_lt (by omega) hD.out
  go_wp2_with (refine wpList_load56 rfl rfl rfl hn5 ?_)
  refine (nearest_any _ _ false _ hN).mono ?_
  rintro e w6 ⟨rfl, hB1⟩
  have d6 := d5.below hB1 d5.lt
  have hB6 := hB5.trans (hB1.mono hB5.size)
  have g0 := d6.c0
  have g1 := d6.c1
  have gf0 := d6.frozen 0
  have gf1 := d6.frozen 1
  go_wp2_with fail
  refine bodyPost_ret (results_dec_tmp rfl _ _ _ _ _ rfl (World.dec.set1 (World.dec.set0 d6 _) _)) rfl ?_
  rw [← Hr.out]
  exact ⟨rfl, (hB6.setCell (by simp) _).setCell (by simp) _⟩

set_option maxRecDepth 100000 in
set_option maxHeartbeats 2000000 in
theorem round_arg (M E n : Int) (w : World) (h0 : -9223372036854775808 ≤ M) (h1 : M ≤ 9223372036854775807) (hr : rightB M E = true) (hn : n < -9 ∨ 9 < n) :
    Calls Tryd.prog 28 #[.agg #[.int .i64 M, .int .i64 E], .int .i64 n] w (DecPost ((0, 0), 2) w) := by
  go_enter Tryd.func28, Tryd.ntmps28
  go_wp2_with fail
  obtain ⟨W, hW⟩ : ∃ W, W = (w.alloc (.cells #[.int .i64 M, .int .i64 E] 23)).alloc (.cells #[.int .i64 0, .int .i64 0] 23) := ⟨_, rfl⟩
  rw [← hW]
  have d0 : World.dec W w.heap.size M E := by rw [hW]; exact (World.dec_new w M E _ rfl).alloc _
  have d2 : World.dec W (w.heap.size + 1) 0 0 := by rw [hW]; exact World.dec_new _ 0 0 _ (by simp)
  have hB : Below w.heap.size w W := by rw [hW]; exact ((Below.refl _ w).alloc (Nat.le_refl _) _).alloc (by simp) _
  clear hW
  refine (right_any M E _ h0 h1).mono ?_
  rintro e w1 ⟨rfl, hB1⟩
  have d2 := d2.below hB1 d2.lt
  have hB := hB.trans (hB1.mono hB.size)
  clear hB1
  have g0 := d2.c0
  have g1 := d2.c1
  have gf0 := d2.frozen 0
  have gf1 := d2.frozen 1
  rcases hn with hn | hn
  all_goals
    go_wp2_with fail
    refine bodyPost_ret (results_dec_tmp rfl _ _ _ 0 0 rfl (World.dec.set1 (World.dec.set0 d2 0) 0)) rfl ?_
    exact ⟨rfl, (hB.setCell (by simp) _).setCell (by simp) _⟩

set_option maxRecDepth 100000 in
set_option maxHeartbeats 2000000 in
theorem round_no (M E n : Int) (w : World) (h0 : -9223372036854775808 ≤ M) (h1 : M ≤ 9223372036854775807) (hr : rightB M E = false) :
    Calls Tryd.prog 28 #[.agg #[.int .i64 M, .int .i64 E], .int .i64 n] w (DecPost ((0, 0), 10) w) := by
  go_enter Tryd.func28, Tryd.ntmps28
  go_wp2_with fail
  obtain ⟨W, hW⟩ : ∃ W, W = (w.alloc (.cells #[.int .i64 M, .int .i64 E] 23)).alloc (.cells #[.int .i64 0, .int .i64 0] 23) := ⟨_, rfl⟩
  rw [← hW]
  have d0 : World.dec W w.heap.size M E := by rw [hW]; exact (World.dec_new w M E _ rfl).alloc _
  have d2 : World.dec W (w.heap.size + 1) 0 0 := by rw [hW]; exact World.dec_new _ 0 0 _ (by simp)
  have hB : Below w.heap.size w W := by rw [hW]; exact ((Below.refl _ w).alloc (Nat.le_refl _) _).alloc (by simp) _
  clear hW
  refine (right_any M E _ h0 h1).mono ?_
  rintro e w1 ⟨rfl, hB1⟩
  have d2 := d2.below hB1 d2.lt
  have hB := hB.trans (hB1.mono hB.size)
  clear hB1
  have g0 := d2.c0
  have g1 := d2.c1
  have gf0 := d2.frozen 0
  have gf1 := d2.frozen 1
  go_wp2_with fail
  refine bodyPost_ret (results_dec_tmp rfl _ _ _ 0 0 rfl (World.dec.set1 (World.dec.set0 d2 0) 0)) rfl ?_
  exact ⟨rfl, (hB.setCell (by simp) _).setCell (by simp) _⟩

/-- A decimal rounded. -/
def roundR (M E n : Int) : (Int × Int) × Int := near (decide (M < 0)) (cutN (layD M E) (48 - n).toNat (decide (0 ≤ restD (layD M E) false (48 - n).toNat))) false
def roundD (M E n : Int) : (Int × Int) × Int := if rightB M E = true then (if -9 ≤ n ∧ n ≤ 9 then roundR M E n else ((0, 0), 2)) else ((0, 0), 10)
theorem round_any (M E n : Int) (w : World) (h0 : -9223372036854775808 ≤ M) (h1 : M ≤ 9223372036854775807) :
    Calls Tryd.prog 28 #[.agg #[.int .i64 M, .int .i64 E], .int .i64 n] w (DecPost (roundD M E n) w) := by
  unfold roundD
  by_cases hr : rightB M E = true
  · rw [if_pos hr]
    by_cases hn : -9 ≤ n ∧ n ≤ 9
    · rw [if_pos hn]; exact round_ok M E n w h0 h1 hr hn.1 hn.2
    · rw [if_neg hn]; exact round_arg M E n w h0 h1 hr (by omega)
  · rw [if_neg hr]; exact round_no M E n w h0 h1 (by simpa using hr)
end Go.Proofs.YtpkohfdebgiloaaDoor
