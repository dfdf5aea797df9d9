/- dec.Div. -/
import Derived.Test.YtpkohfdebgiloaaDoorDiv1
import Derived.Test.YtpkohfdebgiloaaDoorVals
namespace Go.Proofs.YtpkohfdebgiloaaDoor
open Go.RowKit Go.Shelf

def divP (E E' : Int) : Nat := (48 + (E - E')).toNat
/-- The quotient of two right decimals. -/
def divR (M E M' E' : Int) : (Int × Int) × Int := near (mulS M M') (quoD M.natAbs M'.natAbs (divP E E')) (M.natAbs * 10 ^ divP E E' % M'.natAbs != 0)
theorem quoD_lt {M E M' E' : Int} (hr : rightB M E = true) (hr' : rightB M' E' = true) : quoD M.natAbs M'.natAbs (divP E E') + 10 ^ 57 < 10 ^ 96 := by
  obtain ⟨r1, r2, r3, r4, _⟩ := rightB_iff.1 hr
  obtain ⟨q1, q2, q3, q4, _⟩ := rightB_iff.1 hr'
  unfold quoD divP
  have h0 := Nat.div_le_self (M.natAbs * 10 ^ (48 + (E - E')).toNat) M'.natAbs
  have h1 : M.natAbs ≤ 999999999999999 := by omega
  have h2 : 10 ^ (48 + (E - E')).toNat ≤ 10 ^ 66 := Nat.pow_le_pow_right (by decide) (by omega)
  have h3 : M.natAbs * 10 ^ (48 + (E - E')).toNat ≤ 999999999999999 * 10 ^ 66 := Nat.mul_le_mul h1 h2
  have h4 : 999999999999999 * 10 ^ 66 + 10 ^ 57 < 10 ^ 96 := by decide
  omega

set_option maxRecDepth 100000 in
set_option maxHeartbeats 2000000 in
theorem div_ok (M E M' E' : Int) (w : World) (h0 : -9223372036854775808 ≤ M) (h1 : M ≤ 9223372036854775807) (h0' : -9223372036854775808 ≤ M') (h1' : M' ≤ 9223372036854775807) (hr : rightB M E = true) (hr' : rightB M' E' = true) (hz : M' ≠ 0) :
    Calls Tryd.prog 25 #[.agg #[.int .i64 M, .int .i64 E], .agg #[.int .i64 M', .int .i64 E']] w (DecPost (divR M E M' E') w) := by
  go_enter Tryd.func25, Tryd.ntmps25
  go_wp2_with fail
  obtain ⟨W, hW⟩ : ∃ W, W = ((w.alloc (.cells #[.int .i64 M, .int .i64 E] 23)).alloc (.cells #[.int .i64 M', .int .i64 E'] 23)).alloc (.cells #[.int .i64 0, .int .i64 0] 23) := ⟨_, rfl⟩
  rw [← hW]
  have d0 : World.dec W w.heap.size M E := by rw [hW]; exact ((World.dec_new w M E _ rfl).alloc _).alloc _
  have d1 : World.dec W (w.heap.size + 1) M' E' := by rw [hW]; exact (World.dec_new _ M' E' _ (by simp)).alloc _
  have d2 : World.dec W (w.heap.size + 1 + 1) 0 0 := by rw [hW]; exact World.dec_new _ 0 0 _ (by simp)
  have hB : Below w.heap.size w W := by rw [hW]; exact (((Below.refl _ w).alloc (Nat.le_refl _) _).alloc (by simp) _).alloc (by simp; omega) _
  clear hW
  have hzb : (M' == 0) = false := by simpa using hz
  refine (right_any M E _ h0 h1).mono ?_
  rintro e w1 ⟨rfl, hB1⟩
  have d0 := d0.below hB1 d0.lt
  have d1 := d1.below hB1 d1.lt
  have d2 := d2.below hB1 d2.lt
  have hB := hB.trans (hB1.mono hB.size)
  clear hB1
  have a0 := d0.c0
  have a1 := d0.c1
  have b0 := d1.c0
  have b1 := d1.c1
  go_wp2_with fail
  clear a0 a1 b0 b1
  refine (right_any M' E' _ h0' h1').mono ?_
  rintro e w1 ⟨rfl, hB1⟩
  have d0 := d0.below hB1 d0.lt
  have d1 := d1.below hB1 d1.lt
  have d2 := d2.below hB1 d2.lt
  have hB := hB.trans (hB1.mono hB.size)
  clear hB1
  have a0 := d0.c0
  have a1 := d0.c1
  have b0 := d1.c0
  have b1 := d1.c1
  go_wp2_with fail
  clear a0 a1 b0 b1
  have HLT := Lib.hid (quoD_lt hr hr')
  have HP : Hid ((divP E E' : Int) = 48 + (E - E')) := by
    obtain ⟨r1, r2, r3, r4, _⟩ := rightB_iff.1 hr
    obtain ⟨q1, q2, q3, q4, _⟩ := rightB_iff.1 hr'
    show _ = _; unfold divP; omega
  refine (both_ok M E M' E' 60 #[] #[.pointer (some ⟨w.heap.size + 1, 0, none⟩), .pointer (some ⟨w.heap.size, 0, none⟩)] _ h0 h1 h0' h1' hr hr' enters60 (mulS M M') _ _ HLT (fun w3 hb => divf_core M.natAbs M'.natAbs (divP E E') _ _ _ _ _ M E M' E' w3 hr hr' hz (d0.below hb d0.lt) (d1.below hb d1.lt) rfl rfl HP)).mono ?_
  rintro e w1 ⟨rfl, hB1⟩
  have d0 := d0.below hB1 d0.lt
  have d1 := d1.below hB1 d1.lt
  have d2 := d2.below hB1 d2.lt
  have hB := hB.trans (hB1.mono hB.size)
  clear hB1
  clear d0 d1
  have g0 := d2.c0
  have g1 := d2.c1
  have gf0 := d2.frozen 0
  have gf1 := d2.frozen 1
  go_wp2_with fail
  refine bodyPost_ret (results_dec_tmp rfl _ _ _ _ _ rfl (World.dec.set1 (World.dec.set0 d2 _) _)) rfl ?_
  exact ⟨rfl, (hB.setCell (by simp; omega) _).setCell (by simp; omega) _⟩

set_option maxRecDepth 100000 in
set_option maxHeartbeats 2000000 in
theorem div_zero (M E E' : Int) (w : World) (h0 : -9223372036854775808 ≤ M) (h1 : M ≤ 9223372036854775807)  (hr : rightB M E = true) (hr' : rightB 0 E' = true) :
    Calls Tryd.prog 25 #[.agg #[.int .i64 M, .int .i64 E], .agg #[.int .i64 0, .int .i64 E']] w (DecPost ((0, 0), 11) w) := by
  go_enter Tryd.func25, Tryd.ntmps25
  go_wp2_with fail
  obtain ⟨W, hW⟩ : ∃ W, W = ((w.alloc (.cells #[.int .i64 M, .int .i64 E] 23)).alloc (.cells #[.int .i64 0, .int .i64 E'] 23)).alloc (.cells #[.int .i64 0, .int .i64 0] 23) := ⟨_, rfl⟩
  rw [← hW]
  have d0 : World.dec W w.heap.size M E := by rw [hW]; exact ((World.dec_new w M E _ rfl).alloc _).alloc _
  have d1 : World.dec W (w.heap.size + 1) 0 E' := by rw [hW]; exact (World.dec_new _ 0 E' _ (by simp)).alloc _
  have d2 : World.dec W (w.heap.size + 1 + 1) 0 0 := by rw [hW]; exact World.dec_new _ 0 0 _ (by simp)
  have hB : Below w.heap.size w W := by rw [hW]; exact (((Below.refl _ w).alloc (Nat.le_refl _) _).alloc (by simp) _).alloc (by simp; omega) _
  clear hW
  refine (right_any M E _ h0 h1).mono ?_
  rintro e w1 ⟨rfl, hB1⟩
  have d0 := d0.below hB1 d0.lt
  have d1 := d1.below hB1 d1.lt
  have d2 := d2.below hB1 d2.lt
  have hB := hB.trans (hB1.mono hB.size)
  clear hB1
  have a0 := d0.c0
  have a1 := d0.c1
  have b0 := d1.c0
  have b1 := d1.c1
  go_wp2_with fail
  clear a0 a1 b0 b1
  refine (right_any 0 E' _ (by omega) (by omega)).mono ?_
  rintro e w1 ⟨rfl, hB1⟩
  have d0 := d0.below hB1 d0.lt
  have d1 := d1.below hB1 d1.lt
  have d2 := d2.below hB1 d2.lt
  have hB := hB.trans (hB1.mono hB.size)
  clear hB1
  have a0 := d0.c0
  have a1 := d0.c1
  have b0 := d1.c0
  have b1 := d1.c1
  have g0 := d2.c0
  have g1 := d2.c1
  have gf0 := d2.frozen 0
  have gf1 := d2.frozen 1
  go_wp2_with fail
  refine bodyPost_ret (results_dec_tmp rfl _ _ _ 0 0 rfl (World.dec.set1 (World.dec.set0 d2 _) _)) rfl ?_
  exact ⟨rfl, (hB.setCell (by simp; omega) _).setCell (by simp; omega) _⟩

set_option maxRecDepth 100000 in
set_option maxHeartbeats 2000000 in
theorem div_no2 (M E M' E' : Int) (w : World) (h0 : -9223372036854775808 ≤ M) (h1 : M ≤ 9223372036854775807) (h0' : -9223372036854775808 ≤ M') (h1' : M' ≤ 9223372036854775807) (hr : rightB M E = true) (hr' : rightB M' E' = false) :
    Calls Tryd.prog 25 #[.agg #[.int .i64 M, .int .i64 E], .agg #[.int .i64 M', .int .i64 E']] w (DecPost ((0, 0), 10) w) := by
  go_enter Tryd.func25, Tryd.ntmps25
  go_wp2_with fail
  obtain ⟨W, hW⟩ : ∃ W, W = ((w.alloc (.cells #[.int .i64 M, .int .i64 E] 23)).alloc (.cells #[.int .i64 M', .int .i64 E'] 23)).alloc (.cells #[.int .i64 0, .int .i64 0] 23) := ⟨_, rfl⟩
  rw [← hW]
  have d0 : World.dec W w.heap.size M E := by rw [hW]; exact ((World.dec_new w M E _ rfl).alloc _).alloc _
  have d1 : World.dec W (w.heap.size + 1) M' E' := by rw [hW]; exact (World.dec_new _ M' E' _ (by simp)).alloc _
  have d2 : World.dec W (w.heap.size + 1 + 1) 0 0 := by rw [hW]; exact World.dec_new _ 0 0 _ (by simp)
  have hB : Below w.heap.size w W := by rw [hW]; exact (((Below.refl _ w).alloc (Nat.le_refl _) _).alloc (by simp) _).alloc (by simp; omega) _
  clear hW
  refine (right_any M E _ h0 h1).mono ?_
  rintro e w1 ⟨rfl, hB1⟩
  have d0 := d0.below hB1 d0.lt
  have d1 := d1.below hB1 d1.lt
  have d2 := d2.below hB1 d2.lt
  have hB := hB.trans (hB1.mono hB.size)
  clear hB1
  have a0 := d0.c0
  have a1 := d0.c1
  have b0 := d1.c0
  have b1 := d1.c1
  go_wp2_with fail
  clear a0 a1 b0 b1
  refine (right_any M' E' _ h0' h1').mono ?_
  rintro e w1 ⟨rfl, hB1⟩
  have d0 := d0.below hB1 d0.lt
  have d1 := d1.below hB1 d1.lt
  have d2 := d2.below hB1 d2.lt
  have hB := hB.trans (hB1.mono hB.size)
  clear hB1
  have a0 := d0.c0
  have a1 := d0.c1
  have b0 := d1.c0
  have b1 := d1.c1
  go_wp2_with fail
  clear a0 a1 b0 b1
  refine (both_no2 M E M' E' 60 #[] _ _ h0 h1 h0' h1' hr hr').mono ?_
  rintro e w1 ⟨rfl, hB1⟩
  have d0 := d0.below hB1 d0.lt
  have d1 := d1.below hB1 d1.lt
  have d2 := d2.below hB1 d2.lt
  have hB := hB.trans (hB1.mono hB.size)
  clear hB1
  clear d0 d1
  have g0 := d2.c0
  have g1 := d2.c1
  have gf0 := d2.frozen 0
  have gf1 := d2.frozen 1
  go_wp2_with fail
  refine bodyPost_ret (results_dec_tmp rfl _ _ _ _ _ rfl (World.dec.set1 (World.dec.set0 d2 _) _)) rfl ?_
  exact ⟨rfl, (hB.setCell (by simp; omega) _).setCell (by simp; omega) _⟩

set_option maxRecDepth 100000 in
set_option maxHeartbeats 2000000 in
theorem div_no1 (M E M' E' : Int) (w : World) (h0 : -9223372036854775808 ≤ M) (h1 : M ≤ 9223372036854775807) (h0' : -9223372036854775808 ≤ M') (h1' : M' ≤ 9223372036854775807) (hr : rightB M E = false) :
    Calls Tryd.prog 25 #[.agg #[.int .i64 M, .int .i64 E], .agg #[.int .i64 M', .int .i64 E']] w (DecPost ((0, 0), 10) w) := by
  go_enter Tryd.func25, Tryd.ntmps25
  go_wp2_with fail
  obtain ⟨W, hW⟩ : ∃ W, W = ((w.alloc (.cells #[.int .i64 M, .int .i64 E] 23)).alloc (.cells #[.int .i64 M', .int .i64 E'] 23)).alloc (.cells #[.int .i64 0, .int .i64 0] 23) := ⟨_, rfl⟩
  rw [← hW]
  have d0 : World.dec W w.heap.size M E := by rw [hW]; exact ((World.dec_new w M E _ rfl).alloc _).alloc _
  have d1 : World.dec W (w.heap.size + 1) M' E' := by rw [hW]; exact (World.dec_new _ M' E' _ (by simp)).alloc _
  have d2 : World.dec W (w.heap.size + 1 + 1) 0 0 := by rw [hW]; exact World.dec_new _ 0 0 _ (by simp)
  have hB : Below w.heap.size w W := by rw [hW]; exact (((Below.refl _ w).alloc (Nat.le_refl _) _).alloc (by simp) _).alloc (by simp; omega) _
  clear hW
  refine (right_any M E _ h0 h1).mono ?_
  rintro e w1 ⟨rfl, hB1⟩
  have d0 := d0.below hB1 d0.lt
  have d1 := d1.below hB1 d1.lt
  have d2 := d2.below hB1 d2.lt
  have hB := hB.trans (hB1.mono hB.size)
  clear hB1
  have a0 := d0.c0
  have a1 := d0.c1
  have b0 := d1.c0
  have b1 := d1.c1
  go_wp2_with fail
  clear a0 a1 b0 b1
  refine (both_no1 M E M' E' 60 #[] _ _ h0 h1 h0' h1' hr).mono ?_
  rintro e w1 ⟨rfl, hB1⟩
  have d0 := d0.below hB1 d0.lt
  have d1 := d1.below hB1 d1.lt
  have d2 := d2.below hB1 d2.lt
  have hB := hB.trans (hB1.mono hB.size)
  clear hB1
  clear d0 d1
  have g0 := d2.c0
  have g1 := d2.c1
  have gf0 := d2.frozen 0
  have gf1 := d2.frozen 1
  go_wp2_with fail
  refine bodyPost_ret (results_dec_tmp rfl _ _ _ _ _ rfl (World.dec.set1 (World.dec.set0 d2 _) _)) rfl ?_
  exact ⟨rfl, (hB.setCell (by simp; omega) _).setCell (by simp; omega) _⟩

/-- The quotient of two decimals. -/
def divD (M E M' E' : Int) : (Int × Int) × Int := if rightB M E = true ∧ rightB M' E' = true then (if M' = 0 then ((0, 0), 11) else divR M E M' E') else ((0, 0), 10)
theorem div_any (M E M' E' : Int) (w : World) (h0 : -9223372036854775808 ≤ M) (h1 : M ≤ 9223372036854775807) (h0' : -9223372036854775808 ≤ M') (h1' : M' ≤ 9223372036854775807) :
    Calls Tryd.prog 25 #[.agg #[.int .i64 M, .int .i64 E], .agg #[.int .i64 M', .int .i64 E']] w (DecPost (divD M E M' E') w) := by
  unfold divD
  by_cases hr : rightB M E = true
  · by_cases hr' : rightB M' E' = true
    · rw [if_pos ⟨hr, hr'⟩]
      by_cases hz : M' = 0
      · rw [if_pos hz]; subst hz; exact div_zero M E E' w h0 h1 hr hr'
      · rw [if_neg hz]; exact div_ok M E M' E' w h0 h1 h0' h1' hr hr' hz
    · rw [if_neg (fun h => hr' h.2)]; exact div_no2 M E M' E' w h0 h1 h0' h1' hr (by simpa using hr')
  · rw [if_neg (fun h => hr h.1)]; exact div_no1 M E M' E' w h0 h1 h0' h1' (by simpa using hr)
end Go.Proofs.YtpkohfdebgiloaaDoor
