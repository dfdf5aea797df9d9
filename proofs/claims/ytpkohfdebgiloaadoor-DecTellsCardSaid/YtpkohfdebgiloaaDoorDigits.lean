/- Digits of natural numbers: plain facts, no program. -/
namespace Go.Proofs.YtpkohfdebgiloaaDoor

/-- The digit of D that stands at ten to k. -/
def dg (D k : Nat) : Int := ((D / 10 ^ k % 10 : Nat) : Int)

theorem dg_nonneg (D k : Nat) : 0 ≤ dg D k := Int.natCast_nonneg _
theorem dg_le (D k : Nat) : dg D k ≤ 9 := by unfold dg; have := Nat.mod_lt (D / 10 ^ k) (show 0 < 10 by decide); omega
theorem pow10_pos (k : Nat) : 0 < 10 ^ k := Nat.pow_pos (by decide)

theorem dg_shift_low (V p i : Nat) (h : i < p) : dg (V * 10 ^ p) i = 0 := by
  unfold dg
  obtain ⟨d, rfl⟩ : ∃ d, p = i + 1 + d := ⟨p - i - 1, by omega⟩
  have e : V * 10 ^ (i + 1 + d) = (V * 10 ^ d * 10) * 10 ^ i := by
    rw [Nat.pow_add, Nat.pow_succ]; ac_rfl
  rw [e, Nat.mul_div_cancel _ (pow10_pos i), Nat.mul_mod_left]; rfl

theorem dg_shift (V p K : Nat) (h : p ≤ K) : dg (V * 10 ^ p) K = ((V / 10 ^ (K - p) % 10 : Nat) : Int) := by
  unfold dg
  obtain ⟨d, rfl⟩ : ∃ d, K = p + d := ⟨K - p, by omega⟩
  rw [Nat.pow_add, Nat.add_sub_cancel_left, Nat.mul_comm V, Nat.mul_div_mul_left _ _ (pow10_pos p)]

theorem dg_zero (k : Nat) : dg 0 k = 0 := by simp [dg]
theorem dg_of_lt {D k : Nat} (h : D < 10 ^ k) : dg D k = 0 := by unfold dg; rw [Nat.div_eq_of_lt h]; rfl

theorem lt_of_rest {V p K : Nat} (hp : p ≤ K) (hb : V * 10 ^ p < 10 ^ 96) (h : V / 10 ^ (K - p) ≠ 0) : K < 96 := by
  have h1 : 10 ^ (K - p) ≤ V := by
    rcases Nat.lt_or_ge V (10 ^ (K - p)) with h2 | h2
    · exact absurd (Nat.div_eq_of_lt h2) h
    · exact h2
  have h2 : 10 ^ K ≤ V * 10 ^ p := by
    calc 10 ^ K = 10 ^ (K - p) * 10 ^ p := by rw [← Nat.pow_add]; congr 1; omega
      _ ≤ V * 10 ^ p := Nat.mul_le_mul_right _ h1
  exact (Nat.pow_lt_pow_iff_right (by decide : 1 < 10)).1 (Nat.lt_of_le_of_lt h2 hb)

theorem div_succ (V K p : Nat) (h : p ≤ K) : V / 10 ^ (K + 1 - p) = V / 10 ^ (K - p) / 10 := by
  rw [show K + 1 - p = (K - p) + 1 by omega, Nat.pow_succ, Nat.div_div_eq_div_mul]

/-- The digits below K alone. -/
def lowTo (D K : Nat) : Nat → Int := fun i => if i < K then dg D i else 0
theorem lowTo_start (V p : Nat) (i : Nat) : lowTo (V * 10 ^ p) p i = 0 := by
  unfold lowTo; split
  · exact dg_shift_low _ _ _ ‹_›
  · rfl
theorem lowTo_succ (D K : Nat) (i : Nat) : (if i = K then dg D K else lowTo D K i) = lowTo D (K + 1) i := by
  unfold lowTo
  by_cases h : i = K
  · subst h; simp
  · by_cases h2 : i < K
    · rw [if_neg h, if_pos h2, if_pos (by omega)]
    · rw [if_neg h, if_neg h2, if_neg (by omega)]
theorem lowTo_end {V p K : Nat} (hp : p ≤ K) (h : V / 10 ^ (K - p) = 0) (i : Nat) : lowTo (V * 10 ^ p) K i = dg (V * 10 ^ p) i := by
  unfold lowTo
  split
  · rfl
  · rename_i hi
    rw [dg_shift _ _ _ (by omega)]
    have : V / 10 ^ (i - p) = 0 := by
      obtain ⟨d, rfl⟩ : ∃ d, i = K + d := ⟨i - K, by omega⟩
      rw [show K + d - p = (K - p) + d by omega, Nat.pow_add, ← Nat.div_div_eq_div_mul, h, Nat.zero_div]
    rw [this]; rfl

/-! ### cutting, and adding one at a place -/
def cutTo (f : Nat → Int) (K : Nat) : Nat → Int := fun i => if i < K then 0 else f i
theorem carry_nine (D K : Nat) (h : dg D K = 9) : (D / 10 ^ K + 1) * 10 ^ K = (D / 10 ^ (K + 1) + 1) * 10 ^ (K + 1) := by
  unfold dg at h
  have e : D / 10 ^ (K + 1) = D / 10 ^ K / 10 := by rw [Nat.pow_succ, Nat.div_div_eq_div_mul]
  rw [e, Nat.pow_succ, Nat.mul_comm (10 ^ K) 10, ← Nat.mul_assoc]
  congr 1
  omega
theorem carry_lt {D K : Nat} (h : (D / 10 ^ K + 1) * 10 ^ K < 10 ^ 96) : K < 96 := by
  have : 10 ^ K ≤ (D / 10 ^ K + 1) * 10 ^ K := Nat.le_mul_of_pos_left _ (Nat.succ_pos _)
  exact (Nat.pow_lt_pow_iff_right (by decide : 1 < 10)).1 (Nat.lt_of_le_of_lt this h)
theorem dg_cut (D k i : Nat) : dg (D / 10 ^ k * 10 ^ k) i = cutTo (dg D) k i := by
  unfold cutTo
  split
  · exact dg_shift_low _ _ _ ‹_›
  · rename_i h
    rw [dg_shift _ _ _ (by omega)]
    unfold dg
    rw [Nat.div_div_eq_div_mul, ← Nat.pow_add, show k + (i - k) = i by omega]
theorem dg_carry (D K i : Nat) (h : dg D K ≠ 9) : dg ((D / 10 ^ K + 1) * 10 ^ K) i = if i = K then dg D K + 1 else cutTo (dg D) K i := by
  unfold cutTo
  by_cases h1 : i < K
  · rw [if_neg (by omega), if_pos h1]; exact dg_shift_low _ _ _ h1
  · rw [dg_shift _ _ _ (by omega), if_neg h1]
    unfold dg at h ⊢
    by_cases h2 : i = K
    · subst h2
      rw [if_pos rfl, Nat.sub_self, Nat.pow_zero, Nat.div_one]
      omega
    · rw [if_neg h2]
      obtain ⟨d, rfl⟩ : ∃ d, i = K + (d + 1) := ⟨i - K - 1, by omega⟩
      have e1 : D / 10 ^ (K + (d + 1)) = D / 10 ^ K / 10 / 10 ^ d := by rw [Nat.pow_add, Nat.pow_succ, Nat.mul_comm (10 ^ d) 10, Nat.div_div_eq_div_mul, Nat.div_div_eq_div_mul]
      have e2 : (D / 10 ^ K + 1) / 10 ^ (d + 1) = (D / 10 ^ K + 1) / 10 / 10 ^ d := by rw [Nat.pow_succ, Nat.mul_comm (10 ^ d) 10, Nat.div_div_eq_div_mul]
      have e3 : (D / 10 ^ K + 1) / 10 = D / 10 ^ K / 10 := by omega
      rw [show K + (d + 1) - K = d + 1 by omega, e1, e2, e3]

/-- One step of parting a two-word number by ten. -/
theorem step10 (H L N : Int) (h : H * 18446744073709551616 + L = N) (_h0 : 0 ≤ H) (l0 : 0 ≤ L) (l1 : L ≤ 18446744073709551615) :
    (H / 10) * 18446744073709551616 + (H % 10 * 18446744073709551616 + L) / 10 = N / 10 ∧ (H % 10 * 18446744073709551616 + L) % 10 = N % 10 ∧ 0 ≤ (H % 10 * 18446744073709551616 + L) / 10 ∧ (H % 10 * 18446744073709551616 + L) / 10 ≤ 18446744073709551615 := by
  subst h; omega
end Go.Proofs.YtpkohfdebgiloaaDoor
