/- Rounding to a whole number, half to even; the nearest decimal by it: no program. -/
import Derived.Test.YtpkohfdebgiloaaDoorSums
namespace Go.Proofs.YtpkohfdebgiloaaDoor

/-- N by U, rounded half to even. -/
def rhe (N U : Nat) : Nat := N / U + (if U < 2 * (N % U) ∨ (2 * (N % U) = U ∧ N / U % 2 = 1) then 1 else 0)

theorem rhe_scale {c N U : Nat} (hc : 0 < c) (_hU : 0 < U) : rhe (c * N) (c * U) = rhe N U := by
  unfold rhe
  rw [Nat.mul_div_mul_left _ _ hc, Nat.mul_mod_mul_left]
  have h1 : (c * U < 2 * (c * (N % U))) ↔ U < 2 * (N % U) := by
    rw [Nat.mul_left_comm]; exact Nat.mul_lt_mul_left hc
  have h2 : (2 * (c * (N % U)) = c * U) ↔ 2 * (N % U) = U := by
    rw [Nat.mul_left_comm]; exact ⟨fun h => Nat.eq_of_mul_eq_mul_left hc h, fun h => by rw [h]⟩
  simp only [h1, h2]
theorem rhe_mul {q U : Nat} (hU : 0 < U) : rhe (q * U) U = q := by
  unfold rhe
  rw [Nat.mul_mod_left, Nat.mul_div_cancel _ hU, if_neg (by omega)]; rfl
theorem rhe_bound {N U : Nat} (hU : 0 < U) : 2 * (rhe N U * U) ≤ 2 * N + U ∧ 2 * N ≤ 2 * (rhe N U * U) + U := by
  have h := Nat.div_add_mod N U
  have hm := Nat.mod_lt N hU
  rw [Nat.mul_comm] at h
  unfold rhe
  rw [Nat.add_mul]
  generalize N / U * U = A at *
  generalize N % U = r at *
  split
  · rw [Nat.one_mul]; omega
  · rw [Nat.zero_mul]; omega
theorem rhe_ge {q N U : Nat} (hU : 0 < U) (h : q * U ≤ N) : q ≤ rhe N U := by
  have : q ≤ N / U := (Nat.le_div_iff_mul_le hU).2 h
  unfold rhe; omega
theorem rhe_le {q N U : Nat} (hU : 0 < U) (h : N ≤ q * U) : rhe N U ≤ q := by
  by_cases e : N = q * U
  · rw [e, rhe_mul hU]; exact Nat.le_refl _
  · have : N / U < q := (Nat.div_lt_iff_lt_mul hU).2 (by omega)
    unfold rhe
    split <;> omega
theorem rhe_mono {N N' U : Nat} (_hU : 0 < U) (h : N ≤ N') : rhe N U ≤ rhe N' U := by
  have h1 : N / U ≤ N' / U := Nat.div_le_div_right h
  by_cases e : N / U = N' / U
  · unfold rhe
    have a := Nat.div_add_mod N U
    have b := Nat.div_add_mod N' U
    rw [← e] at b ⊢
    have : N % U ≤ N' % U := by omega
    split
    · rw [if_pos (by omega)]; exact Nat.le_refl _
    · omega
  · unfold rhe
    split <;> omega

/-! ### the digits' rounding is that -/
theorem lowB_mod (D : Nat) : ∀ j, lowB (dg D) j = decide (D % 10 ^ j ≠ 0)
  | 0 => by simp [lowB, Nat.mod_one]
  | j + 1 => by
    rw [lowB_succ, lowB_mod D j, mod_succ]
    have hP := pow10_pos j
    by_cases h : D % 10 ^ j = 0
    · rw [h]
      unfold dg
      by_cases h2 : D / 10 ^ j % 10 = 0
      · simp [h2]
      · have : D / 10 ^ j % 10 * 10 ^ j ≠ 0 := Nat.mul_ne_zero h2 (by omega)
        have h3 : ((D / 10 ^ j % 10 : Nat) : Int) ≠ 0 := by omega
        rw [show decide ((0 : Nat) ≠ 0) = false from rfl, Bool.false_or, Bool.eq_iff_iff]
        simp only [bne_iff_ne, decide_eq_true_eq]
        exact ⟨fun _ => by rw [Nat.add_zero]; exact this, fun _ => h3⟩
    · simp [h]
/-- How a rest stands against the half. -/
def halfC (r U : Nat) (m : Bool) : Int := if m = true then (if 2 * r < U then -1 else 1) else if r = 0 then -2 else if 2 * r < U then -1 else if 2 * r = U then 0 else 1
theorem restD_half (D : Nat) (m : Bool) {k : Nat} (hk : 1 ≤ k) : restD D m k = halfC (D % 10 ^ k) (10 ^ k) m := by
  obtain ⟨j, rfl⟩ : ∃ j, k = j + 1 := ⟨k - 1, by omega⟩
  unfold restD halfC
  rw [Nat.add_sub_cancel, lowB_mod, mod_succ]
  have hP := pow10_pos j
  have hb := Nat.mod_lt D hP
  have ha := Nat.mod_lt (D / 10 ^ j) (show 0 < 10 by decide)
  have e10 : 10 ^ (j + 1) = 10 * 10 ^ j := by rw [Nat.pow_succ, Nat.mul_comm]
  rw [e10]
  unfold dg restF
  generalize D / 10 ^ j % 10 = a at *
  generalize D % 10 ^ j = b at *
  generalize 10 ^ j = P at *
  have h4 : a < 5 → a * P ≤ 4 * P := fun h => Nat.mul_le_mul_right _ (by omega)
  have h5 : 5 ≤ a → 5 * P ≤ a * P := fun h => Nat.mul_le_mul_right _ h
  have h6 : 6 ≤ a → 6 * P ≤ a * P := fun h => Nat.mul_le_mul_right _ h
  have h1 : 1 ≤ a → 1 * P ≤ a * P := fun h => Nat.mul_le_mul_right _ h
  have h0 : a = 0 → a * P = 0 := fun h => by rw [h, Nat.zero_mul]
  have h55 : a = 5 → a * P = 5 * P := fun h => by rw [h]
  generalize a * P = Q at *
  cases m
  · by_cases hb0 : b = 0
    · simp only [hb0, ne_eq, not_true, decide_false, Bool.or_false, Bool.false_eq_true, if_false]
      repeat' split
      all_goals omega
    · simp only [hb0, ne_eq, not_false_eq_true, decide_true, Bool.or_true, if_true, Bool.false_eq_true, if_false]
      repeat' split
      all_goals omega
  · simp only [Bool.true_or, if_true]
    repeat' split
    all_goals omega
theorem upB_half (D : Nat) (m : Bool) {k : Nat} (hk : 1 ≤ k) : upB D m k = decide (10 ^ k < 2 * (D % 10 ^ k) ∨ (2 * (D % 10 ^ k) = 10 ^ k ∧ (m = true ∨ D / 10 ^ k % 2 = 1))) := by
  unfold upB
  rw [restD_half D m hk]
  have hd : (dg D k % 2 == 1) = decide (D / 10 ^ k % 2 = 1) := by
    unfold dg
    generalize D / 10 ^ k = x
    rw [Bool.eq_iff_iff]; simp; omega
  rw [hd]
  have hU := pow10_pos k
  unfold halfC
  generalize D / 10 ^ k % 2 = o
  generalize D % 10 ^ k = r
  generalize 10 ^ k = U at *
  rw [Bool.eq_iff_iff]
  cases m <;> simp only [Bool.or_eq_true, Bool.and_eq_true, beq_iff_eq, decide_eq_true_eq, Bool.false_eq_true, if_false, if_true, false_or, true_or, and_true] <;> (repeat' split) <;> simp <;> omega
theorem quo_rhe (N B : Nat) (hB : 0 < B) {k : Nat} (hk : 1 ≤ k) : quo (N / B) (decide (N % B ≠ 0)) k = rhe N (B * 10 ^ k) := by
  unfold quo rhe
  rw [upB_half _ _ hk, Nat.div_div_eq_div_mul]
  have hP := pow10_pos k
  have e : N % (B * 10 ^ k) = N % B + B * (N / B % 10 ^ k) := Nat.mod_mul
  rw [e]
  have hev : 10 ^ k % 2 = 0 := by
    obtain ⟨j, rfl⟩ : ∃ j, k = j + 1 := ⟨k - 1, by omega⟩
    rw [Nat.pow_succ]; omega
  have hb := Nat.mod_lt N hB
  generalize N / (B * 10 ^ k) = q
  generalize N / B % 10 ^ k = r at *
  generalize N % B = b at *
  generalize 10 ^ k = U at *
  congr 1
  have lt : 2 * r < U → 2 * (b + B * r) < B * U := fun h => by
    have : B * (2 * r + 2) ≤ B * U := Nat.mul_le_mul_left _ (by omega)
    have e2 : B * (2 * r + 2) = 2 * (B * r) + 2 * B := by rw [Nat.mul_add, Nat.mul_left_comm, Nat.mul_comm B 2]
    omega
  have eq : 2 * r = U → B * U = 2 * (B * r) := fun h => by rw [← h, Nat.mul_left_comm]
  have gt : U < 2 * r → B * U < 2 * (b + B * r) := fun h => by
    have h1 : B * (U + 1) ≤ B * (2 * r) := Nat.mul_le_mul_left _ h
    rw [Nat.mul_left_comm B 2 r, Nat.mul_add] at h1
    omega
  have hiff : (U < 2 * r ∨ (2 * r = U ∧ (decide (b ≠ 0) = true ∨ q % 2 = 1))) ↔ (B * U < 2 * (b + B * r) ∨ (2 * (b + B * r) = B * U ∧ q % 2 = 1)) := by
    rw [decide_eq_true_eq]
    generalize B * r = X at *
    generalize B * U = Y at *
    rcases Nat.lt_trichotomy (2 * r) U with h | h | h
    · have := lt h; omega
    · have := eq h; omega
    · have := gt h; omega
  by_cases c : (U < 2 * r ∨ (2 * r = U ∧ (decide (b ≠ 0) = true ∨ q % 2 = 1)))
  · rw [if_pos (by simpa using c), if_pos (hiff.1 c)]
  · rw [if_neg (by simpa using c), if_neg (fun h => c (hiff.2 h))]
theorem quo_rhe1 (D : Nat) {k : Nat} (hk : 1 ≤ k) : quo D false k = rhe D (10 ^ k) := by
  have := quo_rhe D 1 (by decide) hk
  rw [Nat.div_one, Nat.mod_one, Nat.one_mul] at this
  exact this

/-! ### the search -/
/-- The nearest decimal of N by B (in parts of ten to 48), from an exponent on. -/
def nearQ (s : Bool) (N B : Nat) : Nat → Int → (Int × Int) × Int
  | 0, _ => ((0, 0), 10)
  | n + 1, e => if rhe N (B * 10 ^ (48 + e).toNat) < 10 ^ 15 then (decOf s (rhe N (B * 10 ^ (48 + e).toNat)) e, 0) else nearQ s N B n (e + 1)
theorem nearF_Q (s : Bool) (N B : Nat) (hB : 0 < B) : ∀ (n : Nat) (e : Int), -9 ≤ e → nearF s (N / B) (decide (N % B ≠ 0)) n e = nearQ s N B n e
  | 0, _, _ => rfl
  | n + 1, e, he => by
    rw [nearF, nearQ, quo_rhe N B hB (by omega), nearF_Q s N B hB n (e + 1) (by omega)]
theorem near_Q (s : Bool) (N B : Nat) (hB : 0 < B) : near s (N / B) (decide (N % B ≠ 0)) = nearQ s N B 19 (-9) := nearF_Q s N B hB 19 (-9) (by omega)
theorem near_Q1 (s : Bool) (D : Nat) : near s D false = nearQ s D 1 19 (-9) := by
  have := near_Q s D 1 (by decide)
  rw [Nat.div_one, Nat.mod_one] at this
  exact this

theorem decOf_ten (s : Bool) (q : Nat) {e : Int} (he : e < 9) : decOf s (q * 10) e = decOf s q (e + 1) := by
  unfold decOf
  by_cases h : q = 0
  · subst h; rfl
  · rw [if_neg (by omega), if_neg h, strip_step (by omega) he rfl, Nat.mul_div_cancel _ (by decide), show (9 - e).toNat - 1 = (9 - (e + 1)).toNat by omega]
theorem decOf_tens (s : Bool) (q : Nat) : ∀ (j : Nat) {e : Int}, e + j ≤ 9 → decOf s (q * 10 ^ j) e = decOf s q (e + j)
  | 0, e, _ => by rw [Nat.pow_zero, Nat.mul_one]; congr 1; omega
  | j + 1, e, he => by
    rw [Nat.pow_succ, ← Nat.mul_assoc, decOf_ten s _ (by omega), decOf_tens s q j (by omega)]
    congr 1; omega
theorem rhe_exact {N B q k j : Nat} (hB : 0 < B) (hN : N = B * (q * 10 ^ (k + j))) : rhe N (B * 10 ^ k) = q * 10 ^ j := by
  have : N = (q * 10 ^ j) * (B * 10 ^ k) := by rw [hN, Nat.pow_add]; ac_rfl
  rw [this, rhe_mul (Nat.mul_pos hB (pow10_pos k))]
theorem nearQ_exact (s : Bool) {N B q : Nat} {E : Int} (hB : 0 < B) (hq : q < 10 ^ 15) (hE : E ≤ 9) (hN : N = B * (q * 10 ^ (48 + E).toNat)) :
    ∀ (j : Nat), -9 ≤ E - j → nearQ s N B (10 - (E - j)).toNat (E - j) = (decOf s q E, 0)
  | 0, h0 => by
    rw [show (10 - (E - (0 : Nat))).toNat = (9 - E).toNat + 1 by omega, nearQ]
    have e1 : rhe N (B * 10 ^ (48 + (E - (0 : Nat))).toNat) = q := by
      have := rhe_exact (N := N) (k := (48 + (E - (0 : Nat))).toNat) (j := 0) (q := q) hB (by rw [hN]; congr 3; omega)
      rw [this, Nat.pow_zero, Nat.mul_one]
    rw [e1, if_pos hq]
    congr 2; omega
  | j + 1, h0 => by
    rw [show (10 - (E - (j + 1 : Nat))).toNat = (10 - (E - j)).toNat + 1 by omega, nearQ]
    have e1 : rhe N (B * 10 ^ (48 + (E - (j + 1 : Nat))).toNat) = q * 10 ^ (j + 1) := rhe_exact hB (by rw [hN]; congr 3; omega)
    rw [e1]
    split
    · rw [decOf_tens s q (j + 1) (by omega)]; congr 2; omega
    · rw [show E - ((j + 1 : Nat) : Int) + 1 = E - j by omega]
      exact nearQ_exact s hB hq hE hN j (by omega)
theorem near_exact (s : Bool) {D q : Nat} {E : Int} (hq : q < 10 ^ 15) (e0 : -9 ≤ E) (hE : E ≤ 9) (hN : D = q * 10 ^ (48 + E).toNat) : near s D false = (decOf s q E, 0) := by
  rw [near_Q1]
  have := nearQ_exact s (N := D) (B := 1) (by decide) hq hE (by rw [hN, Nat.one_mul]) (E + 9).toNat (by omega)
  rw [show E - ((E + 9).toNat : Int) = -9 by omega] at this
  exact this
/-- What the nearest decimal is, if there is one. -/
theorem nearQ_ok (s : Bool) (N B : Nat) : ∀ (n : Nat) (e : Int) (p : Int × Int), nearQ s N B n e = (p, 0) → ∃ j : Nat, j < n ∧ rhe N (B * 10 ^ (48 + (e + j)).toNat) < 10 ^ 15 ∧ (∀ i : Nat, i < j → ¬ rhe N (B * 10 ^ (48 + (e + i)).toNat) < 10 ^ 15) ∧ p = decOf s (rhe N (B * 10 ^ (48 + (e + j)).toNat)) (e + j)
  | 0, e, p, h => by simp [nearQ] at h
  | n + 1, e, p, h => by
    rw [nearQ] at h
    split at h
    · rename_i hc
      refine ⟨0, by omega, by rw [show e + ((0 : Nat) : Int) = e by omega]; exact hc, fun i hi => absurd hi (by omega), ?_⟩
      rw [show e + ((0 : Nat) : Int) = e by omega]
      exact ((Prod.mk.inj h).1).symm
    · rename_i hc
      obtain ⟨j, h1, h2, h3, h4⟩ := nearQ_ok s N B n (e + 1) p h
      refine ⟨j + 1, by omega, by rw [show e + ((j + 1 : Nat) : Int) = e + 1 + j by omega]; exact h2, fun i hi => ?_, by rw [show e + ((j + 1 : Nat) : Int) = e + 1 + j by omega]; exact h4⟩
      cases i with
      | zero => rw [show e + ((0 : Nat) : Int) = e by omega]; exact hc
      | succ i => rw [show e + ((i + 1 : Nat) : Int) = e + 1 + i by omega]; exact h3 i (by omega)
theorem nearQ_no (s : Bool) (N B : Nat) : ∀ (n : Nat) (e : Int), (nearQ s N B n e).2 ≠ 0 → nearQ s N B n e = ((0, 0), 10) ∧ ∀ i : Nat, i < n → ¬ rhe N (B * 10 ^ (48 + (e + i)).toNat) < 10 ^ 15
  | 0, e, h => ⟨rfl, fun i hi => absurd hi (by omega)⟩
  | n + 1, e, h => by
    rw [nearQ] at h ⊢
    split at h
    · exact absurd rfl h
    · rename_i hc
      obtain ⟨h1, h2⟩ := nearQ_no s N B n (e + 1) h
      refine ⟨by rw [if_neg hc]; exact h1, fun i hi => ?_⟩
      cases i with
      | zero => rw [show e + ((0 : Nat) : Int) = e by omega]; exact hc
      | succ i => rw [show e + ((i + 1 : Nat) : Int) = e + 1 + i by omega]; exact h2 i (by omega)
theorem nearQ_err (s : Bool) (N B : Nat) : ∀ (n : Nat) (e : Int), (nearQ s N B n e).2 = 0 ∨ nearQ s N B n e = ((0, 0), 10)
  | 0, e => .inr rfl
  | n + 1, e => by
    rw [nearQ]; split
    · exact .inl rfl
    · exact nearQ_err s N B n (e + 1)
end Go.Proofs.YtpkohfdebgiloaaDoor
