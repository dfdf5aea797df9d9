/- What decimals come to, as plain functions of numbers: no program. -/
import Derived.Test.YtpkohfdebgiloaaDoorDigits
namespace Go.Proofs.YtpkohfdebgiloaaDoor

/-- Noughts behind are taken off, as far as the exponent may rise. -/
def strip : Nat → Nat → Int → Nat × Int
  | 0, M, E => (M, E)
  | n + 1, M, E => if M % 10 = 0 ∧ E < 9 then strip n (M / 10) (E + 1) else (M, E)

/-- The decimal that is M times ten to E, with a sign. -/
def decOf (s : Bool) (M : Nat) (E : Int) : Int × Int :=
  if M = 0 then (0, 0) else
  let r := strip (9 - E).toNat M E
  (if s then -(r.1 : Int) else (r.1 : Int), r.2)

theorem strip_step {n M : Nat} {E : Int} (h : M % 10 = 0) (hE : E < 9) (hn : n = (9 - E).toNat) : strip n M E = strip (n - 1) (M / 10) (E + 1) := by
  obtain ⟨m, rfl⟩ : ∃ m, n = m + 1 := ⟨n - 1, by omega⟩
  rw [strip, if_pos ⟨h, hE⟩]; rfl
theorem strip_stop {n M : Nat} {E : Int} (h : ¬ (M % 10 = 0 ∧ E < 9)) : strip n M E = (M, E) := by
  cases n with
  | zero => rfl
  | succ n => rw [strip, if_neg h]

theorem div_take (D i : Nat) : 10 * ((D / 10 ^ (i + 1) : Nat) : Int) + dg D i = ((D / 10 ^ i : Nat) : Int) := by
  unfold dg
  have e : D / 10 ^ (i + 1) = D / 10 ^ i / 10 := by rw [Nat.pow_succ, Nat.div_div_eq_div_mul]
  rw [e]; omega

/-! ### the nearest decimal -/
def lowB (f : Nat → Int) (K : Nat) : Bool := (List.range K).any fun i => f i != 0
theorem lowB_succ (f : Nat → Int) (K : Nat) : lowB f (K + 1) = (lowB f K || f K != 0) := by simp [lowB, List.range_succ]
def restF (a : Int) (M : Bool) : Int := if M then (if a < 5 then -1 else 1) else if a = 0 then -2 else if a < 5 then -1 else if a = 5 then 0 else 1
theorem restF_t (a : Int) : restF a true = if a < 5 then -1 else 1 := rfl
theorem restF_f (a : Int) : restF a false = if a = 0 then -2 else if a < 5 then -1 else if a = 5 then 0 else 1 := rfl
/-- How what stands below a place is against a half of it. -/
def restD (D : Nat) (m : Bool) (k : Nat) : Int := restF (dg D (k - 1)) (m || lowB (dg D) (k - 1))
/-- Is one added at a place? -/
def upB (D : Nat) (m : Bool) (k : Nat) : Bool := restD D m k == 1 || (restD D m k == 0 && dg D k % 2 == 1)
/-- What stands at a place and above, rounded. -/
def quo (D : Nat) (m : Bool) (k : Nat) : Nat := D / 10 ^ k + (if upB D m k then 1 else 0)
def nearF (s : Bool) (D : Nat) (m : Bool) : Nat → Int → (Int × Int) × Int
  | 0, _ => ((0, 0), 10)
  | n + 1, e => if quo D m (48 + e).toNat < 10 ^ 15 then (decOf s (quo D m (48 + e).toNat) e, 0) else nearF s D m n (e + 1)
/-- The nearest decimal, and the error's number. -/
def near (s : Bool) (D : Nat) (m : Bool) : (Int × Int) × Int := nearF s D m 19 (-9)

theorem top_exists : ∀ (n D : Nat), D < 10 ^ n → ∃ t : Int, -1 ≤ t ∧ t < n ∧ D < 10 ^ (t + 1).toNat ∧ (0 ≤ t → 10 ^ t.toNat ≤ D)
  | 0, D, h => ⟨-1, by omega, by omega, by simpa using h, by omega⟩
  | n + 1, D, h => by
    by_cases c : D < 10 ^ n
    · obtain ⟨t, h1, h2, h3, h4⟩ := top_exists n D c
      exact ⟨t, h1, by omega, h3, h4⟩
    · exact ⟨n, by omega, by omega, by rw [show ((n : Int) + 1).toNat = n + 1 by omega]; exact h, fun _ => by rw [Int.toNat_natCast]; omega⟩
theorem top_hi {D : Nat} {t : Int} (h : D < 10 ^ (t + 1).toNat) (k : Nat) (hk : t < (k : Int)) : dg D k = 0 :=
  dg_of_lt (Nat.lt_of_lt_of_le h (Nat.pow_le_pow_right (by decide) (by omega)))
theorem top_at {D : Nat} {t : Int} (h : D < 10 ^ (t + 1).toNat) (h2 : 0 ≤ t → 10 ^ t.toNat ≤ D) (k : Nat) (hk : (k : Int) = t) : dg D k ≠ 0 := by
  have h3 := h2 (by omega)
  rw [show t.toNat = k by omega] at h3
  rw [show (t + 1).toNat = k + 1 by omega, Nat.pow_succ] at h
  have h4 : 1 ≤ D / 10 ^ k := (Nat.le_div_iff_mul_le (pow10_pos k)).2 (by omega)
  have h5 : D / 10 ^ k < 10 := Nat.div_lt_of_lt_mul (by omega)
  unfold dg
  omega
theorem top_lt {q k : Nat} {t : Int} (h : q * 10 ^ k < 10 ^ (t + 1).toNat) (h2 : 0 ≤ t → 10 ^ t.toNat ≤ q * 10 ^ k) : t < (k : Int) + 15 ↔ q < 10 ^ 15 := by
  constructor
  · intro h3
    have h4 : q * 10 ^ k < 10 ^ 15 * 10 ^ k := by
      rw [← Nat.pow_add]; exact Nat.lt_of_lt_of_le h (Nat.pow_le_pow_right (by decide) (by omega))
    exact Nat.lt_of_mul_lt_mul_right h4
  · intro h3
    refine Classical.byContradiction fun h4 => ?_
    have h5 := h2 (by omega)
    have h6 : 10 ^ (15 + k) ≤ q * 10 ^ k := Nat.le_trans (Nat.pow_le_pow_right (by decide) (by omega)) h5
    rw [Nat.pow_add] at h6
    have := Nat.le_of_mul_le_mul_right h6 (pow10_pos k)
    omega
theorem quo_lt {D : Nat} (m : Bool) {k : Nat} (hD : D + 10 ^ 57 < 10 ^ 96) (hk : k ≤ 57) : quo D m k * 10 ^ k < 10 ^ 96 := by
  have h1 : quo D m k * 10 ^ k ≤ (D / 10 ^ k + 1) * 10 ^ k := Nat.mul_le_mul_right _ (by unfold quo; split <;> omega)
  have h2 : (D / 10 ^ k + 1) * 10 ^ k ≤ D + 10 ^ k := by rw [Nat.add_mul, Nat.one_mul]; exact Nat.add_le_add_right (Nat.div_mul_le_self _ _) _
  have h3 : 10 ^ k ≤ 10 ^ 57 := Nat.pow_le_pow_right (by decide) hk
  omega
end Go.Proofs.YtpkohfdebgiloaaDoor
