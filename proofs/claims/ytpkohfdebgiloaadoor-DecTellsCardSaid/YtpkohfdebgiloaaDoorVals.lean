/- Decimals as whole numbers of parts of ten to 48: no program. -/
import Derived.Test.YtpkohfdebgiloaaDoorHalf
namespace Go.Proofs.YtpkohfdebgiloaaDoor

/-- What may be a decimal. -/
def RightP (p : Int × Int) : Prop := -999999999999999 ≤ p.1 ∧ p.1 ≤ 999999999999999 ∧ -9 ≤ p.2 ∧ p.2 ≤ 9 ∧ (p.1 = 0 ∧ p.2 = 0 ∨ p.1 ≠ 0 ∧ (p.1 % 10 ≠ 0 ∨ p.2 = 9))
/-- Its value. -/
def valZ (p : Int × Int) : Int := p.1 * (10 ^ (48 + p.2).toNat : Nat)
def sgn (s : Bool) (n : Nat) : Int := if s then -(n : Int) else n
theorem sgn_abs (s : Bool) (n : Nat) : (sgn s n).natAbs = n := by unfold sgn; cases s <;> simp
theorem p15 : (10 : Nat) ^ 15 = 1000000000000000 := by decide

theorem strip_spec : ∀ (n q : Nat) (e : Int), n = (9 - e).toNat → e ≤ 9 → 0 < q → q < 10 ^ 15 →
    0 < (strip n q e).1 ∧ (strip n q e).1 ≤ q ∧ e ≤ (strip n q e).2 ∧ (strip n q e).2 ≤ 9 ∧ ((strip n q e).1 % 10 ≠ 0 ∨ (strip n q e).2 = 9) ∧ (strip n q e).1 * 10 ^ ((strip n q e).2 - e).toNat = q
  | 0, q, e, hn, he, h0, h1 => by
    rw [strip]
    refine ⟨h0, Nat.le_refl _, Int.le_refl _, he, .inr (by show e = 9; omega), ?_⟩
    show q * 10 ^ (e - e).toNat = q
    rw [show (e - e).toNat = 0 by omega, Nat.pow_zero, Nat.mul_one]
  | n + 1, q, e, hn, he, h0, h1 => by
    rw [strip]
    by_cases c : q % 10 = 0 ∧ e < 9
    · rw [if_pos c]
      obtain ⟨a, b, d, f, g, h⟩ := strip_spec n (q / 10) (e + 1) (by omega) (by omega) (by omega) (by omega)
      refine ⟨a, by omega, by omega, f, g, ?_⟩
      rw [show ((strip n (q / 10) (e + 1)).2 - e).toNat = ((strip n (q / 10) (e + 1)).2 - (e + 1)).toNat + 1 by omega, Nat.pow_succ, ← Nat.mul_assoc, h]
      omega
    · rw [if_neg c]
      refine ⟨h0, Nat.le_refl _, Int.le_refl _, he, ?_, ?_⟩
      · show q % 10 ≠ 0 ∨ e = 9; omega
      · show q * 10 ^ (e - e).toNat = q
        rw [show (e - e).toNat = 0 by omega, Nat.pow_zero, Nat.mul_one]
theorem decOf_right (s : Bool) {q : Nat} {e : Int} (hq : q < 10 ^ 15) (e0 : -9 ≤ e) (e1 : e ≤ 9) : RightP (decOf s q e) := by
  unfold decOf
  by_cases c : q = 0
  · rw [if_pos c]; exact ⟨by decide, by decide, by decide, by decide, .inl ⟨rfl, rfl⟩⟩
  · rw [if_neg c]
    obtain ⟨a, b, d, f, g, _⟩ := strip_spec (9 - e).toNat q e rfl e1 (by omega) hq
    rw [p15] at hq
    generalize strip (9 - e).toNat q e = r at *
    unfold RightP
    cases s
    · simp only [Bool.false_eq_true, if_false]; omega
    · simp only [if_true]; omega
theorem decOf_val (s : Bool) {q : Nat} {e : Int} (hq : q < 10 ^ 15) (e0 : -9 ≤ e) (e1 : e ≤ 9) : valZ (decOf s q e) = sgn s (q * 10 ^ (48 + e).toNat) := by
  unfold decOf
  by_cases c : q = 0
  · subst c; rw [if_pos rfl, Nat.zero_mul]; cases s <;> rfl
  · rw [if_neg c]
    obtain ⟨a, b, d, f, g, h⟩ := strip_spec (9 - e).toNat q e rfl e1 (by omega) hq
    have h2 : (strip (9 - e).toNat q e).1 * 10 ^ (48 + (strip (9 - e).toNat q e).2).toNat = q * 10 ^ (48 + e).toNat := by
      rw [show (48 + (strip (9 - e).toNat q e).2).toNat = ((strip (9 - e).toNat q e).2 - e).toNat + (48 + e).toNat by omega, Nat.pow_add, ← Nat.mul_assoc, h]
    unfold valZ sgn
    cases s
    · simp only [Bool.false_eq_true, if_false]; rw [← h2, Int.natCast_mul]
    · simp only [if_true]; rw [← h2, Int.natCast_mul, Int.neg_mul]
/-- The nearest decimal of a signed number of parts. -/
def nearZ (z : Int) : (Int × Int) × Int := near (decide (z < 0)) z.natAbs false
theorem decOf_id {p : Int × Int} (h : RightP p) : decOf (decide (p.1 < 0)) p.1.natAbs p.2 = p := by
  obtain ⟨M, E⟩ := p
  obtain ⟨h1, h2, h3, h4, h5⟩ := h
  simp only at h1 h2 h3 h4 h5 ⊢
  unfold decOf
  by_cases c : M = 0
  · subst c; rw [if_pos (show Int.natAbs 0 = 0 from rfl)]; rcases h5 with h | h
    · rw [h.2]
    · exact absurd rfl h.1
  · rw [if_neg (by omega), strip_stop (by rcases h5 with h | h <;> omega)]
    by_cases c2 : M < 0
    · simp only [c2, decide_true, if_true]; rw [show -((M.natAbs : Nat) : Int) = M by omega]
    · simp only [c2, decide_false, Bool.false_eq_true, if_false]; rw [show ((M.natAbs : Nat) : Int) = M by omega]
theorem valZ_abs (p : Int × Int) : (valZ p).natAbs = p.1.natAbs * 10 ^ (48 + p.2).toNat := by unfold valZ; rw [Int.natAbs_mul, Int.natAbs_natCast]
theorem valZ_neg (p : Int × Int) : valZ p < 0 ↔ p.1 < 0 := by
  unfold valZ
  have hp := pow10_pos (48 + p.2).toNat
  constructor
  · intro h
    refine Classical.byContradiction fun h2 => ?_
    have : 0 ≤ p.1 * ((10 ^ (48 + p.2).toNat : Nat) : Int) := Int.mul_nonneg (by omega) (by omega)
    omega
  · intro h; exact Int.mul_neg_of_neg_of_pos h (by omega)
/-- A right decimal's own nearest one is itself. -/
theorem nearZ_val {p : Int × Int} (h : RightP p) : nearZ (valZ p) = (p, 0) := by
  unfold nearZ
  have hq : p.1.natAbs < 10 ^ 15 := by rw [p15]; have := h.1; have := h.2.1; omega
  rw [near_exact _ hq h.2.2.1 h.2.2.2.1 (valZ_abs p), show decide (valZ p < 0) = decide (p.1 < 0) from decide_eq_decide.2 (valZ_neg p), decOf_id h]
theorem val_inj {p p' : Int × Int} (h : RightP p) (h' : RightP p') (hv : valZ p = valZ p') : p = p' := by
  have a := nearZ_val h
  rw [hv, nearZ_val h'] at a
  exact (Prod.mk.inj a).1.symm
/-- The search, said whole. -/
theorem near_ok {s : Bool} {D : Nat} {p : Int × Int} (h : near s D false = (p, 0)) : ∃ e : Int, -9 ≤ e ∧ e ≤ 9 ∧ rhe D (10 ^ (48 + e).toNat) < 10 ^ 15 ∧ (∀ i : Int, -9 ≤ i → i < e → ¬ rhe D (10 ^ (48 + i).toNat) < 10 ^ 15) ∧ p = decOf s (rhe D (10 ^ (48 + e).toNat)) e := by
  rw [near_Q1] at h
  obtain ⟨j, h1, h2, h3, h4⟩ := nearQ_ok s D 1 19 (-9) p h
  rw [Nat.one_mul] at h2 h4
  refine ⟨-9 + j, by omega, by omega, h2, fun i hi hlt => ?_, h4⟩
  have := h3 (i + 9).toNat (by omega)
  rw [Nat.one_mul, show -9 + (((i + 9).toNat : Nat) : Int) = i by omega] at this
  exact this
theorem near_err {s : Bool} {D : Nat} (h : (near s D false).2 ≠ 0) : near s D false = ((0, 0), 10) ∧ ∀ i : Int, -9 ≤ i → i ≤ 9 → ¬ rhe D (10 ^ (48 + i).toNat) < 10 ^ 15 := by
  rw [near_Q1] at h ⊢
  obtain ⟨h1, h2⟩ := nearQ_no s D 1 19 (-9) h
  refine ⟨h1, fun i hi hlt => ?_⟩
  have := h2 (i + 9).toNat (by omega)
  rw [Nat.one_mul, show -9 + (((i + 9).toNat : Nat) : Int) = i by omega] at this
  exact this
theorem near_two (s : Bool) (D : Nat) : (near s D false).2 = 0 ∨ near s D false = ((0, 0), 10) := by
  rw [near_Q1]; exact nearQ_err _ _ _ _ _
theorem near_right {s : Bool} {D : Nat} {p : Int × Int} (h : near s D false = (p, 0)) : RightP p := by
  obtain ⟨e, h1, h2, h3, _, rfl⟩ := near_ok h
  exact decOf_right s h3 h1 h2
theorem near_zero_sign (s s' : Bool) : near s 0 false = near s' 0 false := by
  have h (s : Bool) := near_exact s (D := 0) (q := 0) (E := 0) (by decide) (by decide) (by decide) (by simp)
  rw [h s, h s']; rfl
/-- Turned about. -/
def negP (r : (Int × Int) × Int) : (Int × Int) × Int := ((-r.1.1, r.1.2), r.2)
theorem decOf_neg (s : Bool) (q : Nat) (e : Int) : decOf (!s) q e = (-(decOf s q e).1, (decOf s q e).2) := by
  unfold decOf
  split
  · rfl
  · cases s <;> simp
theorem nearQ_neg (s : Bool) (N B : Nat) : ∀ (n : Nat) (e : Int), nearQ (!s) N B n e = negP (nearQ s N B n e)
  | 0, _ => rfl
  | n + 1, e => by
    rw [nearQ, nearQ, decOf_neg]
    split
    · rfl
    · exact nearQ_neg s N B n (e + 1)
theorem near_neg (s : Bool) (D : Nat) : near (!s) D false = negP (near s D false) := by
  rw [near_Q1, near_Q1, nearQ_neg]
theorem nearZ_neg (z : Int) : nearZ (-z) = negP (nearZ z) := by
  unfold nearZ
  rw [Int.natAbs_neg]
  by_cases h : z = 0
  · subst h
    rw [show decide (-(0 : Int) < 0) = false from rfl, show decide ((0 : Int) < 0) = false from rfl]
    rw [show (0 : Int).natAbs = 0 from rfl, ← near_neg]
    exact near_zero_sign _ _
  · rw [← near_neg]
    congr 1
    rw [Bool.eq_iff_iff]; simp; omega
theorem nearZ_sgn (s : Bool) (D : Nat) : nearZ (sgn s D) = near s D false := by
  unfold nearZ sgn
  by_cases h : D = 0
  · subst h; cases s <;> simp <;> exact near_zero_sign _ _
  · cases s
    · simp only [Bool.false_eq_true, if_false, Int.natAbs_natCast]
      rw [show decide ((D : Int) < 0) = false by rw [decide_eq_false_iff_not]; omega]
    · simp only [if_true, Int.natAbs_neg, Int.natAbs_natCast]
      rw [show decide (-(D : Int) < 0) = true by rw [decide_eq_true_eq]; omega]
theorem plusD_sgn (s : Bool) (D : Nat) (s' : Bool) (D' : Nat) : sgn (plusD s D s' D').1 (plusD s D s' D').2 = sgn s D + sgn s' D' := by
  unfold plusD sgn
  by_cases h : s = s'
  · rw [if_pos h]; subst h; cases s <;> simp <;> omega
  · rw [if_neg h]
    by_cases h2 : D < D'
    · rw [if_pos h2]; cases s <;> cases s' <;> simp at h ⊢ <;> omega
    · rw [if_neg h2]; cases s <;> cases s' <;> simp at h ⊢ <;> omega
/-- What is at most a decimal's value is rounded to at most that. -/
theorem near_mono {s : Bool} {D q : Nat} {E : Int} (hq : q < 10 ^ 15) (e0 : -9 ≤ E) (e1 : E ≤ 9) (hD : D ≤ q * 10 ^ (48 + E).toNat) :
    ∃ p, near s D false = (p, 0) ∧ (valZ p).natAbs ≤ q * 10 ^ (48 + E).toNat := by
  have hE : rhe D (10 ^ (48 + E).toNat) ≤ q := rhe_le (pow10_pos _) hD
  rcases near_two s D with h | h
  · obtain ⟨p, c⟩ : ∃ p, near s D false = (p, 0) := ⟨(near s D false).1, Prod.ext rfl h⟩
    refine ⟨p, c, ?_⟩
    obtain ⟨e, h1, h2, h3, h4, rfl⟩ := near_ok c
    have he : e ≤ E := by
      refine Classical.byContradiction fun hc => ?_
      exact h4 E e0 (by omega) (by omega)
    rw [decOf_val s h3 h1 h2]
    have : (sgn s (rhe D (10 ^ (48 + e).toNat) * 10 ^ (48 + e).toNat)).natAbs = rhe D (10 ^ (48 + e).toNat) * 10 ^ (48 + e).toNat := by
      exact sgn_abs _ _
    rw [this]
    have e2 : q * 10 ^ (48 + E).toNat = q * 10 ^ (E - e).toNat * 10 ^ (48 + e).toNat := by
      rw [Nat.mul_assoc, ← Nat.pow_add]; congr 2; omega
    rw [e2] at hD ⊢
    exact Nat.mul_le_mul_right _ (rhe_le (pow10_pos _) hD)
  · have := (near_err (s := s) (D := D) (by rw [h]; decide)).2 E e0 e1
    omega
end Go.Proofs.YtpkohfdebgiloaaDoor
