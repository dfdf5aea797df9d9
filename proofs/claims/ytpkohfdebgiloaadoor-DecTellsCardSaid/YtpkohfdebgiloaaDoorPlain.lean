/- Sums, differences, products and quotients of right decimals as the nearest decimals of whole numbers of parts. -/
import Derived.Test.YtpkohfdebgiloaaDoorExs
namespace Go.Proofs.YtpkohfdebgiloaaDoor

theorem sgn_lay (M E : Int) : sgn (decide (M < 0)) (layD M E) = valZ (M, E) := by
  unfold sgn layD valZ
  by_cases h : M < 0
  · simp only [h, decide_true, if_true]
    rw [Int.natCast_mul, ← Int.neg_mul]; congr 1; omega
  · simp only [h, decide_false, Bool.false_eq_true, if_false]
    rw [Int.natCast_mul]; congr 1; omega
theorem layD_abs (M E : Int) : layD M E = (valZ (M, E)).natAbs := by rw [← sgn_lay, sgn_abs]
theorem addD_Z {M E M' E' : Int} (h : RightP (M, E)) (h' : RightP (M', E')) : addD M E M' E' = nearZ (valZ (M, E) + valZ (M', E')) := by
  unfold addD addR
  rw [if_pos ⟨rightB_P.2 h, rightB_P.2 h'⟩, ← nearZ_sgn, plusD_sgn, sgn_lay, sgn_lay]
theorem RightP.neg {M E : Int} (h : RightP (M, E)) : RightP (-M, E) := by
  unfold RightP at *; simp only at *; omega
theorem valZ_negP (M E : Int) : valZ (-M, E) = - valZ (M, E) := by unfold valZ; exact Int.neg_mul _ _
theorem subD_Z {M E M' E' : Int} (h : RightP (M, E)) (h' : RightP (M', E')) : subD M E M' E' = nearZ (valZ (M, E) - valZ (M', E')) := by
  unfold subD
  rw [if_pos (rightB_P.2 h'), addD_Z h h'.neg, valZ_negP, Int.sub_eq_add_neg]
def mulZ (M E M' E' : Int) : Int := M * M' * (10 ^ (48 + (E + E')).toNat : Nat)
theorem mulS_eq (M M' : Int) (h : M ≠ 0) (h' : M' ≠ 0) : mulS M M' = decide (M * M' < 0) := by
  unfold mulS
  rcases Int.lt_or_lt_of_ne h with a | a <;> rcases Int.lt_or_lt_of_ne h' with b | b
  · have := Int.mul_pos_of_neg_of_neg a b
    simp [a, b]; omega
  · have := Int.mul_neg_of_neg_of_pos a b
    have c : ¬ M' < 0 := by omega
    simp [a, c, this]
  · have := Int.mul_neg_of_pos_of_neg a b
    have c : ¬ M < 0 := by omega
    simp [b, c, this]
  · have := Int.mul_pos a b
    have c : ¬ M < 0 := by omega
    have d : ¬ M' < 0 := by omega
    simp [c, d]; omega
theorem mul_sgn (M E M' E' : Int) : nearZ (sgn (mulS M M') (mulN M E M' E')) = nearZ (mulZ M E M' E') := by
  by_cases h : M = 0
  · subst h
    rw [show mulN 0 E M' E' = 0 by simp [mulN], show mulZ 0 E M' E' = 0 by simp [mulZ]]
    cases mulS 0 M' <;> rfl
  by_cases h' : M' = 0
  · subst h'
    rw [show mulN M E 0 E' = 0 by simp [mulN], show mulZ M E 0 E' = 0 by simp [mulZ]]
    cases mulS M 0 <;> rfl
  rw [mulS_eq M M' h h']
  congr 1
  unfold sgn mulN mulZ
  rw [← Int.natAbs_mul]
  by_cases c : M * M' < 0
  · simp only [c, decide_true, if_true]
    rw [Int.natCast_mul, ← Int.neg_mul]; congr 1; omega
  · simp only [c, decide_false, Bool.false_eq_true, if_false]
    rw [Int.natCast_mul]; congr 1; omega
theorem mulD_Z {M E M' E' : Int} (h : RightP (M, E)) (h' : RightP (M', E')) : mulD M E M' E' = nearZ (mulZ M E M' E') := by
  unfold mulD mulR
  rw [if_pos ⟨rightB_P.2 h, rightB_P.2 h'⟩, ← nearZ_sgn, mul_sgn]
theorem nearZ_two (z : Int) : (∃ p, nearZ z = (p, 0) ∧ RightP p) ∨ nearZ z = ((0, 0), 10) := by
  unfold nearZ
  rcases near_two (decide (z < 0)) z.natAbs with h | h
  · exact .inl ⟨_, Prod.ext rfl h, near_right (Prod.ext rfl h)⟩
  · exact .inr h
theorem div_self {M E : Int} (h : RightP (M, E)) (hM : M ≠ 0) : divD M E M E = ((1, 0), 0) := by
  unfold divD divR
  rw [if_pos ⟨rightB_P.2 h, rightB_P.2 h⟩, if_neg hM]
  have hp : divP E E = 48 := by unfold divP; omega
  have hB : 0 < M.natAbs := by omega
  rw [hp, show mulS M M = false by unfold mulS; cases decide (M < 0) <;> rfl]
  unfold quoD
  rw [Nat.mul_mod_right, Nat.mul_comm, Nat.mul_div_cancel _ hB]
  rw [show ((0 : Nat) != 0) = false from rfl, near_exact false (q := 1) (E := 0) (by decide) (by decide) (by decide) (by decide)]
  rfl
theorem div_nought {M E E' : Int} (h : RightP (M, E)) (h' : RightP (0, E')) : divD M E 0 E' = ((0, 0), 11) := by
  unfold divD
  rw [if_pos ⟨rightB_P.2 h, rightB_P.2 h'⟩, if_pos rfl]
theorem pair3 (r : (Int × Int) × Int) : ∃ a b c, r = ((a, b), c) := ⟨_, _, _, rfl⟩
theorem nearZ_bd {z : Int} {a b c : Int} (h : nearZ z = ((a, b), c)) : -999999999999999 ≤ a ∧ a ≤ 999999999999999 := by
  rcases nearZ_two z with ⟨p, hp, hR⟩ | hp
  · rw [hp] at h
    obtain ⟨h1, rfl⟩ := Prod.mk.inj h
    subst h1
    exact ⟨hR.1, hR.2.1⟩
  · rw [hp] at h
    obtain ⟨h1, rfl⟩ := Prod.mk.inj h
    obtain ⟨rfl, rfl⟩ := Prod.mk.inj h1
    exact ⟨by decide, by decide⟩
/-- DecTurns, without the program. -/
theorem turns_plain {x y x' y' : Int} (h : RightP (x, y)) (h' : RightP (x', y')) : ∃ s1 s2 e m1 m2 g d1 d2 i q1 q2 l : Int,
    addD x y x' y' = ((s1, s2), e) ∧ addD x' y' x y = ((s1, s2), e) ∧ mulD x y x' y' = ((m1, m2), g) ∧ mulD x' y' x y = ((m1, m2), g) ∧
    subD x y x' y' = ((d1, d2), i) ∧ subD x' y' x y = ((-d1, d2), i) ∧ subD x y x y = ((0, 0), 0) ∧ divD x' y' x' y' = ((q1, q2), l) ∧
    (-999999999999999 ≤ d1 ∧ d1 ≤ 999999999999999) ∧ (x' = 0 ∧ l = 11 ∨ x' ≠ 0 ∧ l = 0 ∧ q1 = 1 ∧ q2 = 0) := by
  obtain ⟨s1, s2, e, hs⟩ := pair3 (addD x y x' y')
  obtain ⟨m1, m2, g, hm⟩ := pair3 (mulD x y x' y')
  obtain ⟨d1, d2, i, hd⟩ := pair3 (subD x y x' y')
  obtain ⟨q1, q2, l, hq⟩ := pair3 (divD x' y' x' y')
  refine ⟨s1, s2, e, m1, m2, g, d1, d2, i, q1, q2, l, hs, ?_, hm, ?_, hd, ?_, ?_, hq, ?_, ?_⟩
  · rw [← hs, addD_Z h h', addD_Z h' h, Int.add_comm]
  · rw [← hm, mulD_Z h h', mulD_Z h' h]; congr 1; unfold mulZ; rw [Int.mul_comm x, Int.add_comm y]
  · rw [subD_Z h h'] at hd
    rw [subD_Z h' h, ← Int.neg_sub, nearZ_neg, hd]; rfl
  · rw [subD_Z h h, Int.sub_self]; rfl
  · rw [subD_Z h h'] at hd; exact nearZ_bd hd
  · by_cases c : x' = 0
    · subst c; rw [div_nought h' h'] at hq
      exact .inl ⟨rfl, (Prod.mk.inj hq).2.symm⟩
    · rw [div_self h' c] at hq
      obtain ⟨h1, h2⟩ := Prod.mk.inj hq
      obtain ⟨h3, h4⟩ := Prod.mk.inj h1
      exact .inr ⟨c, h2.symm, h3.symm, h4.symm⟩
end Go.Proofs.YtpkohfdebgiloaaDoor
