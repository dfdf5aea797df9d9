/- Roundings, signs and quotients by their values; DecOrder, DecRounds, DecFloors, DecNear, DecWhole without the program. -/
import Derived.Test.YtpkohfdebgiloaaDoorWorth
namespace Go.Proofs.YtpkohfdebgiloaaDoor

/-! ### roundings, half away from nought -/
def rha (D U : Nat) : Nat := D / U + (if U ≤ 2 * (D % U) then 1 else 0)
theorem rha_mul {q U : Nat} (hU : 0 < U) : rha (q * U) U = q := by
  unfold rha
  rw [Nat.mul_mod_left, Nat.mul_div_cancel _ hU, if_neg (by omega)]; rfl
theorem rha_bound {N U : Nat} (hU : 0 < U) : 2 * (rha N U * U) ≤ 2 * N + U ∧ 2 * N ≤ 2 * (rha N U * U) + U := by
  have h := Nat.div_add_mod N U
  have hm := Nat.mod_lt N hU
  rw [Nat.mul_comm] at h
  unfold rha
  rw [Nat.add_mul]
  generalize N / U * U = A at *
  generalize N % U = r at *
  split
  · rw [Nat.one_mul]; omega
  · rw [Nat.zero_mul]; omega
theorem rha_le (D U : Nat) : rha D U ≤ D / U + 1 := by unfold rha; split <;> omega
theorem cutN_rha (D : Nat) {k : Nat} (hk : 1 ≤ k) : cutN D k (decide (0 ≤ restD D false k)) = rha D (10 ^ k) * 10 ^ k := by
  unfold cutN rha
  rw [restD_half D false hk]
  have hU := pow10_pos k
  have e : (0 ≤ halfC (D % 10 ^ k) (10 ^ k) false) ↔ 10 ^ k ≤ 2 * (D % 10 ^ k) := by
    unfold halfC
    generalize D % 10 ^ k = r
    generalize 10 ^ k = U at *
    simp only [Bool.false_eq_true, if_false]
    (repeat' split) <;> omega
  simp only [decide_eq_true_eq, e]
theorem roundD_Z {M E n : Int} (h : RightP (M, E)) (n0 : -9 ≤ n) (n1 : n ≤ 9) : roundD M E n = nearZ (sgn (decide (M < 0)) (rha (valZ (M, E)).natAbs (10 ^ (48 - n).toNat) * 10 ^ (48 - n).toNat)) := by
  unfold roundD roundR
  rw [if_pos (rightB_P.2 h), if_pos ⟨n0, n1⟩, cutN_rha _ (by omega), nearZ_sgn, layD_abs]
/-- Each right decimal is a whole number of parts of ten to its exponent. -/
theorem E_ge {p : Int × Int} {c j : Int} (h : RightP p) (hj : j ≤ 9) (hv : valZ p = c * ((10 ^ (48 + j).toNat : Nat) : Int)) : p.1 = 0 ∨ j ≤ p.2 := by
  obtain ⟨M, E⟩ := p
  obtain ⟨_, _, e0, e1, h5⟩ := h
  simp only at e0 e1 h5 ⊢
  by_cases c1 : j ≤ E
  · exact .inr c1
  · refine .inl (Classical.byContradiction fun hM => ?_)
    unfold valZ at hv
    simp only at hv
    have e : (10 ^ (48 + j).toNat : Nat) = 10 ^ (j - E - 1).toNat * 10 * 10 ^ (48 + E).toNat := by
      rw [← Nat.pow_succ, ← Nat.pow_add]; congr 1; omega
    rw [e, Int.natCast_mul, Int.natCast_mul, ← Int.mul_assoc] at hv
    have hP : ((10 ^ (48 + E).toNat : Nat) : Int) ≠ 0 := by have := pow10_pos (48 + E).toNat; omega
    have := Int.eq_of_mul_eq_mul_right hP hv
    rw [← Int.mul_assoc] at this
    omega
theorem valZ_zero {p : Int × Int} (h : valZ p = 0) : p.1 = 0 := by
  unfold valZ at h
  rcases Int.mul_eq_zero.1 h with h | h
  · exact h
  · have := pow10_pos (48 + p.2).toNat; omega
/-- A number of parts that has a right decimal is it. -/
theorem nearZ_rep {z : Int} {q : Nat} {E : Int} (hq : q < 10 ^ 15) (e0 : -9 ≤ E) (e1 : E ≤ 9) (hz : z.natAbs = q * 10 ^ (48 + E).toNat) : ∃ p, nearZ z = (p, 0) ∧ RightP p ∧ valZ p = z := by
  obtain ⟨p, h1, h2⟩ := rep_exists (decide (z < 0)) hq e0 e1
  have hv : valZ p = z := by
    rw [h2, ← hz]; unfold sgn
    by_cases c : z < 0
    · simp only [c, decide_true, if_true]; omega
    · simp only [c, decide_false, Bool.false_eq_true, if_false]; omega
  exact ⟨p, by rw [← hv, nearZ_val h1], h1, hv⟩
theorem absP {p : Int × Int} (h : RightP p) : RightP (if p.1 < 0 then -p.1 else p.1, p.2) ∧ valZ (if p.1 < 0 then -p.1 else p.1, p.2) = ((valZ p).natAbs : Int) := by
  have hn := valZ_neg p
  obtain ⟨M, E⟩ := p
  simp only at hn ⊢
  by_cases c : M < 0
  · rw [if_pos c]; exact ⟨h.neg, by rw [valZ_negP]; have := hn.2 c; omega⟩
  · rw [if_neg c]; exact ⟨h, by have := mt hn.1 c; omega⟩
theorem valZ_part (p : Int × Int) (h : -9 ≤ p.2) : (valZ p).natAbs = p.1.natAbs * 10 ^ (p.2 + 9).toNat * 10 ^ 39 := by
  rw [valZ_abs, Nat.mul_assoc, ← Nat.pow_add]; congr 2; omega
theorem unitP {k : Int} (k0 : -9 ≤ k) (k1 : k ≤ 9) : RightP (1, -k) ∧ valZ (1, -k) = ((10 ^ (48 - k).toNat : Nat) : Int) := by
  refine ⟨⟨by show (-999999999999999 : Int) ≤ 1; decide, by show (1 : Int) ≤ 999999999999999; decide, by show -9 ≤ -k; omega, by show -k ≤ 9; omega, .inr ⟨by show (1 : Int) ≠ 0; decide, .inl (by show (1 : Int) % 10 ≠ 0; decide)⟩⟩, ?_⟩
  unfold valZ; rw [Int.one_mul]; rfl
theorem natAbs_sgn_sub (s : Bool) (a b : Nat) : (sgn s a - sgn s b).natAbs = ((a : Int) - b).natAbs := by
  unfold sgn; cases s
  · simp
  · simp only [if_true]; omega

/-- DecRounds, without the program. -/
theorem rounds_plain {M E k : Int} (h : RightP (M, E)) (k0 : -9 ≤ k) (k1 : k ≤ 9) : ∃ r1 r2 d1 d2 t1 t2 : Int,
    roundD M E k = ((r1, r2), 0) ∧ roundD M E 9 = ((M, E), 0) ∧ roundD r1 r2 k = ((r1, r2), 0) ∧ subD r1 r2 M E = ((d1, d2), 0) ∧
    addD (if d1 < 0 then -d1 else d1) d2 (if d1 < 0 then -d1 else d1) d2 = ((t1, t2), 0) ∧ cmpD t1 t2 1 (-k) ≤ 0 ∧ (r1 = 0 ∨ -k ≤ r2) ∧ RightP (r1, r2) ∧ RightP (d1, d2) ∧ RightP (t1, t2) := by
  have hR := h
  obtain ⟨m0, m1, e0, e1, _⟩ := hR
  simp only at m0 m1 e0 e1
  obtain ⟨D, hD⟩ : ∃ D, D = (valZ (M, E)).natAbs := ⟨_, rfl⟩
  have hDv : D = M.natAbs * 10 ^ (48 + E).toNat := by rw [hD, valZ_abs]
  have hs : sgn (decide (M < 0)) D = valZ (M, E) := by rw [hD, ← layD_abs, sgn_lay]
  have hmA : M.natAbs < 10 ^ 15 := by rw [p15]; omega
  obtain ⟨U, hU⟩ : ∃ U, U = 10 ^ (48 - k).toNat := ⟨_, rfl⟩
  have hUp : 0 < U := by rw [hU]; exact pow10_pos _
  obtain ⟨V, hV⟩ : ∃ V, V = rha D U * U := ⟨_, rfl⟩
  have hb := rha_bound (N := D) hUp
  rw [← hV] at hb
  -- V has a right decimal; what lies between is less than D, and a number of the same parts
  have key : ∃ (q : Nat) (E' : Int) (q2 : Nat), q < 10 ^ 15 ∧ -9 ≤ E' ∧ E' ≤ 9 ∧ V = q * 10 ^ (48 + E').toNat ∧ q2 < 10 ^ 15 ∧ ((V : Int) - D).natAbs = q2 * 10 ^ (48 + E).toNat := by
    by_cases c : -k ≤ E
    · have e : D = (M.natAbs * 10 ^ (E + k).toNat) * U := by
        rw [hDv, hU, Nat.mul_assoc, ← Nat.pow_add]; congr 2; omega
      have hVD : V = D := by rw [hV, e, rha_mul hUp]
      exact ⟨M.natAbs, E, 0, hmA, e0, e1, by rw [hVD, hDv], by decide, by rw [hVD]; simp⟩
    · have eU : U = 10 ^ (-k - E - 1).toNat * 10 * 10 ^ (48 + E).toNat := by
        rw [hU, ← Nat.pow_succ, ← Nat.pow_add]; congr 1; omega
      have hq : rha D U < 10 ^ 15 := by
        have h1 := rha_le D U
        have h2 : D / U ≤ M.natAbs / 10 := by
          rw [hDv, eU, Nat.mul_div_mul_right _ _ (pow10_pos _)]
          have : M.natAbs / (10 ^ (-k - E - 1).toNat * 10) = M.natAbs / 10 / 10 ^ (-k - E - 1).toNat := by rw [Nat.mul_comm, Nat.div_div_eq_div_mul]
          rw [this]; exact Nat.div_le_self _ _
        rw [p15] at hmA ⊢
        omega
      refine ⟨rha D U, -k, ((rha D U * (10 ^ (-k - E - 1).toNat * 10) : Nat) - (M.natAbs : Int)).natAbs, hq, by omega, by omega, by rw [hV, hU]; rfl, ?_, ?_⟩
      · -- at most M
        have hle : ((V : Int) - D).natAbs ≤ D := by
          by_cases v0 : rha D U = 0
          · rw [hV, v0, Nat.zero_mul]; omega
          · have : 1 * U ≤ V := by rw [hV]; exact Nat.mul_le_mul_right _ (by omega)
            omega
        have e2 : ((V : Int) - D).natAbs = ((rha D U * (10 ^ (-k - E - 1).toNat * 10) : Nat) - (M.natAbs : Int)).natAbs * 10 ^ (48 + E).toNat := by
          have : ((V : Int) - D) = ((rha D U * (10 ^ (-k - E - 1).toNat * 10) : Nat) - (M.natAbs : Int)) * ((10 ^ (48 + E).toNat : Nat) : Int) := by
            rw [Int.sub_mul, ← Int.natCast_mul, ← Int.natCast_mul, Nat.mul_assoc, ← eU, ← hV, ← hDv]
          rw [this, Int.natAbs_mul]; rfl
        have hle2 : ((rha D U * (10 ^ (-k - E - 1).toNat * 10) : Nat) - (M.natAbs : Int)).natAbs * 10 ^ (48 + E).toNat ≤ M.natAbs * 10 ^ (48 + E).toNat := by rw [← e2, ← hDv]; exact hle
        exact Nat.lt_of_le_of_lt (Nat.le_of_mul_le_mul_right hle2 (pow10_pos _)) hmA
      · have : ((V : Int) - D) = ((rha D U * (10 ^ (-k - E - 1).toNat * 10) : Nat) - (M.natAbs : Int)) * ((10 ^ (48 + E).toNat : Nat) : Int) := by
          rw [Int.sub_mul, ← Int.natCast_mul, ← Int.natCast_mul, Nat.mul_assoc, ← eU, ← hV, ← hDv]
        rw [this, Int.natAbs_mul]; rfl
  obtain ⟨q, E', q2, hq, g0, g1, hVq, hq2, hdiff⟩ := key
  obtain ⟨⟨r1, r2⟩, hr, hrR, hrv⟩ := nearZ_rep (z := sgn (decide (M < 0)) V) hq g0 g1 (by rw [sgn_abs, hVq])
  obtain ⟨⟨d1, d2⟩, hd, hdR, hdv⟩ := nearZ_rep (z := valZ (r1, r2) - valZ (M, E)) hq2 e0 e1 (by rw [hrv, ← hs, natAbs_sgn_sub, hdiff])
  obtain ⟨haR, hav⟩ := absP hdR
  simp only at haR hav
  have hdabs : (valZ (d1, d2)).natAbs = ((V : Int) - D).natAbs := by rw [hdv, hrv, ← hs, natAbs_sgn_sub]
  obtain ⟨⟨t1, t2⟩, ht, htle⟩ := near_mono (s := false) (D := 2 * (valZ (d1, d2)).natAbs) (q := 1) (E := -k) (by decide) (by omega) (by omega) (by
    rw [Nat.one_mul, hdabs, show (48 + -k).toNat = (48 - k).toNat by omega, ← hU]; omega)
  have htR := near_right ht
  have hround : ∀ {A B : Int} (hAB : RightP (A, B)), roundD A B k = nearZ (sgn (decide (A < 0)) (rha (valZ (A, B)).natAbs U * U)) := fun hAB => by rw [roundD_Z hAB k0 k1, hU]
  refine ⟨r1, r2, d1, d2, t1, t2, ?_, ?_, ?_, ?_, ?_, ?_, ?_, hrR, hdR, htR⟩
  · rw [hround h, ← hD, ← hV, hr]
  · have hv := valZ_part (M, E) e0
    rw [roundD_Z h (by decide) (by decide), show (48 - (9 : Int)).toNat = 39 from rfl]
    simp only at hv
    rw [hv, rha_mul (pow10_pos 39), ← hv, ← hD, hs, nearZ_val h]
  · have hva : (valZ (r1, r2)).natAbs = rha D U * U := by rw [hrv, sgn_abs, hV]
    rw [hround hrR, hva, rha_mul hUp, ← hva, ← layD_abs, sgn_lay, nearZ_val hrR]
  · rw [subD_Z hrR h, hd]
  · rw [addD_Z haR haR, hav]
    have : ((valZ (d1, d2)).natAbs : Int) + ((valZ (d1, d2)).natAbs : Int) = sgn false (2 * (valZ (d1, d2)).natAbs) := by unfold sgn; simp; omega
    rw [this, nearZ_sgn, ht]
  · obtain ⟨uR, uv⟩ := unitP k0 k1
    rw [cmpD_Z htR uR, uv]
    rw [Nat.one_mul, show (48 + -k).toNat = (48 - k).toNat by omega] at htle
    have : valZ (t1, t2) ≤ ((10 ^ (48 - k).toNat : Nat) : Int) := by omega
    (repeat' split) <;> omega
  · refine E_ge (c := sgn (decide (M < 0)) (rha D U)) hrR (by omega) ?_
    rw [hrv, hV, hU, show (48 + -k).toNat = (48 - k).toNat by omega]
    unfold sgn; split
    · rw [Int.natCast_mul, Int.neg_mul]
    · rw [Int.natCast_mul]

/-- DecFloors, without the program. -/
theorem floors_plain {M E : Int} (h : RightP (M, E)) : (∃ q : Int, floorD M E = (q, 0) ∧ -999999999999999 ≤ q ∧ q ≤ 999999999999999 ∧ ∃ w1 w2, ofD q = ((w1, w2), 0) ∧ RightP (w1, w2) ∧ cmpD w1 w2 M E ≤ 0 ∧
      ((∃ m1 m2, ofD (q + 1) = ((m1, m2), 0) ∧ RightP (m1, m2) ∧ cmpD M E m1 m2 < 0) ∨ ofD (q + 1) = ((0, 0), 10))) ∨
    (floorD M E = (0, 10) ∧ 0 < E) := by
  have hP := p48_pos
  have hR := h
  obtain ⟨m0, m1, e0, e1, _⟩ := hR
  simp only at m0 m1 e0 e1
  rw [floorD_Z h]
  obtain ⟨q, hq⟩ : ∃ q, q = valZ (M, E) / ((10 ^ 48 : Nat) : Int) := ⟨_, rfl⟩
  have f1 : q * ((10 ^ 48 : Nat) : Int) ≤ valZ (M, E) := by rw [hq]; exact Int.ediv_mul_le _ (Int.ne_of_gt hP)
  have f2 : valZ (M, E) < (q + 1) * ((10 ^ 48 : Nat) : Int) := by rw [hq]; exact Int.lt_ediv_add_one_mul_self _ hP
  rw [← hq]
  by_cases c : q.natAbs < 10 ^ 15
  · rw [if_pos c]
    rw [p15] at c
    refine .inl ⟨q, rfl, by omega, by omega, ?_⟩
    obtain ⟨⟨w1, w2⟩, hw, hwv⟩ := whole_exists (n := q) (by rw [p15]; exact c)
    refine ⟨w1, w2, ofD_of (by omega) (by omega) hw hwv, hw, ?_, ?_⟩
    · rw [cmpD_Z hw h, hwv]; (repeat' split) <;> omega
    · rcases ofD_two (q + 1) with ⟨⟨n1, n2⟩, hn⟩ | hn
      · obtain ⟨nR, nv⟩ := ofD_ok (by omega) (by omega) hn
        refine .inl ⟨n1, n2, hn, nR, ?_⟩
        rw [cmpD_Z h nR, nv, if_pos f2]; decide
      · exact .inr hn
  · rw [if_neg c]
    refine .inr ⟨rfl, Classical.byContradiction fun hE => c ?_⟩
    have hb : (valZ (M, E)).natAbs ≤ 999999999999999 * 10 ^ 48 := by
      rw [valZ_abs]
      exact Nat.mul_le_mul (by show M.natAbs ≤ _; omega) (Nat.pow_le_pow_right (by decide) (by show (48 + E).toNat ≤ 48; omega))
    rw [p15]
    have hb2 : valZ (M, E) ≤ 999999999999999 * ((10 ^ 48 : Nat) : Int) ∧ -(999999999999999 * ((10 ^ 48 : Nat) : Int)) ≤ valZ (M, E) := by omega
    generalize valZ (M, E) = z at *
    generalize ((10 ^ 48 : Nat) : Int) = T at *
    have g1 : q ≤ 999999999999999 := by
      refine Classical.byContradiction fun x => ?_
      have := Int.mul_le_mul_of_nonneg_right (show (999999999999999 : Int) + 1 ≤ q by omega) (Int.le_of_lt hP)
      rw [Int.add_mul] at this; omega
    have g2 : -999999999999999 ≤ q := by
      refine Classical.byContradiction fun x => ?_
      have := Int.mul_le_mul_of_nonneg_right (show q + 1 ≤ -999999999999999 by omega) (Int.le_of_lt hP)
      omega
    omega
end Go.Proofs.YtpkohfdebgiloaaDoor
