/- DecNear, DecWhole without the program. -/
import Derived.Test.YtpkohfdebgiloaaDoorWorth3
namespace Go.Proofs.YtpkohfdebgiloaaDoor

theorem e39 : (48 + (-9 : Int)).toNat = 39 := rfl
theorem half_diff {x y b : Nat} (h1 : 2 * x ≤ 2 * y + b) (h2 : 2 * y ≤ 2 * x + b) : 2 * ((x : Int) - (y : Int)).natAbs ≤ b := by omega
theorem small_lt {x b : Nat} (h : x ≤ b) (hb : b ≤ 99999) : x < 10 ^ 15 := Nat.lt_of_le_of_lt (Nat.le_trans h hb) (by decide)
theorem prod_lt {x y b : Nat} (h1 : 2 * x ≤ 2 * (y * 10 ^ 9) + b) (hy : y ≤ 99999) (hb : b ≤ 99999) : x < 10 ^ 15 := by
  rw [show (10 : Nat) ^ 9 = 1000000000 from by decide] at h1; rw [p15]; omega
theorem cmp_le {x y : Nat} (h : x ≤ y) : (if ((x : Nat) : Int) < ((y : Nat) : Int) then (-1 : Int) else if ((x : Nat) : Int) = ((y : Nat) : Int) then 0 else 1) ≤ 0 := by
  (repeat' split) <;> omega
theorem twice_cast (d T : Nat) : ((d * T : Nat) : Int) + ((d * T : Nat) : Int) = ((2 * d * T : Nat) : Int) := by rw [Nat.mul_assoc]; omega
theorem p4839 : (10 : Nat) ^ 48 = 10 ^ 9 * 10 ^ 39 := by decide
theorem mulS_val {M E M' E' n m : Int} (hn : valZ (M, E) = n * ((10 ^ 48 : Nat) : Int)) (hm : valZ (M', E') = m * ((10 ^ 48 : Nat) : Int)) : mulS M M' = mulS n m := by
  have a := valZ_neg (M, E)
  have b := valZ_neg (M', E')
  have hP := p48_pos
  have key : ∀ k : Int, k * ((10 ^ 48 : Nat) : Int) < 0 ↔ k < 0 := by
    intro k
    generalize ((10 ^ 48 : Nat) : Int) = T at *
    constructor
    · intro h
      refine Classical.byContradiction fun h2 => ?_
      have := Int.mul_nonneg (show 0 ≤ k by omega) (Int.le_of_lt hP)
      omega
    · intro h; exact Int.mul_neg_of_neg_of_pos h hP
  rw [hn, key] at a
  rw [hm, key] at b
  simp only at a b
  unfold mulS
  rw [show decide (M < 0) = decide (n < 0) from decide_eq_decide.2 a.symm, show decide (M' < 0) = decide (m < 0) from decide_eq_decide.2 b.symm]
theorem near_first {s : Bool} {N B : Nat} (h : rhe N (B * 10 ^ 39) < 10 ^ 15) : nearQ s N B 19 (-9) = (decOf s (rhe N (B * 10 ^ 39)) (-9), 0) := by
  rw [nearQ, show (48 + (-9 : Int)).toNat = 39 from rfl, if_pos h]
theorem sgn_mul (s : Bool) (a b : Nat) : sgn s (a * b) = sgn s a * (b : Int) := by
  unfold sgn; split
  · rw [Int.natCast_mul, Int.neg_mul]
  · rw [Int.natCast_mul]
theorem sgn_of (n : Int) : sgn (decide (n < 0)) n.natAbs = n := by
  unfold sgn
  by_cases h : n < 0
  · simp only [h, decide_true, if_true]; omega
  · simp only [h, decide_false, Bool.false_eq_true, if_false]; omega

/-- DecNear, without the program. -/
theorem near_plain {n m : Int} (n0 : -99999 ≤ n) (n1 : n ≤ 99999) (m0 : 1 ≤ m) (m1 : m ≤ 99999) : ∃ x1 x2 y1 y2 q1 q2 p1 p2 d1 d2 t1 t2 b1 b2 : Int,
    ofD n = ((x1, x2), 0) ∧ ofD m = ((y1, y2), 0) ∧ divD x1 x2 y1 y2 = ((q1, q2), 0) ∧ mulD q1 q2 y1 y2 = ((p1, p2), 0) ∧ subD p1 p2 x1 x2 = ((d1, d2), 0) ∧
    addD (if d1 < 0 then -d1 else d1) d2 (if d1 < 0 then -d1 else d1) d2 = ((t1, t2), 0) ∧ mulD y1 y2 1 (-9) = ((b1, b2), 0) ∧ cmpD t1 t2 b1 b2 ≤ 0 ∧ (n % m ≠ 0 ∨ 0 ≤ q2 ∧ d1 = 0) ∧
    RightP (x1, x2) ∧ RightP (y1, y2) ∧ RightP (q1, q2) ∧ RightP (p1, p2) ∧ RightP (d1, d2) ∧ RightP (t1, t2) ∧ RightP (b1, b2) := by
  obtain ⟨⟨x1, x2⟩, hx, hxv⟩ := whole_exists (n := n) (by rw [p15]; omega)
  obtain ⟨⟨y1, y2⟩, hy, hyv⟩ := whole_exists (n := m) (by rw [p15]; omega)
  have hox := ofD_of (by omega) (by omega) hx hxv
  have hoy := ofD_of (by omega) (by omega) hy hyv
  obtain ⟨hy0, hdiv⟩ := div_whole hx hy hxv hyv (by omega)
  have hms : mulS x1 y1 = decide (n < 0) := by
    rw [mulS_val hxv hyv]; unfold mulS
    rw [show decide (m < 0) = false by rw [decide_eq_false_iff_not]; omega]
    cases decide (n < 0) <;> rfl
  rw [hms] at hdiv
  obtain ⟨a, ha⟩ : ∃ a, a = n.natAbs := ⟨_, rfl⟩
  obtain ⟨b, hb⟩ : ∃ b, b = m.natAbs := ⟨_, rfl⟩
  rw [← ha, ← hb] at hdiv
  have hb0 : 0 < b := by omega
  have ha5 : a ≤ 99999 := by omega
  have hb5' : b ≤ 99999 := by omega
  have hmb : (m : Int) = (b : Int) := by omega
  have hr : rhe (a * 10 ^ 48) (b * 10 ^ 39) = rhe (a * 10 ^ 9) b := by
    rw [p4839, ← Nat.mul_assoc, Nat.mul_comm _ (10 ^ 39), Nat.mul_comm b, rhe_scale (pow10_pos 39) hb0]
  obtain ⟨r, hre⟩ : ∃ r, r = rhe (a * 10 ^ 9) b := ⟨_, rfl⟩
  rw [← hre] at hr
  have p9 : (10 : Nat) ^ 9 = 1000000000 := by decide
  have hr1 : r ≤ a * 10 ^ 9 := by
    rw [hre]; refine rhe_le hb0 ?_
    have := Nat.mul_le_mul_left (a * 10 ^ 9) hb0
    rw [Nat.mul_one] at this; exact this
  have hr15 : r < 10 ^ 15 := Nat.lt_of_le_of_lt hr1 (Nat.lt_of_le_of_lt (Nat.mul_le_mul_right _ ha5) (by decide))
  have hbd := rhe_bound (N := a * 10 ^ 9) hb0
  rw [← hre] at hbd
  rw [near_first (by rw [hr]; exact hr15), hr] at hdiv
  obtain ⟨⟨q1, q2⟩, hq⟩ : ∃ p, p = decOf (decide (n < 0)) r (-9) := ⟨_, rfl⟩
  rw [← hq] at hdiv
  have hqR : RightP (q1, q2) := by rw [hq]; exact decOf_right _ hr15 (by decide) (by decide)
  have hqv : valZ (q1, q2) = sgn (decide (n < 0)) r * ((10 ^ 39 : Nat) : Int) := by
    rw [hq, decOf_val _ hr15 (by decide) (by decide), show (48 + (-9 : Int)).toNat = 39 from rfl, sgn_mul]
  have hP := p48_pos
  -- the product
  have hmul : mulZ q1 q2 y1 y2 = sgn (decide (n < 0)) (r * b) * ((10 ^ 39 : Nat) : Int) := by
    have := mulZ_val hqR hy
    rw [hqv, hyv, hmb] at this
    refine Int.eq_of_mul_eq_mul_right (Int.ne_of_gt hP) ?_
    rw [this, sgn_mul]; ac_rfl
  have hrb : r * b < 10 ^ 15 := prod_lt hbd.1 ha5 hb5'
  obtain ⟨⟨p1, p2⟩, hp, hpR, hpv⟩ := nearZ_rep (z := mulZ q1 q2 y1 y2) (E := -9) hrb (by decide) (by decide) (by rw [hmul, Int.natAbs_mul, sgn_abs, Int.natAbs_natCast, e39])
  -- the difference
  have hxs : valZ (x1, x2) = sgn (decide (n < 0)) (a * 10 ^ 9) * ((10 ^ 39 : Nat) : Int) := by
    rw [hxv, sgn_mul, ha, sgn_of, p4839, Int.natCast_mul]; ac_rfl
  have hdz : (valZ (p1, p2) - valZ (x1, x2)).natAbs = (((r * b : Nat) : Int) - ((a * 10 ^ 9 : Nat) : Int)).natAbs * 10 ^ 39 := by
    rw [hpv, hmul, hxs, ← Int.sub_mul, Int.natAbs_mul, natAbs_sgn_sub, Int.natAbs_natCast]
  obtain ⟨δ, hδ⟩ : ∃ δ, δ = (((r * b : Nat) : Int) - ((a * 10 ^ 9 : Nat) : Int)).natAbs := ⟨_, rfl⟩
  rw [← hδ] at hdz
  have hδb : 2 * δ ≤ b := by rw [hδ]; exact half_diff hbd.1 hbd.2
  have hδ2 : δ ≤ b := Nat.le_trans (Nat.le_mul_of_pos_left δ (by decide)) hδb
  obtain ⟨⟨d1, d2⟩, hd, hdR, hdv⟩ := nearZ_rep (z := valZ (p1, p2) - valZ (x1, x2)) (q := δ) (E := -9) (small_lt hδ2 hb5') (by decide) (by decide) (by rw [hdz, e39])
  obtain ⟨haR, hav⟩ := absP hdR
  simp only at haR hav
  rw [hdv, hdz] at hav
  -- twice, and the bound
  obtain ⟨⟨t1, t2⟩, ht, htR, htv⟩ := nearZ_rep (z := ((2 * δ * 10 ^ 39 : Nat) : Int)) (q := 2 * δ) (E := -9) (small_lt hδb hb5') (by decide) (by decide) (by rw [Int.natAbs_natCast, e39])
  obtain ⟨uR, uv⟩ := unitP (k := 9) (by decide) (by decide)
  have hmb2 : mulZ y1 y2 1 (-9) = ((b * 10 ^ 39 : Nat) : Int) := by
    have := mulZ_val hy uR
    rw [hyv, uv, show (48 - (9 : Int)).toNat = 39 from rfl, hmb] at this
    refine Int.eq_of_mul_eq_mul_right (Int.ne_of_gt hP) ?_
    rw [this, Int.natCast_mul]; ac_rfl
  obtain ⟨⟨b1, b2⟩, hbb, hbR, hbv⟩ := nearZ_rep (z := mulZ y1 y2 1 (-9)) (q := b) (E := -9) (small_lt (Nat.le_refl _) hb5') (by decide) (by decide) (by rw [hmb2, Int.natAbs_natCast, e39])
  refine ⟨x1, x2, y1, y2, q1, q2, p1, p2, d1, d2, t1, t2, b1, b2, hox, hoy, hdiv, ?_, ?_, ?_, ?_, ?_, ?_, hx, hy, hqR, hpR, hdR, htR, hbR⟩
  · rw [mulD_Z hqR hy, hp]
  · rw [subD_Z hpR hx, hd]
  · rw [addD_Z haR haR, hav, ← ht, twice_cast]
  · rw [mulD_Z hy uR, hbb]
  · rw [cmpD_Z htR hbR, htv, hbv, hmb2]
    exact cmp_le (Nat.mul_le_mul_right _ hδb)
  · by_cases hnm : n % m = 0
    · refine .inr ?_
      obtain ⟨c, hc⟩ : ∃ c, a = c * b := by
        obtain ⟨k, hk⟩ := Int.dvd_of_emod_eq_zero hnm
        exact ⟨k.natAbs, by rw [ha, hk, Int.natAbs_mul, hb, Nat.mul_comm]⟩
      have hrc : r = c * 10 ^ 9 := by
        rw [hre, hc, show c * b * 10 ^ 9 = c * 10 ^ 9 * b by ac_rfl, rhe_mul hb0]
      have hδ0 : δ = 0 := by rw [hδ, hrc, hc, show c * 10 ^ 9 * b = c * b * 10 ^ 9 by ac_rfl]; simp
      constructor
      · have hv0 : valZ (q1, q2) = sgn (decide (n < 0)) c * ((10 ^ (48 + (0 : Int)).toNat : Nat) : Int) := by
          rw [hqv, hrc, sgn_mul, show (48 + (0 : Int)).toNat = 48 from rfl, p4839, Int.natCast_mul]; ac_rfl
        rcases E_ge hqR (by decide) hv0 with h | h
        · have h5 := hqR.2.2.2.2
          simp only at h5 h
          rcases h5 with h5 | h5
          · rw [h5.2]; exact Int.le_refl 0
          · exact absurd h h5.1
        · exact h
      · refine valZ_zero (p := (d1, d2)) ?_
        rw [hδ0, Nat.zero_mul] at hdz
        rw [hdv]; exact Int.natAbs_eq_zero.1 hdz
    · exact .inl hnm

/-- Go's quotient, rounded down. -/
def downI (n m : Int) : Int := if n.tmod m ≠ 0 ∧ decide (n < 0) ≠ decide (m < 0) then n.tdiv m - 1 else n.tdiv m
theorem tdiv_sgn (n m : Int) (hm : m ≠ 0) : n.tdiv m = sgn (mulS n m) (n.natAbs / m.natAbs) ∧ (n.tmod m = 0 ↔ n.natAbs % m.natAbs = 0) := by
  constructor
  · rcases Int.lt_or_le n 0 with a | a <;> rcases Int.lt_or_le m 0 with b | b
    · have hs : mulS n m = false := by unfold mulS; simp [a, b]
      rw [hs]
      obtain ⟨x, rfl⟩ : ∃ x : Nat, n = -(x : Int) := ⟨n.natAbs, by omega⟩
      obtain ⟨y, rfl⟩ : ∃ y : Nat, m = -(y : Int) := ⟨m.natAbs, by omega⟩
      rw [Int.neg_tdiv, Int.tdiv_neg, Int.neg_neg, Int.natAbs_neg, Int.natAbs_neg, Int.natAbs_natCast, Int.natAbs_natCast]
      rfl
    · have c : ¬ m < 0 := by omega
      have hs : mulS n m = true := by unfold mulS; simp [a, c]
      rw [hs]
      obtain ⟨x, rfl⟩ : ∃ x : Nat, n = -(x : Int) := ⟨n.natAbs, by omega⟩
      obtain ⟨y, rfl⟩ : ∃ y : Nat, m = (y : Int) := ⟨m.natAbs, by omega⟩
      rw [Int.neg_tdiv, Int.natAbs_neg, Int.natAbs_natCast, Int.natAbs_natCast]
      rfl
    · have c : ¬ n < 0 := by omega
      have hs : mulS n m = true := by unfold mulS; simp [b, c]
      rw [hs]
      obtain ⟨x, rfl⟩ : ∃ x : Nat, n = (x : Int) := ⟨n.natAbs, by omega⟩
      obtain ⟨y, rfl⟩ : ∃ y : Nat, m = -(y : Int) := ⟨m.natAbs, by omega⟩
      rw [Int.tdiv_neg, Int.natAbs_neg, Int.natAbs_natCast, Int.natAbs_natCast]
      rfl
    · have c : ¬ n < 0 := by omega
      have d : ¬ m < 0 := by omega
      have hs : mulS n m = false := by unfold mulS; simp [c, d]
      rw [hs]
      obtain ⟨x, rfl⟩ : ∃ x : Nat, n = (x : Int) := ⟨n.natAbs, by omega⟩
      obtain ⟨y, rfl⟩ : ∃ y : Nat, m = (y : Int) := ⟨m.natAbs, by omega⟩
      rw [Int.natAbs_natCast, Int.natAbs_natCast]
      rfl
  · rw [← Int.dvd_iff_tmod_eq_zero, ← Int.natAbs_dvd_natAbs, Nat.dvd_iff_mod_eq_zero]

/-- DecWhole, without the program. -/
theorem whole_plain {n m : Int} (n0 : -9999999 ≤ n) (n1 : n ≤ 9999999) (m0 : -9999999 ≤ m) (m1 : m ≤ 9999999) : ∃ x1 x2 y1 y2 s1 s2 p1 p2 : Int,
    ofD n = ((x1, x2), 0) ∧ ofD m = ((y1, y2), 0) ∧ addD x1 x2 y1 y2 = ((s1, s2), 0) ∧ mulD x1 x2 y1 y2 = ((p1, p2), 0) ∧ ofD (n + m) = ((s1, s2), 0) ∧ ofD (n * m) = ((p1, p2), 0) ∧ floorD p1 p2 = (n * m, 0) ∧
    RightP (x1, x2) ∧ RightP (y1, y2) ∧ RightP (s1, s2) ∧ RightP (p1, p2) ∧ (-99999980000001 ≤ n * m ∧ n * m ≤ 99999980000001) ∧
    (m ≠ 0 → ∃ q1 q2 low, divD x1 x2 y1 y2 = ((q1, q2), 0) ∧ RightP (q1, q2) ∧ floorD q1 q2 = (low, 0) ∧ (low = downI n m ∨ low = downI n m + 1)) := by
  have hP := p48_pos
  have hnm : -99999980000001 ≤ n * m ∧ n * m ≤ 99999980000001 := by
    have : (n * m).natAbs ≤ 9999999 * 9999999 := by rw [Int.natAbs_mul]; exact Nat.mul_le_mul (by omega) (by omega)
    omega
  obtain ⟨⟨x1, x2⟩, hx, hxv⟩ := whole_exists (n := n) (by rw [p15]; omega)
  obtain ⟨⟨y1, y2⟩, hy, hyv⟩ := whole_exists (n := m) (by rw [p15]; omega)
  obtain ⟨⟨s1, s2⟩, hs, hsv⟩ := whole_exists (n := n + m) (by rw [p15]; omega)
  obtain ⟨⟨p1, p2⟩, hp, hpv⟩ := whole_exists (n := n * m) (by rw [p15]; omega)
  refine ⟨x1, x2, y1, y2, s1, s2, p1, p2, ofD_of (by omega) (by omega) hx hxv, ofD_of (by omega) (by omega) hy hyv, ?_, ?_, ofD_of (by omega) (by omega) hs hsv, ofD_of (by omega) (by omega) hp hpv, ?_, hx, hy, hs, hp, hnm, ?_⟩
  · rw [addD_Z hx hy, hxv, hyv, ← Int.add_mul, ← hsv, nearZ_val hs]
  · rw [mulD_Z hx hy, mulZ_whole hx hy hxv hyv, ← hpv, nearZ_val hp]
  · rw [floorD_Z hp, hpv, Int.mul_ediv_cancel _ (Int.ne_of_gt hP), if_pos (by rw [p15]; omega)]
  · intro hm
    obtain ⟨hy0, hdiv⟩ := div_whole hx hy hxv hyv hm
    rw [mulS_val hxv hyv] at hdiv
    have hb0 : 0 < m.natAbs := by omega
    obtain ⟨a, ha⟩ : ∃ a, a = n.natAbs / m.natAbs := ⟨_, rfl⟩
    have hdm := Nat.div_add_mod n.natAbs m.natAbs
    have hml := Nat.mod_lt n.natAbs hb0
    rw [← ha] at hdm
    have ha7 : a ≤ 9999999 := by rw [ha]; exact Nat.le_trans (Nat.div_le_self _ _) (by omega)
    obtain ⟨ht1, ht2⟩ := tdiv_sgn n m hm
    rw [← ha] at ht1
    have hup : n.natAbs * 10 ^ 48 ≤ m.natAbs * ((a + 1) * 10 ^ (48 + (0 : Int)).toNat) := by
      rw [show (48 + (0 : Int)).toNat = 48 from rfl, ← Nat.mul_assoc]
      exact Nat.mul_le_mul_right _ (by rw [Nat.mul_add]; omega)
    have hlo : m.natAbs * (a * 10 ^ (48 + (0 : Int)).toNat) ≤ n.natAbs * 10 ^ 48 := by
      rw [show (48 + (0 : Int)).toNat = 48 from rfl, ← Nat.mul_assoc]
      exact Nat.mul_le_mul_right _ (by omega)
    obtain ⟨⟨q1, q2⟩, v, hq, hqR, hqv, hv1⟩ := nearQ_up (s := mulS n m) hb0 (by rw [p15]; omega) (by decide) (by decide) hup
    have hv0 := nearQ_low hb0 (by rw [p15]; omega) (by decide) (by decide) hlo hq hqv
    rw [show (48 + (0 : Int)).toNat = 48 from rfl] at hv0 hv1
    have hex : n.natAbs % m.natAbs = 0 → v = a * 10 ^ 48 := by
      intro h0
      have hN : n.natAbs * 10 ^ 48 = m.natAbs * (a * 10 ^ (48 + (0 : Int)).toNat) := by
        rw [show (48 + (0 : Int)).toNat = 48 from rfl, ← Nat.mul_assoc]; congr 1; omega
      have := nearQ_exact (mulS n m) hb0 (by rw [p15]; omega : a < 10 ^ 15) (by decide) hN 9 (by decide)
      rw [show (10 - ((0 : Int) - (9 : Nat))).toNat = 19 from rfl, show (0 : Int) - ((9 : Nat) : Int) = -9 from rfl, hq] at this
      have h2 := congrArg (fun r => valZ r.1) this
      simp only at h2
      rw [hqv, decOf_val _ (by rw [p15]; omega) (by decide) (by decide), show (48 + (0 : Int)).toNat = 48 from rfl] at h2
      have := congrArg Int.natAbs h2
      rw [sgn_abs, sgn_abs] at this
      exact this
    rw [hq] at hdiv
    have hf : ∃ low : Int, valZ (q1, q2) / ((10 ^ 48 : Nat) : Int) = low ∧ (if mulS n m = true then (low = -(a : Int) ∨ (n.natAbs % m.natAbs ≠ 0 ∧ low = -(a : Int) - 1)) else (low = a ∨ (n.natAbs % m.natAbs ≠ 0 ∧ low = (a : Int) + 1))) := by
      refine ⟨_, rfl, ?_⟩
      have hTp : 0 < 10 ^ 48 := pow10_pos 48
      rw [hqv]
      generalize 10 ^ 48 = T at *
      cases hsg : mulS n m
      · simp only [sgn, Bool.false_eq_true, if_false]
        rw [← Int.natCast_ediv]
        by_cases h0 : n.natAbs % m.natAbs = 0
        · left; rw [hex h0, Nat.mul_div_cancel _ hTp]
        · have c1 : a ≤ v / T := (Nat.le_div_iff_mul_le hTp).2 hv0
          have c2 : v / T ≤ a + 1 := by
            have := Nat.div_le_div_right (c := T) hv1
            rw [Nat.mul_div_cancel _ hTp] at this; exact this
          omega
      · simp only [sgn, if_true]
        rw [floor_neg_eq hTp]
        by_cases h0 : n.natAbs % m.natAbs = 0
        · left; rw [hex h0, Nat.mul_div_cancel _ hTp, Nat.mul_mod_left, if_neg (by simp)]; rfl
        · have c1 : a ≤ v / T := (Nat.le_div_iff_mul_le hTp).2 hv0
          have c2 : v / T ≤ a + 1 := by
            have := Nat.div_le_div_right (c := T) hv1
            rw [Nat.mul_div_cancel _ hTp] at this; exact this
          by_cases c3 : v / T = a + 1
          · have hd := Nat.div_add_mod v T
            rw [c3, Nat.mul_comm] at hd
            rw [if_neg (by omega)]; omega
          · split <;> omega
    obtain ⟨low, hlow, hlow2⟩ := hf
    refine ⟨q1, q2, low, hdiv, hqR, ?_, ?_⟩
    · rw [floorD_Z hqR, hlow, if_pos (by rw [p15]; split at hlow2 <;> omega)]
    · unfold downI
      rw [ht1]
      have hsm : n ≠ 0 → (mulS n m = true ↔ decide (n < 0) ≠ decide (m < 0)) := by
        intro _; unfold mulS; simp
      have hn0 : n = 0 → n.natAbs % m.natAbs = 0 := by intro e; rw [e]; simp
      by_cases hz : n.tmod m = 0
      · rw [if_neg (fun x => x.1 hz)]
        have h0 := ht2.1 hz
        unfold sgn
        split at hlow2
        · rename_i hs1; rw [if_pos hs1]; omega
        · rename_i hs1; rw [if_neg hs1]; omega
      · have h0 := mt ht2.2 hz
        have hnn : n ≠ 0 := fun e => h0 (hn0 e)
        have hs2 := hsm hnn
        unfold sgn
        split at hlow2
        · rename_i hs1
          rw [if_pos ⟨hz, hs2.1 hs1⟩, if_pos hs1]; omega
        · rename_i hs1
          rw [if_neg (fun x => hs1 (hs2.2 x.2)), if_neg hs1]; omega
end Go.Proofs.YtpkohfdebgiloaaDoor
