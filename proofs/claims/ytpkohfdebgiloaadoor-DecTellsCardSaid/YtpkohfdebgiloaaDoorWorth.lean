/- Whole numbers, products, floors, orders and roundings of right decimals by their values. -/
import Derived.Test.YtpkohfdebgiloaaDoorPlain
namespace Go.Proofs.YtpkohfdebgiloaaDoor

theorem p48_pos : (0 : Int) < ((10 ^ 48 : Nat) : Int) := by decide
theorem dg_eq : ∀ (n D D' : Nat), D < 10 ^ n → D' < 10 ^ n → (∀ k, k < n → dg D k = dg D' k) → D = D'
  | 0, D, D', h, h', _ => by rw [Nat.pow_zero] at h h'; omega
  | n + 1, D, D', h, h', hk => by
    have h1 := dg_eq n (D / 10) (D' / 10) (by rw [Nat.pow_succ] at h; omega) (by rw [Nat.pow_succ] at h'; omega) (fun k hlt => by
      have := hk (k + 1) (by omega)
      unfold dg at this ⊢
      rw [Nat.pow_succ, Nat.mul_comm, ← Nat.div_div_eq_div_mul, ← Nat.div_div_eq_div_mul] at this
      exact this)
    have h2 := hk 0 (by omega)
    unfold dg at h2
    rw [Nat.pow_zero, Nat.div_one, Nat.div_one] at h2
    omega
theorem layD_lt96 {M E : Int} (h : RightP (M, E)) : layD M E < 10 ^ 96 := Nat.lt_trans (layD_lt (rightB_P.2 h)) (by decide)
theorem ofN_lt96 {n : Int} (h0 : -9223372036854775808 ≤ n) (h1 : n ≤ 9223372036854775807) : ofN n < 10 ^ 96 := by
  have := ofN_lt h0 h1
  exact Nat.lt_of_le_of_lt (Nat.le_add_right _ _) this
theorem all_eq {D D' : Nat} (h : D < 10 ^ 96) (h' : D' < 10 ^ 96) : ((List.range 96).all fun k => dg D k == dg D' k) = true ↔ D = D' := by
  constructor
  · intro ha
    refine dg_eq 96 D D' h h' (fun k hk => ?_)
    have := List.all_eq_true.1 ha k (by simpa using hk)
    simpa using this
  · intro e; subst e; simp
theorem ofS_iff {n : Int} {p : Int × Int} (h0 : -9223372036854775808 ≤ n) (h1 : n ≤ 9223372036854775807) (hp : RightP p) : ofS n p = true ↔ decide (p.1 < 0) = decide (n < 0) ∧ layD p.1 p.2 = ofN n := by
  obtain ⟨M, E⟩ := p
  unfold ofS sameF
  rw [Bool.and_eq_true, Bool.and_eq_true, all_eq (layD_lt96 hp) (ofN_lt96 h0 h1)]
  simp
theorem sgn_ofN (n : Int) : sgn (decide (n < 0)) (ofN n) = n * ((10 ^ 48 : Nat) : Int) := by
  unfold sgn ofN
  by_cases h : n < 0
  · simp only [h, decide_true, if_true]; rw [Int.natCast_mul, ← Int.neg_mul]; congr 1; omega
  · simp only [h, decide_false, Bool.false_eq_true, if_false]; rw [Int.natCast_mul]; congr 1; omega
theorem near_ofN (n : Int) : near (decide (n < 0)) (ofN n) false = nearZ (n * ((10 ^ 48 : Nat) : Int)) := by rw [← sgn_ofN, nearZ_sgn]
/-- A whole number that has a right decimal is it. -/
theorem ofD_of {n : Int} {p : Int × Int} (h0 : -9223372036854775808 ≤ n) (h1 : n ≤ 9223372036854775807) (hp : RightP p) (hv : valZ p = n * ((10 ^ 48 : Nat) : Int)) : ofD n = (p, 0) := by
  have hn : near (decide (n < 0)) (ofN n) false = (p, 0) := by rw [near_ofN, ← hv, nearZ_val hp]
  refine ofD_yes hn ((ofS_iff h0 h1 hp).2 ⟨?_, ?_⟩)
  · have hneg := valZ_neg p
    rw [hv] at hneg
    rw [decide_eq_decide, ← hneg]
    have hP := p48_pos
    generalize ((10 ^ 48 : Nat) : Int) = T at *
    constructor
    · intro h
      refine Classical.byContradiction fun h2 => ?_
      have := Int.mul_nonneg (show 0 ≤ n by omega) (Int.le_of_lt hP)
      omega
    · intro h; exact Int.mul_neg_of_neg_of_pos h hP
  · obtain ⟨M, E⟩ := p
    rw [layD_abs, hv, Int.natAbs_mul]; rfl
theorem ofD_ok {n : Int} {p : Int × Int} (h0 : -9223372036854775808 ≤ n) (h1 : n ≤ 9223372036854775807) (h : ofD n = (p, 0)) : RightP p ∧ valZ p = n * ((10 ^ 48 : Nat) : Int) := by
  rcases near_two (decide (n < 0)) (ofN n) with hn | hn
  · obtain ⟨q, hq⟩ : ∃ q, near (decide (n < 0)) (ofN n) false = (q, 0) := ⟨_, Prod.ext rfl hn⟩
    have hR := near_right hq
    cases hs : ofS n q
    · rw [ofD_no hq hs] at h; cases h
    · rw [ofD_yes hq hs] at h
      obtain rfl : q = p := (Prod.mk.inj h).1
      refine ⟨hR, ?_⟩
      obtain ⟨h2, h3⟩ := (ofS_iff h0 h1 hR).1 hs
      rw [← sgn_ofN, ← h2, ← h3]
      exact (sgn_lay q.1 q.2).symm
  · rw [ofD_bad hn] at h; cases h
theorem ofD_two (n : Int) : (∃ p, ofD n = (p, 0)) ∨ ofD n = ((0, 0), 10) := by
  rcases near_two (decide (n < 0)) (ofN n) with hn | hn
  · obtain ⟨q, hq⟩ : ∃ q, near (decide (n < 0)) (ofN n) false = (q, 0) := ⟨_, Prod.ext rfl hn⟩
    cases hs : ofS n q
    · exact .inr (ofD_no hq hs)
    · exact .inl ⟨q, ofD_yes hq hs⟩
  · exact .inr (ofD_bad hn)
/-- There is a right decimal of each number of so many parts. -/
theorem rep_exists (s : Bool) {q : Nat} {E : Int} (hq : q < 10 ^ 15) (e0 : -9 ≤ E) (e1 : E ≤ 9) : ∃ p, RightP p ∧ valZ p = sgn s (q * 10 ^ (48 + E).toNat) := ⟨decOf s q E, decOf_right s hq e0 e1, decOf_val s hq e0 e1⟩
theorem whole_exists {n : Int} (h : n.natAbs < 10 ^ 15) : ∃ p, RightP p ∧ valZ p = n * ((10 ^ 48 : Nat) : Int) := by
  obtain ⟨p, h1, h2⟩ := rep_exists (decide (n < 0)) h (show (-9 : Int) ≤ 0 by decide) (by decide)
  exact ⟨p, h1, by rw [h2, ← sgn_ofN]; rfl⟩

theorem mulZ_val {M E M' E' : Int} (h : RightP (M, E)) (h' : RightP (M', E')) : mulZ M E M' E' * ((10 ^ 48 : Nat) : Int) = valZ (M, E) * valZ (M', E') := by
  obtain ⟨_, _, a, b, _⟩ := h
  obtain ⟨_, _, c, d, _⟩ := h'
  unfold mulZ valZ
  simp only at a b c d ⊢
  have e : (10 ^ (48 + (E + E')).toNat : Nat) * 10 ^ 48 = 10 ^ (48 + E).toNat * 10 ^ (48 + E').toNat := by
    rw [← Nat.pow_add, ← Nat.pow_add]; congr 1; omega
  have e2 := congrArg (fun n : Nat => (n : Int)) e
  simp only [Int.natCast_mul] at e2
  rw [Int.mul_assoc, e2]
  ac_rfl
theorem mulZ_whole {M E M' E' n m : Int} (h : RightP (M, E)) (h' : RightP (M', E')) (hn : valZ (M, E) = n * ((10 ^ 48 : Nat) : Int)) (hm : valZ (M', E') = m * ((10 ^ 48 : Nat) : Int)) : mulZ M E M' E' = n * m * ((10 ^ 48 : Nat) : Int) := by
  have := mulZ_val h h'
  rw [hn, hm] at this
  have hP := p48_pos
  generalize ((10 ^ 48 : Nat) : Int) = T at *
  refine Int.eq_of_mul_eq_mul_right (Int.ne_of_gt hP) ?_
  rw [this]; ac_rfl

/-! ### floors -/
theorem fup_iff {M E : Int} : floorUp M E = true ↔ M < 0 ∧ (valZ (M, E)).natAbs % 10 ^ 48 ≠ 0 := by
  unfold floorUp
  rw [restD_half _ _ (by decide), layD_abs, Bool.and_eq_true, decide_eq_true_eq, decide_eq_true_eq]
  unfold halfC
  simp only [Bool.false_eq_true, if_false]
  generalize (valZ (M, E)).natAbs % 10 ^ 48 = r
  generalize 10 ^ 48 = U
  constructor
  · rintro ⟨h1, h2⟩
    refine ⟨h1, fun h => ?_⟩
    rw [if_pos h] at h2; exact absurd h2 (by decide)
  · rintro ⟨h1, h2⟩
    refine ⟨h1, ?_⟩
    rw [if_neg h2]
    (repeat' split) <;> decide
theorem floor_neg_eq {a T : Nat} (hT : 0 < T) : -(a : Int) / (T : Int) = -((a / T + (if a % T ≠ 0 then 1 else 0) : Nat) : Int) := by
  have hd := Nat.div_add_mod a T
  have hm := Nat.mod_lt a hT
  have hd2 : (T : Int) * ((a / T : Nat) : Int) + ((a % T : Nat) : Int) = (a : Int) := by rw [← Int.natCast_mul, ← Int.natCast_add, hd]
  by_cases c : a % T = 0
  · rw [if_neg (by omega), Nat.add_zero]
    refine ((Int.ediv_emod_unique (r := 0) (by omega)).2 ⟨?_, by omega, by omega⟩).1
    rw [c] at hd2
    rw [Int.mul_neg]; omega
  · rw [if_pos c]
    refine ((Int.ediv_emod_unique (r := (T : Int) - ((a % T : Nat) : Int)) (by omega)).2 ⟨?_, by omega, by omega⟩).1
    rw [Int.mul_neg, Int.natCast_add, Int.mul_add]; omega
theorem floorD_Z {M E : Int} (h : RightP (M, E)) : floorD M E = if (valZ (M, E) / ((10 ^ 48 : Nat) : Int)).natAbs < 10 ^ 15 then (valZ (M, E) / ((10 ^ 48 : Nat) : Int), 0) else (0, 10) := by
  unfold floorD floorR
  rw [if_pos (rightB_P.2 h)]
  have hneg := valZ_neg (M, E)
  simp only at hneg
  have hup := @fup_iff M E
  have hq : floorQ M E = (valZ (M, E)).natAbs / 10 ^ 48 + (if M < 0 ∧ (valZ (M, E)).natAbs % 10 ^ 48 ≠ 0 then 1 else 0) := by
    unfold floorQ
    rw [layD_abs]
    by_cases c : floorUp M E = true
    · rw [if_pos c, if_pos (hup.1 c)]
    · rw [if_neg c, if_neg (fun x => c (hup.2 x))]
  rw [hq]
  have hP : 0 < 10 ^ 48 := by decide
  generalize valZ (M, E) = z at *
  generalize 10 ^ 48 = T at *
  by_cases hM : M < 0
  · obtain ⟨a, rfl⟩ : ∃ a : Nat, z = -(a : Int) := ⟨z.natAbs, by have := hneg.2 hM; omega⟩
    rw [Int.natAbs_neg, Int.natAbs_natCast, floor_neg_eq hP, Int.natAbs_neg, Int.natAbs_natCast, if_pos hM]
    simp only [hM, true_and]
  · obtain ⟨a, rfl⟩ : ∃ a : Nat, z = (a : Int) := ⟨z.natAbs, by have := mt hneg.1 hM; omega⟩
    rw [Int.natAbs_natCast, ← Int.natCast_ediv, Int.natAbs_natCast]
    simp only [hM, false_and, if_false, Nat.add_zero]

/-! ### order -/
theorem layD_iff {M E M' E' : Int} : layD M' E' < layD M E ↔ (valZ (M', E')).natAbs < (valZ (M, E)).natAbs := by rw [layD_abs, layD_abs]
theorem cmpD_Z {M E M' E' : Int} (h : RightP (M, E)) (h' : RightP (M', E')) : cmpD M E M' E' = if valZ (M, E) < valZ (M', E') then -1 else if valZ (M, E) = valZ (M', E') then 0 else 1 := by
  unfold cmpD cmpR
  rw [if_pos ⟨rightB_P.2 h, rightB_P.2 h'⟩]
  have n1 := valZ_neg (M, E)
  have n2 := valZ_neg (M', E')
  have hl := @layD_iff M E M' E'
  have hinj : valZ (M, E) = valZ (M', E') ↔ M = M' ∧ E = E' := by
    constructor
    · intro e
      have := val_inj h h' e
      exact ⟨(Prod.mk.inj this).1, (Prod.mk.inj this).2⟩
    · rintro ⟨rfl, rfl⟩; rfl
  simp only at n1 n2
  simp only [← hinj, hl, ← n1, ← n2]
  generalize valZ (M, E) = z at *
  generalize valZ (M', E') = z' at *
  (repeat' split) <;> omega
end Go.Proofs.YtpkohfdebgiloaaDoor
