/- DecOrder, DecNear, DecWhole without the program. -/
import Derived.Test.YtpkohfdebgiloaaDoorWorth2
namespace Go.Proofs.YtpkohfdebgiloaaDoor

/-! ### signs -/
theorem rhe_pos {D U : Nat} (hU : 0 < U) (h : U ≤ D) : 1 ≤ rhe D U := rhe_ge hU (by omega)
theorem nearZ_sign {z : Int} {p : Int × Int} (hz : z.natAbs % 10 ^ 39 = 0) (h : nearZ z = (p, 0)) : (p.1 < 0 ↔ z < 0) ∧ (0 < p.1 ↔ 0 < z) := by
  unfold nearZ at h
  obtain ⟨e, e0, e1, h2, h3, hp⟩ := near_ok h
  have hv : valZ p = sgn (decide (z < 0)) (rhe z.natAbs (10 ^ (48 + e).toNat) * 10 ^ (48 + e).toNat) := by rw [hp]; exact decOf_val _ h2 e0 e1
  have hpos : z ≠ 0 → 1 ≤ rhe z.natAbs (10 ^ (48 + e).toNat) := by
    intro hz0
    by_cases c : e = -9
    · subst c
      have e39 : (48 + (-9 : Int)).toNat = 39 := rfl
      rw [e39]
      refine rhe_pos (pow10_pos 39) ?_
      have := Nat.div_add_mod z.natAbs (10 ^ 39)
      rw [hz] at this
      have hne : z.natAbs / 10 ^ 39 ≠ 0 := by intro x; rw [x] at this; omega
      have : 10 ^ 39 * 1 ≤ 10 ^ 39 * (z.natAbs / 10 ^ 39) := Nat.mul_le_mul_left _ (by omega)
      omega
    · have h4 := h3 (e - 1) (by omega) (by omega)
      have hb := (rhe_bound (N := z.natAbs) (pow10_pos (48 + (e - 1)).toNat)).1
      have e2 : 10 ^ (48 + e).toNat = 10 * 10 ^ (48 + (e - 1)).toNat := by rw [Nat.mul_comm, ← Nat.pow_succ]; congr 1; omega
      have h5 : 10 ^ 15 * 10 ^ (48 + (e - 1)).toNat ≤ rhe z.natAbs (10 ^ (48 + (e - 1)).toNat) * 10 ^ (48 + (e - 1)).toNat := Nat.mul_le_mul_right _ (by omega)
      refine rhe_pos (pow10_pos _) ?_
      rw [e2]
      rw [p15] at h5
      omega
  have n1 := valZ_neg p
  have hw : 0 < 10 ^ (48 + e).toNat := pow10_pos _
  by_cases c0 : z = 0
  · subst c0
    have : rhe (0 : Int).natAbs (10 ^ (48 + e).toNat) = 0 := by
      have := rhe_mul (q := 0) hw
      rw [Nat.zero_mul] at this
      exact this
    rw [this, Nat.zero_mul] at hv
    have := valZ_zero (p := p) (by rw [hv]; rfl)
    omega
  · have h6 : 1 * 1 ≤ rhe z.natAbs (10 ^ (48 + e).toNat) * 10 ^ (48 + e).toNat := Nat.mul_le_mul (hpos c0) hw
    have hz0 : valZ p = 0 → p.1 = 0 := valZ_zero
    have hp0 : p.1 = 0 → valZ p = 0 := fun x => by unfold valZ; rw [x, Int.zero_mul]
    unfold sgn at hv
    by_cases c : z < 0
    · simp only [c, decide_true, if_true] at hv
      omega
    · simp only [c, decide_false, Bool.false_eq_true, if_false] at hv
      omega
theorem val39 {M E : Int} (h : RightP (M, E)) : (valZ (M, E)) % ((10 ^ 39 : Nat) : Int) = 0 := by
  have e0 := h.2.2.1
  simp only at e0
  unfold valZ
  have e : (10 ^ (48 + E).toNat : Nat) = 10 ^ (E + 9).toNat * 10 ^ 39 := by rw [← Nat.pow_add]; congr 1; omega
  simp only
  rw [e, Int.natCast_mul, ← Int.mul_assoc]
  exact Int.mul_emod_left _ _
theorem diff39 {M E M' E' : Int} (h : RightP (M, E)) (h' : RightP (M', E')) : (valZ (M, E) - valZ (M', E')).natAbs % 10 ^ 39 = 0 := by
  have a := val39 h
  have b := val39 h'
  have c : (valZ (M, E) - valZ (M', E')) % ((10 ^ 39 : Nat) : Int) = 0 := by rw [Int.sub_emod, a, b]; rfl
  have d := Int.dvd_of_emod_eq_zero c
  exact Nat.mod_eq_zero_of_dvd (Int.natAbs_dvd_natAbs.2 d)
/-- DecOrder, without the program. -/
theorem order_plain {x y x' y' x2 y2 : Int} (h : RightP (x, y)) (h' : RightP (x', y')) (h2 : RightP (x2, y2)) : ∃ n n2 n3 d1 d2 i : Int,
    cmpD x y x' y' = n ∧ cmpD x' y' x y = -n ∧ cmpD x' y' x2 y2 = n2 ∧ cmpD x y x2 y2 = n3 ∧ subD x y x' y' = ((d1, d2), i) ∧
    ((n == 0) = (x == x' && y == y')) ∧ -1 ≤ n ∧ n ≤ 1 ∧ (n ≤ 0 → n2 ≤ 0 → n3 ≤ 0) ∧ (i ≠ 0 ∨ i = 0 ∧ ((decide (d1 < 0) == decide (n < 0)) = true ∧ (decide (0 < d1) == decide (0 < n)) = true)) := by
  have c1 := cmpD_Z h h'
  have c2 := cmpD_Z h' h
  have c3 := cmpD_Z h' h2
  have c4 := cmpD_Z h h2
  obtain ⟨d1, d2, i, hd⟩ := pair3 (subD x y x' y')
  have hinj : valZ (x, y) = valZ (x', y') ↔ x = x' ∧ y = y' := by
    constructor
    · intro e
      have := val_inj h h' e
      exact ⟨(Prod.mk.inj this).1, (Prod.mk.inj this).2⟩
    · rintro ⟨rfl, rfl⟩; rfl
  have hs := hd
  rw [subD_Z h h'] at hs
  refine ⟨_, _, _, d1, d2, i, c1, ?_, c3, c4, hd, ?_, ?_, ?_, ?_, ?_⟩
  · rw [c2]; (repeat' split) <;> omega
  · rw [Bool.eq_iff_iff, Bool.and_eq_true, beq_iff_eq, beq_iff_eq, beq_iff_eq, ← hinj]
    (repeat' split) <;> omega
  · (repeat' split) <;> omega
  · (repeat' split) <;> omega
  · (repeat' split) <;> omega
  · by_cases c : i = 0
    · subst c
      obtain ⟨a, b⟩ := nearZ_sign (diff39 h h') hs
      simp only at a b
      refine .inr ⟨rfl, ?_, ?_⟩
      · rw [beq_iff_eq, decide_eq_decide, a]; (repeat' split) <;> omega
      · rw [beq_iff_eq, decide_eq_decide, b]; (repeat' split) <;> omega
    · exact .inl c

/-! ### quotients -/
theorem divD_Q {M E M' E' : Int} (h : RightP (M, E)) (h' : RightP (M', E')) (hz : M' ≠ 0) : divD M E M' E' = nearQ (mulS M M') (M.natAbs * 10 ^ divP E E') M'.natAbs 19 (-9) := by
  unfold divD divR
  rw [if_pos ⟨rightB_P.2 h, rightB_P.2 h'⟩, if_neg hz, ← near_Q _ _ _ (by omega)]
  unfold quoD
  congr 1
  rw [Bool.eq_iff_iff]; simp
theorem nearQ_cross {s : Bool} {N B N' m : Nat} (hB : 0 < B) (hm : 0 < m) (h : N * m = B * N') : ∀ (n : Nat) (e : Int), nearQ s N B n e = nearQ s N' m n e
  | 0, _ => rfl
  | n + 1, e => by
    have hU := pow10_pos (48 + e).toNat
    have : rhe N (B * 10 ^ (48 + e).toNat) = rhe N' (m * 10 ^ (48 + e).toNat) := by
      rw [← rhe_scale (N := N) hm (Nat.mul_pos hB hU), ← rhe_scale (N := N') hB (Nat.mul_pos hm hU)]
      congr 1
      · rw [Nat.mul_comm]; exact h
      · rw [← Nat.mul_assoc, ← Nat.mul_assoc, Nat.mul_comm m B]
    rw [nearQ, nearQ, this, nearQ_cross hB hm h n (e + 1)]
/-- The quotient of whole numbers. -/
theorem div_whole {M E M' E' n m : Int} (h : RightP (M, E)) (h' : RightP (M', E')) (hn : valZ (M, E) = n * ((10 ^ 48 : Nat) : Int)) (hm : valZ (M', E') = m * ((10 ^ 48 : Nat) : Int)) (hz : m ≠ 0) :
    M' ≠ 0 ∧ divD M E M' E' = nearQ (mulS M M') (n.natAbs * 10 ^ 48) m.natAbs 19 (-9) := by
  have hP := p48_pos
  have hM' : M' ≠ 0 := by
    intro e
    rw [e] at hm
    unfold valZ at hm
    rw [Int.zero_mul] at hm
    rcases Int.mul_eq_zero.1 hm.symm with x | x
    · exact hz x
    · omega
  refine ⟨hM', ?_⟩
  rw [divD_Q h h' hM']
  refine nearQ_cross (by omega) (by omega) ?_ 19 (-9)
  have a := valZ_abs (M, E)
  have b := valZ_abs (M', E')
  rw [hn, Int.natAbs_mul, Int.natAbs_natCast] at a
  rw [hm, Int.natAbs_mul, Int.natAbs_natCast] at b
  simp only at a b
  obtain ⟨_, _, e0, e1, _⟩ := h
  obtain ⟨_, _, g0, g1, _⟩ := h'
  simp only at e0 e1 g0 g1
  -- N * m * T = |M| 10^(48+E-E') |M'| 10^(48+E') = |M'| |M| 10^(48+E) T = |M'| |n| T T
  refine Nat.eq_of_mul_eq_mul_right (pow10_pos 48) ?_
  have e : 10 ^ divP E E' * 10 ^ (48 + E').toNat = 10 ^ (48 + E).toNat * 10 ^ 48 := by
    unfold divP; rw [← Nat.pow_add, ← Nat.pow_add]; congr 1; omega
  calc M.natAbs * 10 ^ divP E E' * m.natAbs * 10 ^ 48 = M.natAbs * 10 ^ divP E E' * (m.natAbs * 10 ^ 48) := by rw [Nat.mul_assoc]
    _ = M.natAbs * M'.natAbs * (10 ^ divP E E' * 10 ^ (48 + E').toNat) := by rw [b]; ac_rfl
    _ = M'.natAbs * (M.natAbs * 10 ^ (48 + E).toNat) * 10 ^ 48 := by rw [e]; ac_rfl
    _ = M'.natAbs * (n.natAbs * 10 ^ 48) * 10 ^ 48 := by rw [a]
theorem nearQ_okz {s : Bool} {N B : Nat} {p : Int × Int} (h : nearQ s N B 19 (-9) = (p, 0)) : ∃ e : Int, -9 ≤ e ∧ e ≤ 9 ∧ rhe N (B * 10 ^ (48 + e).toNat) < 10 ^ 15 ∧ (∀ i : Int, -9 ≤ i → i < e → ¬ rhe N (B * 10 ^ (48 + i).toNat) < 10 ^ 15) ∧ p = decOf s (rhe N (B * 10 ^ (48 + e).toNat)) e := by
  obtain ⟨j, h1, h2, h3, h4⟩ := nearQ_ok s N B 19 (-9) p h
  refine ⟨-9 + j, by omega, by omega, h2, fun i hi hlt => ?_, h4⟩
  have := h3 (i + 9).toNat (by omega)
  rw [show -9 + (((i + 9).toNat : Nat) : Int) = i by omega] at this
  exact this
theorem nearQ_up {s : Bool} {N B q : Nat} {E : Int} (hB : 0 < B) (hq : q < 10 ^ 15) (e0 : -9 ≤ E) (e1 : E ≤ 9) (hD : N ≤ B * (q * 10 ^ (48 + E).toNat)) :
    ∃ p v, nearQ s N B 19 (-9) = (p, 0) ∧ RightP p ∧ valZ p = sgn s v ∧ v ≤ q * 10 ^ (48 + E).toNat := by
  have hE : rhe N (B * 10 ^ (48 + E).toNat) ≤ q := rhe_le (Nat.mul_pos hB (pow10_pos _)) (by rw [Nat.mul_left_comm]; exact hD)
  rcases nearQ_err s N B 19 (-9) with h | h
  · obtain ⟨p, c⟩ : ∃ p, nearQ s N B 19 (-9) = (p, 0) := ⟨_, Prod.ext rfl h⟩
    obtain ⟨e, h1, h2, h3, h4, rfl⟩ := nearQ_okz c
    have he : e ≤ E := by
      refine Classical.byContradiction fun hc => ?_
      exact h4 E e0 (by omega) (by omega)
    refine ⟨_, _, c, decOf_right s h3 h1 h2, decOf_val s h3 h1 h2, ?_⟩
    have e2 : q * 10 ^ (48 + E).toNat = q * 10 ^ (E - e).toNat * 10 ^ (48 + e).toNat := by
      rw [Nat.mul_assoc, ← Nat.pow_add]; congr 2; omega
    rw [e2] at hD ⊢
    exact Nat.mul_le_mul_right _ (rhe_le (Nat.mul_pos hB (pow10_pos _)) (by rw [Nat.mul_left_comm]; exact hD))
  · have := (nearQ_no s N B 19 (-9) (by rw [h]; decide)).2 (E + 9).toNat (by omega)
    rw [show -9 + (((E + 9).toNat : Nat) : Int) = E by omega] at this
    omega
theorem nearQ_low {s : Bool} {N B q v : Nat} {E : Int} {p : Int × Int} (hB : 0 < B) (hq : q < 10 ^ 15) (e0 : -9 ≤ E) (e1 : E ≤ 9) (hD : B * (q * 10 ^ (48 + E).toNat) ≤ N)
    (h : nearQ s N B 19 (-9) = (p, 0)) (hv : valZ p = sgn s v) : q * 10 ^ (48 + E).toNat ≤ v := by
  obtain ⟨e, h1, h2, h3, h4, rfl⟩ := nearQ_okz h
  rw [decOf_val s h3 h1 h2] at hv
  have hv2 : v = rhe N (B * 10 ^ (48 + e).toNat) * 10 ^ (48 + e).toNat := by
    have := congrArg Int.natAbs hv
    rw [sgn_abs, sgn_abs] at this
    exact this.symm
  rw [hv2]
  by_cases he : e ≤ E
  · have e2 : q * 10 ^ (48 + E).toNat = q * 10 ^ (E - e).toNat * 10 ^ (48 + e).toNat := by
      rw [Nat.mul_assoc, ← Nat.pow_add]; congr 2; omega
    rw [e2] at hD ⊢
    exact Nat.mul_le_mul_right _ (rhe_ge (Nat.mul_pos hB (pow10_pos _)) (by rw [Nat.mul_left_comm]; exact hD))
  · have h5 := h4 (e - 1) (by omega) (by omega)
    have hU := pow10_pos (48 + (e - 1)).toNat
    have hBU := Nat.mul_pos hB hU
    have hb := (rhe_bound (N := N) hBU).1
    have h6 : 10 ^ 15 * (B * 10 ^ (48 + (e - 1)).toNat) ≤ rhe N (B * 10 ^ (48 + (e - 1)).toNat) * (B * 10 ^ (48 + (e - 1)).toNat) := Nat.mul_le_mul_right _ (by omega)
    have e2 : 10 ^ (48 + e).toNat = 10 * 10 ^ (48 + (e - 1)).toNat := by rw [Nat.mul_comm, ← Nat.pow_succ]; congr 1; omega
    have h7 : 10 ^ 14 ≤ rhe N (B * 10 ^ (48 + e).toNat) := by
      have hb2 := (rhe_bound (N := N) (U := B * 10 ^ (48 + e).toNat) (Nat.mul_pos hB (pow10_pos _))).2
      refine Classical.byContradiction fun x => ?_
      have h8 : rhe N (B * 10 ^ (48 + e).toNat) * (B * 10 ^ (48 + e).toNat) ≤ 99999999999999 * (B * 10 ^ (48 + e).toNat) := Nat.mul_le_mul_right _ (by rw [show (10 : Nat) ^ 14 = 100000000000000 from by decide] at x; omega)
      rw [e2] at h8 hb2
      rw [Nat.mul_left_comm B 10] at h8 hb2
      rw [p15] at h6
      generalize B * 10 ^ (48 + (e - 1)).toNat = Y at *
      omega
    have h9 : q * 10 ^ (48 + E).toNat ≤ 10 ^ 15 * 10 ^ (48 + (e - 1)).toNat := Nat.mul_le_mul (Nat.le_of_lt hq) (Nat.pow_le_pow_right (by decide) (by omega))
    have h10 : 10 ^ 14 * 10 ^ (48 + e).toNat ≤ rhe N (B * 10 ^ (48 + e).toNat) * 10 ^ (48 + e).toNat := Nat.mul_le_mul_right _ h7
    rw [e2] at h10 ⊢
    rw [p15] at h9
    rw [show (10 : Nat) ^ 14 = 100000000000000 from by decide] at h10
    generalize 10 ^ (48 + (e - 1)).toNat = Y at *
    omega
end Go.Proofs.YtpkohfdebgiloaaDoor
