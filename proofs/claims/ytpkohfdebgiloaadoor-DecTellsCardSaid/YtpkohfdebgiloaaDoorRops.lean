/- Merged: Refs2, Radd, Rmul, Rdiv, Rpow. -/
import Derived.Test.YtpkohfdebgiloaaDoorNrr
import Derived.Test.YtpkohfdebgiloaaDoorWorth
import Derived.Deep.RegionHeld3
import Derived.Test.YtpkohfdebgiloaaDoorPow
/- What the document's own answers come to, in plain numbers: no program. -/
namespace Go.Proofs.YtpkohfdebgiloaaDoor

theorem layD_whole (M : Int) {E : Int} (h : -9 ≤ E) : layD M E = wholeN M E * 10 ^ 39 := (whole_tens M h).symm
theorem p39 : 0 < (10 : Nat) ^ 39 := pow10_pos 39

/-! ### sums -/
theorem add_same {M E M' E' : Int} (h : -9 ≤ E) (h' : -9 ≤ E') (hs : decide (M < 0) = decide (M' < 0)) : refQ (decide (M < 0)) (wholeN M E + wholeN M' E') (10 ^ 9) = addR M E M' E' := by
  rw [refQ_nine]
  unfold addR plusD
  rw [if_pos hs, layD_whole M h, layD_whole M' h', Nat.add_mul]
theorem add_less {M E M' E' : Int} (h : -9 ≤ E) (h' : -9 ≤ E') (hs : ¬ decide (M < 0) = decide (M' < 0)) (hl : wholeN M E < wholeN M' E') : refQ (decide (M' < 0)) (wholeN M' E' - wholeN M E) (10 ^ 9) = addR M E M' E' := by
  rw [refQ_nine]
  unfold addR plusD
  rw [layD_whole M h, layD_whole M' h', if_neg hs, if_pos ((Nat.mul_lt_mul_right p39).2 hl), Nat.sub_mul]
theorem add_more {M E M' E' : Int} (h : -9 ≤ E) (h' : -9 ≤ E') (hs : ¬ decide (M < 0) = decide (M' < 0)) (hl : ¬ wholeN M E < wholeN M' E') : refQ (decide (M < 0)) (wholeN M E - wholeN M' E') (10 ^ 9) = addR M E M' E' := by
  rw [refQ_nine]
  unfold addR plusD
  rw [layD_whole M h, layD_whole M' h', if_neg hs, if_neg (fun c => hl ((Nat.mul_lt_mul_right p39).1 c)), Nat.sub_mul]

/-! ### a product, a quotient -/
theorem mul_ref {M E M' E' : Int} (h : -9 ≤ E) (h' : -9 ≤ E') : refQ (mulS M M') (wholeN M E * wholeN M' E') (10 ^ 18) = mulR M E M' E' := by
  rw [refQ_times _ _ _ h h']; rfl
theorem div_ref {M E M' E' : Int} (hM : M' ≠ 0) (h : -9 ≤ E) (hE : E ≤ 9) (h' : -9 ≤ E') (hE' : E' ≤ 9) : refQ (mulS M M') (wholeN M E) (wholeN M' E') = divR M E M' E' := by
  rw [refQ_by _ _ hM h hE h' hE']
  unfold divR divP quoD
  congr 1
  rw [Bool.eq_iff_iff]; simp

/-! ### a rounding -/
theorem half_up {r J : Nat} (hJ : 0 < J) : 0 ≤ halfC (r * 10 ^ 39) (J * 10 ^ 39) false ↔ ¬ r + r < J := by
  unfold halfC
  have hp := p39
  generalize (10 : Nat) ^ 39 = P at *
  have e1 : r * P = 0 ↔ r = 0 := by rw [Nat.mul_eq_zero]; omega
  have e2 : 2 * (r * P) < J * P ↔ 2 * r < J := by rw [← Nat.mul_assoc]; exact Nat.mul_lt_mul_right hp
  have e3 : 2 * (r * P) = J * P ↔ 2 * r = J := by rw [← Nat.mul_assoc]; exact ⟨fun h => Nat.eq_of_mul_eq_mul_right hp h, fun h => by rw [h]⟩
  simp only [Bool.false_eq_true, if_false, e1, e2, e3]
  repeat' split
  all_goals omega
theorem half_any {r J : Nat} : -2 < halfC (r * 10 ^ 39) J false ↔ r ≠ 0 := by
  unfold halfC
  have hp := p39
  generalize (10 : Nat) ^ 39 = P at *
  have e1 : r * P = 0 ↔ r = 0 := by rw [Nat.mul_eq_zero]; omega
  simp only [Bool.false_eq_true, if_false, e1]
  repeat' split
  all_goals omega
/-- A whole number rounded at a step, halves up. -/
def stepN (x J : Nat) : Nat := x / J + (if x % J + x % J < J then 0 else 1)
theorem round_ref {M E n : Int} (h : -9 ≤ E) (n1 : n ≤ 9) : refQ (decide (M < 0)) (stepN (wholeN M E) (10 ^ (9 - n).toNat) * 10 ^ (9 - n).toNat) (10 ^ 9) = roundR M E n := by
  rw [refQ_nine]
  unfold roundR cutN stepN
  have e : (48 - n).toNat = (9 - n).toNat + 39 := by omega
  rw [restD_half _ _ (by omega), layD_whole M h, e, Nat.pow_add, Nat.mul_div_mul_right _ _ p39, Nat.mul_mod_mul_right, ← Nat.mul_assoc]
  have hJ := pow10_pos (9 - n).toNat
  generalize (10 : Nat) ^ (9 - n).toNat = J at *
  have hh := half_up (r := wholeN M E % J) hJ
  by_cases c : wholeN M E % J + wholeN M E % J < J
  · rw [if_pos c, if_neg (by rw [decide_eq_true_eq]; exact fun a => hh.1 a c)]
  · rw [if_neg c, if_pos (by rw [decide_eq_true_eq]; exact hh.2 c)]

/-! ### whole numbers beneath -/
theorem floor_ref {M E : Int} (h : -9 ≤ E) : floorQ M E = wholeN M E / 10 ^ 9 + (if M < 0 ∧ wholeN M E % 10 ^ 9 ≠ 0 then 1 else 0) := by
  unfold floorQ floorUp
  have e : (10 : Nat) ^ 48 = 10 ^ 9 * 10 ^ 39 := by rw [← Nat.pow_add]
  rw [restD_half _ _ (by decide), layD_whole M h, e, Nat.mul_div_mul_right _ _ p39, Nat.mul_mod_mul_right]
  have hh := half_any (r := wholeN M E % 10 ^ 9) (J := 10 ^ 9 * 10 ^ 39)
  generalize (10 : Nat) ^ 39 = P at *
  by_cases c : M < 0 ∧ wholeN M E % 10 ^ 9 ≠ 0
  · rw [if_pos c, if_pos (by rw [Bool.and_eq_true, decide_eq_true_eq, decide_eq_true_eq]; exact ⟨c.1, hh.2 c.2⟩)]
  · rw [if_neg c, if_neg (by rw [Bool.and_eq_true, decide_eq_true_eq, decide_eq_true_eq]; exact fun a => c ⟨a.1, hh.1 a.2⟩)]

/-! ### order -/
theorem whole_inj {M E M' E' : Int} (h : RightP (M, E)) (h' : RightP (M', E')) (hs : decide (M < 0) = decide (M' < 0)) (e : wholeN M E = wholeN M' E') : M = M' ∧ E = E' := by
  have : (M, E) = (M', E') := by
    refine val_inj h h' ?_
    rw [← sgn_lay, ← sgn_lay, hs, layD_whole M h.2.2.1, layD_whole M' h'.2.2.1, e]
  exact Prod.mk.inj this
theorem cmp_ref {M E M' E' : Int} (h : RightP (M, E)) (h' : RightP (M', E')) (hne : ¬ (M = M' ∧ E = E')) (hs : decide (M < 0) = decide (M' < 0)) : cmpR M E M' E' = if decide (wholeN M E < wholeN M' E') = decide (M < 0) then 1 else -1 := by
  unfold cmpR
  have hx : wholeN M E ≠ wholeN M' E' := fun e => hne (whole_inj h h' hs e)
  have hs2 : M < 0 ↔ M' < 0 := by rw [decide_eq_decide] at hs; exact hs
  rw [if_neg hne, if_neg (fun a => a.2 (hs2.1 a.1)), if_neg (fun a => a.1 (hs2.2 a.2)), layD_whole M h.2.2.1, layD_whole M' h'.2.2.1]
  simp only [Nat.mul_lt_mul_right p39]
  by_cases c : M < 0
  · rw [if_pos c, decide_eq_true c]
    by_cases d : wholeN M' E' < wholeN M E
    · rw [if_pos d, if_neg (by rw [decide_eq_true_eq]; omega)]
    · rw [if_neg d, if_pos (by rw [decide_eq_true_eq]; omega)]
  · rw [if_neg c, decide_eq_false c]
    by_cases d : wholeN M' E' < wholeN M E
    · rw [if_pos d, if_pos (by rw [decide_eq_false_iff_not]; omega)]
    · rw [if_neg d, if_neg (by rw [decide_eq_false_iff_not]; omega)]

/-! ### an int's decimal -/
theorem near_sign {s : Bool} {D : Nat} {p : Int × Int} (h : near s D false = (p, 0)) (h0 : p.1 ≠ 0) : decide (p.1 < 0) = s := by
  obtain ⟨e, h1, h2, h3, _, rfl⟩ := near_ok h
  have hv := decOf_val s h3 h1 h2
  have hn := valZ_neg (decOf s (rhe D (10 ^ (48 + e).toNat)) e)
  have ha := valZ_abs (decOf s (rhe D (10 ^ (48 + e).toNat)) e)
  have hp := pow10_pos (48 + (decOf s (rhe D (10 ^ (48 + e).toNat)) e).2).toNat
  generalize decOf s (rhe D (10 ^ (48 + e).toNat)) e = q at *
  have hz : valZ q ≠ 0 := by
    intro c
    rw [c] at ha
    rcases Nat.mul_eq_zero.1 ha.symm with z | z
    · exact h0 (Int.natAbs_eq_zero.1 z)
    · omega
  obtain ⟨K, hK⟩ : ∃ K, rhe D (10 ^ (48 + e).toNat) * 10 ^ (48 + e).toNat = K := ⟨_, rfl⟩
  rw [hK] at hv
  cases s
  · rw [decide_eq_false_iff_not, ← hn, hv]; show ¬ (K : Int) < 0; omega
  · rw [decide_eq_true_eq, ← hn]
    have : valZ q = -(K : Int) := hv
    omega
theorem of_ref {n : Int} {p : Int × Int} (h0 : -9223372036854775808 ≤ n) (h1 : n ≤ 9223372036854775807) (h : near (decide (n < 0)) (ofN n) false = (p, 0)) : ofS n p = decide (wholeN p.1 p.2 = n.natAbs * 10 ^ 9) := by
  have hp := near_right h
  rw [Bool.eq_iff_iff, ofS_iff h0 h1 hp, decide_eq_true_eq, layD_whole p.1 hp.2.2.1]
  have e : ofN n = n.natAbs * 10 ^ 9 * 10 ^ 39 := by unfold ofN; rw [Nat.mul_assoc, ← Nat.pow_add]
  rw [e]
  have hp39 := p39
  constructor
  · intro c; exact Nat.eq_of_mul_eq_mul_right hp39 c.2
  · intro c
    refine ⟨?_, by rw [c]⟩
    by_cases z : p.1 = 0
    · have : n.natAbs * 10 ^ 9 = 0 := by rw [← c]; unfold wholeN; rw [z]; simp
      have : n.natAbs = 0 := (Nat.mul_eq_zero.1 this).resolve_right (Nat.ne_of_gt (pow10_pos 9))
      rw [z, show n = 0 by omega]
    · exact near_sign h z
theorem of_lay (n : Int) : refQ (decide (n < 0)) n.natAbs 1 = near (decide (n < 0)) (ofN n) false := refQ_one _ _

/-! ### what is read -/
theorem sameD_iff {A B : Nat} (ha : A < 10 ^ 96) (hb : B < 10 ^ 96) : sameD A B = decide (A = B) := by
  rw [Bool.eq_iff_iff, decide_eq_true_eq]
  unfold sameD
  rw [List.all_eq_true]
  constructor
  · intro h
    have h2 : ∀ k, k ≤ 96 → A % 10 ^ k = B % 10 ^ k := by
      intro k
      induction k with
      | zero => intro _; rw [Nat.pow_zero, Nat.mod_one, Nat.mod_one]
      | succ k ih =>
        intro hk
        have := h k (List.mem_range.2 (by omega))
        rw [beq_iff_eq] at this
        have e : A / 10 ^ k % 10 = B / 10 ^ k % 10 := by unfold dg at this; omega
        rw [mod_succ, mod_succ, ih (by omega), e]
    have := h2 96 (Nat.le_refl _)
    rwa [Nat.mod_eq_of_lt ha, Nat.mod_eq_of_lt hb] at this
  · rintro rfl k _; exact beq_self_eq_true _
theorem valW_append (B : List UInt8) : ∀ A : List UInt8, valW (A ++ B) = valW A * 10 ^ B.length + valW B
  | [] => by rw [List.nil_append, valW, Nat.zero_mul, Nat.zero_add]
  | c :: A => by rw [List.cons_append, valW, valW, valW_append B A, List.length_append, Nat.pow_add, Nat.add_mul, ← Nat.mul_assoc, Nat.add_assoc]
theorem readN_ref {A B : List UInt8} (hB : B.length ≤ 48) : readN A B = valW (A ++ B) * 10 ^ (48 - B.length) := by
  unfold readN
  rw [valW_append, Nat.add_mul, Nat.mul_assoc, ← Nat.pow_add]
  congr 3; omega
theorem read_near (s : Bool) {A B : List UInt8} (hB : B.length ≤ 48) : refQ s (valW (A ++ B)) (10 ^ B.length) = near s (readN A B) false := by
  unfold refQ
  rw [near_Q1, readN_ref hB]
  have e : valW (A ++ B) * 10 ^ 48 = 10 ^ B.length * (valW (A ++ B) * 10 ^ (48 - B.length)) := by
    rw [Nat.mul_left_comm, ← Nat.pow_add]; congr 2; omega
  have := nearQ_scale s (c := 10 ^ B.length) (N := valW (A ++ B) * 10 ^ (48 - B.length)) (B := 1) (pow10_pos _) (by decide) 19 (-9)
  rw [Nat.mul_one] at this
  rw [e, this]
theorem read_same {A B : List UInt8} {p : Int × Int} (hp : RightP p) (hA : figB A = true) (hB : B = [] ∨ figB B = true) : sameD (layD p.1 p.2) (readN A B) = decide (wholeN p.1 p.2 * 10 ^ B.length = valW (A ++ B) * 10 ^ 9) := by
  obtain ⟨a1, a2, a3⟩ := figB_iff hA
  have hb : B.length ≤ 40 ∧ B.all (fun c => digS.contains c) = true := by
    rcases hB with rfl | h
    · exact ⟨by decide, rfl⟩
    · exact ⟨(figB_iff h).2.1, (figB_iff h).2.2⟩
  have hr := readN_lt a3 hb.2 a2 hb.1
  have hl : layD p.1 p.2 < 10 ^ 96 := Nat.lt_trans (layD_lt (rightB_P.2 hp)) (by decide)
  have hr2 : readN A B < 10 ^ 96 := by omega
  rw [sameD_iff hl hr2, decide_eq_decide, readN_ref (by omega), layD_whole p.1 hp.2.2.1]
  have hP := pow10_pos B.length
  have e1 : valW (A ++ B) * 10 ^ (48 - B.length) * 10 ^ B.length = valW (A ++ B) * 10 ^ 9 * 10 ^ 39 := by
    rw [Nat.mul_assoc, ← Nat.pow_add, Nat.mul_assoc, ← Nat.pow_add]; congr 2; omega
  have hp39 := p39
  constructor
  · intro c
    have : wholeN p.1 p.2 * 10 ^ B.length * 10 ^ 39 = valW (A ++ B) * 10 ^ 9 * 10 ^ 39 := by rw [← e1, ← c]; ac_rfl
    exact Nat.eq_of_mul_eq_mul_right hp39 this
  · intro c
    have : wholeN p.1 p.2 * 10 ^ 39 * 10 ^ B.length = valW (A ++ B) * 10 ^ (48 - B.length) * 10 ^ B.length := by
      rw [e1, ← c]; ac_rfl
    exact Nat.eq_of_mul_eq_mul_right hP this
end Go.Proofs.YtpkohfdebgiloaaDoor
/- The document's sum. -/
namespace Go.Proofs.YtpkohfdebgiloaaDoor
open Go.RowKit Go.Shelf

theorem p9_len : lenD (10 ^ 9) = 10 := pow_len 9
theorem lenD_sub (a b : Nat) : lenD (a - b) ≤ lenD a := lenD_mono (Nat.sub_le _ _)
theorem lenD_plus {a b k : Nat} (ha : lenD a ≤ k) (hb : lenD b ≤ k) : lenD (a + b) ≤ k + 1 := by
  have := lenD_add a b; omega
theorem unit9_any (w : World) : Calls Tryd.prog 39 #[.int .i64 9] w (DlPost (10 ^ 9) w) := unit_any 9 w (by omega) (by omega)
theorem unit18_any (w : World) : Calls Tryd.prog 39 #[.int .i64 18] w (DlPost (10 ^ 18) w) := unit_any 18 w (by omega) (by omega)
theorem less_below (b b' : Nat) (v v' : Value) (x y : Nat) (w : World) (h : World.dl w b v x) (h' : World.dl w b' v' y) (hx : lenD x ≤ 1000) (hy : lenD y ≤ 1000) :
    Calls Tryd.prog 42 #[v, v'] w fun e w' => e = .returned (.bool (decide (x < y))) ∧ Below w.heap.size w w' :=
  (less_any b b' v v' x y w h h' hx hy).mono (by rintro e w' ⟨rfl, n, rfl⟩; exact ⟨rfl, below_drewN (Below.refl _ _) _⟩)
set_option maxRecDepth 100000 in
set_option maxHeartbeats 4000000 in
theorem radd_no1 (M E M' E' : Int) (w : World) (h0 : -9223372036854775808 ≤ M) (h1 : M ≤ 9223372036854775807) (_h0' : -9223372036854775808 ≤ M') (_h1' : M' ≤ 9223372036854775807) (hr : rightB M E = false) :
    Calls Tryd.prog 46 #[.agg #[.int .i64 M, .int .i64 E], .agg #[.int .i64 M', .int .i64 E']] w (DecPost ((0, 0), 10) w) := by
  go_enter Tryd.func46, Tryd.ntmps46
  go_wp2_with fail
  obtain ⟨W, hW⟩ : ∃ W, W = ((w.alloc (.cells #[.int .i64 M, .int .i64 E] 23)).alloc (.cells #[.int .i64 M', .int .i64 E'] 23)).alloc (.cells #[.int .i64 0, .int .i64 0] 23) := ⟨_, rfl⟩
  rw [← hW]
  have d0 : World.dec W w.heap.size M E := by rw [hW]; exact ((World.dec_new w M E _ rfl).alloc _).alloc _
  have d1 : World.dec W (w.heap.size + 1) M' E' := by rw [hW]; exact (World.dec_new _ M' E' _ (by simp)).alloc _
  have d2 : World.dec W (w.heap.size + 1 + 1) 0 0 := by rw [hW]; exact World.dec_new _ 0 0 _ (by simp)
  have hB : Below w.heap.size w W := by rw [hW]; exact (((Below.refl _ w).alloc (Nat.le_refl _) _).alloc (by simp) _).alloc (by simp; omega) _
  clear hW
  have a0 := d0.c0
  have a1 := d0.c1
  refine (rright_any M E _ h0 h1).mono ?_
  rintro e wr ⟨rfl, hB1⟩
  have d2 := d2.below hB1 d2.lt
  have hB := hB.trans (hB1.mono hB.size)
  have hsz := hB.size
  clear hB1
  have g0 := d2.c0
  have g1 := d2.c1
  have gf0 := d2.frozen 0
  have gf1 := d2.frozen 1
  go_wp2_with fail
  refine bodyPost_ret (results_dec_tmp rfl _ _ _ 0 0 rfl (World.dec.set1 (World.dec.set0 d2 0) 0)) rfl ?_
  exact ⟨rfl, (hB.setCell (by simp; omega) _).setCell (by simp; omega) _⟩
set_option maxRecDepth 100000 in
set_option maxHeartbeats 4000000 in
theorem radd_no2 (M E M' E' : Int) (w : World) (h0 : -9223372036854775808 ≤ M) (h1 : M ≤ 9223372036854775807) (h0' : -9223372036854775808 ≤ M') (h1' : M' ≤ 9223372036854775807) (hr : rightB M E = true) (hr' : rightB M' E' = false) :
    Calls Tryd.prog 46 #[.agg #[.int .i64 M, .int .i64 E], .agg #[.int .i64 M', .int .i64 E']] w (DecPost ((0, 0), 10) w) := by
  go_enter Tryd.func46, Tryd.ntmps46
  go_wp2_with fail
  obtain ⟨W, hW⟩ : ∃ W, W = ((w.alloc (.cells #[.int .i64 M, .int .i64 E] 23)).alloc (.cells #[.int .i64 M', .int .i64 E'] 23)).alloc (.cells #[.int .i64 0, .int .i64 0] 23) := ⟨_, rfl⟩
  rw [← hW]
  have d0 : World.dec W w.heap.size M E := by rw [hW]; exact ((World.dec_new w M E _ rfl).alloc _).alloc _
  have d1 : World.dec W (w.heap.size + 1) M' E' := by rw [hW]; exact (World.dec_new _ M' E' _ (by simp)).alloc _
  have d2 : World.dec W (w.heap.size + 1 + 1) 0 0 := by rw [hW]; exact World.dec_new _ 0 0 _ (by simp)
  have hB : Below w.heap.size w W := by rw [hW]; exact (((Below.refl _ w).alloc (Nat.le_refl _) _).alloc (by simp) _).alloc (by simp; omega) _
  clear hW
  refine (rright_any M E _ h0 h1).mono ?_
  rintro e wr ⟨rfl, hB1⟩
  have d1 := d1.below hB1 d1.lt
  have d2 := d2.below hB1 d2.lt
  have hB := hB.trans (hB1.mono hB.size)
  have hsz := hB.size
  clear hB1
  have b0 := d1.c0
  have b1 := d1.c1
  go_wp2_with fail
  refine (rright_any M' E' _ h0' h1').mono ?_
  rintro e wr ⟨rfl, hB1⟩
  have d2 := d2.below hB1 d2.lt
  have hB := hB.trans (hB1.mono hB.size)
  have hsz := hB.size
  clear hB1
  have g0 := d2.c0
  have g1 := d2.c1
  have gf0 := d2.frozen 0
  have gf1 := d2.frozen 1
  go_wp2_with fail
  refine bodyPost_ret (results_dec_tmp rfl _ _ _ 0 0 rfl (World.dec.set1 (World.dec.set0 d2 0) 0)) rfl ?_
  exact ⟨rfl, (hB.setCell (by simp; omega) _).setCell (by simp; omega) _⟩
set_option maxRecDepth 100000 in
set_option maxHeartbeats 4000000 in
theorem radd_same (M E M' E' : Int) (w : World) (h0 : -9223372036854775808 ≤ M) (h1 : M ≤ 9223372036854775807) (h0' : -9223372036854775808 ≤ M') (h1' : M' ≤ 9223372036854775807) (hr : rightB M E = true) (hr' : rightB M' E' = true) (hs : (decide (M < 0) == decide (M' < 0)) = true) :
    Calls Tryd.prog 46 #[.agg #[.int .i64 M, .int .i64 E], .agg #[.int .i64 M', .int .i64 E']] w (DecPost (addR M E M' E') w) := by
  obtain ⟨r1, r2, r3, r4, _⟩ := rightB_iff.1 hr
  obtain ⟨q1, q2, q3, q4, _⟩ := rightB_iff.1 hr'
  have hq := add_same r3 q3 (by simpa using hs)
  obtain ⟨T, hT⟩ : ∃ T, addR M E M' E' = T := ⟨_, rfl⟩
  rw [hT] at hq ⊢
  obtain ⟨⟨T1, T2⟩, T3⟩ := T
  have CX := fun w => whole_any M E w h0 h1 r3 r4
  have CY := fun w => whole_any M' E' w h0' h1' q3 q4
  have lx := wholeN_len (M := M) (E := E) (by rw [p15n]; omega) r4
  have ly := wholeN_len (M := M') (E := E') (by rw [p15n]; omega) q4
  obtain ⟨X, hX⟩ : ∃ X, wholeN M E = X := ⟨_, rfl⟩
  obtain ⟨Y, hY⟩ : ∃ Y, wholeN M' E' = Y := ⟨_, rfl⟩
  rw [hX] at CX lx
  rw [hY] at CY ly
  rw [hX, hY] at hq
  have hNl : lenD (X + Y) ≤ 34 := lenD_plus lx ly
  have CN := fun (W : World) (v v' : Value) (h : World.dl W w.heap.size v (X + Y)) (h' : World.dl W w.heap.size v' (10 ^ 9)) => near_any (decide (M < 0)) w.heap.size w.heap.size v v' (X + Y) (10 ^ 9) W h h' (by omega) (by rw [p9_len]; omega) (pow10_pos 9)
  rw [hq] at CN
  have KX := Lib.hid CX
  have KY := Lib.hid CY
  have KN := Lib.hid CN
  have LX := Lib.hid lx
  have LY := Lib.hid ly

  clear hq hT hX hY CX CY CN lx ly hNl
  go_enter Tryd.func46, Tryd.ntmps46
  go_wp2_with fail
  obtain ⟨W, hW⟩ : ∃ W, W = ((w.alloc (.cells #[.int .i64 M, .int .i64 E] 23)).alloc (.cells #[.int .i64 M', .int .i64 E'] 23)).alloc (.cells #[.int .i64 0, .int .i64 0] 23) := ⟨_, rfl⟩
  rw [← hW]
  have d0 : World.dec W w.heap.size M E := by rw [hW]; exact ((World.dec_new w M E _ rfl).alloc _).alloc _
  have d1 : World.dec W (w.heap.size + 1) M' E' := by rw [hW]; exact (World.dec_new _ M' E' _ (by simp)).alloc _
  have d2 : World.dec W (w.heap.size + 1 + 1) 0 0 := by rw [hW]; exact World.dec_new _ 0 0 _ (by simp)
  have hB : Below w.heap.size w W := by rw [hW]; exact (((Below.refl _ w).alloc (Nat.le_refl _) _).alloc (by simp) _).alloc (by simp; omega) _
  clear hW
  refine (rright_any M E _ h0 h1).mono ?_
  rintro e wr ⟨rfl, hB1⟩
  have d0 := d0.below hB1 d0.lt
  have d1 := d1.below hB1 d1.lt
  have d2 := d2.below hB1 d2.lt
  have hB := hB.trans (hB1.mono hB.size)
  have hsz := hB.size
  clear hB1
  have b0 := d1.c0
  have b1 := d1.c1
  go_wp2_with fail
  clear b0 b1
  refine (rright_any M' E' _ h0' h1').mono ?_
  rintro e wr ⟨rfl, hB1⟩
  have d0 := d0.below hB1 d0.lt
  have d1 := d1.below hB1 d1.lt
  have d2 := d2.below hB1 d2.lt
  have hB := hB.trans (hB1.mono hB.size)
  have hsz := hB.size
  clear hB1
  have a0 := d0.c0
  have a1 := d0.c1
  go_wp2_with fail
  clear a0 a1
  refine (KX.out _).mono ?_
  rintro e wx ⟨vx, rfl, hx, hB1⟩
  have hx := hx.mono hsz
  have d0 := d0.below hB1 d0.lt
  have d1 := d1.below hB1 d1.lt
  have d2 := d2.below hB1 d2.lt
  have hB := hB.trans (hB1.mono hB.size)
  have hsz := hB.size
  clear hB1
  have b0 := d1.c0
  have b1 := d1.c1
  go_wp2_with fail
  clear b0 b1
  refine (KY.out _).mono ?_
  rintro e wy ⟨vy, rfl, hy, hB1⟩
  have hy := hy.mono hsz
  have hx := hx.below hB1
  have d0 := d0.below hB1 d0.lt
  have d1 := d1.below hB1 d1.lt
  have d2 := d2.below hB1 d2.lt
  have hB := hB.trans (hB1.mono hB.size)
  have hsz := hB.size
  clear hB1
  have a0 := d0.c0
  have a1 := d0.c1
  have b0 := d1.c0
  have b1 := d1.c1
  go_wp2_with fail
  clear a0 a1 b0 b1
  clear hs
  have d0 := d0.drew
  have d1 := d1.drew
  have d2 := d2.drew
  have hx : World.dl wy.drew w.heap.size vx X := hx
  have hy : World.dl wy.drew w.heap.size vy Y := hy
  have hB := hB.drew
  have hsz := hB.size
  have a0 := d0.c0
  go_region_held3 (fun w' => w'.cell? ⟨w.heap.size, 0, none⟩ = some (.int .i64 M))
    (first | exact a0 | exact (World.cell?_setCell_far _ _ _ _ (by first | (simp; done) | (simp; omega))).trans ((World.cell?_setCell_far _ _ _ _ (by first | (simp; done) | (simp; omega))).trans a0))
    (first
      | (go_at_call 72; refine (plusd_any w.heap.size w.heap.size vx vy X Y _ hx hy (by have := LX.out; omega) (by have := LY.out; omega)).mono ?_; rintro e wp ⟨vp, rfl, hp, hB1⟩; have d0 := d0.below hB1 d0.lt; have d1 := d1.below hB1 d1.lt; have d2 := d2.below hB1 d2.lt; have hx := hx.below hB1; have hy := hy.below hB1; (try have hu := hu.below hB1); have hp := hp.mono hsz; have hB := hB.trans (hB1.mono hB.size); have hsz := hB.size; have a0 := d0.c0)
      | (go_at_call 39; refine (unit9_any _).mono ?_; rintro e wu ⟨vu, rfl, hu, hB1⟩; have d0 := d0.below hB1 d0.lt; have d1 := d1.below hB1 d1.lt; have d2 := d2.below hB1 d2.lt; have hx := hx.below hB1; have hy := hy.below hB1; (try have hp := hp.below hB1); have hu := hu.mono hsz; have hB := hB.trans (hB1.mono hB.size); have hsz := hB.size; have a0 := d0.c0)
      | (go_at_call 38; refine (KN.out _ _ _ hp hu).mono ?_; rintro e wn ⟨rfl, hB1⟩; have d0 := d0.below hB1 d0.lt; have d1 := d1.below hB1 d1.lt; have d2 := d2.below hB1 d2.lt; have hx := hx.below hB1; have hy := hy.below hB1; have hB := hB.trans (hB1.mono hB.size); have hsz := hB.size; have a0 := d0.c0; have c0 := d2.c0; have c1 := d2.c1; have cf0 := d2.frozen 0; have cf1 := d2.frozen 1))
  all_goals
    go_wp2_with fail
    refine bodyPost_ret (results_dec_tmp rfl _ _ _ _ _ rfl (World.dec.set1 (World.dec.set0 d2 _) _)) rfl ?_
    exact ⟨rfl, (hB.setCell (by simp; omega) _).setCell (by simp; omega) _⟩
set_option maxRecDepth 100000 in
set_option maxHeartbeats 4000000 in
theorem radd_less (M E M' E' : Int) (w : World) (h0 : -9223372036854775808 ≤ M) (h1 : M ≤ 9223372036854775807) (h0' : -9223372036854775808 ≤ M') (h1' : M' ≤ 9223372036854775807) (hr : rightB M E = true) (hr' : rightB M' E' = true) (hs : (decide (M < 0) == decide (M' < 0)) = false) (hl : wholeN M E < wholeN M' E') :
    Calls Tryd.prog 46 #[.agg #[.int .i64 M, .int .i64 E], .agg #[.int .i64 M', .int .i64 E']] w (DecPost (addR M E M' E') w) := by
  obtain ⟨r1, r2, r3, r4, _⟩ := rightB_iff.1 hr
  obtain ⟨q1, q2, q3, q4, _⟩ := rightB_iff.1 hr'
  have hq := add_less r3 q3 (by simpa using hs) hl
  obtain ⟨T, hT⟩ : ∃ T, addR M E M' E' = T := ⟨_, rfl⟩
  rw [hT] at hq ⊢
  obtain ⟨⟨T1, T2⟩, T3⟩ := T
  have CX := fun w => whole_any M E w h0 h1 r3 r4
  have CY := fun w => whole_any M' E' w h0' h1' q3 q4
  have lx := wholeN_len (M := M) (E := E) (by rw [p15n]; omega) r4
  have ly := wholeN_len (M := M') (E := E') (by rw [p15n]; omega) q4
  obtain ⟨X, hX⟩ : ∃ X, wholeN M E = X := ⟨_, rfl⟩
  obtain ⟨Y, hY⟩ : ∃ Y, wholeN M' E' = Y := ⟨_, rfl⟩
  rw [hX] at CX lx
  rw [hY] at CY ly
  rw [hX, hY] at hq hl
  have hNl : lenD (Y - X) ≤ 34 := Nat.le_trans (lenD_sub _ _) (by omega)
  have CN := fun (W : World) (v v' : Value) (h : World.dl W w.heap.size v (Y - X)) (h' : World.dl W w.heap.size v' (10 ^ 9)) => near_any (decide (M' < 0)) w.heap.size w.heap.size v v' (Y - X) (10 ^ 9) W h h' (by omega) (by rw [p9_len]; omega) (pow10_pos 9)
  rw [hq] at CN
  have KX := Lib.hid CX
  have KY := Lib.hid CY
  have KN := Lib.hid CN
  have LX := Lib.hid lx
  have LY := Lib.hid ly
  have HL := Lib.hid hl
  clear hq hT hX hY CX CY CN lx ly hNl hl
  go_enter Tryd.func46, Tryd.ntmps46
  go_wp2_with fail
  obtain ⟨W, hW⟩ : ∃ W, W = ((w.alloc (.cells #[.int .i64 M, .int .i64 E] 23)).alloc (.cells #[.int .i64 M', .int .i64 E'] 23)).alloc (.cells #[.int .i64 0, .int .i64 0] 23) := ⟨_, rfl⟩
  rw [← hW]
  have d0 : World.dec W w.heap.size M E := by rw [hW]; exact ((World.dec_new w M E _ rfl).alloc _).alloc _
  have d1 : World.dec W (w.heap.size + 1) M' E' := by rw [hW]; exact (World.dec_new _ M' E' _ (by simp)).alloc _
  have d2 : World.dec W (w.heap.size + 1 + 1) 0 0 := by rw [hW]; exact World.dec_new _ 0 0 _ (by simp)
  have hB : Below w.heap.size w W := by rw [hW]; exact (((Below.refl _ w).alloc (Nat.le_refl _) _).alloc (by simp) _).alloc (by simp; omega) _
  clear hW
  refine (rright_any M E _ h0 h1).mono ?_
  rintro e wr ⟨rfl, hB1⟩
  have d0 := d0.below hB1 d0.lt
  have d1 := d1.below hB1 d1.lt
  have d2 := d2.below hB1 d2.lt
  have hB := hB.trans (hB1.mono hB.size)
  have hsz := hB.size
  clear hB1
  have b0 := d1.c0
  have b1 := d1.c1
  go_wp2_with fail
  clear b0 b1
  refine (rright_any M' E' _ h0' h1').mono ?_
  rintro e wr ⟨rfl, hB1⟩
  have d0 := d0.below hB1 d0.lt
  have d1 := d1.below hB1 d1.lt
  have d2 := d2.below hB1 d2.lt
  have hB := hB.trans (hB1.mono hB.size)
  have hsz := hB.size
  clear hB1
  have a0 := d0.c0
  have a1 := d0.c1
  go_wp2_with fail
  clear a0 a1
  refine (KX.out _).mono ?_
  rintro e wx ⟨vx, rfl, hx, hB1⟩
  have hx := hx.mono hsz
  have d0 := d0.below hB1 d0.lt
  have d1 := d1.below hB1 d1.lt
  have d2 := d2.below hB1 d2.lt
  have hB := hB.trans (hB1.mono hB.size)
  have hsz := hB.size
  clear hB1
  have b0 := d1.c0
  have b1 := d1.c1
  go_wp2_with fail
  clear b0 b1
  refine (KY.out _).mono ?_
  rintro e wy ⟨vy, rfl, hy, hB1⟩
  have hy := hy.mono hsz
  have hx := hx.below hB1
  have d0 := d0.below hB1 d0.lt
  have d1 := d1.below hB1 d1.lt
  have d2 := d2.below hB1 d2.lt
  have hB := hB.trans (hB1.mono hB.size)
  have hsz := hB.size
  clear hB1
  have a0 := d0.c0
  have a1 := d0.c1
  have b0 := d1.c0
  have b1 := d1.c1
  go_wp2_with fail
  clear a0 a1 b0 b1
  clear hs
  have HLS := Lib.hid (less_any w.heap.size w.heap.size _ _ X Y _ hx hy (by have := LX.out; omega) (by have := LY.out; omega))
  rw [decide_eq_true HL.out] at HLS
  refine HLS.out.mono ?_
  rintro e' wl ⟨rfl, n', rfl⟩
  clear HLS
  obtain ⟨wl, hw⟩ : ∃ W, W = wy.drewN n' := ⟨_, rfl⟩
  rw [← hw]
  have hB1 : Below wy.heap.size wy wl := by rw [hw]; exact below_drewN (Below.refl _ _) _
  clear hw
  have hx := hx.below hB1
  have hy := hy.below hB1
  have d0 := d0.below hB1 d0.lt
  have d1 := d1.below hB1 d1.lt
  have d2 := d2.below hB1 d2.lt
  have hB := hB.trans (hB1.mono hB.size)
  have hsz := hB.size
  clear hB1
  go_wp2_with fail
  have d0 := d0.drew
  have d1 := d1.drew
  have d2 := d2.drew
  have hx : World.dl wl.drew w.heap.size vx X := hx
  have hy : World.dl wl.drew w.heap.size vy Y := hy
  have hB := hB.drew
  have hsz := hB.size
  have a0 := d1.c0
  go_region_held3 (fun w' => w'.cell? ⟨w.heap.size + 1, 0, none⟩ = some (.int .i64 M'))
    (first | exact a0 | exact (World.cell?_setCell_far _ _ _ _ (by first | (simp; done) | (simp; omega))).trans ((World.cell?_setCell_far _ _ _ _ (by first | (simp; done) | (simp; omega))).trans a0))
    (first
      | (go_at_call 77; refine (minusd_any w.heap.size w.heap.size vy vx Y X _ hy hx (by have := LY.out; omega) (by have := HL.out; omega)).mono ?_; rintro e wp ⟨vp, rfl, hp, hB1⟩; have d0 := d0.below hB1 d0.lt; have d1 := d1.below hB1 d1.lt; have d2 := d2.below hB1 d2.lt; have hx := hx.below hB1; have hy := hy.below hB1; (try have hu := hu.below hB1); have hp := hp.mono hsz; have hB := hB.trans (hB1.mono hB.size); have hsz := hB.size; have a0 := d1.c0)
      | (go_at_call 39; refine (unit9_any _).mono ?_; rintro e wu ⟨vu, rfl, hu, hB1⟩; have d0 := d0.below hB1 d0.lt; have d1 := d1.below hB1 d1.lt; have d2 := d2.below hB1 d2.lt; have hx := hx.below hB1; have hy := hy.below hB1; (try have hp := hp.below hB1); have hu := hu.mono hsz; have hB := hB.trans (hB1.mono hB.size); have hsz := hB.size; have a0 := d1.c0)
      | (go_at_call 38; refine (KN.out _ _ _ hp hu).mono ?_; rintro e wn ⟨rfl, hB1⟩; have d0 := d0.below hB1 d0.lt; have d1 := d1.below hB1 d1.lt; have d2 := d2.below hB1 d2.lt; have hx := hx.below hB1; have hy := hy.below hB1; have hB := hB.trans (hB1.mono hB.size); have hsz := hB.size; have a0 := d1.c0; have c0 := d2.c0; have c1 := d2.c1; have cf0 := d2.frozen 0; have cf1 := d2.frozen 1))
  all_goals
    go_wp2_with fail
    refine bodyPost_ret (results_dec_tmp rfl _ _ _ _ _ rfl (World.dec.set1 (World.dec.set0 d2 _) _)) rfl ?_
    exact ⟨rfl, (hB.setCell (by simp; omega) _).setCell (by simp; omega) _⟩
set_option maxRecDepth 100000 in
set_option maxHeartbeats 4000000 in
theorem radd_more (M E M' E' : Int) (w : World) (h0 : -9223372036854775808 ≤ M) (h1 : M ≤ 9223372036854775807) (h0' : -9223372036854775808 ≤ M') (h1' : M' ≤ 9223372036854775807) (hr : rightB M E = true) (hr' : rightB M' E' = true) (hs : (decide (M < 0) == decide (M' < 0)) = false) (hl : ¬ wholeN M E < wholeN M' E') :
    Calls Tryd.prog 46 #[.agg #[.int .i64 M, .int .i64 E], .agg #[.int .i64 M', .int .i64 E']] w (DecPost (addR M E M' E') w) := by
  obtain ⟨r1, r2, r3, r4, _⟩ := rightB_iff.1 hr
  obtain ⟨q1, q2, q3, q4, _⟩ := rightB_iff.1 hr'
  have hq := add_more r3 q3 (by simpa using hs) hl
  obtain ⟨T, hT⟩ : ∃ T, addR M E M' E' = T := ⟨_, rfl⟩
  rw [hT] at hq ⊢
  obtain ⟨⟨T1, T2⟩, T3⟩ := T
  have CX := fun w => whole_any M E w h0 h1 r3 r4
  have CY := fun w => whole_any M' E' w h0' h1' q3 q4
  have lx := wholeN_len (M := M) (E := E) (by rw [p15n]; omega) r4
  have ly := wholeN_len (M := M') (E := E') (by rw [p15n]; omega) q4
  obtain ⟨X, hX⟩ : ∃ X, wholeN M E = X := ⟨_, rfl⟩
  obtain ⟨Y, hY⟩ : ∃ Y, wholeN M' E' = Y := ⟨_, rfl⟩
  rw [hX] at CX lx
  rw [hY] at CY ly
  rw [hX, hY] at hq hl
  have hNl : lenD (X - Y) ≤ 34 := Nat.le_trans (lenD_sub _ _) (by omega)
  have CN := fun (W : World) (v v' : Value) (h : World.dl W w.heap.size v (X - Y)) (h' : World.dl W w.heap.size v' (10 ^ 9)) => near_any (decide (M < 0)) w.heap.size w.heap.size v v' (X - Y) (10 ^ 9) W h h' (by omega) (by rw [p9_len]; omega) (pow10_pos 9)
  rw [hq] at CN
  have KX := Lib.hid CX
  have KY := Lib.hid CY
  have KN := Lib.hid CN
  have LX := Lib.hid lx
  have LY := Lib.hid ly
  have HL := Lib.hid hl
  clear hq hT hX hY CX CY CN lx ly hNl hl
  go_enter Tryd.func46, Tryd.ntmps46
  go_wp2_with fail
  obtain ⟨W, hW⟩ : ∃ W, W = ((w.alloc (.cells #[.int .i64 M, .int .i64 E] 23)).alloc (.cells #[.int .i64 M', .int .i64 E'] 23)).alloc (.cells #[.int .i64 0, .int .i64 0] 23) := ⟨_, rfl⟩
  rw [← hW]
  have d0 : World.dec W w.heap.size M E := by rw [hW]; exact ((World.dec_new w M E _ rfl).alloc _).alloc _
  have d1 : World.dec W (w.heap.size + 1) M' E' := by rw [hW]; exact (World.dec_new _ M' E' _ (by simp)).alloc _
  have d2 : World.dec W (w.heap.size + 1 + 1) 0 0 := by rw [hW]; exact World.dec_new _ 0 0 _ (by simp)
  have hB : Below w.heap.size w W := by rw [hW]; exact (((Below.refl _ w).alloc (Nat.le_refl _) _).alloc (by simp) _).alloc (by simp; omega) _
  clear hW
  refine (rright_any M E _ h0 h1).mono ?_
  rintro e wr ⟨rfl, hB1⟩
  have d0 := d0.below hB1 d0.lt
  have d1 := d1.below hB1 d1.lt
  have d2 := d2.below hB1 d2.lt
  have hB := hB.trans (hB1.mono hB.size)
  have hsz := hB.size
  clear hB1
  have b0 := d1.c0
  have b1 := d1.c1
  go_wp2_with fail
  clear b0 b1
  refine (rright_any M' E' _ h0' h1').mono ?_
  rintro e wr ⟨rfl, hB1⟩
  have d0 := d0.below hB1 d0.lt
  have d1 := d1.below hB1 d1.lt
  have d2 := d2.below hB1 d2.lt
  have hB := hB.trans (hB1.mono hB.size)
  have hsz := hB.size
  clear hB1
  have a0 := d0.c0
  have a1 := d0.c1
  go_wp2_with fail
  clear a0 a1
  refine (KX.out _).mono ?_
  rintro e wx ⟨vx, rfl, hx, hB1⟩
  have hx := hx.mono hsz
  have d0 := d0.below hB1 d0.lt
  have d1 := d1.below hB1 d1.lt
  have d2 := d2.below hB1 d2.lt
  have hB := hB.trans (hB1.mono hB.size)
  have hsz := hB.size
  clear hB1
  have b0 := d1.c0
  have b1 := d1.c1
  go_wp2_with fail
  clear b0 b1
  refine (KY.out _).mono ?_
  rintro e wy ⟨vy, rfl, hy, hB1⟩
  have hy := hy.mono hsz
  have hx := hx.below hB1
  have d0 := d0.below hB1 d0.lt
  have d1 := d1.below hB1 d1.lt
  have d2 := d2.below hB1 d2.lt
  have hB := hB.trans (hB1.mono hB.size)
  have hsz := hB.size
  clear hB1
  have a0 := d0.c0
  have a1 := d0.c1
  have b0 := d1.c0
  have b1 := d1.c1
  go_wp2_with fail
  clear a0 a1 b0 b1
  clear hs
  have HLS := Lib.hid (less_any w.heap.size w.heap.size _ _ X Y _ hx hy (by have := LX.out; omega) (by have := LY.out; omega))
  rw [decide_eq_false HL.out] at HLS
  refine HLS.out.mono ?_
  rintro e' wl ⟨rfl, n', rfl⟩
  clear HLS
  obtain ⟨wl, hw⟩ : ∃ W, W = wy.drewN n' := ⟨_, rfl⟩
  rw [← hw]
  have hB1 : Below wy.heap.size wy wl := by rw [hw]; exact below_drewN (Below.refl _ _) _
  clear hw
  have hx := hx.below hB1
  have hy := hy.below hB1
  have d0 := d0.below hB1 d0.lt
  have d1 := d1.below hB1 d1.lt
  have d2 := d2.below hB1 d2.lt
  have hB := hB.trans (hB1.mono hB.size)
  have hsz := hB.size
  clear hB1
  go_wp2_with fail
  have d0 := d0.drew
  have d1 := d1.drew
  have d2 := d2.drew
  have hx : World.dl wl.drew w.heap.size vx X := hx
  have hy : World.dl wl.drew w.heap.size vy Y := hy
  have hB := hB.drew
  have hsz := hB.size
  have a0 := d0.c0
  go_region_held3 (fun w' => w'.cell? ⟨w.heap.size, 0, none⟩ = some (.int .i64 M))
    (first | exact a0 | exact (World.cell?_setCell_far _ _ _ _ (by first | (simp; done) | (simp; omega))).trans ((World.cell?_setCell_far _ _ _ _ (by first | (simp; done) | (simp; omega))).trans a0))
    (first
      | (go_at_call 77; refine (minusd_any w.heap.size w.heap.size vx vy X Y _ hx hy (by have := LX.out; omega) (by have := HL.out; omega)).mono ?_; rintro e wp ⟨vp, rfl, hp, hB1⟩; have d0 := d0.below hB1 d0.lt; have d1 := d1.below hB1 d1.lt; have d2 := d2.below hB1 d2.lt; have hx := hx.below hB1; have hy := hy.below hB1; (try have hu := hu.below hB1); have hp := hp.mono hsz; have hB := hB.trans (hB1.mono hB.size); have hsz := hB.size; have a0 := d0.c0)
      | (go_at_call 39; refine (unit9_any _).mono ?_; rintro e wu ⟨vu, rfl, hu, hB1⟩; have d0 := d0.below hB1 d0.lt; have d1 := d1.below hB1 d1.lt; have d2 := d2.below hB1 d2.lt; have hx := hx.below hB1; have hy := hy.below hB1; (try have hp := hp.below hB1); have hu := hu.mono hsz; have hB := hB.trans (hB1.mono hB.size); have hsz := hB.size; have a0 := d0.c0)
      | (go_at_call 38; refine (KN.out _ _ _ hp hu).mono ?_; rintro e wn ⟨rfl, hB1⟩; have d0 := d0.below hB1 d0.lt; have d1 := d1.below hB1 d1.lt; have d2 := d2.below hB1 d2.lt; have hx := hx.below hB1; have hy := hy.below hB1; have hB := hB.trans (hB1.mono hB.size); have hsz := hB.size; have a0 := d0.c0; have c0 := d2.c0; have c1 := d2.c1; have cf0 := d2.frozen 0; have cf1 := d2.frozen 1))
  all_goals
    go_wp2_with fail
    refine bodyPost_ret (results_dec_tmp rfl _ _ _ _ _ rfl (World.dec.set1 (World.dec.set0 d2 _) _)) rfl ?_
    exact ⟨rfl, (hB.setCell (by simp; omega) _).setCell (by simp; omega) _⟩
theorem radd_any (M E M' E' : Int) (w : World) (h0 : -9223372036854775808 ≤ M) (h1 : M ≤ 9223372036854775807) (h0' : -9223372036854775808 ≤ M') (h1' : M' ≤ 9223372036854775807) :
    Calls Tryd.prog 46 #[.agg #[.int .i64 M, .int .i64 E], .agg #[.int .i64 M', .int .i64 E']] w (DecPost (addD M E M' E') w) := by
  unfold addD
  by_cases hr : rightB M E = true
  · by_cases hr' : rightB M' E' = true
    · rw [if_pos ⟨hr, hr'⟩]
      cases hs : (decide (M < 0) == decide (M' < 0))
      · by_cases hl : wholeN M E < wholeN M' E'
        · exact radd_less M E M' E' w h0 h1 h0' h1' hr hr' hs hl
        · exact radd_more M E M' E' w h0 h1 h0' h1' hr hr' hs hl
      · exact radd_same M E M' E' w h0 h1 h0' h1' hr hr' hs
    · rw [if_neg (fun h => hr' h.2)]; exact radd_no2 M E M' E' w h0 h1 h0' h1' hr (by simpa using hr')
  · rw [if_neg (fun h => hr h.1)]; exact radd_no1 M E M' E' w h0 h1 h0' h1' (by simpa using hr)
end Go.Proofs.YtpkohfdebgiloaaDoor
/- The document's product. -/
namespace Go.Proofs.YtpkohfdebgiloaaDoor
open Go.RowKit Go.Shelf

set_option maxRecDepth 100000 in
set_option maxHeartbeats 4000000 in
theorem rmul_no1 (M E M' E' : Int) (w : World) (h0 : -9223372036854775808 ≤ M) (h1 : M ≤ 9223372036854775807) (_h0' : -9223372036854775808 ≤ M') (_h1' : M' ≤ 9223372036854775807) (hr : rightB M E = false) :
    Calls Tryd.prog 48 #[.agg #[.int .i64 M, .int .i64 E], .agg #[.int .i64 M', .int .i64 E']] w (DecPost ((0, 0), 10) w) := by
  go_enter Tryd.func48, Tryd.ntmps48
  go_wp2_with fail
  obtain ⟨W, hW⟩ : ∃ W, W = ((w.alloc (.cells #[.int .i64 M, .int .i64 E] 23)).alloc (.cells #[.int .i64 M', .int .i64 E'] 23)).alloc (.cells #[.int .i64 0, .int .i64 0] 23) := ⟨_, rfl⟩
  rw [← hW]
  have d0 : World.dec W w.heap.size M E := by rw [hW]; exact ((World.dec_new w M E _ rfl).alloc _).alloc _
  have d1 : World.dec W (w.heap.size + 1) M' E' := by rw [hW]; exact (World.dec_new _ M' E' _ (by simp)).alloc _
  have d2 : World.dec W (w.heap.size + 1 + 1) 0 0 := by rw [hW]; exact World.dec_new _ 0 0 _ (by simp)
  have hB : Below w.heap.size w W := by rw [hW]; exact (((Below.refl _ w).alloc (Nat.le_refl _) _).alloc (by simp) _).alloc (by simp; omega) _
  clear hW
  have a0 := d0.c0
  have a1 := d0.c1
  refine (rright_any M E _ h0 h1).mono ?_
  rintro e wr ⟨rfl, hB1⟩
  have d2 := d2.below hB1 d2.lt
  have hB := hB.trans (hB1.mono hB.size)
  have hsz := hB.size
  clear hB1
  have g0 := d2.c0
  have g1 := d2.c1
  have gf0 := d2.frozen 0
  have gf1 := d2.frozen 1
  go_wp2_with fail
  refine bodyPost_ret (results_dec_tmp rfl _ _ _ 0 0 rfl (World.dec.set1 (World.dec.set0 d2 0) 0)) rfl ?_
  exact ⟨rfl, (hB.setCell (by simp; omega) _).setCell (by simp; omega) _⟩
set_option maxRecDepth 100000 in
set_option maxHeartbeats 4000000 in
theorem rmul_no2 (M E M' E' : Int) (w : World) (h0 : -9223372036854775808 ≤ M) (h1 : M ≤ 9223372036854775807) (h0' : -9223372036854775808 ≤ M') (h1' : M' ≤ 9223372036854775807) (hr : rightB M E = true) (hr' : rightB M' E' = false) :
    Calls Tryd.prog 48 #[.agg #[.int .i64 M, .int .i64 E], .agg #[.int .i64 M', .int .i64 E']] w (DecPost ((0, 0), 10) w) := by
  go_enter Tryd.func48, Tryd.ntmps48
  go_wp2_with fail
  obtain ⟨W, hW⟩ : ∃ W, W = ((w.alloc (.cells #[.int .i64 M, .int .i64 E] 23)).alloc (.cells #[.int .i64 M', .int .i64 E'] 23)).alloc (.cells #[.int .i64 0, .int .i64 0] 23) := ⟨_, rfl⟩
  rw [← hW]
  have d0 : World.dec W w.heap.size M E := by rw [hW]; exact ((World.dec_new w M E _ rfl).alloc _).alloc _
  have d1 : World.dec W (w.heap.size + 1) M' E' := by rw [hW]; exact (World.dec_new _ M' E' _ (by simp)).alloc _
  have d2 : World.dec W (w.heap.size + 1 + 1) 0 0 := by rw [hW]; exact World.dec_new _ 0 0 _ (by simp)
  have hB : Below w.heap.size w W := by rw [hW]; exact (((Below.refl _ w).alloc (Nat.le_refl _) _).alloc (by simp) _).alloc (by simp; omega) _
  clear hW
  refine (rright_any M E _ h0 h1).mono ?_
  rintro e wr ⟨rfl, hB1⟩
  have d1 := d1.below hB1 d1.lt
  have d2 := d2.below hB1 d2.lt
  have hB := hB.trans (hB1.mono hB.size)
  have hsz := hB.size
  clear hB1
  have b0 := d1.c0
  have b1 := d1.c1
  go_wp2_with fail
  refine (rright_any M' E' _ h0' h1').mono ?_
  rintro e wr ⟨rfl, hB1⟩
  have d2 := d2.below hB1 d2.lt
  have hB := hB.trans (hB1.mono hB.size)
  have hsz := hB.size
  clear hB1
  have g0 := d2.c0
  have g1 := d2.c1
  have gf0 := d2.frozen 0
  have gf1 := d2.frozen 1
  go_wp2_with fail
  refine bodyPost_ret (results_dec_tmp rfl _ _ _ 0 0 rfl (World.dec.set1 (World.dec.set0 d2 0) 0)) rfl ?_
  exact ⟨rfl, (hB.setCell (by simp; omega) _).setCell (by simp; omega) _⟩
set_option maxRecDepth 100000 in
set_option maxHeartbeats 4000000 in
theorem rmul_ok (M E M' E' : Int) (w : World) (h0 : -9223372036854775808 ≤ M) (h1 : M ≤ 9223372036854775807) (h0' : -9223372036854775808 ≤ M') (h1' : M' ≤ 9223372036854775807) (hr : rightB M E = true) (hr' : rightB M' E' = true) :
    Calls Tryd.prog 48 #[.agg #[.int .i64 M, .int .i64 E], .agg #[.int .i64 M', .int .i64 E']] w (DecPost (mulR M E M' E') w) := by
  obtain ⟨r1, r2, r3, r4, _⟩ := rightB_iff.1 hr
  obtain ⟨q1, q2, q3, q4, _⟩ := rightB_iff.1 hr'
  have hq := mul_ref (M := M) (M' := M') r3 q3
  obtain ⟨T, hT⟩ : ∃ T, mulR M E M' E' = T := ⟨_, rfl⟩
  rw [hT] at hq ⊢
  obtain ⟨⟨T1, T2⟩, T3⟩ := T
  have CX : ∀ m e, (m = M ∧ e = E) → ∀ w, Calls Tryd.prog 41 #[.agg #[.int .i64 m, .int .i64 e]] w (DlPost (wholeN M E) w) := by rintro _ _ ⟨rfl, rfl⟩ w; exact whole_any _ _ w h0 h1 r3 r4
  have CY : ∀ m e, (m = M' ∧ e = E') → ∀ w, Calls Tryd.prog 41 #[.agg #[.int .i64 m, .int .i64 e]] w (DlPost (wholeN M' E') w) := by rintro _ _ ⟨rfl, rfl⟩ w; exact whole_any _ _ w h0' h1' q3 q4
  have lx := wholeN_len (M := M) (E := E) (by rw [p15n]; omega) r4
  have ly := wholeN_len (M := M') (E := E') (by rw [p15n]; omega) q4

  obtain ⟨X, hX⟩ : ∃ X, wholeN M E = X := ⟨_, rfl⟩
  obtain ⟨Y, hY⟩ : ∃ Y, wholeN M' E' = Y := ⟨_, rfl⟩
  rw [hX] at CX lx
  rw [hY] at CY ly
  rw [hX, hY] at hq
  have CN := fun (W : World) (v v' : Value) (h : World.dl W w.heap.size v (X * Y)) (h' : World.dl W w.heap.size v' (10 ^ 18)) => near_any (mulS M M') w.heap.size w.heap.size v v' (X * Y) (10 ^ 18) W h h' (Nat.le_trans (mul_len lx ly) (by decide)) (by rw [pow_len]; omega) (pow10_pos 18)
  rw [hq] at CN
  unfold mulS at CN
  have KX := Lib.hid CX
  have KY := Lib.hid CY
  have KN := Lib.hid CN
  have LX := Lib.hid lx
  have LY := Lib.hid ly

  clear hq hT hX hY CX CY CN lx ly
  go_enter Tryd.func48, Tryd.ntmps48
  go_wp2_with fail
  obtain ⟨W, hW⟩ : ∃ W, W = ((w.alloc (.cells #[.int .i64 M, .int .i64 E] 23)).alloc (.cells #[.int .i64 M', .int .i64 E'] 23)).alloc (.cells #[.int .i64 0, .int .i64 0] 23) := ⟨_, rfl⟩
  rw [← hW]
  have d0 : World.dec W w.heap.size M E := by rw [hW]; exact ((World.dec_new w M E _ rfl).alloc _).alloc _
  have d1 : World.dec W (w.heap.size + 1) M' E' := by rw [hW]; exact (World.dec_new _ M' E' _ (by simp)).alloc _
  have d2 : World.dec W (w.heap.size + 1 + 1) 0 0 := by rw [hW]; exact World.dec_new _ 0 0 _ (by simp)
  have hB : Below w.heap.size w W := by rw [hW]; exact (((Below.refl _ w).alloc (Nat.le_refl _) _).alloc (by simp) _).alloc (by simp; omega) _
  clear hW
  refine (rright_any M E _ h0 h1).mono ?_
  rintro e wr ⟨rfl, hB1⟩
  have d0 := d0.below hB1 d0.lt
  have d1 := d1.below hB1 d1.lt
  have d2 := d2.below hB1 d2.lt
  have hB := hB.trans (hB1.mono hB.size)
  have hsz := hB.size
  clear hB1
  have b0 := d1.c0
  have b1 := d1.c1
  go_wp2_with fail
  clear b0 b1
  refine (rright_any M' E' _ h0' h1').mono ?_
  rintro e wr ⟨rfl, hB1⟩
  have d0 := d0.below hB1 d0.lt
  have d1 := d1.below hB1 d1.lt
  have d2 := d2.below hB1 d2.lt
  have hB := hB.trans (hB1.mono hB.size)
  have hsz := hB.size
  clear hB1
  go_wp2_with fail
  have a0 := d0.c0
  have a1 := d0.c1
  have b0 := d1.c0
  have b1 := d1.c1
  have d0 := d0.drew
  have d1 := d1.drew
  have d2 := d2.drew
  have hB := hB.drew
  have hsz := hB.size
  go_region_held3 (fun w' => w'.cell? ⟨w.heap.size, 0, none⟩ = some (.int .i64 M) ∧ w'.cell? ⟨w.heap.size, 1, none⟩ = some (.int .i64 E) ∧ w'.cell? ⟨w.heap.size + 1, 0, none⟩ = some (.int .i64 M') ∧ w'.cell? ⟨w.heap.size + 1, 1, none⟩ = some (.int .i64 E'))
    (first | exact ⟨a0, a1, b0, b1⟩ | exact ⟨(World.cell?_setCell_far _ _ _ _ (by first | (simp; done) | (simp; omega))).trans ((World.cell?_setCell_far _ _ _ _ (by first | (simp; done) | (simp; omega))).trans a0), (World.cell?_setCell_far _ _ _ _ (by first | (simp; done) | (simp; omega))).trans ((World.cell?_setCell_far _ _ _ _ (by first | (simp; done) | (simp; omega))).trans a1), (World.cell?_setCell_far _ _ _ _ (by first | (simp; done) | (simp; omega))).trans ((World.cell?_setCell_far _ _ _ _ (by first | (simp; done) | (simp; omega))).trans b0), (World.cell?_setCell_far _ _ _ _ (by first | (simp; done) | (simp; omega))).trans ((World.cell?_setCell_far _ _ _ _ (by first | (simp; done) | (simp; omega))).trans b1)⟩)
    (first
      | (go_at_call 41; refine (KX.out _ _ ?_ _).mono ?_; exact ⟨rfl, rfl⟩; rintro e wx ⟨vx, rfl, hx, hB1⟩; have d0 := d0.below hB1 d0.lt; have d1 := d1.below hB1 d1.lt; have d2 := d2.below hB1 d2.lt; (try have hy := hy.below hB1); (try have hu := hu.below hB1); (try have hp := hp.below hB1); have hx := hx.mono hsz; have hB := hB.trans (hB1.mono hB.size); have hsz := hB.size; have a0 := d0.c0; have a1 := d0.c1; have b0 := d1.c0; have b1 := d1.c1)
      | (go_at_call 41; refine (KY.out _ _ ?_ _).mono ?_; exact ⟨rfl, rfl⟩; rintro e wy ⟨vy, rfl, hy, hB1⟩; have d0 := d0.below hB1 d0.lt; have d1 := d1.below hB1 d1.lt; have d2 := d2.below hB1 d2.lt; (try have hx := hx.below hB1); (try have hu := hu.below hB1); (try have hp := hp.below hB1); have hy := hy.mono hsz; have hB := hB.trans (hB1.mono hB.size); have hsz := hB.size; have a0 := d0.c0; have a1 := d0.c1; have b0 := d1.c0; have b1 := d1.c1)
      | (go_at_call 39; refine (unit18_any _).mono ?_; rintro e wu ⟨vu, rfl, hu, hB1⟩; have d0 := d0.below hB1 d0.lt; have d1 := d1.below hB1 d1.lt; have d2 := d2.below hB1 d2.lt; (try have hx := hx.below hB1); (try have hy := hy.below hB1); (try have hp := hp.below hB1); have hu := hu.mono hsz; have hB := hB.trans (hB1.mono hB.size); have hsz := hB.size; have a0 := d0.c0; have a1 := d0.c1; have b0 := d1.c0; have b1 := d1.c1)
      | (go_at_call 78; refine (timesd_any w.heap.size w.heap.size vx vy X Y _ hx hy (by have := LX.out; omega) (by have := LY.out; omega)).mono ?_; rintro e wp ⟨vp, rfl, hp, hB1⟩; have d0 := d0.below hB1 d0.lt; have d1 := d1.below hB1 d1.lt; have d2 := d2.below hB1 d2.lt; (try have hx := hx.below hB1); (try have hy := hy.below hB1); (try have hu := hu.below hB1); have hp := hp.mono hsz; have hB := hB.trans (hB1.mono hB.size); have hsz := hB.size; have a0 := d0.c0; have a1 := d0.c1; have b0 := d1.c0; have b1 := d1.c1)
      | (go_at_call 38; refine (KN.out _ _ _ hp hu).mono ?_; rintro e wn ⟨rfl, hB1⟩; have d0 := d0.below hB1 d0.lt; have d1 := d1.below hB1 d1.lt; have d2 := d2.below hB1 d2.lt; (try have hx := hx.below hB1); (try have hy := hy.below hB1); (try have hu := hu.below hB1); (try have hp := hp.below hB1); have hB := hB.trans (hB1.mono hB.size); have hsz := hB.size; have a0 := d0.c0; have a1 := d0.c1; have b0 := d1.c0; have b1 := d1.c1; have c0 := d2.c0; have c1 := d2.c1; have cf0 := d2.frozen 0; have cf1 := d2.frozen 1))
  all_goals
    go_wp2_with fail
    refine bodyPost_ret (results_dec_tmp rfl _ _ _ _ _ rfl (World.dec.set1 (World.dec.set0 d2 _) _)) rfl ?_
    exact ⟨rfl, (hB.setCell (by simp; omega) _).setCell (by simp; omega) _⟩
theorem rmul_any (M E M' E' : Int) (w : World) (h0 : -9223372036854775808 ≤ M) (h1 : M ≤ 9223372036854775807) (h0' : -9223372036854775808 ≤ M') (h1' : M' ≤ 9223372036854775807) :
    Calls Tryd.prog 48 #[.agg #[.int .i64 M, .int .i64 E], .agg #[.int .i64 M', .int .i64 E']] w (DecPost (mulD M E M' E') w) := by
  unfold mulD
  by_cases hr : rightB M E = true
  · by_cases hr' : rightB M' E' = true
    · rw [if_pos ⟨hr, hr'⟩]; exact rmul_ok M E M' E' w h0 h1 h0' h1' hr hr'
    · rw [if_neg (fun h => hr' h.2)]; exact rmul_no2 M E M' E' w h0 h1 h0' h1' hr (by simpa using hr')
  · rw [if_neg (fun h => hr h.1)]; exact rmul_no1 M E M' E' w h0 h1 h0' h1' (by simpa using hr)
end Go.Proofs.YtpkohfdebgiloaaDoor
/- The document's quotient. -/
namespace Go.Proofs.YtpkohfdebgiloaaDoor
open Go.RowKit Go.Shelf

set_option maxRecDepth 100000 in
set_option maxHeartbeats 4000000 in
theorem rdiv_no1 (M E M' E' : Int) (w : World) (h0 : -9223372036854775808 ≤ M) (h1 : M ≤ 9223372036854775807) (_h0' : -9223372036854775808 ≤ M') (_h1' : M' ≤ 9223372036854775807) (hr : rightB M E = false) :
    Calls Tryd.prog 49 #[.agg #[.int .i64 M, .int .i64 E], .agg #[.int .i64 M', .int .i64 E']] w (DecPost ((0, 0), 10) w) := by
  go_enter Tryd.func49, Tryd.ntmps49
  go_wp2_with fail
  obtain ⟨W, hW⟩ : ∃ W, W = ((w.alloc (.cells #[.int .i64 M, .int .i64 E] 23)).alloc (.cells #[.int .i64 M', .int .i64 E'] 23)).alloc (.cells #[.int .i64 0, .int .i64 0] 23) := ⟨_, rfl⟩
  rw [← hW]
  have d0 : World.dec W w.heap.size M E := by rw [hW]; exact ((World.dec_new w M E _ rfl).alloc _).alloc _
  have d1 : World.dec W (w.heap.size + 1) M' E' := by rw [hW]; exact (World.dec_new _ M' E' _ (by simp)).alloc _
  have d2 : World.dec W (w.heap.size + 1 + 1) 0 0 := by rw [hW]; exact World.dec_new _ 0 0 _ (by simp)
  have hB : Below w.heap.size w W := by rw [hW]; exact (((Below.refl _ w).alloc (Nat.le_refl _) _).alloc (by simp) _).alloc (by simp; omega) _
  clear hW
  have a0 := d0.c0
  have a1 := d0.c1
  refine (rright_any M E _ h0 h1).mono ?_
  rintro e wr ⟨rfl, hB1⟩
  have d2 := d2.below hB1 d2.lt
  have hB := hB.trans (hB1.mono hB.size)
  have hsz := hB.size
  clear hB1
  have g0 := d2.c0
  have g1 := d2.c1
  have gf0 := d2.frozen 0
  have gf1 := d2.frozen 1
  go_wp2_with fail
  refine bodyPost_ret (results_dec_tmp rfl _ _ _ 0 0 rfl (World.dec.set1 (World.dec.set0 d2 0) 0)) rfl ?_
  exact ⟨rfl, (hB.setCell (by simp; omega) _).setCell (by simp; omega) _⟩
set_option maxRecDepth 100000 in
set_option maxHeartbeats 4000000 in
theorem rdiv_no2 (M E M' E' : Int) (w : World) (h0 : -9223372036854775808 ≤ M) (h1 : M ≤ 9223372036854775807) (h0' : -9223372036854775808 ≤ M') (h1' : M' ≤ 9223372036854775807) (hr : rightB M E = true) (hr' : rightB M' E' = false) :
    Calls Tryd.prog 49 #[.agg #[.int .i64 M, .int .i64 E], .agg #[.int .i64 M', .int .i64 E']] w (DecPost ((0, 0), 10) w) := by
  go_enter Tryd.func49, Tryd.ntmps49
  go_wp2_with fail
  obtain ⟨W, hW⟩ : ∃ W, W = ((w.alloc (.cells #[.int .i64 M, .int .i64 E] 23)).alloc (.cells #[.int .i64 M', .int .i64 E'] 23)).alloc (.cells #[.int .i64 0, .int .i64 0] 23) := ⟨_, rfl⟩
  rw [← hW]
  have d0 : World.dec W w.heap.size M E := by rw [hW]; exact ((World.dec_new w M E _ rfl).alloc _).alloc _
  have d1 : World.dec W (w.heap.size + 1) M' E' := by rw [hW]; exact (World.dec_new _ M' E' _ (by simp)).alloc _
  have d2 : World.dec W (w.heap.size + 1 + 1) 0 0 := by rw [hW]; exact World.dec_new _ 0 0 _ (by simp)
  have hB : Below w.heap.size w W := by rw [hW]; exact (((Below.refl _ w).alloc (Nat.le_refl _) _).alloc (by simp) _).alloc (by simp; omega) _
  clear hW
  refine (rright_any M E _ h0 h1).mono ?_
  rintro e wr ⟨rfl, hB1⟩
  have d1 := d1.below hB1 d1.lt
  have d2 := d2.below hB1 d2.lt
  have hB := hB.trans (hB1.mono hB.size)
  have hsz := hB.size
  clear hB1
  have b0 := d1.c0
  have b1 := d1.c1
  go_wp2_with fail
  refine (rright_any M' E' _ h0' h1').mono ?_
  rintro e wr ⟨rfl, hB1⟩
  have d2 := d2.below hB1 d2.lt
  have hB := hB.trans (hB1.mono hB.size)
  have hsz := hB.size
  clear hB1
  have g0 := d2.c0
  have g1 := d2.c1
  have gf0 := d2.frozen 0
  have gf1 := d2.frozen 1
  go_wp2_with fail
  refine bodyPost_ret (results_dec_tmp rfl _ _ _ 0 0 rfl (World.dec.set1 (World.dec.set0 d2 0) 0)) rfl ?_
  exact ⟨rfl, (hB.setCell (by simp; omega) _).setCell (by simp; omega) _⟩
set_option maxRecDepth 100000 in
set_option maxHeartbeats 4000000 in
theorem rdiv_zero (M E M' E' : Int) (w : World) (h0 : -9223372036854775808 ≤ M) (h1 : M ≤ 9223372036854775807) (h0' : -9223372036854775808 ≤ M') (h1' : M' ≤ 9223372036854775807) (hr : rightB M E = true) (hr' : rightB M' E' = true) (hz : M' = 0) :
    Calls Tryd.prog 49 #[.agg #[.int .i64 M, .int .i64 E], .agg #[.int .i64 M', .int .i64 E']] w (DecPost ((0, 0), 11) w) := by
  subst hz
  go_enter Tryd.func49, Tryd.ntmps49
  go_wp2_with fail
  obtain ⟨W, hW⟩ : ∃ W, W = ((w.alloc (.cells #[.int .i64 M, .int .i64 E] 23)).alloc (.cells #[.int .i64 0, .int .i64 E'] 23)).alloc (.cells #[.int .i64 0, .int .i64 0] 23) := ⟨_, rfl⟩
  rw [← hW]
  have d0 : World.dec W w.heap.size M E := by rw [hW]; exact ((World.dec_new w M E _ rfl).alloc _).alloc _
  have d1 : World.dec W (w.heap.size + 1) 0 E' := by rw [hW]; exact (World.dec_new _ 0 E' _ (by simp)).alloc _
  have d2 : World.dec W (w.heap.size + 1 + 1) 0 0 := by rw [hW]; exact World.dec_new _ 0 0 _ (by simp)
  have hB : Below w.heap.size w W := by rw [hW]; exact (((Below.refl _ w).alloc (Nat.le_refl _) _).alloc (by simp) _).alloc (by simp; omega) _
  clear hW
  refine (rright_any M E _ h0 h1).mono ?_
  rintro e wr ⟨rfl, hB1⟩
  have d0 := d0.below hB1 d0.lt
  have d1 := d1.below hB1 d1.lt
  have d2 := d2.below hB1 d2.lt
  have hB := hB.trans (hB1.mono hB.size)
  have hsz := hB.size
  clear hB1
  have b0 := d1.c0
  have b1 := d1.c1
  go_wp2_with fail
  clear b0 b1
  refine (rright_any 0 E' _ (by omega) (by omega)).mono ?_
  rintro e wr ⟨rfl, hB1⟩
  have d0 := d0.below hB1 d0.lt
  have d1 := d1.below hB1 d1.lt
  have d2 := d2.below hB1 d2.lt
  have hB := hB.trans (hB1.mono hB.size)
  have hsz := hB.size
  clear hB1
  have b0 := d1.c0
  have b1 := d1.c1
  have g0 := d2.c0
  have g1 := d2.c1
  have gf0 := d2.frozen 0
  have gf1 := d2.frozen 1
  go_wp2_with fail
  refine bodyPost_ret (results_dec_tmp rfl _ _ _ 0 0 rfl (World.dec.set1 (World.dec.set0 d2 0) 0)) rfl ?_
  exact ⟨rfl, (hB.setCell (by simp; omega) _).setCell (by simp; omega) _⟩
set_option maxRecDepth 100000 in
set_option maxHeartbeats 4000000 in
theorem rdiv_ok (M E M' E' : Int) (w : World) (h0 : -9223372036854775808 ≤ M) (h1 : M ≤ 9223372036854775807) (h0' : -9223372036854775808 ≤ M') (h1' : M' ≤ 9223372036854775807) (hr : rightB M E = true) (hr' : rightB M' E' = true) (hz : M' ≠ 0) :
    Calls Tryd.prog 49 #[.agg #[.int .i64 M, .int .i64 E], .agg #[.int .i64 M', .int .i64 E']] w (DecPost (divR M E M' E') w) := by
  obtain ⟨r1, r2, r3, r4, _⟩ := rightB_iff.1 hr
  obtain ⟨q1, q2, q3, q4, _⟩ := rightB_iff.1 hr'
  have hq := div_ref (M := M) hz r3 r4 q3 q4
  obtain ⟨T, hT⟩ : ∃ T, divR M E M' E' = T := ⟨_, rfl⟩
  rw [hT] at hq ⊢
  obtain ⟨⟨T1, T2⟩, T3⟩ := T
  have CX : ∀ m e, (m = M ∧ e = E) → ∀ w, Calls Tryd.prog 41 #[.agg #[.int .i64 m, .int .i64 e]] w (DlPost (wholeN M E) w) := by rintro _ _ ⟨rfl, rfl⟩ w; exact whole_any _ _ w h0 h1 r3 r4
  have CY : ∀ m e, (m = M' ∧ e = E') → ∀ w, Calls Tryd.prog 41 #[.agg #[.int .i64 m, .int .i64 e]] w (DlPost (wholeN M' E') w) := by rintro _ _ ⟨rfl, rfl⟩ w; exact whole_any _ _ w h0' h1' q3 q4
  have lx := wholeN_len (M := M) (E := E) (by rw [p15n]; omega) r4
  have ly := wholeN_len (M := M') (E := E') (by rw [p15n]; omega) q4
  have hyp : 0 < wholeN M' E' := Nat.mul_pos (by omega) (pow10_pos _)
  obtain ⟨X, hX⟩ : ∃ X, wholeN M E = X := ⟨_, rfl⟩
  obtain ⟨Y, hY⟩ : ∃ Y, wholeN M' E' = Y := ⟨_, rfl⟩
  rw [hX] at CX lx
  rw [hY] at CY ly hyp
  rw [hX, hY] at hq
  have CN := fun (W : World) (v v' : Value) (h : World.dl W w.heap.size v (X)) (h' : World.dl W w.heap.size v' (Y)) => near_any (mulS M M') w.heap.size w.heap.size v v' (X) (Y) W h h' (by omega) (by omega) (hyp)
  rw [hq] at CN
  unfold mulS at CN
  have KX := Lib.hid CX
  have KY := Lib.hid CY
  have KN := Lib.hid CN
  have LX := Lib.hid lx
  have LY := Lib.hid ly
  have HYP := Lib.hid hyp
  clear hq hT hX hY CX CY CN lx ly hyp
  go_enter Tryd.func49, Tryd.ntmps49
  go_wp2_with fail
  obtain ⟨W, hW⟩ : ∃ W, W = ((w.alloc (.cells #[.int .i64 M, .int .i64 E] 23)).alloc (.cells #[.int .i64 M', .int .i64 E'] 23)).alloc (.cells #[.int .i64 0, .int .i64 0] 23) := ⟨_, rfl⟩
  rw [← hW]
  have d0 : World.dec W w.heap.size M E := by rw [hW]; exact ((World.dec_new w M E _ rfl).alloc _).alloc _
  have d1 : World.dec W (w.heap.size + 1) M' E' := by rw [hW]; exact (World.dec_new _ M' E' _ (by simp)).alloc _
  have d2 : World.dec W (w.heap.size + 1 + 1) 0 0 := by rw [hW]; exact World.dec_new _ 0 0 _ (by simp)
  have hB : Below w.heap.size w W := by rw [hW]; exact (((Below.refl _ w).alloc (Nat.le_refl _) _).alloc (by simp) _).alloc (by simp; omega) _
  clear hW
  refine (rright_any M E _ h0 h1).mono ?_
  rintro e wr ⟨rfl, hB1⟩
  have d0 := d0.below hB1 d0.lt
  have d1 := d1.below hB1 d1.lt
  have d2 := d2.below hB1 d2.lt
  have hB := hB.trans (hB1.mono hB.size)
  have hsz := hB.size
  clear hB1
  have b0 := d1.c0
  have b1 := d1.c1
  go_wp2_with fail
  clear b0 b1
  refine (rright_any M' E' _ h0' h1').mono ?_
  rintro e wr ⟨rfl, hB1⟩
  have d0 := d0.below hB1 d0.lt
  have d1 := d1.below hB1 d1.lt
  have d2 := d2.below hB1 d2.lt
  have hB := hB.trans (hB1.mono hB.size)
  have hsz := hB.size
  clear hB1
  have b0 := d1.c0
  have b1 := d1.c1
  have hzb : (M' == 0) = false := by simpa using hz
  go_wp2_with fail
  clear b0 b1
  clear hzb
  have a0 := d0.c0
  have a1 := d0.c1
  have b0 := d1.c0
  have b1 := d1.c1
  have d0 := d0.drew
  have d1 := d1.drew
  have d2 := d2.drew
  have hB := hB.drew
  have hsz := hB.size
  go_region_held3 (fun w' => w'.cell? ⟨w.heap.size, 0, none⟩ = some (.int .i64 M) ∧ w'.cell? ⟨w.heap.size, 1, none⟩ = some (.int .i64 E) ∧ w'.cell? ⟨w.heap.size + 1, 0, none⟩ = some (.int .i64 M') ∧ w'.cell? ⟨w.heap.size + 1, 1, none⟩ = some (.int .i64 E'))
    (first | exact ⟨a0, a1, b0, b1⟩ | exact ⟨(World.cell?_setCell_far _ _ _ _ (by first | (simp; done) | (simp; omega))).trans ((World.cell?_setCell_far _ _ _ _ (by first | (simp; done) | (simp; omega))).trans a0), (World.cell?_setCell_far _ _ _ _ (by first | (simp; done) | (simp; omega))).trans ((World.cell?_setCell_far _ _ _ _ (by first | (simp; done) | (simp; omega))).trans a1), (World.cell?_setCell_far _ _ _ _ (by first | (simp; done) | (simp; omega))).trans ((World.cell?_setCell_far _ _ _ _ (by first | (simp; done) | (simp; omega))).trans b0), (World.cell?_setCell_far _ _ _ _ (by first | (simp; done) | (simp; omega))).trans ((World.cell?_setCell_far _ _ _ _ (by first | (simp; done) | (simp; omega))).trans b1)⟩)
    (first
      | (go_at_call 41; refine (KX.out _ _ ?_ _).mono ?_; exact ⟨rfl, rfl⟩; rintro e wx ⟨vx, rfl, hx, hB1⟩; have d0 := d0.below hB1 d0.lt; have d1 := d1.below hB1 d1.lt; have d2 := d2.below hB1 d2.lt; (try have hy := hy.below hB1); have hx := hx.mono hsz; have hB := hB.trans (hB1.mono hB.size); have hsz := hB.size; have a0 := d0.c0; have a1 := d0.c1; have b0 := d1.c0; have b1 := d1.c1)
      | (go_at_call 41; refine (KY.out _ _ ?_ _).mono ?_; exact ⟨rfl, rfl⟩; rintro e wy ⟨vy, rfl, hy, hB1⟩; have d0 := d0.below hB1 d0.lt; have d1 := d1.below hB1 d1.lt; have d2 := d2.below hB1 d2.lt; (try have hx := hx.below hB1); have hy := hy.mono hsz; have hB := hB.trans (hB1.mono hB.size); have hsz := hB.size; have a0 := d0.c0; have a1 := d0.c1; have b0 := d1.c0; have b1 := d1.c1)
      | (go_at_call 38; refine (KN.out _ _ _ hx hy).mono ?_; rintro e wn ⟨rfl, hB1⟩; have d0 := d0.below hB1 d0.lt; have d1 := d1.below hB1 d1.lt; have d2 := d2.below hB1 d2.lt; (try have hx := hx.below hB1); (try have hy := hy.below hB1); have hB := hB.trans (hB1.mono hB.size); have hsz := hB.size; have a0 := d0.c0; have a1 := d0.c1; have b0 := d1.c0; have b1 := d1.c1; have c0 := d2.c0; have c1 := d2.c1; have cf0 := d2.frozen 0; have cf1 := d2.frozen 1))
  all_goals
    go_wp2_with fail
    refine bodyPost_ret (results_dec_tmp rfl _ _ _ _ _ rfl (World.dec.set1 (World.dec.set0 d2 _) _)) rfl ?_
    exact ⟨rfl, (hB.setCell (by simp; omega) _).setCell (by simp; omega) _⟩
theorem rdiv_any (M E M' E' : Int) (w : World) (h0 : -9223372036854775808 ≤ M) (h1 : M ≤ 9223372036854775807) (h0' : -9223372036854775808 ≤ M') (h1' : M' ≤ 9223372036854775807) :
    Calls Tryd.prog 49 #[.agg #[.int .i64 M, .int .i64 E], .agg #[.int .i64 M', .int .i64 E']] w (DecPost (divD M E M' E') w) := by
  unfold divD
  by_cases hr : rightB M E = true
  · by_cases hr' : rightB M' E' = true
    · rw [if_pos ⟨hr, hr'⟩]
      by_cases hz : M' = 0
      · rw [if_pos hz]; exact rdiv_zero M E M' E' w h0 h1 h0' h1' hr hr' hz
      · rw [if_neg hz]; exact rdiv_ok M E M' E' w h0 h1 h0' h1' hr hr' hz
    · rw [if_neg (fun h => hr' h.2)]; exact rdiv_no2 M E M' E' w h0 h1 h0' h1' hr (by simpa using hr')
  · rw [if_neg (fun h => hr h.1)]; exact rdiv_no1 M E M' E' w h0 h1 h0' h1' (by simpa using hr)
end Go.Proofs.YtpkohfdebgiloaaDoor
/- The document's power. -/
namespace Go.Proofs.YtpkohfdebgiloaaDoor
open Go.RowKit Go.Shelf

set_option maxRecDepth 100000 in
set_option maxHeartbeats 4000000 in
theorem rpow_no (M E n : Int) (w : World) (h0 : -9223372036854775808 ≤ M) (h1 : M ≤ 9223372036854775807) (hr : rightB M E = false) :
    Calls Tryd.prog 21 #[.agg #[.int .i64 M, .int .i64 E], .int .i64 n] w (DecPost ((0, 0), 10) w) := by
  go_enter Tryd.func21, Tryd.ntmps21
  go_wp2_with fail
  obtain ⟨W, hW⟩ : ∃ W, W = (w.alloc (.cells #[.int .i64 M, .int .i64 E] 23)).alloc (.cells #[.int .i64 0, .int .i64 0] 23) := ⟨_, rfl⟩
  rw [← hW]
  have d0 : World.dec W w.heap.size M E := by rw [hW]; exact (World.dec_new w M E _ rfl).alloc _
  have d2 : World.dec W (w.heap.size + 1) 0 0 := by rw [hW]; exact World.dec_new _ 0 0 _ (by simp)
  have hB : Below w.heap.size w W := by rw [hW]; exact ((Below.refl _ w).alloc (Nat.le_refl _) _).alloc (by simp) _
  clear hW
  refine (rright_any M E _ h0 h1).mono ?_
  rintro e wr ⟨rfl, hB1⟩
  have d2 := d2.below hB1 d2.lt
  have hB := hB.trans (hB1.mono hB.size)
  have hsz := hB.size
  clear hB1
  have g0 := d2.c0
  have g1 := d2.c1
  have gf0 := d2.frozen 0
  have gf1 := d2.frozen 1
  go_wp2_with fail
  refine bodyPost_ret (results_dec_tmp rfl _ _ _ 0 0 rfl (World.dec.set1 (World.dec.set0 d2 0) 0)) rfl ?_
  exact ⟨rfl, (hB.setCell (by simp) _).setCell (by simp) _⟩
set_option maxRecDepth 100000 in
set_option maxHeartbeats 4000000 in
theorem rpow_lo (M E n : Int) (w : World) (h0 : -9223372036854775808 ≤ M) (h1 : M ≤ 9223372036854775807) (hr : rightB M E = true) (hn : n < -100) :
    Calls Tryd.prog 21 #[.agg #[.int .i64 M, .int .i64 E], .int .i64 n] w (DecPost ((0, 0), 2) w) := by
  go_enter Tryd.func21, Tryd.ntmps21
  go_wp2_with fail
  obtain ⟨W, hW⟩ : ∃ W, W = (w.alloc (.cells #[.int .i64 M, .int .i64 E] 23)).alloc (.cells #[.int .i64 0, .int .i64 0] 23) := ⟨_, rfl⟩
  rw [← hW]
  have d0 : World.dec W w.heap.size M E := by rw [hW]; exact (World.dec_new w M E _ rfl).alloc _
  have d2 : World.dec W (w.heap.size + 1) 0 0 := by rw [hW]; exact World.dec_new _ 0 0 _ (by simp)
  have hB : Below w.heap.size w W := by rw [hW]; exact ((Below.refl _ w).alloc (Nat.le_refl _) _).alloc (by simp) _
  clear hW
  refine (rright_any M E _ h0 h1).mono ?_
  rintro e wr ⟨rfl, hB1⟩
  have d2 := d2.below hB1 d2.lt
  have hB := hB.trans (hB1.mono hB.size)
  have hsz := hB.size
  clear hB1
  have g0 := d2.c0
  have g1 := d2.c1
  have gf0 := d2.frozen 0
  have gf1 := d2.frozen 1
  go_wp2_with fail
  refine bodyPost_ret (results_dec_tmp rfl _ _ _ 0 0 rfl (World.dec.set1 (World.dec.set0 d2 0) 0)) rfl ?_
  exact ⟨rfl, (hB.setCell (by simp) _).setCell (by simp) _⟩
set_option maxRecDepth 100000 in
set_option maxHeartbeats 4000000 in
theorem rpow_hi (M E n : Int) (w : World) (h0 : -9223372036854775808 ≤ M) (h1 : M ≤ 9223372036854775807) (hr : rightB M E = true) (hn : 100 < n) :
    Calls Tryd.prog 21 #[.agg #[.int .i64 M, .int .i64 E], .int .i64 n] w (DecPost ((0, 0), 2) w) := by
  go_enter Tryd.func21, Tryd.ntmps21
  go_wp2_with fail
  obtain ⟨W, hW⟩ : ∃ W, W = (w.alloc (.cells #[.int .i64 M, .int .i64 E] 23)).alloc (.cells #[.int .i64 0, .int .i64 0] 23) := ⟨_, rfl⟩
  rw [← hW]
  have d0 : World.dec W w.heap.size M E := by rw [hW]; exact (World.dec_new w M E _ rfl).alloc _
  have d2 : World.dec W (w.heap.size + 1) 0 0 := by rw [hW]; exact World.dec_new _ 0 0 _ (by simp)
  have hB : Below w.heap.size w W := by rw [hW]; exact ((Below.refl _ w).alloc (Nat.le_refl _) _).alloc (by simp) _
  clear hW
  refine (rright_any M E _ h0 h1).mono ?_
  rintro e wr ⟨rfl, hB1⟩
  have d2 := d2.below hB1 d2.lt
  have hB := hB.trans (hB1.mono hB.size)
  have hsz := hB.size
  clear hB1
  have g0 := d2.c0
  have g1 := d2.c1
  have gf0 := d2.frozen 0
  have gf1 := d2.frozen 1
  go_wp2_with fail
  refine bodyPost_ret (results_dec_tmp rfl _ _ _ 0 0 rfl (World.dec.set1 (World.dec.set0 d2 0) 0)) rfl ?_
  exact ⟨rfl, (hB.setCell (by simp) _).setCell (by simp) _⟩
set_option maxRecDepth 100000 in
set_option maxHeartbeats 4000000 in
theorem rpow_pos (M E n : Int) (w : World) (h0 : -9223372036854775808 ≤ M) (h1 : M ≤ 9223372036854775807) (hr : rightB M E = true) (n0 : 0 ≤ n) (n1 : n ≤ 100) :
    Calls Tryd.prog 21 #[.agg #[.int .i64 M, .int .i64 E], .int .i64 n] w (DecPost (powN M E n.toNat) w) := by
  go_enter Tryd.func21, Tryd.ntmps21
  go_wp2_with fail
  obtain ⟨W, hW⟩ : ∃ W, W = (w.alloc (.cells #[.int .i64 M, .int .i64 E] 23)).alloc (.cells #[.int .i64 0, .int .i64 0] 23) := ⟨_, rfl⟩
  rw [← hW]
  have d0 : World.dec W w.heap.size M E := by rw [hW]; exact (World.dec_new w M E _ rfl).alloc _
  have d2 : World.dec W (w.heap.size + 1) 0 0 := by rw [hW]; exact World.dec_new _ 0 0 _ (by simp)
  have hB : Below w.heap.size w W := by rw [hW]; exact ((Below.refl _ w).alloc (Nat.le_refl _) _).alloc (by simp) _
  clear hW
  refine (rright_any M E _ h0 h1).mono ?_
  rintro e wr ⟨rfl, hB1⟩
  have d0 := d0.below hB1 d0.lt
  have d2 := d2.below hB1 d2.lt
  have hB := hB.trans (hB1.mono hB.size)
  have hsz := hB.size
  clear hB1
  go_wp2_with fail
  obtain ⟨W, hW⟩ : ∃ W, W = wr.alloc (.cells #[.int .i64 1, .int .i64 0] 23) := ⟨_, rfl⟩
  rw [← hW]
  obtain ⟨g, hg⟩ : ∃ g, g = wr.heap.size := ⟨_, rfl⟩
  rw [← hg]
  have d8 : World.dec W g 1 0 := by rw [hW]; exact World.dec_new wr 1 0 _ hg
  have hg2 : w.heap.size + 1 < g := by rw [hg]; exact d2.lt
  have d0 : World.dec W w.heap.size M E := by rw [hW]; exact d0.alloc _
  have d2 : World.dec W (w.heap.size + 1) 0 0 := by rw [hW]; exact d2.alloc _
  have hB : Below w.heap.size w W := by rw [hW]; exact hB.alloc hB.size _
  clear hW hg
  go_loopw [7] (fun k wr => ∃ (K : Nat) (X Y : Int), k = .int .i64 K ∧ (K : Int) ≤ n ∧ Hid (powN M E K = ((X, Y), 0)) ∧ RightP (X, Y) ∧ World.dec wr g X Y ∧ World.dec wr w.heap.size M E ∧ World.dec wr (w.heap.size + 1) 0 0 ∧ Below w.heap.size w wr) (fun k _ => (n - intOf k).toNat)
  case atStart => exact ⟨0, 1, 0, rfl, by omega, rfl, ⟨by decide, by decide, by decide, by decide, .inr ⟨by decide, .inl (by decide)⟩⟩, d8, d0, d2, hB⟩
  case round =>
    obtain ⟨K, X, Y, rfl, k0, HN, hR, e8, e0, e2, hB2⟩ := hrel
    clear d8 d0 d2 hB
    obtain ⟨x0, x1, y0, y1, _⟩ := hR
    simp only at x0 x1 y0 y1
    have a0 := e0.c0
    have a1 := e0.c1
    have b0 := e8.c0
    have b1 := e8.c1
    by_cases c : (K : Int) < n
    · go_wp2_with fail
      refine (rmul_any X Y M E _ (by omega) (by omega) h0 h1).mono ?_
      rintro e w2 ⟨rfl, hB1⟩
      have HS : Hid (powN M E (K + 1) = mulD X Y M E) := powN_ok HN.out
      have e8 := e8.below hB1 e8.lt
      have e0 := e0.below hB1 e0.lt
      have e2 := e2.below hB1 e2.lt
      have hB3 := hB2.trans (hB1.mono hB2.size)
      have hlt := e8.lt
      have hl2 := e2.lt
      have hl0 := e0.lt
      clear hB1 hB2 a0 a1 b0 b1
      rcases mulD_two X Y M E with ⟨⟨X', Y'⟩, hp, hR'⟩ | hp
      · rw [hp]
        have HP := Lib.hid hp
        clear hp
        have f0 := e8.frozen 0
        have f1 := e8.frozen 1
        have b0 := e8.c0
        have b1 := e8.c1
        go_wp2_with fail
        go_roundw
        case rel =>
          refine ⟨K + 1, X', Y', by go_num, by omega, ?_, hR', ((e8.set0 X').set1 Y').alloc _, ((e0.other (by simp; omega) _).other (by simp; omega) _).alloc _, ((e2.other (by simp; omega) _).other (by simp; omega) _).alloc _, ?_⟩
          · show _ = _; rw [HS.out, HP.out]
          · refine Below.alloc ((hB3.setCell (by simp; omega) _).setCell (by simp; omega) _) ?_ _
            simp; exact hB3.size
        case measure => first | (simp [intOf]; done) | (simp [intOf]; omega)
      · rw [hp]
        have HP := Lib.hid hp
        clear hp
        have f0 := e2.frozen 0
        have f1 := e2.frozen 1
        have b0 := e2.c0
        have b1 := e2.c1
        go_wp2_with fail
        refine bodyPost_ret (results_dec_tmp rfl _ _ _ 0 0 rfl (((e2.set0 0).set1 0).alloc _)) rfl ?_
        refine ⟨?_, Below.alloc ((hB3.setCell (by simp) _).setCell (by simp) _) (by simp; exact hB3.size) _⟩
        have h10 : powN M E n.toNat = ((0, 0), 10) := by
          have := powN_err (HS.out.trans HP.out) (n.toNat - (K + 1))
          rw [show K + 1 + (n.toNat - (K + 1)) = n.toNat by omega] at this
          exact this
        rw [h10]; rfl
    · have f0 := e2.frozen 0
      have f1 := e2.frozen 1
      have g0 := e2.c0
      have g1 := e2.c1
      go_wp2_with fail
      refine bodyPost_ret (results_dec_tmp rfl _ _ _ X Y rfl ((e2.set0 X).set1 Y)) rfl ?_
      refine ⟨?_, (hB2.setCell (by simp) _).setCell (by simp) _⟩
      rw [show n.toNat = K by omega, HN.out]; rfl
set_option maxRecDepth 100000 in
set_option maxHeartbeats 4000000 in
theorem rpow_neg (M E n : Int) (w : World) (h0 : -9223372036854775808 ≤ M) (h1 : M ≤ 9223372036854775807) (hr : rightB M E = true) (n0 : -100 ≤ n) (n1 : n < 0) :
    Calls Tryd.prog 21 #[.agg #[.int .i64 M, .int .i64 E], .int .i64 n] w (DecPost (invR (powN M E (-n).toNat)) w) := by
  go_enter Tryd.func21, Tryd.ntmps21
  go_wp2_with fail
  obtain ⟨W, hW⟩ : ∃ W, W = (w.alloc (.cells #[.int .i64 M, .int .i64 E] 23)).alloc (.cells #[.int .i64 0, .int .i64 0] 23) := ⟨_, rfl⟩
  rw [← hW]
  have d0 : World.dec W w.heap.size M E := by rw [hW]; exact (World.dec_new w M E _ rfl).alloc _
  have d2 : World.dec W (w.heap.size + 1) 0 0 := by rw [hW]; exact World.dec_new _ 0 0 _ (by simp)
  have hB : Below w.heap.size w W := by rw [hW]; exact ((Below.refl _ w).alloc (Nat.le_refl _) _).alloc (by simp) _
  clear hW
  refine (rright_any M E _ h0 h1).mono ?_
  rintro e wr ⟨rfl, hB1⟩
  have d0 := d0.below hB1 d0.lt
  have d2 := d2.below hB1 d2.lt
  have hB := hB.trans (hB1.mono hB.size)
  have hsz := hB.size
  clear hB1
  go_wp2_with fail
  obtain ⟨W, hW⟩ : ∃ W, W = wr.alloc (.cells #[.int .i64 1, .int .i64 0] 23) := ⟨_, rfl⟩
  rw [← hW]
  obtain ⟨g, hg⟩ : ∃ g, g = wr.heap.size := ⟨_, rfl⟩
  rw [← hg]
  have d8 : World.dec W g 1 0 := by rw [hW]; exact World.dec_new wr 1 0 _ hg
  have hg2 : w.heap.size + 1 < g := by rw [hg]; exact d2.lt
  have d0 : World.dec W w.heap.size M E := by rw [hW]; exact d0.alloc _
  have d2 : World.dec W (w.heap.size + 1) 0 0 := by rw [hW]; exact d2.alloc _
  have hB : Below w.heap.size w W := by rw [hW]; exact hB.alloc hB.size _
  clear hW hg
  go_loopw [7] (fun k wr => ∃ (K : Nat) (X Y : Int), k = .int .i64 K ∧ (K : Int) ≤ (-n) ∧ Hid (powN M E K = ((X, Y), 0)) ∧ RightP (X, Y) ∧ World.dec wr g X Y ∧ World.dec wr w.heap.size M E ∧ World.dec wr (w.heap.size + 1) 0 0 ∧ Below w.heap.size w wr) (fun k _ => ((-n) - intOf k).toNat)
  case atStart => exact ⟨0, 1, 0, rfl, by omega, rfl, ⟨by decide, by decide, by decide, by decide, .inr ⟨by decide, .inl (by decide)⟩⟩, d8, d0, d2, hB⟩
  case round =>
    obtain ⟨K, X, Y, rfl, k0, HN, hR, e8, e0, e2, hB2⟩ := hrel
    clear d8 d0 d2 hB
    obtain ⟨x0, x1, y0, y1, _⟩ := hR
    simp only at x0 x1 y0 y1
    have a0 := e0.c0
    have a1 := e0.c1
    have b0 := e8.c0
    have b1 := e8.c1
    by_cases c : (K : Int) < (-n)
    · go_wp2_with fail
      refine (rmul_any X Y M E _ (by omega) (by omega) h0 h1).mono ?_
      rintro e w2 ⟨rfl, hB1⟩
      have HS : Hid (powN M E (K + 1) = mulD X Y M E) := powN_ok HN.out
      have e8 := e8.below hB1 e8.lt
      have e0 := e0.below hB1 e0.lt
      have e2 := e2.below hB1 e2.lt
      have hB3 := hB2.trans (hB1.mono hB2.size)
      have hlt := e8.lt
      have hl2 := e2.lt
      have hl0 := e0.lt
      clear hB1 hB2 a0 a1 b0 b1
      rcases mulD_two X Y M E with ⟨⟨X', Y'⟩, hp, hR'⟩ | hp
      · rw [hp]
        have HP := Lib.hid hp
        clear hp
        have f0 := e8.frozen 0
        have f1 := e8.frozen 1
        have b0 := e8.c0
        have b1 := e8.c1
        go_wp2_with fail
        go_roundw
        case rel =>
          refine ⟨K + 1, X', Y', by go_num, by omega, ?_, hR', ((e8.set0 X').set1 Y').alloc _, ((e0.other (by simp; omega) _).other (by simp; omega) _).alloc _, ((e2.other (by simp; omega) _).other (by simp; omega) _).alloc _, ?_⟩
          · show _ = _; rw [HS.out, HP.out]
          · refine Below.alloc ((hB3.setCell (by simp; omega) _).setCell (by simp; omega) _) ?_ _
            simp; exact hB3.size
        case measure => first | (simp [intOf]; done) | (simp [intOf]; omega)
      · rw [hp]
        have HP := Lib.hid hp
        clear hp
        have f0 := e2.frozen 0
        have f1 := e2.frozen 1
        have b0 := e2.c0
        have b1 := e2.c1
        go_wp2_with fail
        refine bodyPost_ret (results_dec_tmp rfl _ _ _ 0 0 rfl (((e2.set0 0).set1 0).alloc _)) rfl ?_
        refine ⟨?_, Below.alloc ((hB3.setCell (by simp) _).setCell (by simp) _) (by simp; exact hB3.size) _⟩
        have h10 : powN M E (-n).toNat = ((0, 0), 10) := by
          have := powN_err (HS.out.trans HP.out) ((-n).toNat - (K + 1))
          rw [show K + 1 + ((-n).toNat - (K + 1)) = (-n).toNat by omega] at this
          exact this
        rw [h10]; rfl
    · go_wp2_with fail
      refine (rdiv_any 1 0 X Y _ (by omega) (by omega) (by omega) (by omega)).mono ?_
      rintro e w3 ⟨rfl, hB1⟩
      have e2 := e2.below hB1 e2.lt
      have hB := hB2.trans (hB1.mono hB2.size)
      clear a0 a1 b0 b1
      have f0 := e2.frozen 0
      have f1 := e2.frozen 1
      have b0 := e2.c0
      have b1 := e2.c1
      go_wp2_with fail
      refine bodyPost_ret (results_dec_tmp rfl _ _ _ _ _ rfl ((e2.set0 _).set1 _)) rfl ?_
      refine ⟨?_, (hB.setCell (by simp) _).setCell (by simp) _⟩
      rw [show (-n).toNat = K by omega, HN.out]; rfl
theorem rpow_any (M E n : Int) (w : World) (h0 : -9223372036854775808 ≤ M) (h1 : M ≤ 9223372036854775807) :
    Calls Tryd.prog 21 #[.agg #[.int .i64 M, .int .i64 E], .int .i64 n] w (DecPost (powD M E n) w) := by
  unfold powD
  by_cases hr : rightB M E = true
  · rw [if_pos hr]
    by_cases hn : -100 ≤ n ∧ n ≤ 100
    · rw [if_pos hn]
      by_cases h : n < 0
      · rw [if_pos h]; exact rpow_neg M E n w h0 h1 hr hn.1 h
      · rw [if_neg h]; exact rpow_pos M E n w h0 h1 hr (by omega) hn.2
    · rw [if_neg hn]
      by_cases h : n < -100
      · exact rpow_lo M E n w h0 h1 hr h
      · exact rpow_hi M E n w h0 h1 hr (by omega)
  · rw [if_neg hr]; exact rpow_no M E n w h0 h1 (by simpa using hr)
end Go.Proofs.YtpkohfdebgiloaaDoor
