/- dec.Div's inner function: a quotient, digit by digit. -/
import Derived.Test.YtpkohfdebgiloaaDoorMul
import Derived.Test.YtpkohfdebgiloaaDoorOps
import Derived.Deep.DeepCutAuto
import Derived.RegionTactic
import Derived.ChangeAlike
namespace Go.Proofs.YtpkohfdebgiloaaDoor
open Go.RowKit Go.Shelf

/-! ### a quotient, digit by digit -/
theorem quot_low (A B p k : Nat) (hk : k ≤ p) : A * 10 ^ p / B / 10 ^ k = A * 10 ^ (p - k) / B := by
  rw [Nat.div_div_eq_div_mul, show A * 10 ^ p = A * 10 ^ (p - k) * 10 ^ k by rw [Nat.mul_assoc, ← Nat.pow_add]; congr 2; omega]
  rw [Nat.mul_comm B, Nat.mul_comm (A * 10 ^ (p - k)), Nat.mul_div_mul_left _ _ (pow10_pos k)]
theorem quot_step (r B : Nat) (hB : 0 < B) (A j : Nat) (hr : r = A * 10 ^ j % B) : r * 10 / B = A * 10 ^ (j + 1) / B % 10 ∧ r * 10 % B = A * 10 ^ (j + 1) % B := by
  have e : A * 10 ^ (j + 1) = r * 10 + B * (A * 10 ^ j / B * 10) := by
    have := Nat.div_add_mod (A * 10 ^ j) B
    rw [hr, Nat.pow_succ, ← Nat.mul_assoc]
    calc A * 10 ^ j * 10 = (B * (A * 10 ^ j / B) + A * 10 ^ j % B) * 10 := by rw [this]
      _ = A * 10 ^ j % B * 10 + B * (A * 10 ^ j / B * 10) := by rw [Nat.add_mul, Nat.add_comm, Nat.mul_assoc]
  have hl : r * 10 / B < 10 := Nat.div_lt_of_lt_mul (by have := Nat.mod_lt (A * 10 ^ j) hB; rw [← hr] at this; omega)
  rw [e, Nat.add_mul_div_left _ _ hB, Nat.add_mul_mod_self_left]
  exact ⟨by rw [Nat.add_mul_mod_self_right, Nat.mod_eq_of_lt hl], rfl⟩
def quoD (A B p : Nat) : Nat := A * 10 ^ p / B
theorem quoD_dg (A B p k : Nat) (hk : k ≤ p) : dg (quoD A B p) k = ((A * 10 ^ (p - k) / B % 10 : Nat) : Int) := by
  unfold dg quoD; rw [quot_low _ _ _ _ hk]
theorem quoD_hi (A B p i : Nat) (hi : p ≤ i) : dg (A / B * 10 ^ p) i = dg (quoD A B p) i := by
  rw [dg_shift _ _ _ hi]
  unfold dg quoD
  obtain ⟨d, rfl⟩ : ∃ d, i = p + d := ⟨i - p, by omega⟩
  rw [Nat.pow_add, ← Nat.div_div_eq_div_mul _ (10 ^ p), quot_low _ _ _ _ (Nat.le_refl p), Nat.sub_self, Nat.pow_zero, Nat.mul_one, Nat.add_sub_cancel_left]

/-- What stands behind the quotient's whole part: the number's block, the two decimals, the result's block. -/
def DivMid (D : Nat) (s : Bool) (ba bb : Nat) (M E M' E' : Int) (w : World) (v : Value) (wc : World) : Prop :=
  ∃ g, v = .pointer (some ⟨g, 0, none⟩) ∧ World.num wc g s (dg D) false ∧ World.dec wc ba M E ∧ World.dec wc bb M' E' ∧ World.num wc (w.heap.size + 1) false z96 false ∧ Below w.heap.size w wc ∧ w.heap.size + 1 < g

set_option maxRecDepth 100000 in
set_option maxHeartbeats 4000000 in
theorem divf_core (A B p : Nat) (s : Bool) (f : Nat → Int) (m : Bool) (ba bb : Nat) (M E M' E' : Int) (w : World) (hr : rightB M E = true) (hr' : rightB M' E' = true) (hne : M' ≠ 0) (ha : World.dec w ba M E) (hb : World.dec w bb M' E') (hA : Hid (M.natAbs = A)) (hBd : Hid (M'.natAbs = B)) (HP : Hid ((p : Int) = 48 + (E - E'))) :
    Calls Tryd.prog 60 #[.agg (numF s f m), .pointer (some ⟨bb, 0, none⟩), .pointer (some ⟨ba, 0, none⟩)] w (fun e w' => e = .returned (.agg (numF (mulS M M') (dg (quoD A B p)) (A * 10 ^ p % B != 0))) ∧ Below w.heap.size w w') := by
  obtain ⟨r1, r2, r3, r4, _⟩ := rightB_iff.1 hr
  obtain ⟨q1, q2, q3, q4, _⟩ := rightB_iff.1 hr'
  have la := ha.lt
  have lb := hb.lt
  obtain ⟨B1, B2, A2, p1, p2⟩ : (1 : Int) ≤ (B : Int) ∧ (B : Int) ≤ 999999999999999 ∧ (A : Int) ≤ 999999999999999 ∧ 30 ≤ p ∧ p ≤ 66 := by
    have h1 := hA.out; have h2 := hBd.out; have h3 := HP.out; omega
  go_enter Tryd.func60, Tryd.ntmps60
  go_wp2_with (first
      | (refine wpList_alloc56 rfl rfl ?_
         obtain ⟨W, hW⟩ : ∃ W, W = (w.alloc (.cells (numF s f m) 56)).alloc (.cells (numF false z96 false) 56) := ⟨_, rfl⟩
         rw [← hW]
         have d0 : World.dec W ba M E := by rw [hW]; exact (ha.alloc _).alloc _
         have d1 : World.dec W bb M' E' := by rw [hW]; exact (hb.alloc _).alloc _
         have n2 : World.num W (w.heap.size + 1) false z96 false := by rw [hW]; exact World.num_new' _ _ _ _ _ (by simp)
         have hB : Below w.heap.size w W := by rw [hW]; exact ((Below.refl _ w).alloc (Nat.le_refl _) _).alloc (by simp) _
         clear hW
         have a0 := d0.c0
         have a1 := d0.c1
         have b0 := d1.c0
         have b1 := d1.c1)
      | (go_at_call 44; refine (abs_any _ _ (by omega) (by omega)).mono ?_; rintro e w1 ⟨rfl, rfl⟩; first | rw [hA.out] | rw [hBd.out]))
  have hB0 : ¬ B = 0 := by omega
  have hAB := Nat.div_le_self A B
  have p2' : p ≤ 96 := by omega
  have hwE : IntKind.i64.wrap (E - E') = E - E' := IntWalk.i64_in _ (by omega)
  have hq0 : (0 : Int) ≤ (A : Int) / (B : Int) := Int.ediv_nonneg (by omega) (by omega)
  have hq1 : (A : Int) / (B : Int) ≤ 18446744073709551615 := by rw [← Int.natCast_ediv]; generalize A / B = Q at hAB ⊢; omega
  have hqw : IntKind.u64.wrap ((A : Int) / (B : Int)) = (A : Int) / (B : Int) := by rw [wrap_u64]; exact Int.emod_eq_of_lt hq0 (by omega)
  have hq2 : Hid ((0 : Int) * 18446744073709551616 + (A : Int) / (B : Int) = ((A / B : Nat) : Int)) := by rw [← Int.natCast_ediv]; show _ = _; omega
  go_cut [7] (fun v7 wc => DivMid (A / B * 10 ^ p) (mulS M M') ba bb M E M' E' w v7 wc)
  case first =>
    refine wp_region_held_drew (S := (fun w' => w'.cell? ⟨ba, 0, none⟩ = some (.int .i64 M) ∧ w'.cell? ⟨ba, 1, none⟩ = some (.int .i64 E) ∧ w'.cell? ⟨bb, 0, none⟩ = some (.int .i64 M') ∧ w'.cell? ⟨bb, 1, none⟩ = some (.int .i64 E'))) (by kernel_rfl) ⟨a0, a1, b0, b1⟩ (fun hHeld => ?_)
    refine wpAnyH_take (i := 0) (v := ?_) rfl (by kernel_rfl) (by kernel_rfl) (by kernel_rfl) (fun _ _ _ h => h) (Or.inl ⟨by rfl, ?_⟩) hHeld ?_
    rotate_left
    · (intro w hSw; (try dsimp only at hSw); go_simp)
      all_goals with_reducible rfl
    try simp only [Act.put, List.setIfInBounds_toArray]
    refine wpAnyH_take (i := 1) (v := ?_) rfl (by kernel_rfl) (by kernel_rfl) (by kernel_rfl) (fun _ _ _ h => h) (Or.inl ⟨by rfl, ?_⟩) hHeld ?_
    rotate_left
    · (intro w hSw; (try dsimp only at hSw); go_simp)
      all_goals with_reducible rfl
    try simp only [Act.put]
    refine wpAnyH_take (i := 2) (v := ?_) rfl (by kernel_rfl) (by kernel_rfl) (by kernel_rfl) (fun _ _ _ h => h) (Or.inl ⟨by rfl, ?_⟩) hHeld ?_
    rotate_left
    · (intro w hSw; (try dsimp only at hSw); go_simp)
      all_goals with_reducible rfl
    try simp only [Act.put]
    refine wpAnyH_take (i := 3) (v := ?_) rfl (by kernel_rfl) (by kernel_rfl) (by kernel_rfl) (fun _ _ _ h => h) (Or.inl ⟨by rfl, ?_⟩) hHeld ?_
    rotate_left
    · (intro w hSw; (try dsimp only at hSw); go_simp)
      all_goals with_reducible rfl
    try simp only [Act.put]
    refine wpAnyH_take (i := 4) (v := ?_) rfl (by kernel_rfl) (by kernel_rfl) (by kernel_rfl) (fun _ _ _ h => h) (Or.inl ⟨by rfl, ?_⟩) hHeld ?_
    rotate_left
    · (intro w hSw; (try dsimp only at hSw); go_simp)
      all_goals with_reducible rfl
    try simp only [Act.put]
    refine wpAnyH_take (i := 5) (v := ?_) rfl (by kernel_rfl) (by kernel_rfl) (by kernel_rfl) (fun _ _ _ h => h) (Or.inl ⟨by rfl, ?_⟩) hHeld ?_
    rotate_left
    · (intro w hSw; (try dsimp only at hSw); go_simp)
      all_goals with_reducible rfl
    try simp only [Act.put]
    refine wpAnyH_take (i := 6) (v := ?_) rfl (by kernel_rfl) (by kernel_rfl) (by kernel_rfl) (fun _ _ _ h => h) (Or.inl ⟨by rfl, ?_⟩) hHeld ?_
    rotate_left
    · (intro w hSw; (try dsimp only at hSw); go_simp)
      all_goals with_reducible rfl
    try simp only [Act.put]
    refine wpAnyH_take (i := 7) (v := ?_) rfl (by kernel_rfl) (by kernel_rfl) (by kernel_rfl) (fun _ _ _ h => h) (Or.inl ⟨by rfl, ?_⟩) hHeld ?_
    rotate_left
    · (intro w hSw; (try dsimp only at hSw); go_simp)
      all_goals with_reducible rfl
    try simp only [Act.put]
    refine wpAnyH_take (i := 8) (v := ?_) rfl (by kernel_rfl) (by kernel_rfl) (by kernel_rfl) (fun _ _ _ h => h) (Or.inl ⟨by rfl, ?_⟩) hHeld ?_
    rotate_left
    · (intro w hSw; (try dsimp only at hSw); go_simp)
      all_goals with_reducible rfl
    try simp only [Act.put]
    refine wpAnyH_take (i := 9) (v := ?_) rfl (by kernel_rfl) (by kernel_rfl) (by kernel_rfl) (fun _ _ _ h => h) (Or.inl ⟨by rfl, ?_⟩) hHeld ?_
    rotate_left
    · (intro w hSw; (try dsimp only at hSw); go_simp)
      all_goals with_reducible rfl
    try simp only [Act.put]
    refine wpAnyH_take (i := 10) (v := ?_) rfl (by kernel_rfl) (by kernel_rfl) (by kernel_rfl) (fun _ _ _ h => h) (Or.inl ⟨by rfl, ?_⟩) hHeld ?_
    rotate_left
    · (intro w hSw; (try dsimp only at hSw); go_simp)
      all_goals with_reducible rfl
    try simp only [Act.put]
    refine wpAnyH_take (i := 11) (v := ?_) rfl (by kernel_rfl) (by kernel_rfl) (by kernel_rfl) (fun _ _ _ h => h) (Or.inl ⟨by rfl, ?_⟩) hHeld ?_
    rotate_left
    · (intro w hSw; (try dsimp only at hSw); go_simp)
      all_goals with_reducible rfl
    try simp only [Act.put]
    refine wpAnyH_take (i := 12) (v := ?_) rfl (by kernel_rfl) (by kernel_rfl) (by kernel_rfl) (fun _ _ _ h => h) (Or.inl ⟨by rfl, ?_⟩) hHeld ?_
    rotate_left
    · (intro w hSw; (try dsimp only at hSw); go_simp)
      all_goals with_reducible rfl
    try simp only [Act.put]
    refine wpAnyH_take (i := 13) (v := ?_) rfl (by kernel_rfl) (by kernel_rfl) (by kernel_rfl) (fun _ _ _ h => h) (Or.inl ⟨by rfl, ?_⟩) hHeld ?_
    rotate_left
    · (intro w hSw; (try dsimp only at hSw); go_simp)
      all_goals with_reducible rfl
    try simp only [Act.put]
    refine wpAnyH_take (i := 14) (v := ?_) rfl (by kernel_rfl) (by kernel_rfl) (by kernel_rfl) (fun _ _ _ h => h) (Or.inl ⟨by rfl, ?_⟩) hHeld ?_
    rotate_left
    · (intro w hSw; (try dsimp only at hSw); go_simp)
      all_goals with_reducible rfl
    try simp only [Act.put]
    have hlow : Hid (A / B * 10 ^ p < 10 ^ 96) := lay_lt (a := 15) (b := 66) (by rw [show (10 : Nat) ^ 15 = 1000000000000000 from by decide]; omega) p2 (by decide)
    refine wpAnyH_ready (rs := [15, 16]) (by kernel_rfl) (by simp) ?_
    refine AllReadyH.cons (o := ⟨some 30, _, _, _, _, _⟩) rfl (fun K hK => ?_) (AllReadyH.cons (o := ⟨some 7, _, _, _, _, _⟩) rfl (fun K hK => ?_) AllReadyH.nil)
    · go_simp
      with_reducible refine (of_any (!decide (M < 0) == decide (M' < 0)) 0 _ _ (A / B) p _ (by omega) hq0 (by omega) hq1 hq2 HP.out hlow p2').mono ?_
      rintro e w2 ⟨rfl, hB2⟩
      have k1 := hB.size
      have k2 := hB2.size
      simp only [World.size_drew] at k2
      have e0 := World.dec.below (World.dec.drew d0) hB2 d0.lt
      have e1 := World.dec.below (World.dec.drew d1) hB2 d1.lt
      have n4 := World.num.below (World.num.drew n2) hB2 n2.lt
      have hC := hB.drew.trans (hB2.mono k1)
      refine hK.out _ _ ⟨e0.c0, e0.c1, e1.c0, e1.c1⟩ (fun hHeld => ?_)
      clear hK K
      try simp only [Act.put, List.setIfInBounds_toArray, List.set_cons_zero, List.set_cons_succ]
      refine wpAnyH_ready (rs := [16]) (by kernel_rfl) (by simp) ?_
      refine AllReadyH.cons (o := ⟨some 7, _, _, _, _, _⟩) rfl (fun K hK => ?_) AllReadyH.nil
      rw [if_pos (by rfl)]
      refine op_alloc56 rfl ?_
      have e0 := e0.alloc (.cells (numF false z96 false) 56)
      have e1 := e1.alloc (.cells (numF false z96 false) 56)
      refine hK.out _ _ ⟨e0.c0, e0.c1, e1.c0, e1.c1⟩ (fun hHeld => ?_)
      clear hK K
      try simp only [Act.put, List.setIfInBounds_toArray, List.set_cons_zero, List.set_cons_succ]
      refine wpAnyH_ready (rs := [17]) (by kernel_rfl) (by simp) ?_
      refine AllReadyH.cons (o := ⟨none, _, _, _, _, _⟩) rfl (fun K hK => ?_) AllReadyH.nil
      rw [if_pos (by rfl)]
      refine op_store56 rfl rfl rfl (World.num_new _ _ _ _) ?_
      intro w3 n3 g3 z3
      have hm := n2.lt
      have e0 := World.dec.grown e0 g3 (by simp; omega)
      have e1 := World.dec.grown e1 g3 (by simp; omega)
      have n5 := World.num.grown (n4.alloc (.cells (numF false z96 false) 56)) g3 (by simp; omega)
      have hD := (hC.alloc (Nat.le_trans k1 k2) _).grown g3 (by simp; omega) (fun k hk => by cases hk; omega)
      refine hK.out _ _ ⟨e0.c0, e0.c1, e1.c0, e1.c1⟩ (fun hHeld => ?_)
      clear hK K
      refine wpAnyH_done (by kernel_rfl) ?_ _
      try simp only [Act.put]
      go_wp2_with fail
      go_meet
      case rel => exact ⟨_, rfl, n3, e0, e1, n5, hD, by omega⟩
    · rw [if_pos (by rfl)]
      refine op_alloc56 rfl ?_
      have hm := n2.lt
      have k1 := hB.size
      have e0 := (World.dec.drew d0).alloc (.cells (numF false z96 false) 56)
      have e1 := (World.dec.drew d1).alloc (.cells (numF false z96 false) 56)
      have n4 := (World.num.drew n2).alloc (.cells (numF false z96 false) 56)
      have hC := hB.drew.alloc k1 (.cells (numF false z96 false) 56)
      have n3 := World.num_new w1.drew false z96 false
      refine hK.out _ _ ⟨e0.c0, e0.c1, e1.c0, e1.c1⟩ (fun hHeld => ?_)
      clear hK K
      try simp only [Act.put]
      refine wpAnyH_ready (rs := [15]) (by kernel_rfl) (by simp) ?_
      refine AllReadyH.cons (o := ⟨some 30, _, _, _, _, _⟩) rfl (fun K hK => ?_) AllReadyH.nil
      go_simp
      with_reducible refine (of_any (!decide (M < 0) == decide (M' < 0)) 0 _ _ (A / B) p _ (by omega) hq0 (by omega) hq1 hq2 HP.out hlow p2').mono ?_
      rintro e w2 ⟨rfl, hB2⟩
      have k2 := hB2.size
      simp only [World.size_drew, World.size_alloc] at k2
      have e0 := World.dec.below e0 hB2 e0.lt
      have e1 := World.dec.below e1 hB2 e1.lt
      have n4 := World.num.below n4 hB2 n4.lt
      have n3 := World.num.below n3 hB2 n3.lt
      have hC := hC.trans (hB2.mono hC.size)
      refine hK.out _ _ ⟨e0.c0, e0.c1, e1.c0, e1.c1⟩ (fun hHeld => ?_)
      clear hK K
      try simp only [Act.put, List.setIfInBounds_toArray, List.set_cons_zero, List.set_cons_succ]
      refine wpAnyH_ready (rs := [17]) (by kernel_rfl) (by simp) ?_
      refine AllReadyH.cons (o := ⟨none, _, _, _, _, _⟩) rfl (fun K hK => ?_) AllReadyH.nil
      rw [if_pos (by rfl)]
      refine op_store56 rfl rfl rfl n3 ?_
      intro w3 n3 g3 z3
      have e0 := World.dec.grown e0 g3 (by simp; omega)
      have e1 := World.dec.grown e1 g3 (by simp; omega)
      have n5 := World.num.grown n4 g3 (by simp; omega)
      have hD := hC.grown g3 (by omega) (fun k hk => by cases hk; exact k1)
      refine hK.out _ _ ⟨e0.c0, e0.c1, e1.c0, e1.c1⟩ (fun hHeld => ?_)
      clear hK K
      refine wpAnyH_done (by kernel_rfl) ?_ _
      try simp only [Act.put]
      go_wp2_with fail
      go_meet
      case rel => exact ⟨_, rfl, n3, e0, e1, n5, hD, by omega⟩
  case rest =>
  obtain ⟨g, rfl, n3, e0, e1, n4, hB3, hg⟩ := hcut
  clear hqw hq0 hq1 hq2 hwE hAB hB0 hB a0 a1 b0 b1 d0 d1 n2
  have a1 := e0.c1
  have b1 := e1.c1
  clear a1 b1
  have a1 := e0.c1
  have b1 := e1.c1
  have hBpos : 0 < B := by omega
  go_wp2_with fail
  clear e0 e1 a1 b1
  go_loopw [6, 8] (fun l k wr => ∃ (r K : Nat), l = .int .u64 r ∧ k = .int .i64 ((K : Int) - 1) ∧ K ≤ p ∧ (r : Int) < (B : Int) ∧ Hid (r = A * 10 ^ (p - K) % B) ∧
      World.num wr g (mulS M M') (fun i => if i < K then 0 else dg (quoD A B p) i) false ∧ World.num wr (w.heap.size + 1) false z96 false ∧ Below w.heap.size w wr) (fun _ k _ => (intOf k + 1).toNat)
  case atStart =>
    refine ⟨A % B, p, by rw [Int.natCast_emod], by congr 1; have := HP.out; omega, Nat.le_refl _, by have := Nat.mod_lt A hBpos; omega, ?_, ?_, n4, hB3⟩
    · show _ = _; rw [Nat.sub_self, Nat.pow_zero, Nat.mul_one]
    · refine World.num.congr n3 (fun i _ => ?_)
      by_cases hi : i < p
      · rw [if_pos hi]; exact dg_shift_low _ _ _ hi
      · rw [if_neg hi]; exact quoD_hi _ _ _ _ (by omega)
  case round =>
    obtain ⟨r, K, rfl, rfl, j0, rB, HR, nx, n5, hB4⟩ := hrel
    clear n3 n4 hB3
    by_cases c : K = 0
    · subst c
      rw [show (((0 : Nat) : Int) - 1) = -1 from rfl]
      have cm := nx.more
      have cf := nx.frozen 97
      have hQ : Hid (∀ i, (if i < 0 then (0 : Int) else dg (quoD A B p) i) = dg (quoD A B p) i) := fun i => if_neg (by omega)
      have ny := World.num.setMore nx ((r : Int) != 0)
      have n6 := World.num.other n5 (a := ⟨g, 97, none⟩) (by show w.heap.size + 1 ≠ g; omega) (.bool ((r : Int) != 0))
      have hB5 : Below w.heap.size w (wr.setCell ⟨g, 97, none⟩ (.bool ((r : Int) != 0))) := hB4.setCell (by show w.heap.size ≤ g; omega) _
      go_wp2_with (first | refine wpList_load56 rfl rfl rfl ny ?_ | (refine wpList_store56 rfl rfl rfl rfl n6 ?_; intro w5 n7 g7 z7))
      refine bodyPost_ret (results_cell_row rfl _ _ _ 56 _ (0, 0) _ rfl n7 Tryd.underlying56 rfl (info56' _ _ _)) rfl ?_
      refine ⟨?_, hB5.grown g7 hB5.size (fun k hk => by cases hk; exact Nat.le_succ _)⟩
      have e1 : ((r : Int) != 0) = (A * 10 ^ p % B != 0) := by
        have := HR.out
        rw [Nat.sub_zero] at this
        rw [← this, Bool.eq_iff_iff]; simp
      rw [e1, numF_congr (fun i _ => hQ.out i)]
    · obtain ⟨k, rfl⟩ : ∃ k, K = k + 1 := ⟨K - 1, by omega⟩
      rw [show ((k + 1 : Nat) : Int) - 1 = (k : Int) by omega]
      have hk96 : k < 96 := by omega
      have hkI : (k : Int) < 96 := by omega
      obtain ⟨hc, hf⟩ := World.num.at nx k hk96
      obtain ⟨s1, s2⟩ := quot_step r B hBpos A (p - (k + 1)) HR.out
      rw [show p - (k + 1) + 1 = p - k by omega] at s1 s2
      have HQ : Hid ((r : Int) * 10 / (B : Int) = dg (quoD A B p) k) := by
        show _ = _; rw [quoD_dg _ _ _ _ (by omega), ← s1, Int.natCast_ediv, Int.natCast_mul]; rfl
      have HS : Hid (r * 10 % B = A * 10 ^ (p - k) % B) := s2
      have hr9 : r * 10 / B < 10 := Nat.div_lt_of_lt_mul (by omega)
      have q0 : (0 : Int) ≤ (r : Int) * 10 / (B : Int) := Int.ediv_nonneg (by omega) (by omega)
      have q9 : (r : Int) * 10 / (B : Int) ≤ 9 := by
        have : (r : Int) * 10 / (B : Int) = ((r * 10 / B : Nat) : Int) := by rw [Int.natCast_ediv, Int.natCast_mul]; rfl
        rw [this]; omega
      have hm : r * 10 % B < B := Nat.mod_lt _ hBpos
      have hqw : IntKind.u64.wrap ((r : Int) * 10 / (B : Int)) = (r : Int) * 10 / (B : Int) := by rw [wrap_u64]; exact Int.emod_eq_of_lt q0 (by omega)
      have hB0 : ¬ B = 0 := by omega
      have htd : ((r : Int) * 10).tdiv (B : Int) = (r : Int) * 10 / (B : Int) := Int.tdiv_eq_ediv_of_nonneg (by omega)
      have htm : ((r : Int) * 10).tmod (B : Int) = (r : Int) * 10 % (B : Int) := Int.tmod_eq_emod_of_nonneg (by omega)
      have m0 : (0 : Int) ≤ (r : Int) * 10 % (B : Int) := Int.emod_nonneg _ (by omega)
      have m1 : (r : Int) * 10 % (B : Int) < (B : Int) := Int.emod_lt_of_pos _ (by omega)
      have hmw : IntKind.u64.wrap ((r : Int) * 10 % (B : Int)) = (r : Int) * 10 % (B : Int) := by rw [wrap_u64]; exact Int.emod_eq_of_lt m0 (by omega)
      have HM : Hid ((r : Int) * 10 % (B : Int) = ((r * 10 % B : Nat) : Int)) := by show _ = _; rw [Int.natCast_emod, Int.natCast_mul]; rfl
      clear s1 s2 hr9 c
      have hD := World.num.set nx hk96 ((r : Int) * 10 / (B : Int))
      have hD6 := World.num.other n5 (a := ⟨g, 1 + k, none⟩) (by show w.heap.size + 1 ≠ g; omega) (.int .i8 ((r : Int) * 10 / (B : Int)))
      have hB6 : Below w.heap.size w (wr.setCell ⟨g, 1 + k, none⟩ (.int .i8 ((r : Int) * 10 / (B : Int)))) := hB4.setCell (by show w.heap.size ≤ g; omega) _
      go_wp2_with fail
      go_region
      go_wp2_with fail
      go_roundw
      case rel =>
        refine ⟨r * 10 % B, k, by rw [HM.out], rfl, by omega, by omega, HS, ?_, World.num.drew hD6, below_drewN hB6 1⟩
        refine World.num.congr (World.num.drew hD) (fun i _ => ?_)
        show (if i = k then _ else if i < k + 1 then (0 : Int) else dg (quoD A B p) i) = if i < k then 0 else dg (quoD A B p) i
        by_cases h1 : i = k
        · rw [if_pos h1, if_neg (by omega), HQ.out, h1]
        · rw [if_neg h1]
          by_cases h2 : i < k
          · rw [if_pos (by omega), if_pos h2]
          · rw [if_neg (by omega), if_neg h2]
      case measure => first | (simp [intOf]; done) | (simp [intOf]; omega)
end Go.Proofs.YtpkohfdebgiloaaDoor
