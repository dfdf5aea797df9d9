/- tabulalaw01.pick, tabularef01.Right, tabulalaw01.DecOf. -/
import Derived.Test.YtpkohfdebgiloaaDoorRead
namespace Go.Proofs.YtpkohfdebgiloaaDoor
open Go.RowKit Go.Shelf

def pickI (c n : Int) : Int := if c < 0 then (-(c + 1)) % n else c % n
theorem pickI_bd (c : Int) {n : Int} (h : 0 < n) : 0 ≤ pickI c n ∧ pickI c n < n := by
  unfold pickI; split
  · exact ⟨Int.emod_nonneg _ (by omega), Int.emod_lt_of_pos _ h⟩
  · exact ⟨Int.emod_nonneg _ (by omega), Int.emod_lt_of_pos _ h⟩
set_option maxHeartbeats 1000000 in
theorem pick_any (c n : Int) (w : World) (h0 : -9223372036854775808 ≤ c) (h1 : c ≤ 9223372036854775807) (n0 : 0 < n) (n1 : n ≤ 9223372036854775807) :
    Calls Tryd.prog 19 #[.int .i64 c, .int .i64 n] w fun e w' => e = .returned (.int .i64 (pickI c n)) ∧ w' = w := by
  have hn : ¬ n = 0 := by omega
  by_cases hc : c < 0
  · have htm : (-(c + 1)).tmod n = (-(c + 1)) % n := Int.tmod_eq_emod_of_nonneg (by omega)
    have hb0 : 0 ≤ (-(c + 1)) % n := Int.emod_nonneg _ hn
    have hb1 : (-(c + 1)) % n < n := Int.emod_lt_of_pos _ n0
    have hw : IntKind.i64.wrap ((-(c + 1)) % n) = (-(c + 1)) % n := IntWalk.i64_in _ (by omega)
    have HP : Hid (pickI c n = (-(c + 1)) % n) := by show _ = _; rw [pickI, if_pos hc]
    go_enter Tryd.func19, Tryd.ntmps19
    go_wp2
    go_ret
    exact ⟨ret_int (by rw [HP.out]), rfl⟩
  · have htm : c.tmod n = c % n := Int.tmod_eq_emod_of_nonneg (by omega)
    have hb0 : 0 ≤ c % n := Int.emod_nonneg _ hn
    have hb1 : c % n < n := Int.emod_lt_of_pos _ n0
    have hw : IntKind.i64.wrap (c % n) = c % n := IntWalk.i64_in _ (by omega)
    have HP : Hid (pickI c n = c % n) := by show _ = _; rw [pickI, if_neg hc]
    go_enter Tryd.func19, Tryd.ntmps19
    go_wp2
    go_ret
    exact ⟨ret_int (by rw [HP.out]), rfl⟩
set_option maxHeartbeats 1000000 in
theorem rright_any (M E : Int) (w : World) (h0 : -9223372036854775808 ≤ M) (h1 : M ≤ 9223372036854775807) :
    Calls Tryd.prog 53 #[.agg #[.int .i64 M, .int .i64 E]] w fun e w' => e = .returned (.bool (rightB M E)) ∧ Below w.heap.size w w' := by
  have HT := Lib.hid (show M.tmod 10 = 0 ↔ M % 10 = 0 from by rw [← Int.dvd_iff_tmod_eq_zero, Int.dvd_iff_emod_eq_zero])
  go_enter Tryd.func53, Tryd.ntmps53
  go_wp2
  all_goals
    go_ret
    refine ⟨ret_bool ?_, (Below.refl _ _).alloc (Nat.le_refl _) _⟩
    have ht := HT.out
    rw [Bool.eq_iff_iff, rightB_iff]
    (try simp only [beq_iff_eq, ne_eq, Bool.false_eq_true, false_iff, true_iff])
    first
      | omega
      | (have hm : M = 0 := by simpa using ‹(M == 0) = true›
         omega)
      | (have hm : M ≠ 0 := by simpa using ‹(M == 0) = false›
         omega)

/-- Of raw numbers, a right decimal. -/
def madeP (M E : Int) : Int × Int := if rightB M E = true then (M, E) else decOf (decide (pickI M 1999999999999999 - 999999999999999 < 0)) (pickI M 1999999999999999 - 999999999999999).natAbs (pickI E 19 - 9)
theorem madeP_right (M E : Int) : RightP (madeP M E) := by
  unfold madeP
  by_cases h : rightB M E = true
  · rw [if_pos h]; exact rightB_P.1 h
  · rw [if_neg h]
    have h1 := pickI_bd M (n := 1999999999999999) (by decide)
    have h2 := pickI_bd E (n := 19) (by decide)
    exact decOf_right _ (by rw [p15]; omega) (by omega) (by omega)

theorem decOf_stop {a b : Int} (ha : a ≠ 0) (h : ¬ (a % 10 = 0 ∧ b < 9)) : decOf (decide (a < 0)) a.natAbs b = (a, b) := by
  unfold decOf
  rw [if_neg (by omega), strip_stop (by omega)]
  by_cases c2 : a < 0
  · simp only [c2, decide_true, if_true]; rw [show -((a.natAbs : Nat) : Int) = a by omega]
  · simp only [c2, decide_false, Bool.false_eq_true, if_false]; rw [show ((a.natAbs : Nat) : Int) = a by omega]
theorem decOf_down {x b : Int} (hb : b < 9) (_hx : x ≠ 0) : decOf (decide (x * 10 < 0)) (x * 10).natAbs b = decOf (decide (x < 0)) x.natAbs (b + 1) := by
  rw [show decide (x * 10 < 0) = decide (x < 0) by rw [decide_eq_decide]; omega, show (x * 10).natAbs = x.natAbs * 10 by omega, decOf_ten _ _ hb]
theorem decOf_nought (s : Bool) (b : Int) : decOf s 0 b = (0, 0) := rfl
set_option maxRecDepth 100000 in
set_option maxHeartbeats 4000000 in
theorem made_any (M E : Int) (w : World) (h0 : -9223372036854775808 ≤ M) (h1 : M ≤ 9223372036854775807) (h2 : -9223372036854775808 ≤ E) (h3 : E ≤ 9223372036854775807) :
    Calls Tryd.prog 18 #[.agg #[.int .i64 M, .int .i64 E]] w fun e w' => e = .returned (decV (madeP M E)) ∧ Below w.heap.size w w' := by
  go_enter Tryd.func18, Tryd.ntmps18
  go_wp2_with fail
  obtain ⟨W, hW⟩ : ∃ W, W = (w.alloc (.cells #[.int .i64 M, .int .i64 E] 23)).alloc (.cells #[.int .i64 0, .int .i64 0] 23) := ⟨_, rfl⟩
  rw [← hW]
  have d0 : World.dec W w.heap.size M E := by rw [hW]; exact (World.dec_new w M E _ rfl).alloc _
  have d2 : World.dec W (w.heap.size + 1) 0 0 := by rw [hW]; exact World.dec_new _ 0 0 _ (by simp)
  have hB : Below w.heap.size w W := by rw [hW]; exact ((Below.refl _ w).alloc (Nat.le_refl _) _).alloc (by simp) _
  clear hW
  refine (rright_any M E _ h0 h1).mono ?_
  rintro e w1 ⟨rfl, hB1⟩
  have d0 := d0.below hB1 d0.lt
  have d2 := d2.below hB1 d2.lt
  have hB := hB.trans (hB1.mono hB.size)
  clear hB1
  have a0 := d0.c0
  have a1 := d0.c1
  have b0 := d2.c0
  have b1 := d2.c1
  have f0 := d2.frozen 0
  have f1 := d2.frozen 1
  by_cases hr : rightB M E = true
  · have HM : Hid (madeP M E = (M, E)) := by show _ = _; rw [madeP, if_pos hr]
    go_wp2_with fail
    refine bodyPost_ret (results_cell_row rfl _ _ _ 23 _ (0, 0) _ rfl (World.dec.set1 (World.dec.set0 d2 M) E) Tryd.underlying23 rfl (by kernel_rfl)) rfl ?_
    exact ⟨by rw [HM.out], (hB.setCell (by simp) _).setCell (by simp) _⟩
  · have hrb : rightB M E = false := by simpa using hr
    have HM : Hid (madeP M E = decOf (decide (pickI M 1999999999999999 - 999999999999999 < 0)) (pickI M 1999999999999999 - 999999999999999).natAbs (pickI E 19 - 9)) := by show _ = _; rw [madeP, if_neg hr]
    clear hr
    obtain ⟨p0, p1⟩ := pickI_bd M (n := 1999999999999999) (by decide)
    obtain ⟨q0, q1⟩ := pickI_bd E (n := 19) (by decide)
    go_wp2_with fail
    refine (pick_any M 1999999999999999 _ h0 h1 (by decide) (by decide)).mono ?_
    rintro e w2 ⟨rfl, rfl⟩
    obtain ⟨m, hm⟩ : ∃ m, m = pickI M 1999999999999999 := ⟨_, rfl⟩
    rw [← hm] at p0 p1 ⊢
    have Hm := Lib.hid hm
    clear hm
    go_wp2_with fail
    refine (pick_any E 19 _ h2 h3 (by decide) (by decide)).mono ?_
    rintro e w3 ⟨rfl, rfl⟩
    obtain ⟨q, hq⟩ : ∃ q, q = pickI E 19 := ⟨_, rfl⟩
    rw [← hq] at q0 q1 ⊢
    have Hq := Lib.hid hq
    clear hq
    go_wp2_with fail
    obtain ⟨T, hT⟩ : ∃ T, T = madeP M E := ⟨_, rfl⟩
    have hT2 := hT
    rw [HM.out, ← Hm.out, ← Hq.out] at hT2
    have HT := Lib.hid hT
    have HT2 := Lib.hid hT2
    clear hT hT2
    go_loop [3, 4] (fun x y => ∃ a b : Int, x = .int .i64 a ∧ y = .int .i64 b ∧ -999999999999999 ≤ a ∧ a ≤ 999999999999999 ∧ -9 ≤ b ∧ b ≤ 9 ∧ Hid (T = decOf (decide (a < 0)) a.natAbs b)) (fun _ y => (9 - intOf y).toNat)
    case atStart => exact ⟨_, _, rfl, rfl, by omega, by omega, by omega, by omega, HT2⟩
    case round =>
      obtain ⟨a, b, rfl, rfl, u0, u1, v0, v1, HA⟩ := hrel
      by_cases hz : a = 0
      · subst hz
        go_wp2_with fail
        refine bodyPost_ret (results_cell_row rfl _ _ _ 23 _ (0, 0) _ rfl (World.dec.set1 (World.dec.set0 d2 0) 0) Tryd.underlying23 rfl (by kernel_rfl)) rfl ?_
        exact ⟨by rw [← HT.out, HA.out]; rfl, (hB.setCell (by simp) _).setCell (by simp) _⟩
      · have hzb : (a != 0) = true := by simpa using hz
        have hze : (a == 0) = false := by simpa using hz
        have hdiv : a.tmod 10 = 0 ↔ a % 10 = 0 := by rw [← Int.dvd_iff_tmod_eq_zero, Int.dvd_iff_emod_eq_zero]
        by_cases ht : a % 10 = 0
        · obtain ⟨x, rfl⟩ : ∃ x, a = x * 10 := ⟨a / 10, by omega⟩
          have hx : x ≠ 0 := by omega
          have htm : (x * 10).tmod 10 = 0 := hdiv.2 ht
          have htd : (x * 10).tdiv 10 = x := Int.mul_tdiv_cancel _ (by decide)
          have hwx : IntKind.i64.wrap x = x := IntWalk.i64_in _ (by omega)
          clear hdiv ht
          by_cases hb : b < 9
          · have HD : Hid (T = decOf (decide (x < 0)) x.natAbs (b + 1)) := by show _ = _; rw [HA.out, decOf_down hb hx]
            clear hx hz
            go_wp2_with fail
            go_round
            case rel => exact ⟨x, b + 1, rfl, rfl, by omega, by omega, by omega, by omega, HD⟩
            case measure => first | (simp [intOf]; done) | (simp [intOf]; omega)
          · have HD : Hid (T = (x * 10, b)) := by show _ = _; rw [HA.out, decOf_stop hz (by omega)]
            clear hx hz
            go_wp2_with fail
            refine bodyPost_ret (results_cell_row rfl _ _ _ 23 _ (0, 0) _ rfl (World.dec.set1 (World.dec.set0 d2 (x * 10)) b) Tryd.underlying23 rfl (by kernel_rfl)) rfl ?_
            exact ⟨by rw [← HT.out, HD.out], (hB.setCell (by simp) _).setCell (by simp) _⟩
        · have htm : (a.tmod 10 == 0) = false := by simpa using mt hdiv.1 ht
          have HD : Hid (T = (a, b)) := by show _ = _; rw [HA.out, decOf_stop hz (by omega)]
          clear hdiv hz ht
          go_wp2_with fail
          refine bodyPost_ret (results_cell_row rfl _ _ _ 23 _ (0, 0) _ rfl (World.dec.set1 (World.dec.set0 d2 a) b) Tryd.underlying23 rfl (by kernel_rfl)) rfl ?_
          exact ⟨by rw [← HT.out, HD.out], (hB.setCell (by simp) _).setCell (by simp) _⟩
end Go.Proofs.YtpkohfdebgiloaaDoor
