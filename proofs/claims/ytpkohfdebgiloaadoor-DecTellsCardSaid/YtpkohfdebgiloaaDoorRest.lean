/- number.top and number.rest. -/
import Derived.Test.YtpkohfdebgiloaaDoorLay
import Derived.Test.YtpkohfdebgiloaaDoorSpec
namespace Go.Proofs.YtpkohfdebgiloaaDoor
open Go.RowKit

/-! ### top -/
set_option maxHeartbeats 1000000 in
theorem top_any (b : Nat) (s : Bool) (f : Nat → Int) (m : Bool) (t : Int) (w : World) (hx : World.num w b s f m) (t0 : -1 ≤ t) (t1 : t ≤ 95) (hhi : ∀ k : Nat, k < 96 → t < (k : Int) → f k = 0) (hat : ∀ k : Nat, (k : Int) = t → f k ≠ 0) :
    Calls Tryd.prog 63 #[.pointer (some ⟨b, 0, none⟩)] w fun e w' => e = .returned (.int .i64 t) ∧ w' = w := by
  have hhi := Lib.hid hhi
  have hat := Lib.hid hat
  go_enter Tryd.func63, Tryd.ntmps63
  go_wp2
  go_loop [3] (fun k => ∃ K : Int, k = .int .i64 K ∧ t ≤ K ∧ K ≤ 95) (fun k => (intOf k + 1).toNat)
  case atStart => exact ⟨95, rfl, t1, by omega⟩
  case round =>
    obtain ⟨K, rfl, k0, k1⟩ := hrel
    by_cases h : K < 0
    · have : t = -1 := by omega
      subst this
      have : K = -1 := by omega
      subst this
      go_wp2
      go_ret
      exact ⟨rfl, rfl⟩
    · obtain ⟨k, rfl⟩ := Int.eq_ofNat_of_zero_le (by omega : 0 ≤ K)
      obtain ⟨hc, hf⟩ := World.num.at hx k (by omega)
      by_cases e : (k : Int) = t
      · have hne : (f k != 0) = true := by simpa using hat.out k e
        subst e
        go_wp2
        go_ret
        exact ⟨rfl, rfl⟩
      · have hne : (f k != 0) = false := by simpa using hhi.out k (by omega) (by omega)
        have e2 : t < (k : Int) := by omega
        clear e
        go_wp2
        go_round
        case rel => exact ⟨(k : Int) - 1, rfl, by omega, by omega⟩
        case measure => first | (simp [intOf]; done) | (simp [intOf]; omega)

/-! ### rest -/
set_option maxHeartbeats 1000000 in
theorem rest_any (b : Nat) (s : Bool) (f : Nat → Int) (m : Bool) (k : Nat) (w : World) (hx : World.num w b s f m) (k0 : 1 ≤ k) (k1 : k ≤ 96) :
    Calls Tryd.prog 62 #[.pointer (some ⟨b, 0, none⟩), .int .i64 k] w fun e w' => e = .returned (.int .i64 (restF (f (k - 1)) (m || lowB f (k - 1)))) ∧ w' = w := by
  have hm := hx.more
  have hc0 := (World.num.at hx (k - 1) (by omega)).1
  rw [show 1 + (k - 1) = k by omega] at hc0
  have hmax : ∀ x y : Int, (if x < y then y else x) = max x y := fun x y => by rw [Int.max_def]; split <;> split <;> omega
  go_enter Tryd.func62, Tryd.ntmps62
  go_wp2
  clear hmax
  go_loop [5, 15] (fun more i => ∃ (M : Bool) (K : Nat), more = .bool M ∧ i = .int .i64 K ∧ K ≤ k - 1 ∧ Hid (M = (m || lowB f K))) (fun _ i => k - (intOf i).toNat)
  case atStart => exact ⟨m, 0, rfl, rfl, by omega, by show _ = _; simp [lowB]⟩
  case round =>
    obtain ⟨M, K, rfl, rfl, j0, HM⟩ := hrel
    by_cases h : K < k - 1
    · obtain ⟨hc, hf⟩ := World.num.at hx K (by omega)
      have hs : Hid ((M || f K != 0) = (m || lowB f (K + 1))) := by show _ = _; rw [HM.out, lowB_succ, Bool.or_assoc]
      cases M
      · go_wp2
        go_round
        case rel => exact ⟨_, K + 1, rfl, by go_num, by omega, by show _ = _; rw [← hs.out]; rfl⟩
        case measure => first | (simp [intOf]; done) | (simp [intOf]; omega)
      · go_wp2
        go_round
        case rel => exact ⟨_, K + 1, rfl, by go_num, by omega, by show _ = _; rw [← hs.out]; rfl⟩
        case measure => first | (simp [intOf]; done) | (simp [intOf]; omega)
    · obtain rfl : K = k - 1 := by omega
      clear h
      cases M
      · go_wp2
        all_goals
          go_ret
          refine ⟨ret_int ?_, rfl⟩
          rw [← HM.out, restF_f]
          (repeat' split) <;> omega
      · go_wp2
        all_goals
          go_ret
          refine ⟨ret_int ?_, rfl⟩
          rw [← HM.out, restF_t]
          (repeat' split) <;> omega
end Go.Proofs.YtpkohfdebgiloaaDoor
