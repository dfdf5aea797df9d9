/- math/bits.Div64 at the divisor 10 and a high word below it: the quotient and the rest of the whole. -/
import Derived.Test.YtpkohfdebgiloaaDoorNum
import Derived.Test.YtpkohfdebgiloaaDoorShelf
import Derived.Laws.Bits64b
import Derived.Laws.BitsAllLaws
namespace Go.Proofs.YtpkohfdebgiloaaDoor
open Go.RowKit

theorem ret_two {k k' : IntKind} {a b c d : Int} (h : a = c) (h' : b = d) : Ending.returned (.tuple #[.int k a, .int k' b]) = .returned (.tuple #[.int k c, .int k' d]) := by rw [h, h']
theorem wrap_u64 (x : Int) : IntKind.u64.wrap x = x % 18446744073709551616 := rfl

set_option maxHeartbeats 400000 in
theorem div_0 (lo : Int) (w : World) (h0 : 0 ≤ lo) (h1 : lo ≤ 18446744073709551615) :
    Calls Tryd.prog 76 #[.int .u64 0, .int .u64 lo, .int .u64 10] w fun e w' => e = .returned (.tuple #[.int .u64 (lo / 10), .int .u64 (lo % 10)]) ∧ ∃ n, w' = w.drewN n := by
  go_enter Tryd.func76, Tryd.ntmps76
  go_wp2
  go_quiet (fail)
  go_wp2
  go_ret2
  exact ⟨rfl, nq, rfl⟩

set_option maxHeartbeats 400000 in
theorem div_w (hi lo A V U : Int) (w : World) (_h0 : 0 ≤ lo) (_h1 : lo ≤ 18446744073709551615) (g0 : 1 ≤ hi) (g1 : hi ≤ 9)
    (a0 : 0 ≤ A) (a1 : A ≤ 11529215046068469759) (v0 : 0 ≤ V) (v1 : V ≤ 4294967295)
    (hor : bits BinOp.or IntKind.u64 (hi * 1152921504606846976) (lo / 16) = A)
    (hV : IntKind.u64.wrap (lo * 1152921504606846976) / 4294967296 = V)
    (hz : bits BinOp.and IntKind.u64 (IntKind.u64.wrap (lo * 1152921504606846976)) 4294967295 = 0)
    (u0 : 0 ≤ U) (u1 : U ≤ 11529215046068469759)
    (hU : IntKind.u64.wrap (IntKind.u64.wrap (IntKind.u64.wrap (A * 4294967296) + V) - IntKind.u64.wrap (A / 2684354560 * 11529215046068469760)) = U)
    (hy : bits BinOp.and IntKind.u64 11529215046068469760 4294967295 = 0) :
    Calls Tryd.prog 76 #[.int .u64 hi, .int .u64 lo, .int .u64 10] w fun e w' =>
      e = .returned (.tuple #[.int .u64 (A / 2684354560 * 4294967296 + U / 2684354560), .int .u64 (IntKind.u64.wrap (IntKind.u64.wrap (IntKind.u64.wrap (U * 4294967296)) - IntKind.u64.wrap (U / 2684354560 * 11529215046068469760)) / 1152921504606846976)]) ∧ w' = w := by
  have c0 : (hi == 0) = false := by simp; omega
  go_enter Tryd.func76, Tryd.ntmps76
  go_wp2_with fail
  refine (Tryd.bits_LeadingZeros64 10 _ (by omega) (by omega)).mono ?_
  rintro e w1 ⟨rfl, rfl⟩
  rw [show (64 - (Lib.bitLen (10 : Int).toNat : Int)) = 60 from by decide]
  go_wp2_with fail
  refine wp_loop_once ?_
  go_wp2_with fail
  refine wp_loop_once ?_
  go_wp2_with fail
  go_ret2
  exact ⟨rfl, rfl⟩

end Go.Proofs.YtpkohfdebgiloaaDoor
