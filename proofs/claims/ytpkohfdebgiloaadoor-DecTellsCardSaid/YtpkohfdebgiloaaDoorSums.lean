/- Sums and differences of digits, place by place: no program. -/
import Derived.Test.YtpkohfdebgiloaaDoorSpec
namespace Go.Proofs.YtpkohfdebgiloaaDoor

/-- D is greater than D' just if the highest place at which they part says so. -/
def gtF (f g : Nat → Int) : Nat → Bool
  | 0 => false
  | K + 1 => if f K = g K then gtF f g K else decide (g K < f K)

theorem mod_succ (A K : Nat) : A % 10 ^ (K + 1) = (A / 10 ^ K % 10) * 10 ^ K + A % 10 ^ K := by
  rw [Nat.pow_succ, Nat.mod_mul, Nat.mul_comm (10 ^ K), Nat.add_comm]
theorem gtF_mod (A B : Nat) : ∀ K, gtF (dg A) (dg B) K = decide (B % 10 ^ K < A % 10 ^ K)
  | 0 => by simp [gtF, Nat.mod_one]
  | K + 1 => by
    rw [gtF, gtF_mod A B K, mod_succ, mod_succ]
    have ha := Nat.mod_lt A (pow10_pos K)
    have hb := Nat.mod_lt B (pow10_pos K)
    have e : dg A K = dg B K ↔ A / 10 ^ K % 10 = B / 10 ^ K % 10 := by unfold dg; omega
    have l : dg B K < dg A K ↔ B / 10 ^ K % 10 < A / 10 ^ K % 10 := by unfold dg; omega
    generalize A / 10 ^ K % 10 = a at *
    generalize B / 10 ^ K % 10 = b at *
    by_cases h : a = b
    · rw [if_pos (e.2 h)]; subst h; congr 1; simp
    · rw [if_neg (fun h2 => h (e.1 h2))]
      rw [decide_eq_decide, l]
      constructor
      · intro h2
        have : b * 10 ^ K + 10 ^ K ≤ a * 10 ^ K := by rw [← Nat.succ_mul]; exact Nat.mul_le_mul_right _ h2
        omega
      · intro h2
        refine Classical.byContradiction fun h3 => ?_
        have : a * 10 ^ K + 10 ^ K ≤ b * 10 ^ K := by rw [← Nat.succ_mul]; exact Nat.mul_le_mul_right _ (by omega)
        omega
theorem gtF_lt {A B : Nat} (ha : A < 10 ^ 96) (hb : B < 10 ^ 96) : gtF (dg A) (dg B) 96 = decide (B < A) := by
  rw [gtF_mod, Nat.mod_eq_of_lt ha, Nat.mod_eq_of_lt hb]

/-- A sum of signed numbers: its sign, and what it is without it. -/
def plusD (s : Bool) (D : Nat) (s' : Bool) (D' : Nat) : Bool × Nat := if s = s' then (s, D + D') else if D < D' then (s', D' - D) else (s, D - D')

/-- One place of a sum: what stands there, and what is carried on. -/
theorem place (S X Y K : Nat) (g c : Int) (hg : g = 1 ∨ g = -1) (h : ((S / 10 ^ K : Nat) : Int) = ((X / 10 ^ K : Nat) : Int) + g * ((Y / 10 ^ K : Nat) : Int) + c) :
    dg S K = (dg X K + g * dg Y K + c) % 10 ∧ ((S / 10 ^ (K + 1) : Nat) : Int) = ((X / 10 ^ (K + 1) : Nat) : Int) + g * ((Y / 10 ^ (K + 1) : Nat) : Int) + (dg X K + g * dg Y K + c) / 10 := by
  unfold dg
  have e (A : Nat) : A / 10 ^ (K + 1) = A / 10 ^ K / 10 := by rw [Nat.pow_succ, Nat.div_div_eq_div_mul]
  rw [e S, e X, e Y]
  generalize S / 10 ^ K = s at *
  generalize X / 10 ^ K = x at *
  generalize Y / 10 ^ K = y at *
  rcases hg with rfl | rfl
  · constructor <;> omega
  · constructor <;> omega
def mixTo (f g : Nat → Int) (K : Nat) : Nat → Int := fun i => if i < K then f i else g i
theorem mixTo_succ (f g : Nat → Int) (K i : Nat) : (if i = K then f K else mixTo f g K i) = mixTo f g (K + 1) i := by
  unfold mixTo
  by_cases h : i = K
  · subst h; simp
  · by_cases h2 : i < K
    · rw [if_neg h, if_pos h2, if_pos (by omega)]
    · rw [if_neg h, if_neg h2, if_neg (by omega)]
end Go.Proofs.YtpkohfdebgiloaaDoor
