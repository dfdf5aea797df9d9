/- The plain functions on areas: what each tells of its numbers. -/
import Derived.Test.YtnbfkhcignjfoaaDoorRows
import Derived.WalkKit
import Derived.WalkSpells
import Derived.WalkLawsBesides
import Derived.Deep.QuietTactic
import Derived.BigQuiet
namespace Go.Proofs.YtnbfkhcignjfoaaDoor
open Go.RowKit

@[go_sem] theorem alloc_drewN (w : World) (n : Nat) (o : Obj) : (w.drewN n).alloc o = (w.alloc o).drewN n := rfl
@[go_sem] theorem setCell_drewN (w : World) (n : Nat) (a : Addr) (v : Value) : (w.drewN n).setCell a v = (w.setCell a v).drewN n := rfl
@[go_sem] theorem shape_drewN (w : World) (n : Nat) (r : Nat) : (w.drewN n).shape? r = w.shape? r := rfl

theorem ret_bool {a b : Bool} (h : a = b) : Ending.returned (.bool a) = .returned (.bool b) := by rw [h]
theorem ret_int {k : IntKind} {a b : Int} (h : a = b) : Ending.returned (.int k a) = .returned (.int k b) := by rw [h]

theorem bcell {W w1 : World} (hb : Below W.heap.size W w1) : (∀ b o, b < W.heap.size → w1.cell? ⟨b, o, none⟩ = W.cell? ⟨b, o, none⟩) ∧ (∀ b o, b < W.heap.size → w1.frozen? ⟨b, o, none⟩ = W.frozen? ⟨b, o, none⟩) :=
  ⟨fun b o h => hb.cell (p := ⟨b, o, none⟩) h, fun b o h => hb.frozen (p := ⟨b, o, none⟩) h⟩

def fromB (a n l : Int) : Bool := decide (0 ≤ a ∧ a < l ∧ 1 ≤ n ∧ n ≤ l - a)
theorem fromB_iff {a n l : Int} : fromB a n l = true ↔ (0 ≤ a ∧ a < l ∧ 1 ≤ n ∧ n ≤ l - a) := by simp [fromB]

set_option maxHeartbeats 400000 in
theorem isFrom_any (a n l : Int) (w : World) (hl : l ≤ 1000000) :
    Calls Tryd.prog 35 #[.int .i64 a, .int .i64 n, .int .i64 l] w fun e w' => e = .returned (.bool (fromB a n l)) ∧ w = w' := by
  go_enter Tryd.func35, Tryd.ntmps35
  go_wp2
  all_goals
    go_ret
    refine ⟨ret_bool ?_, rfl⟩
    rw [Bool.eq_iff_iff, fromB_iff]; simp only [decide_eq_true_eq, Bool.false_eq_true, false_iff]; omega

def rightB (s r c n m : Int) : Bool := decide (0 ≤ s ∧ s < 8 ∧ 1 ≤ n ∧ 1 ≤ m ∧ 0 ≤ r ∧ r < 200 ∧ 0 ≤ c ∧ c < 52 ∧ n ≤ 200 - r ∧ m ≤ 52 - c)
theorem rightB_iff {s r c n m : Int} : rightB s r c n m = true ↔ (0 ≤ s ∧ s < 8 ∧ 1 ≤ n ∧ 1 ≤ m ∧ 0 ≤ r ∧ r < 200 ∧ 0 ≤ c ∧ c < 52 ∧ n ≤ 200 - r ∧ m ≤ 52 - c) := by simp [rightB]

abbrev areaV (s r c n m : Int) : Value := .agg #[.int .i64 s, .int .i64 r, .int .i64 c, .int .i64 n, .int .i64 m]

set_option maxHeartbeats 1000000 in
theorem right21_any (s r c n m : Int) (w : World) :
    Calls Tryd.prog 21 #[areaV s r c n m] w fun e w' => e = .returned (.bool (rightB s r c n m)) ∧ Below w.heap.size w w' := by
  go_enter Tryd.func21, Tryd.ntmps21
  go_wp2
  all_goals
    go_ret
    refine ⟨ret_bool ?_, (Below.refl _ _).alloc (Nat.le_refl _) _⟩
    rw [Bool.eq_iff_iff, rightB_iff]; simp only [decide_eq_true_eq, Bool.false_eq_true, false_iff]; omega

set_option maxHeartbeats 1000000 in
theorem right34_any (s r c n m : Int) (w : World) :
    Calls Tryd.prog 34 #[areaV s r c n m] w fun e w' => e = .returned (.bool (rightB s r c n m)) ∧ Below w.heap.size w w' := by
  go_enter Tryd.func34, Tryd.ntmps34
  go_wp2
  all_goals
    go_ret
    refine ⟨ret_bool ?_, (Below.refl _ _).alloc (Nat.le_refl _) _⟩
    rw [Bool.eq_iff_iff, rightB_iff]; simp only [decide_eq_true_eq, Bool.false_eq_true, false_iff]; omega

set_option maxHeartbeats 1000000 in
theorem isArea_any (s r c n m : Int) (w : World) :
    Calls Tryd.prog 31 #[areaV s r c n m] w fun e w' => e = .returned (.bool (rightB s r c n m)) ∧ Below w.heap.size w w' := by
  go_enter Tryd.func31, Tryd.ntmps31
  go_wp2_with (go_at_call 35; refine (isFrom_any _ _ _ _ (by omega)).mono ?_; rintro e w' ⟨rfl, rfl⟩)
  all_goals
    go_ret
    refine ⟨ret_bool ?_, (Below.refl _ _).alloc (Nat.le_refl _) _⟩
    rw [Bool.eq_iff_iff, rightB_iff]; simp only [fromB_iff, Bool.false_eq_true, false_iff] at *; omega
end Go.Proofs.YtnbfkhcignjfoaaDoor
