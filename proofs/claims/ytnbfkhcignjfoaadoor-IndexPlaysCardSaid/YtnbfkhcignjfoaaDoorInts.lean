/- Two lists of numbers: the same? -/
import Derived.Test.YtnbfkhcignjfoaaDoorAsk
namespace Go.Proofs.YtnbfkhcignjfoaaDoor
open Go Go.RowKit Go.Maps

set_option maxHeartbeats 1000000 in
theorem ints_eq (xs : List Int) (B B' : Nat) (v v' : Value) (w : World) (hx : w.ownsRow B 3 1 v xs.length (ints xs)) (hy : w.ownsRow B' 3 1 v' xs.length (ints xs)) (hl : xs.length ≤ 100000) :
    Calls Tryd.prog 13 #[v, v'] w fun e w' => e = .returned (.bool true) ∧ Below w.heap.size w w' := by
  obtain ⟨p, cap, rfl, h1⟩ := ints_shape hx
  obtain ⟨p', cap', rfl, h2⟩ := ints_shape hy
  go_enter Tryd.func13, Tryd.ntmps13
  go_wp2_with fail
  go_loopw [5] (fun i wr => ∃ K : Nat, i = .int .i64 (K : Int) ∧ K ≤ xs.length ∧ Below w.heap.size w wr) (fun i _ => xs.length - (intOf i).toNat)
  case atStart => exact ⟨0, rfl, Nat.zero_le _, Below.refl _ _⟩
  case round =>
    obtain ⟨K, rfl, hK, hB⟩ := hrel
    by_cases hlt : K < xs.length
    · obtain ⟨z, hz⟩ : ∃ z, xs[K]? = some z := ⟨_, List.getElem?_eq_getElem hlt⟩
      obtain ⟨g, rfl, _, h3⟩ := h1 K z hz
      obtain ⟨g', rfl, _, h4⟩ := h2 K z hz
      have h5 := (hB.cell (p := ⟨g, K, none⟩) (w.block_lt_of_cell? _ h3)).trans h3
      have h6 := (hB.cell (p := ⟨g', K, none⟩) (w.block_lt_of_cell? _ h4)).trans h4
      have hzz : (z != z) = false := by simp
      have hkn : (K : Int) < (xs.length : Int) := by omega
      clear h1 h2 h3 h4 hx hy
      go_wp2_with fail
      go_quiet (fail)
      go_wp2_with fail
      go_roundw
      case rel => exact ⟨K + 1, by go_num, hlt, hB.trans (⟨rfl, rfl, rfl, Nat.le_refl _, fun _ _ => rfl⟩)⟩
      case measure => simp [intOf]; omega
    · obtain rfl : K = xs.length := by omega
      go_wp2_with fail
      go_ret
      exact ⟨rfl, hB⟩
end Go.Proofs.YtnbfkhcignjfoaaDoor
