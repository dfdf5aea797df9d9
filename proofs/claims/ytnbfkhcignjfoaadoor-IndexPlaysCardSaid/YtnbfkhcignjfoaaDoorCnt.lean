/- Numbers picked out of those below a bound: how many, which; what a look at a made index finds. -/
import Derived.Test.YtnbfkhcignjfoaaDoorOrder
namespace Go.Proofs.YtnbfkhcignjfoaaDoor
open Go Go.RowKit Go.Maps

def cnt (P : Nat → Bool) (i : Nat) : Nat := ((List.range i).filter P).length
def pick (P : Nat → Bool) (M : Nat) : List Int := ((List.range M).filter P).map fun k : Nat => (k : Int)
theorem cnt_zero (P : Nat → Bool) : cnt P 0 = 0 := rfl
theorem cnt_succ (P : Nat → Bool) (i : Nat) : cnt P (i + 1) = cnt P i + if P i then 1 else 0 := by
  unfold cnt
  rw [List.range_succ, List.filter_append, List.length_append]
  by_cases h : P i <;> simp [h]
theorem cnt_t {P : Nat → Bool} {i : Nat} (h : P i = true) : cnt P (i + 1) = cnt P i + 1 := by rw [cnt_succ, if_pos h]
theorem cnt_f {P : Nat → Bool} {i : Nat} (h : P i = false) : cnt P (i + 1) = cnt P i := by rw [cnt_succ, if_neg (by simp [h])]; rfl
theorem cnt_le (P : Nat → Bool) (i : Nat) : cnt P i ≤ i := by
  unfold cnt
  have := List.length_filter_le P (List.range i)
  simpa using this
theorem pick_len (P : Nat → Bool) (M : Nat) : (pick P M).length = cnt P M := by simp [pick, cnt]
theorem pick_succ (P : Nat → Bool) (M : Nat) : pick P (M + 1) = pick P M ++ if P M then [(M : Int)] else [] := by
  unfold pick
  rw [List.range_succ, List.filter_append, List.map_append]
  by_cases h : P M <;> simp [h]
theorem pick_get {P : Nat → Bool} : ∀ {M i : Nat}, i < M → P i = true → (pick P M)[cnt P i]? = some (i : Int)
  | 0, i, h, _ => absurd h (Nat.not_lt_zero i)
  | M + 1, i, h, hp => by
    rw [pick_succ]
    rcases Nat.lt_or_ge i M with h1 | h1
    · have h2 := pick_get h1 hp
      have h3 : cnt P i < (pick P M).length := by
        rcases Nat.lt_or_ge (cnt P i) (pick P M).length with h3 | h3
        · exact h3
        · rw [List.getElem?_eq_none h3] at h2
          cases h2
      rw [List.getElem?_append_left h3, h2]
    · obtain rfl : i = M := by omega
      rw [if_pos hp, List.getElem?_append_right (by rw [pick_len]; exact Nat.le_refl _), pick_len, Nat.sub_self]
      rfl
theorem cnt_lt {P : Nat → Bool} {M i : Nat} (h : i < M) (hp : P i = true) : cnt P i < cnt P M := by
  have h2 := pick_get h hp
  rw [← pick_len P M]
  rcases Nat.lt_or_ge (cnt P i) (pick P M).length with h3 | h3
  · exact h3
  · rw [List.getElem?_eq_none h3] at h2
    cases h2
theorem pick_mem {P : Nat → Bool} {M : Nat} {x : Int} : x ∈ pick P M ↔ ∃ k : Nat, k < M ∧ P k = true ∧ x = (k : Int) := by
  unfold pick
  rw [List.mem_map]
  constructor
  · rintro ⟨k, hk, rfl⟩
    rw [List.mem_filter, List.mem_range] at hk
    exact ⟨k, hk.1, hk.2, rfl⟩
  · rintro ⟨k, h1, h2, rfl⟩
    exact ⟨k, List.mem_filter.2 ⟨List.mem_range.2 h1, h2⟩, rfl⟩
theorem pick_up (P : Nat → Bool) (M : Nat) : (pick P M).Pairwise (· < ·) := by
  unfold pick
  rw [List.pairwise_map]
  refine (List.pairwise_lt_range.sublist List.filter_sublist).imp ?_
  intro a b h
  omega
def asks (xs : List Ar) (q : Ar → Bool) (k : Nat) : Bool := (xs[k]?.getD noAr).right && q (xs[k]?.getD noAr)
theorem pick_asked (xs : List Ar) (q : Ar → Bool) : Asked (madeL xs false) q (pick (asks xs q) (min xs.length 30)) := by
  refine ⟨pick_up _ _, fun x => ?_⟩
  rw [pick_mem]
  constructor
  · rintro ⟨k, hk, hp, rfl⟩
    unfold asks at hp
    rw [Bool.and_eq_true] at hp
    exact ⟨_, (madeL_mem xs false _).2 ⟨k, hk, rfl, rfl, hp.1⟩, hp.2⟩
  · rintro ⟨a, h1, h2⟩
    obtain ⟨k, hk, e1, e2, e3⟩ := (madeL_mem xs false _).1 h1
    simp only at e1 e2 e3
    subst e1 e2
    exact ⟨k, hk, by unfold asks; rw [Bool.and_eq_true]; exact ⟨e3, h2⟩, rfl⟩
theorem meetB_comm (s r c n m s' r' c' n' m' : Int) : meetB s r c n m s' r' c' n' m' = meetB s' r' c' n' m' s r c n m := by
  rw [Bool.eq_iff_iff, meetB_iff, meetB_iff]
  constructor
  · rintro ⟨h1, h2, rfl, h3⟩
    exact ⟨h2, h1, rfl, by omega⟩
  · rintro ⟨h1, h2, rfl, h3⟩
    exact ⟨h2, h1, rfl, by omega⟩
end Go.Proofs.YtnbfkhcignjfoaaDoor
