/- In which order numbers are put in makes no difference. -/
import Derived.Test.YtnbfkhcignjfoaaDoorMade
import Derived.Deep.RegionHeld3
namespace Go.Proofs.YtnbfkhcignjfoaaDoor
open Go Go.RowKit Go.Maps

theorem kth_inj {n : Nat} {back : Bool} {i j : Nat} (hi : i < min n 30) (hj : j < min n 30) (h : kth n back i = kth n back j) : i = j := by
  unfold kth at h
  cases back
  · simpa using h
  · simp at h
    omega
theorem kth_lt {n : Nat} {back : Bool} {i : Nat} (hi : i < min n 30) : kth n back i < min n 30 := by
  unfold kth
  cases back
  · simpa using hi
  · simp
    omega
theorem made_mem (xs : List Ar) (back : Bool) : ∀ K, K ≤ min xs.length 30 → ∀ p, p ∈ madeN xs back K ↔ ∃ i, i < K ∧ p.1 = (kth xs.length back i : Nat) ∧ p.2 = xs[kth xs.length back i]?.getD noAr ∧ p.2.right = true
  | 0, _, p => by simp [madeN]
  | K + 1, hK, p => by
    have ih := made_mem xs back K (by omega)
    have hk := kth_lt (n := xs.length) (back := back) (i := K) (by omega)
    have hf : fromB (kth xs.length back K : Nat) 1 10000 = true := fromB_iff.2 (by omega)
    have hno : areaAt (madeN xs back K) (kth xs.length back K : Nat) = none := by
      rw [areaAt_none]
      intro a ha
      obtain ⟨i, hi, h1, _⟩ := (ih _).1 ha
      have : kth xs.length back K = kth xs.length back i := Int.ofNat.inj h1
      have := kth_inj (by omega) (by omega) this
      omega
    rw [madeN]
    unfold putL
    rw [hno, hf]
    by_cases hr : (xs[kth xs.length back K]?.getD noAr).right = true
    · rw [if_pos ⟨rfl, hr⟩, Option.isSome_none, if_neg (by decide), List.mem_append, ih p]
      constructor
      · rintro (⟨i, hi, h⟩ | h)
        · exact ⟨i, by omega, h⟩
        · simp only [List.mem_singleton] at h
          subst h
          exact ⟨K, by omega, rfl, rfl, hr⟩
      · rintro ⟨i, hi, h1, h2, h3⟩
        by_cases e : i = K
        · subst e
          refine .inr ?_
          rw [List.mem_singleton]
          exact Prod.ext h1 h2
        · exact .inl ⟨i, by omega, h1, h2, h3⟩
    · rw [if_neg (fun h => hr h.2), ih p]
      constructor
      · rintro ⟨i, hi, h⟩
        exact ⟨i, by omega, h⟩
      · rintro ⟨i, hi, h1, h2, h3⟩
        by_cases e : i = K
        · subst e
          rw [h2] at h3
          exact absurd h3 hr
        · exact ⟨i, by omega, h1, h2, h3⟩
theorem madeL_mem (xs : List Ar) (back : Bool) (p : Int × Ar) : p ∈ madeL xs back ↔ ∃ k : Nat, k < min xs.length 30 ∧ p.1 = (k : Int) ∧ p.2 = xs[k]?.getD noAr ∧ p.2.right = true := by
  rw [made_mem xs back _ (Nat.le_refl _)]
  constructor
  · rintro ⟨i, hi, h1, h2, h3⟩
    exact ⟨_, kth_lt hi, h1, h2, h3⟩
  · rintro ⟨k, hk, h1, h2, h3⟩
    cases back with
    | false => exact ⟨k, hk, by simpa [kth] using h1, by simpa [kth] using h2, h3⟩
    | true =>
      refine ⟨min xs.length 30 - 1 - k, by omega, ?_, ?_, h3⟩
      · have : kth xs.length true (min xs.length 30 - 1 - k) = k := by unfold kth; simp; omega
        rw [this]; exact h1
      · have : kth xs.length true (min xs.length 30 - 1 - k) = k := by unfold kth; simp; omega
        rw [this]; exact h2
theorem madeL_same (xs : List Ar) (p : Int × Ar) : p ∈ madeL xs true ↔ p ∈ madeL xs false := by rw [madeL_mem, madeL_mem]
theorem Asked.same {L L' : Ids} {q : Ar → Bool} {zs : List Int} (h : Asked L q zs) (hs : ∀ p, p ∈ L' ↔ p ∈ L) : Asked L' q zs :=
  ⟨h.up, fun x => (h.mem x).trans ⟨fun ⟨a, h1, h2⟩ => ⟨a, (hs _).2 h1, h2⟩, fun ⟨a, h1, h2⟩ => ⟨a, (hs _).1 h1, h2⟩⟩⟩
theorem len_same {L L' : Ids} (h : Good L) (h' : Good L') (hs : ∀ p, p ∈ L' ↔ p ∈ L) : L'.length = L.length :=
  Nat.le_antisymm (come_len h'.nodup fun p hp => (hs p).1 hp) (come_len h.nodup fun p hp => (hs p).2 hp)
theorem Ix.good {w : World} {B bi N : Nat} {L : Ids} {T : Nat → Prop} (h : Ix w B bi L N T) : Good L := by
  obtain ⟨T1, ma, mb, f, c, g, h, _⟩ := h
  exact h.good
theorem ints_at (xs : List Int) (v v' a b : Value) (w : World) (h : v = a ∧ v' = b) (B B' : Nat) (hx : w.ownsRow B 3 1 a xs.length (ints xs)) (hy : w.ownsRow B' 3 1 b xs.length (ints xs)) (hl : xs.length ≤ 100000) :
    Calls Tryd.prog 13 #[v, v'] w fun e w' => e = .returned (.bool true) ∧ Below w.heap.size w w' := by
  obtain ⟨rfl, rfl⟩ := h
  exact ints_eq xs B B' v v' w hx hy hl
/-- What a look finds, whichever of the two indexes is asked. -/
theorem two_hits (B B' bi bi' N N' : Nat) (L L' : Ids) (T T' : Nat → Prop) (s r c : Int) (zs : List Int) (w : World) (hI : Ix w B bi L N T) (hI' : Ix w B' bi' L' N' T') (hs : i64R s) (hr : i64R r) (hN : N ≤ 100000) (hN' : N' ≤ 100000)
    (hz : Asked L (hasB s r c) zs) (hz' : Asked L' (hasB s r c) zs) (b : Nat) (hb : b = bi ∨ b = bi') :
    Calls Tryd.prog 14 #[.pointer (some ⟨b, 0, none⟩), atV s r c] w fun e w' => ∃ v, e = .returned v ∧ w'.ownsRow w.heap.size 3 1 v zs.length (ints zs) ∧ Below w.heap.size w w' := by
  rcases hb with rfl | rfl
  · refine (hits_any B b N L T s r c w hI hs hr hN).mono ?_
    rintro e w' ⟨v, zs', he, ha, hl, ho, hb⟩
    obtain rfl := ha.unique hz
    exact ⟨v, he, ho, hb⟩
  · refine (hits_any B' b N' L' T' s r c w hI' hs hr hN').mono ?_
    rintro e w' ⟨v, zs', he, ha, hl, ho, hb⟩
    obtain rfl := ha.unique hz'
    exact ⟨v, he, ho, hb⟩
theorem two_meets (B B' bi bi' N N' : Nat) (L L' : Ids) (T T' : Nat → Prop) (s r c n m : Int) (zs : List Int) (w : World) (hI : Ix w B bi L N T) (hI' : Ix w B' bi' L' N' T') (hN : N ≤ 100000) (hN' : N' ≤ 100000)
    (hz : Asked L (meetsB s r c n m) zs) (hz' : Asked L' (meetsB s r c n m) zs) (b : Nat) (hb : b = bi ∨ b = bi') :
    Calls Tryd.prog 16 #[.pointer (some ⟨b, 0, none⟩), areaV s r c n m] w fun e w' => ∃ v, e = .returned v ∧ w'.ownsRow w.heap.size 3 1 v zs.length (ints zs) ∧ Below w.heap.size w w' := by
  rcases hb with rfl | rfl
  · refine (meets_any B b N L T s r c n m w hI hN).mono ?_
    rintro e w' ⟨v, zs', he, ha, hl, ho, hb⟩
    obtain rfl := ha.unique hz
    exact ⟨v, he, ho, hb⟩
  · refine (meets_any B' b N' L' T' s r c n m w hI' hN').mono ?_
    rintro e w' ⟨v, zs', he, ha, hl, ho, hb⟩
    obtain rfl := ha.unique hz'
    exact ⟨v, he, ho, hb⟩
/-- There is such a list. -/
theorem asked_ex {L : Ids} (hL : Good L) (q : Ar → Bool) : ∃ zs, Asked L q zs ∧ zs.length ≤ L.length := by
  have hn : (hl q L).Nodup := by
    unfold hl
    exact hL.nodup.sublist (List.filter_sublist.map _)
  have hp := List.mergeSort_perm (hl q L) (fun x y => decide (x ≤ y))
  have hs := List.pairwise_mergeSort (le := fun x y : Int => decide (x ≤ y)) (fun a b c h1 h2 => by simp at h1 h2 ⊢; omega) (fun a b => by simp; omega) (hl q L)
  refine ⟨(hl q L).mergeSort fun x y => decide (x ≤ y), ⟨?_, fun x => ?_⟩, ?_⟩
  · refine (hs.and (hp.nodup_iff.2 hn)).imp ?_
    rintro a b ⟨h1, h2⟩
    simp at h1
    omega
  · rw [hp.mem_iff]
    unfold hl
    rw [List.mem_map]
    constructor
    · rintro ⟨p, hp, rfl⟩
      rw [List.mem_filter] at hp
      exact ⟨p.2, hp.1, hp.2⟩
    · rintro ⟨a, h1, h3⟩
      exact ⟨(x, a), List.mem_filter.2 ⟨h1, h3⟩, rfl⟩
  · rw [List.length_mergeSort]
    exact hl_len q L
end Go.Proofs.YtnbfkhcignjfoaaDoor
