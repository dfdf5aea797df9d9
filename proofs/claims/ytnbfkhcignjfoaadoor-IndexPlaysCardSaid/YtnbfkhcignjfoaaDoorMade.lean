/- An index of areas. -/
import Derived.Test.YtnbfkhcignjfoaaDoorShown
namespace Go.Proofs.YtnbfkhcignjfoaaDoor
open Go Go.RowKit Go.Maps

/-- A slice of areas in memory, below B. -/
def Areas (w : World) (B : Nat) (v : Value) (xs : List Ar) : Prop :=
  ∃ p cap, v = .slice p xs.length cap ∧ xs.length ≤ 9223372036854775807 ∧ ∀ i a, xs[i]? = some a → ∃ g off, p = some ⟨g, off, none⟩ ∧ g < B ∧ w.cell? ⟨g, off + i * 5, none⟩ = some (.int .i64 a.s) ∧ w.cell? ⟨g, off + i * 5 + 1, none⟩ = some (.int .i64 a.r) ∧ w.cell? ⟨g, off + i * 5 + 2, none⟩ = some (.int .i64 a.c) ∧ w.cell? ⟨g, off + i * 5 + 3, none⟩ = some (.int .i64 a.n) ∧ w.cell? ⟨g, off + i * 5 + 4, none⟩ = some (.int .i64 a.m)
theorem Areas.below {w w' : World} {B : Nat} {v : Value} {xs : List Ar} (h : Areas w B v xs) (hB : Below B w w') : Areas w' B v xs := by
  obtain ⟨p, cap, rfl, hl, h⟩ := h
  refine ⟨p, cap, rfl, hl, fun i a hi => ?_⟩
  obtain ⟨g, off, e, hg, h0, h1, h2, h3, h4⟩ := h i a hi
  exact ⟨g, off, e, hg, (hB.cell (p := ⟨g, _, none⟩) hg).trans h0, (hB.cell (p := ⟨g, _, none⟩) hg).trans h1, (hB.cell (p := ⟨g, _, none⟩) hg).trans h2, (hB.cell (p := ⟨g, _, none⟩) hg).trans h3, (hB.cell (p := ⟨g, _, none⟩) hg).trans h4⟩
theorem Areas.mono {w : World} {B B' : Nat} {v : Value} {xs : List Ar} (h : Areas w B v xs) (hB : B ≤ B') : Areas w B' v xs := by
  obtain ⟨p, cap, rfl, hl, h⟩ := h
  refine ⟨p, cap, rfl, hl, fun i a hi => ?_⟩
  obtain ⟨g, off, e, hg, h⟩ := h i a hi
  exact ⟨g, off, e, by omega, h⟩
def kth (n : Nat) (back : Bool) (i : Nat) : Nat := if back then min n 30 - 1 - i else i
def madeN (xs : List Ar) (back : Bool) : Nat → Ids
  | 0 => []
  | K + 1 => putL (madeN xs back K) (kth xs.length back K : Nat) (xs[kth xs.length back K]?.getD noAr)
abbrev madeL (xs : List Ar) (back : Bool) : Ids := madeN xs back (min xs.length 30)
def MadePost (xs : List Ar) (back : Bool) (w : World) (e : Ending) (w' : World) : Prop :=
  e = .returned (.pointer (some ⟨w.heap.size + 2, 0, none⟩)) ∧ (∃ T, Ix w' w.heap.size (w.heap.size + 2) (madeL xs back) 6000 T) ∧ Below w.heap.size w w'
set_option maxRecDepth 100000 in
set_option maxHeartbeats 8000000 in
theorem made_f (D : Nat) (p q : Addr) (v : Value) (xs : List Ar) (w : World) (hE : Errs w D p q) (hA : Areas w w.heap.size v xs) :
    Calls Tryd.prog 20 #[v, .bool false] w (MadePost xs false w) := by
  have hE0 : ∀ w1, Below w.heap.size w w1 → Errs w1 w.heap.size p q := fun w1 hb => (hE.below (hb.mono hE.le)).mono hE.le hb.size
  obtain ⟨B, hB⟩ : ∃ B, B = w.heap.size := ⟨_, rfl⟩
  obtain ⟨bi, hbi⟩ : ∃ bi, bi = w.heap.size + 2 := ⟨_, rfl⟩
  have HN := Lib.hid (show Calls Tryd.prog 8 #[] w (Left (.pointer (some ⟨bi, 0, none⟩)) B bi [] 0 w) from (new_any w).mono fun e w' ⟨he, hw⟩ => by
    subst hw hB hbi
    obtain ⟨T, h1, _⟩ := new_ix w
    exact ⟨he, ⟨T, h1⟩, (((Below.refl w.heap.size w).alloc (Nat.le_refl _) _).alloc (by simp) _).alloc (by simp; omega) _⟩)
  have HP := Lib.hid (show ∀ w1 L N id a, Below B w w1 → N ≤ 90000 → (∃ T, Ix w1 B bi L N T) → Calls Tryd.prog 9 #[.pointer (some ⟨bi, 0, none⟩), .int .i64 id, Ar.v a] w1 (Left (.int .i64 (putE L id a)) B bi (putL L id a) (N + 200) w1) from fun w1 L N id a hb hN hI =>
    put_left B bi N L _ id _ a p q w1 hI (by subst hB; exact hE0 w1 hb) hN rfl rfl)
  have HAB := Lib.hid (show ∀ w1, Below B w w1 → Areas w1 B v xs from fun w1 hb => by subst hB; exact hA.below hb)
  have HBl := Lib.hid hB
  have Hbi := Lib.hid hbi
  obtain ⟨pp, cap, rfl, hlen, _⟩ := hA
  clear hE0 hE hB hbi
  go_enter Tryd.func20, Tryd.ntmps20
  go_wp2_with (go_at_call 8; refine HN.out.mono ?_; clear HN; rintro e w1 ⟨rfl, hI1, hB1⟩)
  go_loopw [6, 7] (fun i u wr => ∃ K : Nat, i = .int .i64 (K : Int) ∧ K ≤ min xs.length 30 ∧ (∃ T, Ix wr B bi (madeN xs false K) (200 * K) T) ∧ Below B w wr) (fun i _ _ => 30 - (intOf i).toNat)
  case atStart => exact ⟨0, rfl, Nat.zero_le _, hI1, hB1⟩
  case round =>
    obtain ⟨K, rfl, hK, hI, hBr⟩ := hrel
    by_cases hlt : K < min xs.length 30
    · have h1 : (K : Int) < (xs.length : Int) := by omega
      have h2 : (K : Int) < 30 := by omega
      have hKl : K < xs.length := by omega
      have hs : xs[K]? = some xs[K] := List.getElem?_eq_getElem hKl
      obtain ⟨a, ha⟩ : ∃ a, xs[K] = a := ⟨_, rfl⟩
      rw [ha] at hs
      obtain ⟨pp', cap', e, _, hc⟩ := HAB.out wr hBr
      obtain ⟨g, off, e2, hg, c0, c1, c2, c3, c4⟩ := hc K a hs
      simp only [Value.slice.injEq] at e
      obtain ⟨rfl, _, rfl⟩ := e
      subst e2
      have hP := Lib.hid (HP.out wr (madeN xs false K) (200 * K) K a hBr (by omega) hI)
      clear hc ha
      go_wp2_with (go_at_call 9; refine hP.out.mono ?_; rintro e w2 ⟨rfl, hI2, hB2⟩)
      go_roundw
      case rel =>
        refine ⟨K + 1, by go_num, by omega, ?_, hBr.trans hB2⟩
        have e1 : madeN xs false (K + 1) = putL (madeN xs false K) K a := by
          rw [madeN]
          show putL _ (K : Int) (xs[K]?.getD noAr) = _
          rw [hs]; rfl
        rw [e1]
        obtain ⟨T2, hI2⟩ := hI2
        exact ⟨T2, hI2.more (by omega)⟩
      case measure => simp [intOf]; omega
    · obtain rfl : K = min xs.length 30 := by omega
      go_wp2_with fail
      all_goals
        go_ret
        have hbi := Hbi.out
        have hB := HBl.out
        subst hbi hB
        obtain ⟨T, hI⟩ := hI
        exact ⟨rfl, ⟨T, hI.more (by omega)⟩, hBr⟩
set_option maxRecDepth 100000 in
set_option maxHeartbeats 8000000 in
theorem made_b (D : Nat) (p q : Addr) (v : Value) (xs : List Ar) (w : World) (hE : Errs w D p q) (hA : Areas w w.heap.size v xs) :
    Calls Tryd.prog 20 #[v, .bool true] w (MadePost xs true w) := by
  have hE0 : ∀ w1, Below w.heap.size w w1 → Errs w1 w.heap.size p q := fun w1 hb => (hE.below (hb.mono hE.le)).mono hE.le hb.size
  obtain ⟨B, hB⟩ : ∃ B, B = w.heap.size := ⟨_, rfl⟩
  obtain ⟨bi, hbi⟩ : ∃ bi, bi = w.heap.size + 2 := ⟨_, rfl⟩
  have HN := Lib.hid (show Calls Tryd.prog 8 #[] w (Left (.pointer (some ⟨bi, 0, none⟩)) B bi [] 0 w) from (new_any w).mono fun e w' ⟨he, hw⟩ => by
    subst hw hB hbi
    obtain ⟨T, h1, _⟩ := new_ix w
    exact ⟨he, ⟨T, h1⟩, (((Below.refl w.heap.size w).alloc (Nat.le_refl _) _).alloc (by simp) _).alloc (by simp; omega) _⟩)
  have HP := Lib.hid (show ∀ w1 L N id a, Below B w w1 → N ≤ 90000 → (∃ T, Ix w1 B bi L N T) → Calls Tryd.prog 9 #[.pointer (some ⟨bi, 0, none⟩), .int .i64 id, Ar.v a] w1 (Left (.int .i64 (putE L id a)) B bi (putL L id a) (N + 200) w1) from fun w1 L N id a hb hN hI =>
    put_left B bi N L _ id _ a p q w1 hI (by subst hB; exact hE0 w1 hb) hN rfl rfl)
  have HAB := Lib.hid (show ∀ w1, Below B w w1 → Areas w1 B v xs from fun w1 hb => by subst hB; exact hA.below hb)
  have HBl := Lib.hid hB
  have Hbi := Lib.hid hbi
  obtain ⟨pp, cap, rfl, hlen, _⟩ := hA
  clear hE0 hE hB hbi
  go_enter Tryd.func20, Tryd.ntmps20
  go_wp2_with (go_at_call 8; refine HN.out.mono ?_; clear HN; rintro e w1 ⟨rfl, hI1, hB1⟩)
  go_loopw [6, 7] (fun i u wr => ∃ K : Nat, i = .int .i64 (K : Int) ∧ K ≤ min xs.length 30 ∧ (∃ T, Ix wr B bi (madeN xs true K) (200 * K) T) ∧ Below B w wr) (fun i _ _ => 30 - (intOf i).toNat)
  case atStart => exact ⟨0, rfl, Nat.zero_le _, hI1, hB1⟩
  case round =>
    obtain ⟨K, rfl, hK, hI, hBr⟩ := hrel
    by_cases hlt : K < min xs.length 30
    · have h1 : (K : Int) < (xs.length : Int) := by omega
      have h2 : (K : Int) < 30 := by omega
      have hKl : K < xs.length := by omega
      obtain ⟨k, hk⟩ : ∃ k, k = min xs.length 30 - 1 - K := ⟨_, rfl⟩
      have hkl : k < xs.length := by omega
      have hs : xs[k]? = some xs[k] := List.getElem?_eq_getElem hkl
      obtain ⟨a, ha⟩ : ∃ a, xs[k] = a := ⟨_, rfl⟩
      rw [ha] at hs
      have hkz : min (xs.length : Int) 30 - 1 - (K : Int) = (k : Int) := by omega
      have hk0 : ¬ ((k : Int) < 0) := by omega
      have hkx : (k : Int) < (xs.length : Int) := by omega
      have HKk := Lib.hid hk
      clear hk
      obtain ⟨pp', cap', e, _, hc⟩ := HAB.out wr hBr
      obtain ⟨g, off, e2, hg, c0, c1, c2, c3, c4⟩ := hc k a hs
      simp only [Value.slice.injEq] at e
      obtain ⟨rfl, _, rfl⟩ := e
      subst e2
      have hP := Lib.hid (HP.out wr (madeN xs true K) (200 * K) k a hBr (by omega) hI)
      clear hc ha
      go_wp2_with (go_at_call 9; refine hP.out.mono ?_; rintro e w2 ⟨rfl, hI2, hB2⟩)
      go_roundw
      case rel =>
        refine ⟨K + 1, by go_num, by omega, ?_, hBr.trans hB2⟩
        have e1 : madeN xs true (K + 1) = putL (madeN xs true K) k a := by
          rw [madeN]
          have : kth xs.length true K = k := by rw [HKk.out]; rfl
          rw [this, hs]; rfl
        rw [e1]
        obtain ⟨T2, hI2⟩ := hI2
        exact ⟨T2, hI2.more (by omega)⟩
      case measure => simp [intOf]; omega
    · obtain rfl : K = min xs.length 30 := by omega
      go_wp2_with fail
      all_goals
        go_ret
        have hbi := Hbi.out
        have hB := HBl.out
        subst hbi hB
        obtain ⟨T, hI⟩ := hI
        exact ⟨rfl, ⟨T, hI.more (by omega)⟩, hBr⟩
end Go.Proofs.YtnbfkhcignjfoaaDoor
