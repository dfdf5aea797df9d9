/- The check ahead of a put. -/
import Derived.Test.YtnbfkhcignjfoaaDoorTold
namespace Go.Proofs.YtnbfkhcignjfoaaDoor
open Go Go.RowKit Go.Maps

theorem new_ix (w : World) : ∃ T, Ix (((w.alloc (.map #[] 0)).alloc (.map #[] 0)).alloc (.cells #[.map (some w.heap.size), .map (some (w.heap.size + 1))] 58)) w.heap.size (w.heap.size + 2) [] 0 T ∧ ∀ k, T k → w.heap.size ≤ k := by
  have h1 := (World.mp_made w Tryd.prog 72).alloc (.map #[] 0)
  have h2 := World.mp_made (w.alloc (.map #[] 0)) Tryd.prog 3
  rw [World.size_alloc] at h2
  have h3 := h1.alloc (.cells #[.map (some w.heap.size), .map (some (w.heap.size + 1))] 58)
  have h4 := h2.alloc (.cells #[.map (some w.heap.size), .map (some (w.heap.size + 1))] 58)
  have h5 := (MapKept.heap_alloc ((w.alloc (.map #[] 0)).alloc (.map #[] 0)) (.cells #[.map (some w.heap.size), .map (some (w.heap.size + 1))] 58)).1
  have hs : ((w.alloc (.map #[] 0)).alloc (.map #[] 0)).heap.size = w.heap.size + 2 := by simp
  rw [hs] at h5
  refine ⟨_, ⟨fun k => k = w.heap.size, w.heap.size, w.heap.size + 1, fun _ => none, 0, fun _ => none, ⟨h5, by omega, by show ¬ _ = _; omega, ⟨h3, Nat.le_refl _, Nat.le_refl _, rfl, ?_, ?_, ?_, ?_⟩, h4, by omega, by show ¬ _ = _; omega, fun id => rfl, ⟨by simp, by simp⟩, by simp⟩, rfl⟩, ?_⟩
  · rintro k rfl
    exact ⟨Nat.le_refl _, by simp; omega⟩
  · intro s r _ _
    exact World.ownsRow_nil _ _ _ _
  · intro s r _ _ k hk
    simp [rowAt, Value.ownBlock] at hk
  · intro s r s' r' _ _ _ _ k hk
    simp [rowAt, Value.ownBlock] at hk
  · rintro k (rfl | rfl) <;> omega
/-- Why a number is not put in. -/
def whyV (p q : Addr) (L : Ids) (id : Int) (a : Ar) : Value :=
  if fromB id 1 10000 = true ∧ a.right = true then (if (areaAt L id).isSome then .iface 122 (.pointer (some q)) else .nilIface) else .iface 122 (.pointer (some p))
set_option maxRecDepth 100000 in
set_option maxHeartbeats 4000000 in
theorem check_any (B bi N : Nat) (L : Ids) (T : Nat → Prop) (id : Int) (a : Ar) (p q : Addr) (w : World) (hI : Ix w B bi L N T) (hE : Errs w B p q) :
    Calls Tryd.prog 24 #[.pointer (some ⟨bi, 0, none⟩), .int .i64 id, a.v] w fun e w' => e = .returned (whyV p q L id a) ∧ Below w.heap.size w w' := by
  obtain ⟨T1, ma, mb, f, c, g, hI, rfl⟩ := hI
  have hble := hE.le
  have htwo := hE.two
  have hw0 : 0 < w.heap.size := by omega
  have HF := Lib.hid (isFrom_any id 1 10000)
  have HR := Lib.hid (isArea_any a.s a.r a.c a.n a.m)
  have g0 := hE.g0
  have g1 := hE.g1
  cases hf : fromB id 1 10000 with
  | false =>
    have hy : whyV p q L id a = .iface 122 (.pointer (some p)) := by unfold whyV; rw [hf]; simp
    rw [hy]
    rw [hf] at HF
    go_enter Tryd.func24, Tryd.ntmps24
    go_wp2_with (go_at_call 35; refine (HF.out _ (by omega)).mono ?_; rintro e w1 ⟨rfl, rfl⟩)
    all_goals
      go_ret
      exact ⟨rfl, (Below.refl w.heap.size w).alloc (Nat.le_refl _) _⟩
  | true =>
    rw [hf] at HF
    cases hr : a.right with
    | false =>
      have hy : whyV p q L id a = .iface 122 (.pointer (some p)) := by unfold whyV; rw [hr]; simp
      rw [hy]
      unfold Ar.right at hr
      rw [hr] at HR
      go_enter Tryd.func24, Tryd.ntmps24
      go_wp2_with (first
        | (go_at_call 35; refine (HF.out _ (by omega)).mono ?_; rintro e w1 ⟨rfl, rfl⟩)
        | (go_at_call 31; refine (HR.out _).mono ?_; rintro e w1 ⟨rfl, hB1⟩; have hb := ((Below.refl w.heap.size w).alloc (Nat.le_refl _) (.cells #[.int .i64 a.s, .int .i64 a.r, .int .i64 a.c, .int .i64 a.n, .int .i64 a.m] 31)).trans (hB1.mono (by simp)); have g0' := (hE.below (hb.mono hble)).g0)
        | fail)
      all_goals
        go_ret
        exact ⟨rfl, hb⟩
    | true =>
      obtain ⟨k1, k2, _, _⟩ := fromB_iff.1 hf
      have hy : whyV p q L id a = if (areaAt L id).isSome then .iface 122 (.pointer (some q)) else .nilIface := by unfold whyV; rw [hf, hr]; simp
      rw [hy]
      unfold Ar.right at hr
      rw [hr] at HR
      have hk := key3 (x := id) ⟨by omega, by omega⟩
      have HL := Lib.hid (show ∀ w1, Below w.heap.size w w1 → w1.cell? ⟨bi, 1, none⟩ = some (.map (some mb)) ∧ bi < w1.heap.size ∧ (Instr.lookup 56 (.map (some mb)) (.int .i64 id) true).run Tryd.prog w1 = .ok (.tuple #[((areaAt L id).map Ar.v).getD (areaV 0 0 0 0 0), .bool (areaAt L id).isSome]) w1 from fun w1 hb => by
        have hI1 := hI.below hb (Nat.le_refl _)
        have := hI1.areas.look keyed3 Tryd.underlying56 (Tryd.zeroValue31 _) hk true
        rw [if_pos rfl, hI1.at_ id] at this
        refine ⟨hI1.c1, (hI1.lt bi (.inr (.inr rfl))).2, ?_⟩
        rw [this]
        simp)
      cases hat : areaAt L id with
      | none =>
        rw [hat] at HL
        go_enter Tryd.func24, Tryd.ntmps24
        go_wp2_with (first
          | (go_at_call 35; refine (HF.out _ (by omega)).mono ?_; rintro e w1 ⟨rfl, rfl⟩)
          | (go_at_call 31; refine (HR.out _).mono ?_; rintro e w1 ⟨rfl, hB1⟩; have hb := ((Below.refl w.heap.size w).alloc (Nat.le_refl _) (.cells #[.int .i64 a.s, .int .i64 a.r, .int .i64 a.c, .int .i64 a.n, .int .i64 a.m] 31)).trans (hB1.mono (by simp)); obtain ⟨hc1, hbl, hlk⟩ := HL.out w1 hb; have g1' := (hE.below (hb.mono hble)).g1)
          | fail)
        all_goals
          go_ret
          exact ⟨rfl, hb.alloc hb.size _⟩
      | some b =>
        rw [hat] at HL
        have hw2 : 1 < w.heap.size := by omega
        go_enter Tryd.func24, Tryd.ntmps24
        go_wp2_with (first
          | (go_at_call 35; refine (HF.out _ (by omega)).mono ?_; rintro e w1 ⟨rfl, rfl⟩)
          | (go_at_call 31; refine (HR.out _).mono ?_; rintro e w1 ⟨rfl, hB1⟩; have hb := ((Below.refl w.heap.size w).alloc (Nat.le_refl _) (.cells #[.int .i64 a.s, .int .i64 a.r, .int .i64 a.c, .int .i64 a.n, .int .i64 a.m] 31)).trans (hB1.mono (by simp)); obtain ⟨hc1, hbl, hlk⟩ := HL.out w1 hb; have g1' := (hE.below (hb.mono hble)).g1; have hsz1 := hb.size; have hw3 : 1 < w1.heap.size := Nat.lt_of_lt_of_le hw2 hsz1)
          | fail)
        all_goals
          go_ret
          exact ⟨rfl, hb.alloc hb.size _⟩
end Go.Proofs.YtnbfkhcignjfoaaDoor
