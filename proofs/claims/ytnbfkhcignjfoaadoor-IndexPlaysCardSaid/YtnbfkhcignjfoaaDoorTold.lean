/- What is told of an error; the checks ahead of a put. -/
import Derived.Test.YtnbfkhcignjfoaaDoorErrs
import Derived.Test.YtnbfkhcignjfoaaDoorIx
namespace Go.Proofs.YtnbfkhcignjfoaaDoor
open Go Go.RowKit Go.Maps

/-- The two errors, below B. -/
structure Errs (w : World) (B : Nat) (p q : Addr) : Prop where
  g0 : w.cell? ⟨0, 0, none⟩ = some (.iface 122 (.pointer (some p)))
  g1 : w.cell? ⟨1, 0, none⟩ = some (.iface 122 (.pointer (some q)))
  ne : p ≠ q
  hp : ∃ cs t, w.heap[p.block]? = some (.cells cs t (0, 0))
  hq : ∃ cs t, w.heap[q.block]? = some (.cells cs t (0, 0))
  bp : p.block < B
  bq : q.block < B
  two : 2 ≤ B
  le : B ≤ w.heap.size
theorem Errs.below {w w' : World} {B : Nat} {p q : Addr} (h : Errs w B p q) (hB : Below B w w') : Errs w' B p q := by
  have := h.two
  refine ⟨(hB.cell (p := ⟨0, 0, none⟩) (by show 0 < B; omega)).trans h.g0, (hB.cell (p := ⟨1, 0, none⟩) (by show 1 < B; omega)).trans h.g1, h.ne, ?_, ?_, h.bp, h.bq, h.two, Nat.le_trans h.le hB.size⟩
  · obtain ⟨cs, t, e⟩ := h.hp
    exact ⟨cs, t, (hB.block _ h.bp).trans e⟩
  · obtain ⟨cs, t, e⟩ := h.hq
    exact ⟨cs, t, (hB.block _ h.bq).trans e⟩
theorem told_nil (w : World) (B : Nat) (p q : Addr) (h : Errs w B p q) : Calls Tryd.prog 27 #[.nilIface] w fun e w' => e = .returned (.int .i64 0) ∧ w' = w := by
  have g0 := h.g0
  have g1 := h.g1
  go_enter Tryd.func27, Tryd.ntmps27
  go_wp2_with (go_at_call 36; refine (is_nil _ _).mono ?_; rintro e w1 ⟨rfl, rfl⟩)
  all_goals
    go_ret
    exact ⟨rfl, rfl⟩
theorem told_arg (w : World) (B : Nat) (p q : Addr) (h : Errs w B p q) : Calls Tryd.prog 27 #[.iface 122 (.pointer (some p))] w fun e w' => e = .returned (.int .i64 2) ∧ w' = w := by
  have g0 := h.g0
  have g1 := h.g1
  go_enter Tryd.func27, Tryd.ntmps27
  go_wp2_with (go_at_call 36; refine (is_same _ _).mono ?_; rintro e w1 ⟨rfl, rfl⟩)
  all_goals
    go_ret
    exact ⟨rfl, rfl⟩
theorem told_has (w : World) (B : Nat) (p q : Addr) (h : Errs w B p q) : Calls Tryd.prog 27 #[.iface 122 (.pointer (some q))] w fun e w' => e = .returned (.int .i64 110) ∧ w' = w := by
  have g0 := h.g0
  have g1 := h.g1
  obtain ⟨cs, t, hp⟩ := h.hp
  obtain ⟨cs', t', hq⟩ := h.hq
  have HO := Lib.hid (is_other q p _ _ _ _ w h.ne.symm hq hp)
  have HS := Lib.hid (is_same q w)
  clear hp hq
  go_enter Tryd.func27, Tryd.ntmps27
  go_wp2_with (first
    | (go_at_call 36; refine HO.out.mono ?_; clear HO; rintro e w1 ⟨rfl, rfl⟩)
    | (go_at_call 36; refine HS.out.mono ?_; rintro e w1 ⟨rfl, rfl⟩)
    | fail)
  all_goals
    go_ret
    exact ⟨rfl, rfl⟩
theorem new_any (w : World) : Calls Tryd.prog 8 #[] w fun e w' => e = .returned (.pointer (some ⟨w.heap.size + 2, 0, none⟩)) ∧ w' = ((w.alloc (.map #[] 0)).alloc (.map #[] 0)).alloc (.cells #[.map (some w.heap.size), .map (some (w.heap.size + 1))] 58) := by
  have hmm := @run_makeMap Tryd.prog
  go_enter Tryd.func8, Tryd.ntmps8
  go_wp2
  all_goals
    go_ret
    exact ⟨rfl, rfl⟩
end Go.Proofs.YtnbfkhcignjfoaaDoor
