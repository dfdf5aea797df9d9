/- The argument of IndexPlays opened: a slice of calls. -/
import Derived.Test.YtnbfkhcignjfoaaDoorPair
import Derived.Test.YtnbfkhcignjfoaaDoorArgs
namespace Go.Proofs.YtnbfkhcignjfoaaDoor
open Go Go.ChangeShapes Go.WideShapes Go.Deep Go.Joins Go.RowKit
section
variable {H : Type} {enc : TypeId × Value → H} {w : World} {base : Nat} {spare : Nat → Bool} {held : Bool}
theorem int_cell {n : Nat} {cs : List Value} {k : Nat} {x : DataW H × List MemPlace} (h : DataW.trod enc Tryd.prog w base spare held n 3 ((cs.drop k).take 1) = some x) : ∃ z : Int, cs[k]? = some (.int .i64 z) ∧ i64R z := by
  obtain ⟨z, e, _, wf⟩ := DataW.trod_int Tryd.underlying3 h
  refine ⟨z, ?_, i64_of wf⟩
  have : ((cs.drop k).take 1)[0]? = some (.int .i64 z) := by rw [e]; rfl
  simpa using this
set_option maxRecDepth 100000 in
theorem area_cells {n : Nat} {cs : List Value} {x : DataW H × List MemPlace} (h : DataW.trod enc Tryd.prog w base spare held n 31 cs = some x) : ∀ j, j < 5 → ∃ z : Int, cs[j]? = some (.int .i64 z) ∧ i64R z := by
  obtain ⟨xs, m, _, _, _, hl, hf⟩ := DataW.trod_struct Tryd.underlying31 h
  have hx : ∀ i, i < 5 → ∃ y, xs[i]? = some y := fun i hi => ⟨_, List.getElem?_eq_getElem (by have : xs.length = 5 := hl; omega)⟩
  intro j hj
  obtain ⟨y, hy⟩ := hx j hj
  match j, hj with
  | 0, _ => exact int_cell ((hf 0 _ rfl).trans hy)
  | 1, _ => exact int_cell ((hf 1 _ rfl).trans hy)
  | 2, _ => exact int_cell ((hf 2 _ rfl).trans hy)
  | 3, _ => exact int_cell ((hf 3 _ rfl).trans hy)
  | 4, _ => exact int_cell ((hf 4 _ rfl).trans hy)
set_option maxRecDepth 100000 in
theorem at_cells {n : Nat} {cs : List Value} {x : DataW H × List MemPlace} (h : DataW.trod enc Tryd.prog w base spare held n 33 cs = some x) : ∀ j, j < 3 → ∃ z : Int, cs[j]? = some (.int .i64 z) ∧ i64R z := by
  obtain ⟨xs, m, _, _, _, hl, hf⟩ := DataW.trod_struct Tryd.underlying33 h
  have hx : ∀ i, i < 3 → ∃ y, xs[i]? = some y := fun i hi => ⟨_, List.getElem?_eq_getElem (by have : xs.length = 3 := hl; omega)⟩
  intro j hj
  obtain ⟨y, hy⟩ := hx j hj
  match j, hj with
  | 0, _ => exact int_cell ((hf 0 _ rfl).trans hy)
  | 1, _ => exact int_cell ((hf 1 _ rfl).trans hy)
  | 2, _ => exact int_cell ((hf 2 _ rfl).trans hy)
theorem cells31 : Tryd.prog.cellsOf 31 = 5 := by kernel_rfl
theorem cells33 : Tryd.prog.cellsOf 33 = 3 := by kernel_rfl
theorem cells35 : Tryd.prog.cellsOf 35 = 10 := by kernel_rfl
theorem sub_cell {cs : List Value} {d m j : Nat} {v : Value} (h : ((cs.drop d).take m)[j]? = some v) : cs[d + j]? = some v := by
  rw [List.getElem?_take] at h
  split at h
  · rwa [List.getElem?_drop] at h
  · cases h
set_option maxRecDepth 100000 in
theorem call_cells {n : Nat} {cs : List Value} {x : DataW H × List MemPlace} (h : DataW.trod enc Tryd.prog w base spare held n 35 cs = some x) : ∀ j, j < 10 → ∃ z : Int, cs[j]? = some (.int .i64 z) ∧ i64R z := by
  obtain ⟨xs, m, _, _, _, hl, hf⟩ := DataW.trod_struct Tryd.underlying35 h
  have hx : ∀ i, i < 4 → ∃ y, xs[i]? = some y := fun i hi => ⟨_, List.getElem?_eq_getElem (by have : xs.length = 4 := hl; omega)⟩
  obtain ⟨y0, e0⟩ := hx 0 (by omega)
  obtain ⟨y1, e1⟩ := hx 1 (by omega)
  obtain ⟨y2, e2⟩ := hx 2 (by omega)
  obtain ⟨y3, e3⟩ := hx 3 (by omega)
  have g0 := (hf 0 _ rfl).trans e0
  have g1 := (hf 1 _ rfl).trans e1
  have g2 := (hf 2 _ rfl).trans e2
  have g3 := (hf 3 _ rfl).trans e3
  change DataW.trod enc Tryd.prog w base spare held m 31 ((cs.drop 2).take (Tryd.prog.cellsOf 31)) = _ at g2
  change DataW.trod enc Tryd.prog w base spare held m 33 ((cs.drop 7).take (Tryd.prog.cellsOf 33)) = _ at g3
  intro j hj
  by_cases c0 : j = 0
  · subst c0; exact int_cell g0
  by_cases c1 : j = 1
  · subst c1; exact int_cell g1
  by_cases c2 : j < 7
  · obtain ⟨z, h1, h2⟩ := area_cells g2 (j - 2) (by omega)
    have := sub_cell h1
    rw [show 2 + (j - 2) = j by omega] at this
    exact ⟨z, this, h2⟩
  · obtain ⟨z, h1, h2⟩ := at_cells g3 (j - 7) (by omega)
    have := sub_cell h1
    rw [show 7 + (j - 7) = j by omega] at this
    exact ⟨z, this, h2⟩
theorem add_none (g off k : Nat) : (⟨g, off, none⟩ : Addr).add k = ⟨g, off + k, none⟩ := by
  unfold Addr.add
  split
  · rename_i h; rw [h]; rfl
  · rfl
set_option maxRecDepth 100000 in
theorem calls_open {r : Reach} {b0 : Nat} {v : Value} {d : DataW H} {p : List MemPlace} (hv : Value.okWide Tryd.prog w r b0 22 v) (h : DataW.Trod enc Tryd.prog w base spare held 22 v d p) : ∃ xs, Cls w w.heap.size v xs := by
  obtain ⟨a0, l0, c0, rfl⟩ := okWide_slice Tryd.underlying22 hv
  obtain ⟨fuel, hf⟩ := h
  rcases open_slice Tryd.underlying22 hf with ⟨hc, _⟩ | ⟨a, len, cap, m, n, D, Pl, hc, hb, hl, hm, hmm, hx, hi⟩
  · simp [Value.cells] at hc
    obtain ⟨rfl, rfl, rfl⟩ := hc
    exact ⟨[], none, 0, rfl, by simp, fun i a h => by simp at h⟩
  · simp [Value.cells] at hc
    obtain ⟨rfl, rfl, rfl⟩ := hc
    have hlm : l0 ≤ m := by rw [hmm]; split <;> omega
    have hz : ∀ i, i < l0 → ∀ j, j < 10 → ∃ z : Int, w.cell? ((a.add (i * 10)).add j) = some (.int .i64 z) ∧ i64R z := by
      intro i hil j hj
      obtain ⟨cs', hc, ht⟩ := hi i (by omega)
      rw [cells35] at hc
      obtain ⟨_, hcl, hat⟩ := World.cells?_some hc
      obtain ⟨z, h1, h2⟩ := call_cells ht j hj
      exact ⟨z, (hat j (by omega)).trans h1, h2⟩
    obtain ⟨g, off, spot⟩ := a
    have hz2 : ∀ k : Nat, ∃ z : Int, k < l0 * 10 → w.cell? (Addr.add ⟨g, off, spot⟩ k) = some (.int .i64 z) ∧ i64R z := by
      intro k
      by_cases hk : k < l0 * 10
      · obtain ⟨z, h, hr⟩ := hz (k / 10) (by omega) (k % 10) (by omega)
        refine ⟨z, fun _ => ⟨?_, hr⟩⟩
        rw [← h, Go.Deep.add_add]
        congr 2
        omega
      · exact ⟨0, fun h => absurd h hk⟩
    obtain ⟨z, hz3⟩ := Classical.axiomOfChoice hz2
    have hlen : l0 ≤ 9223372036854775807 := by unfold maxLen at hm; omega
    refine ⟨(List.range l0).map fun i => ⟨z (i * 10), z (i * 10 + 1), ⟨z (i * 10 + 2), z (i * 10 + 3), z (i * 10 + 4), z (i * 10 + 5), z (i * 10 + 6)⟩, z (i * 10 + 7), z (i * 10 + 8), z (i * 10 + 9)⟩, some ⟨g, off, spot⟩, c0, by simp, by simpa using hlen, ?_⟩
    intro i a hia
    rw [List.getElem?_map] at hia
    have hil : i < l0 := by
      rcases Nat.lt_or_ge i l0 with h | h
      · exact h
      · rw [List.getElem?_eq_none (by simpa using h)] at hia
        simp at hia
    rw [List.getElem?_range hil] at hia
    simp only [Option.map_some, Option.some.injEq] at hia
    subst hia
    have h0 := (hz3 0 (by omega)).1
    have hspot : spot = none := by simpa [Addr.add] using World.cell?_spot h0
    subst hspot
    refine ⟨⟨(hz3 (i * 10 + 1) (by omega)).2, (hz3 (i * 10 + 7) (by omega)).2, (hz3 (i * 10 + 8) (by omega)).2⟩, g, off, rfl, World.block_lt_of_cell? _ _ h0, ?_⟩
    intro j u hj
    have hj10 : j < 10 := (Array.getElem?_eq_some_iff.1 hj).1
    have hc := (hz3 (i * 10 + j) (by omega)).1
    rw [add_none] at hc
    rw [Nat.add_assoc, hc, ← hj]
    match j, hj10 with
    | 0, _ => rfl
    | 1, _ => rfl
    | 2, _ => rfl
    | 3, _ => rfl
    | 4, _ => rfl
    | 5, _ => rfl
    | 6, _ => rfl
    | 7, _ => rfl
    | 8, _ => rfl
    | 9, _ => rfl
end
end Go.Proofs.YtnbfkhcignjfoaaDoor
