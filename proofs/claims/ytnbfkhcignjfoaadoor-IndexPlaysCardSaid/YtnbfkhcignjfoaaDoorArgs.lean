/- The arguments opened; the two errors as the row lays them. (The two opening laws: the guide's extra-structs, copied as it says.) -/
import Derived.Test.YtnbfkhcignjfoaaDoorMade
import Derived.Test.YtnbfkhcignjfoaaDoorCards
import Derived.Test.YtnbfkhcignjfoaaDoorTie
import Derived.Deep.Slices
import Derived.Deep.Fields
import Derived.ChangeSame
import Derived.Lib.SmallJoins
import Derived.ProofKit
import Derived.Carry
import Derived.Stop.LaidErr
import Derived.Stop.LaidTwo
import Derived.OpenVars
namespace Go.Proofs.YtnbfkhcignjfoaaDoor
open Go Go.ChangeShapes Go.WideShapes Go.Deep Go.Joins Go.RowKit
section
variable {H : Type} {enc : TypeId × Value → H} {P : Program} {w : World} {base : Nat} {spare : Nat → Bool} {held : Bool}
theorem open_slice_fields {t e : TypeId} {fs : Array Field} {fuel : Nat} {cs : List Value} {x : DataW H × List MemPlace} (ht : P.underlying t = some (.slice e)) (he : P.underlying e = some (.struct fs))
    (hone : oneCellFields P fs = true) (hC : P.cellsOf e = fs.size) (h : DataW.trod enc P w base spare held fuel t cs = some x) :
    (cs = [.slice none 0 0] ∧ x = (.nil, [])) ∨
    ∃ (a : Addr) (len cap m : Nat) (D : Nat → DataW H) (Pl : Nat → List MemPlace), cs = [.slice (some a) len cap] ∧ base ≤ a.block ∧ len ≤ cap ∧ cap ≤ maxLen ∧ m = (if spare a.block then cap else len) ∧
      x = (.slice ((List.range len).map D) ((List.range (m - len)).map fun j => D (len + j)), MemPlace.row a (m * fs.size) ++ (List.range m).flatMap Pl) ∧
      ∀ i, i < m → ∃ (ys : List (DataW H × List MemPlace)) (n : Nat), D i = .agg (ys.map (·.1)) ∧ Pl i = ys.flatMap (·.2) ∧ ys.length = fs.size ∧
        ∀ (j : Nat) (f : Field), fs[j]? = some f → ∃ (v : Value) (y : DataW H × List MemPlace), w.cell? (a.add (i * fs.size + j)) = some v ∧ ys[j]? = some y ∧ DataW.trod enc P w base spare held n f.type [v] = some y := by
  rcases open_slice ht h with h0 | ⟨a, len, cap, m, n, D, Pl, hcs, hb, hl, hm, hmm, hx, hi⟩
  · exact .inl h0
  · refine .inr ⟨a, len, cap, m, D, Pl, hcs, hb, hl, hm, hmm, by rw [hC] at hx; exact hx, fun i him => ?_⟩
    obtain ⟨cs', hc, ht'⟩ := hi i him
    rw [hC] at hc
    obtain ⟨ys, n', hn', hy, hlen, hyl, hf⟩ := DataW.trod_struct he ht'
    obtain ⟨_, hcl, hat⟩ := World.cells?_some hc
    simp only [Prod.mk.injEq] at hy
    refine ⟨ys, n', hy.1, hy.2, hyl, fun j f hj => ?_⟩
    obtain ⟨ho, hk⟩ := hone_of hone j f hj
    have hjl : j < fs.size := (Array.getElem?_eq_some_iff.1 hj).1
    have hcell := hat j hjl
    have hv : cs'[j]? = some (cs'[j]'(by omega)) := List.getElem?_eq_getElem (by omega)
    have h1 := hf j f hj
    rw [ho, hk] at h1
    have hone' : (cs'.drop j).take 1 = [cs'[j]'(by omega)] := by
      rw [List.drop_eq_getElem_cons (by omega)]
      rfl
    rw [hone'] at h1
    have hys : ys[j]? = some (ys[j]'(by omega)) := List.getElem?_eq_getElem (by omega)
    refine ⟨_, _, ?_, hys, h1.trans hys⟩
    rw [← Go.Deep.add_add, hcell, hv]
theorem open_agg5 {r : Reach} {b0 : Nat} {t : TypeId} {f0 f1 f2 f3 f4 : Field} {v : Value} {d : DataW H} {p : List MemPlace} (hs : P.underlying t = some (.struct #[f0, f1, f2, f3, f4])) (hone : oneCellFields P #[f0, f1, f2, f3, f4] = true) (hC : P.cellsOf t = 5)
    (hv : Value.okWide P w r b0 t v) (h : DataW.Trod enc P w base spare held t v d p) :
    ∃ (v0 v1 v2 v3 v4 : Value) (y0 y1 y2 y3 y4 : DataW H × List MemPlace) (n : Nat), v = .agg #[v0, v1, v2, v3, v4] ∧ d = .agg [y0.1, y1.1, y2.1, y3.1, y4.1] ∧ p = y0.2 ++ (y1.2 ++ (y2.2 ++ (y3.2 ++ y4.2))) ∧
      DataW.trod enc P w base spare held n f0.type [v0] = some y0 ∧ DataW.trod enc P w base spare held n f1.type [v1] = some y1 ∧ DataW.trod enc P w base spare held n f2.type [v2] = some y2 ∧ DataW.trod enc P w base spare held n f3.type [v3] = some y3 ∧ DataW.trod enc P w base spare held n f4.type [v4] = some y4 := by
  obtain ⟨cs, rfl, hsz⟩ := okWide_struct hs hv
  obtain ⟨l⟩ := cs
  match l, hsz.trans hC with
  | [c0, c1, c2, c3, c4], _ =>
    obtain ⟨fuel, hf⟩ := h
    obtain ⟨xs, n, _, hx, _, hlen, hg⟩ := DataW.trod_struct hs hf
    obtain ⟨o0, k0⟩ := hone_of hone 0 f0 rfl
    obtain ⟨o1, k1⟩ := hone_of hone 1 f1 rfl
    obtain ⟨o2, k2⟩ := hone_of hone 2 f2 rfl
    obtain ⟨o3, k3⟩ := hone_of hone 3 f3 rfl
    obtain ⟨o4, k4⟩ := hone_of hone 4 f4 rfl
    match xs, hlen with
    | [y0, y1, y2, y3, y4], _ =>
      simp only [Prod.mk.injEq] at hx
      exact ⟨c0, c1, c2, c3, c4, y0, y1, y2, y3, y4, n, rfl, by simpa using hx.1, by simpa using hx.2, by simpa [Value.cells, o0, k0] using hg 0 f0 rfl, by simpa [Value.cells, o1, k1] using hg 1 f1 rfl, by simpa [Value.cells, o2, k2] using hg 2 f2 rfl, by simpa [Value.cells, o3, k3] using hg 3 f3 rfl, by simpa [Value.cells, o4, k4] using hg 4 f4 rfl⟩
end
section
variable {H : Type} {enc : TypeId × Value → H} {w : World} {base : Nat} {spare : Nat → Bool} {held : Bool}
theorem i64_of {n : Int} (h : (Lit.int .i64 n).wf = true) : i64R n := by
  have : -9223372036854775808 ≤ n ∧ n ≤ 9223372036854775807 := by simpa [Lit.wf, IntKind.min, IntKind.max, IntKind.signed, IntKind.bits] using h
  unfold i64R
  omega
set_option maxRecDepth 100000 in
theorem area_open {r : Reach} {b0 : Nat} {v : Value} {d : DataW H} {p : List MemPlace} (hv : Value.okWide Tryd.prog w r b0 31 v) (h : DataW.Trod enc Tryd.prog w base spare held 31 v d p) : ∃ s r c n m : Int, v = areaV s r c n m := by
  obtain ⟨v0, v1, v2, v3, v4, y0, y1, y2, y3, y4, k, rfl, rfl, rfl, h0, h1, h2, h3, h4⟩ := open_agg5 Tryd.underlying31 (by kernel_rfl) (by kernel_rfl) hv h
  obtain ⟨a0, e0, rfl, w0⟩ := DataW.trod_int Tryd.underlying3 h0
  obtain ⟨a1, e1, rfl, w1⟩ := DataW.trod_int Tryd.underlying3 h1
  obtain ⟨a2, e2, rfl, w2⟩ := DataW.trod_int Tryd.underlying3 h2
  obtain ⟨a3, e3, rfl, w3⟩ := DataW.trod_int Tryd.underlying3 h3
  obtain ⟨a4, e4, rfl, w4⟩ := DataW.trod_int Tryd.underlying3 h4
  simp at e0 e1 e2 e3 e4
  subst e0 e1 e2 e3 e4
  exact ⟨a0, a1, a2, a3, a4, rfl⟩
set_option maxRecDepth 100000 in
theorem at_open {r : Reach} {b0 : Nat} {v : Value} {d : DataW H} {p : List MemPlace} (hv : Value.okWide Tryd.prog w r b0 33 v) (h : DataW.Trod enc Tryd.prog w base spare held 33 v d p) : ∃ s r c : Int, v = atV s r c ∧ i64R s ∧ i64R r ∧ i64R c := by
  obtain ⟨v0, v1, v2, y0, y1, y2, k, rfl, rfl, rfl, h0, h1, h2⟩ := open_agg3 Tryd.underlying33 (by kernel_rfl) (by kernel_rfl) hv h
  obtain ⟨a0, e0, rfl, w0⟩ := DataW.trod_int Tryd.underlying3 h0
  obtain ⟨a1, e1, rfl, w1⟩ := DataW.trod_int Tryd.underlying3 h1
  obtain ⟨a2, e2, rfl, w2⟩ := DataW.trod_int Tryd.underlying3 h2
  simp at e0 e1 e2
  subst e0 e1 e2
  exact ⟨a0, a1, a2, rfl, i64_of w0, i64_of w1, i64_of w2⟩
set_option maxRecDepth 100000 in
theorem areas_open {r : Reach} {b0 : Nat} {v : Value} {d : DataW H} {p : List MemPlace} (hv : Value.okWide Tryd.prog w r b0 45 v) (h : DataW.Trod enc Tryd.prog w base spare held 45 v d p) : ∃ xs, Areas w w.heap.size v xs := by
  obtain ⟨a0, l0, c0, rfl⟩ := okWide_slice Tryd.underlying45 hv
  obtain ⟨fuel, hf⟩ := h
  rcases open_slice_fields Tryd.underlying45 Tryd.underlying31 (by kernel_rfl) (by kernel_rfl) hf with ⟨hc, _⟩ | ⟨a, len, cap, m, D, Pl, hc, hb, hl, hm, hmm, hx, hi⟩
  · simp [Value.cells] at hc
    obtain ⟨rfl, rfl, rfl⟩ := hc
    exact ⟨[], none, 0, rfl, by simp, fun i a h => by simp at h⟩
  · simp [Value.cells] at hc
    obtain ⟨rfl, rfl, rfl⟩ := hc
    have hlm : l0 ≤ m := by rw [hmm]; split <;> omega
    have hz : ∀ i, i < l0 → ∀ j, j < 5 → ∃ z : Int, w.cell? (a.add (i * 5 + j)) = some (.int .i64 z) := by
      intro i hil j hj
      obtain ⟨ys, n, _, _, _, hfs⟩ := hi i (by omega)
      match j, hj with
      | 0, _ => obtain ⟨x, y, h1, h2, h3⟩ := hfs 0 _ rfl; obtain ⟨z, e, _⟩ := DataW.trod_int Tryd.underlying3 h3; simp at e; exact ⟨z, by rw [← e]; exact h1⟩
      | 1, _ => obtain ⟨x, y, h1, h2, h3⟩ := hfs 1 _ rfl; obtain ⟨z, e, _⟩ := DataW.trod_int Tryd.underlying3 h3; simp at e; exact ⟨z, by rw [← e]; exact h1⟩
      | 2, _ => obtain ⟨x, y, h1, h2, h3⟩ := hfs 2 _ rfl; obtain ⟨z, e, _⟩ := DataW.trod_int Tryd.underlying3 h3; simp at e; exact ⟨z, by rw [← e]; exact h1⟩
      | 3, _ => obtain ⟨x, y, h1, h2, h3⟩ := hfs 3 _ rfl; obtain ⟨z, e, _⟩ := DataW.trod_int Tryd.underlying3 h3; simp at e; exact ⟨z, by rw [← e]; exact h1⟩
      | 4, _ => obtain ⟨x, y, h1, h2, h3⟩ := hfs 4 _ rfl; obtain ⟨z, e, _⟩ := DataW.trod_int Tryd.underlying3 h3; simp at e; exact ⟨z, by rw [← e]; exact h1⟩
    obtain ⟨g, off, spot⟩ := a
    have hz2 : ∀ k : Nat, ∃ z : Int, k < l0 * 5 → w.cell? (Addr.add ⟨g, off, spot⟩ k) = some (.int .i64 z) := by
      intro k
      by_cases hk : k < l0 * 5
      · obtain ⟨z, h⟩ := hz (k / 5) (by omega) (k % 5) (by omega)
        refine ⟨z, fun _ => ?_⟩
        rw [← h]
        congr 2
        omega
      · exact ⟨0, fun h => absurd h hk⟩
    obtain ⟨z, hz3⟩ := Classical.axiomOfChoice hz2
    have hlen : l0 ≤ 9223372036854775807 := by unfold maxLen at hm; omega
    refine ⟨(List.range l0).map fun i => ⟨z (i * 5), z (i * 5 + 1), z (i * 5 + 2), z (i * 5 + 3), z (i * 5 + 4)⟩, some ⟨g, off, spot⟩, c0, by simp, by simpa using hlen, ?_⟩
    intro i a hia
    rw [List.getElem?_map] at hia
    have hil : i < l0 := by
      rcases Nat.lt_or_ge i l0 with h | h
      · exact h
      · rw [List.getElem?_eq_none (by simpa using h)] at hia
        simp at hia
    rw [List.getElem?_range hil] at hia
    simp only [Option.map_some, Option.some.injEq] at hia
    subst hia
    have h0 := hz3 0 (by omega)
    have hspot : spot = none := by simpa [Addr.add] using World.cell?_spot h0
    subst hspot
    refine ⟨g, off, rfl, World.block_lt_of_cell? _ _ h0, ?_, ?_, ?_, ?_, ?_⟩
    · have := hz3 (i * 5) (by omega)
      rw [← this]
      unfold Addr.add
      split
      · rename_i h; rw [h]; rfl
      · rfl
    · have := hz3 (i * 5 + 1) (by omega)
      rw [← this]
      unfold Addr.add
      rw [if_neg (by omega)]
      rfl
    · have := hz3 (i * 5 + 2) (by omega)
      rw [← this]
      unfold Addr.add
      rw [if_neg (by omega)]
      rfl
    · have := hz3 (i * 5 + 3) (by omega)
      rw [← this]
      unfold Addr.add
      rw [if_neg (by omega)]
      rfl
    · have := hz3 (i * 5 + 4) (by omega)
      rw [← this]
      unfold Addr.add
      rw [if_neg (by omega)]
      rfl
end
theorem gArg : Tryd.prog.globalNamed "tabula/index.errArg" = some 0 := by kernel_rfl
theorem gHas : Tryd.prog.globalNamed "tabula/index.errHas" = some 1 := by kernel_rfl
theorem gArgT : (Tryd.prog.globals[0]?).map (·.type) = some 60 := by kernel_rfl
theorem gHasT : (Tryd.prog.globals[1]?).map (·.type) = some 60 := by kernel_rfl
theorem cells146 : Tryd.prog.cellsOf 146 = 1 := by kernel_rfl
theorem cells9 : Tryd.prog.cellsOf 9 = 1 := by kernel_rfl
theorem star : "*" ++ "errors.errorString" = "*errors.errorString" := by decide
theorem row122 (u : TypeId) (h : Tryd.prog.typeName? 3 u = some "*errors.errorString") : u = 122 :=
  typeName_ptr_named (nm := "errors.errorString") (by rw [star]; kernel_rfl) (by kernel_rfl) (by decide) u (by rw [star]; exact h)
theorem outLaid : laidOutB Tryd.prog = true := by kernel_rfl
/-- The two errors, as the row lays them. -/
theorem errs_laid {W : World} (h : laidMet Tryd.prog [("tabula/index.errArg", Rows.laid_tabula_index_errArg), ("tabula/index.errHas", Rows.laid_tabula_index_errHas)] W) : ∃ p q, Errs W W.heap.size p q := by
  obtain ⟨a0, a1, s0, s1, c0, c1, t0, t1, hv0, hv1, hc0, hs0, hz0, hc1, hs1, hz1, hne, hb0, hb1⟩ := laid_sentinels2 h gArg gArgT gHas gHasT Tryd.underlying60 row122 Tryd.underlying122 Tryd.underlying146 rfl rfl Tryd.underlying9 cells146 cells9
  have g0 : W.cell? ⟨0, 0, none⟩ = some (.iface 122 (.pointer (some a0))) := by simpa using World.var?_cell gArg hv0 0
  have g1 : W.cell? ⟨1, 0, none⟩ = some (.iface 122 (.pointer (some a1))) := by simpa using World.var?_cell gHas hv1 0
  exact ⟨a0, a1, g0, g1, hne, ⟨_, _, hb0⟩, ⟨_, _, hb1⟩, (Array.getElem?_eq_some_iff.1 hb0).1, (Array.getElem?_eq_some_iff.1 hb1).1, World.block_lt_of_cell? _ _ g1, Nat.le_refl _⟩
end Go.Proofs.YtnbfkhcignjfoaaDoor
