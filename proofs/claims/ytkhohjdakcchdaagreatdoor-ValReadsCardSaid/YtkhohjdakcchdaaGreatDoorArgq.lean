/- More arguments opened: two whole numbers, three truths. -/
import Derived.Test.YtkhohjdakcchdaaGreatDoorArgs
import Derived.Laws.IdiomArrays
import Derived.OpenShut
namespace Go.Proofs.YtkhohjdakcchdaaGreatDoor
open Go Go.ChangeShapes Go.WideShapes Go.Deep Go.Joins Go.RowKit
section
variable {H : Type} {enc : TypeId × Value → H} {w : World} {base : Nat} {spare : Nat → Bool} {held : Bool}
theorem c41 : Tryz.prog.cellsOf 41 = 2 := by kernel_rfl
theorem c53 : Tryz.prog.cellsOf 53 = 3 := by kernel_rfl
set_option maxRecDepth 100000 in
theorem okWide_arr {r : Reach} {b0 n : Nat} {t e : TypeId} {v : Value} (ht : Tryz.prog.underlying t = some (.array n e)) (h : Value.okWide Tryz.prog w r b0 t v) : ∃ cs, v = .agg cs ∧ cs.size = Tryz.prog.cellsOf t := by
  simp only [Value.okWide, ht] at h
  obtain ⟨cs, h1, h2, _⟩ := h
  exact ⟨cs, h1, h2⟩
theorem list2 {cs : List Value} (h : cs.length = 2) : ∃ a b, cs = [a, b] := by
  match cs, h with
  | [a, b], _ => exact ⟨a, b, rfl⟩
theorem list3 {cs : List Value} (h : cs.length = 3) : ∃ a b c, cs = [a, b, c] := by
  match cs, h with
  | [a, b, c], _ => exact ⟨a, b, c, rfl⟩
set_option maxRecDepth 100000 in
theorem at_open {r : Reach} {b0 : Nat} {v : Value} {d : DataW H} {p : List MemPlace} (hv : Value.okWide Tryz.prog w r b0 41 v) (h : DataW.Trod enc Tryz.prog w base spare held 41 v d p) :
    ∃ a b, v = .agg #[.int .i64 a, .int .i64 b] ∧ i64R a ∧ i64R b := by
  obtain ⟨cs, rfl, hsz⟩ := okWide_arr Tryz.underlying41 hv
  obtain ⟨fuel, hf⟩ := h
  obtain ⟨u0, u1, hcs⟩ := list2 (cs := cs.toList) (by simpa [c41] using hsz)
  have hf' : DataW.trod enc Tryz.prog w base spare held fuel 41 [u0, u1] = some (d, p) := by rw [← hcs]; exact hf
  obtain ⟨xs, m, _, _, _, hxl, hx⟩ := DataW.trod_array Tryz.underlying41 hf'
  match xs, hxl with
  | [y0, y1], _ =>
    have h0 : DataW.trod enc Tryz.prog w base spare held m 3 [u0] = some y0 := by
      have := hx 0 (by decide)
      simpa [c3] using this
    have h1 : DataW.trod enc Tryz.prog w base spare held m 3 [u1] = some y1 := by
      have := hx 1 (by decide)
      simpa [c3] using this
    obtain ⟨a, e0, _, w0⟩ := DataW.trod_int Tryz.underlying3 h0
    obtain ⟨b, e1, _, w1⟩ := DataW.trod_int Tryz.underlying3 h1
    simp at e0 e1
    subst e0 e1
    exact ⟨a, b, by rw [show cs = #[.int .i64 a, .int .i64 b] from Array.toList_inj.1 hcs], i64_of w0, i64_of w1⟩
set_option maxRecDepth 100000 in
theorem how_open {r : Reach} {b0 : Nat} {v : Value} {d : DataW H} {p : List MemPlace} (hv : Value.okWide Tryz.prog w r b0 53 v) (h : DataW.Trod enc Tryz.prog w base spare held 53 v d p) :
    ∃ a b c, v = .agg #[.bool a, .bool b, .bool c] := by
  obtain ⟨cs, rfl, hsz⟩ := okWide_arr Tryz.underlying53 hv
  obtain ⟨fuel, hf⟩ := h
  obtain ⟨u0, u1, u2, hcs⟩ := list3 (cs := cs.toList) (by simpa [c53] using hsz)
  have hf' : DataW.trod enc Tryz.prog w base spare held fuel 53 [u0, u1, u2] = some (d, p) := by rw [← hcs]; exact hf
  obtain ⟨y0, y1, y2, m, _, h0, h1, h2⟩ := trod_array3 Tryz.underlying53 c4 hf'
  obtain ⟨a, e0, _⟩ := DataW.trod_bool Tryz.underlying4 h0
  obtain ⟨b, e1, _⟩ := DataW.trod_bool Tryz.underlying4 h1
  obtain ⟨c, e2, _⟩ := DataW.trod_bool Tryz.underlying4 h2
  simp at e0 e1 e2
  subst e0 e1 e2
  exact ⟨a, b, c, by rw [show cs = #[.bool a, .bool b, .bool c] from Array.toList_inj.1 hcs]⟩
set_option maxRecDepth 100000 in
theorem raws_cap {r : Reach} {b0 : Nat} {v : Value} {d : DataW H} {p : List MemPlace} (hv : Value.okWide Tryz.prog w r b0 26 v) (h : DataW.Trod enc Tryz.prog w base spare held 26 v d p) : ∀ q n c, v = .slice q n c → n ≤ c := by
  obtain ⟨a0, l0, k0, rfl⟩ := okWide_slice Tryz.underlying26 hv
  obtain ⟨fuel, hf⟩ := h
  intro q n c e
  injection e with e1 e2 e3
  subst e2 e3
  rcases open_slice Tryz.underlying26 hf with ⟨hc, _⟩ | ⟨a, len, cap, m, n, D, Pl, hcs, hb, hl, hm, hmm, hx, hi⟩
  · simp [Value.cells] at hc
    obtain ⟨rfl, rfl, rfl⟩ := hc
    exact Nat.le_refl _
  · simp [Value.cells] at hcs
    obtain ⟨rfl, rfl, rfl⟩ := hcs
    exact hl
/-- Five arguments: the first four and one more. -/
theorem trodAll_five {t0 t1 t2 t3 t4 : TypeId} {args : Array Value} {ds : List (DataW H)} {ps : List MemPlace} (h : DataW.TrodAll enc Tryz.prog w base spare held [t0, t1, t2, t3, t4] args.toList ds ps) :
    ∃ v0 v1 v2 v3 v4 d0 d1 d2 d3 d4 p0 p1 p2 p3 p4, args = #[v0, v1, v2, v3, v4] ∧ ds = [d0, d1, d2, d3, d4] ∧ ps = p0 ++ p1 ++ p2 ++ p3 ++ p4 ∧ DataW.Trod enc Tryz.prog w base spare held t0 v0 d0 p0 ∧ DataW.Trod enc Tryz.prog w base spare held t1 v1 d1 p1 ∧
      DataW.Trod enc Tryz.prog w base spare held t2 v2 d2 p2 ∧ DataW.Trod enc Tryz.prog w base spare held t3 v3 d3 p3 ∧ DataW.Trod enc Tryz.prog w base spare held t4 v4 d4 p4 := by
  obtain ⟨v0, vs, d0, es, p0, q0, ha, rfl, rfl, h0, hr⟩ := trodAll_cons h
  obtain ⟨v1, v2, v3, v4, d1, d2, d3, d4, p1, p2, p3, p4, e1, rfl, rfl, h1, h2, h3, h4⟩ := trodAll_four (args := vs.toArray) (by simpa using hr)
  have e2 : vs = [v1, v2, v3, v4] := by simpa using congrArg Array.toList e1
  subst e2
  exact ⟨v0, v1, v2, v3, v4, d0, d1, d2, d3, d4, p0, p1, p2, p3, p4, Array.toList_inj.1 (by simpa using ha), rfl, by simp, h0, h1, h2, h3, h4⟩
theorem trodAll_mk5 {t0 t1 t2 t3 t4 : TypeId} {v0 v1 v2 v3 v4 : Value} {d0 d1 d2 d3 d4 : DataW H} {p0 p1 p2 p3 p4 : List MemPlace} (h0 : DataW.Trod enc Tryz.prog w base spare held t0 v0 d0 p0) (h1 : DataW.Trod enc Tryz.prog w base spare held t1 v1 d1 p1)
    (h2 : DataW.Trod enc Tryz.prog w base spare held t2 v2 d2 p2) (h3 : DataW.Trod enc Tryz.prog w base spare held t3 v3 d3 p3) (h4 : DataW.Trod enc Tryz.prog w base spare held t4 v4 d4 p4) :
    DataW.TrodAll enc Tryz.prog w base spare held [t0, t1, t2, t3, t4] [v0, v1, v2, v3, v4] [d0, d1, d2, d3, d4] (p0 ++ (p1 ++ (p2 ++ (p3 ++ p4)))) := ⟨p0, p1 ++ (p2 ++ (p3 ++ p4)), h0, trodAll_mk4 h1 h2 h3 h4, rfl⟩
end
end Go.Proofs.YtkhohjdakcchdaaGreatDoor
