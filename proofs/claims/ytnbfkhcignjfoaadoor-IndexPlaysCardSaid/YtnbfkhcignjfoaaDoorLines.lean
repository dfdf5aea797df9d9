/- The lines' map: which numbers stand in each line. -/
import Derived.Test.YtnbfkhcignjfoaaDoorDel
import Derived.Maps.AppendAt
import Derived.DeepKeys5
namespace Go.Proofs.YtnbfkhcignjfoaaDoor
open Go Go.RowKit Go.Maps

theorem laidOut : laidOutB Tryd.prog = true := by kernel_rfl
theorem row72 : (72 : TypeId) < Tryd.prog.types.size := of_decide_eq_true (by kernel_rfl)
theorem wide72 : (match Tryd.prog.underlying 72 with | some (.array _ _) | some (.struct _) => true | _ => false) = true := by kernel_rfl
set_option maxRecDepth 100000 in
theorem kta72 : Tryd.prog.keyTypeAt 2 72 = true := by kernel_rfl
set_option maxRecDepth 100000 in
theorem law72 : WideMaps.KeyLaw Tryd.prog 72 := deep_law_laid laidOut (m := 2) (by omega) row72 kta72 wide72
theorem keyed72 : Keyed Tryd.prog 72 := Keyed.of_law law72
theorem keyed3 : Keyed Tryd.prog 3 := int_keyed Tryd.underlying3
def i64R (x : Int) : Prop := -9223372036854775808 ≤ x ∧ x ≤ 9223372036854775807
theorem wf_of {x : Int} (h : i64R x) : (Lit.int .i64 x).wf = true := by
  unfold i64R at h
  simpa [Lit.wf, IntKind.min, IntKind.max, IntKind.signed, IntKind.bits] using h
theorem key3 {x : Int} (h : i64R x) : keyOf Tryd.prog 3 (.int .i64 x) = some (.int .i64 x) := keyOf_int_mk Tryd.underlying3 (wf_of h)
theorem cells72 : Tryd.prog.cellsOf 72 = 2 := by kernel_rfl
theorem kt72 : Tryd.prog.keyType 72 = true := by kernel_rfl
theorem lits72 (d : Nat) {s r : Int} (hs : i64R s) (hr : i64R r) : Tryd.prog.keyLits (d + 2) 72 (lineV s r).cells.toList = some [.int .i64 s, .int .i64 r] := by
  have h1 := wf_of hs
  have h2 := wf_of hr
  rw [show d + 2 = (d + 1) + 1 from rfl]
  unfold Program.keyLits
  rw [Tryd.underlying72]
  have hi : ∀ x : Int, i64R x → Tryd.prog.keyLits (d + 1) 3 [.int .i64 x] = some [.int .i64 x] := by
    intro x hx
    have := wf_of hx
    unfold Program.keyLits
    rw [Tryd.underlying3]
    simp [this]
  have hc3 : Tryd.prog.cellsOf 3 = 1 := by kernel_rfl
  simp only [Value.cells]
  simp [cells72, hc3, hi s hs, hi r hr]
theorem key72 {s r : Int} (hs : i64R s) (hr : i64R r) : ∃ kl, keyOf Tryd.prog 72 (lineV s r) = some kl := by
  have hf : (lineV s r).formed Tryd.prog 72 = true := by simp [Value.formed, Tryd.underlying72, cells72]
  have hsz : ∃ d, Tryd.prog.types.size + 1 = d + 2 := ⟨Tryd.prog.types.size - 1, by have h : 72 < Tryd.prog.types.size := row72; omega⟩
  obtain ⟨d, hd⟩ := hsz
  unfold keyOf
  rw [Tryd.underlying72]
  simp only [kt72, hf, Bool.and_self, if_true, hd, lits72 d hs hr]
  exact ⟨_, rfl⟩
theorem lineV_inj {s r s' r' : Int} (h : lineV s r = lineV s' r') : s = s' ∧ r = r' := by
  simp [lineV] at h
  exact h
abbrev nilS : Value := .slice none 0 0
abbrev rowAt (f : Value → Option Value) (s r : Int) : Value := (f (lineV s r)).getD nilS
/-- The lines' map in memory: C tells which numbers stand in a line; T names the map's own block and its rows'. -/
structure LnsAt (w : World) (B b : Nat) (C : Int → Int → List Int) (N : Nat) (T : Nat → Prop) (f : Value → Option Value) (c : Nat) : Prop where
  map : World.mp w Tryd.prog 72 b f c
  count : c ≤ N
  base : B ≤ b
  own : T b
  low : ∀ k, T k → B ≤ k ∧ k < w.heap.size
  row : ∀ s r, i64R s → i64R r → w.ownsRow B 3 1 (rowAt f s r) (C s r).length (ints (C s r))
  place : ∀ s r, i64R s → i64R r → ∀ k, (rowAt f s r).ownBlock = some k → T k ∧ k ≠ b
  apart : ∀ s r s' r', i64R s → i64R r → i64R s' → i64R r' → ∀ k, (rowAt f s r).ownBlock = some k → (rowAt f s' r').ownBlock = some k → s = s' ∧ r = r'
def Lns (w : World) (B b : Nat) (C : Int → Int → List Int) (N : Nat) (T : Nat → Prop) : Prop := ∃ f c, LnsAt w B b C N T f c
section
variable {w w' : World} {B b N : Nat} {C : Int → Int → List Int} {T : Nat → Prop} {f : Value → Option Value} {c : Nat}
theorem _root_.Go.World.ownsRow.same {b : Nat} {e : TypeId} {size : Nat} {v : Value} {n : Nat} {xs : List Value} (h : w.ownsRow b e size v n xs) (hs : ∀ k, v.ownBlock = some k → w'.heap[k]? = w.heap[k]?) : w'.ownsRow b e size v n xs := by
  refine ⟨h.1, ?_⟩
  rcases h.2 with hn | ⟨g, cap, cur, rfl, hg, hc, rest⟩
  · exact .inl hn
  · exact .inr ⟨g, cap, cur, rfl, hg, (hs g rfl).trans hc, rest⟩
/-- A world that keeps the map's blocks keeps the map. -/
theorem LnsAt.keep (h : LnsAt w B b C N T f c) (hk : ∀ k, T k → w'.heap[k]? = w.heap[k]?) (hs : w.heap.size ≤ w'.heap.size) : LnsAt w' B b C N T f c :=
  ⟨h.map.same (hk b h.own), h.count, h.base, h.own, fun k hT => ⟨(h.low k hT).1, Nat.lt_of_lt_of_le (h.low k hT).2 hs⟩, fun s r hs hr => (h.row s r hs hr).same fun k e => hk k (h.place s r hs hr k e).1, h.place, h.apart⟩
theorem Lns.keep (h : Lns w B b C N T) (hk : ∀ k, T k → w'.heap[k]? = w.heap[k]?) (hs : w.heap.size ≤ w'.heap.size) : Lns w' B b C N T := by
  obtain ⟨f, c, h⟩ := h
  exact ⟨f, c, h.keep hk hs⟩
theorem LnsAt.below {D : Nat} (h : LnsAt w B b C N T f c) (hB : Below D w w') (hD : ∀ k, T k → k < D) : LnsAt w' B b C N T f c := h.keep (fun k hT => hB.block k (hD k hT)) hB.size
open Classical in
noncomputable def updC (C : Int → Int → List Int) (s r : Int) (zs : List Int) : Int → Int → List Int := fun s' r' => if s' = s ∧ r' = r then zs else C s' r'
/-- One line's row turned. -/
theorem LnsAt.turn (h : LnsAt w B b C N T f c) {s r : Int} (hs : i64R s) (hr : i64R r) {v' : Value} {zs : List Int} {c' M : Nat}
    (hm : World.mp w' Tryd.prog 72 b (upd f (lineV s r) (some v')) c') (hc : c' ≤ M) (hsz : w.heap.size ≤ w'.heap.size)
    (hrow : w'.ownsRow B 3 1 v' zs.length (ints zs)) (hplace : v'.ownBlock = (rowAt f s r).ownBlock ∨ ∃ k, v'.ownBlock = some k ∧ w.heap.size ≤ k)
    (hold : ∀ k, k < w.heap.size → k ≠ b → (rowAt f s r).ownBlock ≠ some k → w'.heap[k]? = w.heap[k]?) :
    LnsAt w' B b (updC C s r zs) M (fun k => T k ∨ (v'.ownBlock = some k ∧ w.heap.size ≤ k)) (upd f (lineV s r) (some v')) c' := by
  have hblt : b < w.heap.size := h.map.lt
  have hat : ∀ s' r', i64R s' → i64R r' → (s' = s ∧ r' = r ∧ rowAt (upd f (lineV s r) (some v')) s' r' = v' ∧ updC C s r zs s' r' = zs) ∨ (¬ (s' = s ∧ r' = r) ∧ rowAt (upd f (lineV s r) (some v')) s' r' = rowAt f s' r' ∧ updC C s r zs s' r' = C s' r') := by
    intro s' r' hs' hr'
    by_cases e : s' = s ∧ r' = r
    · obtain ⟨rfl, rfl⟩ := e
      exact .inl ⟨rfl, rfl, by unfold rowAt; rw [upd_same]; rfl, by unfold updC; simp⟩
    · refine .inr ⟨e, ?_, by unfold updC; rw [if_neg e]⟩
      unfold rowAt
      rw [upd_other f _ (fun e' => e (lineV_inj e'))]
  have hnew : ∀ k, v'.ownBlock = some k → k < w'.heap.size ∧ B ≤ k := by
    intro k hk
    rcases hrow.2 with ⟨e, _⟩ | ⟨g, cap, cur, e, hg, hcur, _⟩
    · rw [e] at hk; cases hk
    · rw [e] at hk
      have hk := Option.some.inj hk
      simp only at hk
      subst hk
      exact ⟨(Array.getElem?_eq_some_iff.1 hcur).1, hg⟩
  refine ⟨hm, hc, h.base, .inl h.own, ?_, ?_, ?_, ?_⟩
  · rintro k (hT | ⟨hk, _⟩)
    · exact ⟨(h.low k hT).1, Nat.lt_of_lt_of_le (h.low k hT).2 hsz⟩
    · exact ⟨(hnew k hk).2, (hnew k hk).1⟩
  · intro s' r' hs' hr'
    rcases hat s' r' hs' hr' with ⟨_, _, e1, e2⟩ | ⟨hne, e1, e2⟩
    · rw [e1, e2]; exact hrow
    · rw [e1, e2]
      refine (h.row s' r' hs' hr').same fun k hk => ?_
      obtain ⟨hT, hkb⟩ := h.place s' r' hs' hr' k hk
      exact hold k (h.low k hT).2 hkb fun e => hne (h.apart s' r' s r hs' hr' hs hr k hk e)
  · intro s' r' hs' hr' k
    rcases hat s' r' hs' hr' with ⟨_, _, e1, _⟩ | ⟨_, e1, _⟩
    · rw [e1]
      intro hk
      rcases hplace with hp | ⟨k', hk', hge⟩
      · rw [hp] at hk
        obtain ⟨hT, hkb⟩ := h.place s r hs hr k hk
        exact ⟨.inl hT, hkb⟩
      · have : k' = k := by rw [hk'] at hk; exact Option.some.inj hk
        subst this
        exact ⟨.inr ⟨hk, hge⟩, by omega⟩
    · rw [e1]
      intro hk
      obtain ⟨hT, hkb⟩ := h.place s' r' hs' hr' k hk
      exact ⟨.inl hT, hkb⟩
  · have cross : ∀ s1 r1, i64R s1 → i64R r1 → ∀ k, (rowAt f s1 r1).ownBlock = some k → v'.ownBlock = some k → s1 = s ∧ r1 = r := by
      intro s1 r1 hs1 hr1 k hk hv
      rcases hplace with hp | ⟨k', hk', hge⟩
      · exact h.apart s1 r1 s r hs1 hr1 hs hr k hk (hp ▸ hv)
      · have : k' = k := by rw [hk'] at hv; exact Option.some.inj hv
        subst this
        have := (h.low k' (h.place s1 r1 hs1 hr1 k' hk).1).2
        omega
    intro s1 r1 s2 r2 hs1 hr1 hs2 hr2 k hk1 hk2
    rcases hat s1 r1 hs1 hr1 with ⟨rfl, rfl, e1, _⟩ | ⟨hne1, e1, _⟩ <;> rcases hat s2 r2 hs2 hr2 with ⟨rfl, rfl, e2, _⟩ | ⟨hne2, e2, _⟩ <;> rw [e1] at hk1 <;> rw [e2] at hk2
    · exact ⟨rfl, rfl⟩
    · obtain ⟨rfl, rfl⟩ := cross s2 r2 hs2 hr2 k hk2 hk1; exact ⟨rfl, rfl⟩
    · exact cross s1 r1 hs1 hr1 k hk1 hk2
    · exact h.apart s1 r1 s2 r2 hs1 hr1 hs2 hr2 k hk1 hk2
end
/-- Nothing but T's blocks is turned. -/
structure Turned (T : Nat → Prop) (w w' : World) : Prop where
  os : w'.os = w.os
  tape : w'.tape = w.tape
  output : w'.output = w.output
  size : w.heap.size ≤ w'.heap.size
  block : ∀ k, k < w.heap.size → ¬ T k → w'.heap[k]? = w.heap[k]?
namespace Turned
variable {T T' : Nat → Prop} {a w w' : World}
theorem refl (T : Nat → Prop) (w : World) : Turned T w w := ⟨rfl, rfl, rfl, Nat.le_refl _, fun _ _ _ => rfl⟩
theorem trans (h : Turned T a w) (h' : Turned T' w w') (hT : ∀ k, T' k → T k ∨ a.heap.size ≤ k) : Turned T a w' :=
  ⟨h'.os.trans h.os, h'.tape.trans h.tape, h'.output.trans h.output, Nat.le_trans h.size h'.size, fun k hk hn => (h'.block k (Nat.lt_of_lt_of_le hk h.size) fun hT' => (hT k hT').elim hn fun h2 => absurd hk (by omega)).trans (h.block k hk hn)⟩
theorem of_below (h : Below w.heap.size w w') : Turned T w w' := ⟨h.os, h.tape, h.output, h.size, fun k hk _ => h.block k hk⟩
theorem of_grown {row : Option Nat} (h : w.grownBy w' row) (hr : ∀ k, row = some k → T k) : Turned T w w' := ⟨h.os, h.tape, h.output, h.size, fun k hk hn => h.block k hk fun e => hn (hr k e.symm)⟩
theorem below (h : Turned T w w') {D : Nat} (hD : ∀ k, T k → D ≤ k) (hs : D ≤ w.heap.size) : Below D w w' := ⟨h.os, h.tape, h.output, h.size, fun k hk => h.block k (by omega) fun hT => absurd (hD k hT) (by omega)⟩
end Turned
end Go.Proofs.YtnbfkhcignjfoaaDoor
