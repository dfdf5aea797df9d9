/- The index in memory. -/
import Derived.Test.YtnbfkhcignjfoaaDoorDrop
import Derived.Test.YtnbfkhcignjfoaaDoorMeet
namespace Go.Proofs.YtnbfkhcignjfoaaDoor
open Go Go.RowKit Go.Maps

structure Ar where
  s : Int
  r : Int
  c : Int
  n : Int
  m : Int
deriving DecidableEq
abbrev Ar.v (a : Ar) : Value := areaV a.s a.r a.c a.n a.m
def Ar.right (a : Ar) : Bool := rightB a.s a.r a.c a.n a.m
/-- Does an area stand in a line? -/
def Ar.on (a : Ar) (s r : Int) : Bool := decide (s = a.s ∧ a.r ≤ r ∧ r < a.r + a.n.toNat)
abbrev Ids := List (Int × Ar)
def cov (L : Ids) (s r : Int) : List Int := (L.filter fun p => p.2.on s r).map Prod.fst
structure Good (L : Ids) : Prop where
  nodup : (L.map Prod.fst).Nodup
  right : ∀ p ∈ L, 0 ≤ p.1 ∧ p.1 < 10000 ∧ p.2.right = true
theorem cov_len (L : Ids) (s r : Int) : (cov L s r).length ≤ L.length := by
  unfold cov
  rw [List.length_map]
  exact List.length_filter_le _ _
theorem cov_put (L : Ids) (id : Int) (a : Ar) : cov (L ++ [(id, a)]) = putC (cov L) id a.s a.r a.n.toNat := by
  funext s r
  unfold cov putC
  rw [List.filter_append, List.map_append]
  by_cases h : s = a.s ∧ a.r ≤ r ∧ r < a.r + a.n.toNat
  · rw [if_pos h]
    have : a.on s r = true := by unfold Ar.on; simpa using h
    simp [this]
  · rw [if_neg h]
    have : a.on s r = false := by unfold Ar.on; simpa using h
    simp [this]
def dropL (L : Ids) (id : Int) : Ids := L.filter fun p => !(p.1 == id)
theorem cov_dropL (L : Ids) (id s r : Int) : cov (dropL L id) s r = (cov L s r).filter fun x => !(x == id) := by
  unfold cov dropL
  rw [List.filter_map, List.filter_filter, List.filter_filter]
  congr 1
  apply List.filter_congr
  intro p _
  simp [Bool.and_comm]
theorem same_of_nodup : ∀ {L : Ids}, (L.map Prod.fst).Nodup → ∀ {p q : Int × Ar}, p ∈ L → q ∈ L → p.1 = q.1 → p = q
  | [], _, _, _, h, _, _ => absurd h (by simp)
  | x :: L, hn, p, q, hp, hq, e => by
    rw [List.map_cons, List.nodup_cons] at hn
    rcases List.mem_cons.1 hp with e1 | h1
    · rcases List.mem_cons.1 hq with e2 | h2
      · rw [e1, e2]
      · exact absurd (List.mem_map.2 ⟨q, h2, by rw [← e, e1]⟩) hn.1
    · rcases List.mem_cons.1 hq with e2 | h2
      · exact absurd (List.mem_map.2 ⟨p, h1, by rw [e, e2]⟩) hn.1
      · exact same_of_nodup hn.2 h1 h2 e
theorem cov_drop {L : Ids} (hL : Good L) {id : Int} {a : Ar} (h : (id, a) ∈ L) : cov (dropL L id) = dropC (cov L) id a.s a.r a.n.toNat := by
  funext s r
  rw [cov_dropL]
  unfold dropC
  by_cases hin : s = a.s ∧ a.r ≤ r ∧ r < a.r + a.n.toNat
  · rw [if_pos hin]
  · rw [if_neg hin, List.filter_eq_self]
    intro x hx
    unfold cov at hx
    rw [List.mem_map] at hx
    obtain ⟨p, hp, rfl⟩ := hx
    rw [List.mem_filter] at hp
    rw [Bool.not_eq_true', beq_eq_false_iff_ne]
    intro e
    have := same_of_nodup hL.nodup hp.1 h e
    subst this
    have h2 := hp.2
    unfold Ar.on at h2
    exact hin (by simpa using h2)
theorem cov_drop_none {L : Ids} {id : Int} (h : ∀ a, (id, a) ∉ L) : dropL L id = L := by
  unfold dropL
  rw [List.filter_eq_self]
  intro p hp
  rw [Bool.not_eq_true', beq_eq_false_iff_ne]
  intro e
  exact h p.2 (e ▸ hp)
theorem Good.drop {L : Ids} (hL : Good L) (id : Int) : Good (dropL L id) :=
  ⟨hL.nodup.sublist (List.filter_sublist.map _), fun p hp => hL.right p (List.mem_filter.1 hp).1⟩
theorem Good.put {L : Ids} (hL : Good L) {id : Int} {a : Ar} (h : ∀ b, (id, b) ∉ L) (h0 : 0 ≤ id) (h1 : id < 10000) (ha : a.right = true) : Good (L ++ [(id, a)]) := by
  refine ⟨?_, ?_⟩
  · rw [List.map_append, List.nodup_append]
    refine ⟨hL.nodup, by simp, ?_⟩
    intro x hx y hy
    simp only [List.map_cons, List.map_nil, List.mem_singleton] at hy
    subst hy
    rw [List.mem_map] at hx
    obtain ⟨p, hp, rfl⟩ := hx
    intro e
    exact h p.2 (e ▸ hp)
  · intro p hp
    rcases List.mem_append.1 hp with hp | hp
    · exact hL.right p hp
    · simp only [List.mem_singleton] at hp
      subst hp
      exact ⟨h0, h1, ha⟩
/-- The area that stands at a number. -/
def areaAt (L : Ids) (id : Int) : Option Ar := (L.find? fun p => p.1 == id).map Prod.snd
theorem areaAt_some {L : Ids} (hL : Good L) {id : Int} {a : Ar} : areaAt L id = some a ↔ (id, a) ∈ L := by
  unfold areaAt
  rw [Option.map_eq_some_iff]
  constructor
  · rintro ⟨p, hp, rfl⟩
    have h1 := List.mem_of_find?_eq_some hp
    have h2 := List.find?_some hp
    simp only [beq_iff_eq] at h2
    subst h2
    exact h1
  · intro h
    cases hf : L.find? fun p => p.1 == id with
    | none =>
      rw [List.find?_eq_none] at hf
      exact absurd (hf _ h) (by simp)
    | some p =>
      have h1 := List.mem_of_find?_eq_some hf
      have h2 := List.find?_some hf
      simp only [beq_iff_eq] at h2
      have := same_of_nodup hL.nodup h1 h h2
      subst this
      exact ⟨_, rfl, rfl⟩
theorem areaAt_none {L : Ids} {id : Int} : areaAt L id = none ↔ ∀ a, (id, a) ∉ L := by
  unfold areaAt
  rw [Option.map_eq_none_iff, List.find?_eq_none]
  constructor
  · intro h a ha
    exact absurd (h _ ha) (by simp)
  · intro h p hp
    simp only [beq_iff_eq]
    intro e
    exact h p.2 (e ▸ hp)
/-- The index in memory: its own block, the lines' map, the areas' map. -/
structure IxAt (w : World) (B bi : Nat) (L : Ids) (N : Nat) (T1 : Nat → Prop) (ma mb : Nat) (f : Value → Option Value) (c : Nat) (g : Value → Option Value) : Prop where
  head : w.heap[bi]? = some (.cells #[.map (some ma), .map (some mb)] 58 (0, 0))
  base : B ≤ bi
  free : ¬ T1 bi
  lines : LnsAt w B ma (cov L) N T1 f c
  areas : World.mp w Tryd.prog 3 mb g L.length
  mbase : B ≤ mb
  mfree : ¬ T1 mb
  at_ : ∀ id : Int, g (.int .i64 id) = (areaAt L id).map Ar.v
  good : Good L
  len : L.length ≤ N
def Ix (w : World) (B bi : Nat) (L : Ids) (N : Nat) (T : Nat → Prop) : Prop := ∃ T1 ma mb f c g, IxAt w B bi L N T1 ma mb f c g ∧ T = fun k => T1 k ∨ k = mb
section
variable {w w' : World} {B bi N ma mb c : Nat} {L : Ids} {T1 T : Nat → Prop} {f g : Value → Option Value}
theorem IxAt.keep (h : IxAt w B bi L N T1 ma mb f c g) (hk : ∀ k, (T1 k ∨ k = mb ∨ k = bi) → w'.heap[k]? = w.heap[k]?) (hs : w.heap.size ≤ w'.heap.size) : IxAt w' B bi L N T1 ma mb f c g :=
  ⟨(hk bi (.inr (.inr rfl))).trans h.head, h.base, h.free, h.lines.keep (fun k hT => hk k (.inl hT)) hs, h.areas.same (hk mb (.inr (.inl rfl))), h.mbase, h.mfree, h.at_, h.good, h.len⟩
theorem IxAt.lt (h : IxAt w B bi L N T1 ma mb f c g) : ∀ k, (T1 k ∨ k = mb ∨ k = bi) → B ≤ k ∧ k < w.heap.size := by
  rintro k (hk | rfl | rfl)
  · exact h.lines.low k hk
  · exact ⟨h.mbase, h.areas.lt⟩
  · exact ⟨h.base, (Array.getElem?_eq_some_iff.1 h.head).1⟩
theorem IxAt.below {D : Nat} (h : IxAt w B bi L N T1 ma mb f c g) (hB : Below D w w') (hD : w.heap.size ≤ D) : IxAt w' B bi L N T1 ma mb f c g :=
  h.keep (fun k hk => hB.block k (Nat.lt_of_lt_of_le (h.lt k hk).2 hD)) hB.size
theorem Ix.below {D : Nat} (h : Ix w B bi L N T) (hB : Below D w w') (hD : w.heap.size ≤ D) : Ix w' B bi L N T := by
  obtain ⟨T1, ma, mb, f, c, g, h, rfl⟩ := h
  exact ⟨T1, ma, mb, f, c, g, h.below hB hD, rfl⟩
theorem IxAt.c0 (h : IxAt w B bi L N T1 ma mb f c g) : w.cell? ⟨bi, 0, none⟩ = some (.map (some ma)) := (cell_of_row w bi 0 _ _ _ h.head).trans rfl
theorem IxAt.c1 (h : IxAt w B bi L N T1 ma mb f c g) : w.cell? ⟨bi, 1, none⟩ = some (.map (some mb)) := (cell_of_row w bi 1 _ _ _ h.head).trans rfl
end
end Go.Proofs.YtnbfkhcignjfoaaDoor
