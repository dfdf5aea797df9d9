/- What a round keeps, where it writes one box and the row that the box holds; what has come. -/
import Derived.Test.YtnbfkhcignjfoaaDoorIx
import Derived.RangeFuncNested
import Derived.RangeFuncBound
import Derived.RangeFuncCalls
import Derived.RangeFuncLeaves
import Derived.Shelf.Abstract
import Derived.Shelf.RegionOpen
import Derived.OwnWalkIn
import Derived.TacticsInMore
import Derived.LoopNIn
import Derived.LoopIn
namespace Go.Proofs.YtnbfkhcignjfoaaDoor
open Go Go.RowKit Go.Maps

def rowOf (W : World) (Bo : Nat) : Option Nat := (W.cell? ⟨Bo, 0, none⟩).bind Value.ownBlock
structure KpX (X : Nat → Prop) (Bo : Nat) (W W' : World) : Prop where
  size : W.heap.size ≤ W'.heap.size
  same : ∀ (k : Nat) (o : Obj), W.heap[k]? = some o → (o.isCells = true ∨ o.isWalk = true) → k ≠ Bo → ¬ X k → rowOf W Bo ≠ some k → W'.heap[k]? = some o
  row : rowOf W' Bo = rowOf W Bo ∨ ∃ k, rowOf W' Bo = some k ∧ W.heap.size ≤ k
abbrev KpB (Bo : Nat) : World → World → Prop := KpX (fun _ => False) Bo
section
variable {X Y : Nat → Prop} {Bo : Nat} {A B C : World}
theorem KpX.refl (X : Nat → Prop) (Bo : Nat) (W : World) : KpX X Bo W W := ⟨Nat.le_refl _, fun _ _ h _ _ _ _ => h, .inl rfl⟩
theorem KpX.trans (h : KpX X Bo A B) (h' : KpX X Bo B C) : KpX X Bo A C :=
  ⟨Nat.le_trans h.size h'.size, fun k o hk ho hB hX hr => h'.same k o (h.same k o hk ho hB hX hr) ho hB hX (fun e => by
    rcases h.row with e1 | ⟨j, e1, hj⟩
    · exact hr (e1 ▸ e)
    · rw [e1] at e
      have := Option.some.inj e
      have := (Array.getElem?_eq_some_iff.1 hk).1
      omega), by
    rcases h'.row with e | ⟨k, e, hk⟩
    · rw [e]; exact h.row
    · exact .inr ⟨k, e, Nat.le_trans h.size hk⟩⟩
theorem KpX.mono (h : KpX X Bo A B) (hXY : ∀ k, X k → Y k) : KpX Y Bo A B := ⟨h.size, fun k o hk ho hB hY hr => h.same k o hk ho hB (fun hX => hY (hXY k hX)) hr, h.row⟩
theorem rowOf_same (h : B.heap[Bo]? = A.heap[Bo]?) : rowOf B Bo = rowOf A Bo := by unfold rowOf; rw [World.cell?_of_block (a := ⟨Bo, 0, none⟩) h]
/-- A step that leaves the box alone, and turns no block but X's. -/
theorem KpX.step (hs : A.heap.size ≤ B.heap.size) (hb : ∀ k, k < A.heap.size → ¬ X k → B.heap[k]? = A.heap[k]?) (hB : Bo < A.heap.size) (hX : ¬ X Bo) : KpX X Bo A B :=
  ⟨hs, fun k _ hk _ _ hn _ => (hb k (Array.getElem?_eq_some_iff.1 hk).1 hn).trans hk, .inl (rowOf_same (hb Bo hB hX))⟩
theorem KpX.below {D : Nat} (h : Below D A B) (hD : A.heap.size ≤ D) (hB : Bo < A.heap.size) (hX : ¬ X Bo) : KpX X Bo A B := KpX.step h.size (fun k hk _ => h.block k (by omega)) hB hX
theorem kpB_b {w : World} (hB : Bo < w.heap.size) (W : World) (l : Nat) (o o' : Obj) (hl : w.heap.size ≤ l) (h : W.heap[l]? = some o) (h1 : o.isCells = false) (h2 : o.isWalk = false) : KpB Bo W (W.putObj l o') := by
  have hlt := (Array.getElem?_eq_some_iff.1 h).1
  refine ⟨(grownBy_putObj' W l o').size, fun k ob hk ho hkB _ _ => ?_, .inl (rowOf_same (World.putObj_heap_other (by omega)))⟩
  have : k ≠ l := by
    rintro rfl
    rw [h] at hk
    cases hk
    rcases ho with h3 | h3
    · rw [h1] at h3; cases h3
    · rw [h2] at h3; cases h3
  exact (World.putObj_heap_other this).trans hk
end
/-- What has come ahead of place j of line K. -/
structure Come (L : Ids) (s r : Int) (K j : Nat) (pre : Ids) : Prop where
  nodup : (pre.map Prod.fst).Nodup
  mem : ∀ p, p ∈ pre ↔ p ∈ L ∧ ((∃ k : Nat, k < K ∧ p.2.on s (r + k) = true) ∨ p.1 ∈ (cov L s (r + K)).take j)
theorem come_zero (L : Ids) (s r : Int) : Come L s r 0 0 [] := ⟨by simp, fun p => by simp⟩
theorem mem_cov {L : Ids} (hL : Good L) {s r : Int} {p : Int × Ar} (hp : p ∈ L) : p.1 ∈ cov L s r ↔ p.2.on s r = true := by
  unfold cov
  rw [List.mem_map]
  constructor
  · rintro ⟨q, hq, e⟩
    rw [List.mem_filter] at hq
    have := same_of_nodup hL.nodup hq.1 hp e
    subst this
    exact hq.2
  · intro h
    exact ⟨p, List.mem_filter.2 ⟨hp, h⟩, rfl⟩
theorem Come.next {L : Ids} (hL : Good L) {s r : Int} {K : Nat} {pre : Ids} (h : Come L s r K (cov L s (r + K)).length pre) : Come L s r (K + 1) 0 pre := by
  refine ⟨h.nodup, fun p => ?_⟩
  rw [h.mem p, List.take_length, List.take_zero]
  constructor
  · rintro ⟨hp, ⟨k, hk, hon⟩ | hc⟩
    · exact ⟨hp, .inl ⟨k, by omega, hon⟩⟩
    · exact ⟨hp, .inl ⟨K, by omega, (mem_cov hL hp).1 hc⟩⟩
  · rintro ⟨hp, ⟨k, hk, hon⟩ | hc⟩
    · by_cases e : k = K
      · subst e
        exact ⟨hp, .inr ((mem_cov hL hp).2 hon)⟩
      · exact ⟨hp, .inl ⟨k, by omega, hon⟩⟩
    · simp at hc
theorem Come.skip {L : Ids} {s r : Int} {K j : Nat} {pre : Ids} (hL : Good L) (h : Come L s r K j pre) {z : Int} (hz : (cov L s (r + K))[j]? = some z) (hm : z ∈ pre.map Prod.fst) : Come L s r K (j + 1) pre := by
  refine ⟨h.nodup, fun p => ?_⟩
  rw [List.take_add_one, hz]
  simp only [Option.toList_some, List.mem_append, List.mem_singleton]
  constructor
  · intro hp
    obtain ⟨h1, h2⟩ := (h.mem p).1 hp
    exact ⟨h1, h2.imp (fun x => x) .inl⟩
  · rintro ⟨hp, h2⟩
    rcases h2 with h2 | h2 | h2
    · exact (h.mem p).2 ⟨hp, .inl h2⟩
    · exact (h.mem p).2 ⟨hp, .inr h2⟩
    · rw [List.mem_map] at hm
      obtain ⟨q, hq, e⟩ := hm
      have := same_of_nodup hL.nodup ((h.mem q).1 hq).1 hp (e.trans h2.symm)
      exact this ▸ hq
theorem Come.add {L : Ids} {s r : Int} {K j : Nat} {pre : Ids} (hL : Good L) (h : Come L s r K j pre) {z : Int} {a : Ar} (hz : (cov L s (r + K))[j]? = some z) (hm : z ∉ pre.map Prod.fst) (ha : (z, a) ∈ L) : Come L s r K (j + 1) (pre ++ [(z, a)]) := by
  refine ⟨?_, fun p => ?_⟩
  · rw [List.map_append, List.nodup_append]
    refine ⟨h.nodup, by simp, ?_⟩
    intro x hx y hy
    simp only [List.map_cons, List.map_nil, List.mem_singleton] at hy
    subst hy
    intro e
    exact hm (e ▸ hx)
  · rw [List.take_add_one, hz]
    simp only [Option.toList_some, List.mem_append, List.mem_singleton]
    constructor
    · rintro (hp | rfl)
      · obtain ⟨h1, h2⟩ := (h.mem p).1 hp
        exact ⟨h1, h2.imp (fun x => x) .inl⟩
      · exact ⟨ha, .inr (.inr rfl)⟩
    · rintro ⟨hp, h2⟩
      rcases h2 with h2 | h2 | h2
      · exact .inl ((h.mem p).2 ⟨hp, .inl h2⟩)
      · exact .inl ((h.mem p).2 ⟨hp, .inr h2⟩)
      · exact .inr (same_of_nodup hL.nodup hp ha h2)
theorem nodup_len : ∀ {xs ys : List Int}, xs.Nodup → (∀ x ∈ xs, x ∈ ys) → xs.length ≤ ys.length
  | [], _, _, _ => Nat.zero_le _
  | x :: xs, ys, hn, hs => by
    rw [List.nodup_cons] at hn
    have hx := hs x (List.mem_cons_self ..)
    have h := nodup_len (ys := ys.erase x) hn.2 fun y hy => (List.mem_erase_of_ne (fun e : y = x => hn.1 (e ▸ hy))).2 (hs y (List.mem_cons_of_mem _ hy))
    rw [List.length_erase_of_mem hx] at h
    have := List.length_pos_of_mem hx
    simp only [List.length_cons]
    omega
theorem come_len {L pre : Ids} (h : (pre.map Prod.fst).Nodup) (hs : ∀ p ∈ pre, p ∈ L) : pre.length ≤ L.length := by
  have := nodup_len h (ys := L.map Prod.fst) fun x hx => by
    rw [List.mem_map] at hx
    obtain ⟨p, hp, rfl⟩ := hx
    exact List.mem_map.2 ⟨p, hs p hp, rfl⟩
  simpa using this
theorem cov_mem {L : Ids} {s r z : Int} {j : Nat} (hz : (cov L s r)[j]? = some z) : ∃ a, (z, a) ∈ L := by
  have := List.mem_of_getElem? hz
  unfold cov at this
  rw [List.mem_map] at this
  obtain ⟨p, hp, rfl⟩ := this
  exact ⟨p.2, (List.mem_filter.1 hp).1⟩
/-- The numbers met. -/
def metF (ids : List Int) : Value → Option Value
  | .int .i64 x => if x ∈ ids then some (.bool true) else none
  | _ => none
theorem metF_upd (ids : List Int) (z : Int) : upd (metF ids) (.int .i64 z) (some (.bool true)) = metF (ids ++ [z]) := by
  funext v
  by_cases e : v = .int .i64 z
  · subst e
    rw [upd_same]
    simp [metF]
  · rw [upd_other _ _ e]
    unfold metF
    split
    · rename_i x
      have : x ≠ z := fun e' => e (by rw [e'])
      simp [this]
    · rfl
theorem metF_nil : metF [] = fun _ => none := by
  funext v
  unfold metF
  split <;> simp
end Go.Proofs.YtnbfkhcignjfoaaDoor
