/- The reference's numbers, rising: the same as the index's. -/
import Derived.Test.YtnbfkhcignjfoaaDoorCut
namespace Go.Proofs.YtnbfkhcignjfoaaDoor
open Go Go.RowKit Go.Maps

/-- The same numbers, rising. -/
structure Twin (L R : Ids) : Prop where
  up : (R.map Prod.fst).Pairwise (· < ·)
  mem : ∀ p, p ∈ R ↔ p ∈ L
theorem Twin.nil : Twin [] [] := ⟨List.Pairwise.nil, fun _ => Iff.rfl⟩
theorem nodup_of_up {zs : List Int} (h : zs.Pairwise (· < ·)) : zs.Nodup := h.imp fun hab e => by omega
theorem Twin.good {L R : Ids} (h : Twin L R) (hL : Good L) : Good R := ⟨nodup_of_up h.up, fun p hp => hL.right p ((h.mem p).1 hp)⟩
theorem Twin.len {L R : Ids} (h : Twin L R) (hL : Good L) : R.length = L.length := len_same hL (h.good hL) h.mem
theorem up_lt {R : Ids} (h : (R.map Prod.fst).Pairwise (· < ·)) {i j : Nat} {p q : Int × Ar} (hi : R[i]? = some p) (hj : R[j]? = some q) (hij : i < j) : p.1 < q.1 := by
  rw [List.pairwise_iff_getElem] at h
  obtain ⟨h1, e1⟩ := List.getElem?_eq_some_iff.1 hi
  obtain ⟨h2, e2⟩ := List.getElem?_eq_some_iff.1 hj
  have := h i j (by simpa using h1) (by simpa using h2) hij
  simp only [List.getElem_map] at this
  rw [e1, e2] at this
  exact this
theorem from_id {id : Int} : fromB id 1 10000 = true ↔ (0 ≤ id ∧ id < 10000) := by
  rw [fromB_iff]
  omega
theorem put_bad_same {L : Ids} {id : Int} {a : Ar} (h : ¬ (0 ≤ id ∧ id < 10000 ∧ a.right = true)) : putE L id a = 2 ∧ putL L id a = L := by
  have : ¬ (fromB id 1 10000 = true ∧ a.right = true) := by
    rw [from_id]
    exact fun h2 => h ⟨h2.1.1, h2.1.2, h2.2⟩
  unfold putE putL
  rw [if_neg this, if_neg this]
  exact ⟨rfl, rfl⟩
theorem Twin.has {L R : Ids} (h : Twin L R) (hL : Good L) {id : Int} {a b : Ar} {k : Nat} (hk : R[k]? = some (id, b)) (h0 : 0 ≤ id) (h1 : id < 10000) (ha : a.right = true) : putE L id a = 110 ∧ putL L id a = L := by
  have hm : areaAt L id = some b := (areaAt_some hL).2 ((h.mem _).1 (List.mem_of_getElem? hk))
  have hc : fromB id 1 10000 = true ∧ a.right = true := ⟨from_id.2 ⟨h0, h1⟩, ha⟩
  unfold putE putL
  rw [if_pos hc, if_pos hc, hm]
  exact ⟨rfl, rfl⟩
theorem Twin.put {L R : Ids} (h : Twin L R) {id : Int} {a : Ar} {k : Nat} (hlt : ∀ i p, i < k → R[i]? = some p → p.1 < id) (hge : ∀ p, R[k]? = some p → id < p.1) (h0 : 0 ≤ id) (h1 : id < 10000) (ha : a.right = true) :
    putE L id a = 0 ∧ Twin (putL L id a) (R.take k ++ (id, a) :: R.drop k) := by
  have hafter : ∀ i p, k ≤ i → R[i]? = some p → id < p.1 := by
    intro i p hi hp
    rcases Nat.lt_or_eq_of_le hi with hlt' | rfl
    · have hkl : k < R.length := by have := (List.getElem?_eq_some_iff.1 hp).1; omega
      have hk : R[k]? = some R[k] := List.getElem?_eq_getElem hkl
      have h1 := hge _ hk
      have h2 := up_lt h.up hk hp hlt'
      omega
    · exact hge p hp
  have hnone : areaAt L id = none := by
    rw [areaAt_none]
    intro b hb
    obtain ⟨i, hi⟩ := List.mem_iff_getElem?.1 ((h.mem _).2 hb)
    rcases Nat.lt_or_ge i k with hik | hik
    · have := hlt i _ hik hi
      simp only at this
      omega
    · have := hafter i _ hik hi
      simp only at this
      omega
  have hc : fromB id 1 10000 = true ∧ a.right = true := ⟨from_id.2 ⟨h0, h1⟩, ha⟩
  have hL' : putL L id a = L ++ [(id, a)] := by
    unfold putL
    rw [if_pos hc, hnone]
    rfl
  refine ⟨by unfold putE; rw [if_pos hc, hnone]; rfl, ?_, ?_⟩
  · rw [List.map_append, List.map_cons, List.pairwise_append, List.pairwise_cons]
    refine ⟨?_, ⟨?_, ?_⟩, ?_⟩
    · exact h.up.sublist ((List.take_sublist k R).map _)
    · intro x hx
      obtain ⟨p, hp, rfl⟩ := List.mem_map.1 hx
      obtain ⟨i, hi⟩ := List.mem_iff_getElem?.1 hp
      rw [List.getElem?_drop] at hi
      exact hafter _ p (by omega) hi
    · exact h.up.sublist ((List.drop_sublist k R).map _)
    · intro x hx y hy
      obtain ⟨p, hp, rfl⟩ := List.mem_map.1 hx
      obtain ⟨i, hi⟩ := List.mem_iff_getElem?.1 hp
      have hik : i < k := by
        have := (List.getElem?_eq_some_iff.1 hi).1
        rw [List.length_take] at this
        omega
      rw [List.getElem?_take_of_lt hik] at hi
      have h1 := hlt i p hik hi
      rcases List.mem_cons.1 hy with rfl | hy
      · exact h1
      · obtain ⟨q, hq, rfl⟩ := List.mem_map.1 hy
        obtain ⟨j, hj⟩ := List.mem_iff_getElem?.1 hq
        rw [List.getElem?_drop] at hj
        have h2 := hafter _ q (by omega) hj
        omega
  · intro p
    rw [hL', List.mem_append, List.mem_append, List.mem_cons, List.mem_singleton, ← h.mem]
    conv => rhs; lhs; rw [← List.take_append_drop k R, List.mem_append]
    constructor
    · rintro (h1 | h1 | h1)
      · exact .inl (.inl h1)
      · exact .inr h1
      · exact .inl (.inr h1)
    · rintro ((h1 | h1) | h1)
      · exact .inl h1
      · exact .inr (.inr h1)
      · exact .inr (.inl h1)
theorem Twin.drop {L R : Ids} (h : Twin L R) (id : Int) : Twin (dropL L id) (dropL R id) := by
  refine ⟨h.up.sublist (List.filter_sublist.map _), fun p => ?_⟩
  unfold dropL
  rw [List.mem_filter, List.mem_filter, h.mem]
theorem Twin.dropped {L R : Ids} (h : Twin L R) (hL : Good L) (id : Int) : (areaAt L id).isSome = decide ((dropL R id).length < R.length) := by
  have h1 := h.len hL
  have h2 := (h.drop id).len (hL.drop id)
  have h3 := dropL_len hL.nodup id
  rw [h1, h2, h3]
  cases hc : areaAt L id with
  | none => simp
  | some a =>
    have : 0 < L.length := List.length_pos_of_mem ((areaAt_some hL).1 hc)
    simp
    omega
/-- Do two areas meet, whatever they are? -/
def meetR (a b : Ar) : Bool := decide (a.s = b.s ∧ a.r < b.r + b.n ∧ b.r < a.r + a.n ∧ a.c < b.c + b.m ∧ b.c < a.c + a.m)
def near (R : Ids) (b : Ar) : List Int := (R.filter fun p => meetR p.2 b).map Prod.fst
theorem meetR_meets {a b : Ar} (ha : a.right = true) (hb : b.right = true) : meetR a b = meetsB b.s b.r b.c b.n b.m a := by
  unfold meetsB
  rw [Bool.eq_iff_iff, meetB_iff]
  unfold meetR
  rw [decide_eq_true_eq]
  unfold Ar.right at ha hb
  constructor
  · rintro ⟨h1, h2, h3, h4, h5⟩
    exact ⟨hb, ha, h1.symm, h3, h2, h5, h4⟩
  · rintro ⟨_, _, h1, h2, h3, h4, h5⟩
    exact ⟨h1.symm, h3, h2, h5, h4⟩
theorem Twin.near {L R : Ids} (h : Twin L R) (hL : Good L) {b : Ar} (hb : b.right = true) : Asked L (meetsB b.s b.r b.c b.n b.m) (near R b) := by
  unfold YtnbfkhcignjfoaaDoor.near
  refine ⟨h.up.sublist (List.filter_sublist.map _), fun x => ?_⟩
  rw [List.mem_map]
  constructor
  · rintro ⟨p, hp, rfl⟩
    rw [List.mem_filter] at hp
    have hm := (h.mem p).1 hp.1
    exact ⟨p.2, hm, by rw [← meetR_meets (hL.right p hm).2.2 hb]; exact hp.2⟩
  · rintro ⟨a, ha, hq⟩
    refine ⟨(x, a), List.mem_filter.2 ⟨(h.mem _).2 ha, ?_⟩, rfl⟩
    rw [meetR_meets (hL.right _ ha).2.2 hb]
    exact hq
theorem asked_bad {L : Ids} {s r c n m : Int} (hb : rightB s r c n m = false) : Asked L (meetsB s r c n m) [] := by
  refine ⟨List.Pairwise.nil, fun x => ⟨fun h => by simp at h, ?_⟩⟩
  rintro ⟨a, _, hq⟩
  unfold meetsB at hq
  have := (meetB_iff.1 hq).1
  rw [hb] at this
  cases this
theorem hasB_meets (s r c : Int) : hasB s r c = meetsB s r c 1 1 := by
  funext a
  unfold hasB meetsB
  exact meetB_comm _ _ _ _ _ _ _ _ _ _
end Go.Proofs.YtnbfkhcignjfoaaDoor
