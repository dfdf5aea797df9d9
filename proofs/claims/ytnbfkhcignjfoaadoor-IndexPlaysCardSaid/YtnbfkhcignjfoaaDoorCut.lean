/- A list less a number; what is left in an index that a number is taken out of, and put in again. -/
import Derived.Test.YtnbfkhcignjfoaaDoorCnt
namespace Go.Proofs.YtnbfkhcignjfoaaDoor
open Go Go.RowKit Go.Maps

def less (zs : List Int) (id : Int) : List Int := zs.filter fun x => !(x == id)
def cf (zs : List Int) (id : Int) (i : Nat) : Nat := (less (zs.take i) id).length
theorem cf_zero (zs : List Int) (id : Int) : cf zs id 0 = 0 := rfl
theorem take_at {zs : List Int} {i : Nat} {z : Int} (h : zs[i]? = some z) : zs.take (i + 1) = zs.take i ++ [z] := by
  rw [List.take_add_one, h]
  rfl
theorem cf_t {zs : List Int} {id z : Int} {i : Nat} (h : zs[i]? = some z) (hz : (z == id) = false) : cf zs id (i + 1) = cf zs id i + 1 := by
  unfold cf less
  rw [take_at h, List.filter_append, List.length_append]
  simp [hz]
theorem cf_f {zs : List Int} {id z : Int} {i : Nat} (h : zs[i]? = some z) (hz : (z == id) = true) : cf zs id (i + 1) = cf zs id i := by
  unfold cf less
  rw [take_at h, List.filter_append, List.length_append]
  simp [hz]
theorem cf_all (zs : List Int) (id : Int) : cf zs id zs.length = (less zs id).length := by
  unfold cf
  rw [List.take_length]
theorem less_get {zs : List Int} {id z : Int} {i : Nat} (h : zs[i]? = some z) (hz : (z == id) = false) : (less zs id)[cf zs id i]? = some z := by
  have e : less zs id = less (zs.take i) id ++ less (zs.drop i) id := by
    unfold less
    rw [← List.filter_append, List.take_append_drop]
  have hd : zs.drop i = z :: zs.drop (i + 1) := by
    obtain ⟨hi, he⟩ := List.getElem?_eq_some_iff.1 h
    rw [List.drop_eq_getElem_cons hi, he]
  rw [e]
  unfold cf
  rw [List.getElem?_append_right (Nat.le_refl _), Nat.sub_self, hd]
  unfold less
  rw [List.filter_cons, if_pos (by simp [hz])]
  rfl
theorem cf_lt {zs : List Int} {id z : Int} {i : Nat} (h : zs[i]? = some z) (hz : (z == id) = false) : cf zs id i < (less zs id).length := by
  have h2 := less_get h hz
  rcases Nat.lt_or_ge (cf zs id i) (less zs id).length with h3 | h3
  · exact h3
  · rw [List.getElem?_eq_none h3] at h2
    cases h2
theorem Asked.less {L : Ids} {q : Ar → Bool} {zs : List Int} (h : Asked L q zs) (id : Int) : Asked (dropL L id) q (less zs id) := by
  refine ⟨h.up.sublist List.filter_sublist, fun x => ?_⟩
  unfold YtnbfkhcignjfoaaDoor.less
  rw [List.mem_filter, h.mem]
  unfold dropL
  constructor
  · rintro ⟨⟨a, h1, h2⟩, h3⟩
    exact ⟨a, List.mem_filter.2 ⟨h1, h3⟩, h2⟩
  · rintro ⟨a, h1, h2⟩
    rw [List.mem_filter] at h1
    exact ⟨⟨a, h1.1, h2⟩, h1.2⟩
theorem less_len (zs : List Int) (id : Int) : (less zs id).length ≤ zs.length := List.length_filter_le _ _
theorem dropL_none {L : Ids} {id : Int} (h : areaAt L id = none) : dropL L id = L := cov_drop_none (areaAt_none.1 h)
/-- Put in again. -/
theorem again_same {L : Ids} (hL : Good L) {id : Int} {a : Ar} (h : areaAt L id = some a) : putE (dropL L id) id a = 0 ∧ putL (dropL L id) id a = dropL L id ++ [(id, a)] ∧ (∀ p, p ∈ dropL L id ++ [(id, a)] ↔ p ∈ L) ∧ Good (dropL L id ++ [(id, a)]) := by
  have hm := (areaAt_some hL).1 h
  obtain ⟨h0, h1, h2⟩ := hL.right _ hm
  have hf : fromB id 1 10000 = true := fromB_iff.2 (by simp only at h0 h1; omega)
  have hn : areaAt (dropL L id) id = none := by rw [areaAt_drop, if_pos rfl]
  refine ⟨?_, ?_, ?_, (hL.drop id).put (areaAt_none.1 hn) h0 h1 h2⟩
  · unfold putE
    rw [if_pos ⟨hf, h2⟩, hn]
    rfl
  · unfold putL
    rw [if_pos ⟨hf, h2⟩, hn]
    rfl
  · intro p
    rw [List.mem_append]
    constructor
    · rintro (hp | hp)
      · unfold dropL at hp
        exact (List.mem_filter.1 hp).1
      · rw [List.mem_singleton] at hp
        rw [hp]
        exact hm
    · intro hp
      by_cases e : p.1 = id
      · have := same_of_nodup hL.nodup hp hm e
        exact .inr (by rw [List.mem_singleton]; exact this)
      · refine .inl ?_
        unfold dropL
        rw [List.mem_filter]
        exact ⟨hp, by simpa using e⟩
end Go.Proofs.YtnbfkhcignjfoaaDoor
