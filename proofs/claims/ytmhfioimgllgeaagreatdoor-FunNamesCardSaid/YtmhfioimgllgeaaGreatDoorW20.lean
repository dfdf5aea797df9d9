/- A number's text: how it begins; that it is a text. Plain: no program. -/
import Derived.Test.YtmhfioimgllgeaaGreatDoorW18
import Derived.Test.YtmhfioimgllgeaaGreatDoorW12
namespace Go.Proofs.YtmhfioimgllgeaaGreatDoor
open Go
theorem text_ascii : ∀ (l : List UInt8), (∀ c ∈ l, 32 ≤ c.toNat ∧ c.toNat < 127) → isTextL l = true
  | [], _ => rfl
  | c :: r, h => by
    obtain ⟨h1, h2⟩ := h c List.mem_cons_self
    have hs : sgnL (c :: r) = 1 := by
      unfold sgnL sgnN
      rw [if_neg (by simp), if_pos (show ((c :: r).getD 0 0).toNat < 128 by show c.toNat < 128; omega)]
    have ho : oddB c = false := by
      unfold oddB
      simp
      omega
    rw [isTextL_step _ (by simp), hs, if_neg (by
      rintro (h | h)
      · cases h
      · have : oddB c = true := h
        rw [ho] at this; cases this)]
    exact text_ascii r (fun c hc => h c (List.mem_cons_of_mem _ hc))
theorem shown_fig {x y : Int} (h : RightP (x, y)) : isTextL (textR x y) = true := by
  obtain ⟨A, P, m, e, hA, _, hP, h0, _⟩ := shown_parts h
  have hd : ∀ l : List UInt8, figB l = true → ∀ c ∈ l, 32 ≤ c.toNat ∧ c.toNat < 127 := fun l hl c hc => by
    have := isDig_bd (List.all_eq_true.1 (figB_iff hl).2.2 c hc)
    omega
  rw [e]
  refine text_ascii _ fun c hc => ?_
  rw [List.mem_append] at hc
  rcases hc with hc | hc
  · split at hc
    · simp at hc; subst hc; decide
    · simp at hc
  · unfold joinL at hc
    rw [List.mem_append] at hc
    rcases hc with hc | hc
    · exact hd A hA c hc
    · cases m with
      | true =>
        simp at hc
        rcases hc with hc | hc
        · subst hc; decide
        · exact hd P (hP rfl) c hc
      | false => simp at hc
end Go.Proofs.YtmhfioimgllgeaaGreatDoor
