/- dec.figures. -/
import Derived.Test.YtpkohfdebgiloaaDoorTrim
import Derived.Test.YtpkohfdebgiloaaDoorText
namespace Go.Proofs.YtpkohfdebgiloaaDoor
open Go.RowKit Go.Shelf

def digS : List UInt8 := [48, 49, 50, 51, 52, 53, 54, 55, 56, 57]
theorem trim_any (s : ByteArray) (w : World) (hs : s.size ≤ 9223372036854775807) :
    Calls Tryd.prog 69 #[.string s, .string ⟨#[48, 49, 50, 51, 52, 53, 54, 55, 56, 57]⟩] w fun e w' => e = .returned (.string ⟨(Lib.trimS s.data.toList digS).toArray⟩) ∧ Below w.heap.size w w' :=
  Any.strings_Trim_laid Tryd.lays160 (by kernel_rfl) s ⟨#[48, 49, 50, 51, 52, 53, 54, 55, 56, 57]⟩ w hs (by decide) (ascii_of_all (by decide))
/-- Digits, some, but not too many? -/
def figB (l : List UInt8) : Bool := decide (1 ≤ l.length) && (decide (l.length ≤ 40) && l.all (fun c => digS.contains c))
theorem dropWhile_nil {α : Type} (p : α → Bool) : ∀ l : List α, l.dropWhile p = [] ↔ l.all p = true
  | [] => by simp
  | a :: l => by
    rw [List.dropWhile_cons, List.all_cons]
    cases h : p a
    · simp
    · simp only [if_true, Bool.true_and]; exact dropWhile_nil p l
theorem trim_nil (l cs : List UInt8) : Lib.trimS l cs = [] ↔ l.all (fun c => cs.contains c) = true := by
  unfold Lib.trimS Lib.trimLeftS Lib.trimRightS
  rw [dropWhile_nil, List.all_reverse]
  constructor
  · intro h
    have h2 : List.dropWhile (fun x => cs.contains x) l.reverse = [] := by
      cases hd : List.dropWhile (fun x => cs.contains x) l.reverse with
      | nil => rfl
      | cons a r =>
        have h3 := List.head?_dropWhile_not (fun x => cs.contains x) l.reverse
        rw [hd] at h3 h
        simp only [List.head?_cons] at h3
        rw [List.all_cons] at h
        rw [h3] at h; cases h
    rw [dropWhile_nil, List.all_reverse] at h2
    exact h2
  · intro h
    rw [(dropWhile_nil _ _).2 (by rw [List.all_reverse]; exact h)]; rfl
theorem isEmpty_trim (l : List UInt8) : (Lib.trimS l digS).isEmpty = l.all (fun c => digS.contains c) := by
  rw [Bool.eq_iff_iff, List.isEmpty_iff]; exact trim_nil l digS
theorem size_list (s : ByteArray) : s.data.toList.length = s.size := rfl
set_option maxRecDepth 100000 in
set_option maxHeartbeats 4000000 in
theorem fig_any (s : ByteArray) (w : World) (hs : s.size ≤ 9223372036854775807) :
    Calls Tryd.prog 33 #[.string s] w fun e w' => e = .returned (.bool (figB s.data.toList)) ∧ Below w.heap.size w w' := by
  by_cases c1 : 1 ≤ s.size
  · by_cases c2 : s.size ≤ 40
    · go_enter Tryd.func33, Tryd.ntmps33
      go_wp2_with (go_at_call 69; refine (trim_any s _ hs).mono ?_; rintro e w1 ⟨rfl, hB⟩)
      go_ret
      refine ⟨ret_bool ?_, hB⟩
      rw [figB, size_list, isEmpty_trim]; simp [c1, c2]
    · go_enter Tryd.func33, Tryd.ntmps33
      go_wp2
      go_ret
      refine ⟨ret_bool ?_, Below.refl _ _⟩
      rw [figB, size_list]; simp [c2]
  · go_enter Tryd.func33, Tryd.ntmps33
    go_wp2
    go_ret
    refine ⟨ret_bool ?_, Below.refl _ _⟩
    rw [figB, size_list]; simp [c1]
end Go.Proofs.YtpkohfdebgiloaaDoor
