/- Two areas' common one: whether there is one. -/
import Derived.Test.YtnbfkhcignjfoaaDoorPure
import Derived.Laws.ResultCell
namespace Go.Proofs.YtnbfkhcignjfoaaDoor
open Go.RowKit

def meetB (s r c n m s' r' c' n' m' : Int) : Bool := decide (rightB s r c n m = true ∧ rightB s' r' c' n' m' = true ∧ s = s' ∧ r < r' + n' ∧ r' < r + n ∧ c < c' + m' ∧ c' < c + m)
theorem meetB_iff {s r c n m s' r' c' n' m' : Int} : meetB s r c n m s' r' c' n' m' = true ↔ (rightB s r c n m = true ∧ rightB s' r' c' n' m' = true ∧ s = s' ∧ r < r' + n' ∧ r' < r + n ∧ c < c' + m' ∧ c' < c + m) := by simp [meetB]
theorem meetB_f {s r c n m s' r' c' n' m' : Int} (h : ¬ (rightB s r c n m = true ∧ rightB s' r' c' n' m' = true ∧ s = s' ∧ r < r' + n' ∧ r' < r + n ∧ c < c' + m' ∧ c' < c + m)) : meetB s r c n m s' r' c' n' m' = false := by
  rw [← Bool.not_eq_true, meetB_iff]; exact h
theorem meetB_t {s r c n m s' r' c' n' m' : Int} (h1 : rightB s r c n m = true) (h2 : rightB s' r' c' n' m' = true) (h3 : s = s') (h : r < r' + n' ∧ r' < r + n ∧ c < c' + m' ∧ c' < c + m) : meetB s r c n m s' r' c' n' m' = true :=
  meetB_iff.2 ⟨h1, h2, h3, h⟩

def MeetPost (b : Bool) (w : World) (e : Ending) (w' : World) : Prop := (∃ s r c n m : Int, e = .returned (.tuple #[areaV s r c n m, .bool b])) ∧ Below w.heap.size w w'
theorem MeetPost.mk {b b' : Bool} {w w' : World} (s r c n m : Int) (hb : b' = b) (h : Below w.heap.size w w') : MeetPost b w (.returned (.tuple #[areaV s r c n m, .bool b'])) w' := ⟨⟨s, r, c, n, m, by rw [hb]⟩, h⟩

set_option maxHeartbeats 4000000 in
theorem meet_t (s r c n m s' r' c' n' m' : Int) (w : World) (h1 : rightB s r c n m = true) (h2 : rightB s' r' c' n' m' = true) (h3 : (s != s') = false) :
    Calls Tryd.prog 23 #[areaV s r c n m, areaV s' r' c' n' m'] w (MeetPost (meetB s r c n m s' r' c' n' m') w) := by
  obtain ⟨p1, p2, p3, p4, p5, p6, p7, p8, p9, p10⟩ := rightB_iff.1 h1
  obtain ⟨q1, q2, q3, q4, q5, q6, q7, q8, q9, q10⟩ := rightB_iff.1 h2
  go_enter Tryd.func23, Tryd.ntmps23
  go_wp2_with (go_at_call 34; go_must (refine (right34_any _ _ _ _ _ _).mono ?_; rintro e w1 ⟨rfl, hb⟩; obtain ⟨hc, hf⟩ := bcell hb; have y0 : w.heap.size < _ := Nat.lt_of_lt_of_le (by first | assumption | (simp; done) | (simp; omega)) hb.size; have y1 : w.heap.size + 1 < _ := Nat.lt_of_lt_of_le (by first | assumption | (simp; done) | (simp; omega)) hb.size; have y2 : w.heap.size + 1 + 1 < _ := Nat.lt_of_lt_of_le (by first | assumption | (simp; done) | (simp; omega)) hb.size; have B1 : Below w.heap.size w w1 := Below.trans (by first | assumption | exact (((Below.refl _ _).alloc (Nat.le_refl _) _).alloc (by simp) _).alloc (by first | omega | (simp; done) | (simp; omega)) _) (hb.mono (by first | omega | (simp; done) | (simp; omega)))))
  have hmx : ∀ x y : Int, (if x < y then y else x) = max x y := fun x y => by rw [Int.max_def]; split <;> split <;> omega
  have hmn : ∀ x y : Int, (if y < x then y else x) = min x y := fun x y => by rw [Int.min_def]; split <;> split <;> omega
  go_quiet (fail)
  all_goals go_wp2
  · refine bodyPost_ret (v := .tuple #[areaV 0 0 0 0 0, .bool false]) (by rw [results_cell_tmp rfl]; go_simp) rfl ?_
    refine MeetPost.mk _ _ _ _ _ ?_ ?_
    · rw [meetB_f]; rintro ⟨_, _, _, h⟩; omega
    · repeat (first | with_reducible exact B1 | with_reducible refine below_drewN ?_ _ | ((with_reducible refine Below.setCell ?_ ?_ _); rotate_left; (first | omega | (simp; done) | (simp; omega))) | ((with_reducible refine Below.alloc ?_ ?_ _); rotate_left; (first | omega | (simp; done) | (simp; omega))))
  · refine bodyPost_ret (v := .tuple #[areaV s (max r r') (max c c') (min (r + n) (r' + n') - max r r') (min (c + m) (c' + m') - max c c'), .bool true]) (by rw [results_cell_tmp rfl]; go_simp) rfl ?_
    refine MeetPost.mk _ _ _ _ _ ?_ ?_
    · rw [meetB_t h1 h2 (by simpa using h3)]; omega
    · repeat (first | with_reducible exact B1 | with_reducible refine below_drewN ?_ _ | ((with_reducible refine Below.setCell ?_ ?_ _); rotate_left; (first | omega | (simp; done) | (simp; omega))) | ((with_reducible refine Below.alloc ?_ ?_ _); rotate_left; (first | omega | (simp; done) | (simp; omega))))
  · refine bodyPost_ret (v := .tuple #[areaV 0 0 0 0 0, .bool false]) (by rw [results_cell_tmp rfl]; go_simp) rfl ?_
    refine MeetPost.mk _ _ _ _ _ ?_ ?_
    · rw [meetB_f]; rintro ⟨_, _, _, h⟩; omega
    · repeat (first | with_reducible exact B1 | with_reducible refine below_drewN ?_ _ | ((with_reducible refine Below.setCell ?_ ?_ _); rotate_left; (first | omega | (simp; done) | (simp; omega))) | ((with_reducible refine Below.alloc ?_ ?_ _); rotate_left; (first | omega | (simp; done) | (simp; omega))))

set_option maxHeartbeats 1000000 in
theorem meet_f1 (s r c n m s' r' c' n' m' : Int) (w : World) (h1 : rightB s r c n m = false) :
    Calls Tryd.prog 23 #[areaV s r c n m, areaV s' r' c' n' m'] w (MeetPost (meetB s r c n m s' r' c' n' m') w) := by
  have hm : Hid (false = meetB s r c n m s' r' c' n' m') := by
    refine (meetB_f ?_).symm
    rintro ⟨h1, h2, h3, _⟩
    simp_all
  go_enter Tryd.func23, Tryd.ntmps23
  go_wp2_with (go_at_call 34; go_must (refine (right34_any _ _ _ _ _ _).mono ?_; rintro e w1 ⟨rfl, hb⟩; obtain ⟨hc, hf⟩ := bcell hb; have y0 : w.heap.size < _ := Nat.lt_of_lt_of_le (by first | assumption | (simp; done) | (simp; omega)) hb.size; have y1 : w.heap.size + 1 < _ := Nat.lt_of_lt_of_le (by first | assumption | (simp; done) | (simp; omega)) hb.size; have y2 : w.heap.size + 1 + 1 < _ := Nat.lt_of_lt_of_le (by first | assumption | (simp; done) | (simp; omega)) hb.size; have B1 : Below w.heap.size w w1 := Below.trans (by first | assumption | exact (((Below.refl _ _).alloc (Nat.le_refl _) _).alloc (by simp) _).alloc (by first | omega | (simp; done) | (simp; omega)) _) (hb.mono (by first | omega | (simp; done) | (simp; omega)))))
  refine bodyPost_ret (v := .tuple #[areaV 0 0 0 0 0, .bool false]) (by rw [results_cell_tmp rfl]; go_simp) rfl ?_
  refine MeetPost.mk _ _ _ _ _ hm.out ?_
  repeat (first | with_reducible exact B1 | with_reducible refine below_drewN ?_ _ | ((with_reducible refine Below.setCell ?_ ?_ _); rotate_left; (first | omega | (simp; done) | (simp; omega))) | ((with_reducible refine Below.alloc ?_ ?_ _); rotate_left; (first | omega | (simp; done) | (simp; omega))))

set_option maxHeartbeats 1000000 in
theorem meet_f2 (s r c n m s' r' c' n' m' : Int) (w : World) (h1 : rightB s r c n m = true) (h2 : rightB s' r' c' n' m' = false) :
    Calls Tryd.prog 23 #[areaV s r c n m, areaV s' r' c' n' m'] w (MeetPost (meetB s r c n m s' r' c' n' m') w) := by
  have hm : Hid (false = meetB s r c n m s' r' c' n' m') := by
    refine (meetB_f ?_).symm
    rintro ⟨h1, h2, h3, _⟩
    simp_all
  go_enter Tryd.func23, Tryd.ntmps23
  go_wp2_with (go_at_call 34; go_must (refine (right34_any _ _ _ _ _ _).mono ?_; rintro e w1 ⟨rfl, hb⟩; obtain ⟨hc, hf⟩ := bcell hb; have y0 : w.heap.size < _ := Nat.lt_of_lt_of_le (by first | assumption | (simp; done) | (simp; omega)) hb.size; have y1 : w.heap.size + 1 < _ := Nat.lt_of_lt_of_le (by first | assumption | (simp; done) | (simp; omega)) hb.size; have y2 : w.heap.size + 1 + 1 < _ := Nat.lt_of_lt_of_le (by first | assumption | (simp; done) | (simp; omega)) hb.size; have B1 : Below w.heap.size w w1 := Below.trans (by first | assumption | exact (((Below.refl _ _).alloc (Nat.le_refl _) _).alloc (by simp) _).alloc (by first | omega | (simp; done) | (simp; omega)) _) (hb.mono (by first | omega | (simp; done) | (simp; omega)))))
  refine bodyPost_ret (v := .tuple #[areaV 0 0 0 0 0, .bool false]) (by rw [results_cell_tmp rfl]; go_simp) rfl ?_
  refine MeetPost.mk _ _ _ _ _ hm.out ?_
  repeat (first | with_reducible exact B1 | with_reducible refine below_drewN ?_ _ | ((with_reducible refine Below.setCell ?_ ?_ _); rotate_left; (first | omega | (simp; done) | (simp; omega))) | ((with_reducible refine Below.alloc ?_ ?_ _); rotate_left; (first | omega | (simp; done) | (simp; omega))))

set_option maxHeartbeats 1000000 in
theorem meet_f3 (s r c n m s' r' c' n' m' : Int) (w : World) (h1 : rightB s r c n m = true) (h2 : rightB s' r' c' n' m' = true) (h3 : (s != s') = true) :
    Calls Tryd.prog 23 #[areaV s r c n m, areaV s' r' c' n' m'] w (MeetPost (meetB s r c n m s' r' c' n' m') w) := by
  have hm : Hid (false = meetB s r c n m s' r' c' n' m') := by
    refine (meetB_f ?_).symm
    rintro ⟨h1, h2, h3, _⟩
    simp_all
  go_enter Tryd.func23, Tryd.ntmps23
  go_wp2_with (go_at_call 34; go_must (refine (right34_any _ _ _ _ _ _).mono ?_; rintro e w1 ⟨rfl, hb⟩; obtain ⟨hc, hf⟩ := bcell hb; have y0 : w.heap.size < _ := Nat.lt_of_lt_of_le (by first | assumption | (simp; done) | (simp; omega)) hb.size; have y1 : w.heap.size + 1 < _ := Nat.lt_of_lt_of_le (by first | assumption | (simp; done) | (simp; omega)) hb.size; have y2 : w.heap.size + 1 + 1 < _ := Nat.lt_of_lt_of_le (by first | assumption | (simp; done) | (simp; omega)) hb.size; have B1 : Below w.heap.size w w1 := Below.trans (by first | assumption | exact (((Below.refl _ _).alloc (Nat.le_refl _) _).alloc (by simp) _).alloc (by first | omega | (simp; done) | (simp; omega)) _) (hb.mono (by first | omega | (simp; done) | (simp; omega)))))
  refine bodyPost_ret (v := .tuple #[areaV 0 0 0 0 0, .bool false]) (by rw [results_cell_tmp rfl]; go_simp) rfl ?_
  refine MeetPost.mk _ _ _ _ _ hm.out ?_
  repeat (first | with_reducible exact B1 | with_reducible refine below_drewN ?_ _ | ((with_reducible refine Below.setCell ?_ ?_ _); rotate_left; (first | omega | (simp; done) | (simp; omega))) | ((with_reducible refine Below.alloc ?_ ?_ _); rotate_left; (first | omega | (simp; done) | (simp; omega))))

theorem meet_any (s r c n m s' r' c' n' m' : Int) (w : World) :
    Calls Tryd.prog 23 #[areaV s r c n m, areaV s' r' c' n' m'] w (MeetPost (meetB s r c n m s' r' c' n' m') w) := by
  by_cases h1 : rightB s r c n m = true
  · by_cases h2 : rightB s' r' c' n' m' = true
    · by_cases h3 : (s != s') = true
      · exact meet_f3 _ _ _ _ _ _ _ _ _ _ _ h1 h2 h3
      · exact meet_t _ _ _ _ _ _ _ _ _ _ _ h1 h2 (by simpa using h3)
    · exact meet_f2 _ _ _ _ _ _ _ _ _ _ _ h1 (by simpa using h2)
  · exact meet_f1 _ _ _ _ _ _ _ _ _ _ _ (by simpa using h1)
end Go.Proofs.YtnbfkhcignjfoaaDoor
