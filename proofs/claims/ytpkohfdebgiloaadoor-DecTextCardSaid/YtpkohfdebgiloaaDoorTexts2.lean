/- The walk of DecText, joined. -/
import Derived.Test.YtpkohfdebgiloaaDoorTexts
import Derived.Lib.SlicesS
namespace Go.Proofs.YtpkohfdebgiloaaDoor
open Go.RowKit Go.Shelf

theorem arr_list (l : List UInt8) : (⟨l.toArray⟩ : ByteArray).data.toList = l := rfl
theorem arr_size (l : List UInt8) : (⟨l.toArray⟩ : ByteArray).size = l.length := rfl
theorem arr_inj {l l' : List UInt8} (h : ¬ l = l') : ((⟨l.toArray⟩ : ByteArray).toList == (⟨l'.toArray⟩ : ByteArray).toList) = false :=
  (Lib.bytes_beq_false_iff _ _).2 (fun e => h (congrArg (fun b : ByteArray => b.data.toList) e))
theorem arr_zero (l : List UInt8) : ((⟨#[48]⟩ : ByteArray) ++ ⟨l.toArray⟩).data.toList = 48 :: l := by simp
theorem text_call {x y : Int} (h : RightP (x, y)) (w : World) : Calls Tryd.prog 29 #[.agg #[.int .i64 x, .int .i64 y]] w (fun e w' => e = .returned (.tuple #[.string ⟨(textR x y).toArray⟩, .int .i64 0]) ∧ Below w.heap.size w w') := by
  obtain ⟨x0, x1, _⟩ := id h
  simp only at x0 x1
  have := text_any x y w (by omega) (by omega)
  rw [(text_plain h).1] at this
  exact this
theorem read_call (T : ByteArray) {p : (Int × Int) × Int} (h : readD T.data.toList = p) (hs : T.size < 4294967281) (w : World) (hm : Shp w) : Calls Tryd.prog 13 #[.string T] w (DecPost p w) := by
  have := read_any T w hs hm
  rw [h] at this
  exact this
theorem read_some (l : List UInt8) : ∃ z1 z2 i, readD l = ((z1, z2), i) ∧ RightP (z1, z2) ∧ (i = 0 ∨ i = 12 ∧ z1 = 0 ∧ z2 = 0 ∨ i = 10 ∧ z1 = 0 ∧ z2 = 0) := by
  have h0 : RightP (0, 0) := ⟨by decide, by decide, by decide, by decide, .inl ⟨rfl, rfl⟩⟩
  rcases read_three l with ⟨⟨a, b⟩, h, hr⟩ | h | h
  · exact ⟨a, b, 0, h, hr, .inl rfl⟩
  · exact ⟨0, 0, 12, h, h0, .inr (.inl ⟨rfl, rfl, rfl⟩)⟩
  · exact ⟨0, 0, 10, h, h0, .inr (.inr ⟨rfl, rfl, rfl⟩)⟩
theorem texts_walk (A1 A2 B1 B2 : Int) (s : ByteArray) (w : World) (hm : Shp w) (hA10 : -9223372036854775808 ≤ A1) (hA11 : A1 ≤ 9223372036854775807) (hA20 : -9223372036854775808 ≤ A2) (hA21 : A2 ≤ 9223372036854775807) (hB10 : -9223372036854775808 ≤ B1) (hB11 : B1 ≤ 9223372036854775807) (hB20 : -9223372036854775808 ≤ B2) (hB21 : B2 ≤ 9223372036854775807) (hsz : s.size ≤ 9223372036854775807) :
    Calls Tryd.prog 11 #[.agg #[.int .i64 A1, .int .i64 A2], .agg #[.int .i64 B1, .int .i64 B2], .string s] w fun e w' => e = .returned (.bool true) ∧ Below w.heap.size w w' := by
  have hx := madeP_right A1 A2
  have h' := madeP_right B1 B2
  obtain ⟨⟨x, y⟩, hA⟩ : ∃ p, madeP A1 A2 = p := ⟨_, rfl⟩
  obtain ⟨⟨x', y'⟩, hB⟩ : ∃ p, madeP B1 B2 = p := ⟨_, rfl⟩
  rw [hA] at hx
  rw [hB] at h'
  obtain ⟨t1, r1, r0, l1⟩ := text_plain hx
  obtain ⟨S0, hS⟩ : ∃ S0, s.extract 0 (min (s.size : Int) 90).toNat = S0 := ⟨_, rfl⟩
  have hS0 : S0.size < 4294967281 := by rw [← hS, ByteArray.size_extract]; omega
  obtain ⟨z1, z2, i, hz, hzr, hi⟩ := read_some S0.data.toList
  obtain ⟨t3, r3, _, l3⟩ := text_plain hzr
  have hT1 : (⟨(textR x y).toArray⟩ : ByteArray).size ≤ 100 := l1
  have hT0 : ((⟨#[48]⟩ : ByteArray) ++ ⟨(textR x y).toArray⟩).size < 4294967281 := by
    have : ((⟨#[48]⟩ : ByteArray) ++ ⟨(textR x y).toArray⟩).data.toList.length = ((⟨#[48]⟩ : ByteArray) ++ ⟨(textR x y).toArray⟩).size := rfl
    rw [← this, arr_zero, List.length_cons]; omega
  have hT2 : (⟨#[48]⟩ : ByteArray).size + (⟨(textR x y).toArray⟩ : ByteArray).size ≤ 9223372036854775807 := by
    have : (⟨#[48]⟩ : ByteArray).size = 1 := rfl
    omega
  have k1 := text_call hx
  have k2 := text_call h'
  have k3 := read_call ⟨(textR x y).toArray⟩ r1 (by omega)
  have k5 := read_call S0 hz hS0
  have k6 := text_call hzr
  have k7 := read_call ⟨(textR z1 z2).toArray⟩ r3 (by rw [arr_size]; omega)
  have k4 : ∀ p, readD (48 :: textR x y) = p → ∀ w, Shp w → Calls Tryd.prog 13 #[.string ((⟨#[48]⟩ : ByteArray) ++ ⟨(textR x y).toArray⟩)] w (DecPost p w) := fun p hp => read_call _ (by rw [arr_zero]; exact hp) hT0
  by_cases e1 : x = x' ∧ y = y'
  · obtain ⟨rfl, rfl⟩ := e1
    by_cases c : x < 0
    · rw [if_pos c] at r0
      exact texts_sn A1 A2 B1 B2 s w hm hA10 hA11 hA20 hA21 hB10 hB11 hB20 hB21 x y z1 z2 i _ _ _ _ hsz hT1 hT2 hx hzr hA hB k1 k2 k3 rfl (k4 _ r0) hS k5 k6 k7 c hi
    · rw [if_neg c] at r0
      exact texts_sp A1 A2 B1 B2 s w hm hA10 hA11 hA20 hA21 hB10 hB11 hB20 hB21 x y z1 z2 i _ _ _ _ hsz hT1 hT2 hx hzr hA hB k1 k2 k3 rfl (k4 _ r0) hS k5 k6 k7 (by omega) hi
  · have hne := arr_inj (fun e => e1 (text_inj hx h' e))
    by_cases ex : x = x'
    · have ey : (y == y') = false := by
        rw [beq_eq_false_iff_ne]; exact fun e => e1 ⟨ex, e⟩
      have ex' : (x == x') = true := by simpa using ex
      by_cases c : x < 0
      · rw [if_pos c] at r0
        exact texts_en A1 A2 B1 B2 s w hm hA10 hA11 hA20 hA21 hB10 hB11 hB20 hB21 x y x' y' z1 z2 i _ _ _ _ _ hsz hT1 hT2 hx hzr hA hB h' hne ex' ey k1 k2 k3 rfl (k4 _ r0) hS k5 k6 k7 c hi
      · rw [if_neg c] at r0
        exact texts_ep A1 A2 B1 B2 s w hm hA10 hA11 hA20 hA21 hB10 hB11 hB20 hB21 x y x' y' z1 z2 i _ _ _ _ _ hsz hT1 hT2 hx hzr hA hB h' hne ex' ey k1 k2 k3 rfl (k4 _ r0) hS k5 k6 k7 (by omega) hi
    · have ex' : (x == x') = false := by simpa using ex
      by_cases c : x < 0
      · rw [if_pos c] at r0
        exact texts_dn A1 A2 B1 B2 s w hm hA10 hA11 hA20 hA21 hB10 hB11 hB20 hB21 x y x' y' z1 z2 i _ _ _ _ _ hsz hT1 hT2 hx hzr hA hB h' hne ex' k1 k2 k3 rfl (k4 _ r0) hS k5 k6 k7 c hi
      · rw [if_neg c] at r0
        exact texts_dp A1 A2 B1 B2 s w hm hA10 hA11 hA20 hA21 hB10 hB11 hB20 hB21 x y x' y' z1 z2 i _ _ _ _ _ hsz hT1 hT2 hx hzr hA hB h' hne ex' k1 k2 k3 rfl (k4 _ r0) hS k5 k6 k7 (by omega) hi
end Go.Proofs.YtpkohfdebgiloaaDoor
