/- Merged: Told, Tells. -/
import Derived.Test.YtpkohfdebgiloaaDoorRrd
import Derived.Test.YtpkohfdebgiloaaDoorRtx
import Derived.Test.YtpkohfdebgiloaaDoorRmore
import Derived.Deep.RegionHeld3
import Derived.Test.YtpkohfdebgiloaaDoorExs
/- The two answers told of two decimals are the same. -/
namespace Go.Proofs.YtpkohfdebgiloaaDoor
open Go.RowKit Go.Shelf

set_option maxRecDepth 100000 in
set_option maxHeartbeats 8000000 in
theorem told_any (A1 A2 B1 B2 n : Int) (w : World) (hA10 : -9223372036854775808 ≤ A1) (hA11 : A1 ≤ 9223372036854775807) (_hA20 : -9223372036854775808 ≤ A2) (_hA21 : A2 ≤ 9223372036854775807) (hB10 : -9223372036854775808 ≤ B1) (hB11 : B1 ≤ 9223372036854775807) (_hB20 : -9223372036854775808 ≤ B2) (_hB21 : B2 ≤ 9223372036854775807) (_hn0 : -9223372036854775808 ≤ n) (_hn1 : n ≤ 9223372036854775807) :
    Calls Tryd.prog 17 #[.agg #[.int .i64 A1, .int .i64 A2], .agg #[.int .i64 B1, .int .i64 B2], .int .i64 n] w fun e w' => e = .returned (.bool true) ∧ Below w.heap.size w w' := by
  obtain ⟨⟨⟨p0, q0⟩, e0⟩, hT⟩ : ∃ T, addD A1 A2 B1 B2 = T := ⟨_, rfl⟩
  have C1 := fun w => add_any A1 A2 B1 B2 w hA10 hA11 hB10 hB11
  have C2 := fun w => radd_any A1 A2 B1 B2 w hA10 hA11 hB10 hB11
  rw [hT] at C1 C2
  have K0 := Lib.hid C1
  have R0 := Lib.hid C2
  clear C1 C2 hT
  obtain ⟨⟨⟨p1, q1⟩, e1⟩, hT⟩ : ∃ T, subD A1 A2 B1 B2 = T := ⟨_, rfl⟩
  have C1 := fun w => sub_any A1 A2 B1 B2 w hA10 hA11 hB10 hB11
  have C2 := fun w => rsub_any A1 A2 B1 B2 w hA10 hA11 hB10 hB11
  rw [hT] at C1 C2
  have K1 := Lib.hid C1
  have R1 := Lib.hid C2
  clear C1 C2 hT
  obtain ⟨⟨⟨p2, q2⟩, e2⟩, hT⟩ : ∃ T, mulD A1 A2 B1 B2 = T := ⟨_, rfl⟩
  have C1 := fun w => mul_any A1 A2 B1 B2 w hA10 hA11 hB10 hB11
  have C2 := fun w => rmul_any A1 A2 B1 B2 w hA10 hA11 hB10 hB11
  rw [hT] at C1 C2
  have K2 := Lib.hid C1
  have R2 := Lib.hid C2
  clear C1 C2 hT
  obtain ⟨⟨⟨p3, q3⟩, e3⟩, hT⟩ : ∃ T, divD A1 A2 B1 B2 = T := ⟨_, rfl⟩
  have C1 := fun w => div_any A1 A2 B1 B2 w hA10 hA11 hB10 hB11
  have C2 := fun w => rdiv_any A1 A2 B1 B2 w hA10 hA11 hB10 hB11
  rw [hT] at C1 C2
  have K3 := Lib.hid C1
  have R3 := Lib.hid C2
  clear C1 C2 hT
  obtain ⟨⟨f0, f1⟩, hT⟩ : ∃ T, floorD A1 A2 = T := ⟨_, rfl⟩
  have C1 := fun w => floor_any A1 A2 w hA10 hA11
  have C2 := fun w => rfloor_any A1 A2 w hA10 hA11
  rw [hT] at C1 C2
  have KF := Lib.hid C1
  have RF := Lib.hid C2
  clear C1 C2 hT
  obtain ⟨⟨x0, x1⟩, hT⟩ : ∃ T, textD A1 A2 = T := ⟨_, rfl⟩
  have C1 := fun w => text_any A1 A2 w hA10 hA11
  have C2 := fun w => rtext_any A1 A2 w hA10 hA11
  rw [hT] at C1 C2
  unfold TextPost at C1 C2
  simp only at C1 C2
  obtain ⟨S, hS⟩ : ∃ S : ByteArray, ⟨x0.toArray⟩ = S := ⟨_, rfl⟩
  rw [hS] at C1 C2
  have hSS : (S == S) = true := by rw [MapKept.bytes_beq]
  have KT := Lib.hid C1
  have RT := Lib.hid C2
  clear C1 C2 hT hS
  obtain ⟨⟨⟨u1, u2⟩, u3⟩, hT⟩ : ∃ T, roundD A1 A2 n = T := ⟨_, rfl⟩
  have C1 := fun w => round_any A1 A2 n w hA10 hA11
  have C2 := fun w => rround_any A1 A2 n w hA10 hA11
  rw [hT] at C1 C2
  have KR := Lib.hid C1
  have RR := Lib.hid C2
  clear C1 C2 hT
  have CG := fun w => right_any A1 A2 w hA10 hA11
  have CG2 := fun w => rright_any A1 A2 w hA10 hA11
  obtain ⟨rb, hT⟩ : ∃ T, rightB A1 A2 = T := ⟨_, rfl⟩
  rw [hT] at CG CG2
  have KG := Lib.hid CG
  have RG := Lib.hid CG2
  clear CG CG2 hT
  have CG := fun w => cmp_any A1 A2 B1 B2 w hA10 hA11 hB10 hB11
  have CG2 := fun w => rcmp_any A1 A2 B1 B2 w hA10 hA11 hB10 hB11
  obtain ⟨cc, hT⟩ : ∃ T, cmpD A1 A2 B1 B2 = T := ⟨_, rfl⟩
  rw [hT] at CG CG2
  have KC := Lib.hid CG
  have RC := Lib.hid CG2
  clear CG CG2 hT
  go_enter Tryd.func17, Tryd.ntmps17
  go_wp2_with fail
  obtain ⟨W, hW⟩ : ∃ W, W = (w.alloc (.cells #[.int .i64 A1, .int .i64 A2] 23)).alloc (.cells #[.int .i64 B1, .int .i64 B2] 23) := ⟨_, rfl⟩
  rw [← hW]
  have d_A1 : World.dec W (w.heap.size) A1 A2 := by rw [hW]; exact (World.dec_new w A1 A2 _ rfl).alloc _
  have d_B1 : World.dec W (w.heap.size + 1) B1 B2 := by rw [hW]; exact World.dec_new _ B1 B2 _ (by simp)
  have hB : Below w.heap.size w W := by rw [hW]; exact (((Below.refl _ w).alloc (Nat.le_refl _) _).alloc (by simp) _)
  clear hW
  refine (K0.out _).mono ?_
  rintro e w1 ⟨rfl, hB1⟩
  have d_A1 := d_A1.below hB1 d_A1.lt
  have d_B1 := d_B1.below hB1 d_B1.lt
  have hB := hB.trans (hB1.mono hB.size)
  clear hB1
  have d_s0 : World.dec (w1.alloc (.cells #[.int .i64 p0, .int .i64 q0] 23)) (w1.heap.size) p0 q0 := World.dec_new _ _ _ _ rfl
  have l_A1 := d_A1.lt
  have d_A1 := d_A1.alloc (.cells #[.int .i64 p0, .int .i64 q0] 23)
  have l_B1 := d_B1.lt
  have d_B1 := d_B1.alloc (.cells #[.int .i64 p0, .int .i64 q0] 23)
  have hB := hB.alloc hB.size (.cells #[.int .i64 p0, .int .i64 q0] 23)
  have c_A1 := d_A1.c0
  have e_A1 := d_A1.c1
  have c_B1 := d_B1.c0
  have e_B1 := d_B1.c1
  go_wp2_with fail
  clear c_A1 e_A1 c_B1 e_B1
  clear l_A1 l_B1
  refine (R0.out _).mono ?_
  rintro e w1 ⟨rfl, hB1⟩
  have d_A1 := d_A1.below hB1 d_A1.lt
  have d_B1 := d_B1.below hB1 d_B1.lt
  have d_s0 := d_s0.below hB1 d_s0.lt
  have hB := hB.trans (hB1.mono hB.size)
  clear hB1
  have d_t0 : World.dec (w1.alloc (.cells #[.int .i64 p0, .int .i64 q0] 23)) (w1.heap.size) p0 q0 := World.dec_new _ _ _ _ rfl
  have l_A1 := d_A1.lt
  have d_A1 := d_A1.alloc (.cells #[.int .i64 p0, .int .i64 q0] 23)
  have l_B1 := d_B1.lt
  have d_B1 := d_B1.alloc (.cells #[.int .i64 p0, .int .i64 q0] 23)
  have l_s0 := d_s0.lt
  have d_s0 := d_s0.alloc (.cells #[.int .i64 p0, .int .i64 q0] 23)
  have hB := hB.alloc hB.size (.cells #[.int .i64 p0, .int .i64 q0] 23)
  have c_A1 := d_A1.c0
  have e_A1 := d_A1.c1
  have c_B1 := d_B1.c0
  have e_B1 := d_B1.c1
  go_wp2_with fail
  clear c_A1 e_A1 c_B1 e_B1
  clear l_A1 l_B1 l_s0
  refine (K1.out _).mono ?_
  rintro e w1 ⟨rfl, hB1⟩
  have d_A1 := d_A1.below hB1 d_A1.lt
  have d_B1 := d_B1.below hB1 d_B1.lt
  have d_s0 := d_s0.below hB1 d_s0.lt
  have d_t0 := d_t0.below hB1 d_t0.lt
  have hB := hB.trans (hB1.mono hB.size)
  clear hB1
  have d_s1 : World.dec (w1.alloc (.cells #[.int .i64 p1, .int .i64 q1] 23)) (w1.heap.size) p1 q1 := World.dec_new _ _ _ _ rfl
  have l_A1 := d_A1.lt
  have d_A1 := d_A1.alloc (.cells #[.int .i64 p1, .int .i64 q1] 23)
  have l_B1 := d_B1.lt
  have d_B1 := d_B1.alloc (.cells #[.int .i64 p1, .int .i64 q1] 23)
  have l_s0 := d_s0.lt
  have d_s0 := d_s0.alloc (.cells #[.int .i64 p1, .int .i64 q1] 23)
  have l_t0 := d_t0.lt
  have d_t0 := d_t0.alloc (.cells #[.int .i64 p1, .int .i64 q1] 23)
  have hB := hB.alloc hB.size (.cells #[.int .i64 p1, .int .i64 q1] 23)
  have c_A1 := d_A1.c0
  have e_A1 := d_A1.c1
  have c_B1 := d_B1.c0
  have e_B1 := d_B1.c1
  go_wp2_with fail
  clear c_A1 e_A1 c_B1 e_B1
  clear l_A1 l_B1 l_s0 l_t0
  refine (R1.out _).mono ?_
  rintro e w1 ⟨rfl, hB1⟩
  have d_A1 := d_A1.below hB1 d_A1.lt
  have d_B1 := d_B1.below hB1 d_B1.lt
  have d_s0 := d_s0.below hB1 d_s0.lt
  have d_t0 := d_t0.below hB1 d_t0.lt
  have d_s1 := d_s1.below hB1 d_s1.lt
  have hB := hB.trans (hB1.mono hB.size)
  clear hB1
  have d_t1 : World.dec (w1.alloc (.cells #[.int .i64 p1, .int .i64 q1] 23)) (w1.heap.size) p1 q1 := World.dec_new _ _ _ _ rfl
  have l_A1 := d_A1.lt
  have d_A1 := d_A1.alloc (.cells #[.int .i64 p1, .int .i64 q1] 23)
  have l_B1 := d_B1.lt
  have d_B1 := d_B1.alloc (.cells #[.int .i64 p1, .int .i64 q1] 23)
  have l_s0 := d_s0.lt
  have d_s0 := d_s0.alloc (.cells #[.int .i64 p1, .int .i64 q1] 23)
  have l_t0 := d_t0.lt
  have d_t0 := d_t0.alloc (.cells #[.int .i64 p1, .int .i64 q1] 23)
  have l_s1 := d_s1.lt
  have d_s1 := d_s1.alloc (.cells #[.int .i64 p1, .int .i64 q1] 23)
  have hB := hB.alloc hB.size (.cells #[.int .i64 p1, .int .i64 q1] 23)
  have c_A1 := d_A1.c0
  have e_A1 := d_A1.c1
  have c_B1 := d_B1.c0
  have e_B1 := d_B1.c1
  go_wp2_with fail
  clear c_A1 e_A1 c_B1 e_B1
  clear l_A1 l_B1 l_s0 l_t0 l_s1
  refine (K2.out _).mono ?_
  rintro e w1 ⟨rfl, hB1⟩
  have d_A1 := d_A1.below hB1 d_A1.lt
  have d_B1 := d_B1.below hB1 d_B1.lt
  have d_s0 := d_s0.below hB1 d_s0.lt
  have d_t0 := d_t0.below hB1 d_t0.lt
  have d_s1 := d_s1.below hB1 d_s1.lt
  have d_t1 := d_t1.below hB1 d_t1.lt
  have hB := hB.trans (hB1.mono hB.size)
  clear hB1
  have d_s2 : World.dec (w1.alloc (.cells #[.int .i64 p2, .int .i64 q2] 23)) (w1.heap.size) p2 q2 := World.dec_new _ _ _ _ rfl
  have l_A1 := d_A1.lt
  have d_A1 := d_A1.alloc (.cells #[.int .i64 p2, .int .i64 q2] 23)
  have l_B1 := d_B1.lt
  have d_B1 := d_B1.alloc (.cells #[.int .i64 p2, .int .i64 q2] 23)
  have l_s0 := d_s0.lt
  have d_s0 := d_s0.alloc (.cells #[.int .i64 p2, .int .i64 q2] 23)
  have l_t0 := d_t0.lt
  have d_t0 := d_t0.alloc (.cells #[.int .i64 p2, .int .i64 q2] 23)
  have l_s1 := d_s1.lt
  have d_s1 := d_s1.alloc (.cells #[.int .i64 p2, .int .i64 q2] 23)
  have l_t1 := d_t1.lt
  have d_t1 := d_t1.alloc (.cells #[.int .i64 p2, .int .i64 q2] 23)
  have hB := hB.alloc hB.size (.cells #[.int .i64 p2, .int .i64 q2] 23)
  have c_A1 := d_A1.c0
  have e_A1 := d_A1.c1
  have c_B1 := d_B1.c0
  have e_B1 := d_B1.c1
  go_wp2_with fail
  clear c_A1 e_A1 c_B1 e_B1
  clear l_A1 l_B1 l_s0 l_t0 l_s1 l_t1
  refine (R2.out _).mono ?_
  rintro e w1 ⟨rfl, hB1⟩
  have d_A1 := d_A1.below hB1 d_A1.lt
  have d_B1 := d_B1.below hB1 d_B1.lt
  have d_s0 := d_s0.below hB1 d_s0.lt
  have d_t0 := d_t0.below hB1 d_t0.lt
  have d_s1 := d_s1.below hB1 d_s1.lt
  have d_t1 := d_t1.below hB1 d_t1.lt
  have d_s2 := d_s2.below hB1 d_s2.lt
  have hB := hB.trans (hB1.mono hB.size)
  clear hB1
  have d_t2 : World.dec (w1.alloc (.cells #[.int .i64 p2, .int .i64 q2] 23)) (w1.heap.size) p2 q2 := World.dec_new _ _ _ _ rfl
  have l_A1 := d_A1.lt
  have d_A1 := d_A1.alloc (.cells #[.int .i64 p2, .int .i64 q2] 23)
  have l_B1 := d_B1.lt
  have d_B1 := d_B1.alloc (.cells #[.int .i64 p2, .int .i64 q2] 23)
  have l_s0 := d_s0.lt
  have d_s0 := d_s0.alloc (.cells #[.int .i64 p2, .int .i64 q2] 23)
  have l_t0 := d_t0.lt
  have d_t0 := d_t0.alloc (.cells #[.int .i64 p2, .int .i64 q2] 23)
  have l_s1 := d_s1.lt
  have d_s1 := d_s1.alloc (.cells #[.int .i64 p2, .int .i64 q2] 23)
  have l_t1 := d_t1.lt
  have d_t1 := d_t1.alloc (.cells #[.int .i64 p2, .int .i64 q2] 23)
  have l_s2 := d_s2.lt
  have d_s2 := d_s2.alloc (.cells #[.int .i64 p2, .int .i64 q2] 23)
  have hB := hB.alloc hB.size (.cells #[.int .i64 p2, .int .i64 q2] 23)
  have c_A1 := d_A1.c0
  have e_A1 := d_A1.c1
  have c_B1 := d_B1.c0
  have e_B1 := d_B1.c1
  go_wp2_with fail
  clear c_A1 e_A1 c_B1 e_B1
  clear l_A1 l_B1 l_s0 l_t0 l_s1 l_t1 l_s2
  refine (K3.out _).mono ?_
  rintro e w1 ⟨rfl, hB1⟩
  have d_A1 := d_A1.below hB1 d_A1.lt
  have d_B1 := d_B1.below hB1 d_B1.lt
  have d_s0 := d_s0.below hB1 d_s0.lt
  have d_t0 := d_t0.below hB1 d_t0.lt
  have d_s1 := d_s1.below hB1 d_s1.lt
  have d_t1 := d_t1.below hB1 d_t1.lt
  have d_s2 := d_s2.below hB1 d_s2.lt
  have d_t2 := d_t2.below hB1 d_t2.lt
  have hB := hB.trans (hB1.mono hB.size)
  clear hB1
  have d_s3 : World.dec (w1.alloc (.cells #[.int .i64 p3, .int .i64 q3] 23)) (w1.heap.size) p3 q3 := World.dec_new _ _ _ _ rfl
  have l_A1 := d_A1.lt
  have d_A1 := d_A1.alloc (.cells #[.int .i64 p3, .int .i64 q3] 23)
  have l_B1 := d_B1.lt
  have d_B1 := d_B1.alloc (.cells #[.int .i64 p3, .int .i64 q3] 23)
  have l_s0 := d_s0.lt
  have d_s0 := d_s0.alloc (.cells #[.int .i64 p3, .int .i64 q3] 23)
  have l_t0 := d_t0.lt
  have d_t0 := d_t0.alloc (.cells #[.int .i64 p3, .int .i64 q3] 23)
  have l_s1 := d_s1.lt
  have d_s1 := d_s1.alloc (.cells #[.int .i64 p3, .int .i64 q3] 23)
  have l_t1 := d_t1.lt
  have d_t1 := d_t1.alloc (.cells #[.int .i64 p3, .int .i64 q3] 23)
  have l_s2 := d_s2.lt
  have d_s2 := d_s2.alloc (.cells #[.int .i64 p3, .int .i64 q3] 23)
  have l_t2 := d_t2.lt
  have d_t2 := d_t2.alloc (.cells #[.int .i64 p3, .int .i64 q3] 23)
  have hB := hB.alloc hB.size (.cells #[.int .i64 p3, .int .i64 q3] 23)
  have c_A1 := d_A1.c0
  have e_A1 := d_A1.c1
  have c_B1 := d_B1.c0
  have e_B1 := d_B1.c1
  go_wp2_with fail
  clear c_A1 e_A1 c_B1 e_B1
  clear l_A1 l_B1 l_s0 l_t0 l_s1 l_t1 l_s2 l_t2
  refine (R3.out _).mono ?_
  rintro e w1 ⟨rfl, hB1⟩
  have d_A1 := d_A1.below hB1 d_A1.lt
  have d_B1 := d_B1.below hB1 d_B1.lt
  have d_s0 := d_s0.below hB1 d_s0.lt
  have d_t0 := d_t0.below hB1 d_t0.lt
  have d_s1 := d_s1.below hB1 d_s1.lt
  have d_t1 := d_t1.below hB1 d_t1.lt
  have d_s2 := d_s2.below hB1 d_s2.lt
  have d_t2 := d_t2.below hB1 d_t2.lt
  have d_s3 := d_s3.below hB1 d_s3.lt
  have hB := hB.trans (hB1.mono hB.size)
  clear hB1
  have d_t3 : World.dec (w1.alloc (.cells #[.int .i64 p3, .int .i64 q3] 23)) (w1.heap.size) p3 q3 := World.dec_new _ _ _ _ rfl
  have l_A1 := d_A1.lt
  have d_A1 := d_A1.alloc (.cells #[.int .i64 p3, .int .i64 q3] 23)
  have l_B1 := d_B1.lt
  have d_B1 := d_B1.alloc (.cells #[.int .i64 p3, .int .i64 q3] 23)
  have l_s0 := d_s0.lt
  have d_s0 := d_s0.alloc (.cells #[.int .i64 p3, .int .i64 q3] 23)
  have l_t0 := d_t0.lt
  have d_t0 := d_t0.alloc (.cells #[.int .i64 p3, .int .i64 q3] 23)
  have l_s1 := d_s1.lt
  have d_s1 := d_s1.alloc (.cells #[.int .i64 p3, .int .i64 q3] 23)
  have l_t1 := d_t1.lt
  have d_t1 := d_t1.alloc (.cells #[.int .i64 p3, .int .i64 q3] 23)
  have l_s2 := d_s2.lt
  have d_s2 := d_s2.alloc (.cells #[.int .i64 p3, .int .i64 q3] 23)
  have l_t2 := d_t2.lt
  have d_t2 := d_t2.alloc (.cells #[.int .i64 p3, .int .i64 q3] 23)
  have l_s3 := d_s3.lt
  have d_s3 := d_s3.alloc (.cells #[.int .i64 p3, .int .i64 q3] 23)
  have hB := hB.alloc hB.size (.cells #[.int .i64 p3, .int .i64 q3] 23)
  have c_A1 := d_A1.c0
  have e_A1 := d_A1.c1
  have c_s0 := d_s0.c0
  have e_s0 := d_s0.c1
  have c_t0 := d_t0.c0
  have e_t0 := d_t0.c1
  have c_s1 := d_s1.c0
  have e_s1 := d_s1.c1
  have c_t1 := d_t1.c0
  have e_t1 := d_t1.c1
  have c_s2 := d_s2.c0
  have e_s2 := d_s2.c1
  have c_t2 := d_t2.c0
  have e_t2 := d_t2.c1
  have c_s3 := d_s3.c0
  have e_s3 := d_s3.c1
  have c_t3 := d_t3.c0
  have e_t3 := d_t3.c1
  go_wp2_with fail
  clear c_A1 e_A1 c_s0 e_s0 c_t0 e_t0 c_s1 e_s1 c_t1 e_t1 c_s2 e_s2 c_t2 e_t2 c_s3 e_s3 c_t3 e_t3
  clear l_A1 l_B1 l_s0 l_t0 l_s1 l_t1 l_s2 l_t2 l_s3
  clear d_s0
  clear d_t0
  clear d_s1
  clear d_t1
  clear d_s2
  clear d_t2
  clear d_s3
  clear d_t3
  refine (KF.out _).mono ?_
  rintro e w1 ⟨rfl, hB1⟩
  have d_A1 := d_A1.below hB1 d_A1.lt
  have d_B1 := d_B1.below hB1 d_B1.lt
  have hB := hB.trans (hB1.mono hB.size)
  clear hB1
  have c_A1 := d_A1.c0
  have e_A1 := d_A1.c1
  go_wp2_with fail
  clear c_A1 e_A1
  refine (RF.out _).mono ?_
  rintro e w1 ⟨rfl, hB1⟩
  have d_A1 := d_A1.below hB1 d_A1.lt
  have d_B1 := d_B1.below hB1 d_B1.lt
  have hB := hB.trans (hB1.mono hB.size)
  clear hB1
  have c_A1 := d_A1.c0
  have e_A1 := d_A1.c1
  go_wp2_with fail
  clear c_A1 e_A1
  refine (KT.out _).mono ?_
  rintro e w1 ⟨rfl, hB1⟩
  have d_A1 := d_A1.below hB1 d_A1.lt
  have d_B1 := d_B1.below hB1 d_B1.lt
  have hB := hB.trans (hB1.mono hB.size)
  clear hB1
  have c_A1 := d_A1.c0
  have e_A1 := d_A1.c1
  go_wp2_with fail
  clear c_A1 e_A1
  refine (RT.out _).mono ?_
  rintro e w1 ⟨rfl, hB1⟩
  have d_A1 := d_A1.below hB1 d_A1.lt
  have d_B1 := d_B1.below hB1 d_B1.lt
  have hB := hB.trans (hB1.mono hB.size)
  clear hB1
  have c_A1 := d_A1.c0
  have e_A1 := d_A1.c1
  go_wp2_with fail
  clear c_A1 e_A1
  refine (KR.out _).mono ?_
  rintro e wu ⟨rfl, hB1⟩
  have d_A1 := d_A1.below hB1 d_A1.lt
  have d_B1 := d_B1.below hB1 d_B1.lt
  have hB := hB.trans (hB1.mono hB.size)
  clear hB1
  have d_u : World.dec (wu.alloc (.cells #[.int .i64 u1, .int .i64 u2] 23)) (wu.heap.size) u1 u2 := World.dec_new _ _ _ _ rfl
  have l_A1 := d_A1.lt
  have d_A1 := d_A1.alloc (.cells #[.int .i64 u1, .int .i64 u2] 23)
  have l_B1 := d_B1.lt
  have d_B1 := d_B1.alloc (.cells #[.int .i64 u1, .int .i64 u2] 23)
  have hB := hB.alloc hB.size (.cells #[.int .i64 u1, .int .i64 u2] 23)
  have c_A1 := d_A1.c0
  have e_A1 := d_A1.c1
  go_wp2_with fail
  clear c_A1 e_A1
  clear l_A1 l_B1
  refine (RR.out _).mono ?_
  rintro e w1 ⟨rfl, hB1⟩
  have d_A1 := d_A1.below hB1 d_A1.lt
  have d_B1 := d_B1.below hB1 d_B1.lt
  have d_u := d_u.below hB1 d_u.lt
  have hB := hB.trans (hB1.mono hB.size)
  clear hB1
  have d_v : World.dec (w1.alloc (.cells #[.int .i64 u1, .int .i64 u2] 23)) (w1.heap.size) u1 u2 := World.dec_new _ _ _ _ rfl
  have l_A1 := d_A1.lt
  have d_A1 := d_A1.alloc (.cells #[.int .i64 u1, .int .i64 u2] 23)
  have l_B1 := d_B1.lt
  have d_B1 := d_B1.alloc (.cells #[.int .i64 u1, .int .i64 u2] 23)
  have l_u := d_u.lt
  have d_u := d_u.alloc (.cells #[.int .i64 u1, .int .i64 u2] 23)
  have hB := hB.alloc hB.size (.cells #[.int .i64 u1, .int .i64 u2] 23)
  go_wp2_with fail
  clear l_A1 l_B1 l_u
  obtain ⟨W9, hW⟩ : ∃ W, W = (w1.alloc (.cells #[.int .i64 u1, .int .i64 u2] 23)) := ⟨_, rfl⟩
  rw [← hW] at d_u d_v d_A1 d_B1 hB ⊢
  obtain ⟨gu, hgu⟩ : ∃ g, g = wu.heap.size := ⟨_, rfl⟩
  obtain ⟨gv, hgv⟩ : ∃ g, g = w1.heap.size := ⟨_, rfl⟩
  rw [← hgu] at d_u ⊢
  rw [← hgv] at d_v ⊢
  clear hW hgu hgv
  have d_A1 := d_A1.drew
  have d_B1 := d_B1.drew
  have d_u := d_u.drew
  have d_v := d_v.drew
  have hB := hB.drew
  have a0 := d_A1.c0
  have a1 := d_A1.c1
  have b0 := d_B1.c0
  have b1 := d_B1.c1
  have u0 := d_u.c0
  have u9 := d_u.c1
  have v0 := d_v.c0
  have v9 := d_v.c1
  go_region_held3 (fun w' => w'.cell? ⟨w.heap.size, 0, none⟩ = some (.int .i64 A1) ∧ w'.cell? ⟨w.heap.size, 1, none⟩ = some (.int .i64 A2) ∧ w'.cell? ⟨w.heap.size + 1, 0, none⟩ = some (.int .i64 B1) ∧ w'.cell? ⟨w.heap.size + 1, 1, none⟩ = some (.int .i64 B2) ∧ w'.cell? ⟨gu, 0, none⟩ = some (.int .i64 u1) ∧ w'.cell? ⟨gu, 1, none⟩ = some (.int .i64 u2) ∧ w'.cell? ⟨gv, 0, none⟩ = some (.int .i64 u1) ∧ w'.cell? ⟨gv, 1, none⟩ = some (.int .i64 u2))
    (first | exact ⟨a0, a1, b0, b1, u0, u9, v0, v9⟩)
    (first
      | (go_at_call 30; refine (KG.out _).mono ?_; rintro e w2 ⟨rfl, hB1⟩; have d_A1 := d_A1.below hB1 d_A1.lt; have d_B1 := d_B1.below hB1 d_B1.lt; have d_u := d_u.below hB1 d_u.lt; have d_v := d_v.below hB1 d_v.lt; have hB := hB.trans (hB1.mono hB.size); have a0 := d_A1.c0; have a1 := d_A1.c1; have b0 := d_B1.c0; have b1 := d_B1.c1; have u0 := d_u.c0; have u9 := d_u.c1; have v0 := d_v.c0; have v9 := d_v.c1)
      | (go_at_call 53; refine (RG.out _).mono ?_; rintro e w2 ⟨rfl, hB1⟩; have d_A1 := d_A1.below hB1 d_A1.lt; have d_B1 := d_B1.below hB1 d_B1.lt; have d_u := d_u.below hB1 d_u.lt; have d_v := d_v.below hB1 d_v.lt; have hB := hB.trans (hB1.mono hB.size); have a0 := d_A1.c0; have a1 := d_A1.c1; have b0 := d_B1.c0; have b1 := d_B1.c1; have u0 := d_u.c0; have u9 := d_u.c1; have v0 := d_v.c0; have v9 := d_v.c1)
      | (go_at_call 27; refine (KC.out _).mono ?_; rintro e w2 ⟨rfl, hB1⟩; have d_A1 := d_A1.below hB1 d_A1.lt; have d_B1 := d_B1.below hB1 d_B1.lt; have d_u := d_u.below hB1 d_u.lt; have d_v := d_v.below hB1 d_v.lt; have hB := hB.trans (hB1.mono hB.size); have a0 := d_A1.c0; have a1 := d_A1.c1; have b0 := d_B1.c0; have b1 := d_B1.c1; have u0 := d_u.c0; have u9 := d_u.c1; have v0 := d_v.c0; have v9 := d_v.c1)
      | (go_at_call 54; refine (RC.out _).mono ?_; rintro e w2 ⟨rfl, hB1⟩; have d_A1 := d_A1.below hB1 d_A1.lt; have d_B1 := d_B1.below hB1 d_B1.lt; have d_u := d_u.below hB1 d_u.lt; have d_v := d_v.below hB1 d_v.lt; have hB := hB.trans (hB1.mono hB.size); have a0 := d_A1.c0; have a1 := d_A1.c1; have b0 := d_B1.c0; have b1 := d_B1.c1; have u0 := d_u.c0; have u9 := d_u.c1; have v0 := d_v.c0; have v9 := d_v.c1)
      | fail)
  all_goals
    go_wp2_with fail
    go_ret
    exact ⟨rfl, hB⟩
end Go.Proofs.YtpkohfdebgiloaaDoor
/- The walk of DecTells: true. -/
namespace Go.Proofs.YtpkohfdebgiloaaDoor
open Go.RowKit Go.Shelf

set_option maxRecDepth 100000 in
set_option maxHeartbeats 8000000 in
theorem tells_walk (A1 A2 B1 B2 n : Int) (s : ByteArray) (w : World) (hm : Shp w) (hA10 : -9223372036854775808 ≤ A1) (hA11 : A1 ≤ 9223372036854775807) (hA20 : -9223372036854775808 ≤ A2) (hA21 : A2 ≤ 9223372036854775807) (hB10 : -9223372036854775808 ≤ B1) (hB11 : B1 ≤ 9223372036854775807) (hB20 : -9223372036854775808 ≤ B2) (hB21 : B2 ≤ 9223372036854775807) (hn0 : -9223372036854775808 ≤ n) (hn1 : n ≤ 9223372036854775807) (hsz : s.size ≤ 9223372036854775807) :
    Calls Tryd.prog 3 #[.agg #[.int .i64 A1, .int .i64 A2], .agg #[.int .i64 B1, .int .i64 B2], .int .i64 n, .string s] w fun e w' => e = .returned (.bool true) ∧ Below w.heap.size w w' := by
  have hF : (s.extract 0 (min (s.size : Int) 90).toNat).size ≤ 90 := by rw [ByteArray.size_extract]; omega
  have C1 := fun w hm => read_any (s.extract 0 (min (s.size : Int) 90).toNat) w (by omega) hm
  have C2 := fun w => rread_any (s.extract 0 (min (s.size : Int) 90).toNat) w (by omega)
  obtain ⟨⟨⟨r1, r2⟩, r3⟩, hT⟩ : ∃ T, readD (s.extract 0 (min (s.size : Int) 90).toNat).data.toList = T := ⟨_, rfl⟩
  rw [hT] at C1 C2
  have KR := Lib.hid C1
  have RR := Lib.hid C2
  clear C1 C2 hT hF
  have C1 := fun w => of_n n w hn0 hn1
  have C2 := fun w => rof_any n w hn0 hn1
  obtain ⟨⟨⟨o1, o2⟩, o3⟩, hT⟩ : ∃ T, ofD n = T := ⟨_, rfl⟩
  rw [hT] at C1 C2
  have KO := Lib.hid C1
  have RO := Lib.hid C2
  clear C1 C2 hT
  have hx := madeP_right A1 A2
  have hy := madeP_right B1 B2
  have C1 : ∀ m e, (m = A1 ∧ e = A2) → ∀ w, Calls Tryd.prog 18 #[.agg #[.int .i64 m, .int .i64 e]] w fun e w' => e = .returned (decV (madeP A1 A2)) ∧ Below w.heap.size w w' := by rintro _ _ ⟨rfl, rfl⟩ w; exact made_any _ _ w hA10 hA11 hA20 hA21
  have C2 : ∀ m e, (m = B1 ∧ e = B2) → ∀ w, Calls Tryd.prog 18 #[.agg #[.int .i64 m, .int .i64 e]] w fun e w' => e = .returned (decV (madeP B1 B2)) ∧ Below w.heap.size w w' := by rintro _ _ ⟨rfl, rfl⟩ w; exact made_any _ _ w hB10 hB11 hB20 hB21
  obtain ⟨⟨x, y⟩, hP⟩ : ∃ p, madeP A1 A2 = p := ⟨_, rfl⟩
  obtain ⟨⟨x', y'⟩, hP'⟩ : ∃ p, madeP B1 B2 = p := ⟨_, rfl⟩
  rw [hP] at C1 hx
  rw [hP'] at C2 hy
  obtain ⟨x0, x1, y0, y1, _⟩ := hx
  obtain ⟨x0', x1', y0', y1', _⟩ := hy
  simp only at x0 x1 y0 y1 x0' x1' y0' y1'
  have KA := Lib.hid C1
  have KB := Lib.hid C2
  clear C1 C2 hP hP'
  have C1 := fun w => pick_any n 21 w hn0 hn1 (by decide) (by decide)
  have hc := pickI_bd n (n := 21) (by decide)
  obtain ⟨c, hcc⟩ : ∃ c, pickI n 21 = c := ⟨_, rfl⟩
  rw [hcc] at C1 hc
  obtain ⟨c0, c1⟩ := hc
  have hw10 : IntKind.i64.wrap (c - 10) = c - 10 := IntWalk.i64_in _ (by omega)
  have KP := Lib.hid C1
  clear C1 hcc
  have KT : Hid (∀ a b c d m w, (-9223372036854775808 ≤ a ∧ a ≤ 9223372036854775807 ∧ -9223372036854775808 ≤ b ∧ b ≤ 9223372036854775807 ∧ -9223372036854775808 ≤ c ∧ c ≤ 9223372036854775807 ∧ -9223372036854775808 ≤ d ∧ d ≤ 9223372036854775807 ∧ -9223372036854775808 ≤ m ∧ m ≤ 9223372036854775807) → Calls Tryd.prog 17 #[.agg #[.int .i64 a, .int .i64 b], .agg #[.int .i64 c, .int .i64 d], .int .i64 m] w fun e w' => e = .returned (.bool true) ∧ Below w.heap.size w w') := fun a b c d m w h => told_any a b c d m w h.1 h.2.1 h.2.2.1 h.2.2.2.1 h.2.2.2.2.1 h.2.2.2.2.2.1 h.2.2.2.2.2.2.1 h.2.2.2.2.2.2.2.1 h.2.2.2.2.2.2.2.2.1 h.2.2.2.2.2.2.2.2.2
  go_enter Tryd.func3, Tryd.ntmps3
  go_wp2_with fail
  obtain ⟨W, hW⟩ : ∃ W, W = (w.alloc (.cells #[.int .i64 A1, .int .i64 A2] 23)).alloc (.cells #[.int .i64 B1, .int .i64 B2] 23) := ⟨_, rfl⟩
  rw [← hW]
  have d_A1 : World.dec W (w.heap.size) A1 A2 := by rw [hW]; exact (World.dec_new w A1 A2 _ rfl).alloc _
  have d_B1 : World.dec W (w.heap.size + 1) B1 B2 := by rw [hW]; exact World.dec_new _ B1 B2 _ (by simp)
  have hB : Below w.heap.size w W := by rw [hW]; exact (((Below.refl _ w).alloc (Nat.le_refl _) _).alloc (by simp) _)
  clear hW
  refine (examples_any _ (hm.below hB)).mono ?_
  rintro e w1 ⟨rfl, hB1⟩
  have d_A1 := d_A1.below hB1 d_A1.lt
  have d_B1 := d_B1.below hB1 d_B1.lt
  have hB := hB.trans (hB1.mono hB.size)
  clear hB1
  go_wp2_with fail
  refine (KR.out _ (hm.below hB)).mono ?_
  rintro e wa ⟨rfl, hB1⟩
  have d_A1 := d_A1.below hB1 d_A1.lt
  have d_B1 := d_B1.below hB1 d_B1.lt
  have hB := hB.trans (hB1.mono hB.size)
  clear hB1
  have d_r : World.dec (wa.alloc (.cells #[.int .i64 r1, .int .i64 r2] 23)) (wa.heap.size) r1 r2 := World.dec_new _ _ _ _ rfl
  have l_A1 := d_A1.lt
  have d_A1 := d_A1.alloc (.cells #[.int .i64 r1, .int .i64 r2] 23)
  have l_B1 := d_B1.lt
  have d_B1 := d_B1.alloc (.cells #[.int .i64 r1, .int .i64 r2] 23)
  have hB := hB.alloc hB.size (.cells #[.int .i64 r1, .int .i64 r2] 23)
  go_wp2_with fail
  clear l_A1 l_B1
  refine (RR.out _).mono ?_
  rintro e wb ⟨rfl, hB1⟩
  have d_A1 := d_A1.below hB1 d_A1.lt
  have d_B1 := d_B1.below hB1 d_B1.lt
  have d_r := d_r.below hB1 d_r.lt
  have hB := hB.trans (hB1.mono hB.size)
  clear hB1
  have d_q : World.dec (wb.alloc (.cells #[.int .i64 r1, .int .i64 r2] 23)) (wb.heap.size) r1 r2 := World.dec_new _ _ _ _ rfl
  have l_A1 := d_A1.lt
  have d_A1 := d_A1.alloc (.cells #[.int .i64 r1, .int .i64 r2] 23)
  have l_B1 := d_B1.lt
  have d_B1 := d_B1.alloc (.cells #[.int .i64 r1, .int .i64 r2] 23)
  have l_r := d_r.lt
  have d_r := d_r.alloc (.cells #[.int .i64 r1, .int .i64 r2] 23)
  have hB := hB.alloc hB.size (.cells #[.int .i64 r1, .int .i64 r2] 23)
  go_wp2_with fail
  clear l_A1 l_B1 l_r
  refine (KO.out _).mono ?_
  rintro e wc ⟨rfl, hB1⟩
  have d_A1 := d_A1.below hB1 d_A1.lt
  have d_B1 := d_B1.below hB1 d_B1.lt
  have d_r := d_r.below hB1 d_r.lt
  have d_q := d_q.below hB1 d_q.lt
  have hB := hB.trans (hB1.mono hB.size)
  clear hB1
  have d_o : World.dec (wc.alloc (.cells #[.int .i64 o1, .int .i64 o2] 23)) (wc.heap.size) o1 o2 := World.dec_new _ _ _ _ rfl
  have l_A1 := d_A1.lt
  have d_A1 := d_A1.alloc (.cells #[.int .i64 o1, .int .i64 o2] 23)
  have l_B1 := d_B1.lt
  have d_B1 := d_B1.alloc (.cells #[.int .i64 o1, .int .i64 o2] 23)
  have l_r := d_r.lt
  have d_r := d_r.alloc (.cells #[.int .i64 o1, .int .i64 o2] 23)
  have l_q := d_q.lt
  have d_q := d_q.alloc (.cells #[.int .i64 o1, .int .i64 o2] 23)
  have hB := hB.alloc hB.size (.cells #[.int .i64 o1, .int .i64 o2] 23)
  go_wp2_with fail
  clear l_A1 l_B1 l_r l_q
  refine (RO.out _).mono ?_
  rintro e w1 ⟨rfl, hB1⟩
  have d_A1 := d_A1.below hB1 d_A1.lt
  have d_B1 := d_B1.below hB1 d_B1.lt
  have d_r := d_r.below hB1 d_r.lt
  have d_q := d_q.below hB1 d_q.lt
  have d_o := d_o.below hB1 d_o.lt
  have hB := hB.trans (hB1.mono hB.size)
  clear hB1
  have d_p : World.dec (w1.alloc (.cells #[.int .i64 o1, .int .i64 o2] 23)) (w1.heap.size) o1 o2 := World.dec_new _ _ _ _ rfl
  have l_A1 := d_A1.lt
  have d_A1 := d_A1.alloc (.cells #[.int .i64 o1, .int .i64 o2] 23)
  have l_B1 := d_B1.lt
  have d_B1 := d_B1.alloc (.cells #[.int .i64 o1, .int .i64 o2] 23)
  have l_r := d_r.lt
  have d_r := d_r.alloc (.cells #[.int .i64 o1, .int .i64 o2] 23)
  have l_q := d_q.lt
  have d_q := d_q.alloc (.cells #[.int .i64 o1, .int .i64 o2] 23)
  have l_o := d_o.lt
  have d_o := d_o.alloc (.cells #[.int .i64 o1, .int .i64 o2] 23)
  have hB := hB.alloc hB.size (.cells #[.int .i64 o1, .int .i64 o2] 23)
  go_wp2_with fail
  clear l_A1 l_B1 l_r l_q l_o
  obtain ⟨W9, hW⟩ : ∃ W, W = (w1.alloc (.cells #[.int .i64 o1, .int .i64 o2] 23)) := ⟨_, rfl⟩
  rw [← hW] at d_A1 d_B1 d_r d_q d_o d_p hB ⊢
  obtain ⟨gr, hgr⟩ : ∃ g, g = wa.heap.size := ⟨_, rfl⟩
  rw [← hgr] at d_r ⊢
  obtain ⟨gq, hgq⟩ : ∃ g, g = wb.heap.size := ⟨_, rfl⟩
  rw [← hgq] at d_q ⊢
  obtain ⟨go, hgo⟩ : ∃ g, g = wc.heap.size := ⟨_, rfl⟩
  rw [← hgo] at d_o ⊢
  obtain ⟨gp, hgp⟩ : ∃ g, g = w1.heap.size := ⟨_, rfl⟩
  rw [← hgp] at d_p ⊢
  clear hW hgr hgq hgo hgp
  have d_A1 := d_A1.drew
  have d_B1 := d_B1.drew
  have d_r := d_r.drew
  have d_q := d_q.drew
  have d_o := d_o.drew
  have d_p := d_p.drew
  have hB := hB.drew
  have cA10 := d_A1.c0
  have cA11 := d_A1.c1
  have cB10 := d_B1.c0
  have cB11 := d_B1.c1
  have cr0 := d_r.c0
  have cr1 := d_r.c1
  have cq0 := d_q.c0
  have cq1 := d_q.c1
  have co0 := d_o.c0
  have co1 := d_o.c1
  have cp0 := d_p.c0
  have cp1 := d_p.c1
  go_region_held3 (fun w' => w'.cell? ⟨w.heap.size, 0, none⟩ = some (.int .i64 A1) ∧ w'.cell? ⟨w.heap.size, 1, none⟩ = some (.int .i64 A2) ∧ w'.cell? ⟨w.heap.size + 1, 0, none⟩ = some (.int .i64 B1) ∧ w'.cell? ⟨w.heap.size + 1, 1, none⟩ = some (.int .i64 B2) ∧ w'.cell? ⟨gr, 0, none⟩ = some (.int .i64 r1) ∧ w'.cell? ⟨gr, 1, none⟩ = some (.int .i64 r2) ∧ w'.cell? ⟨gq, 0, none⟩ = some (.int .i64 r1) ∧ w'.cell? ⟨gq, 1, none⟩ = some (.int .i64 r2) ∧ w'.cell? ⟨go, 0, none⟩ = some (.int .i64 o1) ∧ w'.cell? ⟨go, 1, none⟩ = some (.int .i64 o2) ∧ w'.cell? ⟨gp, 0, none⟩ = some (.int .i64 o1) ∧ w'.cell? ⟨gp, 1, none⟩ = some (.int .i64 o2))
    (first | exact ⟨cA10, cA11, cB10, cB11, cr0, cr1, cq0, cq1, co0, co1, cp0, cp1⟩)
    (first
      | (go_at_call 17; refine (KT.out _ _ _ _ _ _ ?_).mono ?_; (refine ⟨?_, ?_, ?_, ?_, ?_, ?_, ?_, ?_, ?_, ?_⟩ <;> (try simp only) <;> omega); rintro e w2 ⟨rfl, hB1⟩; have d_A1 := d_A1.below hB1 d_A1.lt; have d_B1 := d_B1.below hB1 d_B1.lt; have d_r := d_r.below hB1 d_r.lt; have d_q := d_q.below hB1 d_q.lt; have d_o := d_o.below hB1 d_o.lt; have d_p := d_p.below hB1 d_p.lt; have hB := hB.trans (hB1.mono hB.size); have cA10 := d_A1.c0; have cA11 := d_A1.c1; have cB10 := d_B1.c0; have cB11 := d_B1.c1; have cr0 := d_r.c0; have cr1 := d_r.c1; have cq0 := d_q.c0; have cq1 := d_q.c1; have co0 := d_o.c0; have co1 := d_o.c1; have cp0 := d_p.c0; have cp1 := d_p.c1)
      | (go_at_call 18; refine (KA.out _ _ ?_ _).mono ?_; exact ⟨rfl, rfl⟩; rintro e w2 ⟨rfl, hB1⟩; have d_A1 := d_A1.below hB1 d_A1.lt; have d_B1 := d_B1.below hB1 d_B1.lt; have d_r := d_r.below hB1 d_r.lt; have d_q := d_q.below hB1 d_q.lt; have d_o := d_o.below hB1 d_o.lt; have d_p := d_p.below hB1 d_p.lt; have hB := hB.trans (hB1.mono hB.size); have cA10 := d_A1.c0; have cA11 := d_A1.c1; have cB10 := d_B1.c0; have cB11 := d_B1.c1; have cr0 := d_r.c0; have cr1 := d_r.c1; have cq0 := d_q.c0; have cq1 := d_q.c1; have co0 := d_o.c0; have co1 := d_o.c1; have cp0 := d_p.c0; have cp1 := d_p.c1)
      | (go_at_call 18; refine (KB.out _ _ ?_ _).mono ?_; exact ⟨rfl, rfl⟩; rintro e w2 ⟨rfl, hB1⟩; have d_A1 := d_A1.below hB1 d_A1.lt; have d_B1 := d_B1.below hB1 d_B1.lt; have d_r := d_r.below hB1 d_r.lt; have d_q := d_q.below hB1 d_q.lt; have d_o := d_o.below hB1 d_o.lt; have d_p := d_p.below hB1 d_p.lt; have hB := hB.trans (hB1.mono hB.size); have cA10 := d_A1.c0; have cA11 := d_A1.c1; have cB10 := d_B1.c0; have cB11 := d_B1.c1; have cr0 := d_r.c0; have cr1 := d_r.c1; have cq0 := d_q.c0; have cq1 := d_q.c1; have co0 := d_o.c0; have co1 := d_o.c1; have cp0 := d_p.c0; have cp1 := d_p.c1)
      | (go_at_call 19; refine (KP.out _).mono ?_; rintro e w2 ⟨rfl, hw2⟩; subst hw2)
      | fail)
  all_goals
    go_wp2_with fail
    go_ret
    exact ⟨rfl, hB⟩
end Go.Proofs.YtpkohfdebgiloaaDoor
