/- The walk of DecText: true. -/
import Derived.Test.YtpkohfdebgiloaaDoorShown
namespace Go.Proofs.YtpkohfdebgiloaaDoor
open Go.RowKit Go.Shelf

set_option maxRecDepth 100000 in
set_option maxHeartbeats 8000000 in
theorem texts_sn (A1 A2 B1 B2 : Int) (s : ByteArray) (w : World) (hm : Shp w) (hA10 : -9223372036854775808 ≤ A1) (hA11 : A1 ≤ 9223372036854775807) (hA20 : -9223372036854775808 ≤ A2) (hA21 : A2 ≤ 9223372036854775807) (hB10 : -9223372036854775808 ≤ B1) (hB11 : B1 ≤ 9223372036854775807) (hB20 : -9223372036854775808 ≤ B2) (hB21 : B2 ≤ 9223372036854775807) (x y z1 z2 i : Int) (T1 T0 S0 T3 : ByteArray) (hsz : s.size ≤ 9223372036854775807) (ht1 : T1.size ≤ 100) (ht2 : (⟨#[48]⟩ : ByteArray).size + T1.size ≤ 9223372036854775807)(hx : RightP (x, y)) (hz : RightP (z1, z2)) (hA : madeP A1 A2 = (x, y)) (hB' : madeP B1 B2 = (x, y)) (k1 : ∀ w : World, Calls Tryd.prog 29 #[.agg #[.int .i64 x, .int .i64 y]] w (fun e w' => e = .returned (.tuple #[.string T1, .int .i64 0]) ∧ Below w.heap.size w w')) (k2 : ∀ w : World, Calls Tryd.prog 29 #[.agg #[.int .i64 x, .int .i64 y]] w (fun e w' => e = .returned (.tuple #[.string T1, .int .i64 0]) ∧ Below w.heap.size w w')) (k3 : ∀ w : World, Shp w → Calls Tryd.prog 13 #[.string T1] w (DecPost ((x, y), 0) w)) (h0 : (⟨#[48]⟩ ++ T1 : ByteArray) = T0) (k4 : ∀ w : World, Shp w → Calls Tryd.prog 13 #[.string T0] w (DecPost ((0, 0), 12) w)) (hs : s.extract 0 (min (s.size : Int) 90).toNat = S0) (k5 : ∀ w : World, Shp w → Calls Tryd.prog 13 #[.string S0] w (DecPost ((z1, z2), i) w)) (k6 : ∀ w : World, Calls Tryd.prog 29 #[.agg #[.int .i64 z1, .int .i64 z2]] w (fun e w' => e = .returned (.tuple #[.string T3, .int .i64 0]) ∧ Below w.heap.size w w')) (k7 : ∀ w : World, Shp w → Calls Tryd.prog 13 #[.string T3] w (DecPost ((z1, z2), 0) w)) (hneg : x < 0) (hi : i = 0 ∨ i = 12 ∧ z1 = 0 ∧ z2 = 0 ∨ i = 10 ∧ z1 = 0 ∧ z2 = 0) :
    Calls Tryd.prog 11 #[.agg #[.int .i64 A1, .int .i64 A2], .agg #[.int .i64 B1, .int .i64 B2], .string s] w fun e w' => e = .returned (.bool true) ∧ Below w.heap.size w w' := by
  obtain ⟨x0, x1, y0, y1, _⟩ := hx
  obtain ⟨z10, z11, z20, z21, _⟩ := hz
  simp only at x0 x1 y0 y1 z10 z11 z20 z21
  have CA' := fun w => made_any A1 A2 w hA10 hA11 hA20 hA21
  rw [hA] at CA'
  have KA := Lib.hid CA'
  clear CA' hA
  have CB' := fun w => made_any B1 B2 w hB10 hB11 hB20 hB21
  rw [hB'] at CB'
  have KB := Lib.hid CB'
  clear CB' hB'
  have HI := Lib.hid hi
  clear hi
  have K1 := Lib.hid k1
  clear k1
  have K2 := Lib.hid k2
  clear k2
  have K3 := Lib.hid k3
  clear k3
  have K4 := Lib.hid k4
  clear k4
  have K5 := Lib.hid k5
  clear k5
  have K6 := Lib.hid k6
  clear k6
  have K7 := Lib.hid k7
  clear k7
  go_enter Tryd.func11, Tryd.ntmps11
  go_wp2_with fail
  obtain ⟨W, hW⟩ : ∃ W, W = (w.alloc (.cells #[.int .i64 A1, .int .i64 A2] 23)).alloc (.cells #[.int .i64 B1, .int .i64 B2] 23) := ⟨_, rfl⟩
  rw [← hW]
  have d_A1 : World.dec W (w.heap.size) A1 A2 := by rw [hW]; exact (World.dec_new w A1 A2 _ rfl).alloc _
  have d_B1 : World.dec W (w.heap.size + 1) B1 B2 := by rw [hW]; exact World.dec_new _ B1 B2 _ (by simp)
  have hB : Below w.heap.size w W := by rw [hW]; exact (((Below.refl _ w).alloc (Nat.le_refl _) _).alloc (by simp) _)
  clear hW
  refine (examples_any _ (hm.below hB)).mono ?_
  rintro e w1 ⟨rfl, hB1⟩
  have d_A1 := d_A1.below hB1 d_A1.lt
  have d_B1 := d_B1.below hB1 d_B1.lt
  have hB := hB.trans (hB1.mono hB.size)
  clear hB1
  have c_A1 := d_A1.c0
  have e_A1 := d_A1.c1
  go_wp2_with fail
  clear c_A1 e_A1
  refine (KA.out _).mono ?_
  rintro e w1 ⟨rfl, hB1⟩
  have d_A1 := d_A1.below hB1 d_A1.lt
  have d_B1 := d_B1.below hB1 d_B1.lt
  have hB := hB.trans (hB1.mono hB.size)
  clear hB1
  have d_x : World.dec (w1.alloc (.cells #[.int .i64 x, .int .i64 y] 23)) (w1.heap.size) x y := World.dec_new _ _ _ _ rfl
  have l_A1 := d_A1.lt
  have d_A1 := d_A1.alloc (.cells #[.int .i64 x, .int .i64 y] 23)
  have l_B1 := d_B1.lt
  have d_B1 := d_B1.alloc (.cells #[.int .i64 x, .int .i64 y] 23)
  have hB := hB.alloc hB.size (.cells #[.int .i64 x, .int .i64 y] 23)
  clear d_A1
  have c_B1 := d_B1.c0
  have e_B1 := d_B1.c1
  go_wp2_with fail
  clear c_B1 e_B1
  clear l_A1 l_B1
  refine (KB.out _).mono ?_
  rintro e w1 ⟨rfl, hB1⟩
  have d_B1 := d_B1.below hB1 d_B1.lt
  have d_x := d_x.below hB1 d_x.lt
  have hB := hB.trans (hB1.mono hB.size)
  clear hB1
  have d_v : World.dec (w1.alloc (.cells #[.int .i64 x, .int .i64 y] 23)) (w1.heap.size) x y := World.dec_new _ _ _ _ rfl
  have l_B1 := d_B1.lt
  have d_B1 := d_B1.alloc (.cells #[.int .i64 x, .int .i64 y] 23)
  have l_x := d_x.lt
  have d_x := d_x.alloc (.cells #[.int .i64 x, .int .i64 y] 23)
  have hB := hB.alloc hB.size (.cells #[.int .i64 x, .int .i64 y] 23)
  clear d_B1
  have c_x := d_x.c0
  have e_x := d_x.c1
  have c_v := d_v.c0
  have e_v := d_v.c1
  go_wp2_with fail
  clear c_x e_x c_v e_v
  clear l_B1 l_x
  refine (K1.out _).mono ?_
  rintro e w1 ⟨rfl, hB1⟩
  have d_x := d_x.below hB1 d_x.lt
  have d_v := d_v.below hB1 d_v.lt
  have hB := hB.trans (hB1.mono hB.size)
  clear hB1
  have c_x := d_x.c0
  have e_x := d_x.c1
  have c_v := d_v.c0
  have e_v := d_v.c1
  go_wp2_with fail
  clear c_x e_x c_v e_v
  refine (K2.out _).mono ?_
  rintro e w1 ⟨rfl, hB1⟩
  have d_x := d_x.below hB1 d_x.lt
  have d_v := d_v.below hB1 d_v.lt
  have hB := hB.trans (hB1.mono hB.size)
  clear hB1
  have c_x := d_x.c0
  have e_x := d_x.c1
  have c_v := d_v.c0
  have e_v := d_v.c1
  go_wp2_with fail
  clear c_x e_x c_v e_v
  refine (K3.out _ (hm.below hB)).mono ?_
  rintro e w1 ⟨rfl, hB1⟩
  have d_x := d_x.below hB1 d_x.lt
  have d_v := d_v.below hB1 d_v.lt
  have hB := hB.trans (hB1.mono hB.size)
  clear hB1
  have d_r : World.dec (w1.alloc (.cells #[.int .i64 x, .int .i64 y] 23)) (w1.heap.size) x y := World.dec_new _ _ _ _ rfl
  have l_x := d_x.lt
  have d_x := d_x.alloc (.cells #[.int .i64 x, .int .i64 y] 23)
  have l_v := d_v.lt
  have d_v := d_v.alloc (.cells #[.int .i64 x, .int .i64 y] 23)
  have hB := hB.alloc hB.size (.cells #[.int .i64 x, .int .i64 y] 23)
  go_wp2_with fail
  clear l_x l_v
  refine (K4.out _ (hm.below hB)).mono ?_
  rintro e w1 ⟨rfl, hB1⟩
  have d_x := d_x.below hB1 d_x.lt
  have d_v := d_v.below hB1 d_v.lt
  have d_r := d_r.below hB1 d_r.lt
  have hB := hB.trans (hB1.mono hB.size)
  clear hB1
  have d_m : World.dec (w1.alloc (.cells #[.int .i64 0, .int .i64 0] 23)) (w1.heap.size) 0 0 := World.dec_new _ _ _ _ rfl
  have l_x := d_x.lt
  have d_x := d_x.alloc (.cells #[.int .i64 0, .int .i64 0] 23)
  have l_v := d_v.lt
  have d_v := d_v.alloc (.cells #[.int .i64 0, .int .i64 0] 23)
  have l_r := d_r.lt
  have d_r := d_r.alloc (.cells #[.int .i64 0, .int .i64 0] 23)
  have hB := hB.alloc hB.size (.cells #[.int .i64 0, .int .i64 0] 23)
  go_wp2_with fail
  clear l_x l_v l_r
  refine (K5.out _ (hm.below hB)).mono ?_
  rintro e w1 ⟨rfl, hB1⟩
  have d_x := d_x.below hB1 d_x.lt
  have d_v := d_v.below hB1 d_v.lt
  have d_r := d_r.below hB1 d_r.lt
  have d_m := d_m.below hB1 d_m.lt
  have hB := hB.trans (hB1.mono hB.size)
  clear hB1
  have d_z : World.dec (w1.alloc (.cells #[.int .i64 z1, .int .i64 z2] 23)) (w1.heap.size) z1 z2 := World.dec_new _ _ _ _ rfl
  have l_x := d_x.lt
  have d_x := d_x.alloc (.cells #[.int .i64 z1, .int .i64 z2] 23)
  have l_v := d_v.lt
  have d_v := d_v.alloc (.cells #[.int .i64 z1, .int .i64 z2] 23)
  have l_r := d_r.lt
  have d_r := d_r.alloc (.cells #[.int .i64 z1, .int .i64 z2] 23)
  have l_m := d_m.lt
  have d_m := d_m.alloc (.cells #[.int .i64 z1, .int .i64 z2] 23)
  have hB := hB.alloc hB.size (.cells #[.int .i64 z1, .int .i64 z2] 23)
  have c_z := d_z.c0
  have e_z := d_z.c1
  go_wp2_with fail
  clear c_z e_z
  clear l_x l_v l_r l_m
  refine (K6.out _).mono ?_
  rintro e w1 ⟨rfl, hB1⟩
  have d_x := d_x.below hB1 d_x.lt
  have d_v := d_v.below hB1 d_v.lt
  have d_r := d_r.below hB1 d_r.lt
  have d_m := d_m.below hB1 d_m.lt
  have d_z := d_z.below hB1 d_z.lt
  have hB := hB.trans (hB1.mono hB.size)
  clear hB1
  have c_z := d_z.c0
  have e_z := d_z.c1
  go_wp2_with fail
  clear c_z e_z
  refine (K7.out _ (hm.below hB)).mono ?_
  rintro e w1 ⟨rfl, hB1⟩
  have d_x := d_x.below hB1 d_x.lt
  have d_v := d_v.below hB1 d_v.lt
  have d_r := d_r.below hB1 d_r.lt
  have d_m := d_m.below hB1 d_m.lt
  have d_z := d_z.below hB1 d_z.lt
  have hB := hB.trans (hB1.mono hB.size)
  clear hB1
  have d_w2 : World.dec (w1.alloc (.cells #[.int .i64 z1, .int .i64 z2] 23)) (w1.heap.size) z1 z2 := World.dec_new _ _ _ _ rfl
  have l_x := d_x.lt
  have d_x := d_x.alloc (.cells #[.int .i64 z1, .int .i64 z2] 23)
  have l_v := d_v.lt
  have d_v := d_v.alloc (.cells #[.int .i64 z1, .int .i64 z2] 23)
  have l_r := d_r.lt
  have d_r := d_r.alloc (.cells #[.int .i64 z1, .int .i64 z2] 23)
  have l_m := d_m.lt
  have d_m := d_m.alloc (.cells #[.int .i64 z1, .int .i64 z2] 23)
  have l_z := d_z.lt
  have d_z := d_z.alloc (.cells #[.int .i64 z1, .int .i64 z2] 23)
  have hB := hB.alloc hB.size (.cells #[.int .i64 z1, .int .i64 z2] 23)
  have hBf := hB
  rcases HI.out with rfl | ⟨rfl, rfl, rfl⟩ | ⟨rfl, rfl, rfl⟩
  · have c_x := d_x.c0
    have e_x := d_x.c1
    have c_v := d_v.c0
    have e_v := d_v.c1
    have c_r := d_r.c0
    have e_r := d_r.c1
    have c_m := d_m.c0
    have e_m := d_m.c1
    have c_z := d_z.c0
    have e_z := d_z.c1
    have c_w2 := d_w2.c0
    have e_w2 := d_w2.c1
    go_wp2_with fail
    clear c_x e_x c_v e_v c_r e_r c_m e_m c_z e_z c_w2 e_w2
    clear l_x l_v l_r l_m l_z
    go_ret
    exact ⟨rfl, hB⟩
  · have c_x := d_x.c0
    have e_x := d_x.c1
    have c_v := d_v.c0
    have e_v := d_v.c1
    have c_r := d_r.c0
    have e_r := d_r.c1
    have c_m := d_m.c0
    have e_m := d_m.c1
    have c_z := d_z.c0
    have e_z := d_z.c1
    have c_w2 := d_w2.c0
    have e_w2 := d_w2.c1
    go_wp2_with fail
    clear c_x e_x c_v e_v c_r e_r c_m e_m c_z e_z c_w2 e_w2
    clear l_x l_v l_r l_m l_z
    go_ret
    exact ⟨rfl, hB⟩
  · have c_x := d_x.c0
    have e_x := d_x.c1
    have c_v := d_v.c0
    have e_v := d_v.c1
    have c_r := d_r.c0
    have e_r := d_r.c1
    have c_m := d_m.c0
    have e_m := d_m.c1
    have c_z := d_z.c0
    have e_z := d_z.c1
    have c_w2 := d_w2.c0
    have e_w2 := d_w2.c1
    go_wp2_with fail
    clear c_x e_x c_v e_v c_r e_r c_m e_m c_z e_z c_w2 e_w2
    clear l_x l_v l_r l_m l_z
    go_ret
    exact ⟨rfl, hB⟩

set_option maxRecDepth 100000 in
set_option maxHeartbeats 8000000 in
theorem texts_sp (A1 A2 B1 B2 : Int) (s : ByteArray) (w : World) (hm : Shp w) (hA10 : -9223372036854775808 ≤ A1) (hA11 : A1 ≤ 9223372036854775807) (hA20 : -9223372036854775808 ≤ A2) (hA21 : A2 ≤ 9223372036854775807) (hB10 : -9223372036854775808 ≤ B1) (hB11 : B1 ≤ 9223372036854775807) (hB20 : -9223372036854775808 ≤ B2) (hB21 : B2 ≤ 9223372036854775807) (x y z1 z2 i : Int) (T1 T0 S0 T3 : ByteArray) (hsz : s.size ≤ 9223372036854775807) (ht1 : T1.size ≤ 100) (ht2 : (⟨#[48]⟩ : ByteArray).size + T1.size ≤ 9223372036854775807)(hx : RightP (x, y)) (hz : RightP (z1, z2)) (hA : madeP A1 A2 = (x, y)) (hB' : madeP B1 B2 = (x, y)) (k1 : ∀ w : World, Calls Tryd.prog 29 #[.agg #[.int .i64 x, .int .i64 y]] w (fun e w' => e = .returned (.tuple #[.string T1, .int .i64 0]) ∧ Below w.heap.size w w')) (k2 : ∀ w : World, Calls Tryd.prog 29 #[.agg #[.int .i64 x, .int .i64 y]] w (fun e w' => e = .returned (.tuple #[.string T1, .int .i64 0]) ∧ Below w.heap.size w w')) (k3 : ∀ w : World, Shp w → Calls Tryd.prog 13 #[.string T1] w (DecPost ((x, y), 0) w)) (h0 : (⟨#[48]⟩ ++ T1 : ByteArray) = T0) (k4 : ∀ w : World, Shp w → Calls Tryd.prog 13 #[.string T0] w (DecPost ((x, y), 0) w)) (hs : s.extract 0 (min (s.size : Int) 90).toNat = S0) (k5 : ∀ w : World, Shp w → Calls Tryd.prog 13 #[.string S0] w (DecPost ((z1, z2), i) w)) (k6 : ∀ w : World, Calls Tryd.prog 29 #[.agg #[.int .i64 z1, .int .i64 z2]] w (fun e w' => e = .returned (.tuple #[.string T3, .int .i64 0]) ∧ Below w.heap.size w w')) (k7 : ∀ w : World, Shp w → Calls Tryd.prog 13 #[.string T3] w (DecPost ((z1, z2), 0) w)) (hneg : 0 ≤ x) (hi : i = 0 ∨ i = 12 ∧ z1 = 0 ∧ z2 = 0 ∨ i = 10 ∧ z1 = 0 ∧ z2 = 0) :
    Calls Tryd.prog 11 #[.agg #[.int .i64 A1, .int .i64 A2], .agg #[.int .i64 B1, .int .i64 B2], .string s] w fun e w' => e = .returned (.bool true) ∧ Below w.heap.size w w' := by
  obtain ⟨x0, x1, y0, y1, _⟩ := hx
  obtain ⟨z10, z11, z20, z21, _⟩ := hz
  simp only at x0 x1 y0 y1 z10 z11 z20 z21
  have CA' := fun w => made_any A1 A2 w hA10 hA11 hA20 hA21
  rw [hA] at CA'
  have KA := Lib.hid CA'
  clear CA' hA
  have CB' := fun w => made_any B1 B2 w hB10 hB11 hB20 hB21
  rw [hB'] at CB'
  have KB := Lib.hid CB'
  clear CB' hB'
  have HI := Lib.hid hi
  clear hi
  have K1 := Lib.hid k1
  clear k1
  have K2 := Lib.hid k2
  clear k2
  have K3 := Lib.hid k3
  clear k3
  have K4 := Lib.hid k4
  clear k4
  have K5 := Lib.hid k5
  clear k5
  have K6 := Lib.hid k6
  clear k6
  have K7 := Lib.hid k7
  clear k7
  go_enter Tryd.func11, Tryd.ntmps11
  go_wp2_with fail
  obtain ⟨W, hW⟩ : ∃ W, W = (w.alloc (.cells #[.int .i64 A1, .int .i64 A2] 23)).alloc (.cells #[.int .i64 B1, .int .i64 B2] 23) := ⟨_, rfl⟩
  rw [← hW]
  have d_A1 : World.dec W (w.heap.size) A1 A2 := by rw [hW]; exact (World.dec_new w A1 A2 _ rfl).alloc _
  have d_B1 : World.dec W (w.heap.size + 1) B1 B2 := by rw [hW]; exact World.dec_new _ B1 B2 _ (by simp)
  have hB : Below w.heap.size w W := by rw [hW]; exact (((Below.refl _ w).alloc (Nat.le_refl _) _).alloc (by simp) _)
  clear hW
  refine (examples_any _ (hm.below hB)).mono ?_
  rintro e w1 ⟨rfl, hB1⟩
  have d_A1 := d_A1.below hB1 d_A1.lt
  have d_B1 := d_B1.below hB1 d_B1.lt
  have hB := hB.trans (hB1.mono hB.size)
  clear hB1
  have c_A1 := d_A1.c0
  have e_A1 := d_A1.c1
  go_wp2_with fail
  clear c_A1 e_A1
  refine (KA.out _).mono ?_
  rintro e w1 ⟨rfl, hB1⟩
  have d_A1 := d_A1.below hB1 d_A1.lt
  have d_B1 := d_B1.below hB1 d_B1.lt
  have hB := hB.trans (hB1.mono hB.size)
  clear hB1
  have d_x : World.dec (w1.alloc (.cells #[.int .i64 x, .int .i64 y] 23)) (w1.heap.size) x y := World.dec_new _ _ _ _ rfl
  have l_A1 := d_A1.lt
  have d_A1 := d_A1.alloc (.cells #[.int .i64 x, .int .i64 y] 23)
  have l_B1 := d_B1.lt
  have d_B1 := d_B1.alloc (.cells #[.int .i64 x, .int .i64 y] 23)
  have hB := hB.alloc hB.size (.cells #[.int .i64 x, .int .i64 y] 23)
  clear d_A1
  have c_B1 := d_B1.c0
  have e_B1 := d_B1.c1
  go_wp2_with fail
  clear c_B1 e_B1
  clear l_A1 l_B1
  refine (KB.out _).mono ?_
  rintro e w1 ⟨rfl, hB1⟩
  have d_B1 := d_B1.below hB1 d_B1.lt
  have d_x := d_x.below hB1 d_x.lt
  have hB := hB.trans (hB1.mono hB.size)
  clear hB1
  have d_v : World.dec (w1.alloc (.cells #[.int .i64 x, .int .i64 y] 23)) (w1.heap.size) x y := World.dec_new _ _ _ _ rfl
  have l_B1 := d_B1.lt
  have d_B1 := d_B1.alloc (.cells #[.int .i64 x, .int .i64 y] 23)
  have l_x := d_x.lt
  have d_x := d_x.alloc (.cells #[.int .i64 x, .int .i64 y] 23)
  have hB := hB.alloc hB.size (.cells #[.int .i64 x, .int .i64 y] 23)
  clear d_B1
  have c_x := d_x.c0
  have e_x := d_x.c1
  have c_v := d_v.c0
  have e_v := d_v.c1
  go_wp2_with fail
  clear c_x e_x c_v e_v
  clear l_B1 l_x
  refine (K1.out _).mono ?_
  rintro e w1 ⟨rfl, hB1⟩
  have d_x := d_x.below hB1 d_x.lt
  have d_v := d_v.below hB1 d_v.lt
  have hB := hB.trans (hB1.mono hB.size)
  clear hB1
  have c_x := d_x.c0
  have e_x := d_x.c1
  have c_v := d_v.c0
  have e_v := d_v.c1
  go_wp2_with fail
  clear c_x e_x c_v e_v
  refine (K2.out _).mono ?_
  rintro e w1 ⟨rfl, hB1⟩
  have d_x := d_x.below hB1 d_x.lt
  have d_v := d_v.below hB1 d_v.lt
  have hB := hB.trans (hB1.mono hB.size)
  clear hB1
  have c_x := d_x.c0
  have e_x := d_x.c1
  have c_v := d_v.c0
  have e_v := d_v.c1
  go_wp2_with fail
  clear c_x e_x c_v e_v
  refine (K3.out _ (hm.below hB)).mono ?_
  rintro e w1 ⟨rfl, hB1⟩
  have d_x := d_x.below hB1 d_x.lt
  have d_v := d_v.below hB1 d_v.lt
  have hB := hB.trans (hB1.mono hB.size)
  clear hB1
  have d_r : World.dec (w1.alloc (.cells #[.int .i64 x, .int .i64 y] 23)) (w1.heap.size) x y := World.dec_new _ _ _ _ rfl
  have l_x := d_x.lt
  have d_x := d_x.alloc (.cells #[.int .i64 x, .int .i64 y] 23)
  have l_v := d_v.lt
  have d_v := d_v.alloc (.cells #[.int .i64 x, .int .i64 y] 23)
  have hB := hB.alloc hB.size (.cells #[.int .i64 x, .int .i64 y] 23)
  go_wp2_with fail
  clear l_x l_v
  refine (K4.out _ (hm.below hB)).mono ?_
  rintro e w1 ⟨rfl, hB1⟩
  have d_x := d_x.below hB1 d_x.lt
  have d_v := d_v.below hB1 d_v.lt
  have d_r := d_r.below hB1 d_r.lt
  have hB := hB.trans (hB1.mono hB.size)
  clear hB1
  have d_m : World.dec (w1.alloc (.cells #[.int .i64 x, .int .i64 y] 23)) (w1.heap.size) x y := World.dec_new _ _ _ _ rfl
  have l_x := d_x.lt
  have d_x := d_x.alloc (.cells #[.int .i64 x, .int .i64 y] 23)
  have l_v := d_v.lt
  have d_v := d_v.alloc (.cells #[.int .i64 x, .int .i64 y] 23)
  have l_r := d_r.lt
  have d_r := d_r.alloc (.cells #[.int .i64 x, .int .i64 y] 23)
  have hB := hB.alloc hB.size (.cells #[.int .i64 x, .int .i64 y] 23)
  go_wp2_with fail
  clear l_x l_v l_r
  refine (K5.out _ (hm.below hB)).mono ?_
  rintro e w1 ⟨rfl, hB1⟩
  have d_x := d_x.below hB1 d_x.lt
  have d_v := d_v.below hB1 d_v.lt
  have d_r := d_r.below hB1 d_r.lt
  have d_m := d_m.below hB1 d_m.lt
  have hB := hB.trans (hB1.mono hB.size)
  clear hB1
  have d_z : World.dec (w1.alloc (.cells #[.int .i64 z1, .int .i64 z2] 23)) (w1.heap.size) z1 z2 := World.dec_new _ _ _ _ rfl
  have l_x := d_x.lt
  have d_x := d_x.alloc (.cells #[.int .i64 z1, .int .i64 z2] 23)
  have l_v := d_v.lt
  have d_v := d_v.alloc (.cells #[.int .i64 z1, .int .i64 z2] 23)
  have l_r := d_r.lt
  have d_r := d_r.alloc (.cells #[.int .i64 z1, .int .i64 z2] 23)
  have l_m := d_m.lt
  have d_m := d_m.alloc (.cells #[.int .i64 z1, .int .i64 z2] 23)
  have hB := hB.alloc hB.size (.cells #[.int .i64 z1, .int .i64 z2] 23)
  have c_z := d_z.c0
  have e_z := d_z.c1
  go_wp2_with fail
  clear c_z e_z
  clear l_x l_v l_r l_m
  refine (K6.out _).mono ?_
  rintro e w1 ⟨rfl, hB1⟩
  have d_x := d_x.below hB1 d_x.lt
  have d_v := d_v.below hB1 d_v.lt
  have d_r := d_r.below hB1 d_r.lt
  have d_m := d_m.below hB1 d_m.lt
  have d_z := d_z.below hB1 d_z.lt
  have hB := hB.trans (hB1.mono hB.size)
  clear hB1
  have c_z := d_z.c0
  have e_z := d_z.c1
  go_wp2_with fail
  clear c_z e_z
  refine (K7.out _ (hm.below hB)).mono ?_
  rintro e w1 ⟨rfl, hB1⟩
  have d_x := d_x.below hB1 d_x.lt
  have d_v := d_v.below hB1 d_v.lt
  have d_r := d_r.below hB1 d_r.lt
  have d_m := d_m.below hB1 d_m.lt
  have d_z := d_z.below hB1 d_z.lt
  have hB := hB.trans (hB1.mono hB.size)
  clear hB1
  have d_w2 : World.dec (w1.alloc (.cells #[.int .i64 z1, .int .i64 z2] 23)) (w1.heap.size) z1 z2 := World.dec_new _ _ _ _ rfl
  have l_x := d_x.lt
  have d_x := d_x.alloc (.cells #[.int .i64 z1, .int .i64 z2] 23)
  have l_v := d_v.lt
  have d_v := d_v.alloc (.cells #[.int .i64 z1, .int .i64 z2] 23)
  have l_r := d_r.lt
  have d_r := d_r.alloc (.cells #[.int .i64 z1, .int .i64 z2] 23)
  have l_m := d_m.lt
  have d_m := d_m.alloc (.cells #[.int .i64 z1, .int .i64 z2] 23)
  have l_z := d_z.lt
  have d_z := d_z.alloc (.cells #[.int .i64 z1, .int .i64 z2] 23)
  have hB := hB.alloc hB.size (.cells #[.int .i64 z1, .int .i64 z2] 23)
  have hBf := hB
  rcases HI.out with rfl | ⟨rfl, rfl, rfl⟩ | ⟨rfl, rfl, rfl⟩
  · have c_x := d_x.c0
    have e_x := d_x.c1
    have c_v := d_v.c0
    have e_v := d_v.c1
    have c_r := d_r.c0
    have e_r := d_r.c1
    have c_m := d_m.c0
    have e_m := d_m.c1
    have c_z := d_z.c0
    have e_z := d_z.c1
    have c_w2 := d_w2.c0
    have e_w2 := d_w2.c1
    go_wp2_with fail
    clear c_x e_x c_v e_v c_r e_r c_m e_m c_z e_z c_w2 e_w2
    clear l_x l_v l_r l_m l_z
    go_ret
    exact ⟨rfl, hB⟩
  · have c_x := d_x.c0
    have e_x := d_x.c1
    have c_v := d_v.c0
    have e_v := d_v.c1
    have c_r := d_r.c0
    have e_r := d_r.c1
    have c_m := d_m.c0
    have e_m := d_m.c1
    have c_z := d_z.c0
    have e_z := d_z.c1
    have c_w2 := d_w2.c0
    have e_w2 := d_w2.c1
    go_wp2_with fail
    clear c_x e_x c_v e_v c_r e_r c_m e_m c_z e_z c_w2 e_w2
    clear l_x l_v l_r l_m l_z
    go_ret
    exact ⟨rfl, hB⟩
  · have c_x := d_x.c0
    have e_x := d_x.c1
    have c_v := d_v.c0
    have e_v := d_v.c1
    have c_r := d_r.c0
    have e_r := d_r.c1
    have c_m := d_m.c0
    have e_m := d_m.c1
    have c_z := d_z.c0
    have e_z := d_z.c1
    have c_w2 := d_w2.c0
    have e_w2 := d_w2.c1
    go_wp2_with fail
    clear c_x e_x c_v e_v c_r e_r c_m e_m c_z e_z c_w2 e_w2
    clear l_x l_v l_r l_m l_z
    go_ret
    exact ⟨rfl, hB⟩

set_option maxRecDepth 100000 in
set_option maxHeartbeats 8000000 in
theorem texts_dn (A1 A2 B1 B2 : Int) (s : ByteArray) (w : World) (hm : Shp w) (hA10 : -9223372036854775808 ≤ A1) (hA11 : A1 ≤ 9223372036854775807) (hA20 : -9223372036854775808 ≤ A2) (hA21 : A2 ≤ 9223372036854775807) (hB10 : -9223372036854775808 ≤ B1) (hB11 : B1 ≤ 9223372036854775807) (hB20 : -9223372036854775808 ≤ B2) (hB21 : B2 ≤ 9223372036854775807) (x y x' y' z1 z2 i : Int) (T1 T0 S0 T3 T2 : ByteArray) (hsz : s.size ≤ 9223372036854775807) (ht1 : T1.size ≤ 100) (ht2 : (⟨#[48]⟩ : ByteArray).size + T1.size ≤ 9223372036854775807)(hx : RightP (x, y)) (hz : RightP (z1, z2)) (hA : madeP A1 A2 = (x, y)) (hB' : madeP B1 B2 = (x', y')) (h' : RightP (x', y')) (hT : (T1.toList == T2.toList) = false) (ne : (x == x') = false) (k1 : ∀ w : World, Calls Tryd.prog 29 #[.agg #[.int .i64 x, .int .i64 y]] w (fun e w' => e = .returned (.tuple #[.string T1, .int .i64 0]) ∧ Below w.heap.size w w')) (k2 : ∀ w : World, Calls Tryd.prog 29 #[.agg #[.int .i64 x', .int .i64 y']] w (fun e w' => e = .returned (.tuple #[.string T2, .int .i64 0]) ∧ Below w.heap.size w w')) (k3 : ∀ w : World, Shp w → Calls Tryd.prog 13 #[.string T1] w (DecPost ((x, y), 0) w)) (h0 : (⟨#[48]⟩ ++ T1 : ByteArray) = T0) (k4 : ∀ w : World, Shp w → Calls Tryd.prog 13 #[.string T0] w (DecPost ((0, 0), 12) w)) (hs : s.extract 0 (min (s.size : Int) 90).toNat = S0) (k5 : ∀ w : World, Shp w → Calls Tryd.prog 13 #[.string S0] w (DecPost ((z1, z2), i) w)) (k6 : ∀ w : World, Calls Tryd.prog 29 #[.agg #[.int .i64 z1, .int .i64 z2]] w (fun e w' => e = .returned (.tuple #[.string T3, .int .i64 0]) ∧ Below w.heap.size w w')) (k7 : ∀ w : World, Shp w → Calls Tryd.prog 13 #[.string T3] w (DecPost ((z1, z2), 0) w)) (hneg : x < 0) (hi : i = 0 ∨ i = 12 ∧ z1 = 0 ∧ z2 = 0 ∨ i = 10 ∧ z1 = 0 ∧ z2 = 0) :
    Calls Tryd.prog 11 #[.agg #[.int .i64 A1, .int .i64 A2], .agg #[.int .i64 B1, .int .i64 B2], .string s] w fun e w' => e = .returned (.bool true) ∧ Below w.heap.size w w' := by
  obtain ⟨x0, x1, y0, y1, _⟩ := hx
  obtain ⟨z10, z11, z20, z21, _⟩ := hz
  simp only at x0 x1 y0 y1 z10 z11 z20 z21
  obtain ⟨a0, a1, a2, a3, _⟩ := h'
  simp only at a0 a1 a2 a3
  have CA' := fun w => made_any A1 A2 w hA10 hA11 hA20 hA21
  rw [hA] at CA'
  have KA := Lib.hid CA'
  clear CA' hA
  have CB' := fun w => made_any B1 B2 w hB10 hB11 hB20 hB21
  rw [hB'] at CB'
  have KB := Lib.hid CB'
  clear CB' hB'
  have HI := Lib.hid hi
  clear hi
  have K1 := Lib.hid k1
  clear k1
  have K2 := Lib.hid k2
  clear k2
  have K3 := Lib.hid k3
  clear k3
  have K4 := Lib.hid k4
  clear k4
  have K5 := Lib.hid k5
  clear k5
  have K6 := Lib.hid k6
  clear k6
  have K7 := Lib.hid k7
  clear k7
  go_enter Tryd.func11, Tryd.ntmps11
  go_wp2_with fail
  obtain ⟨W, hW⟩ : ∃ W, W = (w.alloc (.cells #[.int .i64 A1, .int .i64 A2] 23)).alloc (.cells #[.int .i64 B1, .int .i64 B2] 23) := ⟨_, rfl⟩
  rw [← hW]
  have d_A1 : World.dec W (w.heap.size) A1 A2 := by rw [hW]; exact (World.dec_new w A1 A2 _ rfl).alloc _
  have d_B1 : World.dec W (w.heap.size + 1) B1 B2 := by rw [hW]; exact World.dec_new _ B1 B2 _ (by simp)
  have hB : Below w.heap.size w W := by rw [hW]; exact (((Below.refl _ w).alloc (Nat.le_refl _) _).alloc (by simp) _)
  clear hW
  refine (examples_any _ (hm.below hB)).mono ?_
  rintro e w1 ⟨rfl, hB1⟩
  have d_A1 := d_A1.below hB1 d_A1.lt
  have d_B1 := d_B1.below hB1 d_B1.lt
  have hB := hB.trans (hB1.mono hB.size)
  clear hB1
  have c_A1 := d_A1.c0
  have e_A1 := d_A1.c1
  go_wp2_with fail
  clear c_A1 e_A1
  refine (KA.out _).mono ?_
  rintro e w1 ⟨rfl, hB1⟩
  have d_A1 := d_A1.below hB1 d_A1.lt
  have d_B1 := d_B1.below hB1 d_B1.lt
  have hB := hB.trans (hB1.mono hB.size)
  clear hB1
  have d_x : World.dec (w1.alloc (.cells #[.int .i64 x, .int .i64 y] 23)) (w1.heap.size) x y := World.dec_new _ _ _ _ rfl
  have l_A1 := d_A1.lt
  have d_A1 := d_A1.alloc (.cells #[.int .i64 x, .int .i64 y] 23)
  have l_B1 := d_B1.lt
  have d_B1 := d_B1.alloc (.cells #[.int .i64 x, .int .i64 y] 23)
  have hB := hB.alloc hB.size (.cells #[.int .i64 x, .int .i64 y] 23)
  clear d_A1
  have c_B1 := d_B1.c0
  have e_B1 := d_B1.c1
  go_wp2_with fail
  clear c_B1 e_B1
  clear l_A1 l_B1
  refine (KB.out _).mono ?_
  rintro e w1 ⟨rfl, hB1⟩
  have d_B1 := d_B1.below hB1 d_B1.lt
  have d_x := d_x.below hB1 d_x.lt
  have hB := hB.trans (hB1.mono hB.size)
  clear hB1
  have d_v : World.dec (w1.alloc (.cells #[.int .i64 x', .int .i64 y'] 23)) (w1.heap.size) x' y' := World.dec_new _ _ _ _ rfl
  have l_B1 := d_B1.lt
  have d_B1 := d_B1.alloc (.cells #[.int .i64 x', .int .i64 y'] 23)
  have l_x := d_x.lt
  have d_x := d_x.alloc (.cells #[.int .i64 x', .int .i64 y'] 23)
  have hB := hB.alloc hB.size (.cells #[.int .i64 x', .int .i64 y'] 23)
  clear d_B1
  have c_x := d_x.c0
  have e_x := d_x.c1
  have c_v := d_v.c0
  have e_v := d_v.c1
  go_wp2_with fail
  clear c_x e_x c_v e_v
  clear l_B1 l_x
  refine (K1.out _).mono ?_
  rintro e w1 ⟨rfl, hB1⟩
  have d_x := d_x.below hB1 d_x.lt
  have d_v := d_v.below hB1 d_v.lt
  have hB := hB.trans (hB1.mono hB.size)
  clear hB1
  have c_x := d_x.c0
  have e_x := d_x.c1
  have c_v := d_v.c0
  have e_v := d_v.c1
  go_wp2_with fail
  clear c_x e_x c_v e_v
  refine (K2.out _).mono ?_
  rintro e w1 ⟨rfl, hB1⟩
  have d_x := d_x.below hB1 d_x.lt
  have d_v := d_v.below hB1 d_v.lt
  have hB := hB.trans (hB1.mono hB.size)
  clear hB1
  have c_x := d_x.c0
  have e_x := d_x.c1
  have c_v := d_v.c0
  have e_v := d_v.c1
  go_wp2_with fail
  clear c_x e_x c_v e_v
  refine (K3.out _ (hm.below hB)).mono ?_
  rintro e w1 ⟨rfl, hB1⟩
  have d_x := d_x.below hB1 d_x.lt
  have d_v := d_v.below hB1 d_v.lt
  have hB := hB.trans (hB1.mono hB.size)
  clear hB1
  have d_r : World.dec (w1.alloc (.cells #[.int .i64 x, .int .i64 y] 23)) (w1.heap.size) x y := World.dec_new _ _ _ _ rfl
  have l_x := d_x.lt
  have d_x := d_x.alloc (.cells #[.int .i64 x, .int .i64 y] 23)
  have l_v := d_v.lt
  have d_v := d_v.alloc (.cells #[.int .i64 x, .int .i64 y] 23)
  have hB := hB.alloc hB.size (.cells #[.int .i64 x, .int .i64 y] 23)
  go_wp2_with fail
  clear l_x l_v
  refine (K4.out _ (hm.below hB)).mono ?_
  rintro e w1 ⟨rfl, hB1⟩
  have d_x := d_x.below hB1 d_x.lt
  have d_v := d_v.below hB1 d_v.lt
  have d_r := d_r.below hB1 d_r.lt
  have hB := hB.trans (hB1.mono hB.size)
  clear hB1
  have d_m : World.dec (w1.alloc (.cells #[.int .i64 0, .int .i64 0] 23)) (w1.heap.size) 0 0 := World.dec_new _ _ _ _ rfl
  have l_x := d_x.lt
  have d_x := d_x.alloc (.cells #[.int .i64 0, .int .i64 0] 23)
  have l_v := d_v.lt
  have d_v := d_v.alloc (.cells #[.int .i64 0, .int .i64 0] 23)
  have l_r := d_r.lt
  have d_r := d_r.alloc (.cells #[.int .i64 0, .int .i64 0] 23)
  have hB := hB.alloc hB.size (.cells #[.int .i64 0, .int .i64 0] 23)
  go_wp2_with fail
  clear l_x l_v l_r
  refine (K5.out _ (hm.below hB)).mono ?_
  rintro e w1 ⟨rfl, hB1⟩
  have d_x := d_x.below hB1 d_x.lt
  have d_v := d_v.below hB1 d_v.lt
  have d_r := d_r.below hB1 d_r.lt
  have d_m := d_m.below hB1 d_m.lt
  have hB := hB.trans (hB1.mono hB.size)
  clear hB1
  have d_z : World.dec (w1.alloc (.cells #[.int .i64 z1, .int .i64 z2] 23)) (w1.heap.size) z1 z2 := World.dec_new _ _ _ _ rfl
  have l_x := d_x.lt
  have d_x := d_x.alloc (.cells #[.int .i64 z1, .int .i64 z2] 23)
  have l_v := d_v.lt
  have d_v := d_v.alloc (.cells #[.int .i64 z1, .int .i64 z2] 23)
  have l_r := d_r.lt
  have d_r := d_r.alloc (.cells #[.int .i64 z1, .int .i64 z2] 23)
  have l_m := d_m.lt
  have d_m := d_m.alloc (.cells #[.int .i64 z1, .int .i64 z2] 23)
  have hB := hB.alloc hB.size (.cells #[.int .i64 z1, .int .i64 z2] 23)
  have c_z := d_z.c0
  have e_z := d_z.c1
  go_wp2_with fail
  clear c_z e_z
  clear l_x l_v l_r l_m
  refine (K6.out _).mono ?_
  rintro e w1 ⟨rfl, hB1⟩
  have d_x := d_x.below hB1 d_x.lt
  have d_v := d_v.below hB1 d_v.lt
  have d_r := d_r.below hB1 d_r.lt
  have d_m := d_m.below hB1 d_m.lt
  have d_z := d_z.below hB1 d_z.lt
  have hB := hB.trans (hB1.mono hB.size)
  clear hB1
  have c_z := d_z.c0
  have e_z := d_z.c1
  go_wp2_with fail
  clear c_z e_z
  refine (K7.out _ (hm.below hB)).mono ?_
  rintro e w1 ⟨rfl, hB1⟩
  have d_x := d_x.below hB1 d_x.lt
  have d_v := d_v.below hB1 d_v.lt
  have d_r := d_r.below hB1 d_r.lt
  have d_m := d_m.below hB1 d_m.lt
  have d_z := d_z.below hB1 d_z.lt
  have hB := hB.trans (hB1.mono hB.size)
  clear hB1
  have d_w2 : World.dec (w1.alloc (.cells #[.int .i64 z1, .int .i64 z2] 23)) (w1.heap.size) z1 z2 := World.dec_new _ _ _ _ rfl
  have l_x := d_x.lt
  have d_x := d_x.alloc (.cells #[.int .i64 z1, .int .i64 z2] 23)
  have l_v := d_v.lt
  have d_v := d_v.alloc (.cells #[.int .i64 z1, .int .i64 z2] 23)
  have l_r := d_r.lt
  have d_r := d_r.alloc (.cells #[.int .i64 z1, .int .i64 z2] 23)
  have l_m := d_m.lt
  have d_m := d_m.alloc (.cells #[.int .i64 z1, .int .i64 z2] 23)
  have l_z := d_z.lt
  have d_z := d_z.alloc (.cells #[.int .i64 z1, .int .i64 z2] 23)
  have hB := hB.alloc hB.size (.cells #[.int .i64 z1, .int .i64 z2] 23)
  have hBf := hB
  rcases HI.out with rfl | ⟨rfl, rfl, rfl⟩ | ⟨rfl, rfl, rfl⟩
  · have c_x := d_x.c0
    have e_x := d_x.c1
    have c_v := d_v.c0
    have e_v := d_v.c1
    have c_r := d_r.c0
    have e_r := d_r.c1
    have c_m := d_m.c0
    have e_m := d_m.c1
    have c_z := d_z.c0
    have e_z := d_z.c1
    have c_w2 := d_w2.c0
    have e_w2 := d_w2.c1
    go_wp2_with fail
    clear c_x e_x c_v e_v c_r e_r c_m e_m c_z e_z c_w2 e_w2
    clear l_x l_v l_r l_m l_z
    go_ret
    exact ⟨rfl, hB⟩
  · have c_x := d_x.c0
    have e_x := d_x.c1
    have c_v := d_v.c0
    have e_v := d_v.c1
    have c_r := d_r.c0
    have e_r := d_r.c1
    have c_m := d_m.c0
    have e_m := d_m.c1
    have c_z := d_z.c0
    have e_z := d_z.c1
    have c_w2 := d_w2.c0
    have e_w2 := d_w2.c1
    go_wp2_with fail
    clear c_x e_x c_v e_v c_r e_r c_m e_m c_z e_z c_w2 e_w2
    clear l_x l_v l_r l_m l_z
    go_ret
    exact ⟨rfl, hB⟩
  · have c_x := d_x.c0
    have e_x := d_x.c1
    have c_v := d_v.c0
    have e_v := d_v.c1
    have c_r := d_r.c0
    have e_r := d_r.c1
    have c_m := d_m.c0
    have e_m := d_m.c1
    have c_z := d_z.c0
    have e_z := d_z.c1
    have c_w2 := d_w2.c0
    have e_w2 := d_w2.c1
    go_wp2_with fail
    clear c_x e_x c_v e_v c_r e_r c_m e_m c_z e_z c_w2 e_w2
    clear l_x l_v l_r l_m l_z
    go_ret
    exact ⟨rfl, hB⟩

set_option maxRecDepth 100000 in
set_option maxHeartbeats 8000000 in
theorem texts_dp (A1 A2 B1 B2 : Int) (s : ByteArray) (w : World) (hm : Shp w) (hA10 : -9223372036854775808 ≤ A1) (hA11 : A1 ≤ 9223372036854775807) (hA20 : -9223372036854775808 ≤ A2) (hA21 : A2 ≤ 9223372036854775807) (hB10 : -9223372036854775808 ≤ B1) (hB11 : B1 ≤ 9223372036854775807) (hB20 : -9223372036854775808 ≤ B2) (hB21 : B2 ≤ 9223372036854775807) (x y x' y' z1 z2 i : Int) (T1 T0 S0 T3 T2 : ByteArray) (hsz : s.size ≤ 9223372036854775807) (ht1 : T1.size ≤ 100) (ht2 : (⟨#[48]⟩ : ByteArray).size + T1.size ≤ 9223372036854775807)(hx : RightP (x, y)) (hz : RightP (z1, z2)) (hA : madeP A1 A2 = (x, y)) (hB' : madeP B1 B2 = (x', y')) (h' : RightP (x', y')) (hT : (T1.toList == T2.toList) = false) (ne : (x == x') = false) (k1 : ∀ w : World, Calls Tryd.prog 29 #[.agg #[.int .i64 x, .int .i64 y]] w (fun e w' => e = .returned (.tuple #[.string T1, .int .i64 0]) ∧ Below w.heap.size w w')) (k2 : ∀ w : World, Calls Tryd.prog 29 #[.agg #[.int .i64 x', .int .i64 y']] w (fun e w' => e = .returned (.tuple #[.string T2, .int .i64 0]) ∧ Below w.heap.size w w')) (k3 : ∀ w : World, Shp w → Calls Tryd.prog 13 #[.string T1] w (DecPost ((x, y), 0) w)) (h0 : (⟨#[48]⟩ ++ T1 : ByteArray) = T0) (k4 : ∀ w : World, Shp w → Calls Tryd.prog 13 #[.string T0] w (DecPost ((x, y), 0) w)) (hs : s.extract 0 (min (s.size : Int) 90).toNat = S0) (k5 : ∀ w : World, Shp w → Calls Tryd.prog 13 #[.string S0] w (DecPost ((z1, z2), i) w)) (k6 : ∀ w : World, Calls Tryd.prog 29 #[.agg #[.int .i64 z1, .int .i64 z2]] w (fun e w' => e = .returned (.tuple #[.string T3, .int .i64 0]) ∧ Below w.heap.size w w')) (k7 : ∀ w : World, Shp w → Calls Tryd.prog 13 #[.string T3] w (DecPost ((z1, z2), 0) w)) (hneg : 0 ≤ x) (hi : i = 0 ∨ i = 12 ∧ z1 = 0 ∧ z2 = 0 ∨ i = 10 ∧ z1 = 0 ∧ z2 = 0) :
    Calls Tryd.prog 11 #[.agg #[.int .i64 A1, .int .i64 A2], .agg #[.int .i64 B1, .int .i64 B2], .string s] w fun e w' => e = .returned (.bool true) ∧ Below w.heap.size w w' := by
  obtain ⟨x0, x1, y0, y1, _⟩ := hx
  obtain ⟨z10, z11, z20, z21, _⟩ := hz
  simp only at x0 x1 y0 y1 z10 z11 z20 z21
  obtain ⟨a0, a1, a2, a3, _⟩ := h'
  simp only at a0 a1 a2 a3
  have CA' := fun w => made_any A1 A2 w hA10 hA11 hA20 hA21
  rw [hA] at CA'
  have KA := Lib.hid CA'
  clear CA' hA
  have CB' := fun w => made_any B1 B2 w hB10 hB11 hB20 hB21
  rw [hB'] at CB'
  have KB := Lib.hid CB'
  clear CB' hB'
  have HI := Lib.hid hi
  clear hi
  have K1 := Lib.hid k1
  clear k1
  have K2 := Lib.hid k2
  clear k2
  have K3 := Lib.hid k3
  clear k3
  have K4 := Lib.hid k4
  clear k4
  have K5 := Lib.hid k5
  clear k5
  have K6 := Lib.hid k6
  clear k6
  have K7 := Lib.hid k7
  clear k7
  go_enter Tryd.func11, Tryd.ntmps11
  go_wp2_with fail
  obtain ⟨W, hW⟩ : ∃ W, W = (w.alloc (.cells #[.int .i64 A1, .int .i64 A2] 23)).alloc (.cells #[.int .i64 B1, .int .i64 B2] 23) := ⟨_, rfl⟩
  rw [← hW]
  have d_A1 : World.dec W (w.heap.size) A1 A2 := by rw [hW]; exact (World.dec_new w A1 A2 _ rfl).alloc _
  have d_B1 : World.dec W (w.heap.size + 1) B1 B2 := by rw [hW]; exact World.dec_new _ B1 B2 _ (by simp)
  have hB : Below w.heap.size w W := by rw [hW]; exact (((Below.refl _ w).alloc (Nat.le_refl _) _).alloc (by simp) _)
  clear hW
  refine (examples_any _ (hm.below hB)).mono ?_
  rintro e w1 ⟨rfl, hB1⟩
  have d_A1 := d_A1.below hB1 d_A1.lt
  have d_B1 := d_B1.below hB1 d_B1.lt
  have hB := hB.trans (hB1.mono hB.size)
  clear hB1
  have c_A1 := d_A1.c0
  have e_A1 := d_A1.c1
  go_wp2_with fail
  clear c_A1 e_A1
  refine (KA.out _).mono ?_
  rintro e w1 ⟨rfl, hB1⟩
  have d_A1 := d_A1.below hB1 d_A1.lt
  have d_B1 := d_B1.below hB1 d_B1.lt
  have hB := hB.trans (hB1.mono hB.size)
  clear hB1
  have d_x : World.dec (w1.alloc (.cells #[.int .i64 x, .int .i64 y] 23)) (w1.heap.size) x y := World.dec_new _ _ _ _ rfl
  have l_A1 := d_A1.lt
  have d_A1 := d_A1.alloc (.cells #[.int .i64 x, .int .i64 y] 23)
  have l_B1 := d_B1.lt
  have d_B1 := d_B1.alloc (.cells #[.int .i64 x, .int .i64 y] 23)
  have hB := hB.alloc hB.size (.cells #[.int .i64 x, .int .i64 y] 23)
  clear d_A1
  have c_B1 := d_B1.c0
  have e_B1 := d_B1.c1
  go_wp2_with fail
  clear c_B1 e_B1
  clear l_A1 l_B1
  refine (KB.out _).mono ?_
  rintro e w1 ⟨rfl, hB1⟩
  have d_B1 := d_B1.below hB1 d_B1.lt
  have d_x := d_x.below hB1 d_x.lt
  have hB := hB.trans (hB1.mono hB.size)
  clear hB1
  have d_v : World.dec (w1.alloc (.cells #[.int .i64 x', .int .i64 y'] 23)) (w1.heap.size) x' y' := World.dec_new _ _ _ _ rfl
  have l_B1 := d_B1.lt
  have d_B1 := d_B1.alloc (.cells #[.int .i64 x', .int .i64 y'] 23)
  have l_x := d_x.lt
  have d_x := d_x.alloc (.cells #[.int .i64 x', .int .i64 y'] 23)
  have hB := hB.alloc hB.size (.cells #[.int .i64 x', .int .i64 y'] 23)
  clear d_B1
  have c_x := d_x.c0
  have e_x := d_x.c1
  have c_v := d_v.c0
  have e_v := d_v.c1
  go_wp2_with fail
  clear c_x e_x c_v e_v
  clear l_B1 l_x
  refine (K1.out _).mono ?_
  rintro e w1 ⟨rfl, hB1⟩
  have d_x := d_x.below hB1 d_x.lt
  have d_v := d_v.below hB1 d_v.lt
  have hB := hB.trans (hB1.mono hB.size)
  clear hB1
  have c_x := d_x.c0
  have e_x := d_x.c1
  have c_v := d_v.c0
  have e_v := d_v.c1
  go_wp2_with fail
  clear c_x e_x c_v e_v
  refine (K2.out _).mono ?_
  rintro e w1 ⟨rfl, hB1⟩
  have d_x := d_x.below hB1 d_x.lt
  have d_v := d_v.below hB1 d_v.lt
  have hB := hB.trans (hB1.mono hB.size)
  clear hB1
  have c_x := d_x.c0
  have e_x := d_x.c1
  have c_v := d_v.c0
  have e_v := d_v.c1
  go_wp2_with fail
  clear c_x e_x c_v e_v
  refine (K3.out _ (hm.below hB)).mono ?_
  rintro e w1 ⟨rfl, hB1⟩
  have d_x := d_x.below hB1 d_x.lt
  have d_v := d_v.below hB1 d_v.lt
  have hB := hB.trans (hB1.mono hB.size)
  clear hB1
  have d_r : World.dec (w1.alloc (.cells #[.int .i64 x, .int .i64 y] 23)) (w1.heap.size) x y := World.dec_new _ _ _ _ rfl
  have l_x := d_x.lt
  have d_x := d_x.alloc (.cells #[.int .i64 x, .int .i64 y] 23)
  have l_v := d_v.lt
  have d_v := d_v.alloc (.cells #[.int .i64 x, .int .i64 y] 23)
  have hB := hB.alloc hB.size (.cells #[.int .i64 x, .int .i64 y] 23)
  go_wp2_with fail
  clear l_x l_v
  refine (K4.out _ (hm.below hB)).mono ?_
  rintro e w1 ⟨rfl, hB1⟩
  have d_x := d_x.below hB1 d_x.lt
  have d_v := d_v.below hB1 d_v.lt
  have d_r := d_r.below hB1 d_r.lt
  have hB := hB.trans (hB1.mono hB.size)
  clear hB1
  have d_m : World.dec (w1.alloc (.cells #[.int .i64 x, .int .i64 y] 23)) (w1.heap.size) x y := World.dec_new _ _ _ _ rfl
  have l_x := d_x.lt
  have d_x := d_x.alloc (.cells #[.int .i64 x, .int .i64 y] 23)
  have l_v := d_v.lt
  have d_v := d_v.alloc (.cells #[.int .i64 x, .int .i64 y] 23)
  have l_r := d_r.lt
  have d_r := d_r.alloc (.cells #[.int .i64 x, .int .i64 y] 23)
  have hB := hB.alloc hB.size (.cells #[.int .i64 x, .int .i64 y] 23)
  go_wp2_with fail
  clear l_x l_v l_r
  refine (K5.out _ (hm.below hB)).mono ?_
  rintro e w1 ⟨rfl, hB1⟩
  have d_x := d_x.below hB1 d_x.lt
  have d_v := d_v.below hB1 d_v.lt
  have d_r := d_r.below hB1 d_r.lt
  have d_m := d_m.below hB1 d_m.lt
  have hB := hB.trans (hB1.mono hB.size)
  clear hB1
  have d_z : World.dec (w1.alloc (.cells #[.int .i64 z1, .int .i64 z2] 23)) (w1.heap.size) z1 z2 := World.dec_new _ _ _ _ rfl
  have l_x := d_x.lt
  have d_x := d_x.alloc (.cells #[.int .i64 z1, .int .i64 z2] 23)
  have l_v := d_v.lt
  have d_v := d_v.alloc (.cells #[.int .i64 z1, .int .i64 z2] 23)
  have l_r := d_r.lt
  have d_r := d_r.alloc (.cells #[.int .i64 z1, .int .i64 z2] 23)
  have l_m := d_m.lt
  have d_m := d_m.alloc (.cells #[.int .i64 z1, .int .i64 z2] 23)
  have hB := hB.alloc hB.size (.cells #[.int .i64 z1, .int .i64 z2] 23)
  have c_z := d_z.c0
  have e_z := d_z.c1
  go_wp2_with fail
  clear c_z e_z
  clear l_x l_v l_r l_m
  refine (K6.out _).mono ?_
  rintro e w1 ⟨rfl, hB1⟩
  have d_x := d_x.below hB1 d_x.lt
  have d_v := d_v.below hB1 d_v.lt
  have d_r := d_r.below hB1 d_r.lt
  have d_m := d_m.below hB1 d_m.lt
  have d_z := d_z.below hB1 d_z.lt
  have hB := hB.trans (hB1.mono hB.size)
  clear hB1
  have c_z := d_z.c0
  have e_z := d_z.c1
  go_wp2_with fail
  clear c_z e_z
  refine (K7.out _ (hm.below hB)).mono ?_
  rintro e w1 ⟨rfl, hB1⟩
  have d_x := d_x.below hB1 d_x.lt
  have d_v := d_v.below hB1 d_v.lt
  have d_r := d_r.below hB1 d_r.lt
  have d_m := d_m.below hB1 d_m.lt
  have d_z := d_z.below hB1 d_z.lt
  have hB := hB.trans (hB1.mono hB.size)
  clear hB1
  have d_w2 : World.dec (w1.alloc (.cells #[.int .i64 z1, .int .i64 z2] 23)) (w1.heap.size) z1 z2 := World.dec_new _ _ _ _ rfl
  have l_x := d_x.lt
  have d_x := d_x.alloc (.cells #[.int .i64 z1, .int .i64 z2] 23)
  have l_v := d_v.lt
  have d_v := d_v.alloc (.cells #[.int .i64 z1, .int .i64 z2] 23)
  have l_r := d_r.lt
  have d_r := d_r.alloc (.cells #[.int .i64 z1, .int .i64 z2] 23)
  have l_m := d_m.lt
  have d_m := d_m.alloc (.cells #[.int .i64 z1, .int .i64 z2] 23)
  have l_z := d_z.lt
  have d_z := d_z.alloc (.cells #[.int .i64 z1, .int .i64 z2] 23)
  have hB := hB.alloc hB.size (.cells #[.int .i64 z1, .int .i64 z2] 23)
  have hBf := hB
  rcases HI.out with rfl | ⟨rfl, rfl, rfl⟩ | ⟨rfl, rfl, rfl⟩
  · have c_x := d_x.c0
    have e_x := d_x.c1
    have c_v := d_v.c0
    have e_v := d_v.c1
    have c_r := d_r.c0
    have e_r := d_r.c1
    have c_m := d_m.c0
    have e_m := d_m.c1
    have c_z := d_z.c0
    have e_z := d_z.c1
    have c_w2 := d_w2.c0
    have e_w2 := d_w2.c1
    go_wp2_with fail
    clear c_x e_x c_v e_v c_r e_r c_m e_m c_z e_z c_w2 e_w2
    clear l_x l_v l_r l_m l_z
    go_ret
    exact ⟨rfl, hB⟩
  · have c_x := d_x.c0
    have e_x := d_x.c1
    have c_v := d_v.c0
    have e_v := d_v.c1
    have c_r := d_r.c0
    have e_r := d_r.c1
    have c_m := d_m.c0
    have e_m := d_m.c1
    have c_z := d_z.c0
    have e_z := d_z.c1
    have c_w2 := d_w2.c0
    have e_w2 := d_w2.c1
    go_wp2_with fail
    clear c_x e_x c_v e_v c_r e_r c_m e_m c_z e_z c_w2 e_w2
    clear l_x l_v l_r l_m l_z
    go_ret
    exact ⟨rfl, hB⟩
  · have c_x := d_x.c0
    have e_x := d_x.c1
    have c_v := d_v.c0
    have e_v := d_v.c1
    have c_r := d_r.c0
    have e_r := d_r.c1
    have c_m := d_m.c0
    have e_m := d_m.c1
    have c_z := d_z.c0
    have e_z := d_z.c1
    have c_w2 := d_w2.c0
    have e_w2 := d_w2.c1
    go_wp2_with fail
    clear c_x e_x c_v e_v c_r e_r c_m e_m c_z e_z c_w2 e_w2
    clear l_x l_v l_r l_m l_z
    go_ret
    exact ⟨rfl, hB⟩

set_option maxRecDepth 100000 in
set_option maxHeartbeats 8000000 in
theorem texts_en (A1 A2 B1 B2 : Int) (s : ByteArray) (w : World) (hm : Shp w) (hA10 : -9223372036854775808 ≤ A1) (hA11 : A1 ≤ 9223372036854775807) (hA20 : -9223372036854775808 ≤ A2) (hA21 : A2 ≤ 9223372036854775807) (hB10 : -9223372036854775808 ≤ B1) (hB11 : B1 ≤ 9223372036854775807) (hB20 : -9223372036854775808 ≤ B2) (hB21 : B2 ≤ 9223372036854775807) (x y x' y' z1 z2 i : Int) (T1 T0 S0 T3 T2 : ByteArray) (hsz : s.size ≤ 9223372036854775807) (ht1 : T1.size ≤ 100) (ht2 : (⟨#[48]⟩ : ByteArray).size + T1.size ≤ 9223372036854775807)(hx : RightP (x, y)) (hz : RightP (z1, z2)) (hA : madeP A1 A2 = (x, y)) (hB' : madeP B1 B2 = (x', y')) (h' : RightP (x', y')) (hT : (T1.toList == T2.toList) = false) (ne : (x == x') = true) (ne2 : (y == y') = false) (k1 : ∀ w : World, Calls Tryd.prog 29 #[.agg #[.int .i64 x, .int .i64 y]] w (fun e w' => e = .returned (.tuple #[.string T1, .int .i64 0]) ∧ Below w.heap.size w w')) (k2 : ∀ w : World, Calls Tryd.prog 29 #[.agg #[.int .i64 x', .int .i64 y']] w (fun e w' => e = .returned (.tuple #[.string T2, .int .i64 0]) ∧ Below w.heap.size w w')) (k3 : ∀ w : World, Shp w → Calls Tryd.prog 13 #[.string T1] w (DecPost ((x, y), 0) w)) (h0 : (⟨#[48]⟩ ++ T1 : ByteArray) = T0) (k4 : ∀ w : World, Shp w → Calls Tryd.prog 13 #[.string T0] w (DecPost ((0, 0), 12) w)) (hs : s.extract 0 (min (s.size : Int) 90).toNat = S0) (k5 : ∀ w : World, Shp w → Calls Tryd.prog 13 #[.string S0] w (DecPost ((z1, z2), i) w)) (k6 : ∀ w : World, Calls Tryd.prog 29 #[.agg #[.int .i64 z1, .int .i64 z2]] w (fun e w' => e = .returned (.tuple #[.string T3, .int .i64 0]) ∧ Below w.heap.size w w')) (k7 : ∀ w : World, Shp w → Calls Tryd.prog 13 #[.string T3] w (DecPost ((z1, z2), 0) w)) (hneg : x < 0) (hi : i = 0 ∨ i = 12 ∧ z1 = 0 ∧ z2 = 0 ∨ i = 10 ∧ z1 = 0 ∧ z2 = 0) :
    Calls Tryd.prog 11 #[.agg #[.int .i64 A1, .int .i64 A2], .agg #[.int .i64 B1, .int .i64 B2], .string s] w fun e w' => e = .returned (.bool true) ∧ Below w.heap.size w w' := by
  obtain ⟨x0, x1, y0, y1, _⟩ := hx
  obtain ⟨z10, z11, z20, z21, _⟩ := hz
  simp only at x0 x1 y0 y1 z10 z11 z20 z21
  obtain ⟨a0, a1, a2, a3, _⟩ := h'
  simp only at a0 a1 a2 a3
  have CA' := fun w => made_any A1 A2 w hA10 hA11 hA20 hA21
  rw [hA] at CA'
  have KA := Lib.hid CA'
  clear CA' hA
  have CB' := fun w => made_any B1 B2 w hB10 hB11 hB20 hB21
  rw [hB'] at CB'
  have KB := Lib.hid CB'
  clear CB' hB'
  have HI := Lib.hid hi
  clear hi
  have K1 := Lib.hid k1
  clear k1
  have K2 := Lib.hid k2
  clear k2
  have K3 := Lib.hid k3
  clear k3
  have K4 := Lib.hid k4
  clear k4
  have K5 := Lib.hid k5
  clear k5
  have K6 := Lib.hid k6
  clear k6
  have K7 := Lib.hid k7
  clear k7
  go_enter Tryd.func11, Tryd.ntmps11
  go_wp2_with fail
  obtain ⟨W, hW⟩ : ∃ W, W = (w.alloc (.cells #[.int .i64 A1, .int .i64 A2] 23)).alloc (.cells #[.int .i64 B1, .int .i64 B2] 23) := ⟨_, rfl⟩
  rw [← hW]
  have d_A1 : World.dec W (w.heap.size) A1 A2 := by rw [hW]; exact (World.dec_new w A1 A2 _ rfl).alloc _
  have d_B1 : World.dec W (w.heap.size + 1) B1 B2 := by rw [hW]; exact World.dec_new _ B1 B2 _ (by simp)
  have hB : Below w.heap.size w W := by rw [hW]; exact (((Below.refl _ w).alloc (Nat.le_refl _) _).alloc (by simp) _)
  clear hW
  refine (examples_any _ (hm.below hB)).mono ?_
  rintro e w1 ⟨rfl, hB1⟩
  have d_A1 := d_A1.below hB1 d_A1.lt
  have d_B1 := d_B1.below hB1 d_B1.lt
  have hB := hB.trans (hB1.mono hB.size)
  clear hB1
  have c_A1 := d_A1.c0
  have e_A1 := d_A1.c1
  go_wp2_with fail
  clear c_A1 e_A1
  refine (KA.out _).mono ?_
  rintro e w1 ⟨rfl, hB1⟩
  have d_A1 := d_A1.below hB1 d_A1.lt
  have d_B1 := d_B1.below hB1 d_B1.lt
  have hB := hB.trans (hB1.mono hB.size)
  clear hB1
  have d_x : World.dec (w1.alloc (.cells #[.int .i64 x, .int .i64 y] 23)) (w1.heap.size) x y := World.dec_new _ _ _ _ rfl
  have l_A1 := d_A1.lt
  have d_A1 := d_A1.alloc (.cells #[.int .i64 x, .int .i64 y] 23)
  have l_B1 := d_B1.lt
  have d_B1 := d_B1.alloc (.cells #[.int .i64 x, .int .i64 y] 23)
  have hB := hB.alloc hB.size (.cells #[.int .i64 x, .int .i64 y] 23)
  clear d_A1
  have c_B1 := d_B1.c0
  have e_B1 := d_B1.c1
  go_wp2_with fail
  clear c_B1 e_B1
  clear l_A1 l_B1
  refine (KB.out _).mono ?_
  rintro e w1 ⟨rfl, hB1⟩
  have d_B1 := d_B1.below hB1 d_B1.lt
  have d_x := d_x.below hB1 d_x.lt
  have hB := hB.trans (hB1.mono hB.size)
  clear hB1
  have d_v : World.dec (w1.alloc (.cells #[.int .i64 x', .int .i64 y'] 23)) (w1.heap.size) x' y' := World.dec_new _ _ _ _ rfl
  have l_B1 := d_B1.lt
  have d_B1 := d_B1.alloc (.cells #[.int .i64 x', .int .i64 y'] 23)
  have l_x := d_x.lt
  have d_x := d_x.alloc (.cells #[.int .i64 x', .int .i64 y'] 23)
  have hB := hB.alloc hB.size (.cells #[.int .i64 x', .int .i64 y'] 23)
  clear d_B1
  have c_x := d_x.c0
  have e_x := d_x.c1
  have c_v := d_v.c0
  have e_v := d_v.c1
  go_wp2_with fail
  clear c_x e_x c_v e_v
  clear l_B1 l_x
  refine (K1.out _).mono ?_
  rintro e w1 ⟨rfl, hB1⟩
  have d_x := d_x.below hB1 d_x.lt
  have d_v := d_v.below hB1 d_v.lt
  have hB := hB.trans (hB1.mono hB.size)
  clear hB1
  have c_x := d_x.c0
  have e_x := d_x.c1
  have c_v := d_v.c0
  have e_v := d_v.c1
  go_wp2_with fail
  clear c_x e_x c_v e_v
  refine (K2.out _).mono ?_
  rintro e w1 ⟨rfl, hB1⟩
  have d_x := d_x.below hB1 d_x.lt
  have d_v := d_v.below hB1 d_v.lt
  have hB := hB.trans (hB1.mono hB.size)
  clear hB1
  have c_x := d_x.c0
  have e_x := d_x.c1
  have c_v := d_v.c0
  have e_v := d_v.c1
  go_wp2_with fail
  clear c_x e_x c_v e_v
  refine (K3.out _ (hm.below hB)).mono ?_
  rintro e w1 ⟨rfl, hB1⟩
  have d_x := d_x.below hB1 d_x.lt
  have d_v := d_v.below hB1 d_v.lt
  have hB := hB.trans (hB1.mono hB.size)
  clear hB1
  have d_r : World.dec (w1.alloc (.cells #[.int .i64 x, .int .i64 y] 23)) (w1.heap.size) x y := World.dec_new _ _ _ _ rfl
  have l_x := d_x.lt
  have d_x := d_x.alloc (.cells #[.int .i64 x, .int .i64 y] 23)
  have l_v := d_v.lt
  have d_v := d_v.alloc (.cells #[.int .i64 x, .int .i64 y] 23)
  have hB := hB.alloc hB.size (.cells #[.int .i64 x, .int .i64 y] 23)
  go_wp2_with fail
  clear l_x l_v
  refine (K4.out _ (hm.below hB)).mono ?_
  rintro e w1 ⟨rfl, hB1⟩
  have d_x := d_x.below hB1 d_x.lt
  have d_v := d_v.below hB1 d_v.lt
  have d_r := d_r.below hB1 d_r.lt
  have hB := hB.trans (hB1.mono hB.size)
  clear hB1
  have d_m : World.dec (w1.alloc (.cells #[.int .i64 0, .int .i64 0] 23)) (w1.heap.size) 0 0 := World.dec_new _ _ _ _ rfl
  have l_x := d_x.lt
  have d_x := d_x.alloc (.cells #[.int .i64 0, .int .i64 0] 23)
  have l_v := d_v.lt
  have d_v := d_v.alloc (.cells #[.int .i64 0, .int .i64 0] 23)
  have l_r := d_r.lt
  have d_r := d_r.alloc (.cells #[.int .i64 0, .int .i64 0] 23)
  have hB := hB.alloc hB.size (.cells #[.int .i64 0, .int .i64 0] 23)
  go_wp2_with fail
  clear l_x l_v l_r
  refine (K5.out _ (hm.below hB)).mono ?_
  rintro e w1 ⟨rfl, hB1⟩
  have d_x := d_x.below hB1 d_x.lt
  have d_v := d_v.below hB1 d_v.lt
  have d_r := d_r.below hB1 d_r.lt
  have d_m := d_m.below hB1 d_m.lt
  have hB := hB.trans (hB1.mono hB.size)
  clear hB1
  have d_z : World.dec (w1.alloc (.cells #[.int .i64 z1, .int .i64 z2] 23)) (w1.heap.size) z1 z2 := World.dec_new _ _ _ _ rfl
  have l_x := d_x.lt
  have d_x := d_x.alloc (.cells #[.int .i64 z1, .int .i64 z2] 23)
  have l_v := d_v.lt
  have d_v := d_v.alloc (.cells #[.int .i64 z1, .int .i64 z2] 23)
  have l_r := d_r.lt
  have d_r := d_r.alloc (.cells #[.int .i64 z1, .int .i64 z2] 23)
  have l_m := d_m.lt
  have d_m := d_m.alloc (.cells #[.int .i64 z1, .int .i64 z2] 23)
  have hB := hB.alloc hB.size (.cells #[.int .i64 z1, .int .i64 z2] 23)
  have c_z := d_z.c0
  have e_z := d_z.c1
  go_wp2_with fail
  clear c_z e_z
  clear l_x l_v l_r l_m
  refine (K6.out _).mono ?_
  rintro e w1 ⟨rfl, hB1⟩
  have d_x := d_x.below hB1 d_x.lt
  have d_v := d_v.below hB1 d_v.lt
  have d_r := d_r.below hB1 d_r.lt
  have d_m := d_m.below hB1 d_m.lt
  have d_z := d_z.below hB1 d_z.lt
  have hB := hB.trans (hB1.mono hB.size)
  clear hB1
  have c_z := d_z.c0
  have e_z := d_z.c1
  go_wp2_with fail
  clear c_z e_z
  refine (K7.out _ (hm.below hB)).mono ?_
  rintro e w1 ⟨rfl, hB1⟩
  have d_x := d_x.below hB1 d_x.lt
  have d_v := d_v.below hB1 d_v.lt
  have d_r := d_r.below hB1 d_r.lt
  have d_m := d_m.below hB1 d_m.lt
  have d_z := d_z.below hB1 d_z.lt
  have hB := hB.trans (hB1.mono hB.size)
  clear hB1
  have d_w2 : World.dec (w1.alloc (.cells #[.int .i64 z1, .int .i64 z2] 23)) (w1.heap.size) z1 z2 := World.dec_new _ _ _ _ rfl
  have l_x := d_x.lt
  have d_x := d_x.alloc (.cells #[.int .i64 z1, .int .i64 z2] 23)
  have l_v := d_v.lt
  have d_v := d_v.alloc (.cells #[.int .i64 z1, .int .i64 z2] 23)
  have l_r := d_r.lt
  have d_r := d_r.alloc (.cells #[.int .i64 z1, .int .i64 z2] 23)
  have l_m := d_m.lt
  have d_m := d_m.alloc (.cells #[.int .i64 z1, .int .i64 z2] 23)
  have l_z := d_z.lt
  have d_z := d_z.alloc (.cells #[.int .i64 z1, .int .i64 z2] 23)
  have hB := hB.alloc hB.size (.cells #[.int .i64 z1, .int .i64 z2] 23)
  have hBf := hB
  rcases HI.out with rfl | ⟨rfl, rfl, rfl⟩ | ⟨rfl, rfl, rfl⟩
  · have c_x := d_x.c0
    have e_x := d_x.c1
    have c_v := d_v.c0
    have e_v := d_v.c1
    have c_r := d_r.c0
    have e_r := d_r.c1
    have c_m := d_m.c0
    have e_m := d_m.c1
    have c_z := d_z.c0
    have e_z := d_z.c1
    have c_w2 := d_w2.c0
    have e_w2 := d_w2.c1
    go_wp2_with fail
    clear c_x e_x c_v e_v c_r e_r c_m e_m c_z e_z c_w2 e_w2
    clear l_x l_v l_r l_m l_z
    go_ret
    exact ⟨rfl, hB⟩
  · have c_x := d_x.c0
    have e_x := d_x.c1
    have c_v := d_v.c0
    have e_v := d_v.c1
    have c_r := d_r.c0
    have e_r := d_r.c1
    have c_m := d_m.c0
    have e_m := d_m.c1
    have c_z := d_z.c0
    have e_z := d_z.c1
    have c_w2 := d_w2.c0
    have e_w2 := d_w2.c1
    go_wp2_with fail
    clear c_x e_x c_v e_v c_r e_r c_m e_m c_z e_z c_w2 e_w2
    clear l_x l_v l_r l_m l_z
    go_ret
    exact ⟨rfl, hB⟩
  · have c_x := d_x.c0
    have e_x := d_x.c1
    have c_v := d_v.c0
    have e_v := d_v.c1
    have c_r := d_r.c0
    have e_r := d_r.c1
    have c_m := d_m.c0
    have e_m := d_m.c1
    have c_z := d_z.c0
    have e_z := d_z.c1
    have c_w2 := d_w2.c0
    have e_w2 := d_w2.c1
    go_wp2_with fail
    clear c_x e_x c_v e_v c_r e_r c_m e_m c_z e_z c_w2 e_w2
    clear l_x l_v l_r l_m l_z
    go_ret
    exact ⟨rfl, hB⟩

set_option maxRecDepth 100000 in
set_option maxHeartbeats 8000000 in
theorem texts_ep (A1 A2 B1 B2 : Int) (s : ByteArray) (w : World) (hm : Shp w) (hA10 : -9223372036854775808 ≤ A1) (hA11 : A1 ≤ 9223372036854775807) (hA20 : -9223372036854775808 ≤ A2) (hA21 : A2 ≤ 9223372036854775807) (hB10 : -9223372036854775808 ≤ B1) (hB11 : B1 ≤ 9223372036854775807) (hB20 : -9223372036854775808 ≤ B2) (hB21 : B2 ≤ 9223372036854775807) (x y x' y' z1 z2 i : Int) (T1 T0 S0 T3 T2 : ByteArray) (hsz : s.size ≤ 9223372036854775807) (ht1 : T1.size ≤ 100) (ht2 : (⟨#[48]⟩ : ByteArray).size + T1.size ≤ 9223372036854775807)(hx : RightP (x, y)) (hz : RightP (z1, z2)) (hA : madeP A1 A2 = (x, y)) (hB' : madeP B1 B2 = (x', y')) (h' : RightP (x', y')) (hT : (T1.toList == T2.toList) = false) (ne : (x == x') = true) (ne2 : (y == y') = false) (k1 : ∀ w : World, Calls Tryd.prog 29 #[.agg #[.int .i64 x, .int .i64 y]] w (fun e w' => e = .returned (.tuple #[.string T1, .int .i64 0]) ∧ Below w.heap.size w w')) (k2 : ∀ w : World, Calls Tryd.prog 29 #[.agg #[.int .i64 x', .int .i64 y']] w (fun e w' => e = .returned (.tuple #[.string T2, .int .i64 0]) ∧ Below w.heap.size w w')) (k3 : ∀ w : World, Shp w → Calls Tryd.prog 13 #[.string T1] w (DecPost ((x, y), 0) w)) (h0 : (⟨#[48]⟩ ++ T1 : ByteArray) = T0) (k4 : ∀ w : World, Shp w → Calls Tryd.prog 13 #[.string T0] w (DecPost ((x, y), 0) w)) (hs : s.extract 0 (min (s.size : Int) 90).toNat = S0) (k5 : ∀ w : World, Shp w → Calls Tryd.prog 13 #[.string S0] w (DecPost ((z1, z2), i) w)) (k6 : ∀ w : World, Calls Tryd.prog 29 #[.agg #[.int .i64 z1, .int .i64 z2]] w (fun e w' => e = .returned (.tuple #[.string T3, .int .i64 0]) ∧ Below w.heap.size w w')) (k7 : ∀ w : World, Shp w → Calls Tryd.prog 13 #[.string T3] w (DecPost ((z1, z2), 0) w)) (hneg : 0 ≤ x) (hi : i = 0 ∨ i = 12 ∧ z1 = 0 ∧ z2 = 0 ∨ i = 10 ∧ z1 = 0 ∧ z2 = 0) :
    Calls Tryd.prog 11 #[.agg #[.int .i64 A1, .int .i64 A2], .agg #[.int .i64 B1, .int .i64 B2], .string s] w fun e w' => e = .returned (.bool true) ∧ Below w.heap.size w w' := by
  obtain ⟨x0, x1, y0, y1, _⟩ := hx
  obtain ⟨z10, z11, z20, z21, _⟩ := hz
  simp only at x0 x1 y0 y1 z10 z11 z20 z21
  obtain ⟨a0, a1, a2, a3, _⟩ := h'
  simp only at a0 a1 a2 a3
  have CA' := fun w => made_any A1 A2 w hA10 hA11 hA20 hA21
  rw [hA] at CA'
  have KA := Lib.hid CA'
  clear CA' hA
  have CB' := fun w => made_any B1 B2 w hB10 hB11 hB20 hB21
  rw [hB'] at CB'
  have KB := Lib.hid CB'
  clear CB' hB'
  have HI := Lib.hid hi
  clear hi
  have K1 := Lib.hid k1
  clear k1
  have K2 := Lib.hid k2
  clear k2
  have K3 := Lib.hid k3
  clear k3
  have K4 := Lib.hid k4
  clear k4
  have K5 := Lib.hid k5
  clear k5
  have K6 := Lib.hid k6
  clear k6
  have K7 := Lib.hid k7
  clear k7
  go_enter Tryd.func11, Tryd.ntmps11
  go_wp2_with fail
  obtain ⟨W, hW⟩ : ∃ W, W = (w.alloc (.cells #[.int .i64 A1, .int .i64 A2] 23)).alloc (.cells #[.int .i64 B1, .int .i64 B2] 23) := ⟨_, rfl⟩
  rw [← hW]
  have d_A1 : World.dec W (w.heap.size) A1 A2 := by rw [hW]; exact (World.dec_new w A1 A2 _ rfl).alloc _
  have d_B1 : World.dec W (w.heap.size + 1) B1 B2 := by rw [hW]; exact World.dec_new _ B1 B2 _ (by simp)
  have hB : Below w.heap.size w W := by rw [hW]; exact (((Below.refl _ w).alloc (Nat.le_refl _) _).alloc (by simp) _)
  clear hW
  refine (examples_any _ (hm.below hB)).mono ?_
  rintro e w1 ⟨rfl, hB1⟩
  have d_A1 := d_A1.below hB1 d_A1.lt
  have d_B1 := d_B1.below hB1 d_B1.lt
  have hB := hB.trans (hB1.mono hB.size)
  clear hB1
  have c_A1 := d_A1.c0
  have e_A1 := d_A1.c1
  go_wp2_with fail
  clear c_A1 e_A1
  refine (KA.out _).mono ?_
  rintro e w1 ⟨rfl, hB1⟩
  have d_A1 := d_A1.below hB1 d_A1.lt
  have d_B1 := d_B1.below hB1 d_B1.lt
  have hB := hB.trans (hB1.mono hB.size)
  clear hB1
  have d_x : World.dec (w1.alloc (.cells #[.int .i64 x, .int .i64 y] 23)) (w1.heap.size) x y := World.dec_new _ _ _ _ rfl
  have l_A1 := d_A1.lt
  have d_A1 := d_A1.alloc (.cells #[.int .i64 x, .int .i64 y] 23)
  have l_B1 := d_B1.lt
  have d_B1 := d_B1.alloc (.cells #[.int .i64 x, .int .i64 y] 23)
  have hB := hB.alloc hB.size (.cells #[.int .i64 x, .int .i64 y] 23)
  clear d_A1
  have c_B1 := d_B1.c0
  have e_B1 := d_B1.c1
  go_wp2_with fail
  clear c_B1 e_B1
  clear l_A1 l_B1
  refine (KB.out _).mono ?_
  rintro e w1 ⟨rfl, hB1⟩
  have d_B1 := d_B1.below hB1 d_B1.lt
  have d_x := d_x.below hB1 d_x.lt
  have hB := hB.trans (hB1.mono hB.size)
  clear hB1
  have d_v : World.dec (w1.alloc (.cells #[.int .i64 x', .int .i64 y'] 23)) (w1.heap.size) x' y' := World.dec_new _ _ _ _ rfl
  have l_B1 := d_B1.lt
  have d_B1 := d_B1.alloc (.cells #[.int .i64 x', .int .i64 y'] 23)
  have l_x := d_x.lt
  have d_x := d_x.alloc (.cells #[.int .i64 x', .int .i64 y'] 23)
  have hB := hB.alloc hB.size (.cells #[.int .i64 x', .int .i64 y'] 23)
  clear d_B1
  have c_x := d_x.c0
  have e_x := d_x.c1
  have c_v := d_v.c0
  have e_v := d_v.c1
  go_wp2_with fail
  clear c_x e_x c_v e_v
  clear l_B1 l_x
  refine (K1.out _).mono ?_
  rintro e w1 ⟨rfl, hB1⟩
  have d_x := d_x.below hB1 d_x.lt
  have d_v := d_v.below hB1 d_v.lt
  have hB := hB.trans (hB1.mono hB.size)
  clear hB1
  have c_x := d_x.c0
  have e_x := d_x.c1
  have c_v := d_v.c0
  have e_v := d_v.c1
  go_wp2_with fail
  clear c_x e_x c_v e_v
  refine (K2.out _).mono ?_
  rintro e w1 ⟨rfl, hB1⟩
  have d_x := d_x.below hB1 d_x.lt
  have d_v := d_v.below hB1 d_v.lt
  have hB := hB.trans (hB1.mono hB.size)
  clear hB1
  have c_x := d_x.c0
  have e_x := d_x.c1
  have c_v := d_v.c0
  have e_v := d_v.c1
  go_wp2_with fail
  clear c_x e_x c_v e_v
  refine (K3.out _ (hm.below hB)).mono ?_
  rintro e w1 ⟨rfl, hB1⟩
  have d_x := d_x.below hB1 d_x.lt
  have d_v := d_v.below hB1 d_v.lt
  have hB := hB.trans (hB1.mono hB.size)
  clear hB1
  have d_r : World.dec (w1.alloc (.cells #[.int .i64 x, .int .i64 y] 23)) (w1.heap.size) x y := World.dec_new _ _ _ _ rfl
  have l_x := d_x.lt
  have d_x := d_x.alloc (.cells #[.int .i64 x, .int .i64 y] 23)
  have l_v := d_v.lt
  have d_v := d_v.alloc (.cells #[.int .i64 x, .int .i64 y] 23)
  have hB := hB.alloc hB.size (.cells #[.int .i64 x, .int .i64 y] 23)
  go_wp2_with fail
  clear l_x l_v
  refine (K4.out _ (hm.below hB)).mono ?_
  rintro e w1 ⟨rfl, hB1⟩
  have d_x := d_x.below hB1 d_x.lt
  have d_v := d_v.below hB1 d_v.lt
  have d_r := d_r.below hB1 d_r.lt
  have hB := hB.trans (hB1.mono hB.size)
  clear hB1
  have d_m : World.dec (w1.alloc (.cells #[.int .i64 x, .int .i64 y] 23)) (w1.heap.size) x y := World.dec_new _ _ _ _ rfl
  have l_x := d_x.lt
  have d_x := d_x.alloc (.cells #[.int .i64 x, .int .i64 y] 23)
  have l_v := d_v.lt
  have d_v := d_v.alloc (.cells #[.int .i64 x, .int .i64 y] 23)
  have l_r := d_r.lt
  have d_r := d_r.alloc (.cells #[.int .i64 x, .int .i64 y] 23)
  have hB := hB.alloc hB.size (.cells #[.int .i64 x, .int .i64 y] 23)
  go_wp2_with fail
  clear l_x l_v l_r
  refine (K5.out _ (hm.below hB)).mono ?_
  rintro e w1 ⟨rfl, hB1⟩
  have d_x := d_x.below hB1 d_x.lt
  have d_v := d_v.below hB1 d_v.lt
  have d_r := d_r.below hB1 d_r.lt
  have d_m := d_m.below hB1 d_m.lt
  have hB := hB.trans (hB1.mono hB.size)
  clear hB1
  have d_z : World.dec (w1.alloc (.cells #[.int .i64 z1, .int .i64 z2] 23)) (w1.heap.size) z1 z2 := World.dec_new _ _ _ _ rfl
  have l_x := d_x.lt
  have d_x := d_x.alloc (.cells #[.int .i64 z1, .int .i64 z2] 23)
  have l_v := d_v.lt
  have d_v := d_v.alloc (.cells #[.int .i64 z1, .int .i64 z2] 23)
  have l_r := d_r.lt
  have d_r := d_r.alloc (.cells #[.int .i64 z1, .int .i64 z2] 23)
  have l_m := d_m.lt
  have d_m := d_m.alloc (.cells #[.int .i64 z1, .int .i64 z2] 23)
  have hB := hB.alloc hB.size (.cells #[.int .i64 z1, .int .i64 z2] 23)
  have c_z := d_z.c0
  have e_z := d_z.c1
  go_wp2_with fail
  clear c_z e_z
  clear l_x l_v l_r l_m
  refine (K6.out _).mono ?_
  rintro e w1 ⟨rfl, hB1⟩
  have d_x := d_x.below hB1 d_x.lt
  have d_v := d_v.below hB1 d_v.lt
  have d_r := d_r.below hB1 d_r.lt
  have d_m := d_m.below hB1 d_m.lt
  have d_z := d_z.below hB1 d_z.lt
  have hB := hB.trans (hB1.mono hB.size)
  clear hB1
  have c_z := d_z.c0
  have e_z := d_z.c1
  go_wp2_with fail
  clear c_z e_z
  refine (K7.out _ (hm.below hB)).mono ?_
  rintro e w1 ⟨rfl, hB1⟩
  have d_x := d_x.below hB1 d_x.lt
  have d_v := d_v.below hB1 d_v.lt
  have d_r := d_r.below hB1 d_r.lt
  have d_m := d_m.below hB1 d_m.lt
  have d_z := d_z.below hB1 d_z.lt
  have hB := hB.trans (hB1.mono hB.size)
  clear hB1
  have d_w2 : World.dec (w1.alloc (.cells #[.int .i64 z1, .int .i64 z2] 23)) (w1.heap.size) z1 z2 := World.dec_new _ _ _ _ rfl
  have l_x := d_x.lt
  have d_x := d_x.alloc (.cells #[.int .i64 z1, .int .i64 z2] 23)
  have l_v := d_v.lt
  have d_v := d_v.alloc (.cells #[.int .i64 z1, .int .i64 z2] 23)
  have l_r := d_r.lt
  have d_r := d_r.alloc (.cells #[.int .i64 z1, .int .i64 z2] 23)
  have l_m := d_m.lt
  have d_m := d_m.alloc (.cells #[.int .i64 z1, .int .i64 z2] 23)
  have l_z := d_z.lt
  have d_z := d_z.alloc (.cells #[.int .i64 z1, .int .i64 z2] 23)
  have hB := hB.alloc hB.size (.cells #[.int .i64 z1, .int .i64 z2] 23)
  have hBf := hB
  rcases HI.out with rfl | ⟨rfl, rfl, rfl⟩ | ⟨rfl, rfl, rfl⟩
  · have c_x := d_x.c0
    have e_x := d_x.c1
    have c_v := d_v.c0
    have e_v := d_v.c1
    have c_r := d_r.c0
    have e_r := d_r.c1
    have c_m := d_m.c0
    have e_m := d_m.c1
    have c_z := d_z.c0
    have e_z := d_z.c1
    have c_w2 := d_w2.c0
    have e_w2 := d_w2.c1
    go_wp2_with fail
    clear c_x e_x c_v e_v c_r e_r c_m e_m c_z e_z c_w2 e_w2
    clear l_x l_v l_r l_m l_z
    go_ret
    exact ⟨rfl, hB⟩
  · have c_x := d_x.c0
    have e_x := d_x.c1
    have c_v := d_v.c0
    have e_v := d_v.c1
    have c_r := d_r.c0
    have e_r := d_r.c1
    have c_m := d_m.c0
    have e_m := d_m.c1
    have c_z := d_z.c0
    have e_z := d_z.c1
    have c_w2 := d_w2.c0
    have e_w2 := d_w2.c1
    go_wp2_with fail
    clear c_x e_x c_v e_v c_r e_r c_m e_m c_z e_z c_w2 e_w2
    clear l_x l_v l_r l_m l_z
    go_ret
    exact ⟨rfl, hB⟩
  · have c_x := d_x.c0
    have e_x := d_x.c1
    have c_v := d_v.c0
    have e_v := d_v.c1
    have c_r := d_r.c0
    have e_r := d_r.c1
    have c_m := d_m.c0
    have e_m := d_m.c1
    have c_z := d_z.c0
    have e_z := d_z.c1
    have c_w2 := d_w2.c0
    have e_w2 := d_w2.c1
    go_wp2_with fail
    clear c_x e_x c_v e_v c_r e_r c_m e_m c_z e_z c_w2 e_w2
    clear l_x l_v l_r l_m l_z
    go_ret
    exact ⟨rfl, hB⟩
end Go.Proofs.YtpkohfdebgiloaaDoor
