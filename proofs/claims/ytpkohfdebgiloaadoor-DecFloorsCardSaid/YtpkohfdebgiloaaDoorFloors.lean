/- The walk of DecFloors: true. -/
import Derived.Test.YtpkohfdebgiloaaDoorWorth4
namespace Go.Proofs.YtpkohfdebgiloaaDoor
open Go.RowKit Go.Shelf

set_option maxRecDepth 100000 in
set_option maxHeartbeats 8000000 in
theorem floors_err (A1 A2 : Int) (w : World) (hm : Shp w) (hA10 : -9223372036854775808 ≤ A1) (hA11 : A1 ≤ 9223372036854775807) (hA20 : -9223372036854775808 ≤ A2) (hA21 : A2 ≤ 9223372036854775807) (x y : Int) (hx : RightP (x, y)) (hA : madeP A1 A2 = (x, y)) (gf : floorD x y = (0, 10)) (he : 0 < y) :
    Calls Tryd.prog 10 #[.agg #[.int .i64 A1, .int .i64 A2]] w fun e w' => e = .returned (.bool true) ∧ Below w.heap.size w w' := by
  obtain ⟨x0, x1, y0, y1, _⟩ := hx
  simp only at x0 x1 y0 y1
  have CA := fun w => made_any A1 A2 w hA10 hA11 hA20 hA21
  rw [hA] at CA
  have CF := fun w => floor_any x y w (by omega) (by omega)
  rw [gf] at CF
  clear hA gf
  have KA := Lib.hid CA
  clear CA
  have KF := Lib.hid CF
  clear CF
  go_enter Tryd.func10, Tryd.ntmps10
  go_wp2_with fail
  obtain ⟨W, hW⟩ : ∃ W, W = w.alloc (.cells #[.int .i64 A1, .int .i64 A2] 23) := ⟨_, rfl⟩
  rw [← hW]
  have d_A1 : World.dec W (w.heap.size) A1 A2 := by rw [hW]; exact World.dec_new w A1 A2 _ rfl
  have hB : Below w.heap.size w W := by rw [hW]; exact ((Below.refl _ w).alloc (Nat.le_refl _) _)
  clear hW
  refine (examples_any _ (hm.below hB)).mono ?_
  rintro e w1 ⟨rfl, hB1⟩
  have d_A1 := d_A1.below hB1 d_A1.lt
  have hB := hB.trans (hB1.mono hB.size)
  clear hB1
  have c_A1 := d_A1.c0
  have e_A1 := d_A1.c1
  go_wp2_with fail
  clear c_A1 e_A1
  refine (KA.out _).mono ?_
  rintro e w1 ⟨rfl, hB1⟩
  have d_A1 := d_A1.below hB1 d_A1.lt
  have hB := hB.trans (hB1.mono hB.size)
  clear hB1
  have d_x : World.dec (w1.alloc (.cells #[.int .i64 x, .int .i64 y] 23)) (w1.heap.size) x y := World.dec_new _ _ _ _ rfl
  have l_A1 := d_A1.lt
  have d_A1 := d_A1.alloc (.cells #[.int .i64 x, .int .i64 y] 23)
  have hB := hB.alloc hB.size (.cells #[.int .i64 x, .int .i64 y] 23)
  clear d_A1
  have c_x := d_x.c0
  have e_x := d_x.c1
  go_wp2_with fail
  clear c_x e_x
  clear l_A1
  refine (KF.out _).mono ?_
  rintro e w1 ⟨rfl, hB1⟩
  have d_x := d_x.below hB1 d_x.lt
  have hB := hB.trans (hB1.mono hB.size)
  clear hB1
  have c_x := d_x.c0
  have e_x := d_x.c1
  go_wp2_with fail
  clear c_x e_x
  go_ret
  exact ⟨rfl, hB⟩

set_option maxRecDepth 100000 in
set_option maxHeartbeats 8000000 in
theorem floors_two (A1 A2 : Int) (w : World) (hm : Shp w) (hA10 : -9223372036854775808 ≤ A1) (hA11 : A1 ≤ 9223372036854775807) (hA20 : -9223372036854775808 ≤ A2) (hA21 : A2 ≤ 9223372036854775807) (x y : Int) (hx : RightP (x, y)) (hA : madeP A1 A2 = (x, y)) (q v1 v2 : Int) (gf : floorD x y = (q, 0)) (q0 : -999999999999999 ≤ q) (q1 : q ≤ 999999999999999) (gw : ofD q = ((v1, v2), 0)) (hw : RightP (v1, v2)) (gc : cmpD v1 v2 x y ≤ 0) (m1 m2 : Int) (gm : ofD (q + 1) = ((m1, m2), 0)) (hM : RightP (m1, m2)) (gd : cmpD x y m1 m2 < 0) :
    Calls Tryd.prog 10 #[.agg #[.int .i64 A1, .int .i64 A2]] w fun e w' => e = .returned (.bool true) ∧ Below w.heap.size w w' := by
  obtain ⟨x0, x1, y0, y1, _⟩ := hx
  obtain ⟨a0, a1, a2, a3, _⟩ := hw
  simp only at x0 x1 y0 y1 a0 a1 a2 a3
  obtain ⟨b0, b1, b2, b3, _⟩ := hM
  simp only at b0 b1 b2 b3
  have CA := fun w => made_any A1 A2 w hA10 hA11 hA20 hA21
  rw [hA] at CA
  have CF := fun w => floor_any x y w (by omega) (by omega)
  rw [gf] at CF
  have CW := fun w => of_n q w (by omega) (by omega)
  rw [gw] at CW
  have CM := fun w => of_n (q + 1) w (by omega) (by omega)
  rw [gm] at CM
  have C1 := fun w => cmp_any v1 v2 x y w (by omega) (by omega) (by omega) (by omega)
  have C2 := fun w => cmp_any x y m1 m2 w (by omega) (by omega) (by omega) (by omega)
  obtain ⟨c1, hc1⟩ : ∃ c, c = cmpD v1 v2 x y := ⟨_, rfl⟩
  rw [← hc1] at C1 gc
  obtain ⟨c2, hc2⟩ : ∃ c, c = cmpD x y m1 m2 := ⟨_, rfl⟩
  rw [← hc2] at C2 gd
  clear hc2
  clear hA gf gw gm hc1
  have KA := Lib.hid CA
  clear CA
  have KF := Lib.hid CF
  clear CF
  have KW := Lib.hid CW
  clear CW
  have KM := Lib.hid CM
  clear CM
  have K1 := Lib.hid C1
  clear C1
  have K2 := Lib.hid C2
  clear C2
  go_enter Tryd.func10, Tryd.ntmps10
  go_wp2_with fail
  obtain ⟨W, hW⟩ : ∃ W, W = w.alloc (.cells #[.int .i64 A1, .int .i64 A2] 23) := ⟨_, rfl⟩
  rw [← hW]
  have d_A1 : World.dec W (w.heap.size) A1 A2 := by rw [hW]; exact World.dec_new w A1 A2 _ rfl
  have hB : Below w.heap.size w W := by rw [hW]; exact ((Below.refl _ w).alloc (Nat.le_refl _) _)
  clear hW
  refine (examples_any _ (hm.below hB)).mono ?_
  rintro e w1 ⟨rfl, hB1⟩
  have d_A1 := d_A1.below hB1 d_A1.lt
  have hB := hB.trans (hB1.mono hB.size)
  clear hB1
  have c_A1 := d_A1.c0
  have e_A1 := d_A1.c1
  go_wp2_with fail
  clear c_A1 e_A1
  refine (KA.out _).mono ?_
  rintro e w1 ⟨rfl, hB1⟩
  have d_A1 := d_A1.below hB1 d_A1.lt
  have hB := hB.trans (hB1.mono hB.size)
  clear hB1
  have d_x : World.dec (w1.alloc (.cells #[.int .i64 x, .int .i64 y] 23)) (w1.heap.size) x y := World.dec_new _ _ _ _ rfl
  have l_A1 := d_A1.lt
  have d_A1 := d_A1.alloc (.cells #[.int .i64 x, .int .i64 y] 23)
  have hB := hB.alloc hB.size (.cells #[.int .i64 x, .int .i64 y] 23)
  clear d_A1
  have c_x := d_x.c0
  have e_x := d_x.c1
  go_wp2_with fail
  clear c_x e_x
  clear l_A1
  refine (KF.out _).mono ?_
  rintro e w1 ⟨rfl, hB1⟩
  have d_x := d_x.below hB1 d_x.lt
  have hB := hB.trans (hB1.mono hB.size)
  clear hB1
  have c_x := d_x.c0
  have e_x := d_x.c1
  go_wp2_with fail
  clear c_x e_x
  refine (KW.out _).mono ?_
  rintro e w1 ⟨rfl, hB1⟩
  have d_x := d_x.below hB1 d_x.lt
  have hB := hB.trans (hB1.mono hB.size)
  clear hB1
  have d_v : World.dec (w1.alloc (.cells #[.int .i64 v1, .int .i64 v2] 23)) (w1.heap.size) v1 v2 := World.dec_new _ _ _ _ rfl
  have l_x := d_x.lt
  have d_x := d_x.alloc (.cells #[.int .i64 v1, .int .i64 v2] 23)
  have hB := hB.alloc hB.size (.cells #[.int .i64 v1, .int .i64 v2] 23)
  have c_x := d_x.c0
  have e_x := d_x.c1
  go_wp2_with fail
  clear c_x e_x
  clear l_x
  refine (KM.out _).mono ?_
  rintro e w1 ⟨rfl, hB1⟩
  have d_x := d_x.below hB1 d_x.lt
  have d_v := d_v.below hB1 d_v.lt
  have hB := hB.trans (hB1.mono hB.size)
  clear hB1
  have d_m : World.dec (w1.alloc (.cells #[.int .i64 m1, .int .i64 m2] 23)) (w1.heap.size) m1 m2 := World.dec_new _ _ _ _ rfl
  have l_x := d_x.lt
  have d_x := d_x.alloc (.cells #[.int .i64 m1, .int .i64 m2] 23)
  have l_v := d_v.lt
  have d_v := d_v.alloc (.cells #[.int .i64 m1, .int .i64 m2] 23)
  have hB := hB.alloc hB.size (.cells #[.int .i64 m1, .int .i64 m2] 23)
  have c_x := d_x.c0
  have e_x := d_x.c1
  have c_v := d_v.c0
  have e_v := d_v.c1
  have c_m := d_m.c0
  have e_m := d_m.c1
  go_wp2_with fail
  clear c_x e_x c_v e_v c_m e_m
  clear l_x l_v
  refine (K1.out _).mono ?_
  rintro e w1 ⟨rfl, hB1⟩
  have d_x := d_x.below hB1 d_x.lt
  have d_v := d_v.below hB1 d_v.lt
  have d_m := d_m.below hB1 d_m.lt
  have hB := hB.trans (hB1.mono hB.size)
  clear hB1
  have c_x := d_x.c0
  have e_x := d_x.c1
  have c_v := d_v.c0
  have e_v := d_v.c1
  have c_m := d_m.c0
  have e_m := d_m.c1
  go_wp2_with fail
  clear c_x e_x c_v e_v c_m e_m
  refine (K2.out _).mono ?_
  rintro e w1 ⟨rfl, hB1⟩
  have d_x := d_x.below hB1 d_x.lt
  have d_v := d_v.below hB1 d_v.lt
  have d_m := d_m.below hB1 d_m.lt
  have hB := hB.trans (hB1.mono hB.size)
  clear hB1
  go_wp2_with fail
  go_ret
  exact ⟨rfl, hB⟩

set_option maxRecDepth 100000 in
set_option maxHeartbeats 8000000 in
theorem floors_one (A1 A2 : Int) (w : World) (hm : Shp w) (hA10 : -9223372036854775808 ≤ A1) (hA11 : A1 ≤ 9223372036854775807) (hA20 : -9223372036854775808 ≤ A2) (hA21 : A2 ≤ 9223372036854775807) (x y : Int) (hx : RightP (x, y)) (hA : madeP A1 A2 = (x, y)) (q v1 v2 : Int) (gf : floorD x y = (q, 0)) (q0 : -999999999999999 ≤ q) (q1 : q ≤ 999999999999999) (gw : ofD q = ((v1, v2), 0)) (hw : RightP (v1, v2)) (gc : cmpD v1 v2 x y ≤ 0) (gm : ofD (q + 1) = ((0, 0), 10)) :
    Calls Tryd.prog 10 #[.agg #[.int .i64 A1, .int .i64 A2]] w fun e w' => e = .returned (.bool true) ∧ Below w.heap.size w w' := by
  obtain ⟨x0, x1, y0, y1, _⟩ := hx
  obtain ⟨a0, a1, a2, a3, _⟩ := hw
  simp only at x0 x1 y0 y1 a0 a1 a2 a3
  have CA := fun w => made_any A1 A2 w hA10 hA11 hA20 hA21
  rw [hA] at CA
  have CF := fun w => floor_any x y w (by omega) (by omega)
  rw [gf] at CF
  have CW := fun w => of_n q w (by omega) (by omega)
  rw [gw] at CW
  have CM := fun w => of_n (q + 1) w (by omega) (by omega)
  rw [gm] at CM
  have C1 := fun w => cmp_any v1 v2 x y w (by omega) (by omega) (by omega) (by omega)
  obtain ⟨c1, hc1⟩ : ∃ c, c = cmpD v1 v2 x y := ⟨_, rfl⟩
  rw [← hc1] at C1 gc
  clear hA gf gw gm hc1
  have KA := Lib.hid CA
  clear CA
  have KF := Lib.hid CF
  clear CF
  have KW := Lib.hid CW
  clear CW
  have KM := Lib.hid CM
  clear CM
  have K1 := Lib.hid C1
  clear C1
  go_enter Tryd.func10, Tryd.ntmps10
  go_wp2_with fail
  obtain ⟨W, hW⟩ : ∃ W, W = w.alloc (.cells #[.int .i64 A1, .int .i64 A2] 23) := ⟨_, rfl⟩
  rw [← hW]
  have d_A1 : World.dec W (w.heap.size) A1 A2 := by rw [hW]; exact World.dec_new w A1 A2 _ rfl
  have hB : Below w.heap.size w W := by rw [hW]; exact ((Below.refl _ w).alloc (Nat.le_refl _) _)
  clear hW
  refine (examples_any _ (hm.below hB)).mono ?_
  rintro e w1 ⟨rfl, hB1⟩
  have d_A1 := d_A1.below hB1 d_A1.lt
  have hB := hB.trans (hB1.mono hB.size)
  clear hB1
  have c_A1 := d_A1.c0
  have e_A1 := d_A1.c1
  go_wp2_with fail
  clear c_A1 e_A1
  refine (KA.out _).mono ?_
  rintro e w1 ⟨rfl, hB1⟩
  have d_A1 := d_A1.below hB1 d_A1.lt
  have hB := hB.trans (hB1.mono hB.size)
  clear hB1
  have d_x : World.dec (w1.alloc (.cells #[.int .i64 x, .int .i64 y] 23)) (w1.heap.size) x y := World.dec_new _ _ _ _ rfl
  have l_A1 := d_A1.lt
  have d_A1 := d_A1.alloc (.cells #[.int .i64 x, .int .i64 y] 23)
  have hB := hB.alloc hB.size (.cells #[.int .i64 x, .int .i64 y] 23)
  clear d_A1
  have c_x := d_x.c0
  have e_x := d_x.c1
  go_wp2_with fail
  clear c_x e_x
  clear l_A1
  refine (KF.out _).mono ?_
  rintro e w1 ⟨rfl, hB1⟩
  have d_x := d_x.below hB1 d_x.lt
  have hB := hB.trans (hB1.mono hB.size)
  clear hB1
  have c_x := d_x.c0
  have e_x := d_x.c1
  go_wp2_with fail
  clear c_x e_x
  refine (KW.out _).mono ?_
  rintro e w1 ⟨rfl, hB1⟩
  have d_x := d_x.below hB1 d_x.lt
  have hB := hB.trans (hB1.mono hB.size)
  clear hB1
  have d_v : World.dec (w1.alloc (.cells #[.int .i64 v1, .int .i64 v2] 23)) (w1.heap.size) v1 v2 := World.dec_new _ _ _ _ rfl
  have l_x := d_x.lt
  have d_x := d_x.alloc (.cells #[.int .i64 v1, .int .i64 v2] 23)
  have hB := hB.alloc hB.size (.cells #[.int .i64 v1, .int .i64 v2] 23)
  have c_x := d_x.c0
  have e_x := d_x.c1
  go_wp2_with fail
  clear c_x e_x
  clear l_x
  refine (KM.out _).mono ?_
  rintro e w1 ⟨rfl, hB1⟩
  have d_x := d_x.below hB1 d_x.lt
  have d_v := d_v.below hB1 d_v.lt
  have hB := hB.trans (hB1.mono hB.size)
  clear hB1
  have d_m : World.dec (w1.alloc (.cells #[.int .i64 0, .int .i64 0] 23)) (w1.heap.size) 0 0 := World.dec_new _ _ _ _ rfl
  have l_x := d_x.lt
  have d_x := d_x.alloc (.cells #[.int .i64 0, .int .i64 0] 23)
  have l_v := d_v.lt
  have d_v := d_v.alloc (.cells #[.int .i64 0, .int .i64 0] 23)
  have hB := hB.alloc hB.size (.cells #[.int .i64 0, .int .i64 0] 23)
  have c_x := d_x.c0
  have e_x := d_x.c1
  have c_v := d_v.c0
  have e_v := d_v.c1
  have c_m := d_m.c0
  have e_m := d_m.c1
  go_wp2_with fail
  clear c_x e_x c_v e_v c_m e_m
  clear l_x l_v
  refine (K1.out _).mono ?_
  rintro e w1 ⟨rfl, hB1⟩
  have d_x := d_x.below hB1 d_x.lt
  have d_v := d_v.below hB1 d_v.lt
  have d_m := d_m.below hB1 d_m.lt
  have hB := hB.trans (hB1.mono hB.size)
  clear hB1
  have c_x := d_x.c0
  have e_x := d_x.c1
  have c_v := d_v.c0
  have e_v := d_v.c1
  have c_m := d_m.c0
  have e_m := d_m.c1
  go_wp2_with fail
  clear c_x e_x c_v e_v c_m e_m
  go_ret
  exact ⟨rfl, hB⟩

theorem floors_walk (A1 A2 : Int) (w : World) (hm : Shp w) (hA10 : -9223372036854775808 ≤ A1) (hA11 : A1 ≤ 9223372036854775807) (hA20 : -9223372036854775808 ≤ A2) (hA21 : A2 ≤ 9223372036854775807) :
    Calls Tryd.prog 10 #[.agg #[.int .i64 A1, .int .i64 A2]] w fun e w' => e = .returned (.bool true) ∧ Below w.heap.size w w' := by
  have hx := madeP_right A1 A2
  obtain ⟨⟨x, y⟩, hp⟩ : ∃ p, madeP A1 A2 = p := ⟨_, rfl⟩
  rw [hp] at hx
  rcases floors_plain hx with ⟨q, g1, g2, g3, v1, v2, g4, g5, g6, ⟨m1, m2, g7, g8, g9⟩ | g7⟩ | ⟨g1, g2⟩
  · exact floors_two A1 A2 w hm hA10 hA11 hA20 hA21 x y hx hp q v1 v2 g1 g2 g3 g4 g5 g6 m1 m2 g7 g8 g9
  · exact floors_one A1 A2 w hm hA10 hA11 hA20 hA21 x y hx hp q v1 v2 g1 g2 g3 g4 g5 g6 g7
  · exact floors_err A1 A2 w hm hA10 hA11 hA20 hA21 x y hx hp g1 g2
end Go.Proofs.YtpkohfdebgiloaaDoor
