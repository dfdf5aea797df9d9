/- tabulalaw01.examples: true. -/
import Derived.Test.YtpkohfdebgiloaaDoorMade
import Derived.Test.YtpkohfdebgiloaaDoorSub
import Derived.Test.YtpkohfdebgiloaaDoorRound
namespace Go.Proofs.YtpkohfdebgiloaaDoor
open Go.RowKit Go.Shelf
theorem ex1_v : divD 1 0 3 0 = ((333333333, (-9)), 0) := by kernel_rfl
theorem ex1 (w : World) : Calls Tryd.prog 25 #[.agg #[.int .i64 1, .int .i64 0], .agg #[.int .i64 3, .int .i64 0]] w (DecPost ((333333333, (-9)), 0) w) := by
  have h := div_any 1 0 3 0 w (by decide) (by decide) (by decide) (by decide)
  rw [ex1_v] at h
  exact h
theorem ex2_v : mulD 5 (-9) 5 (-1) = ((2, (-9)), 0) := by kernel_rfl
theorem ex2 (w : World) : Calls Tryd.prog 23 #[.agg #[.int .i64 5, .int .i64 (-9)], .agg #[.int .i64 5, .int .i64 (-1)]] w (DecPost ((2, (-9)), 0) w) := by
  have h := mul_any 5 (-9) 5 (-1) w (by decide) (by decide) (by decide) (by decide)
  rw [ex2_v] at h
  exact h
theorem ex3_v : addD 999999999999999 0 1 0 = ((1000000, 9), 0) := by kernel_rfl
theorem ex3 (w : World) : Calls Tryd.prog 22 #[.agg #[.int .i64 999999999999999, .int .i64 0], .agg #[.int .i64 1, .int .i64 0]] w (DecPost ((1000000, 9), 0) w) := by
  have h := add_any 999999999999999 0 1 0 w (by decide) (by decide) (by decide) (by decide)
  rw [ex3_v] at h
  exact h
theorem ex4_v : subD 1 0 25 (-1) = (((-15), (-1)), 0) := by kernel_rfl
theorem ex4 (w : World) : Calls Tryd.prog 24 #[.agg #[.int .i64 1, .int .i64 0], .agg #[.int .i64 25, .int .i64 (-1)]] w (DecPost (((-15), (-1)), 0) w) := by
  have h := sub_any 1 0 25 (-1) w (by decide) (by decide) (by decide) (by decide)
  rw [ex4_v] at h
  exact h
theorem ex5_v : roundD 25 (-1) 0 = ((3, 0), 0) := by kernel_rfl
theorem ex5 (w : World) : Calls Tryd.prog 28 #[.agg #[.int .i64 25, .int .i64 (-1)], .int .i64 0] w (DecPost ((3, 0), 0) w) := by
  have h := round_any 25 (-1) 0 w (by decide) (by decide)
  rw [ex5_v] at h
  exact h
theorem ex6_v : roundD (-25) (-1) 0 = (((-3), 0), 0) := by kernel_rfl
theorem ex6 (w : World) : Calls Tryd.prog 28 #[.agg #[.int .i64 (-25), .int .i64 (-1)], .int .i64 0] w (DecPost (((-3), 0), 0) w) := by
  have h := round_any (-25) (-1) 0 w (by decide) (by decide)
  rw [ex6_v] at h
  exact h
theorem ex7_v : floorD (-15) (-1) = (-2, 0) := by kernel_rfl
theorem ex7 (w : World) : Calls Tryd.prog 26 #[.agg #[.int .i64 (-15), .int .i64 (-1)]] w (FloorPost (-2, 0) w) := by
  have h := floor_any (-15) (-1) w (by decide) (by decide)
  rw [ex7_v] at h
  exact h
theorem ex8_v : powD 2 0 (-2) = ((25, (-2)), 0) := by kernel_rfl
theorem ex8 (w : World) : Calls Tryd.prog 20 #[.agg #[.int .i64 2, .int .i64 0], .int .i64 (-2)] w (DecPost ((25, (-2)), 0) w) := by
  have h := pow_any 2 0 (-2) w (by decide) (by decide)
  rw [ex8_v] at h
  exact h
theorem ex9_v : textD 25 (-2) = ([48, 46, 50, 53], 0) := by kernel_rfl
theorem ex9 (w : World) : Calls Tryd.prog 29 #[.agg #[.int .i64 25, .int .i64 (-2)]] w (TextPost ([48, 46, 50, 53], 0) w) := by
  have h := text_any 25 (-2) w (by decide) (by decide)
  rw [ex9_v] at h
  exact h
theorem ex10_v : readD [45, 48, 48, 49, 50, 46, 53, 48] = (((-125), (-1)), 0) := by kernel_rfl
theorem ex10 (w : World) (hm : Shp w) : Calls Tryd.prog 13 #[.string ⟨#[45, 48, 48, 49, 50, 46, 53, 48]⟩] w (DecPost (((-125), (-1)), 0) w) := by
  have h := read_any ⟨#[45, 48, 48, 49, 50, 46, 53, 48]⟩ w (by decide) hm
  rw [show (⟨#[45, 48, 48, 49, 50, 46, 53, 48]⟩ : ByteArray).data.toList = [45, 48, 48, 49, 50, 46, 53, 48] from rfl, ex10_v] at h
  exact h
theorem ex11_v : readD [49, 46] = ((0, 0), 12) := by kernel_rfl
theorem ex11 (w : World) (hm : Shp w) : Calls Tryd.prog 13 #[.string ⟨#[49, 46]⟩] w (DecPost ((0, 0), 12) w) := by
  have h := read_any ⟨#[49, 46]⟩ w (by decide) hm
  rw [show (⟨#[49, 46]⟩ : ByteArray).data.toList = [49, 46] from rfl, ex11_v] at h
  exact h
theorem ex12_v : divD 333333333 (-9) 0 0 = ((0, 0), 11) := by kernel_rfl
theorem ex12 (w : World) : Calls Tryd.prog 25 #[.agg #[.int .i64 333333333, .int .i64 (-9)], .agg #[.int .i64 0, .int .i64 0]] w (DecPost ((0, 0), 11) w) := by
  have h := div_any 333333333 (-9) 0 0 w (by decide) (by decide) (by decide) (by decide)
  rw [ex12_v] at h
  exact h
theorem ex13_v : powD 1 9 3 = ((0, 0), 10) := by kernel_rfl
theorem ex13 (w : World) : Calls Tryd.prog 20 #[.agg #[.int .i64 1, .int .i64 9], .int .i64 3] w (DecPost ((0, 0), 10) w) := by
  have h := pow_any 1 9 3 w (by decide) (by decide)
  rw [ex13_v] at h
  exact h
theorem ex14_v : ofD (-1200) = ((-12, 2), 0) := by kernel_rfl
theorem ex14 (w : World) : Calls Tryd.prog 15 #[.int .i64 (-1200)] w (DecPost ((-12, 2), 0) w) := by
  have h := of_n (-1200) w (by decide) (by decide)
  rw [ex14_v] at h
  exact h
theorem ex15 (w : World) : Calls Tryd.prog 30 #[.agg #[.int .i64 (-12), .int .i64 2]] w fun e w' => e = .returned (.bool true) ∧ Below w.heap.size w w' := by
  have h := right_any (-12) 2 w (by decide) (by decide)
  rw [show rightB (-12) 2 = true from rfl] at h
  exact h
theorem ex16 (w : World) : Calls Tryd.prog 30 #[.agg #[.int .i64 10, .int .i64 0]] w fun e w' => e = .returned (.bool false) ∧ Below w.heap.size w w' := by
  have h := right_any 10 0 w (by decide) (by decide)
  rw [show rightB 10 0 = false from rfl] at h
  exact h
theorem ex17_v : cmpD (-125) (-1) (-12) 2 = 1 := by kernel_rfl
theorem ex17 (w : World) : Calls Tryd.prog 27 #[.agg #[.int .i64 (-125), .int .i64 (-1)], .agg #[.int .i64 (-12), .int .i64 2]] w (CmpPost 1 w) := by
  have h := cmp_any (-125) (-1) (-12) 2 w (by decide) (by decide) (by decide) (by decide)
  rw [ex17_v] at h
  exact h
set_option maxRecDepth 100000 in
set_option maxHeartbeats 8000000 in
theorem examples_any (w : World) (hm : Shp w) : Calls Tryd.prog 12 #[] w fun e w' => e = .returned (.bool true) ∧ Below w.heap.size w w' := by
  go_enter Tryd.func12, Tryd.ntmps12
  go_wp2_with fail
  have hB : Below w.heap.size w w := Below.refl _ _
  refine (ex1 _).mono ?_
  rintro e w1 ⟨rfl, hB1⟩
  have hB := hB.trans (hB1.mono hB.size)
  clear hB1
  --STAGE ex1
  have n_ex1 : World.dec (w1.alloc (.cells #[.int .i64 333333333, .int .i64 (-9)] 23)) w1.heap.size 333333333 (-9) := World.dec_new _ _ _ _ rfl
  have hB := hB.alloc hB.size (.cells #[.int .i64 333333333, .int .i64 (-9)] 23)
  have d_ex1 := n_ex1
  clear n_ex1
  go_wp2_with fail
  refine (ex2 _).mono ?_
  rintro e w1 ⟨rfl, hB1⟩
  have d_ex1 := d_ex1.below hB1 d_ex1.lt
  have hB := hB.trans (hB1.mono hB.size)
  clear hB1
  --STAGE ex2
  have n_ex2 : World.dec (w1.alloc (.cells #[.int .i64 2, .int .i64 (-9)] 23)) w1.heap.size 2 (-9) := World.dec_new _ _ _ _ rfl
  have d_ex1 := d_ex1.alloc (.cells #[.int .i64 2, .int .i64 (-9)] 23)
  have hB := hB.alloc hB.size (.cells #[.int .i64 2, .int .i64 (-9)] 23)
  have d_ex2 := n_ex2
  clear n_ex2
  go_wp2_with fail
  refine (ex3 _).mono ?_
  rintro e w1 ⟨rfl, hB1⟩
  have d_ex1 := d_ex1.below hB1 d_ex1.lt
  have d_ex2 := d_ex2.below hB1 d_ex2.lt
  have hB := hB.trans (hB1.mono hB.size)
  clear hB1
  --STAGE ex3
  have n_ex3 : World.dec (w1.alloc (.cells #[.int .i64 1000000, .int .i64 9] 23)) w1.heap.size 1000000 9 := World.dec_new _ _ _ _ rfl
  have d_ex1 := d_ex1.alloc (.cells #[.int .i64 1000000, .int .i64 9] 23)
  have d_ex2 := d_ex2.alloc (.cells #[.int .i64 1000000, .int .i64 9] 23)
  have hB := hB.alloc hB.size (.cells #[.int .i64 1000000, .int .i64 9] 23)
  have d_ex3 := n_ex3
  clear n_ex3
  go_wp2_with fail
  refine (ex4 _).mono ?_
  rintro e w1 ⟨rfl, hB1⟩
  have d_ex1 := d_ex1.below hB1 d_ex1.lt
  have d_ex2 := d_ex2.below hB1 d_ex2.lt
  have d_ex3 := d_ex3.below hB1 d_ex3.lt
  have hB := hB.trans (hB1.mono hB.size)
  clear hB1
  --STAGE ex4
  have n_ex4 : World.dec (w1.alloc (.cells #[.int .i64 (-15), .int .i64 (-1)] 23)) w1.heap.size (-15) (-1) := World.dec_new _ _ _ _ rfl
  have d_ex1 := d_ex1.alloc (.cells #[.int .i64 (-15), .int .i64 (-1)] 23)
  have d_ex2 := d_ex2.alloc (.cells #[.int .i64 (-15), .int .i64 (-1)] 23)
  have d_ex3 := d_ex3.alloc (.cells #[.int .i64 (-15), .int .i64 (-1)] 23)
  have hB := hB.alloc hB.size (.cells #[.int .i64 (-15), .int .i64 (-1)] 23)
  have d_ex4 := n_ex4
  clear n_ex4
  go_wp2_with fail
  refine (ex5 _).mono ?_
  rintro e w1 ⟨rfl, hB1⟩
  have d_ex1 := d_ex1.below hB1 d_ex1.lt
  have d_ex2 := d_ex2.below hB1 d_ex2.lt
  have d_ex3 := d_ex3.below hB1 d_ex3.lt
  have d_ex4 := d_ex4.below hB1 d_ex4.lt
  have hB := hB.trans (hB1.mono hB.size)
  clear hB1
  --STAGE ex5
  have n_ex5 : World.dec (w1.alloc (.cells #[.int .i64 3, .int .i64 0] 23)) w1.heap.size 3 0 := World.dec_new _ _ _ _ rfl
  have d_ex1 := d_ex1.alloc (.cells #[.int .i64 3, .int .i64 0] 23)
  have d_ex2 := d_ex2.alloc (.cells #[.int .i64 3, .int .i64 0] 23)
  have d_ex3 := d_ex3.alloc (.cells #[.int .i64 3, .int .i64 0] 23)
  have d_ex4 := d_ex4.alloc (.cells #[.int .i64 3, .int .i64 0] 23)
  have hB := hB.alloc hB.size (.cells #[.int .i64 3, .int .i64 0] 23)
  have d_ex5 := n_ex5
  clear n_ex5
  go_wp2_with fail
  refine (ex6 _).mono ?_
  rintro e w1 ⟨rfl, hB1⟩
  have d_ex1 := d_ex1.below hB1 d_ex1.lt
  have d_ex2 := d_ex2.below hB1 d_ex2.lt
  have d_ex3 := d_ex3.below hB1 d_ex3.lt
  have d_ex4 := d_ex4.below hB1 d_ex4.lt
  have d_ex5 := d_ex5.below hB1 d_ex5.lt
  have hB := hB.trans (hB1.mono hB.size)
  clear hB1
  --STAGE ex6
  have n_ex6 : World.dec (w1.alloc (.cells #[.int .i64 (-3), .int .i64 0] 23)) w1.heap.size (-3) 0 := World.dec_new _ _ _ _ rfl
  have d_ex1 := d_ex1.alloc (.cells #[.int .i64 (-3), .int .i64 0] 23)
  have d_ex2 := d_ex2.alloc (.cells #[.int .i64 (-3), .int .i64 0] 23)
  have d_ex3 := d_ex3.alloc (.cells #[.int .i64 (-3), .int .i64 0] 23)
  have d_ex4 := d_ex4.alloc (.cells #[.int .i64 (-3), .int .i64 0] 23)
  have d_ex5 := d_ex5.alloc (.cells #[.int .i64 (-3), .int .i64 0] 23)
  have hB := hB.alloc hB.size (.cells #[.int .i64 (-3), .int .i64 0] 23)
  have d_ex6 := n_ex6
  clear n_ex6
  have a0 := d_ex4.c0
  have a1 := d_ex4.c1
  go_wp2_with fail
  clear a0 a1
  refine (ex7 _).mono ?_
  rintro e w1 ⟨rfl, hB1⟩
  have d_ex1 := d_ex1.below hB1 d_ex1.lt
  have d_ex2 := d_ex2.below hB1 d_ex2.lt
  have d_ex3 := d_ex3.below hB1 d_ex3.lt
  have d_ex4 := d_ex4.below hB1 d_ex4.lt
  have d_ex5 := d_ex5.below hB1 d_ex5.lt
  have d_ex6 := d_ex6.below hB1 d_ex6.lt
  have hB := hB.trans (hB1.mono hB.size)
  clear hB1
  --STAGE ex7
  go_wp2_with fail
  refine (ex8 _).mono ?_
  rintro e w1 ⟨rfl, hB1⟩
  have d_ex1 := d_ex1.below hB1 d_ex1.lt
  have d_ex2 := d_ex2.below hB1 d_ex2.lt
  have d_ex3 := d_ex3.below hB1 d_ex3.lt
  have d_ex4 := d_ex4.below hB1 d_ex4.lt
  have d_ex5 := d_ex5.below hB1 d_ex5.lt
  have d_ex6 := d_ex6.below hB1 d_ex6.lt
  have hB := hB.trans (hB1.mono hB.size)
  clear hB1
  --STAGE ex8
  have n_ex8 : World.dec (w1.alloc (.cells #[.int .i64 25, .int .i64 (-2)] 23)) w1.heap.size 25 (-2) := World.dec_new _ _ _ _ rfl
  have d_ex1 := d_ex1.alloc (.cells #[.int .i64 25, .int .i64 (-2)] 23)
  have d_ex2 := d_ex2.alloc (.cells #[.int .i64 25, .int .i64 (-2)] 23)
  have d_ex3 := d_ex3.alloc (.cells #[.int .i64 25, .int .i64 (-2)] 23)
  have d_ex4 := d_ex4.alloc (.cells #[.int .i64 25, .int .i64 (-2)] 23)
  have d_ex5 := d_ex5.alloc (.cells #[.int .i64 25, .int .i64 (-2)] 23)
  have d_ex6 := d_ex6.alloc (.cells #[.int .i64 25, .int .i64 (-2)] 23)
  have hB := hB.alloc hB.size (.cells #[.int .i64 25, .int .i64 (-2)] 23)
  have d_ex8 := n_ex8
  clear n_ex8
  have a0 := d_ex8.c0
  have a1 := d_ex8.c1
  go_wp2_with fail
  clear a0 a1
  refine (ex9 _).mono ?_
  rintro e w1 ⟨rfl, hB1⟩
  have d_ex1 := d_ex1.below hB1 d_ex1.lt
  have d_ex2 := d_ex2.below hB1 d_ex2.lt
  have d_ex3 := d_ex3.below hB1 d_ex3.lt
  have d_ex4 := d_ex4.below hB1 d_ex4.lt
  have d_ex5 := d_ex5.below hB1 d_ex5.lt
  have d_ex6 := d_ex6.below hB1 d_ex6.lt
  have d_ex8 := d_ex8.below hB1 d_ex8.lt
  have hB := hB.trans (hB1.mono hB.size)
  clear hB1
  --STAGE ex9
  go_wp2_with fail
  refine (ex10 _ (hm.below hB)).mono ?_
  rintro e w1 ⟨rfl, hB1⟩
  have d_ex1 := d_ex1.below hB1 d_ex1.lt
  have d_ex2 := d_ex2.below hB1 d_ex2.lt
  have d_ex3 := d_ex3.below hB1 d_ex3.lt
  have d_ex4 := d_ex4.below hB1 d_ex4.lt
  have d_ex5 := d_ex5.below hB1 d_ex5.lt
  have d_ex6 := d_ex6.below hB1 d_ex6.lt
  have d_ex8 := d_ex8.below hB1 d_ex8.lt
  have hB := hB.trans (hB1.mono hB.size)
  clear hB1
  --STAGE ex10
  have n_ex10 : World.dec (w1.alloc (.cells #[.int .i64 (-125), .int .i64 (-1)] 23)) w1.heap.size (-125) (-1) := World.dec_new _ _ _ _ rfl
  have d_ex1 := d_ex1.alloc (.cells #[.int .i64 (-125), .int .i64 (-1)] 23)
  have d_ex2 := d_ex2.alloc (.cells #[.int .i64 (-125), .int .i64 (-1)] 23)
  have d_ex3 := d_ex3.alloc (.cells #[.int .i64 (-125), .int .i64 (-1)] 23)
  have d_ex4 := d_ex4.alloc (.cells #[.int .i64 (-125), .int .i64 (-1)] 23)
  have d_ex5 := d_ex5.alloc (.cells #[.int .i64 (-125), .int .i64 (-1)] 23)
  have d_ex6 := d_ex6.alloc (.cells #[.int .i64 (-125), .int .i64 (-1)] 23)
  have d_ex8 := d_ex8.alloc (.cells #[.int .i64 (-125), .int .i64 (-1)] 23)
  have hB := hB.alloc hB.size (.cells #[.int .i64 (-125), .int .i64 (-1)] 23)
  have d_ex10 := n_ex10
  clear n_ex10
  go_wp2_with fail
  refine (ex11 _ (hm.below hB)).mono ?_
  rintro e w1 ⟨rfl, hB1⟩
  have d_ex1 := d_ex1.below hB1 d_ex1.lt
  have d_ex2 := d_ex2.below hB1 d_ex2.lt
  have d_ex3 := d_ex3.below hB1 d_ex3.lt
  have d_ex4 := d_ex4.below hB1 d_ex4.lt
  have d_ex5 := d_ex5.below hB1 d_ex5.lt
  have d_ex6 := d_ex6.below hB1 d_ex6.lt
  have d_ex8 := d_ex8.below hB1 d_ex8.lt
  have d_ex10 := d_ex10.below hB1 d_ex10.lt
  have hB := hB.trans (hB1.mono hB.size)
  clear hB1
  --STAGE ex11
  have n_ex11 : World.dec (w1.alloc (.cells #[.int .i64 0, .int .i64 0] 23)) w1.heap.size 0 0 := World.dec_new _ _ _ _ rfl
  have d_ex1 := d_ex1.alloc (.cells #[.int .i64 0, .int .i64 0] 23)
  have d_ex2 := d_ex2.alloc (.cells #[.int .i64 0, .int .i64 0] 23)
  have d_ex3 := d_ex3.alloc (.cells #[.int .i64 0, .int .i64 0] 23)
  have d_ex4 := d_ex4.alloc (.cells #[.int .i64 0, .int .i64 0] 23)
  have d_ex5 := d_ex5.alloc (.cells #[.int .i64 0, .int .i64 0] 23)
  have d_ex6 := d_ex6.alloc (.cells #[.int .i64 0, .int .i64 0] 23)
  have d_ex8 := d_ex8.alloc (.cells #[.int .i64 0, .int .i64 0] 23)
  have d_ex10 := d_ex10.alloc (.cells #[.int .i64 0, .int .i64 0] 23)
  have hB := hB.alloc hB.size (.cells #[.int .i64 0, .int .i64 0] 23)
  clear n_ex11
  have a0 := d_ex1.c0
  have a1 := d_ex1.c1
  go_wp2_with fail
  clear a0 a1
  refine (ex12 _).mono ?_
  rintro e w1 ⟨rfl, hB1⟩
  have d_ex1 := d_ex1.below hB1 d_ex1.lt
  have d_ex2 := d_ex2.below hB1 d_ex2.lt
  have d_ex3 := d_ex3.below hB1 d_ex3.lt
  have d_ex4 := d_ex4.below hB1 d_ex4.lt
  have d_ex5 := d_ex5.below hB1 d_ex5.lt
  have d_ex6 := d_ex6.below hB1 d_ex6.lt
  have d_ex8 := d_ex8.below hB1 d_ex8.lt
  have d_ex10 := d_ex10.below hB1 d_ex10.lt
  have hB := hB.trans (hB1.mono hB.size)
  clear hB1
  --STAGE ex12
  have n_ex12 : World.dec (w1.alloc (.cells #[.int .i64 0, .int .i64 0] 23)) w1.heap.size 0 0 := World.dec_new _ _ _ _ rfl
  have d_ex1 := d_ex1.alloc (.cells #[.int .i64 0, .int .i64 0] 23)
  have d_ex2 := d_ex2.alloc (.cells #[.int .i64 0, .int .i64 0] 23)
  have d_ex3 := d_ex3.alloc (.cells #[.int .i64 0, .int .i64 0] 23)
  have d_ex4 := d_ex4.alloc (.cells #[.int .i64 0, .int .i64 0] 23)
  have d_ex5 := d_ex5.alloc (.cells #[.int .i64 0, .int .i64 0] 23)
  have d_ex6 := d_ex6.alloc (.cells #[.int .i64 0, .int .i64 0] 23)
  have d_ex8 := d_ex8.alloc (.cells #[.int .i64 0, .int .i64 0] 23)
  have d_ex10 := d_ex10.alloc (.cells #[.int .i64 0, .int .i64 0] 23)
  have hB := hB.alloc hB.size (.cells #[.int .i64 0, .int .i64 0] 23)
  clear n_ex12
  go_wp2_with fail
  refine (ex13 _).mono ?_
  rintro e w1 ⟨rfl, hB1⟩
  have d_ex1 := d_ex1.below hB1 d_ex1.lt
  have d_ex2 := d_ex2.below hB1 d_ex2.lt
  have d_ex3 := d_ex3.below hB1 d_ex3.lt
  have d_ex4 := d_ex4.below hB1 d_ex4.lt
  have d_ex5 := d_ex5.below hB1 d_ex5.lt
  have d_ex6 := d_ex6.below hB1 d_ex6.lt
  have d_ex8 := d_ex8.below hB1 d_ex8.lt
  have d_ex10 := d_ex10.below hB1 d_ex10.lt
  have hB := hB.trans (hB1.mono hB.size)
  clear hB1
  --STAGE ex13
  have n_ex13 : World.dec (w1.alloc (.cells #[.int .i64 0, .int .i64 0] 23)) w1.heap.size 0 0 := World.dec_new _ _ _ _ rfl
  have d_ex1 := d_ex1.alloc (.cells #[.int .i64 0, .int .i64 0] 23)
  have d_ex2 := d_ex2.alloc (.cells #[.int .i64 0, .int .i64 0] 23)
  have d_ex3 := d_ex3.alloc (.cells #[.int .i64 0, .int .i64 0] 23)
  have d_ex4 := d_ex4.alloc (.cells #[.int .i64 0, .int .i64 0] 23)
  have d_ex5 := d_ex5.alloc (.cells #[.int .i64 0, .int .i64 0] 23)
  have d_ex6 := d_ex6.alloc (.cells #[.int .i64 0, .int .i64 0] 23)
  have d_ex8 := d_ex8.alloc (.cells #[.int .i64 0, .int .i64 0] 23)
  have d_ex10 := d_ex10.alloc (.cells #[.int .i64 0, .int .i64 0] 23)
  have hB := hB.alloc hB.size (.cells #[.int .i64 0, .int .i64 0] 23)
  clear n_ex13
  go_wp2_with fail
  refine (ex14 _).mono ?_
  rintro e w1 ⟨rfl, hB1⟩
  have d_ex1 := d_ex1.below hB1 d_ex1.lt
  have d_ex2 := d_ex2.below hB1 d_ex2.lt
  have d_ex3 := d_ex3.below hB1 d_ex3.lt
  have d_ex4 := d_ex4.below hB1 d_ex4.lt
  have d_ex5 := d_ex5.below hB1 d_ex5.lt
  have d_ex6 := d_ex6.below hB1 d_ex6.lt
  have d_ex8 := d_ex8.below hB1 d_ex8.lt
  have d_ex10 := d_ex10.below hB1 d_ex10.lt
  have hB := hB.trans (hB1.mono hB.size)
  clear hB1
  have c_ex1 := d_ex1.c0
  have e_ex1 := d_ex1.c1
  have l_ex1 := d_ex1.lt
  have c_ex2 := d_ex2.c0
  have e_ex2 := d_ex2.c1
  have l_ex2 := d_ex2.lt
  have c_ex3 := d_ex3.c0
  have e_ex3 := d_ex3.c1
  have l_ex3 := d_ex3.lt
  have c_ex4 := d_ex4.c0
  have e_ex4 := d_ex4.c1
  have l_ex4 := d_ex4.lt
  have c_ex5 := d_ex5.c0
  have e_ex5 := d_ex5.c1
  have l_ex5 := d_ex5.lt
  have c_ex6 := d_ex6.c0
  have e_ex6 := d_ex6.c1
  have l_ex6 := d_ex6.lt
  have c_ex8 := d_ex8.c0
  have e_ex8 := d_ex8.c1
  have l_ex8 := d_ex8.lt
  have c_ex10 := d_ex10.c0
  have e_ex10 := d_ex10.c1
  have l_ex10 := d_ex10.lt
  go_wp2_with fail
  clear c_ex1 e_ex1 l_ex1 c_ex2 e_ex2 l_ex2 c_ex3 e_ex3 l_ex3 c_ex4 e_ex4 l_ex4 c_ex5 e_ex5 l_ex5 c_ex6 e_ex6 l_ex6 c_ex8 e_ex8 l_ex8 c_ex10 e_ex10 l_ex10
  have hB := hB.alloc hB.size (.cells #[.int .i64 (-12), .int .i64 2] 23)
  have d_ex14 := World.dec_new w1 (-12) 2 _ rfl
  have d_ex10 := d_ex10.alloc (.cells #[.int .i64 (-12), .int .i64 2] 23)
  clear d_ex1 d_ex2 d_ex3 d_ex4 d_ex5 d_ex6 d_ex8
  refine (ex15 _).mono ?_
  rintro e w1 ⟨rfl, hB1⟩
  have d_ex14 := d_ex14.below hB1 d_ex14.lt
  have d_ex10 := d_ex10.below hB1 d_ex10.lt
  have hB := hB.trans (hB1.mono hB.size)
  clear hB1
  have a0 := d_ex14.c0
  have a1 := d_ex14.c1
  have b0 := d_ex10.c0
  have b1 := d_ex10.c1
  go_wp2_with fail
  clear a0 a1 b0 b1
  refine (ex16 _).mono ?_
  rintro e w1 ⟨rfl, hB1⟩
  have d_ex14 := d_ex14.below hB1 d_ex14.lt
  have d_ex10 := d_ex10.below hB1 d_ex10.lt
  have hB := hB.trans (hB1.mono hB.size)
  clear hB1
  have a0 := d_ex14.c0
  have a1 := d_ex14.c1
  have b0 := d_ex10.c0
  have b1 := d_ex10.c1
  go_wp2_with fail
  clear a0 a1 b0 b1
  refine (ex17 _).mono ?_
  rintro e w1 ⟨rfl, hB1⟩
  have hB := hB.trans (hB1.mono hB.size)
  go_wp2_with fail
  go_ret
  exact ⟨rfl, hB⟩
end Go.Proofs.YtpkohfdebgiloaaDoor
