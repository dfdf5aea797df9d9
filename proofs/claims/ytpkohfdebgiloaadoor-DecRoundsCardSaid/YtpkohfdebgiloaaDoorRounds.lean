/- The walk of DecRounds: true. -/
import Derived.Test.YtpkohfdebgiloaaDoorWorth4
namespace Go.Proofs.YtpkohfdebgiloaaDoor
open Go.RowKit Go.Shelf

set_option maxRecDepth 100000 in
set_option maxHeartbeats 8000000 in
theorem rounds_neg (A1 A2 n : Int) (w : World) (hm : Shp w) (hA10 : -9223372036854775808 ≤ A1) (hA11 : A1 ≤ 9223372036854775807) (hA20 : -9223372036854775808 ≤ A2) (hA21 : A2 ≤ 9223372036854775807) (hn0 : -9223372036854775808 ≤ n) (hn1 : n ≤ 9223372036854775807) (x y k r1 r2 d1 d2 t1 t2 : Int) (hx : RightP (x, y)) (hr : RightP (r1, r2)) (hd : RightP (d1, d2)) (ht : RightP (t1, t2)) (hk : pickI n 19 - 9 = k) (k0 : -9 ≤ k) (k1 : k ≤ 9) (hA : madeP A1 A2 = (x, y)) (g1 : roundD x y k = ((r1, r2), 0)) (g2 : roundD x y 9 = ((x, y), 0)) (g3 : roundD r1 r2 k = ((r1, r2), 0)) (g4 : subD r1 r2 x y = ((d1, d2), 0)) (g5 : addD (-d1) d2 (-d1) d2 = ((t1, t2), 0)) (g6 : cmpD t1 t2 1 (-k) ≤ 0) (g7 : r1 = 0 ∨ -k ≤ r2) (hneg : d1 < 0) :
    Calls Tryd.prog 9 #[.agg #[.int .i64 A1, .int .i64 A2], .int .i64 n] w fun e w' => e = .returned (.bool true) ∧ Below w.heap.size w w' := by
  obtain ⟨x0, x1, y0, y1, _⟩ := hx
  obtain ⟨a0, a1, a2, a3, _⟩ := hr
  obtain ⟨b0, b1, b2, b3, _⟩ := hd
  obtain ⟨c0, c1, c2, c3, _⟩ := ht
  simp only at x0 x1 y0 y1 a0 a1 a2 a3 b0 b1 b2 b3 c0 c1 c2 c3
  have CA := fun w => made_any A1 A2 w hA10 hA11 hA20 hA21
  rw [hA] at CA
  have CP := fun w => pick_any n 19 w hn0 hn1 (by decide) (by decide)
  have C1 := fun w => round_any x y k w (by omega) (by omega)
  rw [g1] at C1
  have C2 := fun w => round_any x y 9 w (by omega) (by omega)
  rw [g2] at C2
  have C3 := fun w => round_any r1 r2 k w (by omega) (by omega)
  rw [g3] at C3
  have C4 := fun w => sub_any r1 r2 x y w (by omega) (by omega) (by omega) (by omega)
  rw [g4] at C4
  have C5 := fun w => add_any (-d1) d2 (-d1) d2 w (by omega) (by omega) (by omega) (by omega)
  rw [g5] at C5
  have C6 := fun w => cmp_any t1 t2 1 (-k) w (by omega) (by omega) (by omega) (by omega)
  obtain ⟨pk, hpk⟩ : ∃ pk, pk = pickI n 19 := ⟨_, rfl⟩
  rw [← hpk] at CP hk
  obtain ⟨cv, hcv⟩ : ∃ cv, cv = cmpD t1 t2 1 (-k) := ⟨_, rfl⟩
  rw [← hcv] at C6 g6
  subst hk
  have hre : (r1 == 0) = true ∨ (r1 == 0) = false ∧ -(pk - 9) ≤ r2 := by
    by_cases c : r1 = 0
    · left; simpa using c
    · right; exact ⟨by simpa using c, by omega⟩
  have HRE := Lib.hid hre
  clear hA g1 g2 g3 g4 g5 g7 hpk hcv hre
  have KA := Lib.hid CA
  clear CA
  have KP := Lib.hid CP
  clear CP
  have K1 := Lib.hid C1
  clear C1
  have K2 := Lib.hid C2
  clear C2
  have K3 := Lib.hid C3
  clear C3
  have K4 := Lib.hid C4
  clear C4
  have K5 := Lib.hid C5
  clear C5
  have K6 := Lib.hid C6
  clear C6
  go_enter Tryd.func9, Tryd.ntmps9
  go_wp2_with fail
  obtain ⟨W, hW⟩ : ∃ W, W = w.alloc (.cells #[.int .i64 A1, .int .i64 A2] 23) := ⟨_, rfl⟩
  rw [← hW]
  have d_A1 : World.dec W (w.heap.size) A1 A2 := by rw [hW]; exact World.dec_new w A1 A2 _ rfl
  have hB : Below w.heap.size w W := by rw [hW]; exact ((Below.refl _ w).alloc (Nat.le_refl _) _)
  clear hW
  refine (examples_any _ (hm.below hB)).mono ?_
  rintro e w1 ⟨rfl, hB1⟩
  have d_A1 := d_A1.below hB1 d_A1.lt
  have hB := hB.trans (hB1.mono hB.size)
  clear hB1
  have c_A1 := d_A1.c0
  have e_A1 := d_A1.c1
  go_wp2_with fail
  clear c_A1 e_A1
  refine (KA.out _).mono ?_
  rintro e w1 ⟨rfl, hB1⟩
  have d_A1 := d_A1.below hB1 d_A1.lt
  have hB := hB.trans (hB1.mono hB.size)
  clear hB1
  have d_x : World.dec (w1.alloc (.cells #[.int .i64 x, .int .i64 y] 23)) (w1.heap.size) x y := World.dec_new _ _ _ _ rfl
  have l_A1 := d_A1.lt
  have d_A1 := d_A1.alloc (.cells #[.int .i64 x, .int .i64 y] 23)
  have hB := hB.alloc hB.size (.cells #[.int .i64 x, .int .i64 y] 23)
  clear d_A1
  go_wp2_with fail
  clear l_A1
  refine (KP.out _).mono ?_
  rintro e w1 ⟨rfl, rfl⟩
  have c_x := d_x.c0
  have e_x := d_x.c1
  go_wp2_with fail
  clear c_x e_x
  refine (K1.out _).mono ?_
  rintro e w1 ⟨rfl, hB1⟩
  have d_x := d_x.below hB1 d_x.lt
  have hB := hB.trans (hB1.mono hB.size)
  clear hB1
  have d_r : World.dec (w1.alloc (.cells #[.int .i64 r1, .int .i64 r2] 23)) (w1.heap.size) r1 r2 := World.dec_new _ _ _ _ rfl
  have l_x := d_x.lt
  have d_x := d_x.alloc (.cells #[.int .i64 r1, .int .i64 r2] 23)
  have hB := hB.alloc hB.size (.cells #[.int .i64 r1, .int .i64 r2] 23)
  have c_x := d_x.c0
  have e_x := d_x.c1
  go_wp2_with fail
  clear c_x e_x
  clear l_x
  refine (K2.out _).mono ?_
  rintro e w1 ⟨rfl, hB1⟩
  have d_x := d_x.below hB1 d_x.lt
  have d_r := d_r.below hB1 d_r.lt
  have hB := hB.trans (hB1.mono hB.size)
  clear hB1
  have d_s : World.dec (w1.alloc (.cells #[.int .i64 x, .int .i64 y] 23)) (w1.heap.size) x y := World.dec_new _ _ _ _ rfl
  have l_x := d_x.lt
  have d_x := d_x.alloc (.cells #[.int .i64 x, .int .i64 y] 23)
  have l_r := d_r.lt
  have d_r := d_r.alloc (.cells #[.int .i64 x, .int .i64 y] 23)
  have hB := hB.alloc hB.size (.cells #[.int .i64 x, .int .i64 y] 23)
  have c_x := d_x.c0
  have e_x := d_x.c1
  have c_r := d_r.c0
  have e_r := d_r.c1
  have c_s := d_s.c0
  have e_s := d_s.c1
  go_wp2_with fail
  clear c_x e_x c_r e_r c_s e_s
  clear l_x l_r
  clear d_s
  refine (K3.out _).mono ?_
  rintro e w1 ⟨rfl, hB1⟩
  have d_x := d_x.below hB1 d_x.lt
  have d_r := d_r.below hB1 d_r.lt
  have hB := hB.trans (hB1.mono hB.size)
  clear hB1
  have d_g : World.dec (w1.alloc (.cells #[.int .i64 r1, .int .i64 r2] 23)) (w1.heap.size) r1 r2 := World.dec_new _ _ _ _ rfl
  have l_x := d_x.lt
  have d_x := d_x.alloc (.cells #[.int .i64 r1, .int .i64 r2] 23)
  have l_r := d_r.lt
  have d_r := d_r.alloc (.cells #[.int .i64 r1, .int .i64 r2] 23)
  have hB := hB.alloc hB.size (.cells #[.int .i64 r1, .int .i64 r2] 23)
  have c_x := d_x.c0
  have e_x := d_x.c1
  have c_r := d_r.c0
  have e_r := d_r.c1
  go_wp2_with fail
  clear c_x e_x c_r e_r
  clear l_x l_r
  refine (K4.out _).mono ?_
  rintro e w1 ⟨rfl, hB1⟩
  have d_x := d_x.below hB1 d_x.lt
  have d_r := d_r.below hB1 d_r.lt
  have d_g := d_g.below hB1 d_g.lt
  have hB := hB.trans (hB1.mono hB.size)
  clear hB1
  have d_d : World.dec (w1.alloc (.cells #[.int .i64 (-d1), .int .i64 d2] 23)) (w1.heap.size) (-d1) d2 := World.dec_new _ _ _ _ rfl
  have l_x := d_x.lt
  have d_x := d_x.alloc (.cells #[.int .i64 (-d1), .int .i64 d2] 23)
  have l_r := d_r.lt
  have d_r := d_r.alloc (.cells #[.int .i64 (-d1), .int .i64 d2] 23)
  have l_g := d_g.lt
  have d_g := d_g.alloc (.cells #[.int .i64 (-d1), .int .i64 d2] 23)
  have hB := hB.alloc hB.size (.cells #[.int .i64 (-d1), .int .i64 d2] 23)
  clear d_x
  have c_d := d_d.c0
  have e_d := d_d.c1
  go_wp2_with fail
  clear c_d e_d
  clear l_x l_r l_g
  refine (K5.out _).mono ?_
  rintro e w1 ⟨rfl, hB1⟩
  have d_r := d_r.below hB1 d_r.lt
  have d_g := d_g.below hB1 d_g.lt
  have d_d := d_d.below hB1 d_d.lt
  have hB := hB.trans (hB1.mono hB.size)
  clear hB1
  have d_t : World.dec (w1.alloc (.cells #[.int .i64 t1, .int .i64 t2] 23)) (w1.heap.size) t1 t2 := World.dec_new _ _ _ _ rfl
  have l_r := d_r.lt
  have d_r := d_r.alloc (.cells #[.int .i64 t1, .int .i64 t2] 23)
  have l_g := d_g.lt
  have d_g := d_g.alloc (.cells #[.int .i64 t1, .int .i64 t2] 23)
  have l_d := d_d.lt
  have d_d := d_d.alloc (.cells #[.int .i64 t1, .int .i64 t2] 23)
  have hB := hB.alloc hB.size (.cells #[.int .i64 t1, .int .i64 t2] 23)
  have d_u : World.dec ((w1.alloc (.cells #[.int .i64 t1, .int .i64 t2] 23)).alloc (.cells #[.int .i64 1, .int .i64 (-(pk - 9))] 23)) (w1.heap.size + 1) 1 (-(pk - 9)) := World.dec_new _ _ _ _ (by simp)
  have l_r := d_r.lt
  have d_r := d_r.alloc (.cells #[.int .i64 1, .int .i64 (-(pk - 9))] 23)
  have l_g := d_g.lt
  have d_g := d_g.alloc (.cells #[.int .i64 1, .int .i64 (-(pk - 9))] 23)
  have l_d := d_d.lt
  have d_d := d_d.alloc (.cells #[.int .i64 1, .int .i64 (-(pk - 9))] 23)
  have l_t := d_t.lt
  have d_t := d_t.alloc (.cells #[.int .i64 1, .int .i64 (-(pk - 9))] 23)
  have hB := hB.alloc hB.size (.cells #[.int .i64 1, .int .i64 (-(pk - 9))] 23)
  have hBf := hB
  rcases HRE.out with he1 | ⟨he1, he2⟩
  all_goals
    have c_r := d_r.c0
    have e_r := d_r.c1
    have c_g := d_g.c0
    have e_g := d_g.c1
    have c_t := d_t.c0
    have e_t := d_t.c1
    have c_u := d_u.c0
    have e_u := d_u.c1
    go_wp2_with fail
    clear c_r e_r c_g e_g c_t e_t c_u e_u
    clear l_r l_g l_d l_t
    refine (K6.out _).mono ?_
    rintro e w1 ⟨rfl, hB1⟩
    have d_r := d_r.below hB1 d_r.lt
    have d_g := d_g.below hB1 d_g.lt
    have d_d := d_d.below hB1 d_d.lt
    have d_t := d_t.below hB1 d_t.lt
    have d_u := d_u.below hB1 d_u.lt
    have hB := hB.trans (hB1.mono hB.size)
    clear hB1
    go_wp2_with fail
    go_ret
    exact ⟨rfl, hB⟩

set_option maxRecDepth 100000 in
set_option maxHeartbeats 8000000 in
theorem rounds_pos (A1 A2 n : Int) (w : World) (hm : Shp w) (hA10 : -9223372036854775808 ≤ A1) (hA11 : A1 ≤ 9223372036854775807) (hA20 : -9223372036854775808 ≤ A2) (hA21 : A2 ≤ 9223372036854775807) (hn0 : -9223372036854775808 ≤ n) (hn1 : n ≤ 9223372036854775807) (x y k r1 r2 d1 d2 t1 t2 : Int) (hx : RightP (x, y)) (hr : RightP (r1, r2)) (hd : RightP (d1, d2)) (ht : RightP (t1, t2)) (hk : pickI n 19 - 9 = k) (k0 : -9 ≤ k) (k1 : k ≤ 9) (hA : madeP A1 A2 = (x, y)) (g1 : roundD x y k = ((r1, r2), 0)) (g2 : roundD x y 9 = ((x, y), 0)) (g3 : roundD r1 r2 k = ((r1, r2), 0)) (g4 : subD r1 r2 x y = ((d1, d2), 0)) (g5 : addD d1 d2 d1 d2 = ((t1, t2), 0)) (g6 : cmpD t1 t2 1 (-k) ≤ 0) (g7 : r1 = 0 ∨ -k ≤ r2) (hneg : ¬ d1 < 0) :
    Calls Tryd.prog 9 #[.agg #[.int .i64 A1, .int .i64 A2], .int .i64 n] w fun e w' => e = .returned (.bool true) ∧ Below w.heap.size w w' := by
  obtain ⟨x0, x1, y0, y1, _⟩ := hx
  obtain ⟨a0, a1, a2, a3, _⟩ := hr
  obtain ⟨b0, b1, b2, b3, _⟩ := hd
  obtain ⟨c0, c1, c2, c3, _⟩ := ht
  simp only at x0 x1 y0 y1 a0 a1 a2 a3 b0 b1 b2 b3 c0 c1 c2 c3
  have CA := fun w => made_any A1 A2 w hA10 hA11 hA20 hA21
  rw [hA] at CA
  have CP := fun w => pick_any n 19 w hn0 hn1 (by decide) (by decide)
  have C1 := fun w => round_any x y k w (by omega) (by omega)
  rw [g1] at C1
  have C2 := fun w => round_any x y 9 w (by omega) (by omega)
  rw [g2] at C2
  have C3 := fun w => round_any r1 r2 k w (by omega) (by omega)
  rw [g3] at C3
  have C4 := fun w => sub_any r1 r2 x y w (by omega) (by omega) (by omega) (by omega)
  rw [g4] at C4
  have C5 := fun w => add_any d1 d2 d1 d2 w (by omega) (by omega) (by omega) (by omega)
  rw [g5] at C5
  have C6 := fun w => cmp_any t1 t2 1 (-k) w (by omega) (by omega) (by omega) (by omega)
  obtain ⟨pk, hpk⟩ : ∃ pk, pk = pickI n 19 := ⟨_, rfl⟩
  rw [← hpk] at CP hk
  obtain ⟨cv, hcv⟩ : ∃ cv, cv = cmpD t1 t2 1 (-k) := ⟨_, rfl⟩
  rw [← hcv] at C6 g6
  subst hk
  have hre : (r1 == 0) = true ∨ (r1 == 0) = false ∧ -(pk - 9) ≤ r2 := by
    by_cases c : r1 = 0
    · left; simpa using c
    · right; exact ⟨by simpa using c, by omega⟩
  have HRE := Lib.hid hre
  clear hA g1 g2 g3 g4 g5 g7 hpk hcv hre
  have KA := Lib.hid CA
  clear CA
  have KP := Lib.hid CP
  clear CP
  have K1 := Lib.hid C1
  clear C1
  have K2 := Lib.hid C2
  clear C2
  have K3 := Lib.hid C3
  clear C3
  have K4 := Lib.hid C4
  clear C4
  have K5 := Lib.hid C5
  clear C5
  have K6 := Lib.hid C6
  clear C6
  go_enter Tryd.func9, Tryd.ntmps9
  go_wp2_with fail
  obtain ⟨W, hW⟩ : ∃ W, W = w.alloc (.cells #[.int .i64 A1, .int .i64 A2] 23) := ⟨_, rfl⟩
  rw [← hW]
  have d_A1 : World.dec W (w.heap.size) A1 A2 := by rw [hW]; exact World.dec_new w A1 A2 _ rfl
  have hB : Below w.heap.size w W := by rw [hW]; exact ((Below.refl _ w).alloc (Nat.le_refl _) _)
  clear hW
  refine (examples_any _ (hm.below hB)).mono ?_
  rintro e w1 ⟨rfl, hB1⟩
  have d_A1 := d_A1.below hB1 d_A1.lt
  have hB := hB.trans (hB1.mono hB.size)
  clear hB1
  have c_A1 := d_A1.c0
  have e_A1 := d_A1.c1
  go_wp2_with fail
  clear c_A1 e_A1
  refine (KA.out _).mono ?_
  rintro e w1 ⟨rfl, hB1⟩
  have d_A1 := d_A1.below hB1 d_A1.lt
  have hB := hB.trans (hB1.mono hB.size)
  clear hB1
  have d_x : World.dec (w1.alloc (.cells #[.int .i64 x, .int .i64 y] 23)) (w1.heap.size) x y := World.dec_new _ _ _ _ rfl
  have l_A1 := d_A1.lt
  have d_A1 := d_A1.alloc (.cells #[.int .i64 x, .int .i64 y] 23)
  have hB := hB.alloc hB.size (.cells #[.int .i64 x, .int .i64 y] 23)
  clear d_A1
  go_wp2_with fail
  clear l_A1
  refine (KP.out _).mono ?_
  rintro e w1 ⟨rfl, rfl⟩
  have c_x := d_x.c0
  have e_x := d_x.c1
  go_wp2_with fail
  clear c_x e_x
  refine (K1.out _).mono ?_
  rintro e w1 ⟨rfl, hB1⟩
  have d_x := d_x.below hB1 d_x.lt
  have hB := hB.trans (hB1.mono hB.size)
  clear hB1
  have d_r : World.dec (w1.alloc (.cells #[.int .i64 r1, .int .i64 r2] 23)) (w1.heap.size) r1 r2 := World.dec_new _ _ _ _ rfl
  have l_x := d_x.lt
  have d_x := d_x.alloc (.cells #[.int .i64 r1, .int .i64 r2] 23)
  have hB := hB.alloc hB.size (.cells #[.int .i64 r1, .int .i64 r2] 23)
  have c_x := d_x.c0
  have e_x := d_x.c1
  go_wp2_with fail
  clear c_x e_x
  clear l_x
  refine (K2.out _).mono ?_
  rintro e w1 ⟨rfl, hB1⟩
  have d_x := d_x.below hB1 d_x.lt
  have d_r := d_r.below hB1 d_r.lt
  have hB := hB.trans (hB1.mono hB.size)
  clear hB1
  have d_s : World.dec (w1.alloc (.cells #[.int .i64 x, .int .i64 y] 23)) (w1.heap.size) x y := World.dec_new _ _ _ _ rfl
  have l_x := d_x.lt
  have d_x := d_x.alloc (.cells #[.int .i64 x, .int .i64 y] 23)
  have l_r := d_r.lt
  have d_r := d_r.alloc (.cells #[.int .i64 x, .int .i64 y] 23)
  have hB := hB.alloc hB.size (.cells #[.int .i64 x, .int .i64 y] 23)
  have c_x := d_x.c0
  have e_x := d_x.c1
  have c_r := d_r.c0
  have e_r := d_r.c1
  have c_s := d_s.c0
  have e_s := d_s.c1
  go_wp2_with fail
  clear c_x e_x c_r e_r c_s e_s
  clear l_x l_r
  clear d_s
  refine (K3.out _).mono ?_
  rintro e w1 ⟨rfl, hB1⟩
  have d_x := d_x.below hB1 d_x.lt
  have d_r := d_r.below hB1 d_r.lt
  have hB := hB.trans (hB1.mono hB.size)
  clear hB1
  have d_g : World.dec (w1.alloc (.cells #[.int .i64 r1, .int .i64 r2] 23)) (w1.heap.size) r1 r2 := World.dec_new _ _ _ _ rfl
  have l_x := d_x.lt
  have d_x := d_x.alloc (.cells #[.int .i64 r1, .int .i64 r2] 23)
  have l_r := d_r.lt
  have d_r := d_r.alloc (.cells #[.int .i64 r1, .int .i64 r2] 23)
  have hB := hB.alloc hB.size (.cells #[.int .i64 r1, .int .i64 r2] 23)
  have c_x := d_x.c0
  have e_x := d_x.c1
  have c_r := d_r.c0
  have e_r := d_r.c1
  go_wp2_with fail
  clear c_x e_x c_r e_r
  clear l_x l_r
  refine (K4.out _).mono ?_
  rintro e w1 ⟨rfl, hB1⟩
  have d_x := d_x.below hB1 d_x.lt
  have d_r := d_r.below hB1 d_r.lt
  have d_g := d_g.below hB1 d_g.lt
  have hB := hB.trans (hB1.mono hB.size)
  clear hB1
  have d_d : World.dec (w1.alloc (.cells #[.int .i64 d1, .int .i64 d2] 23)) (w1.heap.size) d1 d2 := World.dec_new _ _ _ _ rfl
  have l_x := d_x.lt
  have d_x := d_x.alloc (.cells #[.int .i64 d1, .int .i64 d2] 23)
  have l_r := d_r.lt
  have d_r := d_r.alloc (.cells #[.int .i64 d1, .int .i64 d2] 23)
  have l_g := d_g.lt
  have d_g := d_g.alloc (.cells #[.int .i64 d1, .int .i64 d2] 23)
  have hB := hB.alloc hB.size (.cells #[.int .i64 d1, .int .i64 d2] 23)
  clear d_x
  have c_d := d_d.c0
  have e_d := d_d.c1
  go_wp2_with fail
  clear c_d e_d
  clear l_x l_r l_g
  refine (K5.out _).mono ?_
  rintro e w1 ⟨rfl, hB1⟩
  have d_r := d_r.below hB1 d_r.lt
  have d_g := d_g.below hB1 d_g.lt
  have d_d := d_d.below hB1 d_d.lt
  have hB := hB.trans (hB1.mono hB.size)
  clear hB1
  have d_t : World.dec (w1.alloc (.cells #[.int .i64 t1, .int .i64 t2] 23)) (w1.heap.size) t1 t2 := World.dec_new _ _ _ _ rfl
  have l_r := d_r.lt
  have d_r := d_r.alloc (.cells #[.int .i64 t1, .int .i64 t2] 23)
  have l_g := d_g.lt
  have d_g := d_g.alloc (.cells #[.int .i64 t1, .int .i64 t2] 23)
  have l_d := d_d.lt
  have d_d := d_d.alloc (.cells #[.int .i64 t1, .int .i64 t2] 23)
  have hB := hB.alloc hB.size (.cells #[.int .i64 t1, .int .i64 t2] 23)
  have d_u : World.dec ((w1.alloc (.cells #[.int .i64 t1, .int .i64 t2] 23)).alloc (.cells #[.int .i64 1, .int .i64 (-(pk - 9))] 23)) (w1.heap.size + 1) 1 (-(pk - 9)) := World.dec_new _ _ _ _ (by simp)
  have l_r := d_r.lt
  have d_r := d_r.alloc (.cells #[.int .i64 1, .int .i64 (-(pk - 9))] 23)
  have l_g := d_g.lt
  have d_g := d_g.alloc (.cells #[.int .i64 1, .int .i64 (-(pk - 9))] 23)
  have l_d := d_d.lt
  have d_d := d_d.alloc (.cells #[.int .i64 1, .int .i64 (-(pk - 9))] 23)
  have l_t := d_t.lt
  have d_t := d_t.alloc (.cells #[.int .i64 1, .int .i64 (-(pk - 9))] 23)
  have hB := hB.alloc hB.size (.cells #[.int .i64 1, .int .i64 (-(pk - 9))] 23)
  have hBf := hB
  rcases HRE.out with he1 | ⟨he1, he2⟩
  all_goals
    have c_r := d_r.c0
    have e_r := d_r.c1
    have c_g := d_g.c0
    have e_g := d_g.c1
    have c_t := d_t.c0
    have e_t := d_t.c1
    have c_u := d_u.c0
    have e_u := d_u.c1
    go_wp2_with fail
    clear c_r e_r c_g e_g c_t e_t c_u e_u
    clear l_r l_g l_d l_t
    refine (K6.out _).mono ?_
    rintro e w1 ⟨rfl, hB1⟩
    have d_r := d_r.below hB1 d_r.lt
    have d_g := d_g.below hB1 d_g.lt
    have d_d := d_d.below hB1 d_d.lt
    have d_t := d_t.below hB1 d_t.lt
    have d_u := d_u.below hB1 d_u.lt
    have hB := hB.trans (hB1.mono hB.size)
    clear hB1
    go_wp2_with fail
    go_ret
    exact ⟨rfl, hB⟩

theorem rounds_walk (A1 A2 n : Int) (w : World) (hm : Shp w) (hA10 : -9223372036854775808 ≤ A1) (hA11 : A1 ≤ 9223372036854775807) (hA20 : -9223372036854775808 ≤ A2) (hA21 : A2 ≤ 9223372036854775807) (hn0 : -9223372036854775808 ≤ n) (hn1 : n ≤ 9223372036854775807) :
    Calls Tryd.prog 9 #[.agg #[.int .i64 A1, .int .i64 A2], .int .i64 n] w fun e w' => e = .returned (.bool true) ∧ Below w.heap.size w w' := by
  have hx := madeP_right A1 A2
  obtain ⟨⟨x, y⟩, hp⟩ : ∃ p, madeP A1 A2 = p := ⟨_, rfl⟩
  rw [hp] at hx
  obtain ⟨p0, p1⟩ := pickI_bd n (n := 19) (by decide)
  obtain ⟨r1, r2, d1, d2, t1, t2, g1, g2, g3, g4, g5, g6, g7, hr, hd, ht⟩ := rounds_plain (k := pickI n 19 - 9) hx (by omega) (by omega)
  by_cases hneg : d1 < 0
  · rw [if_pos hneg] at g5
    exact rounds_neg A1 A2 n w hm hA10 hA11 hA20 hA21 hn0 hn1 x y _ r1 r2 d1 d2 t1 t2 hx hr hd ht rfl (by omega) (by omega) hp g1 g2 g3 g4 g5 g6 g7 hneg
  · rw [if_neg hneg] at g5
    exact rounds_pos A1 A2 n w hm hA10 hA11 hA20 hA21 hn0 hn1 x y _ r1 r2 d1 d2 t1 t2 hx hr hd ht rfl (by omega) (by omega) hp g1 g2 g3 g4 g5 g6 g7 hneg
end Go.Proofs.YtpkohfdebgiloaaDoor
