/- The walk of DecTurns: true. -/
import Derived.Test.YtpkohfdebgiloaaDoorPlain
namespace Go.Proofs.YtpkohfdebgiloaaDoor
open Go.RowKit Go.Shelf

set_option maxRecDepth 100000 in
set_option maxHeartbeats 8000000 in
theorem turns_walk (A1 A2 B1 B2 : Int) (w : World) (hm : Shp w) (hA10 : -9223372036854775808 ≤ A1) (hA11 : A1 ≤ 9223372036854775807) (hA20 : -9223372036854775808 ≤ A2) (hA21 : A2 ≤ 9223372036854775807) (hB10 : -9223372036854775808 ≤ B1) (hB11 : B1 ≤ 9223372036854775807) (hB20 : -9223372036854775808 ≤ B2) (hB21 : B2 ≤ 9223372036854775807) :
    Calls Tryd.prog 5 #[.agg #[.int .i64 A1, .int .i64 A2], .agg #[.int .i64 B1, .int .i64 B2]] w fun e w' => e = .returned (.bool true) ∧ Below w.heap.size w w' := by
  have hx := madeP_right A1 A2
  have hy := madeP_right B1 B2
  have CA := fun w => made_any A1 A2 w hA10 hA11 hA20 hA21
  have CB := fun w => made_any B1 B2 w hB10 hB11 hB20 hB21
  generalize madeP A1 A2 = p at *
  generalize madeP B1 B2 = q at *
  obtain ⟨x, y⟩ := p
  obtain ⟨x', y'⟩ := q
  obtain ⟨s1, s2, e, m1, m2, g, d1, d2, i, q1, q2, l, h1, h2, h3, h4, h5, h6, h7, h8, ⟨b0, b1⟩, hl⟩ := turns_plain hx hy
  obtain ⟨x0, x1, _, _, _⟩ := hx
  obtain ⟨y0, y1, _, _, _⟩ := hy
  simp only at x0 x1 y0 y1
  have C1 := fun w => add_any x y x' y' w (by omega) (by omega) (by omega) (by omega)
  rw [h1] at C1
  have C2 := fun w => add_any x' y' x y w (by omega) (by omega) (by omega) (by omega)
  rw [h2] at C2
  have C3 := fun w => mul_any x y x' y' w (by omega) (by omega) (by omega) (by omega)
  rw [h3] at C3
  have C4 := fun w => mul_any x' y' x y w (by omega) (by omega) (by omega) (by omega)
  rw [h4] at C4
  have C5 := fun w => sub_any x y x' y' w (by omega) (by omega) (by omega) (by omega)
  rw [h5] at C5
  have C6 := fun w => sub_any x' y' x y w (by omega) (by omega) (by omega) (by omega)
  rw [h6] at C6
  have C7 := fun w => sub_any x y x y w (by omega) (by omega) (by omega) (by omega)
  rw [h7] at C7
  have C8 := fun w => div_any x' y' x' y' w (by omega) (by omega) (by omega) (by omega)
  rw [h8] at C8
  clear h1 h2 h3 h4 h5 h6 h7 h8
  have HL := Lib.hid hl
  clear hl
  have KA := Lib.hid CA
  clear CA
  have KB := Lib.hid CB
  clear CB
  have K1 := Lib.hid C1
  clear C1
  have K2 := Lib.hid C2
  clear C2
  have K3 := Lib.hid C3
  clear C3
  have K4 := Lib.hid C4
  clear C4
  have K5 := Lib.hid C5
  clear C5
  have K6 := Lib.hid C6
  clear C6
  have K7 := Lib.hid C7
  clear C7
  have K8 := Lib.hid C8
  clear C8
  go_enter Tryd.func5, Tryd.ntmps5
  go_wp2_with fail
  obtain ⟨W, hW⟩ : ∃ W, W = (w.alloc (.cells #[.int .i64 A1, .int .i64 A2] 23)).alloc (.cells #[.int .i64 B1, .int .i64 B2] 23) := ⟨_, rfl⟩
  rw [← hW]
  have d_A1 : World.dec W (w.heap.size) A1 A2 := by rw [hW]; exact (World.dec_new w A1 A2 _ rfl).alloc _
  have d_B1 : World.dec W (w.heap.size + 1) B1 B2 := by rw [hW]; exact World.dec_new _ B1 B2 _ (by simp)
  have hB : Below w.heap.size w W := by rw [hW]; exact (((Below.refl _ w).alloc (Nat.le_refl _) _).alloc (by simp) _)
  clear hW
  refine (examples_any _ (hm.below hB)).mono ?_
  rintro e w1 ⟨rfl, hB1⟩
  have d_A1 := d_A1.below hB1 d_A1.lt
  have d_B1 := d_B1.below hB1 d_B1.lt
  have hB := hB.trans (hB1.mono hB.size)
  clear hB1
  have c_A1 := d_A1.c0
  have e_A1 := d_A1.c1
  go_wp2_with fail
  clear c_A1 e_A1
  refine (KA.out _).mono ?_
  rintro e w1 ⟨rfl, hB1⟩
  have d_A1 := d_A1.below hB1 d_A1.lt
  have d_B1 := d_B1.below hB1 d_B1.lt
  have hB := hB.trans (hB1.mono hB.size)
  clear hB1
  have d_x : World.dec (w1.alloc (.cells #[.int .i64 x, .int .i64 y] 23)) w1.heap.size x y := World.dec_new _ _ _ _ rfl
  have l_A1 := d_A1.lt
  have d_A1 := d_A1.alloc (.cells #[.int .i64 x, .int .i64 y] 23)
  have l_B1 := d_B1.lt
  have d_B1 := d_B1.alloc (.cells #[.int .i64 x, .int .i64 y] 23)
  have hB := hB.alloc hB.size (.cells #[.int .i64 x, .int .i64 y] 23)
  clear d_A1
  have c_B1 := d_B1.c0
  have e_B1 := d_B1.c1
  go_wp2_with fail
  clear c_B1 e_B1
  clear l_A1 l_B1
  refine (KB.out _).mono ?_
  rintro e w1 ⟨rfl, hB1⟩
  have d_B1 := d_B1.below hB1 d_B1.lt
  have d_x := d_x.below hB1 d_x.lt
  have hB := hB.trans (hB1.mono hB.size)
  clear hB1
  have d_y : World.dec (w1.alloc (.cells #[.int .i64 x', .int .i64 y'] 23)) w1.heap.size x' y' := World.dec_new _ _ _ _ rfl
  have l_B1 := d_B1.lt
  have d_B1 := d_B1.alloc (.cells #[.int .i64 x', .int .i64 y'] 23)
  have l_x := d_x.lt
  have d_x := d_x.alloc (.cells #[.int .i64 x', .int .i64 y'] 23)
  have hB := hB.alloc hB.size (.cells #[.int .i64 x', .int .i64 y'] 23)
  clear d_B1
  have c_x := d_x.c0
  have e_x := d_x.c1
  have c_y := d_y.c0
  have e_y := d_y.c1
  go_wp2_with fail
  clear c_x e_x c_y e_y
  clear l_B1 l_x
  refine (K1.out _).mono ?_
  rintro e w1 ⟨rfl, hB1⟩
  have d_x := d_x.below hB1 d_x.lt
  have d_y := d_y.below hB1 d_y.lt
  have hB := hB.trans (hB1.mono hB.size)
  clear hB1
  have d_s : World.dec (w1.alloc (.cells #[.int .i64 s1, .int .i64 s2] 23)) w1.heap.size s1 s2 := World.dec_new _ _ _ _ rfl
  have l_x := d_x.lt
  have d_x := d_x.alloc (.cells #[.int .i64 s1, .int .i64 s2] 23)
  have l_y := d_y.lt
  have d_y := d_y.alloc (.cells #[.int .i64 s1, .int .i64 s2] 23)
  have hB := hB.alloc hB.size (.cells #[.int .i64 s1, .int .i64 s2] 23)
  have c_x := d_x.c0
  have e_x := d_x.c1
  have c_y := d_y.c0
  have e_y := d_y.c1
  go_wp2_with fail
  clear c_x e_x c_y e_y
  clear l_x l_y
  refine (K2.out _).mono ?_
  rintro e w1 ⟨rfl, hB1⟩
  have d_x := d_x.below hB1 d_x.lt
  have d_y := d_y.below hB1 d_y.lt
  have d_s := d_s.below hB1 d_s.lt
  have hB := hB.trans (hB1.mono hB.size)
  clear hB1
  have d_t : World.dec (w1.alloc (.cells #[.int .i64 s1, .int .i64 s2] 23)) w1.heap.size s1 s2 := World.dec_new _ _ _ _ rfl
  have l_x := d_x.lt
  have d_x := d_x.alloc (.cells #[.int .i64 s1, .int .i64 s2] 23)
  have l_y := d_y.lt
  have d_y := d_y.alloc (.cells #[.int .i64 s1, .int .i64 s2] 23)
  have l_s := d_s.lt
  have d_s := d_s.alloc (.cells #[.int .i64 s1, .int .i64 s2] 23)
  have hB := hB.alloc hB.size (.cells #[.int .i64 s1, .int .i64 s2] 23)
  have c_x := d_x.c0
  have e_x := d_x.c1
  have c_y := d_y.c0
  have e_y := d_y.c1
  go_wp2_with fail
  clear c_x e_x c_y e_y
  clear l_x l_y l_s
  refine (K3.out _).mono ?_
  rintro e w1 ⟨rfl, hB1⟩
  have d_x := d_x.below hB1 d_x.lt
  have d_y := d_y.below hB1 d_y.lt
  have d_s := d_s.below hB1 d_s.lt
  have d_t := d_t.below hB1 d_t.lt
  have hB := hB.trans (hB1.mono hB.size)
  clear hB1
  have d_m : World.dec (w1.alloc (.cells #[.int .i64 m1, .int .i64 m2] 23)) w1.heap.size m1 m2 := World.dec_new _ _ _ _ rfl
  have l_x := d_x.lt
  have d_x := d_x.alloc (.cells #[.int .i64 m1, .int .i64 m2] 23)
  have l_y := d_y.lt
  have d_y := d_y.alloc (.cells #[.int .i64 m1, .int .i64 m2] 23)
  have l_s := d_s.lt
  have d_s := d_s.alloc (.cells #[.int .i64 m1, .int .i64 m2] 23)
  have l_t := d_t.lt
  have d_t := d_t.alloc (.cells #[.int .i64 m1, .int .i64 m2] 23)
  have hB := hB.alloc hB.size (.cells #[.int .i64 m1, .int .i64 m2] 23)
  have c_x := d_x.c0
  have e_x := d_x.c1
  have c_y := d_y.c0
  have e_y := d_y.c1
  go_wp2_with fail
  clear c_x e_x c_y e_y
  clear l_x l_y l_s l_t
  refine (K4.out _).mono ?_
  rintro e w1 ⟨rfl, hB1⟩
  have d_x := d_x.below hB1 d_x.lt
  have d_y := d_y.below hB1 d_y.lt
  have d_s := d_s.below hB1 d_s.lt
  have d_t := d_t.below hB1 d_t.lt
  have d_m := d_m.below hB1 d_m.lt
  have hB := hB.trans (hB1.mono hB.size)
  clear hB1
  have d_n : World.dec (w1.alloc (.cells #[.int .i64 m1, .int .i64 m2] 23)) w1.heap.size m1 m2 := World.dec_new _ _ _ _ rfl
  have l_x := d_x.lt
  have d_x := d_x.alloc (.cells #[.int .i64 m1, .int .i64 m2] 23)
  have l_y := d_y.lt
  have d_y := d_y.alloc (.cells #[.int .i64 m1, .int .i64 m2] 23)
  have l_s := d_s.lt
  have d_s := d_s.alloc (.cells #[.int .i64 m1, .int .i64 m2] 23)
  have l_t := d_t.lt
  have d_t := d_t.alloc (.cells #[.int .i64 m1, .int .i64 m2] 23)
  have l_m := d_m.lt
  have d_m := d_m.alloc (.cells #[.int .i64 m1, .int .i64 m2] 23)
  have hB := hB.alloc hB.size (.cells #[.int .i64 m1, .int .i64 m2] 23)
  have c_x := d_x.c0
  have e_x := d_x.c1
  have c_y := d_y.c0
  have e_y := d_y.c1
  go_wp2_with fail
  clear c_x e_x c_y e_y
  clear l_x l_y l_s l_t l_m
  refine (K5.out _).mono ?_
  rintro e w1 ⟨rfl, hB1⟩
  have d_x := d_x.below hB1 d_x.lt
  have d_y := d_y.below hB1 d_y.lt
  have d_s := d_s.below hB1 d_s.lt
  have d_t := d_t.below hB1 d_t.lt
  have d_m := d_m.below hB1 d_m.lt
  have d_n := d_n.below hB1 d_n.lt
  have hB := hB.trans (hB1.mono hB.size)
  clear hB1
  have d_d : World.dec (w1.alloc (.cells #[.int .i64 d1, .int .i64 d2] 23)) w1.heap.size d1 d2 := World.dec_new _ _ _ _ rfl
  have l_x := d_x.lt
  have d_x := d_x.alloc (.cells #[.int .i64 d1, .int .i64 d2] 23)
  have l_y := d_y.lt
  have d_y := d_y.alloc (.cells #[.int .i64 d1, .int .i64 d2] 23)
  have l_s := d_s.lt
  have d_s := d_s.alloc (.cells #[.int .i64 d1, .int .i64 d2] 23)
  have l_t := d_t.lt
  have d_t := d_t.alloc (.cells #[.int .i64 d1, .int .i64 d2] 23)
  have l_m := d_m.lt
  have d_m := d_m.alloc (.cells #[.int .i64 d1, .int .i64 d2] 23)
  have l_n := d_n.lt
  have d_n := d_n.alloc (.cells #[.int .i64 d1, .int .i64 d2] 23)
  have hB := hB.alloc hB.size (.cells #[.int .i64 d1, .int .i64 d2] 23)
  have c_x := d_x.c0
  have e_x := d_x.c1
  have c_y := d_y.c0
  have e_y := d_y.c1
  go_wp2_with fail
  clear c_x e_x c_y e_y
  clear l_x l_y l_s l_t l_m l_n
  refine (K6.out _).mono ?_
  rintro e w1 ⟨rfl, hB1⟩
  have d_x := d_x.below hB1 d_x.lt
  have d_y := d_y.below hB1 d_y.lt
  have d_s := d_s.below hB1 d_s.lt
  have d_t := d_t.below hB1 d_t.lt
  have d_m := d_m.below hB1 d_m.lt
  have d_n := d_n.below hB1 d_n.lt
  have d_d := d_d.below hB1 d_d.lt
  have hB := hB.trans (hB1.mono hB.size)
  clear hB1
  have d_r : World.dec (w1.alloc (.cells #[.int .i64 (-d1), .int .i64 d2] 23)) w1.heap.size (-d1) d2 := World.dec_new _ _ _ _ rfl
  have l_x := d_x.lt
  have d_x := d_x.alloc (.cells #[.int .i64 (-d1), .int .i64 d2] 23)
  have l_y := d_y.lt
  have d_y := d_y.alloc (.cells #[.int .i64 (-d1), .int .i64 d2] 23)
  have l_s := d_s.lt
  have d_s := d_s.alloc (.cells #[.int .i64 (-d1), .int .i64 d2] 23)
  have l_t := d_t.lt
  have d_t := d_t.alloc (.cells #[.int .i64 (-d1), .int .i64 d2] 23)
  have l_m := d_m.lt
  have d_m := d_m.alloc (.cells #[.int .i64 (-d1), .int .i64 d2] 23)
  have l_n := d_n.lt
  have d_n := d_n.alloc (.cells #[.int .i64 (-d1), .int .i64 d2] 23)
  have l_d := d_d.lt
  have d_d := d_d.alloc (.cells #[.int .i64 (-d1), .int .i64 d2] 23)
  have hB := hB.alloc hB.size (.cells #[.int .i64 (-d1), .int .i64 d2] 23)
  have c_x := d_x.c0
  have e_x := d_x.c1
  have c_y := d_y.c0
  have e_y := d_y.c1
  go_wp2_with fail
  clear c_x e_x c_y e_y
  clear l_x l_y l_s l_t l_m l_n l_d
  refine (K7.out _).mono ?_
  rintro e w1 ⟨rfl, hB1⟩
  have d_x := d_x.below hB1 d_x.lt
  have d_y := d_y.below hB1 d_y.lt
  have d_s := d_s.below hB1 d_s.lt
  have d_t := d_t.below hB1 d_t.lt
  have d_m := d_m.below hB1 d_m.lt
  have d_n := d_n.below hB1 d_n.lt
  have d_d := d_d.below hB1 d_d.lt
  have d_r := d_r.below hB1 d_r.lt
  have hB := hB.trans (hB1.mono hB.size)
  clear hB1
  have d_o : World.dec (w1.alloc (.cells #[.int .i64 0, .int .i64 0] 23)) w1.heap.size 0 0 := World.dec_new _ _ _ _ rfl
  have l_x := d_x.lt
  have d_x := d_x.alloc (.cells #[.int .i64 0, .int .i64 0] 23)
  have l_y := d_y.lt
  have d_y := d_y.alloc (.cells #[.int .i64 0, .int .i64 0] 23)
  have l_s := d_s.lt
  have d_s := d_s.alloc (.cells #[.int .i64 0, .int .i64 0] 23)
  have l_t := d_t.lt
  have d_t := d_t.alloc (.cells #[.int .i64 0, .int .i64 0] 23)
  have l_m := d_m.lt
  have d_m := d_m.alloc (.cells #[.int .i64 0, .int .i64 0] 23)
  have l_n := d_n.lt
  have d_n := d_n.alloc (.cells #[.int .i64 0, .int .i64 0] 23)
  have l_d := d_d.lt
  have d_d := d_d.alloc (.cells #[.int .i64 0, .int .i64 0] 23)
  have l_r := d_r.lt
  have d_r := d_r.alloc (.cells #[.int .i64 0, .int .i64 0] 23)
  have hB := hB.alloc hB.size (.cells #[.int .i64 0, .int .i64 0] 23)
  have c_x := d_x.c0
  have e_x := d_x.c1
  have c_y := d_y.c0
  have e_y := d_y.c1
  go_wp2_with fail
  clear c_x e_x c_y e_y
  clear l_x l_y l_s l_t l_m l_n l_d l_r
  refine (K8.out _).mono ?_
  rintro e w1 ⟨rfl, hB1⟩
  have d_x := d_x.below hB1 d_x.lt
  have d_y := d_y.below hB1 d_y.lt
  have d_s := d_s.below hB1 d_s.lt
  have d_t := d_t.below hB1 d_t.lt
  have d_m := d_m.below hB1 d_m.lt
  have d_n := d_n.below hB1 d_n.lt
  have d_d := d_d.below hB1 d_d.lt
  have d_r := d_r.below hB1 d_r.lt
  have d_o := d_o.below hB1 d_o.lt
  have hB := hB.trans (hB1.mono hB.size)
  clear hB1
  have d_q : World.dec (w1.alloc (.cells #[.int .i64 q1, .int .i64 q2] 23)) w1.heap.size q1 q2 := World.dec_new _ _ _ _ rfl
  have l_x := d_x.lt
  have d_x := d_x.alloc (.cells #[.int .i64 q1, .int .i64 q2] 23)
  have l_y := d_y.lt
  have d_y := d_y.alloc (.cells #[.int .i64 q1, .int .i64 q2] 23)
  have l_s := d_s.lt
  have d_s := d_s.alloc (.cells #[.int .i64 q1, .int .i64 q2] 23)
  have l_t := d_t.lt
  have d_t := d_t.alloc (.cells #[.int .i64 q1, .int .i64 q2] 23)
  have l_m := d_m.lt
  have d_m := d_m.alloc (.cells #[.int .i64 q1, .int .i64 q2] 23)
  have l_n := d_n.lt
  have d_n := d_n.alloc (.cells #[.int .i64 q1, .int .i64 q2] 23)
  have l_d := d_d.lt
  have d_d := d_d.alloc (.cells #[.int .i64 q1, .int .i64 q2] 23)
  have l_r := d_r.lt
  have d_r := d_r.alloc (.cells #[.int .i64 q1, .int .i64 q2] 23)
  have l_o := d_o.lt
  have d_o := d_o.alloc (.cells #[.int .i64 q1, .int .i64 q2] 23)
  have hB := hB.alloc hB.size (.cells #[.int .i64 q1, .int .i64 q2] 23)
  have hBf := hB
  rcases HL.out with ⟨rfl, rfl⟩ | ⟨hz, rfl, rfl, rfl⟩
  all_goals
    try (have hzb : (x' == 0) = false := by simpa using hz)
    try (have hzc : (x' != 0) = true := by simpa using hz)
    try clear hz
    have c_y := d_y.c0
    have e_y := d_y.c1
    have c_s := d_s.c0
    have e_s := d_s.c1
    have c_t := d_t.c0
    have e_t := d_t.c1
    have c_m := d_m.c0
    have e_m := d_m.c1
    have c_n := d_n.c0
    have e_n := d_n.c1
    have c_d := d_d.c0
    have e_d := d_d.c1
    have c_r := d_r.c0
    have e_r := d_r.c1
    have c_o := d_o.c0
    have e_o := d_o.c1
    have c_q := d_q.c0
    have e_q := d_q.c1
    go_wp2_with fail
    clear c_y e_y c_s e_s c_t e_t c_m e_m c_n e_n c_d e_d c_r e_r c_o e_o c_q e_q
    clear l_x l_y l_s l_t l_m l_n l_d l_r l_o
    go_ret
    exact ⟨rfl, hBf⟩
end Go.Proofs.YtpkohfdebgiloaaDoor
