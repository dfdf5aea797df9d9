/- The walk of DecNear: true. -/
import Derived.Test.YtpkohfdebgiloaaDoorWorth4
namespace Go.Proofs.YtpkohfdebgiloaaDoor
open Go.RowKit Go.Shelf

set_option maxRecDepth 100000 in
set_option maxHeartbeats 8000000 in
theorem nears_neg (A B : Int) (w : World) (hm : Shp w) (hA0 : -9223372036854775808 ≤ A) (hA1 : A ≤ 9223372036854775807) (hB0 : -9223372036854775808 ≤ B) (hB1 : B ≤ 9223372036854775807) (n m x1 x2 y1 y2 q1 q2 p1 p2 d1 d2 t1 t2 b1 b2 : Int) (hn : pickI A 199999 - 99999 = n) (hmm : 1 + pickI B 99999 = m) (n0 : -99999 ≤ n) (n1 : n ≤ 99999) (m0 : 1 ≤ m) (m1 : m ≤ 99999) (g1 : ofD n = ((x1, x2), 0)) (g2 : ofD m = ((y1, y2), 0)) (g3 : divD x1 x2 y1 y2 = ((q1, q2), 0)) (g4 : mulD q1 q2 y1 y2 = ((p1, p2), 0)) (g5 : subD p1 p2 x1 x2 = ((d1, d2), 0)) (g6 : addD (-d1) d2 (-d1) d2 = ((t1, t2), 0)) (g7 : mulD y1 y2 1 (-9) = ((b1, b2), 0)) (g8 : cmpD t1 t2 b1 b2 ≤ 0) (g9 : n % m ≠ 0 ∨ 0 ≤ q2 ∧ d1 = 0) (hx : RightP (x1, x2)) (hy : RightP (y1, y2)) (hq : RightP (q1, q2)) (hp : RightP (p1, p2)) (hd : RightP (d1, d2)) (ht : RightP (t1, t2)) (hb : RightP (b1, b2)) (hneg : d1 < 0) :
    Calls Tryd.prog 8 #[.int .i64 A, .int .i64 B] w fun e w' => e = .returned (.bool true) ∧ Below w.heap.size w w' := by
  obtain ⟨xa, xb, xc, xd, _⟩ := hx
  obtain ⟨ya, yb, yc, yd, _⟩ := hy
  obtain ⟨qa, qb, qc, qd, _⟩ := hq
  obtain ⟨pa, pb, pc, pd, _⟩ := hp
  obtain ⟨da, db, dc, dd, _⟩ := hd
  obtain ⟨ta, tb, tc, td, _⟩ := ht
  obtain ⟨ba, bb, bc, bd, _⟩ := hb
  simp only at xa xb xc xd ya yb yc yd qa qb qc qd pa pb pc pd da db dc dd ta tb tc td ba bb bc bd
  have CP := fun w => pick_any A 199999 w hA0 hA1 (by decide) (by decide)
  have CQ := fun w => pick_any B 99999 w hB0 hB1 (by decide) (by decide)
  have C1 := fun w => of_n n w (by omega) (by omega)
  rw [g1] at C1
  have C2 := fun w => of_n m w (by omega) (by omega)
  rw [g2] at C2
  have C3 := fun w => div_any x1 x2 y1 y2 w (by omega) (by omega) (by omega) (by omega)
  rw [g3] at C3
  have C4 := fun w => mul_any q1 q2 y1 y2 w (by omega) (by omega) (by omega) (by omega)
  rw [g4] at C4
  have C5 := fun w => sub_any p1 p2 x1 x2 w (by omega) (by omega) (by omega) (by omega)
  rw [g5] at C5
  have C6 := fun w => add_any (-d1) d2 (-d1) d2 w (by omega) (by omega) (by omega) (by omega)
  rw [g6] at C6
  have C7 := fun w => mul_any y1 y2 1 (-9) w (by omega) (by omega) (by omega) (by omega)
  rw [g7] at C7
  have C8 := fun w => cmp_any t1 t2 b1 b2 w (by omega) (by omega) (by omega) (by omega)
  obtain ⟨ka, hka⟩ : ∃ k, k = pickI A 199999 := ⟨_, rfl⟩
  rw [← hka] at CP hn
  obtain ⟨kb, hkb⟩ : ∃ k, k = pickI B 99999 := ⟨_, rfl⟩
  rw [← hkb] at CQ hmm
  obtain ⟨cv, hcv⟩ : ∃ c, c = cmpD t1 t2 b1 b2 := ⟨_, rfl⟩
  rw [← hcv] at C8 g8
  have hre : n.tmod m = n.tmod m := rfl
  obtain ⟨r, hr⟩ : ∃ r, r = n.tmod m := ⟨_, rfl⟩
  have hz : r = 0 ↔ n % m = 0 := by rw [hr, ← Int.dvd_iff_tmod_eq_zero, ← Int.dvd_iff_emod_eq_zero]
  have g9' : ¬ r = 0 ∨ r = 0 ∧ 0 ≤ q2 ∧ d1 = 0 := by
    by_cases c : r = 0
    · right; rcases g9 with h | h
      · exact absurd (hz.1 c) h
      · exact ⟨c, h⟩
    · exact .inl c
  have H9 := Lib.hid g9'
  have HR := Lib.hid hr
  have hrb : -99999 ≤ r ∧ r ≤ 99999 := by
    have := Int.tmod_lt_of_pos n (show 0 < m by omega)
    have := Int.lt_tmod_of_pos n (show 0 < m by omega)
    omega
  obtain ⟨hr0, hr1⟩ := hrb
  clear g1 g2 g3 g4 g5 g6 g7 g9 g9' hka hkb hcv hz hre hr
  have KP := Lib.hid CP
  clear CP
  have KQ := Lib.hid CQ
  clear CQ
  have K1 := Lib.hid C1
  clear C1
  have K2 := Lib.hid C2
  clear C2
  have K3 := Lib.hid C3
  clear C3
  have K4 := Lib.hid C4
  clear C4
  have K5 := Lib.hid C5
  clear C5
  have K6 := Lib.hid C6
  clear C6
  have K7 := Lib.hid C7
  clear C7
  have K8 := Lib.hid C8
  clear C8
  go_enter Tryd.func8, Tryd.ntmps8
  go_wp2_with fail
  have hB : Below w.heap.size w w := Below.refl _ _
  refine (examples_any _ (hm.below hB)).mono ?_
  rintro e w1 ⟨rfl, hB1⟩
  have hB := hB.trans (hB1.mono hB.size)
  clear hB1
  go_wp2_with fail
  refine (KP.out _).mono ?_
  rintro e w1 ⟨rfl, rfl⟩
  have hka0 : -9223372036854775808 ≤ ka := by omega
  have hka1 : ka ≤ 9223372036854775807 := by omega
  go_wp2_with fail
  refine (KQ.out _).mono ?_
  rintro e w1 ⟨rfl, rfl⟩
  go_wp2_with fail
  refine (K1.out _).mono ?_
  rintro e w1 ⟨rfl, hB1⟩
  have hB := hB.trans (hB1.mono hB.size)
  clear hB1
  have d_x : World.dec (w1.alloc (.cells #[.int .i64 x1, .int .i64 x2] 23)) (w1.heap.size) x1 x2 := World.dec_new _ _ _ _ rfl
  have hB := hB.alloc hB.size (.cells #[.int .i64 x1, .int .i64 x2] 23)
  have c_x := d_x.c0
  have e_x := d_x.c1
  go_wp2_with fail
  clear c_x e_x
  refine (K2.out _).mono ?_
  rintro e w1 ⟨rfl, hB1⟩
  have d_x := d_x.below hB1 d_x.lt
  have hB := hB.trans (hB1.mono hB.size)
  clear hB1
  have d_y : World.dec (w1.alloc (.cells #[.int .i64 y1, .int .i64 y2] 23)) (w1.heap.size) y1 y2 := World.dec_new _ _ _ _ rfl
  have l_x := d_x.lt
  have d_x := d_x.alloc (.cells #[.int .i64 y1, .int .i64 y2] 23)
  have hB := hB.alloc hB.size (.cells #[.int .i64 y1, .int .i64 y2] 23)
  have c_x := d_x.c0
  have e_x := d_x.c1
  have c_y := d_y.c0
  have e_y := d_y.c1
  go_wp2_with fail
  clear c_x e_x c_y e_y
  clear l_x
  refine (K3.out _).mono ?_
  rintro e w1 ⟨rfl, hB1⟩
  have d_x := d_x.below hB1 d_x.lt
  have d_y := d_y.below hB1 d_y.lt
  have hB := hB.trans (hB1.mono hB.size)
  clear hB1
  have d_q : World.dec (w1.alloc (.cells #[.int .i64 q1, .int .i64 q2] 23)) (w1.heap.size) q1 q2 := World.dec_new _ _ _ _ rfl
  have l_x := d_x.lt
  have d_x := d_x.alloc (.cells #[.int .i64 q1, .int .i64 q2] 23)
  have l_y := d_y.lt
  have d_y := d_y.alloc (.cells #[.int .i64 q1, .int .i64 q2] 23)
  have hB := hB.alloc hB.size (.cells #[.int .i64 q1, .int .i64 q2] 23)
  have c_x := d_x.c0
  have e_x := d_x.c1
  have c_y := d_y.c0
  have e_y := d_y.c1
  have c_q := d_q.c0
  have e_q := d_q.c1
  go_wp2_with fail
  clear c_x e_x c_y e_y c_q e_q
  clear l_x l_y
  refine (K4.out _).mono ?_
  rintro e w1 ⟨rfl, hB1⟩
  have d_x := d_x.below hB1 d_x.lt
  have d_y := d_y.below hB1 d_y.lt
  have d_q := d_q.below hB1 d_q.lt
  have hB := hB.trans (hB1.mono hB.size)
  clear hB1
  have d_p : World.dec (w1.alloc (.cells #[.int .i64 p1, .int .i64 p2] 23)) (w1.heap.size) p1 p2 := World.dec_new _ _ _ _ rfl
  have l_x := d_x.lt
  have d_x := d_x.alloc (.cells #[.int .i64 p1, .int .i64 p2] 23)
  have l_y := d_y.lt
  have d_y := d_y.alloc (.cells #[.int .i64 p1, .int .i64 p2] 23)
  have l_q := d_q.lt
  have d_q := d_q.alloc (.cells #[.int .i64 p1, .int .i64 p2] 23)
  have hB := hB.alloc hB.size (.cells #[.int .i64 p1, .int .i64 p2] 23)
  have c_x := d_x.c0
  have e_x := d_x.c1
  have c_y := d_y.c0
  have e_y := d_y.c1
  have c_p := d_p.c0
  have e_p := d_p.c1
  go_wp2_with fail
  clear c_x e_x c_y e_y c_p e_p
  clear l_x l_y l_q
  refine (K5.out _).mono ?_
  rintro e w1 ⟨rfl, hB1⟩
  have d_x := d_x.below hB1 d_x.lt
  have d_y := d_y.below hB1 d_y.lt
  have d_q := d_q.below hB1 d_q.lt
  have d_p := d_p.below hB1 d_p.lt
  have hB := hB.trans (hB1.mono hB.size)
  clear hB1
  have d_d : World.dec (w1.alloc (.cells #[.int .i64 (-d1), .int .i64 d2] 23)) (w1.heap.size) (-d1) d2 := World.dec_new _ _ _ _ rfl
  have l_x := d_x.lt
  have d_x := d_x.alloc (.cells #[.int .i64 (-d1), .int .i64 d2] 23)
  have l_y := d_y.lt
  have d_y := d_y.alloc (.cells #[.int .i64 (-d1), .int .i64 d2] 23)
  have l_q := d_q.lt
  have d_q := d_q.alloc (.cells #[.int .i64 (-d1), .int .i64 d2] 23)
  have l_p := d_p.lt
  have d_p := d_p.alloc (.cells #[.int .i64 (-d1), .int .i64 d2] 23)
  have hB := hB.alloc hB.size (.cells #[.int .i64 (-d1), .int .i64 d2] 23)
  clear d_x d_p
  have c_d := d_d.c0
  have e_d := d_d.c1
  go_wp2_with fail
  clear c_d e_d
  clear l_x l_y l_q l_p
  refine (K6.out _).mono ?_
  rintro e w1 ⟨rfl, hB1⟩
  have d_y := d_y.below hB1 d_y.lt
  have d_q := d_q.below hB1 d_q.lt
  have d_d := d_d.below hB1 d_d.lt
  have hB := hB.trans (hB1.mono hB.size)
  clear hB1
  have d_t : World.dec (w1.alloc (.cells #[.int .i64 t1, .int .i64 t2] 23)) (w1.heap.size) t1 t2 := World.dec_new _ _ _ _ rfl
  have l_y := d_y.lt
  have d_y := d_y.alloc (.cells #[.int .i64 t1, .int .i64 t2] 23)
  have l_q := d_q.lt
  have d_q := d_q.alloc (.cells #[.int .i64 t1, .int .i64 t2] 23)
  have l_d := d_d.lt
  have d_d := d_d.alloc (.cells #[.int .i64 t1, .int .i64 t2] 23)
  have hB := hB.alloc hB.size (.cells #[.int .i64 t1, .int .i64 t2] 23)
  have c_y := d_y.c0
  have e_y := d_y.c1
  go_wp2_with fail
  clear c_y e_y
  clear l_y l_q l_d
  refine (K7.out _).mono ?_
  rintro e w1 ⟨rfl, hB1⟩
  have d_y := d_y.below hB1 d_y.lt
  have d_q := d_q.below hB1 d_q.lt
  have d_d := d_d.below hB1 d_d.lt
  have d_t := d_t.below hB1 d_t.lt
  have hB := hB.trans (hB1.mono hB.size)
  clear hB1
  have d_b : World.dec (w1.alloc (.cells #[.int .i64 b1, .int .i64 b2] 23)) (w1.heap.size) b1 b2 := World.dec_new _ _ _ _ rfl
  have l_y := d_y.lt
  have d_y := d_y.alloc (.cells #[.int .i64 b1, .int .i64 b2] 23)
  have l_q := d_q.lt
  have d_q := d_q.alloc (.cells #[.int .i64 b1, .int .i64 b2] 23)
  have l_d := d_d.lt
  have d_d := d_d.alloc (.cells #[.int .i64 b1, .int .i64 b2] 23)
  have l_t := d_t.lt
  have d_t := d_t.alloc (.cells #[.int .i64 b1, .int .i64 b2] 23)
  have hB := hB.alloc hB.size (.cells #[.int .i64 b1, .int .i64 b2] 23)
  clear d_y
  have c_t := d_t.c0
  have e_t := d_t.c1
  have c_b := d_b.c0
  have e_b := d_b.c1
  go_wp2_with fail
  clear c_t e_t c_b e_b
  clear l_y l_q l_d l_t
  refine (K8.out _).mono ?_
  rintro e w1 ⟨rfl, hB1⟩
  have d_q := d_q.below hB1 d_q.lt
  have d_d := d_d.below hB1 d_d.lt
  have d_t := d_t.below hB1 d_t.lt
  have d_b := d_b.below hB1 d_b.lt
  have hB := hB.trans (hB1.mono hB.size)
  clear hB1
  have hrt : n.tmod m = r := HR.out.symm
  have h9 : ¬ r = 0 := by rcases H9.out with c | ⟨_, _, c⟩ <;> omega
  have c_q := d_q.c0
  have e_q := d_q.c1
  have c_d := d_d.c0
  have e_d := d_d.c1
  go_wp2_with fail
  clear c_q e_q c_d e_d
  go_ret
  exact ⟨rfl, hB⟩

set_option maxRecDepth 100000 in
set_option maxHeartbeats 8000000 in
theorem nears_pos (A B : Int) (w : World) (hm : Shp w) (hA0 : -9223372036854775808 ≤ A) (hA1 : A ≤ 9223372036854775807) (hB0 : -9223372036854775808 ≤ B) (hB1 : B ≤ 9223372036854775807) (n m x1 x2 y1 y2 q1 q2 p1 p2 d1 d2 t1 t2 b1 b2 : Int) (hn : pickI A 199999 - 99999 = n) (hmm : 1 + pickI B 99999 = m) (n0 : -99999 ≤ n) (n1 : n ≤ 99999) (m0 : 1 ≤ m) (m1 : m ≤ 99999) (g1 : ofD n = ((x1, x2), 0)) (g2 : ofD m = ((y1, y2), 0)) (g3 : divD x1 x2 y1 y2 = ((q1, q2), 0)) (g4 : mulD q1 q2 y1 y2 = ((p1, p2), 0)) (g5 : subD p1 p2 x1 x2 = ((d1, d2), 0)) (g6 : addD d1 d2 d1 d2 = ((t1, t2), 0)) (g7 : mulD y1 y2 1 (-9) = ((b1, b2), 0)) (g8 : cmpD t1 t2 b1 b2 ≤ 0) (g9 : n % m ≠ 0 ∨ 0 ≤ q2 ∧ d1 = 0) (hx : RightP (x1, x2)) (hy : RightP (y1, y2)) (hq : RightP (q1, q2)) (hp : RightP (p1, p2)) (hd : RightP (d1, d2)) (ht : RightP (t1, t2)) (hb : RightP (b1, b2)) (hneg : ¬ d1 < 0) :
    Calls Tryd.prog 8 #[.int .i64 A, .int .i64 B] w fun e w' => e = .returned (.bool true) ∧ Below w.heap.size w w' := by
  obtain ⟨xa, xb, xc, xd, _⟩ := hx
  obtain ⟨ya, yb, yc, yd, _⟩ := hy
  obtain ⟨qa, qb, qc, qd, _⟩ := hq
  obtain ⟨pa, pb, pc, pd, _⟩ := hp
  obtain ⟨da, db, dc, dd, _⟩ := hd
  obtain ⟨ta, tb, tc, td, _⟩ := ht
  obtain ⟨ba, bb, bc, bd, _⟩ := hb
  simp only at xa xb xc xd ya yb yc yd qa qb qc qd pa pb pc pd da db dc dd ta tb tc td ba bb bc bd
  have CP := fun w => pick_any A 199999 w hA0 hA1 (by decide) (by decide)
  have CQ := fun w => pick_any B 99999 w hB0 hB1 (by decide) (by decide)
  have C1 := fun w => of_n n w (by omega) (by omega)
  rw [g1] at C1
  have C2 := fun w => of_n m w (by omega) (by omega)
  rw [g2] at C2
  have C3 := fun w => div_any x1 x2 y1 y2 w (by omega) (by omega) (by omega) (by omega)
  rw [g3] at C3
  have C4 := fun w => mul_any q1 q2 y1 y2 w (by omega) (by omega) (by omega) (by omega)
  rw [g4] at C4
  have C5 := fun w => sub_any p1 p2 x1 x2 w (by omega) (by omega) (by omega) (by omega)
  rw [g5] at C5
  have C6 := fun w => add_any d1 d2 d1 d2 w (by omega) (by omega) (by omega) (by omega)
  rw [g6] at C6
  have C7 := fun w => mul_any y1 y2 1 (-9) w (by omega) (by omega) (by omega) (by omega)
  rw [g7] at C7
  have C8 := fun w => cmp_any t1 t2 b1 b2 w (by omega) (by omega) (by omega) (by omega)
  obtain ⟨ka, hka⟩ : ∃ k, k = pickI A 199999 := ⟨_, rfl⟩
  rw [← hka] at CP hn
  obtain ⟨kb, hkb⟩ : ∃ k, k = pickI B 99999 := ⟨_, rfl⟩
  rw [← hkb] at CQ hmm
  obtain ⟨cv, hcv⟩ : ∃ c, c = cmpD t1 t2 b1 b2 := ⟨_, rfl⟩
  rw [← hcv] at C8 g8
  have hre : n.tmod m = n.tmod m := rfl
  obtain ⟨r, hr⟩ : ∃ r, r = n.tmod m := ⟨_, rfl⟩
  have hz : r = 0 ↔ n % m = 0 := by rw [hr, ← Int.dvd_iff_tmod_eq_zero, ← Int.dvd_iff_emod_eq_zero]
  have g9' : ¬ r = 0 ∨ r = 0 ∧ 0 ≤ q2 ∧ d1 = 0 := by
    by_cases c : r = 0
    · right; rcases g9 with h | h
      · exact absurd (hz.1 c) h
      · exact ⟨c, h⟩
    · exact .inl c
  have H9 := Lib.hid g9'
  have HR := Lib.hid hr
  have hrb : -99999 ≤ r ∧ r ≤ 99999 := by
    have := Int.tmod_lt_of_pos n (show 0 < m by omega)
    have := Int.lt_tmod_of_pos n (show 0 < m by omega)
    omega
  obtain ⟨hr0, hr1⟩ := hrb
  clear g1 g2 g3 g4 g5 g6 g7 g9 g9' hka hkb hcv hz hre hr
  have KP := Lib.hid CP
  clear CP
  have KQ := Lib.hid CQ
  clear CQ
  have K1 := Lib.hid C1
  clear C1
  have K2 := Lib.hid C2
  clear C2
  have K3 := Lib.hid C3
  clear C3
  have K4 := Lib.hid C4
  clear C4
  have K5 := Lib.hid C5
  clear C5
  have K6 := Lib.hid C6
  clear C6
  have K7 := Lib.hid C7
  clear C7
  have K8 := Lib.hid C8
  clear C8
  go_enter Tryd.func8, Tryd.ntmps8
  go_wp2_with fail
  have hB : Below w.heap.size w w := Below.refl _ _
  refine (examples_any _ (hm.below hB)).mono ?_
  rintro e w1 ⟨rfl, hB1⟩
  have hB := hB.trans (hB1.mono hB.size)
  clear hB1
  go_wp2_with fail
  refine (KP.out _).mono ?_
  rintro e w1 ⟨rfl, rfl⟩
  have hka0 : -9223372036854775808 ≤ ka := by omega
  have hka1 : ka ≤ 9223372036854775807 := by omega
  go_wp2_with fail
  refine (KQ.out _).mono ?_
  rintro e w1 ⟨rfl, rfl⟩
  go_wp2_with fail
  refine (K1.out _).mono ?_
  rintro e w1 ⟨rfl, hB1⟩
  have hB := hB.trans (hB1.mono hB.size)
  clear hB1
  have d_x : World.dec (w1.alloc (.cells #[.int .i64 x1, .int .i64 x2] 23)) (w1.heap.size) x1 x2 := World.dec_new _ _ _ _ rfl
  have hB := hB.alloc hB.size (.cells #[.int .i64 x1, .int .i64 x2] 23)
  have c_x := d_x.c0
  have e_x := d_x.c1
  go_wp2_with fail
  clear c_x e_x
  refine (K2.out _).mono ?_
  rintro e w1 ⟨rfl, hB1⟩
  have d_x := d_x.below hB1 d_x.lt
  have hB := hB.trans (hB1.mono hB.size)
  clear hB1
  have d_y : World.dec (w1.alloc (.cells #[.int .i64 y1, .int .i64 y2] 23)) (w1.heap.size) y1 y2 := World.dec_new _ _ _ _ rfl
  have l_x := d_x.lt
  have d_x := d_x.alloc (.cells #[.int .i64 y1, .int .i64 y2] 23)
  have hB := hB.alloc hB.size (.cells #[.int .i64 y1, .int .i64 y2] 23)
  have c_x := d_x.c0
  have e_x := d_x.c1
  have c_y := d_y.c0
  have e_y := d_y.c1
  go_wp2_with fail
  clear c_x e_x c_y e_y
  clear l_x
  refine (K3.out _).mono ?_
  rintro e w1 ⟨rfl, hB1⟩
  have d_x := d_x.below hB1 d_x.lt
  have d_y := d_y.below hB1 d_y.lt
  have hB := hB.trans (hB1.mono hB.size)
  clear hB1
  have d_q : World.dec (w1.alloc (.cells #[.int .i64 q1, .int .i64 q2] 23)) (w1.heap.size) q1 q2 := World.dec_new _ _ _ _ rfl
  have l_x := d_x.lt
  have d_x := d_x.alloc (.cells #[.int .i64 q1, .int .i64 q2] 23)
  have l_y := d_y.lt
  have d_y := d_y.alloc (.cells #[.int .i64 q1, .int .i64 q2] 23)
  have hB := hB.alloc hB.size (.cells #[.int .i64 q1, .int .i64 q2] 23)
  have c_x := d_x.c0
  have e_x := d_x.c1
  have c_y := d_y.c0
  have e_y := d_y.c1
  have c_q := d_q.c0
  have e_q := d_q.c1
  go_wp2_with fail
  clear c_x e_x c_y e_y c_q e_q
  clear l_x l_y
  refine (K4.out _).mono ?_
  rintro e w1 ⟨rfl, hB1⟩
  have d_x := d_x.below hB1 d_x.lt
  have d_y := d_y.below hB1 d_y.lt
  have d_q := d_q.below hB1 d_q.lt
  have hB := hB.trans (hB1.mono hB.size)
  clear hB1
  have d_p : World.dec (w1.alloc (.cells #[.int .i64 p1, .int .i64 p2] 23)) (w1.heap.size) p1 p2 := World.dec_new _ _ _ _ rfl
  have l_x := d_x.lt
  have d_x := d_x.alloc (.cells #[.int .i64 p1, .int .i64 p2] 23)
  have l_y := d_y.lt
  have d_y := d_y.alloc (.cells #[.int .i64 p1, .int .i64 p2] 23)
  have l_q := d_q.lt
  have d_q := d_q.alloc (.cells #[.int .i64 p1, .int .i64 p2] 23)
  have hB := hB.alloc hB.size (.cells #[.int .i64 p1, .int .i64 p2] 23)
  have c_x := d_x.c0
  have e_x := d_x.c1
  have c_y := d_y.c0
  have e_y := d_y.c1
  have c_p := d_p.c0
  have e_p := d_p.c1
  go_wp2_with fail
  clear c_x e_x c_y e_y c_p e_p
  clear l_x l_y l_q
  refine (K5.out _).mono ?_
  rintro e w1 ⟨rfl, hB1⟩
  have d_x := d_x.below hB1 d_x.lt
  have d_y := d_y.below hB1 d_y.lt
  have d_q := d_q.below hB1 d_q.lt
  have d_p := d_p.below hB1 d_p.lt
  have hB := hB.trans (hB1.mono hB.size)
  clear hB1
  have d_d : World.dec (w1.alloc (.cells #[.int .i64 d1, .int .i64 d2] 23)) (w1.heap.size) d1 d2 := World.dec_new _ _ _ _ rfl
  have l_x := d_x.lt
  have d_x := d_x.alloc (.cells #[.int .i64 d1, .int .i64 d2] 23)
  have l_y := d_y.lt
  have d_y := d_y.alloc (.cells #[.int .i64 d1, .int .i64 d2] 23)
  have l_q := d_q.lt
  have d_q := d_q.alloc (.cells #[.int .i64 d1, .int .i64 d2] 23)
  have l_p := d_p.lt
  have d_p := d_p.alloc (.cells #[.int .i64 d1, .int .i64 d2] 23)
  have hB := hB.alloc hB.size (.cells #[.int .i64 d1, .int .i64 d2] 23)
  clear d_x d_p
  have c_d := d_d.c0
  have e_d := d_d.c1
  go_wp2_with fail
  clear c_d e_d
  clear l_x l_y l_q l_p
  refine (K6.out _).mono ?_
  rintro e w1 ⟨rfl, hB1⟩
  have d_y := d_y.below hB1 d_y.lt
  have d_q := d_q.below hB1 d_q.lt
  have d_d := d_d.below hB1 d_d.lt
  have hB := hB.trans (hB1.mono hB.size)
  clear hB1
  have d_t : World.dec (w1.alloc (.cells #[.int .i64 t1, .int .i64 t2] 23)) (w1.heap.size) t1 t2 := World.dec_new _ _ _ _ rfl
  have l_y := d_y.lt
  have d_y := d_y.alloc (.cells #[.int .i64 t1, .int .i64 t2] 23)
  have l_q := d_q.lt
  have d_q := d_q.alloc (.cells #[.int .i64 t1, .int .i64 t2] 23)
  have l_d := d_d.lt
  have d_d := d_d.alloc (.cells #[.int .i64 t1, .int .i64 t2] 23)
  have hB := hB.alloc hB.size (.cells #[.int .i64 t1, .int .i64 t2] 23)
  have c_y := d_y.c0
  have e_y := d_y.c1
  go_wp2_with fail
  clear c_y e_y
  clear l_y l_q l_d
  refine (K7.out _).mono ?_
  rintro e w1 ⟨rfl, hB1⟩
  have d_y := d_y.below hB1 d_y.lt
  have d_q := d_q.below hB1 d_q.lt
  have d_d := d_d.below hB1 d_d.lt
  have d_t := d_t.below hB1 d_t.lt
  have hB := hB.trans (hB1.mono hB.size)
  clear hB1
  have d_b : World.dec (w1.alloc (.cells #[.int .i64 b1, .int .i64 b2] 23)) (w1.heap.size) b1 b2 := World.dec_new _ _ _ _ rfl
  have l_y := d_y.lt
  have d_y := d_y.alloc (.cells #[.int .i64 b1, .int .i64 b2] 23)
  have l_q := d_q.lt
  have d_q := d_q.alloc (.cells #[.int .i64 b1, .int .i64 b2] 23)
  have l_d := d_d.lt
  have d_d := d_d.alloc (.cells #[.int .i64 b1, .int .i64 b2] 23)
  have l_t := d_t.lt
  have d_t := d_t.alloc (.cells #[.int .i64 b1, .int .i64 b2] 23)
  have hB := hB.alloc hB.size (.cells #[.int .i64 b1, .int .i64 b2] 23)
  clear d_y
  have c_t := d_t.c0
  have e_t := d_t.c1
  have c_b := d_b.c0
  have e_b := d_b.c1
  go_wp2_with fail
  clear c_t e_t c_b e_b
  clear l_y l_q l_d l_t
  refine (K8.out _).mono ?_
  rintro e w1 ⟨rfl, hB1⟩
  have d_q := d_q.below hB1 d_q.lt
  have d_d := d_d.below hB1 d_d.lt
  have d_t := d_t.below hB1 d_t.lt
  have d_b := d_b.below hB1 d_b.lt
  have hB := hB.trans (hB1.mono hB.size)
  clear hB1
  have hrt : n.tmod m = r := HR.out.symm
  have hBf := hB
  rcases H9.out with h9 | ⟨h9, h8, hd0⟩
  · have c_q := d_q.c0
    have e_q := d_q.c1
    have c_d := d_d.c0
    have e_d := d_d.c1
    go_wp2_with fail
    clear c_q e_q c_d e_d
    go_ret
    exact ⟨rfl, hB⟩
  · have hd9 : (d1 == 0) = true := by simpa using hd0
    have c_q := d_q.c0
    have e_q := d_q.c1
    have c_d := d_d.c0
    have e_d := d_d.c1
    go_wp2_with fail
    clear c_q e_q c_d e_d
    try rw [hd9]
    go_ret
    exact ⟨rfl, hB⟩

theorem near_walk (A B : Int) (w : World) (hm : Shp w) (hA0 : -9223372036854775808 ≤ A) (hA1 : A ≤ 9223372036854775807) (hB0 : -9223372036854775808 ≤ B) (hB1 : B ≤ 9223372036854775807) :
    Calls Tryd.prog 8 #[.int .i64 A, .int .i64 B] w fun e w' => e = .returned (.bool true) ∧ Below w.heap.size w w' := by
  obtain ⟨p0, p1⟩ := pickI_bd A (n := 199999) (by decide)
  obtain ⟨p2, p3⟩ := pickI_bd B (n := 99999) (by decide)
  obtain ⟨x1, x2, y1, y2, q1, q2, p1, p2, d1, d2, t1, t2, b1, b2, g1, g2, g3, g4, g5, g6, g7, g8, g9, hx, hy, hq, hp, hd, ht, hb⟩ := near_plain (n := pickI A 199999 - 99999) (m := 1 + pickI B 99999) (by omega) (by omega) (by omega) (by omega)
  by_cases hneg : d1 < 0
  · rw [if_pos hneg] at g6
    exact nears_neg A B w hm hA0 hA1 hB0 hB1 _ _ x1 x2 y1 y2 q1 q2 p1 p2 d1 d2 t1 t2 b1 b2 rfl rfl (by omega) (by omega) (by omega) (by omega) g1 g2 g3 g4 g5 g6 g7 g8 g9 hx hy hq hp hd ht hb hneg
  · rw [if_neg hneg] at g6
    exact nears_pos A B w hm hA0 hA1 hB0 hB1 _ _ x1 x2 y1 y2 q1 q2 p1 p2 d1 d2 t1 t2 b1 b2 rfl rfl (by omega) (by omega) (by omega) (by omega) g1 g2 g3 g4 g5 g6 g7 g8 g9 hx hy hq hp hd ht hb hneg
end Go.Proofs.YtpkohfdebgiloaaDoor
