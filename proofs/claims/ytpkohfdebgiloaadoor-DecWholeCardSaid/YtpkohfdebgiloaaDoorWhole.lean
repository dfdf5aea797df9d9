/- The walk of DecWhole: true. -/
import Derived.Test.YtpkohfdebgiloaaDoorWorth4
namespace Go.Proofs.YtpkohfdebgiloaaDoor
open Go.RowKit Go.Shelf

set_option maxRecDepth 100000 in
set_option maxHeartbeats 8000000 in
theorem whole_zero (A B : Int) (w : World) (hm : Shp w) (hA0 : -9223372036854775808 ≤ A) (hA1 : A ≤ 9223372036854775807) (hB0 : -9223372036854775808 ≤ B) (hB1 : B ≤ 9223372036854775807) (n m x1 x2 y1 y2 s1 s2 p1 p2 : Int) (hn : pickI A 19999999 - 9999999 = n) (hmm : pickI B 19999999 - 9999999 = m) (n0 : -9999999 ≤ n) (n1 : n ≤ 9999999) (m0 : -9999999 ≤ m) (m1 : m ≤ 9999999) (g1 : ofD n = ((x1, x2), 0)) (g2 : ofD m = ((y1, y2), 0)) (g3 : addD x1 x2 y1 y2 = ((s1, s2), 0)) (g4 : mulD x1 x2 y1 y2 = ((p1, p2), 0)) (g5 : ofD (n + m) = ((s1, s2), 0)) (g6 : ofD (n * m) = ((p1, p2), 0)) (g7 : floorD p1 p2 = (n * m, 0)) (hnm : -99999980000001 ≤ n * m ∧ n * m ≤ 99999980000001) (hx : RightP (x1, x2)) (hy : RightP (y1, y2)) (hs : RightP (s1, s2)) (hp : RightP (p1, p2)) (hz : (m == 0) = true) :
    Calls Tryd.prog 6 #[.int .i64 A, .int .i64 B] w fun e w' => e = .returned (.bool true) ∧ Below w.heap.size w w' := by
  obtain ⟨xa, xb, xc, xd, _⟩ := hx
  obtain ⟨ya, yb, yc, yd, _⟩ := hy
  obtain ⟨sa, sb, sc, sd, _⟩ := hs
  obtain ⟨pa, pb, pc, pd, _⟩ := hp
  simp only at xa xb xc xd ya yb yc yd sa sb sc sd pa pb pc pd
  obtain ⟨pr, hpr⟩ : ∃ pr, pr = n * m := ⟨_, rfl⟩
  rw [← hpr] at g6 g7 hnm
  obtain ⟨pr0, pr1⟩ := hnm
  have CP := fun w => pick_any A 19999999 w hA0 hA1 (by decide) (by decide)
  have CQ := fun w => pick_any B 19999999 w hB0 hB1 (by decide) (by decide)
  have C1 := fun w => of_n n w (by omega) (by omega)
  rw [g1] at C1
  have C2 := fun w => of_n m w (by omega) (by omega)
  rw [g2] at C2
  have C3 := fun w => add_any x1 x2 y1 y2 w (by omega) (by omega) (by omega) (by omega)
  rw [g3] at C3
  have C4 := fun w => mul_any x1 x2 y1 y2 w (by omega) (by omega) (by omega) (by omega)
  rw [g4] at C4
  have C5 := fun w => of_n (n + m) w (by omega) (by omega)
  rw [g5] at C5
  have C6 := fun w => of_n pr w (by omega) (by omega)
  rw [g6] at C6
  have C7 := fun w => floor_any p1 p2 w (by omega) (by omega)
  rw [g7] at C7
  obtain ⟨ka, hka⟩ : ∃ k, k = pickI A 19999999 := ⟨_, rfl⟩
  rw [← hka] at CP hn
  obtain ⟨kb, hkb⟩ : ∃ k, k = pickI B 19999999 := ⟨_, rfl⟩
  rw [← hkb] at CQ hmm
  have hprt : n * m = pr := hpr.symm
  clear hpr g1 g2 g3 g4 g5 g6 g7 hka hkb
  have KP := Lib.hid CP
  clear CP
  have KQ := Lib.hid CQ
  clear CQ
  have K1 := Lib.hid C1
  clear C1
  have K2 := Lib.hid C2
  clear C2
  have K3 := Lib.hid C3
  clear C3
  have K4 := Lib.hid C4
  clear C4
  have K5 := Lib.hid C5
  clear C5
  have K6 := Lib.hid C6
  clear C6
  have K7 := Lib.hid C7
  clear C7
  go_enter Tryd.func6, Tryd.ntmps6
  go_wp2_with fail
  have hB : Below w.heap.size w w := Below.refl _ _
  refine (examples_any _ (hm.below hB)).mono ?_
  rintro e w1 ⟨rfl, hB1⟩
  have hB := hB.trans (hB1.mono hB.size)
  clear hB1
  go_wp2_with fail
  refine (KP.out _).mono ?_
  rintro e w1 ⟨rfl, rfl⟩
  go_wp2_with fail
  refine (KQ.out _).mono ?_
  rintro e w1 ⟨rfl, rfl⟩
  go_wp2_with fail
  refine (K1.out _).mono ?_
  rintro e w1 ⟨rfl, hB1⟩
  have hB := hB.trans (hB1.mono hB.size)
  clear hB1
  have d_x : World.dec (w1.alloc (.cells #[.int .i64 x1, .int .i64 x2] 23)) (w1.heap.size) x1 x2 := World.dec_new _ _ _ _ rfl
  have hB := hB.alloc hB.size (.cells #[.int .i64 x1, .int .i64 x2] 23)
  have c_x := d_x.c0
  have e_x := d_x.c1
  go_wp2_with fail
  clear c_x e_x
  refine (K2.out _).mono ?_
  rintro e w1 ⟨rfl, hB1⟩
  have d_x := d_x.below hB1 d_x.lt
  have hB := hB.trans (hB1.mono hB.size)
  clear hB1
  have d_y : World.dec (w1.alloc (.cells #[.int .i64 y1, .int .i64 y2] 23)) (w1.heap.size) y1 y2 := World.dec_new _ _ _ _ rfl
  have l_x := d_x.lt
  have d_x := d_x.alloc (.cells #[.int .i64 y1, .int .i64 y2] 23)
  have hB := hB.alloc hB.size (.cells #[.int .i64 y1, .int .i64 y2] 23)
  have c_x := d_x.c0
  have e_x := d_x.c1
  have c_y := d_y.c0
  have e_y := d_y.c1
  go_wp2_with fail
  clear c_x e_x c_y e_y
  clear l_x
  refine (K3.out _).mono ?_
  rintro e w1 ⟨rfl, hB1⟩
  have d_x := d_x.below hB1 d_x.lt
  have d_y := d_y.below hB1 d_y.lt
  have hB := hB.trans (hB1.mono hB.size)
  clear hB1
  have d_s : World.dec (w1.alloc (.cells #[.int .i64 s1, .int .i64 s2] 23)) (w1.heap.size) s1 s2 := World.dec_new _ _ _ _ rfl
  have l_x := d_x.lt
  have d_x := d_x.alloc (.cells #[.int .i64 s1, .int .i64 s2] 23)
  have l_y := d_y.lt
  have d_y := d_y.alloc (.cells #[.int .i64 s1, .int .i64 s2] 23)
  have hB := hB.alloc hB.size (.cells #[.int .i64 s1, .int .i64 s2] 23)
  have c_x := d_x.c0
  have e_x := d_x.c1
  have c_y := d_y.c0
  have e_y := d_y.c1
  go_wp2_with fail
  clear c_x e_x c_y e_y
  clear l_x l_y
  refine (K4.out _).mono ?_
  rintro e w1 ⟨rfl, hB1⟩
  have d_x := d_x.below hB1 d_x.lt
  have d_y := d_y.below hB1 d_y.lt
  have d_s := d_s.below hB1 d_s.lt
  have hB := hB.trans (hB1.mono hB.size)
  clear hB1
  have d_p : World.dec (w1.alloc (.cells #[.int .i64 p1, .int .i64 p2] 23)) (w1.heap.size) p1 p2 := World.dec_new _ _ _ _ rfl
  have l_x := d_x.lt
  have d_x := d_x.alloc (.cells #[.int .i64 p1, .int .i64 p2] 23)
  have l_y := d_y.lt
  have d_y := d_y.alloc (.cells #[.int .i64 p1, .int .i64 p2] 23)
  have l_s := d_s.lt
  have d_s := d_s.alloc (.cells #[.int .i64 p1, .int .i64 p2] 23)
  have hB := hB.alloc hB.size (.cells #[.int .i64 p1, .int .i64 p2] 23)
  have c_p := d_p.c0
  have e_p := d_p.c1
  go_wp2_with fail
  clear c_p e_p
  clear l_x l_y l_s
  refine (K5.out _).mono ?_
  rintro e w1 ⟨rfl, hB1⟩
  have d_x := d_x.below hB1 d_x.lt
  have d_y := d_y.below hB1 d_y.lt
  have d_s := d_s.below hB1 d_s.lt
  have d_p := d_p.below hB1 d_p.lt
  have hB := hB.trans (hB1.mono hB.size)
  clear hB1
  have d_t : World.dec (w1.alloc (.cells #[.int .i64 s1, .int .i64 s2] 23)) (w1.heap.size) s1 s2 := World.dec_new _ _ _ _ rfl
  have l_x := d_x.lt
  have d_x := d_x.alloc (.cells #[.int .i64 s1, .int .i64 s2] 23)
  have l_y := d_y.lt
  have d_y := d_y.alloc (.cells #[.int .i64 s1, .int .i64 s2] 23)
  have l_s := d_s.lt
  have d_s := d_s.alloc (.cells #[.int .i64 s1, .int .i64 s2] 23)
  have l_p := d_p.lt
  have d_p := d_p.alloc (.cells #[.int .i64 s1, .int .i64 s2] 23)
  have hB := hB.alloc hB.size (.cells #[.int .i64 s1, .int .i64 s2] 23)
  have c_p := d_p.c0
  have e_p := d_p.c1
  go_wp2_with fail
  clear c_p e_p
  clear l_x l_y l_s l_p
  refine (K6.out _).mono ?_
  rintro e w1 ⟨rfl, hB1⟩
  have d_x := d_x.below hB1 d_x.lt
  have d_y := d_y.below hB1 d_y.lt
  have d_s := d_s.below hB1 d_s.lt
  have d_p := d_p.below hB1 d_p.lt
  have d_t := d_t.below hB1 d_t.lt
  have hB := hB.trans (hB1.mono hB.size)
  clear hB1
  have d_u : World.dec (w1.alloc (.cells #[.int .i64 p1, .int .i64 p2] 23)) (w1.heap.size) p1 p2 := World.dec_new _ _ _ _ rfl
  have l_x := d_x.lt
  have d_x := d_x.alloc (.cells #[.int .i64 p1, .int .i64 p2] 23)
  have l_y := d_y.lt
  have d_y := d_y.alloc (.cells #[.int .i64 p1, .int .i64 p2] 23)
  have l_s := d_s.lt
  have d_s := d_s.alloc (.cells #[.int .i64 p1, .int .i64 p2] 23)
  have l_p := d_p.lt
  have d_p := d_p.alloc (.cells #[.int .i64 p1, .int .i64 p2] 23)
  have l_t := d_t.lt
  have d_t := d_t.alloc (.cells #[.int .i64 p1, .int .i64 p2] 23)
  have hB := hB.alloc hB.size (.cells #[.int .i64 p1, .int .i64 p2] 23)
  have c_p := d_p.c0
  have e_p := d_p.c1
  go_wp2_with fail
  clear c_p e_p
  clear l_x l_y l_s l_p l_t
  refine (K7.out _).mono ?_
  rintro e w1 ⟨rfl, hB1⟩
  have d_x := d_x.below hB1 d_x.lt
  have d_y := d_y.below hB1 d_y.lt
  have d_s := d_s.below hB1 d_s.lt
  have d_p := d_p.below hB1 d_p.lt
  have d_t := d_t.below hB1 d_t.lt
  have d_u := d_u.below hB1 d_u.lt
  have hB := hB.trans (hB1.mono hB.size)
  clear hB1
  have c_s := d_s.c0
  have e_s := d_s.c1
  have c_t := d_t.c0
  have e_t := d_t.c1
  have c_p := d_p.c0
  have e_p := d_p.c1
  have c_u := d_u.c0
  have e_u := d_u.c1
  have c_x := d_x.c0
  have e_x := d_x.c1
  have c_y := d_y.c0
  have e_y := d_y.c1
  go_wp2_with fail
  clear c_s e_s c_t e_t c_p e_p c_u e_u c_x e_x c_y e_y
  go_ret
  exact ⟨rfl, hB⟩

theorem down_facts (n m : Int) (_hm : ¬ m = 0) (n0 : -9999999 ≤ n) (n1 : n ≤ 9999999) (low : Int) (gl : low = downI n m ∨ low = downI n m + 1) :
    ∃ dv r : Int, n.tdiv m = dv ∧ n.tmod m = r ∧ -9999999 ≤ dv ∧ dv ≤ 9999999 ∧ -9999999 ≤ r ∧ r ≤ 9999999 ∧
      (r = 0 ∧ ((low == dv) = true ∨ (low == dv) = false ∧ (low == dv + 1) = true) ∨
       ¬ r = 0 ∧ (n < 0 ∧ m < 0) ∧ ((low == dv) = true ∨ (low == dv) = false ∧ (low == dv + 1) = true) ∨
       ¬ r = 0 ∧ (¬ n < 0 ∧ ¬ m < 0) ∧ ((low == dv) = true ∨ (low == dv) = false ∧ (low == dv + 1) = true) ∨
       ¬ r = 0 ∧ (n < 0 ∧ ¬ m < 0) ∧ ((low == dv - 1) = true ∨ (low == dv - 1) = false ∧ (low == dv) = true) ∨
       ¬ r = 0 ∧ (¬ n < 0 ∧ m < 0) ∧ ((low == dv - 1) = true ∨ (low == dv - 1) = false ∧ (low == dv) = true)) := by
  have b1 : (n.tdiv m).natAbs ≤ n.natAbs := by rw [Int.natAbs_tdiv]; exact Nat.div_le_self _ _
  have b2 : (n.tmod m).natAbs ≤ n.natAbs := by rw [Int.natAbs_tmod]; exact Nat.mod_le _ _
  refine ⟨_, _, rfl, rfl, by omega, by omega, by omega, by omega, ?_⟩
  unfold downI at gl
  generalize n.tdiv m = dv at gl ⊢
  generalize n.tmod m = r at gl ⊢
  have E : ∀ k : Int, (low = k ∨ low = k + 1) → ((low == k) = true ∨ (low == k) = false ∧ (low == k + 1) = true) := by
    intro k h
    by_cases c : low = k
    · left; simpa using c
    · right; refine ⟨by simpa using c, ?_⟩; have : low = k + 1 := by omega
      simpa using this
  have E' : ∀ k : Int, (low = k - 1 ∨ low = k - 1 + 1) → ((low == k - 1) = true ∨ (low == k - 1) = false ∧ (low == k) = true) := by
    intro k h
    by_cases c : low = k - 1
    · left; simpa using c
    · right; refine ⟨by simpa using c, ?_⟩; have : low = k := by omega
      simpa using this
  by_cases c : r = 0
  · rw [if_neg (by simp [c])] at gl
    exact .inl ⟨c, E _ gl⟩
  · by_cases a : n < 0 <;> by_cases b : m < 0
    · rw [if_neg (by simp [a, b])] at gl
      exact .inr (.inl ⟨c, ⟨a, b⟩, E _ gl⟩)
    · rw [if_pos ⟨c, by simp [a, b]⟩] at gl
      exact .inr (.inr (.inr (.inl ⟨c, ⟨a, b⟩, E' _ gl⟩)))
    · rw [if_pos ⟨c, by simp [a, b]⟩] at gl
      exact .inr (.inr (.inr (.inr ⟨c, ⟨a, b⟩, E' _ gl⟩)))
    · rw [if_neg (by simp [a, b])] at gl
      exact .inr (.inr (.inl ⟨c, ⟨a, b⟩, E _ gl⟩))

set_option maxRecDepth 100000 in
set_option maxHeartbeats 8000000 in
theorem whole_some (A B : Int) (w : World) (hm : Shp w) (hA0 : -9223372036854775808 ≤ A) (hA1 : A ≤ 9223372036854775807) (hB0 : -9223372036854775808 ≤ B) (hB1 : B ≤ 9223372036854775807) (n m x1 x2 y1 y2 s1 s2 p1 p2 q1 q2 low : Int) (hn : pickI A 19999999 - 9999999 = n) (hmm : pickI B 19999999 - 9999999 = m) (n0 : -9999999 ≤ n) (n1 : n ≤ 9999999) (m0 : -9999999 ≤ m) (m1 : m ≤ 9999999) (g1 : ofD n = ((x1, x2), 0)) (g2 : ofD m = ((y1, y2), 0)) (g3 : addD x1 x2 y1 y2 = ((s1, s2), 0)) (g4 : mulD x1 x2 y1 y2 = ((p1, p2), 0)) (g5 : ofD (n + m) = ((s1, s2), 0)) (g6 : ofD (n * m) = ((p1, p2), 0)) (g7 : floorD p1 p2 = (n * m, 0)) (hnm : -99999980000001 ≤ n * m ∧ n * m ≤ 99999980000001) (hx : RightP (x1, x2)) (hy : RightP (y1, y2)) (hs : RightP (s1, s2)) (hp : RightP (p1, p2)) (hq : RightP (q1, q2)) (hz : (m == 0) = false) (hz' : ¬ m = 0) (g8 : divD x1 x2 y1 y2 = ((q1, q2), 0)) (g9 : floorD q1 q2 = (low, 0)) (gl : low = downI n m ∨ low = downI n m + 1) :
    Calls Tryd.prog 6 #[.int .i64 A, .int .i64 B] w fun e w' => e = .returned (.bool true) ∧ Below w.heap.size w w' := by
  obtain ⟨xa, xb, xc, xd, _⟩ := hx
  obtain ⟨ya, yb, yc, yd, _⟩ := hy
  obtain ⟨sa, sb, sc, sd, _⟩ := hs
  obtain ⟨pa, pb, pc, pd, _⟩ := hp
  obtain ⟨qa, qb, qc, qd, _⟩ := hq
  simp only at xa xb xc xd ya yb yc yd sa sb sc sd pa pb pc pd qa qb qc qd
  obtain ⟨pr, hpr⟩ : ∃ pr, pr = n * m := ⟨_, rfl⟩
  rw [← hpr] at g6 g7 hnm
  obtain ⟨pr0, pr1⟩ := hnm
  have CP := fun w => pick_any A 19999999 w hA0 hA1 (by decide) (by decide)
  have CQ := fun w => pick_any B 19999999 w hB0 hB1 (by decide) (by decide)
  have C1 := fun w => of_n n w (by omega) (by omega)
  rw [g1] at C1
  have C2 := fun w => of_n m w (by omega) (by omega)
  rw [g2] at C2
  have C3 := fun w => add_any x1 x2 y1 y2 w (by omega) (by omega) (by omega) (by omega)
  rw [g3] at C3
  have C4 := fun w => mul_any x1 x2 y1 y2 w (by omega) (by omega) (by omega) (by omega)
  rw [g4] at C4
  have C5 := fun w => of_n (n + m) w (by omega) (by omega)
  rw [g5] at C5
  have C6 := fun w => of_n pr w (by omega) (by omega)
  rw [g6] at C6
  have C7 := fun w => floor_any p1 p2 w (by omega) (by omega)
  rw [g7] at C7
  have C8 := fun w => div_any x1 x2 y1 y2 w (by omega) (by omega) (by omega) (by omega)
  rw [g8] at C8
  have C9 := fun w => floor_any q1 q2 w (by omega) (by omega)
  rw [g9] at C9
  obtain ⟨ka, hka⟩ : ∃ k, k = pickI A 19999999 := ⟨_, rfl⟩
  rw [← hka] at CP hn
  obtain ⟨kb, hkb⟩ : ∃ k, k = pickI B 19999999 := ⟨_, rfl⟩
  rw [← hkb] at CQ hmm
  have hprt : n * m = pr := hpr.symm
  clear hpr g1 g2 g3 g4 g5 g6 g7 hka hkb
  have hA9 := down_facts n m hz' n0 n1 low gl
  have HD := Lib.hid hA9
  clear hA9 gl g8 g9
  have KP := Lib.hid CP
  clear CP
  have KQ := Lib.hid CQ
  clear CQ
  have K1 := Lib.hid C1
  clear C1
  have K2 := Lib.hid C2
  clear C2
  have K3 := Lib.hid C3
  clear C3
  have K4 := Lib.hid C4
  clear C4
  have K5 := Lib.hid C5
  clear C5
  have K6 := Lib.hid C6
  clear C6
  have K7 := Lib.hid C7
  clear C7
  have K8 := Lib.hid C8
  clear C8
  have K9 := Lib.hid C9
  clear C9
  go_enter Tryd.func6, Tryd.ntmps6
  go_wp2_with fail
  have hB : Below w.heap.size w w := Below.refl _ _
  refine (examples_any _ (hm.below hB)).mono ?_
  rintro e w1 ⟨rfl, hB1⟩
  have hB := hB.trans (hB1.mono hB.size)
  clear hB1
  go_wp2_with fail
  refine (KP.out _).mono ?_
  rintro e w1 ⟨rfl, rfl⟩
  go_wp2_with fail
  refine (KQ.out _).mono ?_
  rintro e w1 ⟨rfl, rfl⟩
  go_wp2_with fail
  refine (K1.out _).mono ?_
  rintro e w1 ⟨rfl, hB1⟩
  have hB := hB.trans (hB1.mono hB.size)
  clear hB1
  have d_x : World.dec (w1.alloc (.cells #[.int .i64 x1, .int .i64 x2] 23)) (w1.heap.size) x1 x2 := World.dec_new _ _ _ _ rfl
  have hB := hB.alloc hB.size (.cells #[.int .i64 x1, .int .i64 x2] 23)
  have c_x := d_x.c0
  have e_x := d_x.c1
  go_wp2_with fail
  clear c_x e_x
  refine (K2.out _).mono ?_
  rintro e w1 ⟨rfl, hB1⟩
  have d_x := d_x.below hB1 d_x.lt
  have hB := hB.trans (hB1.mono hB.size)
  clear hB1
  have d_y : World.dec (w1.alloc (.cells #[.int .i64 y1, .int .i64 y2] 23)) (w1.heap.size) y1 y2 := World.dec_new _ _ _ _ rfl
  have l_x := d_x.lt
  have d_x := d_x.alloc (.cells #[.int .i64 y1, .int .i64 y2] 23)
  have hB := hB.alloc hB.size (.cells #[.int .i64 y1, .int .i64 y2] 23)
  have c_x := d_x.c0
  have e_x := d_x.c1
  have c_y := d_y.c0
  have e_y := d_y.c1
  go_wp2_with fail
  clear c_x e_x c_y e_y
  clear l_x
  refine (K3.out _).mono ?_
  rintro e w1 ⟨rfl, hB1⟩
  have d_x := d_x.below hB1 d_x.lt
  have d_y := d_y.below hB1 d_y.lt
  have hB := hB.trans (hB1.mono hB.size)
  clear hB1
  have d_s : World.dec (w1.alloc (.cells #[.int .i64 s1, .int .i64 s2] 23)) (w1.heap.size) s1 s2 := World.dec_new _ _ _ _ rfl
  have l_x := d_x.lt
  have d_x := d_x.alloc (.cells #[.int .i64 s1, .int .i64 s2] 23)
  have l_y := d_y.lt
  have d_y := d_y.alloc (.cells #[.int .i64 s1, .int .i64 s2] 23)
  have hB := hB.alloc hB.size (.cells #[.int .i64 s1, .int .i64 s2] 23)
  have c_x := d_x.c0
  have e_x := d_x.c1
  have c_y := d_y.c0
  have e_y := d_y.c1
  go_wp2_with fail
  clear c_x e_x c_y e_y
  clear l_x l_y
  refine (K4.out _).mono ?_
  rintro e w1 ⟨rfl, hB1⟩
  have d_x := d_x.below hB1 d_x.lt
  have d_y := d_y.below hB1 d_y.lt
  have d_s := d_s.below hB1 d_s.lt
  have hB := hB.trans (hB1.mono hB.size)
  clear hB1
  have d_p : World.dec (w1.alloc (.cells #[.int .i64 p1, .int .i64 p2] 23)) (w1.heap.size) p1 p2 := World.dec_new _ _ _ _ rfl
  have l_x := d_x.lt
  have d_x := d_x.alloc (.cells #[.int .i64 p1, .int .i64 p2] 23)
  have l_y := d_y.lt
  have d_y := d_y.alloc (.cells #[.int .i64 p1, .int .i64 p2] 23)
  have l_s := d_s.lt
  have d_s := d_s.alloc (.cells #[.int .i64 p1, .int .i64 p2] 23)
  have hB := hB.alloc hB.size (.cells #[.int .i64 p1, .int .i64 p2] 23)
  have c_p := d_p.c0
  have e_p := d_p.c1
  go_wp2_with fail
  clear c_p e_p
  clear l_x l_y l_s
  refine (K5.out _).mono ?_
  rintro e w1 ⟨rfl, hB1⟩
  have d_x := d_x.below hB1 d_x.lt
  have d_y := d_y.below hB1 d_y.lt
  have d_s := d_s.below hB1 d_s.lt
  have d_p := d_p.below hB1 d_p.lt
  have hB := hB.trans (hB1.mono hB.size)
  clear hB1
  have d_t : World.dec (w1.alloc (.cells #[.int .i64 s1, .int .i64 s2] 23)) (w1.heap.size) s1 s2 := World.dec_new _ _ _ _ rfl
  have l_x := d_x.lt
  have d_x := d_x.alloc (.cells #[.int .i64 s1, .int .i64 s2] 23)
  have l_y := d_y.lt
  have d_y := d_y.alloc (.cells #[.int .i64 s1, .int .i64 s2] 23)
  have l_s := d_s.lt
  have d_s := d_s.alloc (.cells #[.int .i64 s1, .int .i64 s2] 23)
  have l_p := d_p.lt
  have d_p := d_p.alloc (.cells #[.int .i64 s1, .int .i64 s2] 23)
  have hB := hB.alloc hB.size (.cells #[.int .i64 s1, .int .i64 s2] 23)
  have c_p := d_p.c0
  have e_p := d_p.c1
  go_wp2_with fail
  clear c_p e_p
  clear l_x l_y l_s l_p
  refine (K6.out _).mono ?_
  rintro e w1 ⟨rfl, hB1⟩
  have d_x := d_x.below hB1 d_x.lt
  have d_y := d_y.below hB1 d_y.lt
  have d_s := d_s.below hB1 d_s.lt
  have d_p := d_p.below hB1 d_p.lt
  have d_t := d_t.below hB1 d_t.lt
  have hB := hB.trans (hB1.mono hB.size)
  clear hB1
  have d_u : World.dec (w1.alloc (.cells #[.int .i64 p1, .int .i64 p2] 23)) (w1.heap.size) p1 p2 := World.dec_new _ _ _ _ rfl
  have l_x := d_x.lt
  have d_x := d_x.alloc (.cells #[.int .i64 p1, .int .i64 p2] 23)
  have l_y := d_y.lt
  have d_y := d_y.alloc (.cells #[.int .i64 p1, .int .i64 p2] 23)
  have l_s := d_s.lt
  have d_s := d_s.alloc (.cells #[.int .i64 p1, .int .i64 p2] 23)
  have l_p := d_p.lt
  have d_p := d_p.alloc (.cells #[.int .i64 p1, .int .i64 p2] 23)
  have l_t := d_t.lt
  have d_t := d_t.alloc (.cells #[.int .i64 p1, .int .i64 p2] 23)
  have hB := hB.alloc hB.size (.cells #[.int .i64 p1, .int .i64 p2] 23)
  have c_p := d_p.c0
  have e_p := d_p.c1
  go_wp2_with fail
  clear c_p e_p
  clear l_x l_y l_s l_p l_t
  refine (K7.out _).mono ?_
  rintro e w1 ⟨rfl, hB1⟩
  have d_x := d_x.below hB1 d_x.lt
  have d_y := d_y.below hB1 d_y.lt
  have d_s := d_s.below hB1 d_s.lt
  have d_p := d_p.below hB1 d_p.lt
  have d_t := d_t.below hB1 d_t.lt
  have d_u := d_u.below hB1 d_u.lt
  have hB := hB.trans (hB1.mono hB.size)
  clear hB1
  have c_s := d_s.c0
  have e_s := d_s.c1
  have c_t := d_t.c0
  have e_t := d_t.c1
  have c_p := d_p.c0
  have e_p := d_p.c1
  have c_u := d_u.c0
  have e_u := d_u.c1
  have c_x := d_x.c0
  have e_x := d_x.c1
  have c_y := d_y.c0
  have e_y := d_y.c1
  go_wp2_with fail
  clear c_s e_s c_t e_t c_p e_p c_u e_u c_x e_x c_y e_y
  clear d_s d_t d_p d_u
  refine (K8.out _).mono ?_
  rintro e w1 ⟨rfl, hB1⟩
  have d_x := d_x.below hB1 d_x.lt
  have d_y := d_y.below hB1 d_y.lt
  have hB := hB.trans (hB1.mono hB.size)
  clear hB1
  have d_q : World.dec (w1.alloc (.cells #[.int .i64 q1, .int .i64 q2] 23)) (w1.heap.size) q1 q2 := World.dec_new _ _ _ _ rfl
  have l_x := d_x.lt
  have d_x := d_x.alloc (.cells #[.int .i64 q1, .int .i64 q2] 23)
  have l_y := d_y.lt
  have d_y := d_y.alloc (.cells #[.int .i64 q1, .int .i64 q2] 23)
  have hB := hB.alloc hB.size (.cells #[.int .i64 q1, .int .i64 q2] 23)
  clear d_x d_y
  have c_q := d_q.c0
  have e_q := d_q.c1
  go_wp2_with fail
  clear c_q e_q
  clear l_x l_y
  refine (K9.out _).mono ?_
  rintro e w1 ⟨rfl, hB1⟩
  have d_q := d_q.below hB1 d_q.lt
  have hB := hB.trans (hB1.mono hB.size)
  clear hB1
  have hBf := hB
  obtain ⟨dv, r, hdv, hrt, dv0, dv1, r0, r1, hD⟩ := HD.out
  rcases hD with ⟨h1, h2⟩ | ⟨h1, ⟨ha, hb⟩, h3⟩ | ⟨h1, ⟨ha, hb⟩, h3⟩ | ⟨h1, ⟨ha, hb⟩, h3⟩ | ⟨h1, ⟨ha, hb⟩, h3⟩
  · rcases h2 with h9 | ⟨h8, h9⟩
    · go_wp2_with fail
      go_ret
      exact ⟨rfl, hB⟩
    · go_wp2_with fail
      go_ret
      exact ⟨rfl, hB⟩
  · have hdn : decide (n < 0) = true := decide_eq_true ha
    have hdm : decide (m < 0) = true := decide_eq_true hb
    have hs : (decide (n < 0) == decide (m < 0)) = true := by rw [hdn, hdm]; rfl
    have hs1 : (r != 0) = true := by simpa using h1
    rcases h3 with h9 | ⟨h8, h9⟩
    · go_wp2_with fail
      go_ret
      exact ⟨rfl, hB⟩
    · go_wp2_with fail
      go_ret
      exact ⟨rfl, hB⟩
  · have hdn : decide (n < 0) = false := decide_eq_false (by omega)
    have hdm : decide (m < 0) = false := decide_eq_false (by omega)
    have hs : (decide (n < 0) == decide (m < 0)) = true := by rw [hdn, hdm]; rfl
    have hs1 : (r != 0) = true := by simpa using h1
    rcases h3 with h9 | ⟨h8, h9⟩
    · go_wp2_with fail
      go_ret
      exact ⟨rfl, hB⟩
    · go_wp2_with fail
      go_ret
      exact ⟨rfl, hB⟩
  · have hdn : decide (n < 0) = true := decide_eq_true ha
    have hdm : decide (m < 0) = false := decide_eq_false (by omega)
    have hs : (decide (n < 0) == decide (m < 0)) = false := by rw [hdn, hdm]; rfl
    have hs1 : (r != 0) = true := by simpa using h1
    rcases h3 with h9 | ⟨h8, h9⟩
    · go_wp2_with fail
      go_ret
      exact ⟨rfl, hB⟩
    · go_wp2_with fail
      go_ret
      exact ⟨rfl, hB⟩
  · have hdn : decide (n < 0) = false := decide_eq_false (by omega)
    have hdm : decide (m < 0) = true := decide_eq_true hb
    have hs : (decide (n < 0) == decide (m < 0)) = false := by rw [hdn, hdm]; rfl
    have hs1 : (r != 0) = true := by simpa using h1
    rcases h3 with h9 | ⟨h8, h9⟩
    · go_wp2_with fail
      go_ret
      exact ⟨rfl, hB⟩
    · go_wp2_with fail
      go_ret
      exact ⟨rfl, hB⟩

theorem whole_walk (A B : Int) (w : World) (hm : Shp w) (hA0 : -9223372036854775808 ≤ A) (hA1 : A ≤ 9223372036854775807) (hB0 : -9223372036854775808 ≤ B) (hB1 : B ≤ 9223372036854775807) :
    Calls Tryd.prog 6 #[.int .i64 A, .int .i64 B] w fun e w' => e = .returned (.bool true) ∧ Below w.heap.size w w' := by
  obtain ⟨u0, u1⟩ := pickI_bd A (n := 19999999) (by decide)
  obtain ⟨u2, u3⟩ := pickI_bd B (n := 19999999) (by decide)
  obtain ⟨x1, x2, y1, y2, s1, s2, p1, p2, g1, g2, g3, g4, g5, g6, g7, hx, hy, hs, hp, hnm, hq⟩ := whole_plain (n := pickI A 19999999 - 9999999) (m := pickI B 19999999 - 9999999) (by omega) (by omega) (by omega) (by omega)
  by_cases hz : pickI B 19999999 - 9999999 = 0
  · exact whole_zero A B w hm hA0 hA1 hB0 hB1 _ _ x1 x2 y1 y2 s1 s2 p1 p2 rfl rfl (by omega) (by omega) (by omega) (by omega) g1 g2 g3 g4 g5 g6 g7 hnm hx hy hs hp (by simpa using hz)
  · obtain ⟨q1, q2, low, g8, hq', g9, gl⟩ := hq hz
    exact whole_some A B w hm hA0 hA1 hB0 hB1 _ _ x1 x2 y1 y2 s1 s2 p1 p2 q1 q2 low rfl rfl (by omega) (by omega) (by omega) (by omega) g1 g2 g3 g4 g5 g6 g7 hnm hx hy hs hp hq' (by simpa using hz) hz g8 g9 gl
end Go.Proofs.YtpkohfdebgiloaaDoor
