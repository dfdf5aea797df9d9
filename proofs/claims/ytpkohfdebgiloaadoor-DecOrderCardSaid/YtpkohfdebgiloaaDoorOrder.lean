/- The walk of DecOrder: true. -/
import Derived.Test.YtpkohfdebgiloaaDoorWorth4
namespace Go.Proofs.YtpkohfdebgiloaaDoor
open Go.RowKit Go.Shelf

set_option maxRecDepth 100000 in
set_option maxHeartbeats 8000000 in
theorem order_os (A1 A2 B1 B2 C1 C2 : Int) (w : World) (hm : Shp w) (hA10 : -9223372036854775808 ≤ A1) (hA11 : A1 ≤ 9223372036854775807) (hA20 : -9223372036854775808 ≤ A2) (hA21 : A2 ≤ 9223372036854775807) (hB10 : -9223372036854775808 ≤ B1) (hB11 : B1 ≤ 9223372036854775807) (hB20 : -9223372036854775808 ≤ B2) (hB21 : B2 ≤ 9223372036854775807) (hC10 : -9223372036854775808 ≤ C1) (hC11 : C1 ≤ 9223372036854775807) (hC20 : -9223372036854775808 ≤ C2) (hC21 : C2 ≤ 9223372036854775807) (x y x2 y2 n2 n3 d1 d2 i : Int) (hx : RightP (x, y)) (hA : madeP A1 A2 = (x, y)) (hB' : madeP B1 B2 = (x, y)) (hC : madeP C1 C2 = (x2, y2)) (h2 : RightP (x2, y2)) (g1 : cmpD x y x y = 0) (g2 : cmpD x y x y = 0) (g3 : cmpD x y x2 y2 = n2) (g4 : cmpD x y x2 y2 = n3) (g5 : subD x y x y = ((d1, d2), i)) (ht : n2 ≤ 0 → n3 ≤ 0) (hi : i ≠ 0 ∨ i = 0 ∧ d1 = 0) :
    Calls Tryd.prog 7 #[.agg #[.int .i64 A1, .int .i64 A2], .agg #[.int .i64 B1, .int .i64 B2], .agg #[.int .i64 C1, .int .i64 C2]] w fun e w' => e = .returned (.bool true) ∧ Below w.heap.size w w' := by
  obtain ⟨x0, x1, y0, y1, _⟩ := hx
  obtain ⟨z0, z1, z2, z3, _⟩ := h2
  simp only at x0 x1 y0 y1 z0 z1 z2 z3
  have CA' := fun w => made_any A1 A2 w hA10 hA11 hA20 hA21
  rw [hA] at CA'
  have CB' := fun w => made_any B1 B2 w hB10 hB11 hB20 hB21
  rw [hB'] at CB'
  have CC' := fun w => made_any C1 C2 w hC10 hC11 hC20 hC21
  rw [hC] at CC'
  have C1' := fun w => cmp_any x y x y w (by omega) (by omega) (by omega) (by omega)
  rw [g1] at C1'
  have C2' := fun w => cmp_any x y x y w (by omega) (by omega) (by omega) (by omega)
  rw [g2] at C2'
  have C3' := fun w => cmp_any x y x2 y2 w (by omega) (by omega) (by omega) (by omega)
  rw [g3] at C3'
  have C4' := fun w => cmp_any x y x2 y2 w (by omega) (by omega) (by omega) (by omega)
  rw [g4] at C4'
  have C5' := fun w => sub_any x y x y w (by omega) (by omega) (by omega) (by omega)
  rw [g5] at C5'
  clear hA hB' hC g1 g2 g3 g4 g5
  have HI := Lib.hid hi
  clear hi
  have HT := Lib.hid ht
  clear ht
  have KA := Lib.hid CA'
  clear CA'
  have KB := Lib.hid CB'
  clear CB'
  have KC := Lib.hid CC'
  clear CC'
  have K1 := Lib.hid C1'
  clear C1'
  have K2 := Lib.hid C2'
  clear C2'
  have K3 := Lib.hid C3'
  clear C3'
  have K4 := Lib.hid C4'
  clear C4'
  have K5 := Lib.hid C5'
  clear C5'
  go_enter Tryd.func7, Tryd.ntmps7
  go_wp2_with fail
  obtain ⟨W, hW⟩ : ∃ W, W = ((w.alloc (.cells #[.int .i64 A1, .int .i64 A2] 23)).alloc (.cells #[.int .i64 B1, .int .i64 B2] 23)).alloc (.cells #[.int .i64 C1, .int .i64 C2] 23) := ⟨_, rfl⟩
  rw [← hW]
  have d_A1 : World.dec W (w.heap.size) A1 A2 := by rw [hW]; exact ((World.dec_new w A1 A2 _ rfl).alloc _).alloc _
  have d_B1 : World.dec W (w.heap.size + 1) B1 B2 := by rw [hW]; exact (World.dec_new _ B1 B2 _ (by simp)).alloc _
  have d_C1 : World.dec W (w.heap.size + 1 + 1) C1 C2 := by rw [hW]; exact World.dec_new _ C1 C2 _ (by simp)
  have hB : Below w.heap.size w W := by rw [hW]; exact ((((Below.refl _ w).alloc (Nat.le_refl _) _).alloc (by simp) _).alloc (by simp; omega) _)
  clear hW
  refine (examples_any _ (hm.below hB)).mono ?_
  rintro e w1 ⟨rfl, hB1⟩
  have d_A1 := d_A1.below hB1 d_A1.lt
  have d_B1 := d_B1.below hB1 d_B1.lt
  have d_C1 := d_C1.below hB1 d_C1.lt
  have hB := hB.trans (hB1.mono hB.size)
  clear hB1
  have c_A1 := d_A1.c0
  have e_A1 := d_A1.c1
  go_wp2_with fail
  clear c_A1 e_A1
  refine (KA.out _).mono ?_
  rintro e w1 ⟨rfl, hB1⟩
  have d_A1 := d_A1.below hB1 d_A1.lt
  have d_B1 := d_B1.below hB1 d_B1.lt
  have d_C1 := d_C1.below hB1 d_C1.lt
  have hB := hB.trans (hB1.mono hB.size)
  clear hB1
  have d_x : World.dec (w1.alloc (.cells #[.int .i64 x, .int .i64 y] 23)) (w1.heap.size) x y := World.dec_new _ _ _ _ rfl
  have l_A1 := d_A1.lt
  have d_A1 := d_A1.alloc (.cells #[.int .i64 x, .int .i64 y] 23)
  have l_B1 := d_B1.lt
  have d_B1 := d_B1.alloc (.cells #[.int .i64 x, .int .i64 y] 23)
  have l_C1 := d_C1.lt
  have d_C1 := d_C1.alloc (.cells #[.int .i64 x, .int .i64 y] 23)
  have hB := hB.alloc hB.size (.cells #[.int .i64 x, .int .i64 y] 23)
  clear d_A1
  have c_B1 := d_B1.c0
  have e_B1 := d_B1.c1
  go_wp2_with fail
  clear c_B1 e_B1
  clear l_A1 l_B1 l_C1
  refine (KB.out _).mono ?_
  rintro e w1 ⟨rfl, hB1⟩
  have d_B1 := d_B1.below hB1 d_B1.lt
  have d_C1 := d_C1.below hB1 d_C1.lt
  have d_x := d_x.below hB1 d_x.lt
  have hB := hB.trans (hB1.mono hB.size)
  clear hB1
  have d_v : World.dec (w1.alloc (.cells #[.int .i64 x, .int .i64 y] 23)) (w1.heap.size) x y := World.dec_new _ _ _ _ rfl
  have l_B1 := d_B1.lt
  have d_B1 := d_B1.alloc (.cells #[.int .i64 x, .int .i64 y] 23)
  have l_C1 := d_C1.lt
  have d_C1 := d_C1.alloc (.cells #[.int .i64 x, .int .i64 y] 23)
  have l_x := d_x.lt
  have d_x := d_x.alloc (.cells #[.int .i64 x, .int .i64 y] 23)
  have hB := hB.alloc hB.size (.cells #[.int .i64 x, .int .i64 y] 23)
  clear d_B1
  have c_C1 := d_C1.c0
  have e_C1 := d_C1.c1
  go_wp2_with fail
  clear c_C1 e_C1
  clear l_B1 l_C1 l_x
  refine (KC.out _).mono ?_
  rintro e w1 ⟨rfl, hB1⟩
  have d_C1 := d_C1.below hB1 d_C1.lt
  have d_x := d_x.below hB1 d_x.lt
  have d_v := d_v.below hB1 d_v.lt
  have hB := hB.trans (hB1.mono hB.size)
  clear hB1
  have d_u : World.dec (w1.alloc (.cells #[.int .i64 x2, .int .i64 y2] 23)) (w1.heap.size) x2 y2 := World.dec_new _ _ _ _ rfl
  have l_C1 := d_C1.lt
  have d_C1 := d_C1.alloc (.cells #[.int .i64 x2, .int .i64 y2] 23)
  have l_x := d_x.lt
  have d_x := d_x.alloc (.cells #[.int .i64 x2, .int .i64 y2] 23)
  have l_v := d_v.lt
  have d_v := d_v.alloc (.cells #[.int .i64 x2, .int .i64 y2] 23)
  have hB := hB.alloc hB.size (.cells #[.int .i64 x2, .int .i64 y2] 23)
  clear d_C1
  have c_x := d_x.c0
  have e_x := d_x.c1
  have c_v := d_v.c0
  have e_v := d_v.c1
  go_wp2_with fail
  clear c_x e_x c_v e_v
  clear l_C1 l_x l_v
  refine (K1.out _).mono ?_
  rintro e w1 ⟨rfl, hB1⟩
  have d_x := d_x.below hB1 d_x.lt
  have d_v := d_v.below hB1 d_v.lt
  have d_u := d_u.below hB1 d_u.lt
  have hB := hB.trans (hB1.mono hB.size)
  clear hB1
  have c_x := d_x.c0
  have e_x := d_x.c1
  have c_v := d_v.c0
  have e_v := d_v.c1
  go_wp2_with fail
  clear c_x e_x c_v e_v
  refine (K2.out _).mono ?_
  rintro e w1 ⟨rfl, hB1⟩
  have d_x := d_x.below hB1 d_x.lt
  have d_v := d_v.below hB1 d_v.lt
  have d_u := d_u.below hB1 d_u.lt
  have hB := hB.trans (hB1.mono hB.size)
  clear hB1
  have c_x := d_x.c0
  have e_x := d_x.c1
  have c_v := d_v.c0
  have e_v := d_v.c1
  have c_u := d_u.c0
  have e_u := d_u.c1
  go_wp2_with fail
  clear c_x e_x c_v e_v c_u e_u
  refine (K3.out _).mono ?_
  rintro e w1 ⟨rfl, hB1⟩
  have d_x := d_x.below hB1 d_x.lt
  have d_v := d_v.below hB1 d_v.lt
  have d_u := d_u.below hB1 d_u.lt
  have hB := hB.trans (hB1.mono hB.size)
  clear hB1
  rcases Int.lt_or_le 0 n2 with hn | hn
  · have c_x := d_x.c0
    have e_x := d_x.c1
    have c_v := d_v.c0
    have e_v := d_v.c1
    go_wp2_with fail
    clear c_x e_x c_v e_v
    refine (K5.out _).mono ?_
    rintro e w1 ⟨rfl, hB1⟩
    have d_x := d_x.below hB1 d_x.lt
    have d_v := d_v.below hB1 d_v.lt
    have d_u := d_u.below hB1 d_u.lt
    have hB := hB.trans (hB1.mono hB.size)
    clear hB1
    have d_d : World.dec (w1.alloc (.cells #[.int .i64 d1, .int .i64 d2] 23)) (w1.heap.size) d1 d2 := World.dec_new _ _ _ _ rfl
    have l_x := d_x.lt
    have d_x := d_x.alloc (.cells #[.int .i64 d1, .int .i64 d2] 23)
    have l_v := d_v.lt
    have d_v := d_v.alloc (.cells #[.int .i64 d1, .int .i64 d2] 23)
    have l_u := d_u.lt
    have d_u := d_u.alloc (.cells #[.int .i64 d1, .int .i64 d2] 23)
    have hB := hB.alloc hB.size (.cells #[.int .i64 d1, .int .i64 d2] 23)
    have hBf := hB
    rcases HI.out with hi | ⟨hi, hd⟩
    · have hi1 : (i == 0) = false := by simpa using hi
      have c_d := d_d.c0
      have e_d := d_d.c1
      go_wp2_with fail
      clear c_d e_d
      clear l_x l_v l_u
      go_ret
      exact ⟨rfl, hB⟩
    · subst hi
      subst hd
      have c_d := d_d.c0
      have e_d := d_d.c1
      go_wp2_with fail
      clear c_d e_d
      go_ret
      exact ⟨rfl, hB⟩
  · have ht := HT.out hn
    have c_x := d_x.c0
    have e_x := d_x.c1
    have c_u := d_u.c0
    have e_u := d_u.c1
    go_wp2_with fail
    clear c_x e_x c_u e_u
    refine (K4.out _).mono ?_
    rintro e w1 ⟨rfl, hB1⟩
    have d_x := d_x.below hB1 d_x.lt
    have d_v := d_v.below hB1 d_v.lt
    have d_u := d_u.below hB1 d_u.lt
    have hB := hB.trans (hB1.mono hB.size)
    clear hB1
    have c_x := d_x.c0
    have e_x := d_x.c1
    have c_v := d_v.c0
    have e_v := d_v.c1
    go_wp2_with fail
    clear c_x e_x c_v e_v
    refine (K5.out _).mono ?_
    rintro e w1 ⟨rfl, hB1⟩
    have d_x := d_x.below hB1 d_x.lt
    have d_v := d_v.below hB1 d_v.lt
    have d_u := d_u.below hB1 d_u.lt
    have hB := hB.trans (hB1.mono hB.size)
    clear hB1
    have d_d : World.dec (w1.alloc (.cells #[.int .i64 d1, .int .i64 d2] 23)) (w1.heap.size) d1 d2 := World.dec_new _ _ _ _ rfl
    have l_x := d_x.lt
    have d_x := d_x.alloc (.cells #[.int .i64 d1, .int .i64 d2] 23)
    have l_v := d_v.lt
    have d_v := d_v.alloc (.cells #[.int .i64 d1, .int .i64 d2] 23)
    have l_u := d_u.lt
    have d_u := d_u.alloc (.cells #[.int .i64 d1, .int .i64 d2] 23)
    have hB := hB.alloc hB.size (.cells #[.int .i64 d1, .int .i64 d2] 23)
    have hBf := hB
    rcases HI.out with hi | ⟨hi, hd⟩
    · have hi1 : (i == 0) = false := by simpa using hi
      have c_d := d_d.c0
      have e_d := d_d.c1
      go_wp2_with fail
      clear c_d e_d
      clear l_x l_v l_u
      go_ret
      exact ⟨rfl, hB⟩
    · subst hi
      subst hd
      have c_d := d_d.c0
      have e_d := d_d.c1
      go_wp2_with fail
      clear c_d e_d
      go_ret
      exact ⟨rfl, hB⟩

set_option maxRecDepth 100000 in
set_option maxHeartbeats 8000000 in
theorem order_ld (A1 A2 B1 B2 C1 C2 : Int) (w : World) (hm : Shp w) (hA10 : -9223372036854775808 ≤ A1) (hA11 : A1 ≤ 9223372036854775807) (hA20 : -9223372036854775808 ≤ A2) (hA21 : A2 ≤ 9223372036854775807) (hB10 : -9223372036854775808 ≤ B1) (hB11 : B1 ≤ 9223372036854775807) (hB20 : -9223372036854775808 ≤ B2) (hB21 : B2 ≤ 9223372036854775807) (hC10 : -9223372036854775808 ≤ C1) (hC11 : C1 ≤ 9223372036854775807) (hC20 : -9223372036854775808 ≤ C2) (hC21 : C2 ≤ 9223372036854775807) (x y x' y' x2 y2 n2 n3 d1 d2 i : Int) (hx : RightP (x, y)) (hA : madeP A1 A2 = (x, y)) (hB' : madeP B1 B2 = (x', y')) (hC : madeP C1 C2 = (x2, y2)) (h2 : RightP (x2, y2)) (g1 : cmpD x y x' y' = -1) (g2 : cmpD x' y' x y = 1) (g3 : cmpD x' y' x2 y2 = n2) (g4 : cmpD x y x2 y2 = n3) (g5 : subD x y x' y' = ((d1, d2), i)) (h' : RightP (x', y')) (ne : (x == x') = false) (ht : n2 ≤ 0 → n3 ≤ 0) (hi : i ≠ 0 ∨ i = 0 ∧ d1 < 0) :
    Calls Tryd.prog 7 #[.agg #[.int .i64 A1, .int .i64 A2], .agg #[.int .i64 B1, .int .i64 B2], .agg #[.int .i64 C1, .int .i64 C2]] w fun e w' => e = .returned (.bool true) ∧ Below w.heap.size w w' := by
  obtain ⟨x0, x1, y0, y1, _⟩ := hx
  obtain ⟨z0, z1, z2, z3, _⟩ := h2
  simp only at x0 x1 y0 y1 z0 z1 z2 z3
  obtain ⟨a0, a1, a2, a3, _⟩ := h'
  simp only at a0 a1 a2 a3
  have CA' := fun w => made_any A1 A2 w hA10 hA11 hA20 hA21
  rw [hA] at CA'
  have CB' := fun w => made_any B1 B2 w hB10 hB11 hB20 hB21
  rw [hB'] at CB'
  have CC' := fun w => made_any C1 C2 w hC10 hC11 hC20 hC21
  rw [hC] at CC'
  have C1' := fun w => cmp_any x y x' y' w (by omega) (by omega) (by omega) (by omega)
  rw [g1] at C1'
  have C2' := fun w => cmp_any x' y' x y w (by omega) (by omega) (by omega) (by omega)
  rw [g2] at C2'
  have C3' := fun w => cmp_any x' y' x2 y2 w (by omega) (by omega) (by omega) (by omega)
  rw [g3] at C3'
  have C4' := fun w => cmp_any x y x2 y2 w (by omega) (by omega) (by omega) (by omega)
  rw [g4] at C4'
  have C5' := fun w => sub_any x y x' y' w (by omega) (by omega) (by omega) (by omega)
  rw [g5] at C5'
  clear hA hB' hC g1 g2 g3 g4 g5
  have HI := Lib.hid hi
  clear hi
  have HT := Lib.hid ht
  clear ht
  have KA := Lib.hid CA'
  clear CA'
  have KB := Lib.hid CB'
  clear CB'
  have KC := Lib.hid CC'
  clear CC'
  have K1 := Lib.hid C1'
  clear C1'
  have K2 := Lib.hid C2'
  clear C2'
  have K3 := Lib.hid C3'
  clear C3'
  have K4 := Lib.hid C4'
  clear C4'
  have K5 := Lib.hid C5'
  clear C5'
  go_enter Tryd.func7, Tryd.ntmps7
  go_wp2_with fail
  obtain ⟨W, hW⟩ : ∃ W, W = ((w.alloc (.cells #[.int .i64 A1, .int .i64 A2] 23)).alloc (.cells #[.int .i64 B1, .int .i64 B2] 23)).alloc (.cells #[.int .i64 C1, .int .i64 C2] 23) := ⟨_, rfl⟩
  rw [← hW]
  have d_A1 : World.dec W (w.heap.size) A1 A2 := by rw [hW]; exact ((World.dec_new w A1 A2 _ rfl).alloc _).alloc _
  have d_B1 : World.dec W (w.heap.size + 1) B1 B2 := by rw [hW]; exact (World.dec_new _ B1 B2 _ (by simp)).alloc _
  have d_C1 : World.dec W (w.heap.size + 1 + 1) C1 C2 := by rw [hW]; exact World.dec_new _ C1 C2 _ (by simp)
  have hB : Below w.heap.size w W := by rw [hW]; exact ((((Below.refl _ w).alloc (Nat.le_refl _) _).alloc (by simp) _).alloc (by simp; omega) _)
  clear hW
  refine (examples_any _ (hm.below hB)).mono ?_
  rintro e w1 ⟨rfl, hB1⟩
  have d_A1 := d_A1.below hB1 d_A1.lt
  have d_B1 := d_B1.below hB1 d_B1.lt
  have d_C1 := d_C1.below hB1 d_C1.lt
  have hB := hB.trans (hB1.mono hB.size)
  clear hB1
  have c_A1 := d_A1.c0
  have e_A1 := d_A1.c1
  go_wp2_with fail
  clear c_A1 e_A1
  refine (KA.out _).mono ?_
  rintro e w1 ⟨rfl, hB1⟩
  have d_A1 := d_A1.below hB1 d_A1.lt
  have d_B1 := d_B1.below hB1 d_B1.lt
  have d_C1 := d_C1.below hB1 d_C1.lt
  have hB := hB.trans (hB1.mono hB.size)
  clear hB1
  have d_x : World.dec (w1.alloc (.cells #[.int .i64 x, .int .i64 y] 23)) (w1.heap.size) x y := World.dec_new _ _ _ _ rfl
  have l_A1 := d_A1.lt
  have d_A1 := d_A1.alloc (.cells #[.int .i64 x, .int .i64 y] 23)
  have l_B1 := d_B1.lt
  have d_B1 := d_B1.alloc (.cells #[.int .i64 x, .int .i64 y] 23)
  have l_C1 := d_C1.lt
  have d_C1 := d_C1.alloc (.cells #[.int .i64 x, .int .i64 y] 23)
  have hB := hB.alloc hB.size (.cells #[.int .i64 x, .int .i64 y] 23)
  clear d_A1
  have c_B1 := d_B1.c0
  have e_B1 := d_B1.c1
  go_wp2_with fail
  clear c_B1 e_B1
  clear l_A1 l_B1 l_C1
  refine (KB.out _).mono ?_
  rintro e w1 ⟨rfl, hB1⟩
  have d_B1 := d_B1.below hB1 d_B1.lt
  have d_C1 := d_C1.below hB1 d_C1.lt
  have d_x := d_x.below hB1 d_x.lt
  have hB := hB.trans (hB1.mono hB.size)
  clear hB1
  have d_v : World.dec (w1.alloc (.cells #[.int .i64 x', .int .i64 y'] 23)) (w1.heap.size) x' y' := World.dec_new _ _ _ _ rfl
  have l_B1 := d_B1.lt
  have d_B1 := d_B1.alloc (.cells #[.int .i64 x', .int .i64 y'] 23)
  have l_C1 := d_C1.lt
  have d_C1 := d_C1.alloc (.cells #[.int .i64 x', .int .i64 y'] 23)
  have l_x := d_x.lt
  have d_x := d_x.alloc (.cells #[.int .i64 x', .int .i64 y'] 23)
  have hB := hB.alloc hB.size (.cells #[.int .i64 x', .int .i64 y'] 23)
  clear d_B1
  have c_C1 := d_C1.c0
  have e_C1 := d_C1.c1
  go_wp2_with fail
  clear c_C1 e_C1
  clear l_B1 l_C1 l_x
  refine (KC.out _).mono ?_
  rintro e w1 ⟨rfl, hB1⟩
  have d_C1 := d_C1.below hB1 d_C1.lt
  have d_x := d_x.below hB1 d_x.lt
  have d_v := d_v.below hB1 d_v.lt
  have hB := hB.trans (hB1.mono hB.size)
  clear hB1
  have d_u : World.dec (w1.alloc (.cells #[.int .i64 x2, .int .i64 y2] 23)) (w1.heap.size) x2 y2 := World.dec_new _ _ _ _ rfl
  have l_C1 := d_C1.lt
  have d_C1 := d_C1.alloc (.cells #[.int .i64 x2, .int .i64 y2] 23)
  have l_x := d_x.lt
  have d_x := d_x.alloc (.cells #[.int .i64 x2, .int .i64 y2] 23)
  have l_v := d_v.lt
  have d_v := d_v.alloc (.cells #[.int .i64 x2, .int .i64 y2] 23)
  have hB := hB.alloc hB.size (.cells #[.int .i64 x2, .int .i64 y2] 23)
  clear d_C1
  have c_x := d_x.c0
  have e_x := d_x.c1
  have c_v := d_v.c0
  have e_v := d_v.c1
  go_wp2_with fail
  clear c_x e_x c_v e_v
  clear l_C1 l_x l_v
  refine (K1.out _).mono ?_
  rintro e w1 ⟨rfl, hB1⟩
  have d_x := d_x.below hB1 d_x.lt
  have d_v := d_v.below hB1 d_v.lt
  have d_u := d_u.below hB1 d_u.lt
  have hB := hB.trans (hB1.mono hB.size)
  clear hB1
  have c_x := d_x.c0
  have e_x := d_x.c1
  have c_v := d_v.c0
  have e_v := d_v.c1
  go_wp2_with fail
  clear c_x e_x c_v e_v
  refine (K2.out _).mono ?_
  rintro e w1 ⟨rfl, hB1⟩
  have d_x := d_x.below hB1 d_x.lt
  have d_v := d_v.below hB1 d_v.lt
  have d_u := d_u.below hB1 d_u.lt
  have hB := hB.trans (hB1.mono hB.size)
  clear hB1
  have c_x := d_x.c0
  have e_x := d_x.c1
  have c_v := d_v.c0
  have e_v := d_v.c1
  have c_u := d_u.c0
  have e_u := d_u.c1
  go_wp2_with fail
  clear c_x e_x c_v e_v c_u e_u
  refine (K3.out _).mono ?_
  rintro e w1 ⟨rfl, hB1⟩
  have d_x := d_x.below hB1 d_x.lt
  have d_v := d_v.below hB1 d_v.lt
  have d_u := d_u.below hB1 d_u.lt
  have hB := hB.trans (hB1.mono hB.size)
  clear hB1
  rcases Int.lt_or_le 0 n2 with hn | hn
  · have c_x := d_x.c0
    have e_x := d_x.c1
    have c_v := d_v.c0
    have e_v := d_v.c1
    go_wp2_with fail
    clear c_x e_x c_v e_v
    refine (K5.out _).mono ?_
    rintro e w1 ⟨rfl, hB1⟩
    have d_x := d_x.below hB1 d_x.lt
    have d_v := d_v.below hB1 d_v.lt
    have d_u := d_u.below hB1 d_u.lt
    have hB := hB.trans (hB1.mono hB.size)
    clear hB1
    have d_d : World.dec (w1.alloc (.cells #[.int .i64 d1, .int .i64 d2] 23)) (w1.heap.size) d1 d2 := World.dec_new _ _ _ _ rfl
    have l_x := d_x.lt
    have d_x := d_x.alloc (.cells #[.int .i64 d1, .int .i64 d2] 23)
    have l_v := d_v.lt
    have d_v := d_v.alloc (.cells #[.int .i64 d1, .int .i64 d2] 23)
    have l_u := d_u.lt
    have d_u := d_u.alloc (.cells #[.int .i64 d1, .int .i64 d2] 23)
    have hB := hB.alloc hB.size (.cells #[.int .i64 d1, .int .i64 d2] 23)
    have hBf := hB
    rcases HI.out with hi | ⟨hi, hd⟩
    · have hi1 : (i == 0) = false := by simpa using hi
      have c_d := d_d.c0
      have e_d := d_d.c1
      go_wp2_with fail
      clear c_d e_d
      clear l_x l_v l_u
      go_ret
      exact ⟨rfl, hB⟩
    · subst hi
      have hq : decide (0 < d1) = false := by simp; omega
      have hq2 : decide (d1 < 0) = true := by simp; omega
      have c_d := d_d.c0
      have e_d := d_d.c1
      go_wp2_with fail
      clear c_d e_d
      try rw [hq]
      try rw [hq2]
      go_ret
      exact ⟨rfl, hB⟩
  · have ht := HT.out hn
    have c_x := d_x.c0
    have e_x := d_x.c1
    have c_u := d_u.c0
    have e_u := d_u.c1
    go_wp2_with fail
    clear c_x e_x c_u e_u
    refine (K4.out _).mono ?_
    rintro e w1 ⟨rfl, hB1⟩
    have d_x := d_x.below hB1 d_x.lt
    have d_v := d_v.below hB1 d_v.lt
    have d_u := d_u.below hB1 d_u.lt
    have hB := hB.trans (hB1.mono hB.size)
    clear hB1
    have c_x := d_x.c0
    have e_x := d_x.c1
    have c_v := d_v.c0
    have e_v := d_v.c1
    go_wp2_with fail
    clear c_x e_x c_v e_v
    refine (K5.out _).mono ?_
    rintro e w1 ⟨rfl, hB1⟩
    have d_x := d_x.below hB1 d_x.lt
    have d_v := d_v.below hB1 d_v.lt
    have d_u := d_u.below hB1 d_u.lt
    have hB := hB.trans (hB1.mono hB.size)
    clear hB1
    have d_d : World.dec (w1.alloc (.cells #[.int .i64 d1, .int .i64 d2] 23)) (w1.heap.size) d1 d2 := World.dec_new _ _ _ _ rfl
    have l_x := d_x.lt
    have d_x := d_x.alloc (.cells #[.int .i64 d1, .int .i64 d2] 23)
    have l_v := d_v.lt
    have d_v := d_v.alloc (.cells #[.int .i64 d1, .int .i64 d2] 23)
    have l_u := d_u.lt
    have d_u := d_u.alloc (.cells #[.int .i64 d1, .int .i64 d2] 23)
    have hB := hB.alloc hB.size (.cells #[.int .i64 d1, .int .i64 d2] 23)
    have hBf := hB
    rcases HI.out with hi | ⟨hi, hd⟩
    · have hi1 : (i == 0) = false := by simpa using hi
      have c_d := d_d.c0
      have e_d := d_d.c1
      go_wp2_with fail
      clear c_d e_d
      clear l_x l_v l_u
      go_ret
      exact ⟨rfl, hB⟩
    · subst hi
      have hq : decide (0 < d1) = false := by simp; omega
      have hq2 : decide (d1 < 0) = true := by simp; omega
      have c_d := d_d.c0
      have e_d := d_d.c1
      go_wp2_with fail
      clear c_d e_d
      try rw [hq]
      try rw [hq2]
      go_ret
      exact ⟨rfl, hB⟩

set_option maxRecDepth 100000 in
set_option maxHeartbeats 8000000 in
theorem order_le (A1 A2 B1 B2 C1 C2 : Int) (w : World) (hm : Shp w) (hA10 : -9223372036854775808 ≤ A1) (hA11 : A1 ≤ 9223372036854775807) (hA20 : -9223372036854775808 ≤ A2) (hA21 : A2 ≤ 9223372036854775807) (hB10 : -9223372036854775808 ≤ B1) (hB11 : B1 ≤ 9223372036854775807) (hB20 : -9223372036854775808 ≤ B2) (hB21 : B2 ≤ 9223372036854775807) (hC10 : -9223372036854775808 ≤ C1) (hC11 : C1 ≤ 9223372036854775807) (hC20 : -9223372036854775808 ≤ C2) (hC21 : C2 ≤ 9223372036854775807) (x y x' y' x2 y2 n2 n3 d1 d2 i : Int) (hx : RightP (x, y)) (hA : madeP A1 A2 = (x, y)) (hB' : madeP B1 B2 = (x', y')) (hC : madeP C1 C2 = (x2, y2)) (h2 : RightP (x2, y2)) (g1 : cmpD x y x' y' = -1) (g2 : cmpD x' y' x y = 1) (g3 : cmpD x' y' x2 y2 = n2) (g4 : cmpD x y x2 y2 = n3) (g5 : subD x y x' y' = ((d1, d2), i)) (h' : RightP (x', y')) (ne : (x == x') = true) (ne2 : (y == y') = false) (ht : n2 ≤ 0 → n3 ≤ 0) (hi : i ≠ 0 ∨ i = 0 ∧ d1 < 0) :
    Calls Tryd.prog 7 #[.agg #[.int .i64 A1, .int .i64 A2], .agg #[.int .i64 B1, .int .i64 B2], .agg #[.int .i64 C1, .int .i64 C2]] w fun e w' => e = .returned (.bool true) ∧ Below w.heap.size w w' := by
  obtain ⟨x0, x1, y0, y1, _⟩ := hx
  obtain ⟨z0, z1, z2, z3, _⟩ := h2
  simp only at x0 x1 y0 y1 z0 z1 z2 z3
  obtain ⟨a0, a1, a2, a3, _⟩ := h'
  simp only at a0 a1 a2 a3
  have CA' := fun w => made_any A1 A2 w hA10 hA11 hA20 hA21
  rw [hA] at CA'
  have CB' := fun w => made_any B1 B2 w hB10 hB11 hB20 hB21
  rw [hB'] at CB'
  have CC' := fun w => made_any C1 C2 w hC10 hC11 hC20 hC21
  rw [hC] at CC'
  have C1' := fun w => cmp_any x y x' y' w (by omega) (by omega) (by omega) (by omega)
  rw [g1] at C1'
  have C2' := fun w => cmp_any x' y' x y w (by omega) (by omega) (by omega) (by omega)
  rw [g2] at C2'
  have C3' := fun w => cmp_any x' y' x2 y2 w (by omega) (by omega) (by omega) (by omega)
  rw [g3] at C3'
  have C4' := fun w => cmp_any x y x2 y2 w (by omega) (by omega) (by omega) (by omega)
  rw [g4] at C4'
  have C5' := fun w => sub_any x y x' y' w (by omega) (by omega) (by omega) (by omega)
  rw [g5] at C5'
  clear hA hB' hC g1 g2 g3 g4 g5
  have HI := Lib.hid hi
  clear hi
  have HT := Lib.hid ht
  clear ht
  have KA := Lib.hid CA'
  clear CA'
  have KB := Lib.hid CB'
  clear CB'
  have KC := Lib.hid CC'
  clear CC'
  have K1 := Lib.hid C1'
  clear C1'
  have K2 := Lib.hid C2'
  clear C2'
  have K3 := Lib.hid C3'
  clear C3'
  have K4 := Lib.hid C4'
  clear C4'
  have K5 := Lib.hid C5'
  clear C5'
  go_enter Tryd.func7, Tryd.ntmps7
  go_wp2_with fail
  obtain ⟨W, hW⟩ : ∃ W, W = ((w.alloc (.cells #[.int .i64 A1, .int .i64 A2] 23)).alloc (.cells #[.int .i64 B1, .int .i64 B2] 23)).alloc (.cells #[.int .i64 C1, .int .i64 C2] 23) := ⟨_, rfl⟩
  rw [← hW]
  have d_A1 : World.dec W (w.heap.size) A1 A2 := by rw [hW]; exact ((World.dec_new w A1 A2 _ rfl).alloc _).alloc _
  have d_B1 : World.dec W (w.heap.size + 1) B1 B2 := by rw [hW]; exact (World.dec_new _ B1 B2 _ (by simp)).alloc _
  have d_C1 : World.dec W (w.heap.size + 1 + 1) C1 C2 := by rw [hW]; exact World.dec_new _ C1 C2 _ (by simp)
  have hB : Below w.heap.size w W := by rw [hW]; exact ((((Below.refl _ w).alloc (Nat.le_refl _) _).alloc (by simp) _).alloc (by simp; omega) _)
  clear hW
  refine (examples_any _ (hm.below hB)).mono ?_
  rintro e w1 ⟨rfl, hB1⟩
  have d_A1 := d_A1.below hB1 d_A1.lt
  have d_B1 := d_B1.below hB1 d_B1.lt
  have d_C1 := d_C1.below hB1 d_C1.lt
  have hB := hB.trans (hB1.mono hB.size)
  clear hB1
  have c_A1 := d_A1.c0
  have e_A1 := d_A1.c1
  go_wp2_with fail
  clear c_A1 e_A1
  refine (KA.out _).mono ?_
  rintro e w1 ⟨rfl, hB1⟩
  have d_A1 := d_A1.below hB1 d_A1.lt
  have d_B1 := d_B1.below hB1 d_B1.lt
  have d_C1 := d_C1.below hB1 d_C1.lt
  have hB := hB.trans (hB1.mono hB.size)
  clear hB1
  have d_x : World.dec (w1.alloc (.cells #[.int .i64 x, .int .i64 y] 23)) (w1.heap.size) x y := World.dec_new _ _ _ _ rfl
  have l_A1 := d_A1.lt
  have d_A1 := d_A1.alloc (.cells #[.int .i64 x, .int .i64 y] 23)
  have l_B1 := d_B1.lt
  have d_B1 := d_B1.alloc (.cells #[.int .i64 x, .int .i64 y] 23)
  have l_C1 := d_C1.lt
  have d_C1 := d_C1.alloc (.cells #[.int .i64 x, .int .i64 y] 23)
  have hB := hB.alloc hB.size (.cells #[.int .i64 x, .int .i64 y] 23)
  clear d_A1
  have c_B1 := d_B1.c0
  have e_B1 := d_B1.c1
  go_wp2_with fail
  clear c_B1 e_B1
  clear l_A1 l_B1 l_C1
  refine (KB.out _).mono ?_
  rintro e w1 ⟨rfl, hB1⟩
  have d_B1 := d_B1.below hB1 d_B1.lt
  have d_C1 := d_C1.below hB1 d_C1.lt
  have d_x := d_x.below hB1 d_x.lt
  have hB := hB.trans (hB1.mono hB.size)
  clear hB1
  have d_v : World.dec (w1.alloc (.cells #[.int .i64 x', .int .i64 y'] 23)) (w1.heap.size) x' y' := World.dec_new _ _ _ _ rfl
  have l_B1 := d_B1.lt
  have d_B1 := d_B1.alloc (.cells #[.int .i64 x', .int .i64 y'] 23)
  have l_C1 := d_C1.lt
  have d_C1 := d_C1.alloc (.cells #[.int .i64 x', .int .i64 y'] 23)
  have l_x := d_x.lt
  have d_x := d_x.alloc (.cells #[.int .i64 x', .int .i64 y'] 23)
  have hB := hB.alloc hB.size (.cells #[.int .i64 x', .int .i64 y'] 23)
  clear d_B1
  have c_C1 := d_C1.c0
  have e_C1 := d_C1.c1
  go_wp2_with fail
  clear c_C1 e_C1
  clear l_B1 l_C1 l_x
  refine (KC.out _).mono ?_
  rintro e w1 ⟨rfl, hB1⟩
  have d_C1 := d_C1.below hB1 d_C1.lt
  have d_x := d_x.below hB1 d_x.lt
  have d_v := d_v.below hB1 d_v.lt
  have hB := hB.trans (hB1.mono hB.size)
  clear hB1
  have d_u : World.dec (w1.alloc (.cells #[.int .i64 x2, .int .i64 y2] 23)) (w1.heap.size) x2 y2 := World.dec_new _ _ _ _ rfl
  have l_C1 := d_C1.lt
  have d_C1 := d_C1.alloc (.cells #[.int .i64 x2, .int .i64 y2] 23)
  have l_x := d_x.lt
  have d_x := d_x.alloc (.cells #[.int .i64 x2, .int .i64 y2] 23)
  have l_v := d_v.lt
  have d_v := d_v.alloc (.cells #[.int .i64 x2, .int .i64 y2] 23)
  have hB := hB.alloc hB.size (.cells #[.int .i64 x2, .int .i64 y2] 23)
  clear d_C1
  have c_x := d_x.c0
  have e_x := d_x.c1
  have c_v := d_v.c0
  have e_v := d_v.c1
  go_wp2_with fail
  clear c_x e_x c_v e_v
  clear l_C1 l_x l_v
  refine (K1.out _).mono ?_
  rintro e w1 ⟨rfl, hB1⟩
  have d_x := d_x.below hB1 d_x.lt
  have d_v := d_v.below hB1 d_v.lt
  have d_u := d_u.below hB1 d_u.lt
  have hB := hB.trans (hB1.mono hB.size)
  clear hB1
  have c_x := d_x.c0
  have e_x := d_x.c1
  have c_v := d_v.c0
  have e_v := d_v.c1
  go_wp2_with fail
  clear c_x e_x c_v e_v
  refine (K2.out _).mono ?_
  rintro e w1 ⟨rfl, hB1⟩
  have d_x := d_x.below hB1 d_x.lt
  have d_v := d_v.below hB1 d_v.lt
  have d_u := d_u.below hB1 d_u.lt
  have hB := hB.trans (hB1.mono hB.size)
  clear hB1
  have c_x := d_x.c0
  have e_x := d_x.c1
  have c_v := d_v.c0
  have e_v := d_v.c1
  have c_u := d_u.c0
  have e_u := d_u.c1
  go_wp2_with fail
  clear c_x e_x c_v e_v c_u e_u
  refine (K3.out _).mono ?_
  rintro e w1 ⟨rfl, hB1⟩
  have d_x := d_x.below hB1 d_x.lt
  have d_v := d_v.below hB1 d_v.lt
  have d_u := d_u.below hB1 d_u.lt
  have hB := hB.trans (hB1.mono hB.size)
  clear hB1
  rcases Int.lt_or_le 0 n2 with hn | hn
  · have c_x := d_x.c0
    have e_x := d_x.c1
    have c_v := d_v.c0
    have e_v := d_v.c1
    go_wp2_with fail
    clear c_x e_x c_v e_v
    refine (K5.out _).mono ?_
    rintro e w1 ⟨rfl, hB1⟩
    have d_x := d_x.below hB1 d_x.lt
    have d_v := d_v.below hB1 d_v.lt
    have d_u := d_u.below hB1 d_u.lt
    have hB := hB.trans (hB1.mono hB.size)
    clear hB1
    have d_d : World.dec (w1.alloc (.cells #[.int .i64 d1, .int .i64 d2] 23)) (w1.heap.size) d1 d2 := World.dec_new _ _ _ _ rfl
    have l_x := d_x.lt
    have d_x := d_x.alloc (.cells #[.int .i64 d1, .int .i64 d2] 23)
    have l_v := d_v.lt
    have d_v := d_v.alloc (.cells #[.int .i64 d1, .int .i64 d2] 23)
    have l_u := d_u.lt
    have d_u := d_u.alloc (.cells #[.int .i64 d1, .int .i64 d2] 23)
    have hB := hB.alloc hB.size (.cells #[.int .i64 d1, .int .i64 d2] 23)
    have hBf := hB
    rcases HI.out with hi | ⟨hi, hd⟩
    · have hi1 : (i == 0) = false := by simpa using hi
      have c_d := d_d.c0
      have e_d := d_d.c1
      go_wp2_with fail
      clear c_d e_d
      clear l_x l_v l_u
      go_ret
      exact ⟨rfl, hB⟩
    · subst hi
      have hq : decide (0 < d1) = false := by simp; omega
      have hq2 : decide (d1 < 0) = true := by simp; omega
      have c_d := d_d.c0
      have e_d := d_d.c1
      go_wp2_with fail
      clear c_d e_d
      try rw [hq]
      try rw [hq2]
      go_ret
      exact ⟨rfl, hB⟩
  · have ht := HT.out hn
    have c_x := d_x.c0
    have e_x := d_x.c1
    have c_u := d_u.c0
    have e_u := d_u.c1
    go_wp2_with fail
    clear c_x e_x c_u e_u
    refine (K4.out _).mono ?_
    rintro e w1 ⟨rfl, hB1⟩
    have d_x := d_x.below hB1 d_x.lt
    have d_v := d_v.below hB1 d_v.lt
    have d_u := d_u.below hB1 d_u.lt
    have hB := hB.trans (hB1.mono hB.size)
    clear hB1
    have c_x := d_x.c0
    have e_x := d_x.c1
    have c_v := d_v.c0
    have e_v := d_v.c1
    go_wp2_with fail
    clear c_x e_x c_v e_v
    refine (K5.out _).mono ?_
    rintro e w1 ⟨rfl, hB1⟩
    have d_x := d_x.below hB1 d_x.lt
    have d_v := d_v.below hB1 d_v.lt
    have d_u := d_u.below hB1 d_u.lt
    have hB := hB.trans (hB1.mono hB.size)
    clear hB1
    have d_d : World.dec (w1.alloc (.cells #[.int .i64 d1, .int .i64 d2] 23)) (w1.heap.size) d1 d2 := World.dec_new _ _ _ _ rfl
    have l_x := d_x.lt
    have d_x := d_x.alloc (.cells #[.int .i64 d1, .int .i64 d2] 23)
    have l_v := d_v.lt
    have d_v := d_v.alloc (.cells #[.int .i64 d1, .int .i64 d2] 23)
    have l_u := d_u.lt
    have d_u := d_u.alloc (.cells #[.int .i64 d1, .int .i64 d2] 23)
    have hB := hB.alloc hB.size (.cells #[.int .i64 d1, .int .i64 d2] 23)
    have hBf := hB
    rcases HI.out with hi | ⟨hi, hd⟩
    · have hi1 : (i == 0) = false := by simpa using hi
      have c_d := d_d.c0
      have e_d := d_d.c1
      go_wp2_with fail
      clear c_d e_d
      clear l_x l_v l_u
      go_ret
      exact ⟨rfl, hB⟩
    · subst hi
      have hq : decide (0 < d1) = false := by simp; omega
      have hq2 : decide (d1 < 0) = true := by simp; omega
      have c_d := d_d.c0
      have e_d := d_d.c1
      go_wp2_with fail
      clear c_d e_d
      try rw [hq]
      try rw [hq2]
      go_ret
      exact ⟨rfl, hB⟩

set_option maxRecDepth 100000 in
set_option maxHeartbeats 8000000 in
theorem order_gd (A1 A2 B1 B2 C1 C2 : Int) (w : World) (hm : Shp w) (hA10 : -9223372036854775808 ≤ A1) (hA11 : A1 ≤ 9223372036854775807) (hA20 : -9223372036854775808 ≤ A2) (hA21 : A2 ≤ 9223372036854775807) (hB10 : -9223372036854775808 ≤ B1) (hB11 : B1 ≤ 9223372036854775807) (hB20 : -9223372036854775808 ≤ B2) (hB21 : B2 ≤ 9223372036854775807) (hC10 : -9223372036854775808 ≤ C1) (hC11 : C1 ≤ 9223372036854775807) (hC20 : -9223372036854775808 ≤ C2) (hC21 : C2 ≤ 9223372036854775807) (x y x' y' x2 y2 n2 n3 d1 d2 i : Int) (hx : RightP (x, y)) (hA : madeP A1 A2 = (x, y)) (hB' : madeP B1 B2 = (x', y')) (hC : madeP C1 C2 = (x2, y2)) (h2 : RightP (x2, y2)) (g1 : cmpD x y x' y' = 1) (g2 : cmpD x' y' x y = -1) (g3 : cmpD x' y' x2 y2 = n2) (g4 : cmpD x y x2 y2 = n3) (g5 : subD x y x' y' = ((d1, d2), i)) (h' : RightP (x', y')) (ne : (x == x') = false) (hi : i ≠ 0 ∨ i = 0 ∧ 0 < d1) :
    Calls Tryd.prog 7 #[.agg #[.int .i64 A1, .int .i64 A2], .agg #[.int .i64 B1, .int .i64 B2], .agg #[.int .i64 C1, .int .i64 C2]] w fun e w' => e = .returned (.bool true) ∧ Below w.heap.size w w' := by
  obtain ⟨x0, x1, y0, y1, _⟩ := hx
  obtain ⟨z0, z1, z2, z3, _⟩ := h2
  simp only at x0 x1 y0 y1 z0 z1 z2 z3
  obtain ⟨a0, a1, a2, a3, _⟩ := h'
  simp only at a0 a1 a2 a3
  have CA' := fun w => made_any A1 A2 w hA10 hA11 hA20 hA21
  rw [hA] at CA'
  have CB' := fun w => made_any B1 B2 w hB10 hB11 hB20 hB21
  rw [hB'] at CB'
  have CC' := fun w => made_any C1 C2 w hC10 hC11 hC20 hC21
  rw [hC] at CC'
  have C1' := fun w => cmp_any x y x' y' w (by omega) (by omega) (by omega) (by omega)
  rw [g1] at C1'
  have C2' := fun w => cmp_any x' y' x y w (by omega) (by omega) (by omega) (by omega)
  rw [g2] at C2'
  have C3' := fun w => cmp_any x' y' x2 y2 w (by omega) (by omega) (by omega) (by omega)
  rw [g3] at C3'
  have C4' := fun w => cmp_any x y x2 y2 w (by omega) (by omega) (by omega) (by omega)
  rw [g4] at C4'
  have C5' := fun w => sub_any x y x' y' w (by omega) (by omega) (by omega) (by omega)
  rw [g5] at C5'
  clear hA hB' hC g1 g2 g3 g4 g5
  have HI := Lib.hid hi
  clear hi
  have KA := Lib.hid CA'
  clear CA'
  have KB := Lib.hid CB'
  clear CB'
  have KC := Lib.hid CC'
  clear CC'
  have K1 := Lib.hid C1'
  clear C1'
  have K2 := Lib.hid C2'
  clear C2'
  have K3 := Lib.hid C3'
  clear C3'
  have K4 := Lib.hid C4'
  clear C4'
  have K5 := Lib.hid C5'
  clear C5'
  go_enter Tryd.func7, Tryd.ntmps7
  go_wp2_with fail
  obtain ⟨W, hW⟩ : ∃ W, W = ((w.alloc (.cells #[.int .i64 A1, .int .i64 A2] 23)).alloc (.cells #[.int .i64 B1, .int .i64 B2] 23)).alloc (.cells #[.int .i64 C1, .int .i64 C2] 23) := ⟨_, rfl⟩
  rw [← hW]
  have d_A1 : World.dec W (w.heap.size) A1 A2 := by rw [hW]; exact ((World.dec_new w A1 A2 _ rfl).alloc _).alloc _
  have d_B1 : World.dec W (w.heap.size + 1) B1 B2 := by rw [hW]; exact (World.dec_new _ B1 B2 _ (by simp)).alloc _
  have d_C1 : World.dec W (w.heap.size + 1 + 1) C1 C2 := by rw [hW]; exact World.dec_new _ C1 C2 _ (by simp)
  have hB : Below w.heap.size w W := by rw [hW]; exact ((((Below.refl _ w).alloc (Nat.le_refl _) _).alloc (by simp) _).alloc (by simp; omega) _)
  clear hW
  refine (examples_any _ (hm.below hB)).mono ?_
  rintro e w1 ⟨rfl, hB1⟩
  have d_A1 := d_A1.below hB1 d_A1.lt
  have d_B1 := d_B1.below hB1 d_B1.lt
  have d_C1 := d_C1.below hB1 d_C1.lt
  have hB := hB.trans (hB1.mono hB.size)
  clear hB1
  have c_A1 := d_A1.c0
  have e_A1 := d_A1.c1
  go_wp2_with fail
  clear c_A1 e_A1
  refine (KA.out _).mono ?_
  rintro e w1 ⟨rfl, hB1⟩
  have d_A1 := d_A1.below hB1 d_A1.lt
  have d_B1 := d_B1.below hB1 d_B1.lt
  have d_C1 := d_C1.below hB1 d_C1.lt
  have hB := hB.trans (hB1.mono hB.size)
  clear hB1
  have d_x : World.dec (w1.alloc (.cells #[.int .i64 x, .int .i64 y] 23)) (w1.heap.size) x y := World.dec_new _ _ _ _ rfl
  have l_A1 := d_A1.lt
  have d_A1 := d_A1.alloc (.cells #[.int .i64 x, .int .i64 y] 23)
  have l_B1 := d_B1.lt
  have d_B1 := d_B1.alloc (.cells #[.int .i64 x, .int .i64 y] 23)
  have l_C1 := d_C1.lt
  have d_C1 := d_C1.alloc (.cells #[.int .i64 x, .int .i64 y] 23)
  have hB := hB.alloc hB.size (.cells #[.int .i64 x, .int .i64 y] 23)
  clear d_A1
  have c_B1 := d_B1.c0
  have e_B1 := d_B1.c1
  go_wp2_with fail
  clear c_B1 e_B1
  clear l_A1 l_B1 l_C1
  refine (KB.out _).mono ?_
  rintro e w1 ⟨rfl, hB1⟩
  have d_B1 := d_B1.below hB1 d_B1.lt
  have d_C1 := d_C1.below hB1 d_C1.lt
  have d_x := d_x.below hB1 d_x.lt
  have hB := hB.trans (hB1.mono hB.size)
  clear hB1
  have d_v : World.dec (w1.alloc (.cells #[.int .i64 x', .int .i64 y'] 23)) (w1.heap.size) x' y' := World.dec_new _ _ _ _ rfl
  have l_B1 := d_B1.lt
  have d_B1 := d_B1.alloc (.cells #[.int .i64 x', .int .i64 y'] 23)
  have l_C1 := d_C1.lt
  have d_C1 := d_C1.alloc (.cells #[.int .i64 x', .int .i64 y'] 23)
  have l_x := d_x.lt
  have d_x := d_x.alloc (.cells #[.int .i64 x', .int .i64 y'] 23)
  have hB := hB.alloc hB.size (.cells #[.int .i64 x', .int .i64 y'] 23)
  clear d_B1
  have c_C1 := d_C1.c0
  have e_C1 := d_C1.c1
  go_wp2_with fail
  clear c_C1 e_C1
  clear l_B1 l_C1 l_x
  refine (KC.out _).mono ?_
  rintro e w1 ⟨rfl, hB1⟩
  have d_C1 := d_C1.below hB1 d_C1.lt
  have d_x := d_x.below hB1 d_x.lt
  have d_v := d_v.below hB1 d_v.lt
  have hB := hB.trans (hB1.mono hB.size)
  clear hB1
  have d_u : World.dec (w1.alloc (.cells #[.int .i64 x2, .int .i64 y2] 23)) (w1.heap.size) x2 y2 := World.dec_new _ _ _ _ rfl
  have l_C1 := d_C1.lt
  have d_C1 := d_C1.alloc (.cells #[.int .i64 x2, .int .i64 y2] 23)
  have l_x := d_x.lt
  have d_x := d_x.alloc (.cells #[.int .i64 x2, .int .i64 y2] 23)
  have l_v := d_v.lt
  have d_v := d_v.alloc (.cells #[.int .i64 x2, .int .i64 y2] 23)
  have hB := hB.alloc hB.size (.cells #[.int .i64 x2, .int .i64 y2] 23)
  clear d_C1
  have c_x := d_x.c0
  have e_x := d_x.c1
  have c_v := d_v.c0
  have e_v := d_v.c1
  go_wp2_with fail
  clear c_x e_x c_v e_v
  clear l_C1 l_x l_v
  refine (K1.out _).mono ?_
  rintro e w1 ⟨rfl, hB1⟩
  have d_x := d_x.below hB1 d_x.lt
  have d_v := d_v.below hB1 d_v.lt
  have d_u := d_u.below hB1 d_u.lt
  have hB := hB.trans (hB1.mono hB.size)
  clear hB1
  have c_x := d_x.c0
  have e_x := d_x.c1
  have c_v := d_v.c0
  have e_v := d_v.c1
  go_wp2_with fail
  clear c_x e_x c_v e_v
  refine (K2.out _).mono ?_
  rintro e w1 ⟨rfl, hB1⟩
  have d_x := d_x.below hB1 d_x.lt
  have d_v := d_v.below hB1 d_v.lt
  have d_u := d_u.below hB1 d_u.lt
  have hB := hB.trans (hB1.mono hB.size)
  clear hB1
  have c_x := d_x.c0
  have e_x := d_x.c1
  have c_v := d_v.c0
  have e_v := d_v.c1
  have c_u := d_u.c0
  have e_u := d_u.c1
  go_wp2_with fail
  clear c_x e_x c_v e_v c_u e_u
  refine (K5.out _).mono ?_
  rintro e w1 ⟨rfl, hB1⟩
  have d_x := d_x.below hB1 d_x.lt
  have d_v := d_v.below hB1 d_v.lt
  have d_u := d_u.below hB1 d_u.lt
  have hB := hB.trans (hB1.mono hB.size)
  clear hB1
  have d_d : World.dec (w1.alloc (.cells #[.int .i64 d1, .int .i64 d2] 23)) (w1.heap.size) d1 d2 := World.dec_new _ _ _ _ rfl
  have l_x := d_x.lt
  have d_x := d_x.alloc (.cells #[.int .i64 d1, .int .i64 d2] 23)
  have l_v := d_v.lt
  have d_v := d_v.alloc (.cells #[.int .i64 d1, .int .i64 d2] 23)
  have l_u := d_u.lt
  have d_u := d_u.alloc (.cells #[.int .i64 d1, .int .i64 d2] 23)
  have hB := hB.alloc hB.size (.cells #[.int .i64 d1, .int .i64 d2] 23)
  have hBf := hB
  rcases HI.out with hi | ⟨hi, hd⟩
  · have hi1 : (i == 0) = false := by simpa using hi
    have c_d := d_d.c0
    have e_d := d_d.c1
    go_wp2_with fail
    clear c_d e_d
    clear l_x l_v l_u
    go_ret
    exact ⟨rfl, hB⟩
  · subst hi
    have hq : decide (0 < d1) = true := by simp; omega
    have hq2 : decide (d1 < 0) = false := by simp; omega
    have c_d := d_d.c0
    have e_d := d_d.c1
    go_wp2_with fail
    clear c_d e_d
    try rw [hq]
    try rw [hq2]
    go_ret
    exact ⟨rfl, hB⟩

set_option maxRecDepth 100000 in
set_option maxHeartbeats 8000000 in
theorem order_ge (A1 A2 B1 B2 C1 C2 : Int) (w : World) (hm : Shp w) (hA10 : -9223372036854775808 ≤ A1) (hA11 : A1 ≤ 9223372036854775807) (hA20 : -9223372036854775808 ≤ A2) (hA21 : A2 ≤ 9223372036854775807) (hB10 : -9223372036854775808 ≤ B1) (hB11 : B1 ≤ 9223372036854775807) (hB20 : -9223372036854775808 ≤ B2) (hB21 : B2 ≤ 9223372036854775807) (hC10 : -9223372036854775808 ≤ C1) (hC11 : C1 ≤ 9223372036854775807) (hC20 : -9223372036854775808 ≤ C2) (hC21 : C2 ≤ 9223372036854775807) (x y x' y' x2 y2 n2 n3 d1 d2 i : Int) (hx : RightP (x, y)) (hA : madeP A1 A2 = (x, y)) (hB' : madeP B1 B2 = (x', y')) (hC : madeP C1 C2 = (x2, y2)) (h2 : RightP (x2, y2)) (g1 : cmpD x y x' y' = 1) (g2 : cmpD x' y' x y = -1) (g3 : cmpD x' y' x2 y2 = n2) (g4 : cmpD x y x2 y2 = n3) (g5 : subD x y x' y' = ((d1, d2), i)) (h' : RightP (x', y')) (ne : (x == x') = true) (ne2 : (y == y') = false) (hi : i ≠ 0 ∨ i = 0 ∧ 0 < d1) :
    Calls Tryd.prog 7 #[.agg #[.int .i64 A1, .int .i64 A2], .agg #[.int .i64 B1, .int .i64 B2], .agg #[.int .i64 C1, .int .i64 C2]] w fun e w' => e = .returned (.bool true) ∧ Below w.heap.size w w' := by
  obtain ⟨x0, x1, y0, y1, _⟩ := hx
  obtain ⟨z0, z1, z2, z3, _⟩ := h2
  simp only at x0 x1 y0 y1 z0 z1 z2 z3
  obtain ⟨a0, a1, a2, a3, _⟩ := h'
  simp only at a0 a1 a2 a3
  have CA' := fun w => made_any A1 A2 w hA10 hA11 hA20 hA21
  rw [hA] at CA'
  have CB' := fun w => made_any B1 B2 w hB10 hB11 hB20 hB21
  rw [hB'] at CB'
  have CC' := fun w => made_any C1 C2 w hC10 hC11 hC20 hC21
  rw [hC] at CC'
  have C1' := fun w => cmp_any x y x' y' w (by omega) (by omega) (by omega) (by omega)
  rw [g1] at C1'
  have C2' := fun w => cmp_any x' y' x y w (by omega) (by omega) (by omega) (by omega)
  rw [g2] at C2'
  have C3' := fun w => cmp_any x' y' x2 y2 w (by omega) (by omega) (by omega) (by omega)
  rw [g3] at C3'
  have C4' := fun w => cmp_any x y x2 y2 w (by omega) (by omega) (by omega) (by omega)
  rw [g4] at C4'
  have C5' := fun w => sub_any x y x' y' w (by omega) (by omega) (by omega) (by omega)
  rw [g5] at C5'
  clear hA hB' hC g1 g2 g3 g4 g5
  have HI := Lib.hid hi
  clear hi
  have KA := Lib.hid CA'
  clear CA'
  have KB := Lib.hid CB'
  clear CB'
  have KC := Lib.hid CC'
  clear CC'
  have K1 := Lib.hid C1'
  clear C1'
  have K2 := Lib.hid C2'
  clear C2'
  have K3 := Lib.hid C3'
  clear C3'
  have K4 := Lib.hid C4'
  clear C4'
  have K5 := Lib.hid C5'
  clear C5'
  go_enter Tryd.func7, Tryd.ntmps7
  go_wp2_with fail
  obtain ⟨W, hW⟩ : ∃ W, W = ((w.alloc (.cells #[.int .i64 A1, .int .i64 A2] 23)).alloc (.cells #[.int .i64 B1, .int .i64 B2] 23)).alloc (.cells #[.int .i64 C1, .int .i64 C2] 23) := ⟨_, rfl⟩
  rw [← hW]
  have d_A1 : World.dec W (w.heap.size) A1 A2 := by rw [hW]; exact ((World.dec_new w A1 A2 _ rfl).alloc _).alloc _
  have d_B1 : World.dec W (w.heap.size + 1) B1 B2 := by rw [hW]; exact (World.dec_new _ B1 B2 _ (by simp)).alloc _
  have d_C1 : World.dec W (w.heap.size + 1 + 1) C1 C2 := by rw [hW]; exact World.dec_new _ C1 C2 _ (by simp)
  have hB : Below w.heap.size w W := by rw [hW]; exact ((((Below.refl _ w).alloc (Nat.le_refl _) _).alloc (by simp) _).alloc (by simp; omega) _)
  clear hW
  refine (examples_any _ (hm.below hB)).mono ?_
  rintro e w1 ⟨rfl, hB1⟩
  have d_A1 := d_A1.below hB1 d_A1.lt
  have d_B1 := d_B1.below hB1 d_B1.lt
  have d_C1 := d_C1.below hB1 d_C1.lt
  have hB := hB.trans (hB1.mono hB.size)
  clear hB1
  have c_A1 := d_A1.c0
  have e_A1 := d_A1.c1
  go_wp2_with fail
  clear c_A1 e_A1
  refine (KA.out _).mono ?_
  rintro e w1 ⟨rfl, hB1⟩
  have d_A1 := d_A1.below hB1 d_A1.lt
  have d_B1 := d_B1.below hB1 d_B1.lt
  have d_C1 := d_C1.below hB1 d_C1.lt
  have hB := hB.trans (hB1.mono hB.size)
  clear hB1
  have d_x : World.dec (w1.alloc (.cells #[.int .i64 x, .int .i64 y] 23)) (w1.heap.size) x y := World.dec_new _ _ _ _ rfl
  have l_A1 := d_A1.lt
  have d_A1 := d_A1.alloc (.cells #[.int .i64 x, .int .i64 y] 23)
  have l_B1 := d_B1.lt
  have d_B1 := d_B1.alloc (.cells #[.int .i64 x, .int .i64 y] 23)
  have l_C1 := d_C1.lt
  have d_C1 := d_C1.alloc (.cells #[.int .i64 x, .int .i64 y] 23)
  have hB := hB.alloc hB.size (.cells #[.int .i64 x, .int .i64 y] 23)
  clear d_A1
  have c_B1 := d_B1.c0
  have e_B1 := d_B1.c1
  go_wp2_with fail
  clear c_B1 e_B1
  clear l_A1 l_B1 l_C1
  refine (KB.out _).mono ?_
  rintro e w1 ⟨rfl, hB1⟩
  have d_B1 := d_B1.below hB1 d_B1.lt
  have d_C1 := d_C1.below hB1 d_C1.lt
  have d_x := d_x.below hB1 d_x.lt
  have hB := hB.trans (hB1.mono hB.size)
  clear hB1
  have d_v : World.dec (w1.alloc (.cells #[.int .i64 x', .int .i64 y'] 23)) (w1.heap.size) x' y' := World.dec_new _ _ _ _ rfl
  have l_B1 := d_B1.lt
  have d_B1 := d_B1.alloc (.cells #[.int .i64 x', .int .i64 y'] 23)
  have l_C1 := d_C1.lt
  have d_C1 := d_C1.alloc (.cells #[.int .i64 x', .int .i64 y'] 23)
  have l_x := d_x.lt
  have d_x := d_x.alloc (.cells #[.int .i64 x', .int .i64 y'] 23)
  have hB := hB.alloc hB.size (.cells #[.int .i64 x', .int .i64 y'] 23)
  clear d_B1
  have c_C1 := d_C1.c0
  have e_C1 := d_C1.c1
  go_wp2_with fail
  clear c_C1 e_C1
  clear l_B1 l_C1 l_x
  refine (KC.out _).mono ?_
  rintro e w1 ⟨rfl, hB1⟩
  have d_C1 := d_C1.below hB1 d_C1.lt
  have d_x := d_x.below hB1 d_x.lt
  have d_v := d_v.below hB1 d_v.lt
  have hB := hB.trans (hB1.mono hB.size)
  clear hB1
  have d_u : World.dec (w1.alloc (.cells #[.int .i64 x2, .int .i64 y2] 23)) (w1.heap.size) x2 y2 := World.dec_new _ _ _ _ rfl
  have l_C1 := d_C1.lt
  have d_C1 := d_C1.alloc (.cells #[.int .i64 x2, .int .i64 y2] 23)
  have l_x := d_x.lt
  have d_x := d_x.alloc (.cells #[.int .i64 x2, .int .i64 y2] 23)
  have l_v := d_v.lt
  have d_v := d_v.alloc (.cells #[.int .i64 x2, .int .i64 y2] 23)
  have hB := hB.alloc hB.size (.cells #[.int .i64 x2, .int .i64 y2] 23)
  clear d_C1
  have c_x := d_x.c0
  have e_x := d_x.c1
  have c_v := d_v.c0
  have e_v := d_v.c1
  go_wp2_with fail
  clear c_x e_x c_v e_v
  clear l_C1 l_x l_v
  refine (K1.out _).mono ?_
  rintro e w1 ⟨rfl, hB1⟩
  have d_x := d_x.below hB1 d_x.lt
  have d_v := d_v.below hB1 d_v.lt
  have d_u := d_u.below hB1 d_u.lt
  have hB := hB.trans (hB1.mono hB.size)
  clear hB1
  have c_x := d_x.c0
  have e_x := d_x.c1
  have c_v := d_v.c0
  have e_v := d_v.c1
  go_wp2_with fail
  clear c_x e_x c_v e_v
  refine (K2.out _).mono ?_
  rintro e w1 ⟨rfl, hB1⟩
  have d_x := d_x.below hB1 d_x.lt
  have d_v := d_v.below hB1 d_v.lt
  have d_u := d_u.below hB1 d_u.lt
  have hB := hB.trans (hB1.mono hB.size)
  clear hB1
  have c_x := d_x.c0
  have e_x := d_x.c1
  have c_v := d_v.c0
  have e_v := d_v.c1
  have c_u := d_u.c0
  have e_u := d_u.c1
  go_wp2_with fail
  clear c_x e_x c_v e_v c_u e_u
  refine (K5.out _).mono ?_
  rintro e w1 ⟨rfl, hB1⟩
  have d_x := d_x.below hB1 d_x.lt
  have d_v := d_v.below hB1 d_v.lt
  have d_u := d_u.below hB1 d_u.lt
  have hB := hB.trans (hB1.mono hB.size)
  clear hB1
  have d_d : World.dec (w1.alloc (.cells #[.int .i64 d1, .int .i64 d2] 23)) (w1.heap.size) d1 d2 := World.dec_new _ _ _ _ rfl
  have l_x := d_x.lt
  have d_x := d_x.alloc (.cells #[.int .i64 d1, .int .i64 d2] 23)
  have l_v := d_v.lt
  have d_v := d_v.alloc (.cells #[.int .i64 d1, .int .i64 d2] 23)
  have l_u := d_u.lt
  have d_u := d_u.alloc (.cells #[.int .i64 d1, .int .i64 d2] 23)
  have hB := hB.alloc hB.size (.cells #[.int .i64 d1, .int .i64 d2] 23)
  have hBf := hB
  rcases HI.out with hi | ⟨hi, hd⟩
  · have hi1 : (i == 0) = false := by simpa using hi
    have c_d := d_d.c0
    have e_d := d_d.c1
    go_wp2_with fail
    clear c_d e_d
    clear l_x l_v l_u
    go_ret
    exact ⟨rfl, hB⟩
  · subst hi
    have hq : decide (0 < d1) = true := by simp; omega
    have hq2 : decide (d1 < 0) = false := by simp; omega
    have c_d := d_d.c0
    have e_d := d_d.c1
    go_wp2_with fail
    clear c_d e_d
    try rw [hq]
    try rw [hq2]
    go_ret
    exact ⟨rfl, hB⟩

theorem order_walk (A1 A2 B1 B2 C1 C2 : Int) (w : World) (hm : Shp w) (hA10 : -9223372036854775808 ≤ A1) (hA11 : A1 ≤ 9223372036854775807) (hA20 : -9223372036854775808 ≤ A2) (hA21 : A2 ≤ 9223372036854775807) (hB10 : -9223372036854775808 ≤ B1) (hB11 : B1 ≤ 9223372036854775807) (hB20 : -9223372036854775808 ≤ B2) (hB21 : B2 ≤ 9223372036854775807) (hC10 : -9223372036854775808 ≤ C1) (hC11 : C1 ≤ 9223372036854775807) (hC20 : -9223372036854775808 ≤ C2) (hC21 : C2 ≤ 9223372036854775807) :
    Calls Tryd.prog 7 #[.agg #[.int .i64 A1, .int .i64 A2], .agg #[.int .i64 B1, .int .i64 B2], .agg #[.int .i64 C1, .int .i64 C2]] w fun e w' => e = .returned (.bool true) ∧ Below w.heap.size w w' := by
  have hx := madeP_right A1 A2
  have h' := madeP_right B1 B2
  have h2 := madeP_right C1 C2
  obtain ⟨⟨x, y⟩, hA⟩ : ∃ p, madeP A1 A2 = p := ⟨_, rfl⟩
  obtain ⟨⟨x', y'⟩, hB⟩ : ∃ p, madeP B1 B2 = p := ⟨_, rfl⟩
  obtain ⟨⟨x2, y2⟩, hC⟩ : ∃ p, madeP C1 C2 = p := ⟨_, rfl⟩
  rw [hA] at hx
  rw [hB] at h'
  rw [hC] at h2
  obtain ⟨n, n2, n3, d1, d2, i, g1, g2, g3, g4, g5, he, n0, n1, ht, hi⟩ := order_plain hx h' h2
  have hd : n = -1 ∨ n = 0 ∨ n = 1 := by omega
  rcases hd with rfl | rfl | rfl
  · have hi' : i ≠ 0 ∨ i = 0 ∧ d1 < 0 := hi.imp id (fun ⟨a, b, _⟩ => ⟨a, by simpa using b⟩)
    have he' : (x == x') = false ∨ (x == x') = true ∧ (y == y') = false := by
      cases c : (x == x')
      · exact .inl rfl
      · refine .inr ⟨rfl, ?_⟩; rw [c] at he; simpa using he.symm
    rcases he' with ne | ⟨ne, ne2⟩
    · exact order_ld A1 A2 B1 B2 C1 C2 w hm hA10 hA11 hA20 hA21 hB10 hB11 hB20 hB21 hC10 hC11 hC20 hC21 x y x' y' x2 y2 n2 n3 d1 d2 i hx hA hB hC h2 g1 g2 g3 g4 g5 h' ne (ht (by decide)) hi'
    · exact order_le A1 A2 B1 B2 C1 C2 w hm hA10 hA11 hA20 hA21 hB10 hB11 hB20 hB21 hC10 hC11 hC20 hC21 x y x' y' x2 y2 n2 n3 d1 d2 i hx hA hB hC h2 g1 g2 g3 g4 g5 h' ne ne2 (ht (by decide)) hi'
  · have hi' : i ≠ 0 ∨ i = 0 ∧ d1 = 0 := hi.imp id (fun ⟨a, b, c⟩ => ⟨a, by
      have b1 : ¬ d1 < 0 := by simpa using b
      have c1 : ¬ 0 < d1 := by simpa using c
      omega⟩)
    have e1 : x = x' ∧ y = y' := by simpa using he.symm
    obtain ⟨rfl, rfl⟩ := e1
    exact order_os A1 A2 B1 B2 C1 C2 w hm hA10 hA11 hA20 hA21 hB10 hB11 hB20 hB21 hC10 hC11 hC20 hC21 x y x2 y2 n2 n3 d1 d2 i hx hA hB hC h2 g1 g2 g3 g4 g5 (ht (by decide)) hi'
  · have hi' : i ≠ 0 ∨ i = 0 ∧ 0 < d1 := hi.imp id (fun ⟨a, _, b⟩ => ⟨a, by simpa using b⟩)
    have he' : (x == x') = false ∨ (x == x') = true ∧ (y == y') = false := by
      cases c : (x == x')
      · exact .inl rfl
      · refine .inr ⟨rfl, ?_⟩; rw [c] at he; simpa using he.symm
    rcases he' with ne | ⟨ne, ne2⟩
    · exact order_gd A1 A2 B1 B2 C1 C2 w hm hA10 hA11 hA20 hA21 hB10 hB11 hB20 hB21 hC10 hC11 hC20 hC21 x y x' y' x2 y2 n2 n3 d1 d2 i hx hA hB hC h2 g1 g2 g3 g4 g5 h' ne hi'
    · exact order_ge A1 A2 B1 B2 C1 C2 w hm hA10 hA11 hA20 hA21 hB10 hB11 hB20 hB21 hC10 hC11 hC20 hC21 x y x' y' x2 y2 n2 n3 d1 d2 i hx hA hB hC h2 g1 g2 g3 g4 g5 h' ne ne2 hi'
end Go.Proofs.YtpkohfdebgiloaaDoor
