/- The walk of DecPowers: true. -/
import Derived.Test.YtpkohfdebgiloaaDoorRops
import Derived.Test.YtpkohfdebgiloaaDoorExs
import Derived.Deep.RegionHeld3
namespace Go.Proofs.YtpkohfdebgiloaaDoor
open Go.RowKit Go.Shelf

/-- A block of cells, whole. -/
def World.blk (w : World) (b : Nat) (cs : Array Value) (t : TypeId) : Prop := w.heap[b]? = some (.cells cs t (0, 0))
section
variable {w w' : World} {b : Nat} {cs : Array Value} {t : TypeId}
theorem World.blk.lt (h : World.blk w b cs t) : b < w.heap.size := (Array.getElem?_eq_some_iff.1 h).1
theorem World.blk.below {B : Nat} (h : World.blk w b cs t) (hb : Below B w w') (hlt : b < B) : World.blk w' b cs t := by unfold World.blk; rw [hb.block b hlt]; exact h
theorem World.blk_new (w : World) (cs : Array Value) (t : TypeId) (n : Nat) (hn : n = w.heap.size) : World.blk (w.alloc (.cells cs t)) n cs t := by subst hn; exact heap_alloc_new w _
theorem World.blk.cell (h : World.blk w b cs t) (i : Nat) (v : Value) (hv : cs[i]? = some v) : w.cell? ⟨b, i, none⟩ = some v := by rw [cell_of_row w b i _ _ _ h, hv]
end
set_option maxRecDepth 100000 in
set_option maxHeartbeats 16000000 in
theorem powers_seven (A1 A2 n : Int) (w : World) (hm : Shp w) (hA10 : -9223372036854775808 ≤ A1) (hA11 : A1 ≤ 9223372036854775807) (hA20 : -9223372036854775808 ≤ A2) (hA21 : A2 ≤ 9223372036854775807) (hn0 : -9223372036854775808 ≤ n) (hn1 : n ≤ 9223372036854775807) (ht : (pickI A1 41 - 20).tmod 10 = 0) :
    Calls Tryd.prog 4 #[.agg #[.int .i64 A1, .int .i64 A2], .int .i64 n] w fun e w' => e = .returned (.bool true) ∧ Below w.heap.size w w' := by
  have CA := fun w => made_any A1 A2 w hA10 hA11 hA20 hA21
  have hR := madeP_right A1 A2
  obtain ⟨⟨x, y⟩, hP⟩ : ∃ p, madeP A1 A2 = p := ⟨_, rfl⟩
  rw [hP] at CA hR
  obtain ⟨x0, x1, y0, y1, _⟩ := hR
  simp only at x0 x1 y0 y1
  have C1 := fun w => pick_any A1 41 w hA10 hA11 (by decide) (by decide)
  have C2 := fun w => pick_any n 203 w hn0 hn1 (by decide) (by decide)
  have C3 := fun w => pick_any n 13 w hn0 hn1 (by decide) (by decide)
  have s1 := pickI_bd A1 (n := 41) (by decide)
  have s2 := pickI_bd n (n := 203) (by decide)
  have s3 := pickI_bd n (n := 13) (by decide)
  obtain ⟨c1, h1⟩ : ∃ c, pickI A1 41 = c := ⟨_, rfl⟩
  obtain ⟨c2, h2⟩ : ∃ c, pickI n 203 = c := ⟨_, rfl⟩
  obtain ⟨c3, h3⟩ : ∃ c, pickI n 13 = c := ⟨_, rfl⟩
  rw [h1] at C1 s1 ht
  rw [h2] at C2 s2
  rw [h3] at C3 s3
  have KA := Lib.hid CA
  have K1 := Lib.hid C1
  have K2 := Lib.hid C2
  have K3 := Lib.hid C3
  clear CA C1 C2 C3 hP h1 h2 h3
  obtain ⟨s10, s11⟩ := s1
  obtain ⟨s20, s21⟩ := s2
  obtain ⟨s30, s31⟩ := s3
  have hw1 : IntKind.i64.wrap (c1 - 20) = c1 - 20 := IntWalk.i64_in _ (by omega)
  have hw2 : IntKind.i64.wrap (c2 - 101) = c2 - 101 := IntWalk.i64_in _ (by omega)
  have hw3 : IntKind.i64.wrap (c3 - 6) = c3 - 6 := IntWalk.i64_in _ (by omega)
  go_enter Tryd.func4, Tryd.ntmps4
  go_wp2_with fail
  obtain ⟨W, hW⟩ : ∃ W, W = w.alloc (.cells #[.int .i64 A1, .int .i64 A2] 23) := ⟨_, rfl⟩
  rw [← hW]
  have d0 : World.dec W w.heap.size A1 A2 := by rw [hW]; exact World.dec_new w A1 A2 _ rfl
  have hB : Below w.heap.size w W := by rw [hW]; exact (Below.refl _ w).alloc (Nat.le_refl _) _
  have hsz := hB.size
  clear hW
  refine (examples_any _ (hm.below hB)).mono ?_
  rintro e w1 ⟨rfl, hB1⟩
  have d0 := d0.below hB1 d0.lt
  have hB := hB.trans (hB1.mono hB.size)
  have hsz := hB.size
  clear hB1
  have a0 := d0.c0
  have a1 := d0.c1
  go_wp2_with fail
  refine (K1.out _).mono ?_
  rintro e w2 ⟨rfl, rfl⟩
  have l0 := d0.lt
  obtain ⟨s, hs⟩ : ∃ s, c1 - 20 = s := ⟨_, rfl⟩
  rw [hs] at hw1 ht
  have hsb : -20 ≤ s ∧ s ≤ 20 := by omega
  obtain ⟨hs0, hs1⟩ := hsb
  have HS := Lib.hid hs
  have htb : (s.tmod 10 == 0) = true := by rw [ht]; rfl
  clear ht
  go_wp2_with fail
  obtain ⟨W3, hW⟩ : ∃ W, W = w2.alloc (.cells #[.int .i64 7, .int .i64 0] 23) := ⟨_, rfl⟩
  rw [← hW]
  obtain ⟨gs, hg⟩ : ∃ g, g = w2.heap.size := ⟨_, rfl⟩
  rw [← hg]
  have d6 : World.dec W3 gs 7 0 := by rw [hW]; exact World.dec_new w2 _ _ _ hg
  have d0 : World.dec W3 w.heap.size A1 A2 := by rw [hW]; exact d0.alloc _
  have hB : Below w.heap.size w W3 := by rw [hW]; exact hB.alloc hB.size _
  clear hW hg l0 a0 a1 htb hw1
  have d0 := d0.drew
  have d6 := d6.drew
  have hB := hB.drew
  have hsz := hB.size
  have a0 := d0.c0
  have a1 := d0.c1
  have b0 := d6.c0
  have b1 := d6.c1
  go_region_held3 (fun w' => w'.cell? ⟨w.heap.size, 0, none⟩ = some (.int .i64 A1) ∧ w'.cell? ⟨w.heap.size, 1, none⟩ = some (.int .i64 A2) ∧ w'.cell? ⟨gs, 0, none⟩ = some (.int .i64 7) ∧ w'.cell? ⟨gs, 1, none⟩ = some (.int .i64 0))
    (first | exact ⟨a0, a1, b0, b1⟩ | exact ⟨(d0.alloc _).c0, (d0.alloc _).c1, (d6.alloc _).c0, (d6.alloc _).c1⟩)
    (first | (go_at_call 18; refine (KA.out _).mono ?_; rintro e w4 ⟨rfl, hB1⟩; have d0 := d0.below hB1 d0.lt; have d6 := d6.below hB1 d6.lt; have hB := hB.trans (hB1.mono hB.size); have hsz := hB.size; have a0 := d0.c0; have a1 := d0.c1; have b0 := d6.c0; have b1 := d6.c1) | fail)
  go_wp2_with fail
  obtain ⟨W5, hW⟩ : ∃ W, W = w4.alloc (.cells #[.int .i64 A1, .int .i64 A2, .int .i64 x, .int .i64 y, .int .i64 7, .int .i64 0] 23) := ⟨_, rfl⟩
  rw [← hW]
  obtain ⟨gl, hg⟩ : ∃ g, g = w4.heap.size := ⟨_, rfl⟩
  rw [← hg]
  have hl : World.blk W5 gl #[.int .i64 A1, .int .i64 A2, .int .i64 x, .int .i64 y, .int .i64 7, .int .i64 0] 23 := by rw [hW]; exact World.blk_new w4 _ _ _ hg
  have hB : Below w.heap.size w W5 := by rw [hW]; exact hB.alloc hB.size _
  clear hW hg d0 d6 a0 a1 b0 b1
  go_loopw [34] (fun i wr => ∃ K : Nat, i = .int .i64 (K : Int) ∧ K ≤ 3 ∧ World.blk wr gl #[.int .i64 A1, .int .i64 A2, .int .i64 x, .int .i64 y, .int .i64 7, .int .i64 0] 23 ∧ Below w.heap.size w wr) (fun i _ => (3 - intOf i).toNat)
  case atStart => exact ⟨0, rfl, by decide, hl, hB⟩
  case round =>
    obtain ⟨K, rfl, k3, hl, hB⟩ := hrel
    have q0 := hl.cell 0 _ rfl
    have q1 := hl.cell 1 _ rfl
    have q2 := hl.cell 2 _ rfl
    have q3 := hl.cell 3 _ rfl
    have q4 := hl.cell 4 _ rfl
    have q5 := hl.cell 5 _ rfl
    rcases (by omega : K = 3 ∨ K = 0 ∨ K = 1 ∨ K = 2) with rfl | rfl | rfl | rfl
    · go_wp2_with fail
      go_ret
      exact ⟨rfl, hB⟩
    · go_wp2_with fail
      have lw := hl.lt
      obtain ⟨W6, hW⟩ : ∃ W, W = wr.alloc (.cells #[.int .i64 A1, .int .i64 A2] 23) := ⟨_, rfl⟩
      rw [← hW]
      obtain ⟨gx, hg⟩ : ∃ g, g = wr.heap.size := ⟨_, rfl⟩
      rw [← hg]
      have dx : World.dec W6 gx (A1) (A2) := by rw [hW]; exact World.dec_new wr _ _ _ hg
      have hB1 : Below wr.heap.size wr W6 := by rw [hW]; exact (Below.refl _ _).alloc (Nat.le_refl _) _
      have hl := hl.below hB1 lw
      have hB := hB.trans (hB1.mono hB.size)
      clear hW hg lw hB1 q0 q1 q2 q3 q4 q5
      refine (K2.out _).mono ?_
      rintro e w7 ⟨rfl, rfl⟩
      go_wp2_with fail
      refine (K3.out _).mono ?_
      rintro e w8 ⟨rfl, rfl⟩
      go_wp2_with fail
      obtain ⟨W9, hW⟩ : ∃ W, W = w8.alloc (.cells #[.int .i64 n, .int .i64 (c2 - 101), .int .i64 (c3 - 6)] 3) := ⟨_, rfl⟩
      rw [← hW]
      obtain ⟨gk, hg⟩ : ∃ g, g = w8.heap.size := ⟨_, rfl⟩
      rw [← hg]
      have hk : World.blk W9 gk #[.int .i64 n, .int .i64 (c2 - 101), .int .i64 (c3 - 6)] 3 := by rw [hW]; exact World.blk_new w8 _ _ _ hg
      have hB1 : Below w8.heap.size w8 W9 := by rw [hW]; exact (Below.refl _ _).alloc (Nat.le_refl _) _
      have hl := hl.below hB1 hl.lt
      have dx := dx.below hB1 dx.lt
      have hB := hB.trans (hB1.mono hB.size)
      clear hW hg hB1
      go_loopw [47] (fun j wr => ∃ J : Nat, j = .int .i64 (J : Int) ∧ J ≤ 3 ∧ World.blk wr gk #[.int .i64 n, .int .i64 (c2 - 101), .int .i64 (c3 - 6)] 3 ∧ World.blk wr gl #[.int .i64 A1, .int .i64 A2, .int .i64 x, .int .i64 y, .int .i64 7, .int .i64 0] 23 ∧ World.dec wr gx (A1) (A2) ∧ Below w.heap.size w wr) (fun j _ => (3 - intOf j).toNat)
      case atStart => exact ⟨0, rfl, by decide, hk, hl, dx, hB⟩
      case round =>
        obtain ⟨J, rfl, j3, hk, hl, dx, hB⟩ := hrel
        have q0 := hk.cell 0 _ rfl
        have q1 := hk.cell 1 _ rfl
        have q2 := hk.cell 2 _ rfl
        have x0 := dx.c0
        have x1 := dx.c1
        rcases (by omega : J = 3 ∨ J = 0 ∨ J = 1 ∨ J = 2) with rfl | rfl | rfl | rfl
        · go_wp2_with fail
          go_roundw
          case rel => exact ⟨0 + 1, by go_num, by decide, hl, hB⟩
          case measure => simp [intOf]
        · obtain ⟨⟨⟨t1, t2⟩, t3⟩, hT⟩ : ∃ T, powD (A1) (A2) n = T := ⟨_, rfl⟩
          have CP := fun w => pow_any (A1) (A2) n w (by omega) (by omega)
          have CR := fun w => rpow_any (A1) (A2) n w (by omega) (by omega)
          rw [hT] at CP CR
          have KP := Lib.hid CP
          have KR := Lib.hid CR
          clear CP CR hT
          go_wp2_with fail
          refine (KP.out _).mono ?_
          rintro e wa ⟨rfl, hB1⟩
          have hk := hk.below hB1 hk.lt
          have hl := hl.below hB1 hl.lt
          have dx := dx.below hB1 dx.lt
          have hB := hB.trans (hB1.mono hB.size)
          clear hB1 q0 q1 q2 x0 x1
          obtain ⟨W10, hW⟩ : ∃ W, W = wa.alloc (.cells #[.int .i64 t1, .int .i64 t2] 23) := ⟨_, rfl⟩
          obtain ⟨gp, hg⟩ : ∃ g, g = wa.heap.size := ⟨_, rfl⟩
          have dp : World.dec W10 gp t1 t2 := by rw [hW]; exact World.dec_new wa _ _ _ hg
          have hB1 : Below wa.heap.size wa W10 := by rw [hW]; exact (Below.refl _ _).alloc (Nat.le_refl _) _
          have lx := dx.lt
          have hk := hk.below hB1 hk.lt
          have hl := hl.below hB1 hl.lt
          have dx := dx.below hB1 dx.lt
          have hB := hB.trans (hB1.mono hB.size)
          have x0 := dx.c0
          have x1 := dx.c1
          rw [hW] at x0 x1
          go_wp2_with fail
          rw [← hW, ← hg]
          clear hB1 x0 x1 lx hW hg
          refine (KR.out _).mono ?_
          rintro e wb ⟨rfl, hB1⟩
          have hk := hk.below hB1 hk.lt
          have hl := hl.below hB1 hl.lt
          have dx := dx.below hB1 dx.lt
          have dp := dp.below hB1 dp.lt
          have hB := hB.trans (hB1.mono hB.size)
          have lp := dp.lt
          have dq : World.dec (wb.alloc (.cells #[.int .i64 t1, .int .i64 t2] 23)) wb.heap.size t1 t2 := World.dec_new wb _ _ _ rfl
          have dp2 := dp.alloc (.cells #[.int .i64 t1, .int .i64 t2] 23)
          have p0 := dp2.c0
          have p1 := dp2.c1
          have r0 := dq.c0
          have r1 := dq.c1
          have hB2 : Below wb.heap.size wb (wb.alloc (.cells #[.int .i64 t1, .int .i64 t2] 23)) := (Below.refl _ _).alloc (Nat.le_refl _) _
          have hk := hk.below hB2 hk.lt
          have hl := hl.below hB2 hl.lt
          have dx := dx.below hB2 dx.lt
          have hB := hB.trans (hB2.mono hB.size)
          clear hB1 hB2
          go_wp2_with fail
          go_roundw
          case rel => exact ⟨0 + 1, by go_num, by decide, hk, hl, dx, hB⟩
          case measure => simp [intOf]
        · obtain ⟨⟨⟨t1, t2⟩, t3⟩, hT⟩ : ∃ T, powD (A1) (A2) (c2 - 101) = T := ⟨_, rfl⟩
          have CP := fun w => pow_any (A1) (A2) (c2 - 101) w (by omega) (by omega)
          have CR := fun w => rpow_any (A1) (A2) (c2 - 101) w (by omega) (by omega)
          rw [hT] at CP CR
          have KP := Lib.hid CP
          have KR := Lib.hid CR
          clear CP CR hT
          go_wp2_with fail
          refine (KP.out _).mono ?_
          rintro e wa ⟨rfl, hB1⟩
          have hk := hk.below hB1 hk.lt
          have hl := hl.below hB1 hl.lt
          have dx := dx.below hB1 dx.lt
          have hB := hB.trans (hB1.mono hB.size)
          clear hB1 q0 q1 q2 x0 x1
          obtain ⟨W10, hW⟩ : ∃ W, W = wa.alloc (.cells #[.int .i64 t1, .int .i64 t2] 23) := ⟨_, rfl⟩
          obtain ⟨gp, hg⟩ : ∃ g, g = wa.heap.size := ⟨_, rfl⟩
          have dp : World.dec W10 gp t1 t2 := by rw [hW]; exact World.dec_new wa _ _ _ hg
          have hB1 : Below wa.heap.size wa W10 := by rw [hW]; exact (Below.refl _ _).alloc (Nat.le_refl _) _
          have lx := dx.lt
          have hk := hk.below hB1 hk.lt
          have hl := hl.below hB1 hl.lt
          have dx := dx.below hB1 dx.lt
          have hB := hB.trans (hB1.mono hB.size)
          have x0 := dx.c0
          have x1 := dx.c1
          rw [hW] at x0 x1
          go_wp2_with fail
          rw [← hW, ← hg]
          clear hB1 x0 x1 lx hW hg
          refine (KR.out _).mono ?_
          rintro e wb ⟨rfl, hB1⟩
          have hk := hk.below hB1 hk.lt
          have hl := hl.below hB1 hl.lt
          have dx := dx.below hB1 dx.lt
          have dp := dp.below hB1 dp.lt
          have hB := hB.trans (hB1.mono hB.size)
          have lp := dp.lt
          have dq : World.dec (wb.alloc (.cells #[.int .i64 t1, .int .i64 t2] 23)) wb.heap.size t1 t2 := World.dec_new wb _ _ _ rfl
          have dp2 := dp.alloc (.cells #[.int .i64 t1, .int .i64 t2] 23)
          have p0 := dp2.c0
          have p1 := dp2.c1
          have r0 := dq.c0
          have r1 := dq.c1
          have hB2 : Below wb.heap.size wb (wb.alloc (.cells #[.int .i64 t1, .int .i64 t2] 23)) := (Below.refl _ _).alloc (Nat.le_refl _) _
          have hk := hk.below hB2 hk.lt
          have hl := hl.below hB2 hl.lt
          have dx := dx.below hB2 dx.lt
          have hB := hB.trans (hB2.mono hB.size)
          clear hB1 hB2
          go_wp2_with fail
          go_roundw
          case rel => exact ⟨1 + 1, by go_num, by decide, hk, hl, dx, hB⟩
          case measure => simp [intOf]
        · obtain ⟨⟨⟨t1, t2⟩, t3⟩, hT⟩ : ∃ T, powD (A1) (A2) (c3 - 6) = T := ⟨_, rfl⟩
          have CP := fun w => pow_any (A1) (A2) (c3 - 6) w (by omega) (by omega)
          have CR := fun w => rpow_any (A1) (A2) (c3 - 6) w (by omega) (by omega)
          rw [hT] at CP CR
          have KP := Lib.hid CP
          have KR := Lib.hid CR
          clear CP CR hT
          go_wp2_with fail
          refine (KP.out _).mono ?_
          rintro e wa ⟨rfl, hB1⟩
          have hk := hk.below hB1 hk.lt
          have hl := hl.below hB1 hl.lt
          have dx := dx.below hB1 dx.lt
          have hB := hB.trans (hB1.mono hB.size)
          clear hB1 q0 q1 q2 x0 x1
          obtain ⟨W10, hW⟩ : ∃ W, W = wa.alloc (.cells #[.int .i64 t1, .int .i64 t2] 23) := ⟨_, rfl⟩
          obtain ⟨gp, hg⟩ : ∃ g, g = wa.heap.size := ⟨_, rfl⟩
          have dp : World.dec W10 gp t1 t2 := by rw [hW]; exact World.dec_new wa _ _ _ hg
          have hB1 : Below wa.heap.size wa W10 := by rw [hW]; exact (Below.refl _ _).alloc (Nat.le_refl _) _
          have lx := dx.lt
          have hk := hk.below hB1 hk.lt
          have hl := hl.below hB1 hl.lt
          have dx := dx.below hB1 dx.lt
          have hB := hB.trans (hB1.mono hB.size)
          have x0 := dx.c0
          have x1 := dx.c1
          rw [hW] at x0 x1
          go_wp2_with fail
          rw [← hW, ← hg]
          clear hB1 x0 x1 lx hW hg
          refine (KR.out _).mono ?_
          rintro e wb ⟨rfl, hB1⟩
          have hk := hk.below hB1 hk.lt
          have hl := hl.below hB1 hl.lt
          have dx := dx.below hB1 dx.lt
          have dp := dp.below hB1 dp.lt
          have hB := hB.trans (hB1.mono hB.size)
          have lp := dp.lt
          have dq : World.dec (wb.alloc (.cells #[.int .i64 t1, .int .i64 t2] 23)) wb.heap.size t1 t2 := World.dec_new wb _ _ _ rfl
          have dp2 := dp.alloc (.cells #[.int .i64 t1, .int .i64 t2] 23)
          have p0 := dp2.c0
          have p1 := dp2.c1
          have r0 := dq.c0
          have r1 := dq.c1
          have hB2 : Below wb.heap.size wb (wb.alloc (.cells #[.int .i64 t1, .int .i64 t2] 23)) := (Below.refl _ _).alloc (Nat.le_refl _) _
          have hk := hk.below hB2 hk.lt
          have hl := hl.below hB2 hl.lt
          have dx := dx.below hB2 dx.lt
          have hB := hB.trans (hB2.mono hB.size)
          clear hB1 hB2
          go_wp2_with fail
          go_roundw
          case rel => exact ⟨2 + 1, by go_num, by decide, hk, hl, dx, hB⟩
          case measure => simp [intOf]
    · go_wp2_with fail
      have lw := hl.lt
      obtain ⟨W6, hW⟩ : ∃ W, W = wr.alloc (.cells #[.int .i64 x, .int .i64 y] 23) := ⟨_, rfl⟩
      rw [← hW]
      obtain ⟨gx, hg⟩ : ∃ g, g = wr.heap.size := ⟨_, rfl⟩
      rw [← hg]
      have dx : World.dec W6 gx (x) (y) := by rw [hW]; exact World.dec_new wr _ _ _ hg
      have hB1 : Below wr.heap.size wr W6 := by rw [hW]; exact (Below.refl _ _).alloc (Nat.le_refl _) _
      have hl := hl.below hB1 lw
      have hB := hB.trans (hB1.mono hB.size)
      clear hW hg lw hB1 q0 q1 q2 q3 q4 q5
      refine (K2.out _).mono ?_
      rintro e w7 ⟨rfl, rfl⟩
      go_wp2_with fail
      refine (K3.out _).mono ?_
      rintro e w8 ⟨rfl, rfl⟩
      go_wp2_with fail
      obtain ⟨W9, hW⟩ : ∃ W, W = w8.alloc (.cells #[.int .i64 n, .int .i64 (c2 - 101), .int .i64 (c3 - 6)] 3) := ⟨_, rfl⟩
      rw [← hW]
      obtain ⟨gk, hg⟩ : ∃ g, g = w8.heap.size := ⟨_, rfl⟩
      rw [← hg]
      have hk : World.blk W9 gk #[.int .i64 n, .int .i64 (c2 - 101), .int .i64 (c3 - 6)] 3 := by rw [hW]; exact World.blk_new w8 _ _ _ hg
      have hB1 : Below w8.heap.size w8 W9 := by rw [hW]; exact (Below.refl _ _).alloc (Nat.le_refl _) _
      have hl := hl.below hB1 hl.lt
      have dx := dx.below hB1 dx.lt
      have hB := hB.trans (hB1.mono hB.size)
      clear hW hg hB1
      go_loopw [47] (fun j wr => ∃ J : Nat, j = .int .i64 (J : Int) ∧ J ≤ 3 ∧ World.blk wr gk #[.int .i64 n, .int .i64 (c2 - 101), .int .i64 (c3 - 6)] 3 ∧ World.blk wr gl #[.int .i64 A1, .int .i64 A2, .int .i64 x, .int .i64 y, .int .i64 7, .int .i64 0] 23 ∧ World.dec wr gx (x) (y) ∧ Below w.heap.size w wr) (fun j _ => (3 - intOf j).toNat)
      case atStart => exact ⟨0, rfl, by decide, hk, hl, dx, hB⟩
      case round =>
        obtain ⟨J, rfl, j3, hk, hl, dx, hB⟩ := hrel
        have q0 := hk.cell 0 _ rfl
        have q1 := hk.cell 1 _ rfl
        have q2 := hk.cell 2 _ rfl
        have x0 := dx.c0
        have x1 := dx.c1
        rcases (by omega : J = 3 ∨ J = 0 ∨ J = 1 ∨ J = 2) with rfl | rfl | rfl | rfl
        · go_wp2_with fail
          go_roundw
          case rel => exact ⟨1 + 1, by go_num, by decide, hl, hB⟩
          case measure => simp [intOf]
        · obtain ⟨⟨⟨t1, t2⟩, t3⟩, hT⟩ : ∃ T, powD (x) (y) n = T := ⟨_, rfl⟩
          have CP := fun w => pow_any (x) (y) n w (by omega) (by omega)
          have CR := fun w => rpow_any (x) (y) n w (by omega) (by omega)
          rw [hT] at CP CR
          have KP := Lib.hid CP
          have KR := Lib.hid CR
          clear CP CR hT
          go_wp2_with fail
          refine (KP.out _).mono ?_
          rintro e wa ⟨rfl, hB1⟩
          have hk := hk.below hB1 hk.lt
          have hl := hl.below hB1 hl.lt
          have dx := dx.below hB1 dx.lt
          have hB := hB.trans (hB1.mono hB.size)
          clear hB1 q0 q1 q2 x0 x1
          obtain ⟨W10, hW⟩ : ∃ W, W = wa.alloc (.cells #[.int .i64 t1, .int .i64 t2] 23) := ⟨_, rfl⟩
          obtain ⟨gp, hg⟩ : ∃ g, g = wa.heap.size := ⟨_, rfl⟩
          have dp : World.dec W10 gp t1 t2 := by rw [hW]; exact World.dec_new wa _ _ _ hg
          have hB1 : Below wa.heap.size wa W10 := by rw [hW]; exact (Below.refl _ _).alloc (Nat.le_refl _) _
          have lx := dx.lt
          have hk := hk.below hB1 hk.lt
          have hl := hl.below hB1 hl.lt
          have dx := dx.below hB1 dx.lt
          have hB := hB.trans (hB1.mono hB.size)
          have x0 := dx.c0
          have x1 := dx.c1
          rw [hW] at x0 x1
          go_wp2_with fail
          rw [← hW, ← hg]
          clear hB1 x0 x1 lx hW hg
          refine (KR.out _).mono ?_
          rintro e wb ⟨rfl, hB1⟩
          have hk := hk.below hB1 hk.lt
          have hl := hl.below hB1 hl.lt
          have dx := dx.below hB1 dx.lt
          have dp := dp.below hB1 dp.lt
          have hB := hB.trans (hB1.mono hB.size)
          have lp := dp.lt
          have dq : World.dec (wb.alloc (.cells #[.int .i64 t1, .int .i64 t2] 23)) wb.heap.size t1 t2 := World.dec_new wb _ _ _ rfl
          have dp2 := dp.alloc (.cells #[.int .i64 t1, .int .i64 t2] 23)
          have p0 := dp2.c0
          have p1 := dp2.c1
          have r0 := dq.c0
          have r1 := dq.c1
          have hB2 : Below wb.heap.size wb (wb.alloc (.cells #[.int .i64 t1, .int .i64 t2] 23)) := (Below.refl _ _).alloc (Nat.le_refl _) _
          have hk := hk.below hB2 hk.lt
          have hl := hl.below hB2 hl.lt
          have dx := dx.below hB2 dx.lt
          have hB := hB.trans (hB2.mono hB.size)
          clear hB1 hB2
          go_wp2_with fail
          go_roundw
          case rel => exact ⟨0 + 1, by go_num, by decide, hk, hl, dx, hB⟩
          case measure => simp [intOf]
        · obtain ⟨⟨⟨t1, t2⟩, t3⟩, hT⟩ : ∃ T, powD (x) (y) (c2 - 101) = T := ⟨_, rfl⟩
          have CP := fun w => pow_any (x) (y) (c2 - 101) w (by omega) (by omega)
          have CR := fun w => rpow_any (x) (y) (c2 - 101) w (by omega) (by omega)
          rw [hT] at CP CR
          have KP := Lib.hid CP
          have KR := Lib.hid CR
          clear CP CR hT
          go_wp2_with fail
          refine (KP.out _).mono ?_
          rintro e wa ⟨rfl, hB1⟩
          have hk := hk.below hB1 hk.lt
          have hl := hl.below hB1 hl.lt
          have dx := dx.below hB1 dx.lt
          have hB := hB.trans (hB1.mono hB.size)
          clear hB1 q0 q1 q2 x0 x1
          obtain ⟨W10, hW⟩ : ∃ W, W = wa.alloc (.cells #[.int .i64 t1, .int .i64 t2] 23) := ⟨_, rfl⟩
          obtain ⟨gp, hg⟩ : ∃ g, g = wa.heap.size := ⟨_, rfl⟩
          have dp : World.dec W10 gp t1 t2 := by rw [hW]; exact World.dec_new wa _ _ _ hg
          have hB1 : Below wa.heap.size wa W10 := by rw [hW]; exact (Below.refl _ _).alloc (Nat.le_refl _) _
          have lx := dx.lt
          have hk := hk.below hB1 hk.lt
          have hl := hl.below hB1 hl.lt
          have dx := dx.below hB1 dx.lt
          have hB := hB.trans (hB1.mono hB.size)
          have x0 := dx.c0
          have x1 := dx.c1
          rw [hW] at x0 x1
          go_wp2_with fail
          rw [← hW, ← hg]
          clear hB1 x0 x1 lx hW hg
          refine (KR.out _).mono ?_
          rintro e wb ⟨rfl, hB1⟩
          have hk := hk.below hB1 hk.lt
          have hl := hl.below hB1 hl.lt
          have dx := dx.below hB1 dx.lt
          have dp := dp.below hB1 dp.lt
          have hB := hB.trans (hB1.mono hB.size)
          have lp := dp.lt
          have dq : World.dec (wb.alloc (.cells #[.int .i64 t1, .int .i64 t2] 23)) wb.heap.size t1 t2 := World.dec_new wb _ _ _ rfl
          have dp2 := dp.alloc (.cells #[.int .i64 t1, .int .i64 t2] 23)
          have p0 := dp2.c0
          have p1 := dp2.c1
          have r0 := dq.c0
          have r1 := dq.c1
          have hB2 : Below wb.heap.size wb (wb.alloc (.cells #[.int .i64 t1, .int .i64 t2] 23)) := (Below.refl _ _).alloc (Nat.le_refl _) _
          have hk := hk.below hB2 hk.lt
          have hl := hl.below hB2 hl.lt
          have dx := dx.below hB2 dx.lt
          have hB := hB.trans (hB2.mono hB.size)
          clear hB1 hB2
          go_wp2_with fail
          go_roundw
          case rel => exact ⟨1 + 1, by go_num, by decide, hk, hl, dx, hB⟩
          case measure => simp [intOf]
        · obtain ⟨⟨⟨t1, t2⟩, t3⟩, hT⟩ : ∃ T, powD (x) (y) (c3 - 6) = T := ⟨_, rfl⟩
          have CP := fun w => pow_any (x) (y) (c3 - 6) w (by omega) (by omega)
          have CR := fun w => rpow_any (x) (y) (c3 - 6) w (by omega) (by omega)
          rw [hT] at CP CR
          have KP := Lib.hid CP
          have KR := Lib.hid CR
          clear CP CR hT
          go_wp2_with fail
          refine (KP.out _).mono ?_
          rintro e wa ⟨rfl, hB1⟩
          have hk := hk.below hB1 hk.lt
          have hl := hl.below hB1 hl.lt
          have dx := dx.below hB1 dx.lt
          have hB := hB.trans (hB1.mono hB.size)
          clear hB1 q0 q1 q2 x0 x1
          obtain ⟨W10, hW⟩ : ∃ W, W = wa.alloc (.cells #[.int .i64 t1, .int .i64 t2] 23) := ⟨_, rfl⟩
          obtain ⟨gp, hg⟩ : ∃ g, g = wa.heap.size := ⟨_, rfl⟩
          have dp : World.dec W10 gp t1 t2 := by rw [hW]; exact World.dec_new wa _ _ _ hg
          have hB1 : Below wa.heap.size wa W10 := by rw [hW]; exact (Below.refl _ _).alloc (Nat.le_refl _) _
          have lx := dx.lt
          have hk := hk.below hB1 hk.lt
          have hl := hl.below hB1 hl.lt
          have dx := dx.below hB1 dx.lt
          have hB := hB.trans (hB1.mono hB.size)
          have x0 := dx.c0
          have x1 := dx.c1
          rw [hW] at x0 x1
          go_wp2_with fail
          rw [← hW, ← hg]
          clear hB1 x0 x1 lx hW hg
          refine (KR.out _).mono ?_
          rintro e wb ⟨rfl, hB1⟩
          have hk := hk.below hB1 hk.lt
          have hl := hl.below hB1 hl.lt
          have dx := dx.below hB1 dx.lt
          have dp := dp.below hB1 dp.lt
          have hB := hB.trans (hB1.mono hB.size)
          have lp := dp.lt
          have dq : World.dec (wb.alloc (.cells #[.int .i64 t1, .int .i64 t2] 23)) wb.heap.size t1 t2 := World.dec_new wb _ _ _ rfl
          have dp2 := dp.alloc (.cells #[.int .i64 t1, .int .i64 t2] 23)
          have p0 := dp2.c0
          have p1 := dp2.c1
          have r0 := dq.c0
          have r1 := dq.c1
          have hB2 : Below wb.heap.size wb (wb.alloc (.cells #[.int .i64 t1, .int .i64 t2] 23)) := (Below.refl _ _).alloc (Nat.le_refl _) _
          have hk := hk.below hB2 hk.lt
          have hl := hl.below hB2 hl.lt
          have dx := dx.below hB2 dx.lt
          have hB := hB.trans (hB2.mono hB.size)
          clear hB1 hB2
          go_wp2_with fail
          go_roundw
          case rel => exact ⟨2 + 1, by go_num, by decide, hk, hl, dx, hB⟩
          case measure => simp [intOf]
    · go_wp2_with fail
      have lw := hl.lt
      obtain ⟨W6, hW⟩ : ∃ W, W = wr.alloc (.cells #[.int .i64 7, .int .i64 0] 23) := ⟨_, rfl⟩
      rw [← hW]
      obtain ⟨gx, hg⟩ : ∃ g, g = wr.heap.size := ⟨_, rfl⟩
      rw [← hg]
      have dx : World.dec W6 gx (7) (0) := by rw [hW]; exact World.dec_new wr _ _ _ hg
      have hB1 : Below wr.heap.size wr W6 := by rw [hW]; exact (Below.refl _ _).alloc (Nat.le_refl _) _
      have hl := hl.below hB1 lw
      have hB := hB.trans (hB1.mono hB.size)
      clear hW hg lw hB1 q0 q1 q2 q3 q4 q5
      refine (K2.out _).mono ?_
      rintro e w7 ⟨rfl, rfl⟩
      go_wp2_with fail
      refine (K3.out _).mono ?_
      rintro e w8 ⟨rfl, rfl⟩
      go_wp2_with fail
      obtain ⟨W9, hW⟩ : ∃ W, W = w8.alloc (.cells #[.int .i64 n, .int .i64 (c2 - 101), .int .i64 (c3 - 6)] 3) := ⟨_, rfl⟩
      rw [← hW]
      obtain ⟨gk, hg⟩ : ∃ g, g = w8.heap.size := ⟨_, rfl⟩
      rw [← hg]
      have hk : World.blk W9 gk #[.int .i64 n, .int .i64 (c2 - 101), .int .i64 (c3 - 6)] 3 := by rw [hW]; exact World.blk_new w8 _ _ _ hg
      have hB1 : Below w8.heap.size w8 W9 := by rw [hW]; exact (Below.refl _ _).alloc (Nat.le_refl _) _
      have hl := hl.below hB1 hl.lt
      have dx := dx.below hB1 dx.lt
      have hB := hB.trans (hB1.mono hB.size)
      clear hW hg hB1
      go_loopw [47] (fun j wr => ∃ J : Nat, j = .int .i64 (J : Int) ∧ J ≤ 3 ∧ World.blk wr gk #[.int .i64 n, .int .i64 (c2 - 101), .int .i64 (c3 - 6)] 3 ∧ World.blk wr gl #[.int .i64 A1, .int .i64 A2, .int .i64 x, .int .i64 y, .int .i64 7, .int .i64 0] 23 ∧ World.dec wr gx (7) (0) ∧ Below w.heap.size w wr) (fun j _ => (3 - intOf j).toNat)
      case atStart => exact ⟨0, rfl, by decide, hk, hl, dx, hB⟩
      case round =>
        obtain ⟨J, rfl, j3, hk, hl, dx, hB⟩ := hrel
        have q0 := hk.cell 0 _ rfl
        have q1 := hk.cell 1 _ rfl
        have q2 := hk.cell 2 _ rfl
        have x0 := dx.c0
        have x1 := dx.c1
        rcases (by omega : J = 3 ∨ J = 0 ∨ J = 1 ∨ J = 2) with rfl | rfl | rfl | rfl
        · go_wp2_with fail
          go_roundw
          case rel => exact ⟨2 + 1, by go_num, by decide, hl, hB⟩
          case measure => simp [intOf]
        · obtain ⟨⟨⟨t1, t2⟩, t3⟩, hT⟩ : ∃ T, powD (7) (0) n = T := ⟨_, rfl⟩
          have CP := fun w => pow_any (7) (0) n w (by omega) (by omega)
          have CR := fun w => rpow_any (7) (0) n w (by omega) (by omega)
          rw [hT] at CP CR
          have KP := Lib.hid CP
          have KR := Lib.hid CR
          clear CP CR hT
          go_wp2_with fail
          refine (KP.out _).mono ?_
          rintro e wa ⟨rfl, hB1⟩
          have hk := hk.below hB1 hk.lt
          have hl := hl.below hB1 hl.lt
          have dx := dx.below hB1 dx.lt
          have hB := hB.trans (hB1.mono hB.size)
          clear hB1 q0 q1 q2 x0 x1
          obtain ⟨W10, hW⟩ : ∃ W, W = wa.alloc (.cells #[.int .i64 t1, .int .i64 t2] 23) := ⟨_, rfl⟩
          obtain ⟨gp, hg⟩ : ∃ g, g = wa.heap.size := ⟨_, rfl⟩
          have dp : World.dec W10 gp t1 t2 := by rw [hW]; exact World.dec_new wa _ _ _ hg
          have hB1 : Below wa.heap.size wa W10 := by rw [hW]; exact (Below.refl _ _).alloc (Nat.le_refl _) _
          have lx := dx.lt
          have hk := hk.below hB1 hk.lt
          have hl := hl.below hB1 hl.lt
          have dx := dx.below hB1 dx.lt
          have hB := hB.trans (hB1.mono hB.size)
          have x0 := dx.c0
          have x1 := dx.c1
          rw [hW] at x0 x1
          go_wp2_with fail
          rw [← hW, ← hg]
          clear hB1 x0 x1 lx hW hg
          refine (KR.out _).mono ?_
          rintro e wb ⟨rfl, hB1⟩
          have hk := hk.below hB1 hk.lt
          have hl := hl.below hB1 hl.lt
          have dx := dx.below hB1 dx.lt
          have dp := dp.below hB1 dp.lt
          have hB := hB.trans (hB1.mono hB.size)
          have lp := dp.lt
          have dq : World.dec (wb.alloc (.cells #[.int .i64 t1, .int .i64 t2] 23)) wb.heap.size t1 t2 := World.dec_new wb _ _ _ rfl
          have dp2 := dp.alloc (.cells #[.int .i64 t1, .int .i64 t2] 23)
          have p0 := dp2.c0
          have p1 := dp2.c1
          have r0 := dq.c0
          have r1 := dq.c1
          have hB2 : Below wb.heap.size wb (wb.alloc (.cells #[.int .i64 t1, .int .i64 t2] 23)) := (Below.refl _ _).alloc (Nat.le_refl _) _
          have hk := hk.below hB2 hk.lt
          have hl := hl.below hB2 hl.lt
          have dx := dx.below hB2 dx.lt
          have hB := hB.trans (hB2.mono hB.size)
          clear hB1 hB2
          go_wp2_with fail
          go_roundw
          case rel => exact ⟨0 + 1, by go_num, by decide, hk, hl, dx, hB⟩
          case measure => simp [intOf]
        · obtain ⟨⟨⟨t1, t2⟩, t3⟩, hT⟩ : ∃ T, powD (7) (0) (c2 - 101) = T := ⟨_, rfl⟩
          have CP := fun w => pow_any (7) (0) (c2 - 101) w (by omega) (by omega)
          have CR := fun w => rpow_any (7) (0) (c2 - 101) w (by omega) (by omega)
          rw [hT] at CP CR
          have KP := Lib.hid CP
          have KR := Lib.hid CR
          clear CP CR hT
          go_wp2_with fail
          refine (KP.out _).mono ?_
          rintro e wa ⟨rfl, hB1⟩
          have hk := hk.below hB1 hk.lt
          have hl := hl.below hB1 hl.lt
          have dx := dx.below hB1 dx.lt
          have hB := hB.trans (hB1.mono hB.size)
          clear hB1 q0 q1 q2 x0 x1
          obtain ⟨W10, hW⟩ : ∃ W, W = wa.alloc (.cells #[.int .i64 t1, .int .i64 t2] 23) := ⟨_, rfl⟩
          obtain ⟨gp, hg⟩ : ∃ g, g = wa.heap.size := ⟨_, rfl⟩
          have dp : World.dec W10 gp t1 t2 := by rw [hW]; exact World.dec_new wa _ _ _ hg
          have hB1 : Below wa.heap.size wa W10 := by rw [hW]; exact (Below.refl _ _).alloc (Nat.le_refl _) _
          have lx := dx.lt
          have hk := hk.below hB1 hk.lt
          have hl := hl.below hB1 hl.lt
          have dx := dx.below hB1 dx.lt
          have hB := hB.trans (hB1.mono hB.size)
          have x0 := dx.c0
          have x1 := dx.c1
          rw [hW] at x0 x1
          go_wp2_with fail
          rw [← hW, ← hg]
          clear hB1 x0 x1 lx hW hg
          refine (KR.out _).mono ?_
          rintro e wb ⟨rfl, hB1⟩
          have hk := hk.below hB1 hk.lt
          have hl := hl.below hB1 hl.lt
          have dx := dx.below hB1 dx.lt
          have dp := dp.below hB1 dp.lt
          have hB := hB.trans (hB1.mono hB.size)
          have lp := dp.lt
          have dq : World.dec (wb.alloc (.cells #[.int .i64 t1, .int .i64 t2] 23)) wb.heap.size t1 t2 := World.dec_new wb _ _ _ rfl
          have dp2 := dp.alloc (.cells #[.int .i64 t1, .int .i64 t2] 23)
          have p0 := dp2.c0
          have p1 := dp2.c1
          have r0 := dq.c0
          have r1 := dq.c1
          have hB2 : Below wb.heap.size wb (wb.alloc (.cells #[.int .i64 t1, .int .i64 t2] 23)) := (Below.refl _ _).alloc (Nat.le_refl _) _
          have hk := hk.below hB2 hk.lt
          have hl := hl.below hB2 hl.lt
          have dx := dx.below hB2 dx.lt
          have hB := hB.trans (hB2.mono hB.size)
          clear hB1 hB2
          go_wp2_with fail
          go_roundw
          case rel => exact ⟨1 + 1, by go_num, by decide, hk, hl, dx, hB⟩
          case measure => simp [intOf]
        · obtain ⟨⟨⟨t1, t2⟩, t3⟩, hT⟩ : ∃ T, powD (7) (0) (c3 - 6) = T := ⟨_, rfl⟩
          have CP := fun w => pow_any (7) (0) (c3 - 6) w (by omega) (by omega)
          have CR := fun w => rpow_any (7) (0) (c3 - 6) w (by omega) (by omega)
          rw [hT] at CP CR
          have KP := Lib.hid CP
          have KR := Lib.hid CR
          clear CP CR hT
          go_wp2_with fail
          refine (KP.out _).mono ?_
          rintro e wa ⟨rfl, hB1⟩
          have hk := hk.below hB1 hk.lt
          have hl := hl.below hB1 hl.lt
          have dx := dx.below hB1 dx.lt
          have hB := hB.trans (hB1.mono hB.size)
          clear hB1 q0 q1 q2 x0 x1
          obtain ⟨W10, hW⟩ : ∃ W, W = wa.alloc (.cells #[.int .i64 t1, .int .i64 t2] 23) := ⟨_, rfl⟩
          obtain ⟨gp, hg⟩ : ∃ g, g = wa.heap.size := ⟨_, rfl⟩
          have dp : World.dec W10 gp t1 t2 := by rw [hW]; exact World.dec_new wa _ _ _ hg
          have hB1 : Below wa.heap.size wa W10 := by rw [hW]; exact (Below.refl _ _).alloc (Nat.le_refl _) _
          have lx := dx.lt
          have hk := hk.below hB1 hk.lt
          have hl := hl.below hB1 hl.lt
          have dx := dx.below hB1 dx.lt
          have hB := hB.trans (hB1.mono hB.size)
          have x0 := dx.c0
          have x1 := dx.c1
          rw [hW] at x0 x1
          go_wp2_with fail
          rw [← hW, ← hg]
          clear hB1 x0 x1 lx hW hg
          refine (KR.out _).mono ?_
          rintro e wb ⟨rfl, hB1⟩
          have hk := hk.below hB1 hk.lt
          have hl := hl.below hB1 hl.lt
          have dx := dx.below hB1 dx.lt
          have dp := dp.below hB1 dp.lt
          have hB := hB.trans (hB1.mono hB.size)
          have lp := dp.lt
          have dq : World.dec (wb.alloc (.cells #[.int .i64 t1, .int .i64 t2] 23)) wb.heap.size t1 t2 := World.dec_new wb _ _ _ rfl
          have dp2 := dp.alloc (.cells #[.int .i64 t1, .int .i64 t2] 23)
          have p0 := dp2.c0
          have p1 := dp2.c1
          have r0 := dq.c0
          have r1 := dq.c1
          have hB2 : Below wb.heap.size wb (wb.alloc (.cells #[.int .i64 t1, .int .i64 t2] 23)) := (Below.refl _ _).alloc (Nat.le_refl _) _
          have hk := hk.below hB2 hk.lt
          have hl := hl.below hB2 hl.lt
          have dx := dx.below hB2 dx.lt
          have hB := hB.trans (hB2.mono hB.size)
          clear hB1 hB2
          go_wp2_with fail
          go_roundw
          case rel => exact ⟨2 + 1, by go_num, by decide, hk, hl, dx, hB⟩
          case measure => simp [intOf]
set_option maxRecDepth 100000 in
set_option maxHeartbeats 16000000 in
theorem powers_self (A1 A2 n : Int) (w : World) (hm : Shp w) (hA10 : -9223372036854775808 ≤ A1) (hA11 : A1 ≤ 9223372036854775807) (hA20 : -9223372036854775808 ≤ A2) (hA21 : A2 ≤ 9223372036854775807) (hn0 : -9223372036854775808 ≤ n) (hn1 : n ≤ 9223372036854775807) (ht : ¬ (pickI A1 41 - 20).tmod 10 = 0) :
    Calls Tryd.prog 4 #[.agg #[.int .i64 A1, .int .i64 A2], .int .i64 n] w fun e w' => e = .returned (.bool true) ∧ Below w.heap.size w w' := by
  have CA := fun w => made_any A1 A2 w hA10 hA11 hA20 hA21
  have hR := madeP_right A1 A2
  obtain ⟨⟨x, y⟩, hP⟩ : ∃ p, madeP A1 A2 = p := ⟨_, rfl⟩
  rw [hP] at CA hR
  obtain ⟨x0, x1, y0, y1, _⟩ := hR
  simp only at x0 x1 y0 y1
  have C1 := fun w => pick_any A1 41 w hA10 hA11 (by decide) (by decide)
  have C2 := fun w => pick_any n 203 w hn0 hn1 (by decide) (by decide)
  have C3 := fun w => pick_any n 13 w hn0 hn1 (by decide) (by decide)
  have s1 := pickI_bd A1 (n := 41) (by decide)
  have s2 := pickI_bd n (n := 203) (by decide)
  have s3 := pickI_bd n (n := 13) (by decide)
  obtain ⟨c1, h1⟩ : ∃ c, pickI A1 41 = c := ⟨_, rfl⟩
  obtain ⟨c2, h2⟩ : ∃ c, pickI n 203 = c := ⟨_, rfl⟩
  obtain ⟨c3, h3⟩ : ∃ c, pickI n 13 = c := ⟨_, rfl⟩
  rw [h1] at C1 s1 ht
  rw [h2] at C2 s2
  rw [h3] at C3 s3
  have KA := Lib.hid CA
  have K1 := Lib.hid C1
  have K2 := Lib.hid C2
  have K3 := Lib.hid C3
  clear CA C1 C2 C3 hP h1 h2 h3
  obtain ⟨s10, s11⟩ := s1
  obtain ⟨s20, s21⟩ := s2
  obtain ⟨s30, s31⟩ := s3
  have hw1 : IntKind.i64.wrap (c1 - 20) = c1 - 20 := IntWalk.i64_in _ (by omega)
  have hw2 : IntKind.i64.wrap (c2 - 101) = c2 - 101 := IntWalk.i64_in _ (by omega)
  have hw3 : IntKind.i64.wrap (c3 - 6) = c3 - 6 := IntWalk.i64_in _ (by omega)
  go_enter Tryd.func4, Tryd.ntmps4
  go_wp2_with fail
  obtain ⟨W, hW⟩ : ∃ W, W = w.alloc (.cells #[.int .i64 A1, .int .i64 A2] 23) := ⟨_, rfl⟩
  rw [← hW]
  have d0 : World.dec W w.heap.size A1 A2 := by rw [hW]; exact World.dec_new w A1 A2 _ rfl
  have hB : Below w.heap.size w W := by rw [hW]; exact (Below.refl _ w).alloc (Nat.le_refl _) _
  have hsz := hB.size
  clear hW
  refine (examples_any _ (hm.below hB)).mono ?_
  rintro e w1 ⟨rfl, hB1⟩
  have d0 := d0.below hB1 d0.lt
  have hB := hB.trans (hB1.mono hB.size)
  have hsz := hB.size
  clear hB1
  have a0 := d0.c0
  have a1 := d0.c1
  go_wp2_with fail
  refine (K1.out _).mono ?_
  rintro e w2 ⟨rfl, rfl⟩
  have l0 := d0.lt
  obtain ⟨s, hs⟩ : ∃ s, c1 - 20 = s := ⟨_, rfl⟩
  rw [hs] at hw1 ht
  have hsb : -20 ≤ s ∧ s ≤ 20 := by omega
  obtain ⟨hs0, hs1⟩ := hsb
  have HS := Lib.hid hs
  have htb : (s.tmod 10 == 0) = false := by simpa using ht
  clear ht
  go_wp2_with fail
  obtain ⟨W3, hW⟩ : ∃ W, W = w2.alloc (.cells #[.int .i64 s, .int .i64 0] 23) := ⟨_, rfl⟩
  rw [← hW]
  obtain ⟨gs, hg⟩ : ∃ g, g = w2.heap.size := ⟨_, rfl⟩
  rw [← hg]
  have d6 : World.dec W3 gs s 0 := by rw [hW]; exact World.dec_new w2 _ _ _ hg
  have d0 : World.dec W3 w.heap.size A1 A2 := by rw [hW]; exact d0.alloc _
  have hB : Below w.heap.size w W3 := by rw [hW]; exact hB.alloc hB.size _
  clear hW hg l0 a0 a1 htb hw1
  have d0 := d0.drew
  have d6 := d6.drew
  have hB := hB.drew
  have hsz := hB.size
  have a0 := d0.c0
  have a1 := d0.c1
  have b0 := d6.c0
  have b1 := d6.c1
  go_region_held3 (fun w' => w'.cell? ⟨w.heap.size, 0, none⟩ = some (.int .i64 A1) ∧ w'.cell? ⟨w.heap.size, 1, none⟩ = some (.int .i64 A2) ∧ w'.cell? ⟨gs, 0, none⟩ = some (.int .i64 s) ∧ w'.cell? ⟨gs, 1, none⟩ = some (.int .i64 0))
    (first | exact ⟨a0, a1, b0, b1⟩ | exact ⟨(d0.alloc _).c0, (d0.alloc _).c1, (d6.alloc _).c0, (d6.alloc _).c1⟩)
    (first | (go_at_call 18; refine (KA.out _).mono ?_; rintro e w4 ⟨rfl, hB1⟩; have d0 := d0.below hB1 d0.lt; have d6 := d6.below hB1 d6.lt; have hB := hB.trans (hB1.mono hB.size); have hsz := hB.size; have a0 := d0.c0; have a1 := d0.c1; have b0 := d6.c0; have b1 := d6.c1) | fail)
  go_wp2_with fail
  obtain ⟨W5, hW⟩ : ∃ W, W = w4.alloc (.cells #[.int .i64 A1, .int .i64 A2, .int .i64 x, .int .i64 y, .int .i64 s, .int .i64 0] 23) := ⟨_, rfl⟩
  rw [← hW]
  obtain ⟨gl, hg⟩ : ∃ g, g = w4.heap.size := ⟨_, rfl⟩
  rw [← hg]
  have hl : World.blk W5 gl #[.int .i64 A1, .int .i64 A2, .int .i64 x, .int .i64 y, .int .i64 s, .int .i64 0] 23 := by rw [hW]; exact World.blk_new w4 _ _ _ hg
  have hB : Below w.heap.size w W5 := by rw [hW]; exact hB.alloc hB.size _
  clear hW hg d0 d6 a0 a1 b0 b1
  go_loopw [34] (fun i wr => ∃ K : Nat, i = .int .i64 (K : Int) ∧ K ≤ 3 ∧ World.blk wr gl #[.int .i64 A1, .int .i64 A2, .int .i64 x, .int .i64 y, .int .i64 s, .int .i64 0] 23 ∧ Below w.heap.size w wr) (fun i _ => (3 - intOf i).toNat)
  case atStart => exact ⟨0, rfl, by decide, hl, hB⟩
  case round =>
    obtain ⟨K, rfl, k3, hl, hB⟩ := hrel
    have q0 := hl.cell 0 _ rfl
    have q1 := hl.cell 1 _ rfl
    have q2 := hl.cell 2 _ rfl
    have q3 := hl.cell 3 _ rfl
    have q4 := hl.cell 4 _ rfl
    have q5 := hl.cell 5 _ rfl
    rcases (by omega : K = 3 ∨ K = 0 ∨ K = 1 ∨ K = 2) with rfl | rfl | rfl | rfl
    · go_wp2_with fail
      go_ret
      exact ⟨rfl, hB⟩
    · go_wp2_with fail
      have lw := hl.lt
      obtain ⟨W6, hW⟩ : ∃ W, W = wr.alloc (.cells #[.int .i64 A1, .int .i64 A2] 23) := ⟨_, rfl⟩
      rw [← hW]
      obtain ⟨gx, hg⟩ : ∃ g, g = wr.heap.size := ⟨_, rfl⟩
      rw [← hg]
      have dx : World.dec W6 gx (A1) (A2) := by rw [hW]; exact World.dec_new wr _ _ _ hg
      have hB1 : Below wr.heap.size wr W6 := by rw [hW]; exact (Below.refl _ _).alloc (Nat.le_refl _) _
      have hl := hl.below hB1 lw
      have hB := hB.trans (hB1.mono hB.size)
      clear hW hg lw hB1 q0 q1 q2 q3 q4 q5
      refine (K2.out _).mono ?_
      rintro e w7 ⟨rfl, rfl⟩
      go_wp2_with fail
      refine (K3.out _).mono ?_
      rintro e w8 ⟨rfl, rfl⟩
      go_wp2_with fail
      obtain ⟨W9, hW⟩ : ∃ W, W = w8.alloc (.cells #[.int .i64 n, .int .i64 (c2 - 101), .int .i64 (c3 - 6)] 3) := ⟨_, rfl⟩
      rw [← hW]
      obtain ⟨gk, hg⟩ : ∃ g, g = w8.heap.size := ⟨_, rfl⟩
      rw [← hg]
      have hk : World.blk W9 gk #[.int .i64 n, .int .i64 (c2 - 101), .int .i64 (c3 - 6)] 3 := by rw [hW]; exact World.blk_new w8 _ _ _ hg
      have hB1 : Below w8.heap.size w8 W9 := by rw [hW]; exact (Below.refl _ _).alloc (Nat.le_refl _) _
      have hl := hl.below hB1 hl.lt
      have dx := dx.below hB1 dx.lt
      have hB := hB.trans (hB1.mono hB.size)
      clear hW hg hB1
      go_loopw [47] (fun j wr => ∃ J : Nat, j = .int .i64 (J : Int) ∧ J ≤ 3 ∧ World.blk wr gk #[.int .i64 n, .int .i64 (c2 - 101), .int .i64 (c3 - 6)] 3 ∧ World.blk wr gl #[.int .i64 A1, .int .i64 A2, .int .i64 x, .int .i64 y, .int .i64 s, .int .i64 0] 23 ∧ World.dec wr gx (A1) (A2) ∧ Below w.heap.size w wr) (fun j _ => (3 - intOf j).toNat)
      case atStart => exact ⟨0, rfl, by decide, hk, hl, dx, hB⟩
      case round =>
        obtain ⟨J, rfl, j3, hk, hl, dx, hB⟩ := hrel
        have q0 := hk.cell 0 _ rfl
        have q1 := hk.cell 1 _ rfl
        have q2 := hk.cell 2 _ rfl
        have x0 := dx.c0
        have x1 := dx.c1
        rcases (by omega : J = 3 ∨ J = 0 ∨ J = 1 ∨ J = 2) with rfl | rfl | rfl | rfl
        · go_wp2_with fail
          go_roundw
          case rel => exact ⟨0 + 1, by go_num, by decide, hl, hB⟩
          case measure => simp [intOf]
        · obtain ⟨⟨⟨t1, t2⟩, t3⟩, hT⟩ : ∃ T, powD (A1) (A2) n = T := ⟨_, rfl⟩
          have CP := fun w => pow_any (A1) (A2) n w (by omega) (by omega)
          have CR := fun w => rpow_any (A1) (A2) n w (by omega) (by omega)
          rw [hT] at CP CR
          have KP := Lib.hid CP
          have KR := Lib.hid CR
          clear CP CR hT
          go_wp2_with fail
          refine (KP.out _).mono ?_
          rintro e wa ⟨rfl, hB1⟩
          have hk := hk.below hB1 hk.lt
          have hl := hl.below hB1 hl.lt
          have dx := dx.below hB1 dx.lt
          have hB := hB.trans (hB1.mono hB.size)
          clear hB1 q0 q1 q2 x0 x1
          obtain ⟨W10, hW⟩ : ∃ W, W = wa.alloc (.cells #[.int .i64 t1, .int .i64 t2] 23) := ⟨_, rfl⟩
          obtain ⟨gp, hg⟩ : ∃ g, g = wa.heap.size := ⟨_, rfl⟩
          have dp : World.dec W10 gp t1 t2 := by rw [hW]; exact World.dec_new wa _ _ _ hg
          have hB1 : Below wa.heap.size wa W10 := by rw [hW]; exact (Below.refl _ _).alloc (Nat.le_refl _) _
          have lx := dx.lt
          have hk := hk.below hB1 hk.lt
          have hl := hl.below hB1 hl.lt
          have dx := dx.below hB1 dx.lt
          have hB := hB.trans (hB1.mono hB.size)
          have x0 := dx.c0
          have x1 := dx.c1
          rw [hW] at x0 x1
          go_wp2_with fail
          rw [← hW, ← hg]
          clear hB1 x0 x1 lx hW hg
          refine (KR.out _).mono ?_
          rintro e wb ⟨rfl, hB1⟩
          have hk := hk.below hB1 hk.lt
          have hl := hl.below hB1 hl.lt
          have dx := dx.below hB1 dx.lt
          have dp := dp.below hB1 dp.lt
          have hB := hB.trans (hB1.mono hB.size)
          have lp := dp.lt
          have dq : World.dec (wb.alloc (.cells #[.int .i64 t1, .int .i64 t2] 23)) wb.heap.size t1 t2 := World.dec_new wb _ _ _ rfl
          have dp2 := dp.alloc (.cells #[.int .i64 t1, .int .i64 t2] 23)
          have p0 := dp2.c0
          have p1 := dp2.c1
          have r0 := dq.c0
          have r1 := dq.c1
          have hB2 : Below wb.heap.size wb (wb.alloc (.cells #[.int .i64 t1, .int .i64 t2] 23)) := (Below.refl _ _).alloc (Nat.le_refl _) _
          have hk := hk.below hB2 hk.lt
          have hl := hl.below hB2 hl.lt
          have dx := dx.below hB2 dx.lt
          have hB := hB.trans (hB2.mono hB.size)
          clear hB1 hB2
          go_wp2_with fail
          go_roundw
          case rel => exact ⟨0 + 1, by go_num, by decide, hk, hl, dx, hB⟩
          case measure => simp [intOf]
        · obtain ⟨⟨⟨t1, t2⟩, t3⟩, hT⟩ : ∃ T, powD (A1) (A2) (c2 - 101) = T := ⟨_, rfl⟩
          have CP := fun w => pow_any (A1) (A2) (c2 - 101) w (by omega) (by omega)
          have CR := fun w => rpow_any (A1) (A2) (c2 - 101) w (by omega) (by omega)
          rw [hT] at CP CR
          have KP := Lib.hid CP
          have KR := Lib.hid CR
          clear CP CR hT
          go_wp2_with fail
          refine (KP.out _).mono ?_
          rintro e wa ⟨rfl, hB1⟩
          have hk := hk.below hB1 hk.lt
          have hl := hl.below hB1 hl.lt
          have dx := dx.below hB1 dx.lt
          have hB := hB.trans (hB1.mono hB.size)
          clear hB1 q0 q1 q2 x0 x1
          obtain ⟨W10, hW⟩ : ∃ W, W = wa.alloc (.cells #[.int .i64 t1, .int .i64 t2] 23) := ⟨_, rfl⟩
          obtain ⟨gp, hg⟩ : ∃ g, g = wa.heap.size := ⟨_, rfl⟩
          have dp : World.dec W10 gp t1 t2 := by rw [hW]; exact World.dec_new wa _ _ _ hg
          have hB1 : Below wa.heap.size wa W10 := by rw [hW]; exact (Below.refl _ _).alloc (Nat.le_refl _) _
          have lx := dx.lt
          have hk := hk.below hB1 hk.lt
          have hl := hl.below hB1 hl.lt
          have dx := dx.below hB1 dx.lt
          have hB := hB.trans (hB1.mono hB.size)
          have x0 := dx.c0
          have x1 := dx.c1
          rw [hW] at x0 x1
          go_wp2_with fail
          rw [← hW, ← hg]
          clear hB1 x0 x1 lx hW hg
          refine (KR.out _).mono ?_
          rintro e wb ⟨rfl, hB1⟩
          have hk := hk.below hB1 hk.lt
          have hl := hl.below hB1 hl.lt
          have dx := dx.below hB1 dx.lt
          have dp := dp.below hB1 dp.lt
          have hB := hB.trans (hB1.mono hB.size)
          have lp := dp.lt
          have dq : World.dec (wb.alloc (.cells #[.int .i64 t1, .int .i64 t2] 23)) wb.heap.size t1 t2 := World.dec_new wb _ _ _ rfl
          have dp2 := dp.alloc (.cells #[.int .i64 t1, .int .i64 t2] 23)
          have p0 := dp2.c0
          have p1 := dp2.c1
          have r0 := dq.c0
          have r1 := dq.c1
          have hB2 : Below wb.heap.size wb (wb.alloc (.cells #[.int .i64 t1, .int .i64 t2] 23)) := (Below.refl _ _).alloc (Nat.le_refl _) _
          have hk := hk.below hB2 hk.lt
          have hl := hl.below hB2 hl.lt
          have dx := dx.below hB2 dx.lt
          have hB := hB.trans (hB2.mono hB.size)
          clear hB1 hB2
          go_wp2_with fail
          go_roundw
          case rel => exact ⟨1 + 1, by go_num, by decide, hk, hl, dx, hB⟩
          case measure => simp [intOf]
        · obtain ⟨⟨⟨t1, t2⟩, t3⟩, hT⟩ : ∃ T, powD (A1) (A2) (c3 - 6) = T := ⟨_, rfl⟩
          have CP := fun w => pow_any (A1) (A2) (c3 - 6) w (by omega) (by omega)
          have CR := fun w => rpow_any (A1) (A2) (c3 - 6) w (by omega) (by omega)
          rw [hT] at CP CR
          have KP := Lib.hid CP
          have KR := Lib.hid CR
          clear CP CR hT
          go_wp2_with fail
          refine (KP.out _).mono ?_
          rintro e wa ⟨rfl, hB1⟩
          have hk := hk.below hB1 hk.lt
          have hl := hl.below hB1 hl.lt
          have dx := dx.below hB1 dx.lt
          have hB := hB.trans (hB1.mono hB.size)
          clear hB1 q0 q1 q2 x0 x1
          obtain ⟨W10, hW⟩ : ∃ W, W = wa.alloc (.cells #[.int .i64 t1, .int .i64 t2] 23) := ⟨_, rfl⟩
          obtain ⟨gp, hg⟩ : ∃ g, g = wa.heap.size := ⟨_, rfl⟩
          have dp : World.dec W10 gp t1 t2 := by rw [hW]; exact World.dec_new wa _ _ _ hg
          have hB1 : Below wa.heap.size wa W10 := by rw [hW]; exact (Below.refl _ _).alloc (Nat.le_refl _) _
          have lx := dx.lt
          have hk := hk.below hB1 hk.lt
          have hl := hl.below hB1 hl.lt
          have dx := dx.below hB1 dx.lt
          have hB := hB.trans (hB1.mono hB.size)
          have x0 := dx.c0
          have x1 := dx.c1
          rw [hW] at x0 x1
          go_wp2_with fail
          rw [← hW, ← hg]
          clear hB1 x0 x1 lx hW hg
          refine (KR.out _).mono ?_
          rintro e wb ⟨rfl, hB1⟩
          have hk := hk.below hB1 hk.lt
          have hl := hl.below hB1 hl.lt
          have dx := dx.below hB1 dx.lt
          have dp := dp.below hB1 dp.lt
          have hB := hB.trans (hB1.mono hB.size)
          have lp := dp.lt
          have dq : World.dec (wb.alloc (.cells #[.int .i64 t1, .int .i64 t2] 23)) wb.heap.size t1 t2 := World.dec_new wb _ _ _ rfl
          have dp2 := dp.alloc (.cells #[.int .i64 t1, .int .i64 t2] 23)
          have p0 := dp2.c0
          have p1 := dp2.c1
          have r0 := dq.c0
          have r1 := dq.c1
          have hB2 : Below wb.heap.size wb (wb.alloc (.cells #[.int .i64 t1, .int .i64 t2] 23)) := (Below.refl _ _).alloc (Nat.le_refl _) _
          have hk := hk.below hB2 hk.lt
          have hl := hl.below hB2 hl.lt
          have dx := dx.below hB2 dx.lt
          have hB := hB.trans (hB2.mono hB.size)
          clear hB1 hB2
          go_wp2_with fail
          go_roundw
          case rel => exact ⟨2 + 1, by go_num, by decide, hk, hl, dx, hB⟩
          case measure => simp [intOf]
    · go_wp2_with fail
      have lw := hl.lt
      obtain ⟨W6, hW⟩ : ∃ W, W = wr.alloc (.cells #[.int .i64 x, .int .i64 y] 23) := ⟨_, rfl⟩
      rw [← hW]
      obtain ⟨gx, hg⟩ : ∃ g, g = wr.heap.size := ⟨_, rfl⟩
      rw [← hg]
      have dx : World.dec W6 gx (x) (y) := by rw [hW]; exact World.dec_new wr _ _ _ hg
      have hB1 : Below wr.heap.size wr W6 := by rw [hW]; exact (Below.refl _ _).alloc (Nat.le_refl _) _
      have hl := hl.below hB1 lw
      have hB := hB.trans (hB1.mono hB.size)
      clear hW hg lw hB1 q0 q1 q2 q3 q4 q5
      refine (K2.out _).mono ?_
      rintro e w7 ⟨rfl, rfl⟩
      go_wp2_with fail
      refine (K3.out _).mono ?_
      rintro e w8 ⟨rfl, rfl⟩
      go_wp2_with fail
      obtain ⟨W9, hW⟩ : ∃ W, W = w8.alloc (.cells #[.int .i64 n, .int .i64 (c2 - 101), .int .i64 (c3 - 6)] 3) := ⟨_, rfl⟩
      rw [← hW]
      obtain ⟨gk, hg⟩ : ∃ g, g = w8.heap.size := ⟨_, rfl⟩
      rw [← hg]
      have hk : World.blk W9 gk #[.int .i64 n, .int .i64 (c2 - 101), .int .i64 (c3 - 6)] 3 := by rw [hW]; exact World.blk_new w8 _ _ _ hg
      have hB1 : Below w8.heap.size w8 W9 := by rw [hW]; exact (Below.refl _ _).alloc (Nat.le_refl _) _
      have hl := hl.below hB1 hl.lt
      have dx := dx.below hB1 dx.lt
      have hB := hB.trans (hB1.mono hB.size)
      clear hW hg hB1
      go_loopw [47] (fun j wr => ∃ J : Nat, j = .int .i64 (J : Int) ∧ J ≤ 3 ∧ World.blk wr gk #[.int .i64 n, .int .i64 (c2 - 101), .int .i64 (c3 - 6)] 3 ∧ World.blk wr gl #[.int .i64 A1, .int .i64 A2, .int .i64 x, .int .i64 y, .int .i64 s, .int .i64 0] 23 ∧ World.dec wr gx (x) (y) ∧ Below w.heap.size w wr) (fun j _ => (3 - intOf j).toNat)
      case atStart => exact ⟨0, rfl, by decide, hk, hl, dx, hB⟩
      case round =>
        obtain ⟨J, rfl, j3, hk, hl, dx, hB⟩ := hrel
        have q0 := hk.cell 0 _ rfl
        have q1 := hk.cell 1 _ rfl
        have q2 := hk.cell 2 _ rfl
        have x0 := dx.c0
        have x1 := dx.c1
        rcases (by omega : J = 3 ∨ J = 0 ∨ J = 1 ∨ J = 2) with rfl | rfl | rfl | rfl
        · go_wp2_with fail
          go_roundw
          case rel => exact ⟨1 + 1, by go_num, by decide, hl, hB⟩
          case measure => simp [intOf]
        · obtain ⟨⟨⟨t1, t2⟩, t3⟩, hT⟩ : ∃ T, powD (x) (y) n = T := ⟨_, rfl⟩
          have CP := fun w => pow_any (x) (y) n w (by omega) (by omega)
          have CR := fun w => rpow_any (x) (y) n w (by omega) (by omega)
          rw [hT] at CP CR
          have KP := Lib.hid CP
          have KR := Lib.hid CR
          clear CP CR hT
          go_wp2_with fail
          refine (KP.out _).mono ?_
          rintro e wa ⟨rfl, hB1⟩
          have hk := hk.below hB1 hk.lt
          have hl := hl.below hB1 hl.lt
          have dx := dx.below hB1 dx.lt
          have hB := hB.trans (hB1.mono hB.size)
          clear hB1 q0 q1 q2 x0 x1
          obtain ⟨W10, hW⟩ : ∃ W, W = wa.alloc (.cells #[.int .i64 t1, .int .i64 t2] 23) := ⟨_, rfl⟩
          obtain ⟨gp, hg⟩ : ∃ g, g = wa.heap.size := ⟨_, rfl⟩
          have dp : World.dec W10 gp t1 t2 := by rw [hW]; exact World.dec_new wa _ _ _ hg
          have hB1 : Below wa.heap.size wa W10 := by rw [hW]; exact (Below.refl _ _).alloc (Nat.le_refl _) _
          have lx := dx.lt
          have hk := hk.below hB1 hk.lt
          have hl := hl.below hB1 hl.lt
          have dx := dx.below hB1 dx.lt
          have hB := hB.trans (hB1.mono hB.size)
          have x0 := dx.c0
          have x1 := dx.c1
          rw [hW] at x0 x1
          go_wp2_with fail
          rw [← hW, ← hg]
          clear hB1 x0 x1 lx hW hg
          refine (KR.out _).mono ?_
          rintro e wb ⟨rfl, hB1⟩
          have hk := hk.below hB1 hk.lt
          have hl := hl.below hB1 hl.lt
          have dx := dx.below hB1 dx.lt
          have dp := dp.below hB1 dp.lt
          have hB := hB.trans (hB1.mono hB.size)
          have lp := dp.lt
          have dq : World.dec (wb.alloc (.cells #[.int .i64 t1, .int .i64 t2] 23)) wb.heap.size t1 t2 := World.dec_new wb _ _ _ rfl
          have dp2 := dp.alloc (.cells #[.int .i64 t1, .int .i64 t2] 23)
          have p0 := dp2.c0
          have p1 := dp2.c1
          have r0 := dq.c0
          have r1 := dq.c1
          have hB2 : Below wb.heap.size wb (wb.alloc (.cells #[.int .i64 t1, .int .i64 t2] 23)) := (Below.refl _ _).alloc (Nat.le_refl _) _
          have hk := hk.below hB2 hk.lt
          have hl := hl.below hB2 hl.lt
          have dx := dx.below hB2 dx.lt
          have hB := hB.trans (hB2.mono hB.size)
          clear hB1 hB2
          go_wp2_with fail
          go_roundw
          case rel => exact ⟨0 + 1, by go_num, by decide, hk, hl, dx, hB⟩
          case measure => simp [intOf]
        · obtain ⟨⟨⟨t1, t2⟩, t3⟩, hT⟩ : ∃ T, powD (x) (y) (c2 - 101) = T := ⟨_, rfl⟩
          have CP := fun w => pow_any (x) (y) (c2 - 101) w (by omega) (by omega)
          have CR := fun w => rpow_any (x) (y) (c2 - 101) w (by omega) (by omega)
          rw [hT] at CP CR
          have KP := Lib.hid CP
          have KR := Lib.hid CR
          clear CP CR hT
          go_wp2_with fail
          refine (KP.out _).mono ?_
          rintro e wa ⟨rfl, hB1⟩
          have hk := hk.below hB1 hk.lt
          have hl := hl.below hB1 hl.lt
          have dx := dx.below hB1 dx.lt
          have hB := hB.trans (hB1.mono hB.size)
          clear hB1 q0 q1 q2 x0 x1
          obtain ⟨W10, hW⟩ : ∃ W, W = wa.alloc (.cells #[.int .i64 t1, .int .i64 t2] 23) := ⟨_, rfl⟩
          obtain ⟨gp, hg⟩ : ∃ g, g = wa.heap.size := ⟨_, rfl⟩
          have dp : World.dec W10 gp t1 t2 := by rw [hW]; exact World.dec_new wa _ _ _ hg
          have hB1 : Below wa.heap.size wa W10 := by rw [hW]; exact (Below.refl _ _).alloc (Nat.le_refl _) _
          have lx := dx.lt
          have hk := hk.below hB1 hk.lt
          have hl := hl.below hB1 hl.lt
          have dx := dx.below hB1 dx.lt
          have hB := hB.trans (hB1.mono hB.size)
          have x0 := dx.c0
          have x1 := dx.c1
          rw [hW] at x0 x1
          go_wp2_with fail
          rw [← hW, ← hg]
          clear hB1 x0 x1 lx hW hg
          refine (KR.out _).mono ?_
          rintro e wb ⟨rfl, hB1⟩
          have hk := hk.below hB1 hk.lt
          have hl := hl.below hB1 hl.lt
          have dx := dx.below hB1 dx.lt
          have dp := dp.below hB1 dp.lt
          have hB := hB.trans (hB1.mono hB.size)
          have lp := dp.lt
          have dq : World.dec (wb.alloc (.cells #[.int .i64 t1, .int .i64 t2] 23)) wb.heap.size t1 t2 := World.dec_new wb _ _ _ rfl
          have dp2 := dp.alloc (.cells #[.int .i64 t1, .int .i64 t2] 23)
          have p0 := dp2.c0
          have p1 := dp2.c1
          have r0 := dq.c0
          have r1 := dq.c1
          have hB2 : Below wb.heap.size wb (wb.alloc (.cells #[.int .i64 t1, .int .i64 t2] 23)) := (Below.refl _ _).alloc (Nat.le_refl _) _
          have hk := hk.below hB2 hk.lt
          have hl := hl.below hB2 hl.lt
          have dx := dx.below hB2 dx.lt
          have hB := hB.trans (hB2.mono hB.size)
          clear hB1 hB2
          go_wp2_with fail
          go_roundw
          case rel => exact ⟨1 + 1, by go_num, by decide, hk, hl, dx, hB⟩
          case measure => simp [intOf]
        · obtain ⟨⟨⟨t1, t2⟩, t3⟩, hT⟩ : ∃ T, powD (x) (y) (c3 - 6) = T := ⟨_, rfl⟩
          have CP := fun w => pow_any (x) (y) (c3 - 6) w (by omega) (by omega)
          have CR := fun w => rpow_any (x) (y) (c3 - 6) w (by omega) (by omega)
          rw [hT] at CP CR
          have KP := Lib.hid CP
          have KR := Lib.hid CR
          clear CP CR hT
          go_wp2_with fail
          refine (KP.out _).mono ?_
          rintro e wa ⟨rfl, hB1⟩
          have hk := hk.below hB1 hk.lt
          have hl := hl.below hB1 hl.lt
          have dx := dx.below hB1 dx.lt
          have hB := hB.trans (hB1.mono hB.size)
          clear hB1 q0 q1 q2 x0 x1
          obtain ⟨W10, hW⟩ : ∃ W, W = wa.alloc (.cells #[.int .i64 t1, .int .i64 t2] 23) := ⟨_, rfl⟩
          obtain ⟨gp, hg⟩ : ∃ g, g = wa.heap.size := ⟨_, rfl⟩
          have dp : World.dec W10 gp t1 t2 := by rw [hW]; exact World.dec_new wa _ _ _ hg
          have hB1 : Below wa.heap.size wa W10 := by rw [hW]; exact (Below.refl _ _).alloc (Nat.le_refl _) _
          have lx := dx.lt
          have hk := hk.below hB1 hk.lt
          have hl := hl.below hB1 hl.lt
          have dx := dx.below hB1 dx.lt
          have hB := hB.trans (hB1.mono hB.size)
          have x0 := dx.c0
          have x1 := dx.c1
          rw [hW] at x0 x1
          go_wp2_with fail
          rw [← hW, ← hg]
          clear hB1 x0 x1 lx hW hg
          refine (KR.out _).mono ?_
          rintro e wb ⟨rfl, hB1⟩
          have hk := hk.below hB1 hk.lt
          have hl := hl.below hB1 hl.lt
          have dx := dx.below hB1 dx.lt
          have dp := dp.below hB1 dp.lt
          have hB := hB.trans (hB1.mono hB.size)
          have lp := dp.lt
          have dq : World.dec (wb.alloc (.cells #[.int .i64 t1, .int .i64 t2] 23)) wb.heap.size t1 t2 := World.dec_new wb _ _ _ rfl
          have dp2 := dp.alloc (.cells #[.int .i64 t1, .int .i64 t2] 23)
          have p0 := dp2.c0
          have p1 := dp2.c1
          have r0 := dq.c0
          have r1 := dq.c1
          have hB2 : Below wb.heap.size wb (wb.alloc (.cells #[.int .i64 t1, .int .i64 t2] 23)) := (Below.refl _ _).alloc (Nat.le_refl _) _
          have hk := hk.below hB2 hk.lt
          have hl := hl.below hB2 hl.lt
          have dx := dx.below hB2 dx.lt
          have hB := hB.trans (hB2.mono hB.size)
          clear hB1 hB2
          go_wp2_with fail
          go_roundw
          case rel => exact ⟨2 + 1, by go_num, by decide, hk, hl, dx, hB⟩
          case measure => simp [intOf]
    · go_wp2_with fail
      have lw := hl.lt
      obtain ⟨W6, hW⟩ : ∃ W, W = wr.alloc (.cells #[.int .i64 s, .int .i64 0] 23) := ⟨_, rfl⟩
      rw [← hW]
      obtain ⟨gx, hg⟩ : ∃ g, g = wr.heap.size := ⟨_, rfl⟩
      rw [← hg]
      have dx : World.dec W6 gx (s) (0) := by rw [hW]; exact World.dec_new wr _ _ _ hg
      have hB1 : Below wr.heap.size wr W6 := by rw [hW]; exact (Below.refl _ _).alloc (Nat.le_refl _) _
      have hl := hl.below hB1 lw
      have hB := hB.trans (hB1.mono hB.size)
      clear hW hg lw hB1 q0 q1 q2 q3 q4 q5
      refine (K2.out _).mono ?_
      rintro e w7 ⟨rfl, rfl⟩
      go_wp2_with fail
      refine (K3.out _).mono ?_
      rintro e w8 ⟨rfl, rfl⟩
      go_wp2_with fail
      obtain ⟨W9, hW⟩ : ∃ W, W = w8.alloc (.cells #[.int .i64 n, .int .i64 (c2 - 101), .int .i64 (c3 - 6)] 3) := ⟨_, rfl⟩
      rw [← hW]
      obtain ⟨gk, hg⟩ : ∃ g, g = w8.heap.size := ⟨_, rfl⟩
      rw [← hg]
      have hk : World.blk W9 gk #[.int .i64 n, .int .i64 (c2 - 101), .int .i64 (c3 - 6)] 3 := by rw [hW]; exact World.blk_new w8 _ _ _ hg
      have hB1 : Below w8.heap.size w8 W9 := by rw [hW]; exact (Below.refl _ _).alloc (Nat.le_refl _) _
      have hl := hl.below hB1 hl.lt
      have dx := dx.below hB1 dx.lt
      have hB := hB.trans (hB1.mono hB.size)
      clear hW hg hB1
      go_loopw [47] (fun j wr => ∃ J : Nat, j = .int .i64 (J : Int) ∧ J ≤ 3 ∧ World.blk wr gk #[.int .i64 n, .int .i64 (c2 - 101), .int .i64 (c3 - 6)] 3 ∧ World.blk wr gl #[.int .i64 A1, .int .i64 A2, .int .i64 x, .int .i64 y, .int .i64 s, .int .i64 0] 23 ∧ World.dec wr gx (s) (0) ∧ Below w.heap.size w wr) (fun j _ => (3 - intOf j).toNat)
      case atStart => exact ⟨0, rfl, by decide, hk, hl, dx, hB⟩
      case round =>
        obtain ⟨J, rfl, j3, hk, hl, dx, hB⟩ := hrel
        have q0 := hk.cell 0 _ rfl
        have q1 := hk.cell 1 _ rfl
        have q2 := hk.cell 2 _ rfl
        have x0 := dx.c0
        have x1 := dx.c1
        rcases (by omega : J = 3 ∨ J = 0 ∨ J = 1 ∨ J = 2) with rfl | rfl | rfl | rfl
        · go_wp2_with fail
          go_roundw
          case rel => exact ⟨2 + 1, by go_num, by decide, hl, hB⟩
          case measure => simp [intOf]
        · obtain ⟨⟨⟨t1, t2⟩, t3⟩, hT⟩ : ∃ T, powD (s) (0) n = T := ⟨_, rfl⟩
          have CP := fun w => pow_any (s) (0) n w (by omega) (by omega)
          have CR := fun w => rpow_any (s) (0) n w (by omega) (by omega)
          rw [hT] at CP CR
          have KP := Lib.hid CP
          have KR := Lib.hid CR
          clear CP CR hT
          go_wp2_with fail
          refine (KP.out _).mono ?_
          rintro e wa ⟨rfl, hB1⟩
          have hk := hk.below hB1 hk.lt
          have hl := hl.below hB1 hl.lt
          have dx := dx.below hB1 dx.lt
          have hB := hB.trans (hB1.mono hB.size)
          clear hB1 q0 q1 q2 x0 x1
          obtain ⟨W10, hW⟩ : ∃ W, W = wa.alloc (.cells #[.int .i64 t1, .int .i64 t2] 23) := ⟨_, rfl⟩
          obtain ⟨gp, hg⟩ : ∃ g, g = wa.heap.size := ⟨_, rfl⟩
          have dp : World.dec W10 gp t1 t2 := by rw [hW]; exact World.dec_new wa _ _ _ hg
          have hB1 : Below wa.heap.size wa W10 := by rw [hW]; exact (Below.refl _ _).alloc (Nat.le_refl _) _
          have lx := dx.lt
          have hk := hk.below hB1 hk.lt
          have hl := hl.below hB1 hl.lt
          have dx := dx.below hB1 dx.lt
          have hB := hB.trans (hB1.mono hB.size)
          have x0 := dx.c0
          have x1 := dx.c1
          rw [hW] at x0 x1
          go_wp2_with fail
          rw [← hW, ← hg]
          clear hB1 x0 x1 lx hW hg
          refine (KR.out _).mono ?_
          rintro e wb ⟨rfl, hB1⟩
          have hk := hk.below hB1 hk.lt
          have hl := hl.below hB1 hl.lt
          have dx := dx.below hB1 dx.lt
          have dp := dp.below hB1 dp.lt
          have hB := hB.trans (hB1.mono hB.size)
          have lp := dp.lt
          have dq : World.dec (wb.alloc (.cells #[.int .i64 t1, .int .i64 t2] 23)) wb.heap.size t1 t2 := World.dec_new wb _ _ _ rfl
          have dp2 := dp.alloc (.cells #[.int .i64 t1, .int .i64 t2] 23)
          have p0 := dp2.c0
          have p1 := dp2.c1
          have r0 := dq.c0
          have r1 := dq.c1
          have hB2 : Below wb.heap.size wb (wb.alloc (.cells #[.int .i64 t1, .int .i64 t2] 23)) := (Below.refl _ _).alloc (Nat.le_refl _) _
          have hk := hk.below hB2 hk.lt
          have hl := hl.below hB2 hl.lt
          have dx := dx.below hB2 dx.lt
          have hB := hB.trans (hB2.mono hB.size)
          clear hB1 hB2
          go_wp2_with fail
          go_roundw
          case rel => exact ⟨0 + 1, by go_num, by decide, hk, hl, dx, hB⟩
          case measure => simp [intOf]
        · obtain ⟨⟨⟨t1, t2⟩, t3⟩, hT⟩ : ∃ T, powD (s) (0) (c2 - 101) = T := ⟨_, rfl⟩
          have CP := fun w => pow_any (s) (0) (c2 - 101) w (by omega) (by omega)
          have CR := fun w => rpow_any (s) (0) (c2 - 101) w (by omega) (by omega)
          rw [hT] at CP CR
          have KP := Lib.hid CP
          have KR := Lib.hid CR
          clear CP CR hT
          go_wp2_with fail
          refine (KP.out _).mono ?_
          rintro e wa ⟨rfl, hB1⟩
          have hk := hk.below hB1 hk.lt
          have hl := hl.below hB1 hl.lt
          have dx := dx.below hB1 dx.lt
          have hB := hB.trans (hB1.mono hB.size)
          clear hB1 q0 q1 q2 x0 x1
          obtain ⟨W10, hW⟩ : ∃ W, W = wa.alloc (.cells #[.int .i64 t1, .int .i64 t2] 23) := ⟨_, rfl⟩
          obtain ⟨gp, hg⟩ : ∃ g, g = wa.heap.size := ⟨_, rfl⟩
          have dp : World.dec W10 gp t1 t2 := by rw [hW]; exact World.dec_new wa _ _ _ hg
          have hB1 : Below wa.heap.size wa W10 := by rw [hW]; exact (Below.refl _ _).alloc (Nat.le_refl _) _
          have lx := dx.lt
          have hk := hk.below hB1 hk.lt
          have hl := hl.below hB1 hl.lt
          have dx := dx.below hB1 dx.lt
          have hB := hB.trans (hB1.mono hB.size)
          have x0 := dx.c0
          have x1 := dx.c1
          rw [hW] at x0 x1
          go_wp2_with fail
          rw [← hW, ← hg]
          clear hB1 x0 x1 lx hW hg
          refine (KR.out _).mono ?_
          rintro e wb ⟨rfl, hB1⟩
          have hk := hk.below hB1 hk.lt
          have hl := hl.below hB1 hl.lt
          have dx := dx.below hB1 dx.lt
          have dp := dp.below hB1 dp.lt
          have hB := hB.trans (hB1.mono hB.size)
          have lp := dp.lt
          have dq : World.dec (wb.alloc (.cells #[.int .i64 t1, .int .i64 t2] 23)) wb.heap.size t1 t2 := World.dec_new wb _ _ _ rfl
          have dp2 := dp.alloc (.cells #[.int .i64 t1, .int .i64 t2] 23)
          have p0 := dp2.c0
          have p1 := dp2.c1
          have r0 := dq.c0
          have r1 := dq.c1
          have hB2 : Below wb.heap.size wb (wb.alloc (.cells #[.int .i64 t1, .int .i64 t2] 23)) := (Below.refl _ _).alloc (Nat.le_refl _) _
          have hk := hk.below hB2 hk.lt
          have hl := hl.below hB2 hl.lt
          have dx := dx.below hB2 dx.lt
          have hB := hB.trans (hB2.mono hB.size)
          clear hB1 hB2
          go_wp2_with fail
          go_roundw
          case rel => exact ⟨1 + 1, by go_num, by decide, hk, hl, dx, hB⟩
          case measure => simp [intOf]
        · obtain ⟨⟨⟨t1, t2⟩, t3⟩, hT⟩ : ∃ T, powD (s) (0) (c3 - 6) = T := ⟨_, rfl⟩
          have CP := fun w => pow_any (s) (0) (c3 - 6) w (by omega) (by omega)
          have CR := fun w => rpow_any (s) (0) (c3 - 6) w (by omega) (by omega)
          rw [hT] at CP CR
          have KP := Lib.hid CP
          have KR := Lib.hid CR
          clear CP CR hT
          go_wp2_with fail
          refine (KP.out _).mono ?_
          rintro e wa ⟨rfl, hB1⟩
          have hk := hk.below hB1 hk.lt
          have hl := hl.below hB1 hl.lt
          have dx := dx.below hB1 dx.lt
          have hB := hB.trans (hB1.mono hB.size)
          clear hB1 q0 q1 q2 x0 x1
          obtain ⟨W10, hW⟩ : ∃ W, W = wa.alloc (.cells #[.int .i64 t1, .int .i64 t2] 23) := ⟨_, rfl⟩
          obtain ⟨gp, hg⟩ : ∃ g, g = wa.heap.size := ⟨_, rfl⟩
          have dp : World.dec W10 gp t1 t2 := by rw [hW]; exact World.dec_new wa _ _ _ hg
          have hB1 : Below wa.heap.size wa W10 := by rw [hW]; exact (Below.refl _ _).alloc (Nat.le_refl _) _
          have lx := dx.lt
          have hk := hk.below hB1 hk.lt
          have hl := hl.below hB1 hl.lt
          have dx := dx.below hB1 dx.lt
          have hB := hB.trans (hB1.mono hB.size)
          have x0 := dx.c0
          have x1 := dx.c1
          rw [hW] at x0 x1
          go_wp2_with fail
          rw [← hW, ← hg]
          clear hB1 x0 x1 lx hW hg
          refine (KR.out _).mono ?_
          rintro e wb ⟨rfl, hB1⟩
          have hk := hk.below hB1 hk.lt
          have hl := hl.below hB1 hl.lt
          have dx := dx.below hB1 dx.lt
          have dp := dp.below hB1 dp.lt
          have hB := hB.trans (hB1.mono hB.size)
          have lp := dp.lt
          have dq : World.dec (wb.alloc (.cells #[.int .i64 t1, .int .i64 t2] 23)) wb.heap.size t1 t2 := World.dec_new wb _ _ _ rfl
          have dp2 := dp.alloc (.cells #[.int .i64 t1, .int .i64 t2] 23)
          have p0 := dp2.c0
          have p1 := dp2.c1
          have r0 := dq.c0
          have r1 := dq.c1
          have hB2 : Below wb.heap.size wb (wb.alloc (.cells #[.int .i64 t1, .int .i64 t2] 23)) := (Below.refl _ _).alloc (Nat.le_refl _) _
          have hk := hk.below hB2 hk.lt
          have hl := hl.below hB2 hl.lt
          have dx := dx.below hB2 dx.lt
          have hB := hB.trans (hB2.mono hB.size)
          clear hB1 hB2
          go_wp2_with fail
          go_roundw
          case rel => exact ⟨2 + 1, by go_num, by decide, hk, hl, dx, hB⟩
          case measure => simp [intOf]
theorem powers_walk (A1 A2 n : Int) (w : World) (hm : Shp w) (hA10 : -9223372036854775808 ≤ A1) (hA11 : A1 ≤ 9223372036854775807) (hA20 : -9223372036854775808 ≤ A2) (hA21 : A2 ≤ 9223372036854775807) (hn0 : -9223372036854775808 ≤ n) (hn1 : n ≤ 9223372036854775807) :
    Calls Tryd.prog 4 #[.agg #[.int .i64 A1, .int .i64 A2], .int .i64 n] w fun e w' => e = .returned (.bool true) ∧ Below w.heap.size w w' := by
  by_cases ht : (pickI A1 41 - 20).tmod 10 = 0
  · exact powers_seven A1 A2 n w hm hA10 hA11 hA20 hA21 hn0 hn1 ht
  · exact powers_self A1 A2 n w hm hA10 hA11 hA20 hA21 hn0 hn1 ht
end Go.Proofs.YtpkohfdebgiloaaDoor
