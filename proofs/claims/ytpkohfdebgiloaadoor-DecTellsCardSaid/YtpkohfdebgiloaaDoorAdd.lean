/- dec.Add. -/
import Derived.Test.YtpkohfdebgiloaaDoorBoth
import Derived.Test.YtpkohfdebgiloaaDoorPlus
import Derived.Shelf.Abstract
import Derived.Deep.RegionHeld3
namespace Go.Proofs.YtpkohfdebgiloaaDoor
open Go.RowKit Go.Shelf

theorem enters57 : ∀ args w, (callFunc 57 args).run Tryd.prog w = .ok (.enter 57 args) w := enters_of Tryd.func57 (by kernel_rfl) rfl
theorem enters58 : ∀ args w, (callFunc 58 args).run Tryd.prog w = .ok (.enter 58 args) w := enters_of Tryd.func58 (by kernel_rfl) rfl
theorem enters60 : ∀ args w, (callFunc 60 args).run Tryd.prog w = .ok (.enter 60 args) w := enters_of Tryd.func60 (by kernel_rfl) rfl

theorem layD_lt {M E : Int} (h : rightB M E = true) : layD M E < 10 ^ 72 := by
  obtain ⟨r1, r2, r3, r4, _⟩ := rightB_iff.1 h
  unfold layD
  calc M.natAbs * 10 ^ (48 + E).toNat < 10 ^ 15 * 10 ^ (48 + E).toNat := Nat.mul_lt_mul_of_pos_right (by rw [show (10 : Nat) ^ 15 = 1000000000000000 from by decide]; omega) (pow10_pos _)
    _ ≤ 10 ^ 15 * 10 ^ 57 := Nat.mul_le_mul_left _ (Nat.pow_le_pow_right (by decide) (by omega))
    _ = 10 ^ 72 := by rw [← Nat.pow_add]
theorem plusD_le (s s' : Bool) (D D' : Nat) : (plusD s D s' D').2 ≤ D + D' := by unfold plusD; split <;> (try split) <;> simp <;> omega

/-- The sum of two right decimals. -/
def addR (M E M' E' : Int) : (Int × Int) × Int := near (plusD (decide (M < 0)) (layD M E) (decide (M' < 0)) (layD M' E')).1 (plusD (decide (M < 0)) (layD M E) (decide (M' < 0)) (layD M' E')).2 false

theorem both_add (M E M' E' : Int) (w : World) (h0 : -9223372036854775808 ≤ M) (h1 : M ≤ 9223372036854775807) (h0' : -9223372036854775808 ≤ M') (h1' : M' ≤ 9223372036854775807) (hr : rightB M E = true) (hr' : rightB M' E' = true) :
    Calls Tryd.prog 55 #[.agg #[.int .i64 M, .int .i64 E], .agg #[.int .i64 M', .int .i64 E'], .func (.func 57) #[.agg (numF (decide (M < 0)) (dg (layD M E)) false)] #[]] w (DecPost (addR M E M' E') w) := by
  have l1 := layD_lt hr
  have l2 := layD_lt hr'
  have HPD : Hid ((plusD (decide (M < 0)) (layD M E) (decide (M' < 0)) (layD M' E')).2 + 10 ^ 57 < 10 ^ 96) := by
    have := plusD_le (decide (M < 0)) (decide (M' < 0)) (layD M E) (layD M' E')
    have h3 : (10 : Nat) ^ 72 + 10 ^ 72 + 10 ^ 57 < 10 ^ 96 := by decide
    show _ < _; omega
  have HDO : ∀ wc : World, Hid (∀ w3, Below wc.heap.size wc w3 → Calls Tryd.prog 57 (#[.agg (numF (decide (M < 0)) (dg (layD M E)) false)].push (.agg (numF (decide (M' < 0)) (dg (layD M' E')) false)) ++ #[]) w3 fun e w' =>
      e = .returned (.agg (numF (plusD (decide (M < 0)) (layD M E) (decide (M' < 0)) (layD M' E')).1 (dg (plusD (decide (M < 0)) (layD M E) (decide (M' < 0)) (layD M' E')).2) false)) ∧ Below w3.heap.size w3 w') := fun wc w3 _ => by
    have h3 : (10 : Nat) ^ 72 < 10 ^ 96 := by decide
    exact plus_any (decide (M < 0)) (decide (M' < 0)) (layD M E) (layD M' E') w3 (by show _ < _; omega) (by show _ < _; omega)
  exact both_ok M E M' E' 57 _ #[] w h0 h1 h0' h1' hr hr' enters57 _ _ false HPD (HDO w)

set_option maxRecDepth 100000 in
set_option maxHeartbeats 2000000 in
theorem add_ok (M E M' E' : Int) (w : World) (h0 : -9223372036854775808 ≤ M) (h1 : M ≤ 9223372036854775807) (h0' : -9223372036854775808 ≤ M') (h1' : M' ≤ 9223372036854775807) (hr : rightB M E = true) (hr' : rightB M' E' = true) :
    Calls Tryd.prog 22 #[.agg #[.int .i64 M, .int .i64 E], .agg #[.int .i64 M', .int .i64 E']] w (DecPost (addR M E M' E') w) := by
  go_enter Tryd.func22, Tryd.ntmps22
  go_wp2_with fail
  obtain ⟨W, hW⟩ : ∃ W, W = ((w.alloc (.cells #[.int .i64 M, .int .i64 E] 23)).alloc (.cells #[.int .i64 M', .int .i64 E'] 23)).alloc (.cells #[.int .i64 0, .int .i64 0] 23) := ⟨_, rfl⟩
  rw [← hW]
  have d0 : World.dec W w.heap.size M E := by rw [hW]; exact ((World.dec_new w M E _ rfl).alloc _).alloc _
  have d1 : World.dec W (w.heap.size + 1) M' E' := by rw [hW]; exact (World.dec_new _ M' E' _ (by simp)).alloc _
  have d2 : World.dec W (w.heap.size + 1 + 1) 0 0 := by rw [hW]; exact World.dec_new _ 0 0 _ (by simp)
  have hB : Below w.heap.size w W := by rw [hW]; exact (((Below.refl _ w).alloc (Nat.le_refl _) _).alloc (by simp) _).alloc (by simp; omega) _
  clear hW
  have a0 := d0.c0
  have a1 := d0.c1
  have b0 := d1.c0
  have b1 := d1.c1
  obtain ⟨r1, r2, r3, r4, _⟩ := rightB_iff.1 hr
  go_region_held3 (fun w' => w'.cell? ⟨w.heap.size, 0, none⟩ = some (.int .i64 M) ∧ w'.cell? ⟨w.heap.size, 1, none⟩ = some (.int .i64 E) ∧ w'.cell? ⟨w.heap.size + 1, 0, none⟩ = some (.int .i64 M') ∧ w'.cell? ⟨w.heap.size + 1, 1, none⟩ = some (.int .i64 E'))
    (first | exact ⟨a0, a1, b0, b1⟩ | exact ⟨(World.cell?_setCell_far _ _ _ _ (by first | (simp; done) | (simp; omega))).trans ((World.cell?_setCell_far _ _ _ _ (by first | (simp; done) | (simp; omega))).trans a0), (World.cell?_setCell_far _ _ _ _ (by first | (simp; done) | (simp; omega))).trans ((World.cell?_setCell_far _ _ _ _ (by first | (simp; done) | (simp; omega))).trans a1), (World.cell?_setCell_far _ _ _ _ (by first | (simp; done) | (simp; omega))).trans ((World.cell?_setCell_far _ _ _ _ (by first | (simp; done) | (simp; omega))).trans b0), (World.cell?_setCell_far _ _ _ _ (by first | (simp; done) | (simp; omega))).trans ((World.cell?_setCell_far _ _ _ _ (by first | (simp; done) | (simp; omega))).trans b1)⟩)
    (first
      | (go_at_call 56; refine (fit_any M E _ h0 h1 hr).mono ?_; rintro e w1 ⟨rfl, hB1⟩; have e0 := World.dec.below (World.dec.drew d0) hB1 d0.lt; have e1 := World.dec.below (World.dec.drew d1) hB1 d1.lt; have e2 := World.dec.below (World.dec.drew d2) hB1 d2.lt; have hC := hB.drew.trans (hB1.mono hB.size); have a0 := e0.c0; have a1 := e0.c1; have b0 := e1.c0; have b1 := e1.c1)
      | (go_at_call 35; refine (lay_any M E _ r1 r2 r3 r4).mono ?_; rintro e w1 ⟨rfl, hB1⟩; have f0 := World.dec.below e0 hB1 e0.lt; have f1 := World.dec.below e1 hB1 e1.lt; have f2 := World.dec.below e2 hB1 e2.lt; have hD := hC.trans (hB1.mono hC.size); have a0 := f0.c0; have a1 := f0.c1; have b0 := f1.c0; have b1 := f1.c1)
      | (go_at_call 55; refine (both_add M E M' E' _ h0 h1 h0' h1' hr hr').mono ?_; rintro e w1 ⟨rfl, hB1⟩; have g2 := World.dec.below f2 hB1 f2.lt; have hE := hD.trans (hB1.mono hD.size); have a0 := ((World.dec.below f0 hB1 f0.lt)).c0; have a1 := (World.dec.below f0 hB1 f0.lt).c1; have b0 := (World.dec.below f1 hB1 f1.lt).c0; have b1 := (World.dec.below f1 hB1 f1.lt).c1; have c0 := g2.c0; have c1 := g2.c1; have cf0 := g2.frozen 0; have cf1 := g2.frozen 1))
  go_wp2_with fail
  refine bodyPost_ret (results_dec_tmp rfl _ _ _ _ _ rfl (World.dec.set1 (World.dec.set0 g2 _) _)) rfl ?_
  exact ⟨rfl, (hE.setCell (by simp; omega) _).setCell (by simp; omega) _⟩
set_option maxRecDepth 100000 in
set_option maxHeartbeats 2000000 in
theorem add_no2 (M E M' E' : Int) (w : World) (h0 : -9223372036854775808 ≤ M) (h1 : M ≤ 9223372036854775807) (h0' : -9223372036854775808 ≤ M') (h1' : M' ≤ 9223372036854775807) (hr : rightB M E = true) (hr' : rightB M' E' = false) :
    Calls Tryd.prog 22 #[.agg #[.int .i64 M, .int .i64 E], .agg #[.int .i64 M', .int .i64 E']] w (DecPost ((0, 0), 10) w) := by
  go_enter Tryd.func22, Tryd.ntmps22
  go_wp2_with fail
  obtain ⟨W, hW⟩ : ∃ W, W = ((w.alloc (.cells #[.int .i64 M, .int .i64 E] 23)).alloc (.cells #[.int .i64 M', .int .i64 E'] 23)).alloc (.cells #[.int .i64 0, .int .i64 0] 23) := ⟨_, rfl⟩
  rw [← hW]
  have d0 : World.dec W w.heap.size M E := by rw [hW]; exact ((World.dec_new w M E _ rfl).alloc _).alloc _
  have d1 : World.dec W (w.heap.size + 1) M' E' := by rw [hW]; exact (World.dec_new _ M' E' _ (by simp)).alloc _
  have d2 : World.dec W (w.heap.size + 1 + 1) 0 0 := by rw [hW]; exact World.dec_new _ 0 0 _ (by simp)
  have hB : Below w.heap.size w W := by rw [hW]; exact (((Below.refl _ w).alloc (Nat.le_refl _) _).alloc (by simp) _).alloc (by simp; omega) _
  clear hW
  have a0 := d0.c0
  have a1 := d0.c1
  have b0 := d1.c0
  have b1 := d1.c1
  obtain ⟨r1, r2, r3, r4, _⟩ := rightB_iff.1 hr
  go_region_held3 (fun w' => w'.cell? ⟨w.heap.size, 0, none⟩ = some (.int .i64 M) ∧ w'.cell? ⟨w.heap.size, 1, none⟩ = some (.int .i64 E) ∧ w'.cell? ⟨w.heap.size + 1, 0, none⟩ = some (.int .i64 M') ∧ w'.cell? ⟨w.heap.size + 1, 1, none⟩ = some (.int .i64 E'))
    (first | exact ⟨a0, a1, b0, b1⟩ | exact ⟨(World.cell?_setCell_far _ _ _ _ (by first | (simp; done) | (simp; omega))).trans ((World.cell?_setCell_far _ _ _ _ (by first | (simp; done) | (simp; omega))).trans a0), (World.cell?_setCell_far _ _ _ _ (by first | (simp; done) | (simp; omega))).trans ((World.cell?_setCell_far _ _ _ _ (by first | (simp; done) | (simp; omega))).trans a1), (World.cell?_setCell_far _ _ _ _ (by first | (simp; done) | (simp; omega))).trans ((World.cell?_setCell_far _ _ _ _ (by first | (simp; done) | (simp; omega))).trans b0), (World.cell?_setCell_far _ _ _ _ (by first | (simp; done) | (simp; omega))).trans ((World.cell?_setCell_far _ _ _ _ (by first | (simp; done) | (simp; omega))).trans b1)⟩)
    (first
      | (go_at_call 56; refine (fit_any M E _ h0 h1 hr).mono ?_; rintro e w1 ⟨rfl, hB1⟩; have e0 := World.dec.below (World.dec.drew d0) hB1 d0.lt; have e1 := World.dec.below (World.dec.drew d1) hB1 d1.lt; have e2 := World.dec.below (World.dec.drew d2) hB1 d2.lt; have hC := hB.drew.trans (hB1.mono hB.size); have a0 := e0.c0; have a1 := e0.c1; have b0 := e1.c0; have b1 := e1.c1)
      | (go_at_call 35; refine (lay_any M E _ r1 r2 r3 r4).mono ?_; rintro e w1 ⟨rfl, hB1⟩; have f0 := World.dec.below e0 hB1 e0.lt; have f1 := World.dec.below e1 hB1 e1.lt; have f2 := World.dec.below e2 hB1 e2.lt; have hD := hC.trans (hB1.mono hC.size); have a0 := f0.c0; have a1 := f0.c1; have b0 := f1.c0; have b1 := f1.c1)
      | (go_at_call 55; refine (both_no2 M E M' E' 57 _ #[] _ h0 h1 h0' h1' hr hr').mono ?_; rintro e w1 ⟨rfl, hB1⟩; have g2 := World.dec.below f2 hB1 f2.lt; have hE := hD.trans (hB1.mono hD.size); have a0 := ((World.dec.below f0 hB1 f0.lt)).c0; have a1 := (World.dec.below f0 hB1 f0.lt).c1; have b0 := (World.dec.below f1 hB1 f1.lt).c0; have b1 := (World.dec.below f1 hB1 f1.lt).c1; have c0 := g2.c0; have c1 := g2.c1; have cf0 := g2.frozen 0; have cf1 := g2.frozen 1))
  go_wp2_with fail
  refine bodyPost_ret (results_dec_tmp rfl _ _ _ _ _ rfl (World.dec.set1 (World.dec.set0 g2 _) _)) rfl ?_
  exact ⟨rfl, (hE.setCell (by simp; omega) _).setCell (by simp; omega) _⟩
set_option maxRecDepth 100000 in
set_option maxHeartbeats 2000000 in
theorem add_no1 (M E M' E' : Int) (w : World) (h0 : -9223372036854775808 ≤ M) (h1 : M ≤ 9223372036854775807) (h0' : -9223372036854775808 ≤ M') (h1' : M' ≤ 9223372036854775807) (hr : rightB M E = false) :
    Calls Tryd.prog 22 #[.agg #[.int .i64 M, .int .i64 E], .agg #[.int .i64 M', .int .i64 E']] w (DecPost ((0, 0), 10) w) := by
  go_enter Tryd.func22, Tryd.ntmps22
  go_wp2_with fail
  obtain ⟨W, hW⟩ : ∃ W, W = ((w.alloc (.cells #[.int .i64 M, .int .i64 E] 23)).alloc (.cells #[.int .i64 M', .int .i64 E'] 23)).alloc (.cells #[.int .i64 0, .int .i64 0] 23) := ⟨_, rfl⟩
  rw [← hW]
  have d0 : World.dec W w.heap.size M E := by rw [hW]; exact ((World.dec_new w M E _ rfl).alloc _).alloc _
  have d1 : World.dec W (w.heap.size + 1) M' E' := by rw [hW]; exact (World.dec_new _ M' E' _ (by simp)).alloc _
  have d2 : World.dec W (w.heap.size + 1 + 1) 0 0 := by rw [hW]; exact World.dec_new _ 0 0 _ (by simp)
  have hB : Below w.heap.size w W := by rw [hW]; exact (((Below.refl _ w).alloc (Nat.le_refl _) _).alloc (by simp) _).alloc (by simp; omega) _
  clear hW
  have a0 := d0.c0
  have a1 := d0.c1
  have b0 := d1.c0
  have b1 := d1.c1
  go_region_held3 (fun w' => w'.cell? ⟨w.heap.size, 0, none⟩ = some (.int .i64 M) ∧ w'.cell? ⟨w.heap.size, 1, none⟩ = some (.int .i64 E) ∧ w'.cell? ⟨w.heap.size + 1, 0, none⟩ = some (.int .i64 M') ∧ w'.cell? ⟨w.heap.size + 1, 1, none⟩ = some (.int .i64 E'))
    (first | exact ⟨a0, a1, b0, b1⟩ | exact ⟨(World.cell?_setCell_far _ _ _ _ (by first | (simp; done) | (simp; omega))).trans ((World.cell?_setCell_far _ _ _ _ (by first | (simp; done) | (simp; omega))).trans a0), (World.cell?_setCell_far _ _ _ _ (by first | (simp; done) | (simp; omega))).trans ((World.cell?_setCell_far _ _ _ _ (by first | (simp; done) | (simp; omega))).trans a1), (World.cell?_setCell_far _ _ _ _ (by first | (simp; done) | (simp; omega))).trans ((World.cell?_setCell_far _ _ _ _ (by first | (simp; done) | (simp; omega))).trans b0), (World.cell?_setCell_far _ _ _ _ (by first | (simp; done) | (simp; omega))).trans ((World.cell?_setCell_far _ _ _ _ (by first | (simp; done) | (simp; omega))).trans b1)⟩)
    (first
      | (go_at_call 56; refine (fit_no M E _ h0 h1 hr).mono ?_; rintro e w1 ⟨rfl, hB1⟩; have e0 := World.dec.below (World.dec.drew d0) hB1 d0.lt; have e1 := World.dec.below (World.dec.drew d1) hB1 d1.lt; have e2 := World.dec.below (World.dec.drew d2) hB1 d2.lt; have hC := hB.drew.trans (hB1.mono hB.size); have a0 := e0.c0; have a1 := e0.c1; have b0 := e1.c0; have b1 := e1.c1)
      | (go_at_call 35; refine (lay_any 0 0 _ (by omega) (by omega) (by omega) (by omega)).mono ?_; rintro e w1 ⟨rfl, hB1⟩; have f0 := World.dec.below e0 hB1 e0.lt; have f1 := World.dec.below e1 hB1 e1.lt; have f2 := World.dec.below e2 hB1 e2.lt; have hD := hC.trans (hB1.mono hC.size); have a0 := f0.c0; have a1 := f0.c1; have b0 := f1.c0; have b1 := f1.c1)
      | (go_at_call 55; refine (both_no1 M E M' E' 57 _ #[] _ h0 h1 h0' h1' hr).mono ?_; rintro e w1 ⟨rfl, hB1⟩; have g2 := World.dec.below f2 hB1 f2.lt; have hE := hD.trans (hB1.mono hD.size); have a0 := ((World.dec.below f0 hB1 f0.lt)).c0; have a1 := (World.dec.below f0 hB1 f0.lt).c1; have b0 := (World.dec.below f1 hB1 f1.lt).c0; have b1 := (World.dec.below f1 hB1 f1.lt).c1; have c0 := g2.c0; have c1 := g2.c1; have cf0 := g2.frozen 0; have cf1 := g2.frozen 1))
  go_wp2_with fail
  refine bodyPost_ret (results_dec_tmp rfl _ _ _ _ _ rfl (World.dec.set1 (World.dec.set0 g2 _) _)) rfl ?_
  exact ⟨rfl, (hE.setCell (by simp; omega) _).setCell (by simp; omega) _⟩

/-- The sum of two decimals. -/
def addD (M E M' E' : Int) : (Int × Int) × Int := if rightB M E = true ∧ rightB M' E' = true then addR M E M' E' else ((0, 0), 10)
theorem add_any (M E M' E' : Int) (w : World) (h0 : -9223372036854775808 ≤ M) (h1 : M ≤ 9223372036854775807) (h0' : -9223372036854775808 ≤ M') (h1' : M' ≤ 9223372036854775807) :
    Calls Tryd.prog 22 #[.agg #[.int .i64 M, .int .i64 E], .agg #[.int .i64 M', .int .i64 E']] w (DecPost (addD M E M' E') w) := by
  unfold addD
  by_cases hr : rightB M E = true
  · by_cases hr' : rightB M' E' = true
    · rw [if_pos ⟨hr, hr'⟩]; exact add_ok M E M' E' w h0 h1 h0' h1' hr hr'
    · rw [if_neg (fun h => hr' h.2)]; exact add_no2 M E M' E' w h0 h1 h0' h1' hr (by simpa using hr')
  · rw [if_neg (fun h => hr h.1)]; exact add_no1 M E M' E' w h0 h1 h0' h1' (by simpa using hr)
end Go.Proofs.YtpkohfdebgiloaaDoor
