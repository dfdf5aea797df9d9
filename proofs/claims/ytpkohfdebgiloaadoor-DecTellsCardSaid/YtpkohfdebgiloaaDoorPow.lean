/- dec.Power. -/
import Derived.Test.YtpkohfdebgiloaaDoorCmp
namespace Go.Proofs.YtpkohfdebgiloaaDoor
open Go.RowKit Go.Shelf

theorem rightB_P {M E : Int} : rightB M E = true ↔ RightP (M, E) := rightB_iff
theorem mulD_two (M E M' E' : Int) : (∃ p, mulD M E M' E' = (p, 0) ∧ RightP p) ∨ mulD M E M' E' = ((0, 0), 10) := by
  unfold mulD
  split
  · unfold mulR
    rcases near_two (mulS M M') (mulN M E M' E') with h | h
    · exact .inl ⟨_, Prod.ext rfl h, near_right (Prod.ext rfl h)⟩
    · exact .inr h
  · exact .inr rfl
/-- One, so often multiplied. -/
def powN (M E : Int) : Nat → (Int × Int) × Int
  | 0 => ((1, 0), 0)
  | n + 1 => if (powN M E n).2 = 0 then mulD (powN M E n).1.1 (powN M E n).1.2 M E else powN M E n
theorem powN_two (M E : Int) : ∀ n, (∃ p, powN M E n = (p, 0) ∧ RightP p) ∨ powN M E n = ((0, 0), 10)
  | 0 => .inl ⟨(1, 0), rfl, by decide, by decide, by decide, by decide, .inr ⟨by decide, .inl (by decide)⟩⟩
  | n + 1 => by
    rw [powN]
    split
    · exact mulD_two _ _ _ _
    · exact powN_two M E n
theorem powN_ok {M E : Int} {n : Nat} {X Y : Int} (h : powN M E n = ((X, Y), 0)) : powN M E (n + 1) = mulD X Y M E := by rw [powN, h]; rfl
theorem powN_err {M E : Int} {n : Nat} (h : powN M E n = ((0, 0), 10)) : ∀ k, powN M E (n + k) = ((0, 0), 10)
  | 0 => h
  | k + 1 => by rw [← Nat.add_assoc, powN, powN_err h k]; rfl

set_option maxRecDepth 100000 in
set_option maxHeartbeats 4000000 in
theorem pow_pos (M E n : Int) (w : World) (h0 : -9223372036854775808 ≤ M) (h1 : M ≤ 9223372036854775807) (hr : rightB M E = true) (n0 : 0 ≤ n) (n1 : n ≤ 100) :
    Calls Tryd.prog 20 #[.agg #[.int .i64 M, .int .i64 E], .int .i64 n] w (DecPost (powN M E n.toNat) w) := by
  go_enter Tryd.func20, Tryd.ntmps20
  go_wp2_with fail
  obtain ⟨W, hW⟩ : ∃ W, W = (w.alloc (.cells #[.int .i64 M, .int .i64 E] 23)).alloc (.cells #[.int .i64 0, .int .i64 0] 23) := ⟨_, rfl⟩
  rw [← hW]
  have d0 : World.dec W w.heap.size M E := by rw [hW]; exact (World.dec_new w M E _ rfl).alloc _
  have d2 : World.dec W (w.heap.size + 1) 0 0 := by rw [hW]; exact World.dec_new _ 0 0 _ (by simp)
  have hB : Below w.heap.size w W := by rw [hW]; exact ((Below.refl _ w).alloc (Nat.le_refl _) _).alloc (by simp) _
  clear hW
  refine (right_any M E _ h0 h1).mono ?_
  rintro e w1 ⟨rfl, hB1⟩
  have d0 := d0.below hB1 d0.lt
  have d2 := d2.below hB1 d2.lt
  have hB := hB.trans (hB1.mono hB.size)
  clear hB1
  go_wp2_with fail
  obtain ⟨W, hW⟩ : ∃ W, W = w1.alloc (.cells #[.int .i64 1, .int .i64 0] 23) := ⟨_, rfl⟩
  rw [← hW]
  obtain ⟨g, hg⟩ : ∃ g, g = w1.heap.size := ⟨_, rfl⟩
  rw [← hg]
  have d8 : World.dec W g 1 0 := by rw [hW]; exact World.dec_new w1 1 0 _ hg
  have hg2 : w.heap.size + 1 < g := by rw [hg]; exact d2.lt
  have d0 : World.dec W w.heap.size M E := by rw [hW]; exact d0.alloc _
  have d2 : World.dec W (w.heap.size + 1) 0 0 := by rw [hW]; exact d2.alloc _
  have hB : Below w.heap.size w W := by rw [hW]; exact hB.alloc hB.size _
  clear hW hg
  go_loopw [45] (fun k wr => ∃ (K : Nat) (X Y : Int), k = .int .i64 K ∧ (K : Int) ≤ n ∧ Hid (powN M E K = ((X, Y), 0)) ∧ RightP (X, Y) ∧ World.dec wr g X Y ∧ World.dec wr w.heap.size M E ∧ World.dec wr (w.heap.size + 1) 0 0 ∧ Below w.heap.size w wr) (fun k _ => (n - intOf k).toNat)
  case atStart => exact ⟨0, 1, 0, rfl, n0, rfl, ⟨by decide, by decide, by decide, by decide, .inr ⟨by decide, .inl (by decide)⟩⟩, d8, d0, d2, hB⟩
  case round =>
    obtain ⟨K, X, Y, rfl, k0, HN, hR, e8, e0, e2, hB2⟩ := hrel
    clear d8 d0 d2 hB
    obtain ⟨x0, x1, y0, y1, _⟩ := hR
    simp only at x0 x1 y0 y1
    have a0 := e0.c0
    have a1 := e0.c1
    have b0 := e8.c0
    have b1 := e8.c1
    by_cases c : (K : Int) < n
    · go_wp2_with fail
      refine (mul_any X Y M E _ (by omega) (by omega) h0 h1).mono ?_
      rintro e w2 ⟨rfl, hB1⟩
      have HS : Hid (powN M E (K + 1) = mulD X Y M E) := powN_ok HN.out
      have e8 := e8.below hB1 e8.lt
      have e0 := e0.below hB1 e0.lt
      have e2 := e2.below hB1 e2.lt
      have hB3 := hB2.trans (hB1.mono hB2.size)
      have hlt := e8.lt
      have hl2 := e2.lt
      have hl0 := e0.lt
      clear hB1 hB2 a0 a1 b0 b1
      rcases mulD_two X Y M E with ⟨⟨X', Y'⟩, hp, hR'⟩ | hp
      · rw [hp]
        have HP := Lib.hid hp
        clear hp
        have f0 := e8.frozen 0
        have f1 := e8.frozen 1
        have b0 := e8.c0
        have b1 := e8.c1
        go_wp2_with fail
        go_roundw
        case rel =>
          refine ⟨K + 1, X', Y', by go_num, by omega, ?_, hR', ((e8.set0 X').set1 Y').alloc _, ((e0.other (by simp; omega) _).other (by simp; omega) _).alloc _, ((e2.other (by simp; omega) _).other (by simp; omega) _).alloc _, ?_⟩
          · show _ = _; rw [HS.out, HP.out]
          · refine Below.alloc ((hB3.setCell (by simp; omega) _).setCell (by simp; omega) _) ?_ _
            simp; exact hB3.size
        case measure => first | (simp [intOf]; done) | (simp [intOf]; omega)
      · rw [hp]
        have HP := Lib.hid hp
        clear hp
        have f0 := e2.frozen 0
        have f1 := e2.frozen 1
        have b0 := e2.c0
        have b1 := e2.c1
        go_wp2_with fail
        refine bodyPost_ret (results_dec_tmp rfl _ _ _ 0 0 rfl (((e2.set0 0).set1 0).alloc _)) rfl ?_
        refine ⟨?_, Below.alloc ((hB3.setCell (by simp) _).setCell (by simp) _) (by simp; exact hB3.size) _⟩
        have h10 : powN M E n.toNat = ((0, 0), 10) := by
          have := powN_err (HS.out.trans HP.out) (n.toNat - (K + 1))
          rw [show K + 1 + (n.toNat - (K + 1)) = n.toNat by omega] at this
          exact this
        rw [h10]; rfl
    · have f0 := e2.frozen 0
      have f1 := e2.frozen 1
      have b0 := e2.c0
      have b1 := e2.c1
      go_wp2_with fail
      refine bodyPost_ret (results_dec_tmp rfl _ _ _ X Y rfl ((e2.set0 X).set1 Y)) rfl ?_
      refine ⟨?_, (hB2.setCell (by simp) _).setCell (by simp) _⟩
      rw [show n.toNat = K by omega, HN.out]; rfl

set_option maxRecDepth 100000 in
set_option maxHeartbeats 4000000 in
theorem pow_no (M E n : Int) (w : World) (h0 : -9223372036854775808 ≤ M) (h1 : M ≤ 9223372036854775807) (hr : rightB M E = false) :
    Calls Tryd.prog 20 #[.agg #[.int .i64 M, .int .i64 E], .int .i64 n] w (DecPost ((0, 0), 10) w) := by
  go_enter Tryd.func20, Tryd.ntmps20
  go_wp2_with fail
  obtain ⟨W, hW⟩ : ∃ W, W = (w.alloc (.cells #[.int .i64 M, .int .i64 E] 23)).alloc (.cells #[.int .i64 0, .int .i64 0] 23) := ⟨_, rfl⟩
  rw [← hW]
  have d0 : World.dec W w.heap.size M E := by rw [hW]; exact (World.dec_new w M E _ rfl).alloc _
  have d2 : World.dec W (w.heap.size + 1) 0 0 := by rw [hW]; exact World.dec_new _ 0 0 _ (by simp)
  have hB : Below w.heap.size w W := by rw [hW]; exact ((Below.refl _ w).alloc (Nat.le_refl _) _).alloc (by simp) _
  clear hW
  refine (right_any M E _ h0 h1).mono ?_
  rintro e w1 ⟨rfl, hB1⟩
  have d0 := d0.below hB1 d0.lt
  have d2 := d2.below hB1 d2.lt
  have hB := hB.trans (hB1.mono hB.size)
  clear hB1
  have f0 := d2.frozen 0
  have f1 := d2.frozen 1
  have b0 := d2.c0
  have b1 := d2.c1
  go_wp2_with fail
  refine bodyPost_ret (results_dec_tmp rfl _ _ _ 0 0 rfl ((d2.set0 0).set1 0)) rfl ?_
  exact ⟨rfl, (hB.setCell (by simp) _).setCell (by simp) _⟩

set_option maxRecDepth 100000 in
set_option maxHeartbeats 4000000 in
theorem pow_arg (M E n : Int) (w : World) (h0 : -9223372036854775808 ≤ M) (h1 : M ≤ 9223372036854775807) (hr : rightB M E = true) (hn : n < -100 ∨ 100 < n) :
    Calls Tryd.prog 20 #[.agg #[.int .i64 M, .int .i64 E], .int .i64 n] w (DecPost ((0, 0), 2) w) := by
  go_enter Tryd.func20, Tryd.ntmps20
  go_wp2_with fail
  obtain ⟨W, hW⟩ : ∃ W, W = (w.alloc (.cells #[.int .i64 M, .int .i64 E] 23)).alloc (.cells #[.int .i64 0, .int .i64 0] 23) := ⟨_, rfl⟩
  rw [← hW]
  have d0 : World.dec W w.heap.size M E := by rw [hW]; exact (World.dec_new w M E _ rfl).alloc _
  have d2 : World.dec W (w.heap.size + 1) 0 0 := by rw [hW]; exact World.dec_new _ 0 0 _ (by simp)
  have hB : Below w.heap.size w W := by rw [hW]; exact ((Below.refl _ w).alloc (Nat.le_refl _) _).alloc (by simp) _
  clear hW
  refine (right_any M E _ h0 h1).mono ?_
  rintro e w1 ⟨rfl, hB1⟩
  have d0 := d0.below hB1 d0.lt
  have d2 := d2.below hB1 d2.lt
  have hB := hB.trans (hB1.mono hB.size)
  clear hB1
  rcases hn with hn | hn
  all_goals
    have f0 := d2.frozen 0
    have f1 := d2.frozen 1
    have b0 := d2.c0
    have b1 := d2.c1
    go_wp2_with fail
    refine bodyPost_ret (results_dec_tmp rfl _ _ _ 0 0 rfl ((d2.set0 0).set1 0)) rfl ?_
    exact ⟨rfl, (hB.setCell (by simp) _).setCell (by simp) _⟩

/-- One by a power, or the power's error. -/
def invR (r : (Int × Int) × Int) : (Int × Int) × Int := if r.2 = 0 then divD 1 0 r.1.1 r.1.2 else ((0, 0), r.2)

set_option maxRecDepth 100000 in
set_option maxHeartbeats 4000000 in
theorem pow_neg (M E n : Int) (w : World) (h0 : -9223372036854775808 ≤ M) (h1 : M ≤ 9223372036854775807) (hr : rightB M E = true) (n0 : -100 ≤ n) (n1 : n < 0) :
    Calls Tryd.prog 20 #[.agg #[.int .i64 M, .int .i64 E], .int .i64 n] w (DecPost (invR (powN M E (-n).toNat)) w) := by
  go_enter Tryd.func20, Tryd.ntmps20
  go_wp2_with fail
  obtain ⟨W, hW⟩ : ∃ W, W = (w.alloc (.cells #[.int .i64 M, .int .i64 E] 23)).alloc (.cells #[.int .i64 0, .int .i64 0] 23) := ⟨_, rfl⟩
  rw [← hW]
  have d0 : World.dec W w.heap.size M E := by rw [hW]; exact (World.dec_new w M E _ rfl).alloc _
  have d2 : World.dec W (w.heap.size + 1) 0 0 := by rw [hW]; exact World.dec_new _ 0 0 _ (by simp)
  have hB : Below w.heap.size w W := by rw [hW]; exact ((Below.refl _ w).alloc (Nat.le_refl _) _).alloc (by simp) _
  clear hW
  refine (right_any M E _ h0 h1).mono ?_
  rintro e w1 ⟨rfl, hB1⟩
  have d0 := d0.below hB1 d0.lt
  have d2 := d2.below hB1 d2.lt
  have hB := hB.trans (hB1.mono hB.size)
  clear hB1
  have a0 := d0.c0
  have a1 := d0.c1
  go_wp2_with fail
  refine (pow_pos M E (-n) _ h0 h1 hr (by omega) (by omega)).mono ?_
  rintro e w2 ⟨rfl, hB1⟩
  have d2 := d2.below hB1 d2.lt
  have hB := hB.trans (hB1.mono hB.size)
  have hl2 := d2.lt
  clear hB1 a0 a1 d0
  rcases powN_two M E (-n).toNat with ⟨⟨X, Y⟩, hp, hR⟩ | hp
  · rw [hp]
    have HP := Lib.hid hp
    clear hp
    obtain ⟨x0, x1, y0, y1, _⟩ := hR
    simp only at x0 x1 y0 y1
    go_wp2_with fail
    refine (div_any 1 0 X Y _ (by omega) (by omega) (by omega) (by omega)).mono ?_
    rintro e w3 ⟨rfl, hB1⟩
    have d2 := (d2.alloc _).below hB1 (by simp; omega)
    have hB := (hB.alloc hB.size _).trans (hB1.mono (by simp; have := hB.size; omega))
    have f0 := d2.frozen 0
    have f1 := d2.frozen 1
    have b0 := d2.c0
    have b1 := d2.c1
    go_wp2_with fail
    refine bodyPost_ret (results_dec_tmp rfl _ _ _ _ _ rfl ((d2.set0 _).set1 _)) rfl ?_
    refine ⟨?_, (hB.setCell (by simp) _).setCell (by simp) _⟩
    rw [HP.out]; rfl
  · rw [hp]
    have HP := Lib.hid hp
    clear hp
    have f0 := d2.frozen 0
    have f1 := d2.frozen 1
    have b0 := d2.c0
    have b1 := d2.c1
    go_wp2_with fail
    refine bodyPost_ret (results_dec_tmp rfl _ _ _ 0 0 rfl (((d2.set0 0).set1 0).alloc _)) rfl ?_
    refine ⟨?_, Below.alloc ((hB.setCell (by simp) _).setCell (by simp) _) (by simp; exact hB.size) _⟩
    rw [HP.out]; rfl

/-- A power. -/
def powD (M E n : Int) : (Int × Int) × Int := if rightB M E = true then (if -100 ≤ n ∧ n ≤ 100 then (if n < 0 then invR (powN M E (-n).toNat) else powN M E n.toNat) else ((0, 0), 2)) else ((0, 0), 10)
theorem pow_any (M E n : Int) (w : World) (h0 : -9223372036854775808 ≤ M) (h1 : M ≤ 9223372036854775807) :
    Calls Tryd.prog 20 #[.agg #[.int .i64 M, .int .i64 E], .int .i64 n] w (DecPost (powD M E n) w) := by
  unfold powD
  by_cases hr : rightB M E = true
  · rw [if_pos hr]
    by_cases hn : -100 ≤ n ∧ n ≤ 100
    · rw [if_pos hn]
      by_cases h : n < 0
      · rw [if_pos h]; exact pow_neg M E n w h0 h1 hr hn.1 h
      · rw [if_neg h]; exact pow_pos M E n w h0 h1 hr (by omega) hn.2
    · rw [if_neg hn]; exact pow_arg M E n w h0 h1 hr (by omega)
  · rw [if_neg hr]; exact pow_no M E n w h0 h1 (by simpa using hr)
end Go.Proofs.YtpkohfdebgiloaaDoor
