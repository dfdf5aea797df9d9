/- dec.Of. -/
import Derived.Test.YtpkohfdebgiloaaDoorEqs
import Derived.Deep.DeepCutAuto
namespace Go.Proofs.YtpkohfdebgiloaaDoor
open Go.RowKit Go.Shelf

section
variable {P : Program} {ops : Array Oper} {S : World → Prop} {o : Oper} {a : Act}
theorem yieldsIf_load56 {x : Operand} {g : Nat} {s : Bool} {f : Nat → Int} {m : Bool} (hw : Region.wanted o (yielded ops a.tmps) = true) (ho : o.op = .load 56 x) (hx : a.eval x = .pointer (some ⟨g, 0, none⟩))
    (hS : ∀ w, S w → World.num w g s f m) : YieldsIf Tryd.prog ops S o (.agg (numF s f m)) a := .inl ⟨hw, fun w h => by
  unfold execOp
  simp only [ho, hx, Instr.loadAt, Instr.sureAddr, Sem.run_bind, Sem.run_pure, Result.andThen_ok, run_loadVar_row w g 56 56 _ (0, 0) _ (hS w h) Tryd.underlying56 rfl (info56' s f m)]⟩
theorem eqGuard56 (op : BinOp) (x y : Operand) (u v : Array Value) (w : World) : (eqGuard op 56 x y (.agg u) (.agg v)).run Tryd.prog w = .ok () w := by
  have h : Tryd.prog.eqGuardType Tryd.prog.depth 56 = false := by kernel_rfl
  unfold eqGuard
  by_cases c : (!(op matches .eql | .neq)) = true
  · simp
  · simp [h]
theorem yieldsIf_neq56 {x y : Operand} {t : TypeId} {s s' : Bool} {f f' : Nat → Int} {m m' : Bool} (hw : Region.wanted o (yielded ops a.tmps) = true) (ho : o.op = .binOp .neq 56 x y t)
    (hx : a.eval x = .agg (numF s f m)) (hy : a.eval y = .agg (numF s' f' m')) : YieldsIf Tryd.prog ops S o (.bool (!sameF s s' f f' m m')) a := .inl ⟨hw, fun w _ => by
  have h := eq56 w s s' f f' m m'
  have hg := eqGuard56 .neq x y (numF s f m) (numF s' f' m') w
  unfold execOp
  simp only [ho, hx, hy, binOp, Sem.run_bind, hg, h, Sem.run_pure, Result.andThen_ok]⟩
end

def ofN (n : Int) : Nat := n.natAbs * 10 ^ 48
def ofS (n : Int) (p : Int × Int) : Bool := sameF (decide (p.1 < 0)) (decide (n < 0)) (dg (layD p.1 p.2)) (dg (ofN n)) false false
/-- A whole number as a decimal. -/
def ofD (n : Int) : (Int × Int) × Int := if (near (decide (n < 0)) (ofN n) false).2 = 0 then (if ofS n (near (decide (n < 0)) (ofN n) false).1 = true then (near (decide (n < 0)) (ofN n) false) else ((0, 0), 10)) else ((0, 0), 10)

theorem ofN_lt {n : Int} (h0 : -9223372036854775808 ≤ n) (h1 : n ≤ 9223372036854775807) : ofN n + 10 ^ 57 < 10 ^ 96 := by
  have hV : n.natAbs < 10 ^ 19 := by rw [show (10 : Nat) ^ 19 = 10000000000000000000 from by decide]; omega
  have e : ofN n < 10 ^ 19 * 10 ^ 48 := Nat.mul_lt_mul_of_pos_right hV (pow10_pos 48)
  have e3 : 10 ^ 19 * 10 ^ 48 + 10 ^ 57 < 10 ^ 96 := by decide
  omega
theorem of_int (n : Int) (w : World) (h0 : -9223372036854775808 ≤ n) (h1 : n ≤ 9223372036854775807) :
    Calls Tryd.prog 43 #[.bool (decide (n < 0)), .int .u64 0, .int .u64 (n.natAbs : Int), .int .i64 0] w (OfPost (decide (n < 0)) (ofN n) w) := by
  have hV : n.natAbs < 10 ^ 19 := by rw [show (10 : Nat) ^ 19 = 10000000000000000000 from by decide]; omega
  have hb : Hid (n.natAbs * 10 ^ 48 < 10 ^ 96) := lay_lt (a := 19) (b := 48) hV (by decide) (by decide)
  exact of_any _ 0 _ 0 n.natAbs 48 w (by omega) (Int.natCast_nonneg _) (by omega) (by omega) (by show _ = _; omega) (by omega) hb (by decide)
theorem near_int (n : Int) (w : World) (h0 : -9223372036854775808 ≤ n) (h1 : n ≤ 9223372036854775807) :
    Calls Tryd.prog 34 #[.agg (numF (decide (n < 0)) (dg (ofN n)) false)] w (DecPost (near (decide (n < 0)) (ofN n) false) w) := nearest_any _ _ _ w (ofN_lt h0 h1)
theorem ofD_bad {n : Int} (h : near (decide (n < 0)) (ofN n) false = ((0, 0), 10)) : ofD n = ((0, 0), 10) := by unfold ofD; rw [h]; rfl
theorem ofD_yes {n : Int} {p : Int × Int} (h : near (decide (n < 0)) (ofN n) false = (p, 0)) (h2 : ofS n p = true) : ofD n = (p, 0) := by unfold ofD; rw [h]; simp only [if_true, h2]
theorem ofD_no {n : Int} {p : Int × Int} (h : near (decide (n < 0)) (ofN n) false = (p, 0)) (h2 : ofS n p = false) : ofD n = ((0, 0), 10) := by unfold ofD; rw [h]; simp only [if_true, h2]; rfl

set_option maxRecDepth 100000 in
set_option maxHeartbeats 4000000 in
theorem of_n (n : Int) (w : World) (h0 : -9223372036854775808 ≤ n) (h1 : n ≤ 9223372036854775807) :
    Calls Tryd.prog 15 #[.int .i64 n] w (DecPost (ofD n) w) := by
  go_enter Tryd.func15, Tryd.ntmps15
  go_wp2_with (first
    | (go_at_call 44; refine (abs_any _ _ h0 h1).mono ?_; rintro e w1 ⟨rfl, rfl⟩)
    | (go_at_call 43; go_must (refine (of_int n _ h0 h1).mono ?_; rintro e w1 ⟨rfl, hB1⟩))
    | refine wpList_alloc56 rfl rfl ?_
    | (refine wpList_store56 rfl rfl rfl rfl (World.num_new _ _ _ _) ?_; intro w3 hn3 hg3 hz3)
    | (refine wpList_load56 rfl rfl rfl hn3 ?_))
  have d2 : World.dec w1 w.heap.size 0 0 := World.dec.below (World.dec_new w 0 0 _ rfl) hB1 (by simp)
  have hB : Below w.heap.size w w1 := ((Below.refl _ w).alloc (Nat.le_refl _) _).trans (hB1.mono (by simp))
  have hlt := d2.lt
  have d2 : World.dec w3 w.heap.size 0 0 := World.dec.grown (d2.alloc _) hg3 (by simp; omega)
  have hB : Below w.heap.size w w3 := (hB.alloc hB.size _).grown hg3 (by have := hB.size; simp; omega) (fun k hk => by cases hk; exact hB.size)
  clear hg3 hz3 hB1
  refine (near_int n _ h0 h1).mono ?_
  rintro e w4 ⟨rfl, hB1⟩
  have d2 := d2.below hB1 d2.lt
  have hn4 := hn3.below hB1 hn3.lt
  have hB := hB.trans (hB1.mono hB.size)
  have hl2 := d2.lt
  have hl3 := hn4.lt
  clear hB1 hn3
  rcases near_two (decide (n < 0)) (ofN n) with h | h
  · obtain ⟨⟨X, Y⟩, hp⟩ : ∃ p, near (decide (n < 0)) (ofN n) false = (p, 0) := ⟨_, Prod.ext rfl h⟩
    rw [hp]
    have hR := near_right hp
    have HP := Lib.hid hp
    clear hp h
    obtain ⟨x0, x1, y0, y1, _⟩ := hR
    simp only at x0 x1 y0 y1
    go_wp2_with fail
    obtain ⟨W, hW⟩ : ∃ W, W = w4.alloc (.cells #[.int .i64 X, .int .i64 Y] 23) := ⟨_, rfl⟩
    rw [← hW]
    obtain ⟨g, hg⟩ : ∃ g, g = w4.heap.size := ⟨_, rfl⟩
    rw [← hg]
    have d5 : World.dec W g X Y := by rw [hW]; exact World.dec_new w4 X Y _ hg
    have d2 : World.dec W w.heap.size 0 0 := by rw [hW]; exact d2.alloc _
    have hn4 : World.num W w1.heap.size (decide (n < 0)) (dg (ofN n)) false := by rw [hW]; exact hn4.alloc _
    have hB : Below w.heap.size w W := by rw [hW]; exact hB.alloc hB.size _
    have hne : w.heap.size < g := by omega
    clear hW hg
    have a0 := d5.c0
    have a1 := d5.c1
    go_cut [24] (fun v wc => v = .bool (!ofS n (X, Y)) ∧ World.dec wc g X Y ∧ World.dec wc w.heap.size 0 0 ∧ Below w.heap.size w wc)
    case first =>
      refine wp_region_held_drew (S := fun w' => w'.cell? ⟨g, 0, none⟩ = some (.int .i64 X) ∧ w'.cell? ⟨g, 1, none⟩ = some (.int .i64 Y) ∧ World.num w' w1.heap.size (decide (n < 0)) (dg (ofN n)) false) (by kernel_rfl) ⟨a0, a1, hn4⟩ (fun hHeld => ?_)
      refine wpAnyH_take (i := 0) (oi := ⟨some 17, _, _, _, _, _⟩) (v := ?_) rfl (by kernel_rfl) (by kernel_rfl) (by kernel_rfl) (fun _ _ _ h => h) (Or.inl ⟨by rfl, ?_⟩) hHeld ?_
      rotate_left
      · (intro w hSw; (try dsimp only at hSw); go_simp)
        all_goals with_reducible rfl
      try simp only [Act.put, List.setIfInBounds_toArray, List.set_cons_zero, List.set_cons_succ]
      refine wpAnyH_take (i := 1) (oi := ⟨some 18, _, _, _, _, _⟩) (v := ?_) rfl (by kernel_rfl) (by kernel_rfl) (by kernel_rfl) (fun _ _ _ h => h) (Or.inl ⟨by rfl, ?_⟩) hHeld ?_
      rotate_left
      · (intro w hSw; (try dsimp only at hSw); go_simp)
        all_goals with_reducible rfl
      try simp only [Act.put, List.setIfInBounds_toArray, List.set_cons_zero, List.set_cons_succ]
      refine wpAnyH_take (i := 2) (oi := ⟨some 19, _, _, _, _, _⟩) (v := ?_) rfl (by kernel_rfl) (by kernel_rfl) (by kernel_rfl) (fun _ _ _ h => h) (Or.inl ⟨by rfl, ?_⟩) hHeld ?_
      rotate_left
      · (intro w hSw; (try dsimp only at hSw); go_simp)
        all_goals with_reducible rfl
      try simp only [Act.put, List.setIfInBounds_toArray, List.set_cons_zero, List.set_cons_succ]
      refine wpAnyH_take (i := 3) (oi := ⟨some 20, _, _, _, _, _⟩) (v := ?_) rfl (by kernel_rfl) (by kernel_rfl) (by kernel_rfl) (fun _ _ _ h => h) (Or.inl ⟨by rfl, ?_⟩) hHeld ?_
      rotate_left
      · (intro w hSw; (try dsimp only at hSw); go_simp)
        all_goals with_reducible rfl
      try simp only [Act.put, List.setIfInBounds_toArray, List.set_cons_zero, List.set_cons_succ]
      refine wpAnyH_take (i := 5) (oi := ⟨some 22, _, _, _, _, _⟩) rfl (by kernel_rfl) (by kernel_rfl) (by kernel_rfl) (fun _ _ _ h => h) (yieldsIf_load56 (by rfl) rfl rfl (fun w h => h.2.2)) hHeld ?_
      try simp only [Act.put, List.setIfInBounds_toArray, List.set_cons_zero, List.set_cons_succ]
      refine wpAnyH_ready (rs := [4]) (by kernel_rfl) (by simp) ?_
      refine AllReadyH.cons (o := ⟨some 21, _, _, _, _, _⟩) rfl (fun K hK => ?_) AllReadyH.nil
      go_simp
      refine (lay_any X Y _ x0 x1 y0 y1).mono ?_
      rintro e w5 ⟨rfl, hB1⟩
      have d5 := (World.dec.drew d5).below hB1 d5.lt
      have d2 := (World.dec.drew d2).below hB1 d2.lt
      have hn4 := (World.num.drew hn4).below hB1 hn4.lt
      have hB := hB.drew.trans (hB1.mono hB.size)
      clear hHeld
      refine hK.out _ _ ⟨d5.c0, d5.c1, hn4⟩ (fun hHeld => ?_)
      clear hK K
      try simp only [Act.put, List.setIfInBounds_toArray, List.set_cons_zero, List.set_cons_succ]
      refine wpAnyH_take (i := 6) (oi := ⟨some 23, _, _, _, _, _⟩) rfl (by kernel_rfl) (by kernel_rfl) (by kernel_rfl) (fun _ _ _ h => h) (yieldsIf_neq56 (by rfl) rfl rfl rfl) hHeld ?_
      try simp only [Act.put, List.setIfInBounds_toArray, List.set_cons_zero, List.set_cons_succ]
      refine wpAnyH_take (i := 7) (oi := ⟨some 24, _, _, _, _, _⟩) (v := ?_) rfl (by kernel_rfl) (by kernel_rfl) (by kernel_rfl) (fun _ _ _ h => h) (Or.inl ⟨by rfl, ?_⟩) hHeld ?_
      rotate_left
      · (intro w hSw; (try dsimp only at hSw); go_simp)
        all_goals with_reducible rfl
      try simp only [Act.put, List.setIfInBounds_toArray, List.set_cons_zero, List.set_cons_succ]
      refine wpAnyH_done (by kernel_rfl) ?_ _
      try simp only [Act.put, List.setIfInBounds_toArray, List.set_cons_zero, List.set_cons_succ]
      go_wp2_with fail
      go_meet
      case rel => exact ⟨rfl, d5, d2, hB⟩
    case rest =>
    obtain ⟨rfl, d5, d2, hB⟩ := hcut
    clear a0 a1
    have f0 := d2.frozen 0
    have f1 := d2.frozen 1
    have b0 := d2.c0
    have b1 := d2.c1
    have a0 := d5.c0
    have a1 := d5.c1
    cases hs : ofS n (X, Y)
    · have HS := Lib.hid hs
      clear hs
      go_wp2_with fail
      refine bodyPost_ret (results_dec_tmp rfl _ _ _ 0 0 rfl ((d2.set0 0).set1 0)) rfl ?_
      refine ⟨?_, (hB.setCell (by simp) _).setCell (by simp) _⟩
      rw [ofD_no HP.out HS.out]; rfl
    · have HS := Lib.hid hs
      clear hs
      go_wp2_with fail
      refine bodyPost_ret (results_dec_tmp rfl _ _ _ X Y rfl ((d2.set0 X).set1 Y)) rfl ?_
      refine ⟨?_, (hB.setCell (by simp) _).setCell (by simp) _⟩
      rw [ofD_yes HP.out HS.out]; rfl
  · rw [h]
    have HP := Lib.hid h
    clear h
    go_wp2_with fail
    obtain ⟨W, hW⟩ : ∃ W, W = w4.alloc (.cells #[.int .i64 0, .int .i64 0] 23) := ⟨_, rfl⟩
    rw [← hW]
    obtain ⟨g, hg⟩ : ∃ g, g = w4.heap.size := ⟨_, rfl⟩
    rw [← hg]
    have d5 : World.dec W g 0 0 := by rw [hW]; exact World.dec_new w4 0 0 _ hg
    have d2 : World.dec W w.heap.size 0 0 := by rw [hW]; exact d2.alloc _
    have hn4 : World.num W w1.heap.size (decide (n < 0)) (dg (ofN n)) false := by rw [hW]; exact hn4.alloc _
    have hB : Below w.heap.size w W := by rw [hW]; exact hB.alloc hB.size _
    have hne : w.heap.size < g := by omega
    clear hW hg
    have a0 := d5.c0
    have a1 := d5.c1
    go_cut [24] (fun v wc => v = .bool true ∧ World.dec wc g 0 0 ∧ World.dec wc w.heap.size 0 0 ∧ Below w.heap.size w wc)
    case first =>
      refine wp_region_held_drew (S := fun w' => w'.cell? ⟨g, 0, none⟩ = some (.int .i64 0) ∧ w'.cell? ⟨g, 1, none⟩ = some (.int .i64 0) ∧ World.num w' w1.heap.size (decide (n < 0)) (dg (ofN n)) false) (by kernel_rfl) ⟨a0, a1, hn4⟩ (fun hHeld => ?_)
      refine wpAnyH_take (i := 0) (oi := ⟨some 17, _, _, _, _, _⟩) (v := ?_) rfl (by kernel_rfl) (by kernel_rfl) (by kernel_rfl) (fun _ _ _ h => h) (Or.inl ⟨by rfl, ?_⟩) hHeld ?_
      rotate_left
      · (intro w hSw; (try dsimp only at hSw); go_simp)
        all_goals with_reducible rfl
      try simp only [Act.put, List.setIfInBounds_toArray, List.set_cons_zero, List.set_cons_succ]
      refine wpAnyH_take (i := 1) (oi := ⟨some 18, _, _, _, _, _⟩) (v := ?_) rfl (by kernel_rfl) (by kernel_rfl) (by kernel_rfl) (fun _ _ _ h => h) (Or.inl ⟨by rfl, ?_⟩) hHeld ?_
      rotate_left
      · (intro w hSw; (try dsimp only at hSw); go_simp)
        all_goals with_reducible rfl
      try simp only [Act.put, List.setIfInBounds_toArray, List.set_cons_zero, List.set_cons_succ]
      refine wpAnyH_take (i := 2) (oi := ⟨some 19, _, _, _, _, _⟩) (v := ?_) rfl (by kernel_rfl) (by kernel_rfl) (by kernel_rfl) (fun _ _ _ h => h) (Or.inl ⟨by rfl, ?_⟩) hHeld ?_
      rotate_left
      · (intro w hSw; (try dsimp only at hSw); go_simp)
        all_goals with_reducible rfl
      try simp only [Act.put, List.setIfInBounds_toArray, List.set_cons_zero, List.set_cons_succ]
      refine wpAnyH_take (i := 3) (oi := ⟨some 20, _, _, _, _, _⟩) rfl (by kernel_rfl) (by kernel_rfl) (by kernel_rfl) (fun _ _ _ h => h) (Or.inr ⟨by rfl, rfl⟩) hHeld ?_
      try simp only [Act.put, List.setIfInBounds_toArray, List.set_cons_zero, List.set_cons_succ]
      refine wpAnyH_take (i := 4) (oi := ⟨some 21, _, _, _, _, _⟩) rfl (by kernel_rfl) (by kernel_rfl) (by kernel_rfl) (fun _ _ _ h => h) (Or.inr ⟨by rfl, rfl⟩) hHeld ?_
      try simp only [Act.put, List.setIfInBounds_toArray, List.set_cons_zero, List.set_cons_succ]
      refine wpAnyH_take (i := 5) (oi := ⟨some 22, _, _, _, _, _⟩) rfl (by kernel_rfl) (by kernel_rfl) (by kernel_rfl) (fun _ _ _ h => h) (Or.inr ⟨by rfl, rfl⟩) hHeld ?_
      try simp only [Act.put, List.setIfInBounds_toArray, List.set_cons_zero, List.set_cons_succ]
      refine wpAnyH_take (i := 6) (oi := ⟨some 23, _, _, _, _, _⟩) rfl (by kernel_rfl) (by kernel_rfl) (by kernel_rfl) (fun _ _ _ h => h) (Or.inr ⟨by rfl, rfl⟩) hHeld ?_
      try simp only [Act.put, List.setIfInBounds_toArray, List.set_cons_zero, List.set_cons_succ]
      refine wpAnyH_take (i := 7) (oi := ⟨some 24, _, _, _, _, _⟩) (v := ?_) rfl (by kernel_rfl) (by kernel_rfl) (by kernel_rfl) (fun _ _ _ h => h) (Or.inl ⟨by rfl, ?_⟩) hHeld ?_
      rotate_left
      · (intro w hSw; (try dsimp only at hSw); go_simp)
        all_goals with_reducible rfl
      try simp only [Act.put, List.setIfInBounds_toArray, List.set_cons_zero, List.set_cons_succ]
      refine wpAnyH_done (by kernel_rfl) ?_ _
      try simp only [Act.put, List.setIfInBounds_toArray, List.set_cons_zero, List.set_cons_succ]
      have d5 := World.dec.drew d5
      have d2 := World.dec.drew d2
      have hB := hB.drew
      go_wp2_with fail
      go_meet
      case rel => exact ⟨rfl, d5, d2, hB⟩
    case rest =>
    obtain ⟨rfl, d5, d2, hB⟩ := hcut
    have f0 := d2.frozen 0
    have f1 := d2.frozen 1
    have b0 := d2.c0
    have b1 := d2.c1
    go_wp2_with fail
    refine bodyPost_ret (results_dec_tmp rfl _ _ _ 0 0 rfl ((d2.set0 0).set1 0)) rfl ?_
    refine ⟨?_, (hB.setCell (by simp) _).setCell (by simp) _⟩
    rw [ofD_bad HP.out]; rfl
end Go.Proofs.YtpkohfdebgiloaaDoor
