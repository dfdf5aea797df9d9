/- number.exact. -/
import Derived.Test.YtpkohfdebgiloaaDoorCut
import Derived.Test.YtpkohfdebgiloaaDoorSpec
namespace Go.Proofs.YtpkohfdebgiloaaDoor
open Go.RowKit

/-- Block b holds a decimal. -/
def World.dec (w : World) (b : Nat) (M E : Int) : Prop := w.heap[b]? = some (.cells #[.int .i64 M, .int .i64 E] 23 (0, 0))
section
variable {w w' : World} {b : Nat} {M E : Int}
theorem World.dec.c0 (h : World.dec w b M E) : w.cell? ⟨b, 0, none⟩ = some (.int .i64 M) := by rw [cell_of_row w b 0 _ _ _ h]; rfl
theorem World.dec.c1 (h : World.dec w b M E) : w.cell? ⟨b, 1, none⟩ = some (.int .i64 E) := by rw [cell_of_row w b 1 _ _ _ h]; rfl
theorem World.dec.frozen (h : World.dec w b M E) (o : Nat) : w.frozen? ⟨b, o, none⟩ = false := frozen_of_row w b o _ _ h
theorem World.dec.lt (h : World.dec w b M E) : b < w.heap.size := (Array.getElem?_eq_some_iff.1 h).1
theorem World.dec.set0 (h : World.dec w b M E) (v : Int) : World.dec (w.setCell ⟨b, 0, none⟩ (.int .i64 v)) b v E := by unfold World.dec; rw [heap_setCell_same w b 0 _ 23 _ h]; rfl
theorem World.dec.set1 (h : World.dec w b M E) (v : Int) : World.dec (w.setCell ⟨b, 1, none⟩ (.int .i64 v)) b M v := by unfold World.dec; rw [heap_setCell_same w b 1 _ 23 _ h]; rfl
theorem World.dec.other (h : World.dec w b M E) {a : Addr} (hne : b ≠ a.block) (v : Value) : World.dec (w.setCell a v) b M E := by unfold World.dec; rw [heap_setCell_other w a b v hne]; exact h
theorem World.dec.alloc (h : World.dec w b M E) (o : Obj) : World.dec (w.alloc o) b M E := by unfold World.dec; rw [heap_alloc_old w o h.lt]; exact h
theorem World.dec.drew (h : World.dec w b M E) : World.dec w.drew b M E := h
theorem World.dec.drewN (h : World.dec w b M E) (n : Nat) : World.dec (w.drewN n) b M E := h
theorem World.dec.below {B : Nat} (h : World.dec w b M E) (hb : Below B w w') (hlt : b < B) : World.dec w' b M E := by unfold World.dec; rw [hb.block b hlt]; exact h
theorem World.dec_new (w : World) (M E : Int) (n : Nat) (hn : n = w.heap.size) : World.dec (w.alloc (.cells #[.int .i64 M, .int .i64 E] 23)) n M E := by subst hn; exact heap_alloc_new w _
end
def cellInt (w : World) (b o : Nat) : Int := match w.cell? ⟨b, o, none⟩ with | some v => intOf v | none => 0
theorem cellInt_eq {w : World} {b o : Nat} {k : IntKind} {n : Int} (h : w.cell? ⟨b, o, none⟩ = some (.int k n)) : cellInt w b o = n := by unfold cellInt; rw [h]; rfl
abbrev decV (p : Int × Int) : Value := .agg #[.int .i64 p.1, .int .i64 p.2]

set_option maxRecDepth 100000 in
set_option maxHeartbeats 1000000 in
theorem exact_any (b : Nat) (s m : Bool) (D k : Nat) (t : Int) (w : World) (hx : World.num w b s (dg D) m) (k0 : 39 ≤ k) (k1 : k ≤ 57) (t0 : -1 ≤ t) (t1 : t ≤ 95) (ht : Hid (D < 10 ^ (t + 1).toNat)) (hM : Hid (D / 10 ^ k < 10 ^ 15)) :
    Calls Tryd.prog 70 #[.pointer (some ⟨b, 0, none⟩), .int .i64 t, .int .i64 k] w fun e w' => e = .returned (decV (decOf s (D / 10 ^ k) ((k : Int) - 48))) ∧ Below w.heap.size w w' := by
  go_enter Tryd.func70, Tryd.ntmps70
  go_wp2
  obtain ⟨W, hW⟩ : ∃ W, W = (w.alloc (.cells #[.int .i64 0, .int .i64 0] 23)).alloc (.cells #[.int .i64 0, .int .i64 0] 23) := ⟨_, rfl⟩
  rw [← hW]
  have d0 : World.dec W w.heap.size 0 0 := by rw [hW]; exact (World.dec_new w 0 0 _ rfl).alloc _
  have d1 : World.dec W (w.heap.size + 1) 0 0 := by rw [hW]; exact World.dec_new _ 0 0 _ (by simp)
  have hB : Below w.heap.size w W := by rw [hW]; exact ((Below.refl _ w).alloc (Nat.le_refl _) _).alloc (by simp) _
  clear hW
  have hbl := hx.lt
  go_loopw [8] (fun i wr => ∃ j : Nat, i = .int .i64 ((j : Int) - 1) ∧ (j : Int) - 1 ≤ t ∧ Hid (k ≤ j ∨ (j : Int) - 1 = t) ∧ World.dec wr (w.heap.size + 1) ((D / 10 ^ j : Nat) : Int) 0 ∧ World.dec wr w.heap.size 0 0 ∧ Below w.heap.size w wr) (fun i _ => (intOf i + 1).toNat)
  case atStart =>
    refine ⟨(t + 1).toNat, by congr 1; omega, by omega, .inr (by omega), ?_, d0, hB⟩
    rw [Nat.div_eq_of_lt ht.out]; exact d1
  case round =>
    obtain ⟨j, rfl, j0, hj, e1, e0, hBr⟩ := hrel
    clear d0 d1 hB
    by_cases c : (k : Int) ≤ (j : Int) - 1
    · obtain ⟨i, rfl⟩ : ∃ i, j = i + 1 := ⟨j - 1, by omega⟩
      rw [show ((i + 1 : Nat) : Int) - 1 = (i : Int) by omega] at *
      have hn : World.num wr b s (dg D) m := World.num.below hx hBr hbl
      obtain ⟨hc, hf⟩ := World.num.at hn i (by omega)
      have c0 := e1.c0
      have f0 := e1.frozen 0
      have hiI : (i : Int) < 96 := by omega
      have hq := dg_nonneg D i
      have hq2 := dg_le D i
      have HD := Lib.hid (div_take D i)
      have hle : D / 10 ^ i ≤ D / 10 ^ k := Nat.div_le_div_left (Nat.pow_le_pow_right (by decide) (by omega)) (pow10_pos k)
      have hbd : D / 10 ^ (i + 1) ≤ 99999999999999 := by have h1 := HD.out; have h2 := hM.out; rw [show (10 : Nat) ^ 15 = 1000000000000000 from by decide] at h2; omega
      clear hle
      obtain ⟨X, hX⟩ : ∃ X : Int, X = ((D / 10 ^ (i + 1) : Nat) : Int) := ⟨_, rfl⟩
      rw [← hX] at c0
      have x0 : 0 ≤ X := hX ▸ Int.natCast_nonneg _
      have x1 : X ≤ 99999999999999 := by rw [hX]; exact Int.ofNat_le.2 hbd
      have HX := Lib.hid hX
      clear hX hbd
      go_wp2
      refine wp_region_still_tail 12 (by kernel_rfl) (by kernel_rfl) ?_
      change wpStill _ _ wr.drew _ _ _
      simp only [List.take_succ_cons, List.take_zero, List.drop_succ_cons, List.drop_zero]
      iterate 12 still_step
      refine wpStill_nil ?_
      change wpList _ _ _ _ _ wr.drew
      go_wp2_with fail
      go_roundw
      case rel =>
        refine ⟨i, rfl, by omega, .inl (by omega), ?_, World.dec.drew (World.dec.other e0 (by simp) _), (hBr.setCell (by simp) _).drew⟩
        have h := World.dec.drew (World.dec.set0 e1 (10 * X + dg D i))
        have hv : 10 * X + dg D i = ((D / 10 ^ i : Nat) : Int) := by rw [HX.out]; exact HD.out
        rw [hv] at h ⊢
        exact h
      case measure => first | (simp [intOf]; done) | (simp [intOf]; omega)
    · have hjk : D / 10 ^ j = D / 10 ^ k := by
        rcases hj.out with h | h
        · rw [show j = k by omega]
        · have h2 := ht.out
          rw [show (t + 1).toNat = j by omega] at h2
          rw [Nat.div_eq_of_lt h2, Nat.div_eq_of_lt (Nat.lt_of_lt_of_le h2 (Nat.pow_le_pow_right (by decide) (by omega)))]
      rw [hjk] at e1
      obtain ⟨Y, hY⟩ : ∃ Y : Int, Y = ((D / 10 ^ k : Nat) : Int) := ⟨_, rfl⟩
      rw [← hY] at e1
      have y0 : 0 ≤ Y := hY ▸ Int.natCast_nonneg _
      have y1 : Y ≤ 999999999999999 := by have h2 := hM.out; rw [show (10 : Nat) ^ 15 = 1000000000000000 from by decide] at h2; rw [hY]; omega
      have HY := Lib.hid hY
      clear hjk hY
      have hn : World.num wr b s (dg D) m := World.num.below hx hBr hbl
      have g0 := e0.c0
      have g1 := e0.c1
      have gf0 := e0.frozen 0
      have gf1 := e0.frozen 1
      have a0 := e1.c0
      have a1 := e1.c1
      have af0 := e1.frozen 0
      have af1 := e1.frozen 1
      by_cases hz : Y = 0
      · have hz0 : (Y == 0) = true := by simp [hz]
        have hz := Lib.hid hz
        go_wp2
        refine bodyPost_ret (results_cell_row rfl _ _ _ 23 _ (0, 0) _ rfl (World.dec.set1 (World.dec.set0 e0 0) 0) Tryd.underlying23 rfl (by kernel_rfl)) rfl ?_
        refine ⟨?_, (hBr.setCell (by simp) _).setCell (by simp) _⟩
        have : D / 10 ^ k = 0 := by have h1 := hz.out; have h2 := HY.out; omega
        rw [this]; rfl
      · have hz0 : (Y == 0) = false := by simp [hz]
        have hz := Lib.hid hz
        go_wp2
        have e2 := World.dec.set1 e1 ((k : Int) - 48)
        have e3 : World.dec (wr.setCell ⟨w.heap.size + 1, 1, none⟩ (.int .i64 ((k : Int) - 48))) w.heap.size 0 0 := World.dec.other e0 (by simp) _
        have hB2 : Below w.heap.size w (wr.setCell ⟨w.heap.size + 1, 1, none⟩ (.int .i64 ((k : Int) - 48))) := hBr.setCell (by simp) _
        clear e0 e1 hBr hn g0 g1 gf0 gf1 a0 a1 af0 af1
        go_loopw [35] (fun _ wr => ∃ (M : Nat) (E : Int), (M : Int) ≤ 999999999999999 ∧ -9 ≤ E ∧ E ≤ 9 ∧ Hid (M ≠ 0 ∧ strip (9 - E).toNat M E = strip (9 - ((k : Int) - 48)).toNat (D / 10 ^ k) ((k : Int) - 48)) ∧ World.dec wr (w.heap.size + 1) M E ∧ World.dec wr w.heap.size 0 0 ∧ Below w.heap.size w wr) (fun _ wr => (9 - cellInt wr (w.heap.size + 1) 1).toNat)
        case atStart =>
          refine ⟨D / 10 ^ k, (k : Int) - 48, ?_, by omega, by omega, ⟨fun h => hz.out (by rw [HY.out, h]; rfl), rfl⟩, ?_, e3, hB2⟩
          · rw [← HY.out]; exact y1
          · rw [← HY.out]; exact e2
        case round =>
          obtain ⟨M, E, m1, e4, e5, HS, f1, f0, hBr⟩ := hrel
          clear e2 e3 hB2
          have a0 := f1.c0
          have a1 := f1.c1
          have af0 := f1.frozen 0
          have af1 := f1.frozen 1
          by_cases c : M % 10 = 0 ∧ E < 9
          · obtain ⟨c1, c2⟩ := c
            have c1' : ((M : Int) % 10 == 0) = true := by simp; omega
            have c1 := Lib.hid c1
            go_wp2
            go_roundw
            case rel =>
              refine ⟨M / 10, E + 1, by omega, by omega, by omega, ⟨?_, ?_⟩, ?_, World.dec.other (World.dec.other f0 (by simp) _) (by simp) _, (hBr.setCell (by simp) _).setCell (by simp) _⟩
              · have h1 := HS.out.1; have h2 := c1.out; omega
              · rw [← HS.out.2, strip_step c1.out c2 rfl]; congr 1; omega
              · have h := World.dec.set1 (World.dec.set0 f1 ((M : Int) / 10)) (E + 1)
                rw [Int.natCast_ediv]; exact h
            case measure =>
              rw [cellInt_eq (World.dec.c1 (World.dec.set1 (World.dec.set0 f1 ((M : Int) / 10)) (E + 1))), cellInt_eq a1]; omega
          · have hn : World.num wr b s (dg D) m := World.num.below hx hBr hbl
            have hs := hn.sign
            have g0 := f0.c0
            have g1 := f0.c1
            have gf0 := f0.frozen 0
            have gf1 := f0.frozen 1
            have hres : Hid (decOf s (D / 10 ^ k) ((k : Int) - 48) = (if s then -(M : Int) else (M : Int), E)) := by
              show _ = _
              unfold decOf
              rw [if_neg (fun h => hz.out (by rw [HY.out, h]; rfl)), ← HS.out.2, strip_stop c]
            have hm0 : (M : Int) ≠ 0 := by have := HS.out.1; omega
            have hm0 := Lib.hid hm0
            have hcase : ((M : Int) % 10 == 0) = false ∨ ((M : Int) % 10 == 0) = true ∧ ¬ E < 9 := by
              by_cases h : M % 10 = 0
              · right; exact ⟨by simp; omega, fun h2 => c ⟨h, h2⟩⟩
              · left; simp; omega
            clear c
            rcases hcase with hc1 | ⟨hc1, hc2⟩
            all_goals
              cases s
              · go_wp2
                refine bodyPost_ret (results_cell_row rfl _ _ _ 23 _ (0, 0) _ rfl (World.dec.set1 (World.dec.set0 f0 (M : Int)) E) Tryd.underlying23 rfl (by kernel_rfl)) rfl ?_
                refine ⟨?_, (hBr.setCell (by simp) _).setCell (by simp) _⟩
                rw [hres.out]; rfl
              · go_wp2
                refine bodyPost_ret (results_cell_row rfl _ _ _ 23 _ (0, 0) _ rfl (World.dec.set1 (World.dec.set0 (World.dec.other f0 (by simp) _) (-(M : Int))) E) Tryd.underlying23 rfl (by kernel_rfl)) rfl ?_
                refine ⟨?_, ((hBr.setCell (by simp) _).setCell (by simp) _).setCell (by simp) _⟩
                rw [hres.out]; rfl
end Go.Proofs.YtpkohfdebgiloaaDoor
