/- number.nearest: the decimal nearest to a number. -/
import Derived.Test.YtpkohfdebgiloaaDoorExact
namespace Go.Proofs.YtpkohfdebgiloaaDoor
open Go.RowKit

theorem rest_i (b : Nat) (s : Bool) (D : Nat) (m : Bool) (k : Int) (w : World) (hx : World.num w b s (dg D) m) (k0 : 1 ≤ k) (k1 : k ≤ 96) :
    Calls Tryd.prog 62 #[.pointer (some ⟨b, 0, none⟩), .int .i64 k] w fun e w' => e = .returned (.int .i64 (restD D m k.toNat)) ∧ w' = w := by
  obtain ⟨n, rfl⟩ := Int.eq_ofNat_of_zero_le (by omega : 0 ≤ k)
  exact rest_any b s (dg D) m n w hx (by omega) (by omega)

theorem cut_i (b : Nat) (s m : Bool) (D : Nat) (k : Int) (up : Bool) (w : World) (hx : World.num w b s (dg D) m) (k0 : 39 ≤ k) (k1 : k ≤ 57) (hD : Hid (D + 10 ^ 57 < 10 ^ 96)) (hu : Hid (upB D m k.toNat = up)) :
    Calls Tryd.prog 61 #[.pointer (some ⟨b, 0, none⟩), .int .i64 k, .bool up] w (CutPost b s (quo D m k.toNat * 10 ^ k.toNat) w) := by
  obtain ⟨n, rfl⟩ := Int.eq_ofNat_of_zero_le (by omega : 0 ≤ k)
  have hq := quo_lt m hD.out (show n ≤ 57 by omega)
  rw [Int.toNat_natCast] at *
  unfold quo at hq ⊢
  rw [hu.out] at hq ⊢
  cases up
  · exact cut_f b s m D n w hx (by omega) (by omega)
  · exact cut_t b s m D n w hx (by omega) (by omega) hq

theorem World.dec.grown {w w' : World} {b : Nat} {M E : Int} {row : Option Nat} (h : World.dec w b M E) (hg : w.grownBy w' row) (hne : some b ≠ row) : World.dec w' b M E := by
  unfold World.dec; rw [hg.block b h.lt hne]; exact h
theorem nearF_hit {s : Bool} {D : Nat} {m : Bool} {E : Int} (h : E ≤ 9) (hq : quo D m (48 + E).toNat < 10 ^ 15) : nearF s D m (10 - E).toNat E = (decOf s (quo D m (48 + E).toNat) E, 0) := by
  obtain ⟨n, hn⟩ : ∃ n, (10 - E).toNat = n + 1 := ⟨(9 - E).toNat, by omega⟩
  rw [hn, nearF, if_pos hq]
theorem nearF_miss {s : Bool} {D : Nat} {m : Bool} {E : Int} (h : E ≤ 9) (hq : ¬ quo D m (48 + E).toNat < 10 ^ 15) : nearF s D m (10 - E).toNat E = nearF s D m (10 - (E + 1)).toNat (E + 1) := by
  obtain ⟨n, hn⟩ : ∃ n, (10 - E).toNat = n + 1 := ⟨(9 - E).toNat, by omega⟩
  rw [hn, nearF, if_neg hq, show (10 - (E + 1)).toNat = n by omega]

/-- What near leaves. -/
def DecPost (r : (Int × Int) × Int) (w : World) (e : Ending) (w' : World) : Prop := e = .returned (.tuple #[decV r.1, .int .i64 r.2]) ∧ Below w.heap.size w w'

theorem exact_i (b : Nat) (s m : Bool) (q : Nat) (k t : Int) (w : World) (hx : World.num w b s (dg (q * 10 ^ k.toNat)) m) (k0 : 39 ≤ k) (k1 : k ≤ 57) (t0 : -1 ≤ t) (t1 : t ≤ 95) (ht : Hid (q * 10 ^ k.toNat < 10 ^ (t + 1).toNat)) (hM : Hid (q < 10 ^ 15)) :
    Calls Tryd.prog 70 #[.pointer (some ⟨b, 0, none⟩), .int .i64 t, .int .i64 k] w fun e w' => e = .returned (decV (decOf s q (k - 48))) ∧ Below w.heap.size w w' := by
  obtain ⟨n, rfl⟩ := Int.eq_ofNat_of_zero_le (by omega : 0 ≤ k)
  rw [Int.toNat_natCast] at *
  have e := Nat.mul_div_cancel q (pow10_pos n)
  have := exact_any b s m (q * 10 ^ n) n t w hx (by omega) (by omega) t0 t1 ht (by show _ < _; rw [e]; exact hM.out)
  rw [e] at this
  exact this

theorem results_dec_tmp {fn : Func} {p u : Tmp} (h : fn.results = #[.cell p 23, .tmp u]) (tmps : Array Value) (w : World) (g : Nat) (M E : Int) (hp : tmps.getD p undef = .pointer (some ⟨g, 0, none⟩)) (hd : World.dec w g M E) :
    (results fn tmps).run Tryd.prog w = .ok (.tuple #[decV (M, E), tmps.getD u undef]) w := by
  rw [results_cell_tmp h, hp]
  have := run_loadVar_row (P := Tryd.prog) w g 23 23 _ (0, 0) _ hd Tryd.underlying23 rfl (by kernel_rfl)
  simp only [asAddr, Sem.run_pure, Result.andThen_ok, this]

set_option maxRecDepth 100000 in
set_option maxHeartbeats 2000000 in
theorem nearest_any (s : Bool) (D : Nat) (m : Bool) (w : World) (hD : Hid (D + 10 ^ 57 < 10 ^ 96)) :
    Calls Tryd.prog 34 #[.agg (numF s (dg D) m)] w (DecPost (near s D m) w) := by
  go_enter Tryd.func34, Tryd.ntmps34
  go_wp2_with fail
  obtain ⟨W, hW⟩ : ∃ W, W = (w.alloc (.cells (numF s (dg D) m) 56)).alloc (.cells #[.int .i64 0, .int .i64 0] 23) := ⟨_, rfl⟩
  rw [← hW]
  have hn : World.num W w.heap.size s (dg D) m := by rw [hW]; exact (World.num_new _ _ _ _).alloc _
  have hd : World.dec W (w.heap.size + 1) 0 0 := by rw [hW]; exact World.dec_new _ 0 0 _ (by simp)
  have hB : Below w.heap.size w W := by rw [hW]; exact ((Below.refl _ w).alloc (Nat.le_refl _) _).alloc (by simp) _
  have hz : w.heap.size + 2 ≤ W.heap.size := by rw [hW]; simp
  clear hW
  go_loopw [4] (fun e wr => ∃ E : Int, e = .int .i64 E ∧ -9 ≤ E ∧ E ≤ 10 ∧ Hid (nearF s D m (10 - E).toNat E = near s D m) ∧ World.num wr w.heap.size s (dg D) m ∧ World.dec wr (w.heap.size + 1) 0 0 ∧ Below w.heap.size w wr ∧ w.heap.size + 2 ≤ wr.heap.size) (fun e _ => (10 - intOf e).toNat)
  case atStart => exact ⟨-9, rfl, by omega, by omega, rfl, hn, hd, hB, hz⟩
  case round =>
    obtain ⟨E, rfl, e0, e1, HN, hn1, hd1, hB1, hz1⟩ := hrel
    clear hn hd hB hz
    by_cases c : E ≤ 9
    · go_wp2_with (first
        | refine wpList_alloc56 rfl rfl ?_
        | refine wpList_load56 rfl rfl rfl hn1 ?_
        | (refine wpList_store56 rfl rfl rfl rfl (World.num_new _ _ _ _) ?_; intro w1 hn2 hg2 hz2))
      have hs := hn1.lt
      have hd2 : World.dec w1 (w.heap.size + 1) 0 0 := World.dec.below (hd1.alloc _) (Below.grown (Below.refl wr.heap.size _) hg2 (by simp) (fun k hk => by cases hk; exact Nat.le_refl _)) (by omega)
      have hB2 : Below w.heap.size w w1 := (hB1.alloc hB1.size _).grown hg2 (by have := hB1.size; simp; omega) (fun k hk => by cases hk; exact hB1.size)
      have hn3 : World.num w1 w.heap.size s (dg D) m := World.num.grown (hn1.alloc _) hg2 (by simp; omega)
      have hz3 : w.heap.size + 2 < w1.heap.size := by rw [hz2]; simp; omega
      have hlt : wr.heap.size < w1.heap.size := by rw [hz2]; simp
      clear hg2 hz2 hs
      refine (rest_i _ s D m _ _ hn2 (by omega) (by omega)).mono ?_
      rintro e w2 ⟨rfl, rfl⟩
      obtain ⟨r, hr⟩ : ∃ r : Int, r = restD D m (48 + E).toNat := ⟨_, rfl⟩
      rw [← hr]
      have Hr := Lib.hid hr
      clear hr
      have hk : (48 + E).toNat < 96 := by omega
      obtain ⟨hc, hf⟩ := World.num.at hn2 (48 + E).toNat hk
      have q0 := dg_nonneg D (48 + E).toNat
      have hkI : 48 + E < 96 := by omega
      have hup : (r == 1) = true ∧ Hid (upB D m (48 + E).toNat = true) ∨ (r == 1) = false ∧ (r == 0) = false ∧ Hid (upB D m (48 + E).toNat = false) ∨
          (r == 1) = false ∧ (r == 0) = true ∧ (dg D (48 + E).toNat % 2 == 1) = true ∧ Hid (upB D m (48 + E).toNat = true) ∨ (r == 1) = false ∧ (r == 0) = true ∧ (dg D (48 + E).toNat % 2 == 1) = false ∧ Hid (upB D m (48 + E).toNat = false) := by
        unfold Hid upB
        rw [← Hr.out]
        cases h1 : (r == 1) <;> cases h2 : (r == 0) <;> cases h3 : (dg D (48 + E).toNat % 2 == 1) <;> simp
      rcases hup with ⟨h1, hu⟩ | ⟨h1, h2, hu⟩ | ⟨h1, h2, h3, hu⟩ | ⟨h1, h2, h3, hu⟩
      all_goals
        go_wp2_with fail
        refine (cut_i _ s m D _ _ _ hn2 (by omega) (by omega) hD hu).mono ?_
        rintro e w3 ⟨rfl, hn4, hg4⟩
        have hn5 : World.num w3 w.heap.size s (dg D) m := World.num.grown hn3 hg4 (by simp; omega)
        have hd3 : World.dec w3 (w.heap.size + 1) 0 0 := World.dec.grown hd2 hg4 (by simp; omega)
        have hB3 : Below w.heap.size w w3 := hB2.grown hg4 hB2.size (fun k hk => by cases hk; exact hB1.size)
        have hz4 : w.heap.size + 2 < w3.heap.size := Nat.lt_of_lt_of_le hz3 hg4.size
        clear hg4 hn3 hd2 hB2 hz3 hn2 hc hf
        obtain ⟨t, t0, t1, t2, t3⟩ := top_exists 96 (quo D m (48 + E).toNat * 10 ^ (48 + E).toNat) (quo_lt m hD.out (by omega))
        have hq := top_lt t2 t3
        have T2 := Lib.hid t2
        have T3 := Lib.hid t3
        have HQ := Lib.hid hq
        clear hq t2 t3
        go_wp2_with fail
        refine (top_any _ s _ false t _ hn4 t0 (by omega) (fun k _ hk => top_hi T2.out k hk) (top_at T2.out T3.out)).mono ?_
        rintro e w4 ⟨rfl, rfl⟩
        by_cases h15 : quo D m (48 + E).toNat < 10 ^ 15
        · have hlt15 : t < 48 + E + 15 := by have := HQ.out.2 h15; omega
          have H15 := Lib.hid h15
          clear h15
          go_wp2_with fail
          refine (exact_i _ s false _ _ t _ hn4 (by omega) (by omega) t0 (by omega) T2 H15).mono ?_
          rintro e w5 ⟨rfl, hB5⟩
          have hd5 := World.dec.below hd3 hB5 hd3.lt
          have g0 := hd5.c0
          have g1 := hd5.c1
          have gf0 := hd5.frozen 0
          have gf1 := hd5.frozen 1
          go_wp2_with fail
          refine bodyPost_ret (results_dec_tmp rfl _ _ _ _ _ rfl (World.dec.set1 (World.dec.set0 hd5 _) _)) rfl ?_
          refine ⟨?_, ((hB3.trans (hB5.mono hB3.size)).setCell (by simp) _).setCell (by simp) _⟩
          rw [← HN.out, nearF_hit c H15.out, show 48 + E - 48 = E by omega]; rfl
        · have hlt15 : ¬ t < 48 + E + 15 := by have := mt HQ.out.1 h15; omega
          have H15 := Lib.hid h15
          clear h15
          go_wp2_with fail
          go_roundw
          case rel => exact ⟨E + 1, rfl, by omega, by omega, by show _ = _; rw [← nearF_miss c H15.out]; exact HN.out, hn5, hd3, hB3, by omega⟩
          case measure => first | (simp [intOf]; done) | (simp [intOf]; omega)
    · have g0 := hd1.c0
      have g1 := hd1.c1
      have gf0 := hd1.frozen 0
      have gf1 := hd1.frozen 1
      obtain rfl : E = 10 := by omega
      go_wp2_with fail
      refine bodyPost_ret (results_dec_tmp rfl _ _ _ 0 0 rfl (World.dec.set1 (World.dec.set0 hd1 0) 0)) rfl ?_
      refine ⟨?_, (hB1.setCell (by simp) _).setCell (by simp) _⟩
      rw [← HN.out]; rfl
end Go.Proofs.YtpkohfdebgiloaaDoor
