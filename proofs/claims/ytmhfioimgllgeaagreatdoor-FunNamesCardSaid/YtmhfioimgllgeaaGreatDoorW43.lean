/- Fun: a value as a whole number. (By genwhl.py.) -/
import Derived.Test.YtmhfioimgllgeaaGreatDoorW42
import Derived.Test.YtmhfioimgllgeaaGreatDoorW32
namespace Go.Proofs.YtmhfioimgllgeaaGreatDoor
open Go Go.RowKit Go.Shelf
theorem floorD_bd (M E : Int) : -1000000000000000 ≤ (floorD M E).1 ∧ (floorD M E).1 ≤ 1000000000000000 := by
  unfold floorD
  split
  · unfold floorR
    split
    · rename_i h
      have h := q15 h
      split <;> simp only <;> omega
    · simp
  · simp
def whN (x : Vl) : Int := (floorD x.m x.e).1
def whB (x : Vl) : Bool := x.k == 1 && ((floorD x.m x.e).2 == 0 && ((ofD (whN x)).2 == 0 && ((ofD (whN x)).1.1 == x.m && (ofD (whN x)).1.2 == x.e)))
def whR (x : Vl) (lo hi : Int) : Bool := whB x && (decide (lo ≤ whN x) && decide (whN x ≤ hi))
def WholePost (x : Vl) (lo hi : Int) (w : World) (e : Ending) (w' : World) : Prop := e = .returned (.tuple #[.int .i64 (whN x), .bool (whR x lo hi)]) ∧ Below w.heap.size w w'
set_option maxRecDepth 100000 in
set_option maxHeartbeats 8000000 in
theorem wholeF_any (x : Vl) (lo hi : Int) (C : Array Value) (w : World) (h0 : C[0]? = some (.int .i64 x.k)) (h1 : C[1]? = some (.int .i64 x.m)) (h2 : C[2]? = some (.int .i64 x.e)) (hO : OneC C) (hb : -9223372036854775808 ≤ x.m ∧ x.m ≤ 9223372036854775807) : Calls Tryz.prog 128 #[.agg C, .int .i64 lo, .int .i64 hi] w (WholePost x lo hi w) := by
  have hv0 : World.vb (w.alloc (.cells C 39)) w.heap.size C := World.vb_new w C
  have hB0 : Below w.heap.size w (w.alloc (.cells C 39)) := (Below.refl _ w).alloc (Nat.le_refl _) _
  have HF := Lib.hid (fun W => floor_any x.m x.e W hb.1 hb.2)
  have hfb := floorD_bd x.m x.e
  have HD := Lib.hid (fun W => of_n (floorD x.m x.e).1 W (by omega) (by omega))
  have hdc : ∀ W, World.vb W w.heap.size C → ∀ (j : Nat) (u : Value), (#[.int .i64 x.m, .int .i64 x.e] : Array Value)[j]? = some u → W.cell? ⟨w.heap.size, 1 + j, none⟩ = some u := by
    intro W hW j u hj
    match j, hj with
    | 0, hj => rw [← hj]; exact hW.cell h1
    | 1, hj => rw [← hj]; exact hW.cell h2
    | j + 2, hj => simp at hj
  have HDC := Lib.hid hdc
  unfold WholePost whR whB whN
  obtain ⟨R, hR⟩ : ∃ R, R = floorD x.m x.e := ⟨_, rfl⟩
  rw [← hR] at HF HD ⊢
  obtain ⟨n, e1⟩ := R
  obtain ⟨P, hP⟩ : ∃ P, P = ofD n := ⟨_, rfl⟩
  simp only at HD ⊢
  rw [← hP] at HD ⊢
  obtain ⟨⟨M, E⟩, e2⟩ := P
  simp only at ⊢
  have hcl : C.all (·.oneCell') = true := hO.2
  clear hdc hR hP hfb
  obtain ⟨K, k0⟩ : ∃ k, k = x.k := ⟨_, rfl⟩
  obtain ⟨XM, xm⟩ : ∃ k, k = x.m := ⟨_, rfl⟩
  obtain ⟨XE, xe⟩ : ∃ k, k = x.e := ⟨_, rfl⟩
  rw [← k0] at h0 ⊢
  rw [← xm] at h1 HF HDC ⊢
  rw [← xe] at h2 HF HDC ⊢
  have H0 := Lib.hid h0
  have H1 := Lib.hid h1
  have H2 := Lib.hid h2
  clear k0 xm xe h0 h1 h2 hO hb
  go_enter Tryz.func128, Tryz.ntmps128
  go_upto_region 3 with (first | refine wpList_loadDat rfl rfl rfl rfl (HDC.out _ hv0) ?_ | (go_at_call 26; refine (HF.out _).mono ?_; rintro e w1 ⟨rfl, hB1⟩; have hv1 := hv0.below hB1 hv0.lt; have hB := hB0.trans (hB1.mono hB0.size)) | (go_at_call 237; refine (HD.out _).mono ?_; rintro e w2 ⟨rfl, hB2⟩; have hv2 := hv1.below hB2 hv1.lt; have hB := hB.trans (hB2.mono hB.size)) | (refine wpList_storeD rfl rfl rfl rfl (World.dec_new _ _ _ _ rfl) ?_; intro w3 hn3 hg3 hz3))
  have hvx : World.vb w3 w.heap.size C := vb_but (hv2.alloc _) hg3 (by have := hv2.lt; omega)
  have hB3 : Below w.heap.size w w3 := (hB.alloc hB.size _).grown hg3 (by have := hB.size; simp; omega) (fun k hk => by cases hk; exact hB.size)
  have c0 := hvx.cell H0.out
  have c1 := hvx.cell H1.out
  have c2 := hvx.cell H2.out
  have d0 := hn3.c0
  have d1 := hn3.c1
  have HB3 := Lib.hid hB3
  clear hn3 hg3 hz3 hv2 hv1 hv0 hB0 hB hB1 hB2 hB3 hcl HDC HF HD H0 H1 H2 hvx
  go_upto_region 3 with fail
  cases b0 : (K == 1)
  · go_wp2_with fail
    refine bodyPost_ret (results_tmp2 rfl _ _ _) rfl ?_
    exact ⟨by first | (simp only []; rfl) | simp only [b0, Bool.and_false, Bool.false_and, Bool.and_true, Bool.true_and], HB3.out⟩
  · cases b1 : (e1 == 0)
    · go_wp2_with fail
      refine bodyPost_ret (results_tmp2 rfl _ _ _) rfl ?_
      exact ⟨by first | (simp only []; rfl) | simp only [b0, b1, Bool.and_false, Bool.false_and, Bool.and_true, Bool.true_and], HB3.out⟩
    · cases b2 : (e2 == 0)
      · go_wp2_with fail
        refine bodyPost_ret (results_tmp2 rfl _ _ _) rfl ?_
        exact ⟨by first | (simp only []; rfl) | simp only [b0, b1, b2, Bool.and_false, Bool.false_and, Bool.and_true, Bool.true_and], HB3.out⟩
      · cases b3 : (M == XM)
        · go_wp2_with fail
          refine bodyPost_ret (results_tmp2 rfl _ _ _) rfl ?_
          exact ⟨by first | (simp only []; rfl) | simp only [b0, b1, b2, b3, Bool.and_false, Bool.false_and, Bool.and_true, Bool.true_and], HB3.out⟩
        · cases b4 : (E == XE)
          · go_wp2_with fail
            refine bodyPost_ret (results_tmp2 rfl _ _ _) rfl ?_
            exact ⟨by first | (simp only []; rfl) | simp only [b0, b1, b2, b3, b4, Bool.and_false, Bool.false_and, Bool.and_true, Bool.true_and], HB3.out⟩
          · cases b5 : decide (lo ≤ n)
            · go_wp2_with fail
              refine bodyPost_ret (results_tmp2 rfl _ _ _) rfl ?_
              exact ⟨by first | (simp only []; rfl) | simp only [b0, b1, b2, b3, b4, b5, Bool.and_false, Bool.false_and, Bool.and_true, Bool.true_and], HB3.out⟩
            · cases b6 : decide (n ≤ hi)
              · go_wp2_with fail
                refine bodyPost_ret (results_tmp2 rfl _ _ _) rfl ?_
                exact ⟨by first | (simp only []; rfl) | simp only [b0, b1, b2, b3, b4, b5, b6, Bool.and_false, Bool.false_and, Bool.and_true, Bool.true_and], HB3.out⟩
              · go_wp2_with fail
                refine bodyPost_ret (results_tmp2 rfl _ _ _) rfl ?_
                exact ⟨by first | (simp only []; rfl) | simp only [b0, b1, b2, b3, b4, b5, b6, Bool.and_false, Bool.false_and, Bool.and_true, Bool.true_and], HB3.out⟩
end Go.Proofs.YtmhfioimgllgeaaGreatDoor
