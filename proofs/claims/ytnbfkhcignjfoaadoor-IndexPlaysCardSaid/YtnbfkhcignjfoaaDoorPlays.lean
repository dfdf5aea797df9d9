/- The law IndexPlays' walk. -/
import Derived.Test.YtnbfkhcignjfoaaDoorPair
namespace Go.Proofs.YtnbfkhcignjfoaaDoor
open Go Go.RowKit Go.Maps

set_option maxRecDepth 100000 in
set_option maxHeartbeats 16000000 in
theorem plays_any (D : Nat) (p q : Addr) (v : Value) (xs : List Cl) (w : World) (hE : Errs w D p q) (hA : Cls w w.heap.size v xs) :
    Calls Tryd.prog 3 #[v] w fun e w' => e = .returned (.bool true) ∧ Below w.heap.size w w' := by
  have HS := Lib.hid (show Calls Tryd.prog 7 #[] w fun e w' => e = .returned (.bool true) ∧ Below w.heap.size w w' from shown_any D p q w hE)
  have HE := Lib.hid (show ∀ w1 B, w.heap.size ≤ B → B ≤ w1.heap.size → Below w.heap.size w w1 → Errs w1 B p q from fun w1 B h1 h2 hb => (hE.below (hb.mono hE.le)).mono (Nat.le_trans hE.le h1) h2)
  obtain ⟨pp, cap, rfl, hlen, hcl⟩ := hA
  have HC := Lib.hid (show ∀ w1, Below w.heap.size w w1 → ∀ i x, xs[i]? = some x → (i64R x.id ∧ i64R x.s ∧ i64R x.r) ∧ ∃ g off, pp = some ⟨g, off, none⟩ ∧ g < w.heap.size ∧ ∀ j u, x.cells[j]? = some u → w1.cell? ⟨g, off + i * 10 + j, none⟩ = some u from fun w1 hb i x hi => by
    obtain ⟨hr, g, off, e, hg, hc⟩ := hcl i x hi
    exact ⟨hr, g, off, e, hg, fun j u hj => (hb.cell (p := ⟨g, _, none⟩) hg).trans (hc j u hj)⟩)
  clear hE hcl
  go_enter Tryd.func3, Tryd.ntmps3
  go_wp2_with fail
  refine HS.out.mono ?_
  rintro e w1 ⟨rfl, hb1⟩
  clear HS
  go_wp2_with fail
  refine (new_any w1).mono ?_
  rintro e w2 ⟨he, hw2⟩
  subst he
  obtain ⟨T0, hI0, hT0⟩ := new_ix w1
  rw [← hw2] at hI0
  have hB2 : Below w1.heap.size w1 w2 := by rw [hw2]; exact (((Below.refl w1.heap.size w1).alloc (Nat.le_refl _) _).alloc (by simp) _).alloc (by simp; omega) _
  have hs2 : w2.heap.size = w1.heap.size + 3 := by rw [hw2]; simp
  clear hw2
  obtain ⟨x, hx⟩ : ∃ x, x = w1.heap.size + 2 := ⟨_, rfl⟩
  rw [← hx] at hI0
  try rw [← hx]
  have HX := Lib.hid hx
  have HS2 := Lib.hid hs2
  have HI0 := Lib.hid hI0
  have hxl : x < w2.heap.size := by omega
  clear hx hs2 hI0
  go_wp2_with fail
  obtain ⟨W, hW⟩ : ∃ W, W = w2.alloc (.cells #[.slice none 0 0] 29) := ⟨_, rfl⟩
  try rw [← hW]
  have hd : Duo w w.heap.size w1.heap.size x w2.heap.size 0 [] W := by
    have hB3 : Below w2.heap.size w2 W := by rw [hW]; exact (Below.refl _ w2).alloc (Nat.le_refl _) _
    have hI0 := HI0.out
    have hx := HX.out
    have hs2 := HS2.out
    have hlow := hI0.low
    refine ⟨T0, .slice none 0 0, [], hI0.below hB3 (Nat.le_refl _), ⟨by rw [hW]; exact heap_alloc_new w2 _, owns_nil _ _ _ _, by omega⟩, .nil, fun hk => by have := (hlow _ hk).2; omega, by omega, fun k hk => by simp [Value.ownBlock] at hk, ?_, hb1.size, ?_⟩
    · exact (hb1.trans (hB2.mono hb1.size)).trans (hB3.mono (by have := hb1.size; omega))
    · have := hB3.size
      omega
  obtain ⟨B, hB⟩ : ∃ B, B = w1.heap.size := ⟨_, rfl⟩
  obtain ⟨y, hy⟩ : ∃ y, y = w2.heap.size := ⟨_, rfl⟩
  rw [← hB, ← hy] at hd
  try rw [← hy]
  have hwB : w.heap.size ≤ B := by have := hb1.size; omega
  have HEB := Lib.hid (show ∀ w1, B ≤ w1.heap.size → Below w.heap.size w w1 → Errs w1 B p q from fun w1 h1 hb => HE.out w1 B hwB h1 hb)
  clear hW HI0 hT0 hB2 HS2 HX hxl hB hy HE hb1
  go_loopw [6] (fun i wr => ∃ (K : Nat) (L : Ids), i = .int .i64 (K : Int) ∧ K ≤ xs.length ∧ K ≤ 30 ∧ Duo w w.heap.size B x y (200 * K) L wr) (fun i _ => 30 - (intOf i).toNat)
  case atStart => exact ⟨0, [], rfl, Nat.zero_le _, by omega, hd⟩
  case round =>
    clear hd
    obtain ⟨K, L, rfl, hK, hK30, hd⟩ := hrel
    by_cases hlt : K < xs.length
    · by_cases h30 : K < 30
      · obtain ⟨c, hc⟩ : ∃ c, xs[K]? = some c := ⟨_, List.getElem?_eq_getElem hlt⟩
        obtain ⟨⟨hid, hs, hr⟩, g, off, rfl, hg, hcell⟩ := HC.out wr hd.bel K c hc
        have hkn : (K : Int) < (xs.length : Int) := by omega
        have hk30 : (K : Int) < 30 := by omega
        have x0 : wr.cell? ⟨g, off + K * 10, none⟩ = some (.int .i64 c.k) := hcell 0 _ rfl
        have x1 : wr.cell? ⟨g, off + K * 10 + 1, none⟩ = some (.int .i64 c.id) := hcell 1 _ rfl
        have x2 : wr.cell? ⟨g, off + K * 10 + 2, none⟩ = some (.int .i64 c.a.s) := hcell 2 _ rfl
        have x3 : wr.cell? ⟨g, off + K * 10 + 3, none⟩ = some (.int .i64 c.a.r) := hcell 3 _ rfl
        have x4 : wr.cell? ⟨g, off + K * 10 + 4, none⟩ = some (.int .i64 c.a.c) := hcell 4 _ rfl
        have x5 : wr.cell? ⟨g, off + K * 10 + 5, none⟩ = some (.int .i64 c.a.n) := hcell 5 _ rfl
        have x6 : wr.cell? ⟨g, off + K * 10 + 6, none⟩ = some (.int .i64 c.a.m) := hcell 6 _ rfl
        have x7 : wr.cell? ⟨g, off + K * 10 + 7, none⟩ = some (.int .i64 c.s) := hcell 7 _ rfl
        have x8 : wr.cell? ⟨g, off + K * 10 + 8, none⟩ = some (.int .i64 c.r) := hcell 8 _ rfl
        have x9 : wr.cell? ⟨g, off + K * 10 + 9, none⟩ = some (.int .i64 c.c) := hcell 9 _ rfl
        clear hcell hc
        by_cases e0 : c.k = 0
        · have k0 : (c.k == 0) = true := by simpa using e0
          clear e0
          go_wp2_with fail
          obtain ⟨gc, hgc⟩ : ∃ gc, gc = wr.heap.size := ⟨_, rfl⟩
          rw [← hgc]
          obtain ⟨W2, hW2⟩ : ∃ W2, W2 = wr.alloc (.cells #[.int .i64 c.k, .int .i64 c.id, .int .i64 c.a.s, .int .i64 c.a.r, .int .i64 c.a.c, .int .i64 c.a.n, .int .i64 c.a.m, .int .i64 c.s, .int .i64 c.r, .int .i64 c.c] 35) := ⟨_, rfl⟩
          rw [← hW2]
          have hP : Pair w w.heap.size B x y gc (200 * K) #[.int .i64 c.k, .int .i64 c.id, .int .i64 c.a.s, .int .i64 c.a.r, .int .i64 c.a.c, .int .i64 c.a.n, .int .i64 c.a.m, .int .i64 c.s, .int .i64 c.r, .int .i64 c.c] L L W2 := hd.pair (by rw [hW2]; exact (Below.refl _ wr).alloc (Nat.le_refl _) _) (by rw [hW2, hgc]; exact heap_alloc_new wr _) (by omega)
          have hgood := hP.good
          have hll := hP.len
          have hP := hP.drew
          clear hW2 hgc hd x0 x1 x2 x3 x4 x5 x6 x7 x8 x9 hg
          have g1 := hP.cell 1 _ rfl
          have g2 := hP.cell 2 _ rfl
          have g3 := hP.cell 3 _ rfl
          have g4 := hP.cell 4 _ rfl
          have g5 := hP.cell 5 _ rfl
          have g6 := hP.cell 6 _ rfl
          go_region_held3 (fun w' => w'.cell? ⟨gc, 1, none⟩ = some (.int .i64 c.id) ∧ w'.cell? ⟨gc, 2, none⟩ = some (.int .i64 c.a.s) ∧ w'.cell? ⟨gc, 3, none⟩ = some (.int .i64 c.a.r) ∧ w'.cell? ⟨gc, 4, none⟩ = some (.int .i64 c.a.c) ∧ w'.cell? ⟨gc, 5, none⟩ = some (.int .i64 c.a.n) ∧ w'.cell? ⟨gc, 6, none⟩ = some (.int .i64 c.a.m))
            (first | exact ⟨g1, g2, g3, g4, g5, g6⟩ | fail)
            (first
              | (go_at_call 9; refine (pair_put c.id c.a p q hP (HEB.out _ hP.Bw hP.bel) (by omega)).mono ?_; rintro e wn ⟨rfl, hP⟩; have g1 := hP.cell 1 _ rfl; have g2 := hP.cell 2 _ rfl; have g3 := hP.cell 3 _ rfl; have g4 := hP.cell 4 _ rfl; have g5 := hP.cell 5 _ rfl; have g6 := hP.cell 6 _ rfl)
              | (go_at_call 10; refine (pair_rput c.id c.a hP hgood (by omega)).mono ?_; rintro e wn ⟨rfl, hP⟩; have g1 := hP.cell 1 _ rfl; have g2 := hP.cell 2 _ rfl; have g3 := hP.cell 3 _ rfl; have g4 := hP.cell 4 _ rfl; have g5 := hP.cell 5 _ rfl; have g6 := hP.cell 6 _ rfl)
              | fail)
          go_wp2_with (first
            | (go_at_call 18; refine (pair_len hP).mono ?_; rintro e wm ⟨rfl, rfl⟩)
            | (go_at_call 19; refine (pair_rlen hP hP.good).mono ?_; rintro e wm ⟨rfl, rfl⟩)
            | fail)
          go_roundw
          case rel => exact ⟨K + 1, _, by go_num, hlt, by omega, hP.duo.more (by omega)⟩
          case measure => simp [intOf]; omega
        · have k0 : (c.k == 0) = false := by simpa using e0
          clear e0
          by_cases e1 : c.k = 1
          · have k1 : (c.k == 1) = true := by simpa using e1
            clear e1
            go_wp2_with fail
            obtain ⟨gc, hgc⟩ : ∃ gc, gc = wr.heap.size := ⟨_, rfl⟩
            rw [← hgc]
            obtain ⟨W2, hW2⟩ : ∃ W2, W2 = wr.alloc (.cells #[.int .i64 c.k, .int .i64 c.id, .int .i64 c.a.s, .int .i64 c.a.r, .int .i64 c.a.c, .int .i64 c.a.n, .int .i64 c.a.m, .int .i64 c.s, .int .i64 c.r, .int .i64 c.c] 35) := ⟨_, rfl⟩
            rw [← hW2]
            have hP : Pair w w.heap.size B x y gc (200 * K) #[.int .i64 c.k, .int .i64 c.id, .int .i64 c.a.s, .int .i64 c.a.r, .int .i64 c.a.c, .int .i64 c.a.n, .int .i64 c.a.m, .int .i64 c.s, .int .i64 c.r, .int .i64 c.c] L L W2 := hd.pair (by rw [hW2]; exact (Below.refl _ wr).alloc (Nat.le_refl _) _) (by rw [hW2, hgc]; exact heap_alloc_new wr _) (by omega)
            have hgood := hP.good
            have hll := hP.len
            have hP := hP.drew
            clear hW2 hgc hd x0 x1 x2 x3 x4 x5 x6 x7 x8 x9 hg
            have g1 := hP.cell 1 _ rfl
            go_region_held3 (fun w' => w'.cell? ⟨gc, 1, none⟩ = some (.int .i64 c.id))
              (first | exact g1 | fail)
              (first
                | (go_at_call 11; refine (pair_drop c.id hP hid (by omega)).mono ?_; rintro e wn ⟨rfl, hP⟩; have g1 := hP.cell 1 _ rfl)
                | (go_at_call 12; refine (pair_rdrop c.id hP hgood (by omega)).mono ?_; rintro e wn ⟨rfl, hP⟩; have g1 := hP.cell 1 _ rfl)
                | fail)
            go_wp2_with (first
              | (go_at_call 18; refine (pair_len hP).mono ?_; rintro e wm ⟨rfl, rfl⟩)
              | (go_at_call 19; refine (pair_rlen hP hP.good).mono ?_; rintro e wm ⟨rfl, rfl⟩)
              | fail)
            go_roundw
            case rel => exact ⟨K + 1, _, by go_num, hlt, by omega, hP.duo.more (by omega)⟩
            case measure => simp [intOf]; omega
          · have k1 : (c.k == 1) = false := by simpa using e1
            clear e1
            by_cases e2 : c.k = 2
            · have k2 : (c.k == 2) = true := by simpa using e2
              clear e2
              go_wp2_with fail
              obtain ⟨gc, hgc⟩ : ∃ gc, gc = wr.heap.size := ⟨_, rfl⟩
              rw [← hgc]
              obtain ⟨W2, hW2⟩ : ∃ W2, W2 = wr.alloc (.cells #[.int .i64 c.k, .int .i64 c.id, .int .i64 c.a.s, .int .i64 c.a.r, .int .i64 c.a.c, .int .i64 c.a.n, .int .i64 c.a.m, .int .i64 c.s, .int .i64 c.r, .int .i64 c.c] 35) := ⟨_, rfl⟩
              rw [← hW2]
              have hP : Pair w w.heap.size B x y gc (200 * K) #[.int .i64 c.k, .int .i64 c.id, .int .i64 c.a.s, .int .i64 c.a.r, .int .i64 c.a.c, .int .i64 c.a.n, .int .i64 c.a.m, .int .i64 c.s, .int .i64 c.r, .int .i64 c.c] L L W2 := hd.pair (by rw [hW2]; exact (Below.refl _ wr).alloc (Nat.le_refl _) _) (by rw [hW2, hgc]; exact heap_alloc_new wr _) (by omega)
              have hgood := hP.good
              have hll := hP.len
              have hP := hP.drew
              clear hW2 hgc hd x0 x1 x2 x3 x4 x5 x6 x7 x8 x9 hg
              have g7 := hP.cell 7 _ rfl
              have g8 := hP.cell 8 _ rfl
              have g9 := hP.cell 9 _ rfl
              go_region_held3 (fun w' => w'.cell? ⟨gc, 7, none⟩ = some (.int .i64 c.s) ∧ w'.cell? ⟨gc, 8, none⟩ = some (.int .i64 c.r) ∧ w'.cell? ⟨gc, 9, none⟩ = some (.int .i64 c.c))
                (first | exact ⟨g7, g8, g9⟩ | fail)
                (first
                  | (go_at_call 14; refine (pair_hits c.s c.r c.c hP hs hr (by omega)).mono ?_; rintro e wn ⟨vX, zX, rfl, aX, lX, rX, hBn⟩; have hP := hP.below hBn; have g7 := hP.cell 7 _ rfl; have g8 := hP.cell 8 _ rfl; have g9 := hP.cell 9 _ rfl)
                  | (go_at_call 15; refine (pair_rhits c.s c.r c.c hP hgood (by omega)).mono ?_; rintro e wn ⟨vY, zY, rfl, aY, lY, rY, hBn⟩; obtain rfl := aY.unique aX; have rX := rX.below hBn; have hP := hP.below hBn; have g7 := hP.cell 7 _ rfl; have g8 := hP.cell 8 _ rfl; have g9 := hP.cell 9 _ rfl)
                  | (go_at_call 13; refine (ints_at zY _ _ _ _ _ ?_ _ _ rX rY lX).mono ?_; exact ⟨rfl, rfl⟩; rintro e wn ⟨rfl, hBn⟩; have hP := hP.below hBn; have g7 := hP.cell 7 _ rfl; have g8 := hP.cell 8 _ rfl; have g9 := hP.cell 9 _ rfl)
                  | fail)
              go_wp2_with (first
                | (go_at_call 18; refine (pair_len hP).mono ?_; rintro e wm ⟨rfl, rfl⟩)
                | (go_at_call 19; refine (pair_rlen hP hP.good).mono ?_; rintro e wm ⟨rfl, rfl⟩)
                | fail)
              go_roundw
              case rel => exact ⟨K + 1, _, by go_num, hlt, by omega, hP.duo.more (by omega)⟩
              case measure => simp [intOf]; omega
            · have k2 : (c.k == 2) = false := by simpa using e2
              clear e2
              go_wp2_with fail
              obtain ⟨gc, hgc⟩ : ∃ gc, gc = wr.heap.size := ⟨_, rfl⟩
              rw [← hgc]
              obtain ⟨W2, hW2⟩ : ∃ W2, W2 = wr.alloc (.cells #[.int .i64 c.k, .int .i64 c.id, .int .i64 c.a.s, .int .i64 c.a.r, .int .i64 c.a.c, .int .i64 c.a.n, .int .i64 c.a.m, .int .i64 c.s, .int .i64 c.r, .int .i64 c.c] 35) := ⟨_, rfl⟩
              rw [← hW2]
              have hP : Pair w w.heap.size B x y gc (200 * K) #[.int .i64 c.k, .int .i64 c.id, .int .i64 c.a.s, .int .i64 c.a.r, .int .i64 c.a.c, .int .i64 c.a.n, .int .i64 c.a.m, .int .i64 c.s, .int .i64 c.r, .int .i64 c.c] L L W2 := hd.pair (by rw [hW2]; exact (Below.refl _ wr).alloc (Nat.le_refl _) _) (by rw [hW2, hgc]; exact heap_alloc_new wr _) (by omega)
              have hgood := hP.good
              have hll := hP.len
              have hP := hP.drew
              clear hW2 hgc hd x0 x1 x2 x3 x4 x5 x6 x7 x8 x9 hg
              have g2 := hP.cell 2 _ rfl
              have g3 := hP.cell 3 _ rfl
              have g4 := hP.cell 4 _ rfl
              have g5 := hP.cell 5 _ rfl
              have g6 := hP.cell 6 _ rfl
              go_region_held3 (fun w' => w'.cell? ⟨gc, 2, none⟩ = some (.int .i64 c.a.s) ∧ w'.cell? ⟨gc, 3, none⟩ = some (.int .i64 c.a.r) ∧ w'.cell? ⟨gc, 4, none⟩ = some (.int .i64 c.a.c) ∧ w'.cell? ⟨gc, 5, none⟩ = some (.int .i64 c.a.n) ∧ w'.cell? ⟨gc, 6, none⟩ = some (.int .i64 c.a.m))
                (first | exact ⟨g2, g3, g4, g5, g6⟩ | fail)
                (first
                  | (go_at_call 16; refine (pair_meets c.a hP (by omega)).mono ?_; rintro e wn ⟨vX, zX, rfl, aX, lX, rX, hBn⟩; have hP := hP.below hBn; have g2 := hP.cell 2 _ rfl; have g3 := hP.cell 3 _ rfl; have g4 := hP.cell 4 _ rfl; have g5 := hP.cell 5 _ rfl; have g6 := hP.cell 6 _ rfl)
                  | (go_at_call 17; refine (pair_rmeets c.a hP hgood (by omega)).mono ?_; rintro e wn ⟨vY, zY, rfl, aY, lY, rY, hBn⟩; obtain rfl := aY.unique aX; have rX := rX.below hBn; have hP := hP.below hBn; have g2 := hP.cell 2 _ rfl; have g3 := hP.cell 3 _ rfl; have g4 := hP.cell 4 _ rfl; have g5 := hP.cell 5 _ rfl; have g6 := hP.cell 6 _ rfl)
                  | (go_at_call 13; refine (ints_at zY _ _ _ _ _ ?_ _ _ rX rY lX).mono ?_; exact ⟨rfl, rfl⟩; rintro e wn ⟨rfl, hBn⟩; have hP := hP.below hBn; have g2 := hP.cell 2 _ rfl; have g3 := hP.cell 3 _ rfl; have g4 := hP.cell 4 _ rfl; have g5 := hP.cell 5 _ rfl; have g6 := hP.cell 6 _ rfl)
                  | fail)
              go_wp2_with (first
                | (go_at_call 18; refine (pair_len hP).mono ?_; rintro e wm ⟨rfl, rfl⟩)
                | (go_at_call 19; refine (pair_rlen hP hP.good).mono ?_; rintro e wm ⟨rfl, rfl⟩)
                | fail)
              go_roundw
              case rel => exact ⟨K + 1, _, by go_num, hlt, by omega, hP.duo.more (by omega)⟩
              case measure => simp [intOf]; omega
      · obtain rfl : K = 30 := by omega
        have hkn : ((30 : Nat) : Int) < (xs.length : Int) := by omega
        go_wp2_with fail
        go_ret
        exact ⟨rfl, hd.bel⟩
    · obtain rfl : K = xs.length := by omega
      have hkn : ¬ ((xs.length : Int) < (xs.length : Int)) := by omega
      go_wp2_with fail
      go_ret
      exact ⟨rfl, hd.bel⟩
end Go.Proofs.YtnbfkhcignjfoaaDoor
