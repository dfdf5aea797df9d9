/- The law IndexHits' walk. (Printed by genHits.py.) -/
import Derived.Test.YtnbfkhcignjfoaaDoorCnt
import Derived.Test.YtnbfkhcignjfoaaDoorOrd
namespace Go.Proofs.YtnbfkhcignjfoaaDoor
open Go Go.RowKit Go.Maps

set_option maxRecDepth 100000 in
set_option maxHeartbeats 16000000 in
theorem lawHits_any (D : Nat) (p q : Addr) (v : Value) (xs : List Ar) (s r c n m s' r' c' : Int) (w : World) (hE : Errs w D p q) (hA : Areas w w.heap.size v xs) (hs' : i64R s') (hr' : i64R r') :
    Calls Tryd.prog 5 #[v, areaV s r c n m, atV s' r' c'] w fun e w' => e = .returned (.bool true) ∧ Below w.heap.size w w' := by
  have HS := Lib.hid (show ∀ w1, Below w.heap.size w w1 → Calls Tryd.prog 7 #[] w1 fun e w' => e = .returned (.bool true) ∧ Below w1.heap.size w1 w' from fun w1 hb => shown_any D p q w1 (hE.below (hb.mono hE.le)))
  have HF := Lib.hid (show ∀ w1, Below w.heap.size w w1 → Calls Tryd.prog 20 #[v, .bool false] w1 (MadePost xs false w1) from fun w1 hb => made_f D p q v xs w1 (hE.below (hb.mono hE.le)) ((hA.below hb).mono hb.size))
  have HAB := Lib.hid (show ∀ w1, Below w.heap.size w w1 → Areas w1 w.heap.size v xs from fun w1 hb => hA.below hb)
  obtain ⟨pp, cap, rfl, hlen, _⟩ := hA
  clear hE
  go_enter Tryd.func5, Tryd.ntmps5
  go_wp2_with fail
  obtain ⟨W, hW⟩ : ∃ W, W = (w.alloc (.cells #[.int .i64 s, .int .i64 r, .int .i64 c, .int .i64 n, .int .i64 m] 31)).alloc (.cells #[.int .i64 s', .int .i64 r', .int .i64 c'] 33) := ⟨_, rfl⟩
  try rw [← hW]
  have hb0 : Below w.heap.size w W := by rw [hW]; exact ((Below.refl _ w).alloc (Nat.le_refl _) _).alloc (by simp) _
  have hA0 : World.area W w.heap.size s r c n m := by rw [hW]; exact (World.area_new w s r c n m).alloc _
  have hT0 : W.heap[w.heap.size + 1]? = some (.cells #[.int .i64 s', .int .i64 r', .int .i64 c'] 33 (0, 0)) := by
    rw [hW]
    have := World.atB (w.alloc (.cells #[.int .i64 s, .int .i64 r, .int .i64 c, .int .i64 n, .int .i64 m] 31)) s' r' c'
    rwa [World.size_alloc] at this
  have hsW : W.heap.size = w.heap.size + 2 := by rw [hW]; simp
  clear hW
  refine (HS.out _ hb0).mono ?_
  rintro e w1 ⟨rfl, hB1⟩
  have hb1 := hb0.trans (hB1.mono hb0.size)
  go_wp2_with fail
  refine (HF.out _ hb1).mono ?_
  rintro e w2 ⟨rfl, ⟨T, hI⟩, hB2⟩
  have hb2 := hb1.trans (hB2.mono hb1.size)
  have hB02 : Below W.heap.size W w2 := hB1.trans (hB2.mono hB1.size)
  have hA2 := hA0.below hB02 hA0.lt
  have hT2 := (hB02.block _ (by omega)).trans hT0
  have hs2 := hB02.size
  clear hA0 hT0 HS HF
  have a0 := hA2.cell 0 _ rfl
  have a1 := hA2.cell 1 _ rfl
  have a2 := hA2.cell 2 _ rfl
  have a3 := hA2.cell 3 _ rfl
  have a4 := hA2.cell 4 _ rfl
  have t0 := (cell_of_row _ _ 0 _ _ _ hT2).trans rfl
  have t1 := (cell_of_row _ _ 1 _ _ _ hT2).trans rfl
  have t2 := (cell_of_row _ _ 2 _ _ _ hT2).trans rfl
  have hal : w.heap.size < w2.heap.size := by omega
  have htl : w.heap.size + 1 < w2.heap.size := by omega
  obtain ⟨x, hx⟩ : ∃ x, x = w1.heap.size + 2 := ⟨_, rfl⟩
  rw [← hx] at hI
  try rw [← hx]
  clear hx hA2 hT2
  have HH := Lib.hid (hits_any _ _ _ _ T s' r' c' w2 hI hs' hr' (by omega))
  have HM := Lib.hid (show ∀ w3, Below w2.heap.size w2 w3 → Calls Tryd.prog 16 #[.pointer (some ⟨x, 0, none⟩), areaV s r c n m] w3 (AskPost (madeL xs false) (meetsB s r c n m) w3) from fun w3 h => meets_any _ _ _ _ T s r c n m w3 (hI.below h (Nat.le_refl _)) (by omega))
  clear hI
  go_wp2_with fail
  refine HH.out.mono ?_
  rintro e w3 ⟨vh, zh, rfl, haH, hlH, hrH, hB3⟩
  obtain rfl := haH.unique (pick_asked xs _)
  have hb3 := hb2.trans (hB3.mono hb2.size)
  have a0 := (hB3.cell (p := ⟨w.heap.size, 0, none⟩) (hal)).trans a0
  have a1 := (hB3.cell (p := ⟨w.heap.size, 1, none⟩) (hal)).trans a1
  have a2 := (hB3.cell (p := ⟨w.heap.size, 2, none⟩) (hal)).trans a2
  have a3 := (hB3.cell (p := ⟨w.heap.size, 3, none⟩) (hal)).trans a3
  have a4 := (hB3.cell (p := ⟨w.heap.size, 4, none⟩) (hal)).trans a4
  have t0 := (hB3.cell (p := ⟨w.heap.size + 1, 0, none⟩) (htl)).trans t0
  have t1 := (hB3.cell (p := ⟨w.heap.size + 1, 1, none⟩) (htl)).trans t1
  have t2 := (hB3.cell (p := ⟨w.heap.size + 1, 2, none⟩) (htl)).trans t2
  have hal := Nat.lt_of_lt_of_le hal hB3.size
  have htl := Nat.lt_of_lt_of_le htl hB3.size
  go_wp2_with fail
  refine (HM.out _ hB3).mono ?_
  rintro e w4 ⟨vm, zm, rfl, haM, hlM, hrM, hB4⟩
  obtain rfl := haM.unique (pick_asked xs _)
  have hb4 := hb3.trans (hB4.mono hb3.size)
  have hrH := hrH.below hB4
  have a0 := (hB4.cell (p := ⟨w.heap.size, 0, none⟩) (hal)).trans a0
  have a1 := (hB4.cell (p := ⟨w.heap.size, 1, none⟩) (hal)).trans a1
  have a2 := (hB4.cell (p := ⟨w.heap.size, 2, none⟩) (hal)).trans a2
  have a3 := (hB4.cell (p := ⟨w.heap.size, 3, none⟩) (hal)).trans a3
  have a4 := (hB4.cell (p := ⟨w.heap.size, 4, none⟩) (hal)).trans a4
  have t0 := (hB4.cell (p := ⟨w.heap.size + 1, 0, none⟩) (htl)).trans t0
  have t1 := (hB4.cell (p := ⟨w.heap.size + 1, 1, none⟩) (htl)).trans t1
  have t2 := (hB4.cell (p := ⟨w.heap.size + 1, 2, none⟩) (htl)).trans t2
  have hal := Nat.lt_of_lt_of_le hal hB4.size
  have htl := Nat.lt_of_lt_of_le htl hB4.size
  obtain ⟨ph, caph, rfl, hH⟩ := ints_shape hrH
  obtain ⟨pm, capm, rfl, hM⟩ := ints_shape hrM
  obtain ⟨M, hMe⟩ : ∃ M, M = min xs.length 30 := ⟨_, rfl⟩
  obtain ⟨P, hP⟩ : ∃ P, P = asks xs (hasB s' r' c') := ⟨_, rfl⟩
  obtain ⟨Q, hQ⟩ : ∃ Q, Q = asks xs (meetsB s r c n m) := ⟨_, rfl⟩
  rw [← hMe, ← hP] at hH hlH
  rw [← hMe, ← hQ] at hM hlM
  try rw [← hMe]
  try rw [← hP]
  try rw [← hQ]
  rw [pick_len] at hlH hlM
  try rw [pick_len]
  try rw [pick_len]
  have HHr := Lib.hid hH
  have HMr := Lib.hid hM
  have HP := Lib.hid hP
  have HQ := Lib.hid hQ
  have HMe := Lib.hid hMe
  have hM30 : M ≤ 30 := by omega
  have hMl : M ≤ xs.length := by omega
  have hMx : ∀ K : Nat, ¬ K < M → K < xs.length → ¬ K < 30 := by intro K h1 h2; omega
  clear hH hM hP hQ hMe hrH hrM haH haM HH HM
  go_wp2_with fail
  go_loopw [11, 12, 13, 14, 15] (fun n' k' i _ _ wr => ∃ K : Nat, i = .int .i64 (K : Int) ∧ n' = .int .i64 (cnt P K : Int) ∧ k' = .int .i64 (cnt Q K : Int) ∧ K ≤ M ∧ Below w4.heap.size w4 wr) (fun _ _ i _ _ _ => 30 - (intOf i).toNat)
  case atStart => exact ⟨0, rfl, rfl, rfl, Nat.zero_le _, Below.refl _ _⟩
  case round =>
    obtain ⟨K, rfl, rfl, rfl, hK, hB⟩ := hrel
    have a0 := (hB.cell (p := ⟨w.heap.size, 0, none⟩) (hal)).trans a0
    have a1 := (hB.cell (p := ⟨w.heap.size, 1, none⟩) (hal)).trans a1
    have a2 := (hB.cell (p := ⟨w.heap.size, 2, none⟩) (hal)).trans a2
    have a3 := (hB.cell (p := ⟨w.heap.size, 3, none⟩) (hal)).trans a3
    have a4 := (hB.cell (p := ⟨w.heap.size, 4, none⟩) (hal)).trans a4
    have t0 := (hB.cell (p := ⟨w.heap.size + 1, 0, none⟩) (htl)).trans t0
    have t1 := (hB.cell (p := ⟨w.heap.size + 1, 1, none⟩) (htl)).trans t1
    have t2 := (hB.cell (p := ⟨w.heap.size + 1, 2, none⟩) (htl)).trans t2
    have hal := Nat.lt_of_lt_of_le hal hB.size
    have htl := Nat.lt_of_lt_of_le htl hB.size
    by_cases hlt : K < M
    · have h1 : (K : Int) < (xs.length : Int) := by omega
      have h2 : (K : Int) < 30 := by omega
      have hKl : K < xs.length := by omega
      have hs : xs[K]? = some xs[K] := List.getElem?_eq_getElem hKl
      obtain ⟨a, ha⟩ : ∃ a, xs[K] = a := ⟨_, rfl⟩
      rw [ha] at hs
      have hPK : P K = (a.right && hasB s' r' c' a) := by rw [HP.out]; unfold asks; rw [hs]; rfl
      have hQK : Q K = (a.right && meetsB s r c n m a) := by rw [HQ.out]; unfold asks; rw [hs]; rfl
      obtain ⟨pp', cap', e, _, hc⟩ := HAB.out wr (hb4.trans (hB.mono hb4.size))
      obtain ⟨g, off, e2, hg, e0, e1, e2', e3, e4⟩ := hc K a hs
      simp only [Value.slice.injEq] at e
      obtain ⟨rfl, _, rfl⟩ := e
      subst e2
      have e2 := e2'
      have hgl : g < wr.heap.size := World.block_lt_of_cell? _ _ e0
      have HR := Lib.hid (right21_any a.s a.r a.c a.n a.m)
      have HX := Lib.hid (has_any a s' r' c')
      have HY := Lib.hid (meet_any a.s a.r a.c a.n a.m s r c n m)
      have HZ := Lib.hid (right21_any s r c n m)
      have hym : meetB a.s a.r a.c a.n a.m s r c n m = meetsB s r c n m a := meetB_comm _ _ _ _ _ _ _ _ _ _
      rw [hym] at HY
      clear hc ha hym
      cases hr : a.right with
      | false =>
        have HR := Lib.hid (show ∀ wi, _ from HR.out)
        rw [show rightB a.s a.r a.c a.n a.m = false from hr] at HR
        go_wp2_with (go_at_call 21; refine (HR.out _).mono ?_; rintro e wn ⟨rfl, hBn⟩; have e0 := (hBn.cell (p := ⟨g, off + K * 5, none⟩) (hgl)).trans e0; have e1 := (hBn.cell (p := ⟨g, off + K * 5 + 1, none⟩) (hgl)).trans e1; have e2 := (hBn.cell (p := ⟨g, off + K * 5 + 2, none⟩) (hgl)).trans e2; have e3 := (hBn.cell (p := ⟨g, off + K * 5 + 3, none⟩) (hgl)).trans e3; have e4 := (hBn.cell (p := ⟨g, off + K * 5 + 4, none⟩) (hgl)).trans e4; have a0 := (hBn.cell (p := ⟨w.heap.size, 0, none⟩) (hal)).trans a0; have a1 := (hBn.cell (p := ⟨w.heap.size, 1, none⟩) (hal)).trans a1; have a2 := (hBn.cell (p := ⟨w.heap.size, 2, none⟩) (hal)).trans a2; have a3 := (hBn.cell (p := ⟨w.heap.size, 3, none⟩) (hal)).trans a3; have a4 := (hBn.cell (p := ⟨w.heap.size, 4, none⟩) (hal)).trans a4; have t0 := (hBn.cell (p := ⟨w.heap.size + 1, 0, none⟩) (htl)).trans t0; have t1 := (hBn.cell (p := ⟨w.heap.size + 1, 1, none⟩) (htl)).trans t1; have t2 := (hBn.cell (p := ⟨w.heap.size + 1, 2, none⟩) (htl)).trans t2; have hB := hB.trans (hBn.mono hB.size); have hgl := Nat.lt_of_lt_of_le hgl hBn.size; have hal := Nat.lt_of_lt_of_le hal hBn.size; have htl := Nat.lt_of_lt_of_le htl hBn.size)
        go_roundw
        case rel =>
          refine ⟨K + 1, by go_num, ?_, ?_, by omega, by first | exact hB | exact hB.alloc hB.size _ | exact hB.trans ⟨rfl, rfl, rfl, Nat.le_refl _, fun _ _ => rfl⟩⟩
          · rw [cnt_f (by rw [hPK, hr]; rfl)]
          · rw [cnt_f (by rw [hQK, hr]; rfl)]
        case measure => simp [intOf]; omega
      | true =>
        have HR := Lib.hid (show ∀ wi, _ from HR.out)
        rw [show rightB a.s a.r a.c a.n a.m = true from hr] at HR
        by_cases hhm : hasB s' r' c' a = false ∧ meetsB s r c n m a = false
        · obtain ⟨hh, hm⟩ := hhm
          have HX := Lib.hid (show ∀ wi, _ from HX.out)
          rw [hh] at HX
          have HY := Lib.hid (show ∀ wi, _ from HY.out)
          rw [hm] at HY
          have hKK : ((K : Int) != (K : Int)) = false := by simp
          go_wp2_with (go_at_call 21; refine (HR.out _).mono ?_; rintro e wn ⟨rfl, hBn⟩; have e0 := (hBn.cell (p := ⟨g, off + K * 5, none⟩) (hgl)).trans e0; have e1 := (hBn.cell (p := ⟨g, off + K * 5 + 1, none⟩) (hgl)).trans e1; have e2 := (hBn.cell (p := ⟨g, off + K * 5 + 2, none⟩) (hgl)).trans e2; have e3 := (hBn.cell (p := ⟨g, off + K * 5 + 3, none⟩) (hgl)).trans e3; have e4 := (hBn.cell (p := ⟨g, off + K * 5 + 4, none⟩) (hgl)).trans e4; have a0 := (hBn.cell (p := ⟨w.heap.size, 0, none⟩) (hal)).trans a0; have a1 := (hBn.cell (p := ⟨w.heap.size, 1, none⟩) (hal)).trans a1; have a2 := (hBn.cell (p := ⟨w.heap.size, 2, none⟩) (hal)).trans a2; have a3 := (hBn.cell (p := ⟨w.heap.size, 3, none⟩) (hal)).trans a3; have a4 := (hBn.cell (p := ⟨w.heap.size, 4, none⟩) (hal)).trans a4; have t0 := (hBn.cell (p := ⟨w.heap.size + 1, 0, none⟩) (htl)).trans t0; have t1 := (hBn.cell (p := ⟨w.heap.size + 1, 1, none⟩) (htl)).trans t1; have t2 := (hBn.cell (p := ⟨w.heap.size + 1, 2, none⟩) (htl)).trans t2; have hB := hB.trans (hBn.mono hB.size); have hgl := Nat.lt_of_lt_of_le hgl hBn.size; have hal := Nat.lt_of_lt_of_le hal hBn.size; have htl := Nat.lt_of_lt_of_le htl hBn.size)
          have e0 : wn.drew.cell? ⟨g, off + K * 5, none⟩ = some (.int .i64 a.s) := e0
          have a0 : wn.drew.cell? ⟨w.heap.size, 0, none⟩ = some (.int .i64 s) := a0
          have e1 : wn.drew.cell? ⟨g, off + K * 5 + 1, none⟩ = some (.int .i64 a.r) := e1
          have a1 : wn.drew.cell? ⟨w.heap.size, 1, none⟩ = some (.int .i64 r) := a1
          have e2 : wn.drew.cell? ⟨g, off + K * 5 + 2, none⟩ = some (.int .i64 a.c) := e2
          have a2 : wn.drew.cell? ⟨w.heap.size, 2, none⟩ = some (.int .i64 c) := a2
          have e3 : wn.drew.cell? ⟨g, off + K * 5 + 3, none⟩ = some (.int .i64 a.n) := e3
          have a3 : wn.drew.cell? ⟨w.heap.size, 3, none⟩ = some (.int .i64 n) := a3
          have e4 : wn.drew.cell? ⟨g, off + K * 5 + 4, none⟩ = some (.int .i64 a.m) := e4
          have a4 : wn.drew.cell? ⟨w.heap.size, 4, none⟩ = some (.int .i64 m) := a4
          have t0 : wn.drew.cell? ⟨w.heap.size + 1, 0, none⟩ = some (.int .i64 s') := t0
          have t1 : wn.drew.cell? ⟨w.heap.size + 1, 1, none⟩ = some (.int .i64 r') := t1
          have t2 : wn.drew.cell? ⟨w.heap.size + 1, 2, none⟩ = some (.int .i64 c') := t2
          have hB := hB.drew
          have hgl : g < wn.drew.heap.size := hgl
          have hal : w.heap.size < wn.drew.heap.size := hal
          have htl : w.heap.size + 1 < wn.drew.heap.size := htl
          go_region_held3 (fun w' => w'.cell? ⟨g, off + K * 5, none⟩ = some (.int .i64 a.s) ∧ w'.cell? ⟨g, off + K * 5 + 1, none⟩ = some (.int .i64 a.r) ∧ w'.cell? ⟨g, off + K * 5 + 2, none⟩ = some (.int .i64 a.c) ∧ w'.cell? ⟨g, off + K * 5 + 3, none⟩ = some (.int .i64 a.n) ∧ w'.cell? ⟨g, off + K * 5 + 4, none⟩ = some (.int .i64 a.m) ∧ w'.cell? ⟨w.heap.size + 1, 0, none⟩ = some (.int .i64 s') ∧ w'.cell? ⟨w.heap.size + 1, 1, none⟩ = some (.int .i64 r') ∧ w'.cell? ⟨w.heap.size + 1, 2, none⟩ = some (.int .i64 c'))
            (first | exact ⟨e0, e1, e2, e3, e4, t0, t1, t2⟩ | fail)
            (first
              | (go_at_call 22; refine (HX.out _).mono ?_; rintro e wn ⟨rfl, hBn⟩; have e0 := (hBn.cell (p := ⟨g, off + K * 5, none⟩) (hgl)).trans e0; have e1 := (hBn.cell (p := ⟨g, off + K * 5 + 1, none⟩) (hgl)).trans e1; have e2 := (hBn.cell (p := ⟨g, off + K * 5 + 2, none⟩) (hgl)).trans e2; have e3 := (hBn.cell (p := ⟨g, off + K * 5 + 3, none⟩) (hgl)).trans e3; have e4 := (hBn.cell (p := ⟨g, off + K * 5 + 4, none⟩) (hgl)).trans e4; have a0 := (hBn.cell (p := ⟨w.heap.size, 0, none⟩) (hal)).trans a0; have a1 := (hBn.cell (p := ⟨w.heap.size, 1, none⟩) (hal)).trans a1; have a2 := (hBn.cell (p := ⟨w.heap.size, 2, none⟩) (hal)).trans a2; have a3 := (hBn.cell (p := ⟨w.heap.size, 3, none⟩) (hal)).trans a3; have a4 := (hBn.cell (p := ⟨w.heap.size, 4, none⟩) (hal)).trans a4; have t0 := (hBn.cell (p := ⟨w.heap.size + 1, 0, none⟩) (htl)).trans t0; have t1 := (hBn.cell (p := ⟨w.heap.size + 1, 1, none⟩) (htl)).trans t1; have t2 := (hBn.cell (p := ⟨w.heap.size + 1, 2, none⟩) (htl)).trans t2; have hB := hB.trans (hBn.mono hB.size); have hgl := Nat.lt_of_lt_of_le hgl hBn.size; have hal := Nat.lt_of_lt_of_le hal hBn.size; have htl := Nat.lt_of_lt_of_le htl hBn.size)
              | fail)
          go_wp2_with fail
          obtain ⟨W0, hW0⟩ : ∃ W0, W0 = wn := ⟨_, rfl⟩
          have e0 : W0.cell? ⟨g, off + K * 5, none⟩ = some (.int .i64 a.s) := by rw [hW0]; exact e0
          have a0 : W0.cell? ⟨w.heap.size, 0, none⟩ = some (.int .i64 s) := by rw [hW0]; exact a0
          have e1 : W0.cell? ⟨g, off + K * 5 + 1, none⟩ = some (.int .i64 a.r) := by rw [hW0]; exact e1
          have a1 : W0.cell? ⟨w.heap.size, 1, none⟩ = some (.int .i64 r) := by rw [hW0]; exact a1
          have e2 : W0.cell? ⟨g, off + K * 5 + 2, none⟩ = some (.int .i64 a.c) := by rw [hW0]; exact e2
          have a2 : W0.cell? ⟨w.heap.size, 2, none⟩ = some (.int .i64 c) := by rw [hW0]; exact a2
          have e3 : W0.cell? ⟨g, off + K * 5 + 3, none⟩ = some (.int .i64 a.n) := by rw [hW0]; exact e3
          have a3 : W0.cell? ⟨w.heap.size, 3, none⟩ = some (.int .i64 n) := by rw [hW0]; exact a3
          have e4 : W0.cell? ⟨g, off + K * 5 + 4, none⟩ = some (.int .i64 a.m) := by rw [hW0]; exact e4
          have a4 : W0.cell? ⟨w.heap.size, 4, none⟩ = some (.int .i64 m) := by rw [hW0]; exact a4
          have hB : Below w4.heap.size w4 W0 := by rw [hW0]; exact hB
          have hgl : g < W0.heap.size := by rw [hW0]; exact hgl
          have hal : w.heap.size < W0.heap.size := by rw [hW0]; exact hal
          have htl : w.heap.size + 1 < W0.heap.size := by rw [hW0]; exact htl
          rw [← hW0]
          clear hW0 t0 t1 t2
          have hD := (Below.refl W0.heap.size W0).drew
          have hDs := hD.size
          go_region_held3 (fun w' => w'.cell? ⟨g, off + K * 5, none⟩ = some (.int .i64 a.s) ∧ w'.cell? ⟨g, off + K * 5 + 1, none⟩ = some (.int .i64 a.r) ∧ w'.cell? ⟨g, off + K * 5 + 2, none⟩ = some (.int .i64 a.c) ∧ w'.cell? ⟨g, off + K * 5 + 3, none⟩ = some (.int .i64 a.n) ∧ w'.cell? ⟨g, off + K * 5 + 4, none⟩ = some (.int .i64 a.m) ∧ w'.cell? ⟨w.heap.size, 0, none⟩ = some (.int .i64 s) ∧ w'.cell? ⟨w.heap.size, 1, none⟩ = some (.int .i64 r) ∧ w'.cell? ⟨w.heap.size, 2, none⟩ = some (.int .i64 c) ∧ w'.cell? ⟨w.heap.size, 3, none⟩ = some (.int .i64 n) ∧ w'.cell? ⟨w.heap.size, 4, none⟩ = some (.int .i64 m))
            (first | exact ⟨(by (repeat refine (World.cell?_setCell_far _ _ _ _ (by first | (simp; done) | (simp; omega))).trans ?_); first | exact (hD.cell (p := ⟨g, off + K * 5, none⟩) hgl).trans e0 | exact ((hD.alloc hD.size _).cell (p := ⟨g, off + K * 5, none⟩) hgl).trans e0), (by (repeat refine (World.cell?_setCell_far _ _ _ _ (by first | (simp; done) | (simp; omega))).trans ?_); first | exact (hD.cell (p := ⟨g, off + K * 5 + 1, none⟩) hgl).trans e1 | exact ((hD.alloc hD.size _).cell (p := ⟨g, off + K * 5 + 1, none⟩) hgl).trans e1), (by (repeat refine (World.cell?_setCell_far _ _ _ _ (by first | (simp; done) | (simp; omega))).trans ?_); first | exact (hD.cell (p := ⟨g, off + K * 5 + 2, none⟩) hgl).trans e2 | exact ((hD.alloc hD.size _).cell (p := ⟨g, off + K * 5 + 2, none⟩) hgl).trans e2), (by (repeat refine (World.cell?_setCell_far _ _ _ _ (by first | (simp; done) | (simp; omega))).trans ?_); first | exact (hD.cell (p := ⟨g, off + K * 5 + 3, none⟩) hgl).trans e3 | exact ((hD.alloc hD.size _).cell (p := ⟨g, off + K * 5 + 3, none⟩) hgl).trans e3), (by (repeat refine (World.cell?_setCell_far _ _ _ _ (by first | (simp; done) | (simp; omega))).trans ?_); first | exact (hD.cell (p := ⟨g, off + K * 5 + 4, none⟩) hgl).trans e4 | exact ((hD.alloc hD.size _).cell (p := ⟨g, off + K * 5 + 4, none⟩) hgl).trans e4), (by (repeat refine (World.cell?_setCell_far _ _ _ _ (by first | (simp; done) | (simp; omega))).trans ?_); first | exact (hD.cell (p := ⟨w.heap.size, 0, none⟩) hal).trans a0 | exact ((hD.alloc hD.size _).cell (p := ⟨w.heap.size, 0, none⟩) hal).trans a0), (by (repeat refine (World.cell?_setCell_far _ _ _ _ (by first | (simp; done) | (simp; omega))).trans ?_); first | exact (hD.cell (p := ⟨w.heap.size, 1, none⟩) hal).trans a1 | exact ((hD.alloc hD.size _).cell (p := ⟨w.heap.size, 1, none⟩) hal).trans a1), (by (repeat refine (World.cell?_setCell_far _ _ _ _ (by first | (simp; done) | (simp; omega))).trans ?_); first | exact (hD.cell (p := ⟨w.heap.size, 2, none⟩) hal).trans a2 | exact ((hD.alloc hD.size _).cell (p := ⟨w.heap.size, 2, none⟩) hal).trans a2), (by (repeat refine (World.cell?_setCell_far _ _ _ _ (by first | (simp; done) | (simp; omega))).trans ?_); first | exact (hD.cell (p := ⟨w.heap.size, 3, none⟩) hal).trans a3 | exact ((hD.alloc hD.size _).cell (p := ⟨w.heap.size, 3, none⟩) hal).trans a3), (by (repeat refine (World.cell?_setCell_far _ _ _ _ (by first | (simp; done) | (simp; omega))).trans ?_); first | exact (hD.cell (p := ⟨w.heap.size, 4, none⟩) hal).trans a4 | exact ((hD.alloc hD.size _).cell (p := ⟨w.heap.size, 4, none⟩) hal).trans a4)⟩ | fail)
            (first
              | (go_at_call 23; refine (HY.out _).mono ?_; rintro e wn ⟨⟨x1, x2, x3, x4, x5, rfl⟩, hBn⟩; (first | have hD := hD.trans (hBn.mono hD.size) | (have hz : World.area wn W0.heap.size 0 0 0 0 0 := (World.area_new W0.drew 0 0 0 0 0).below hBn (World.area_new W0.drew 0 0 0 0 0).lt; have z0 := hz.cell 0 _ rfl; have z1 := hz.cell 1 _ rfl; have z2 := hz.cell 2 _ rfl; have z3 := hz.cell 3 _ rfl; have z4 := hz.cell 4 _ rfl; have y0 := frozen_of_row _ _ 0 _ _ hz; have y1 := frozen_of_row _ _ 1 _ _ hz; have y2 := frozen_of_row _ _ 2 _ _ hz; have y3 := frozen_of_row _ _ 3 _ _ hz; have y4 := frozen_of_row _ _ 4 _ _ hz; have hD := (hD.alloc hD.size _).trans (hBn.mono (hD.alloc hD.size _).size))); have hDs := hD.size)
              | fail)
          · obtain ⟨WF, hWF⟩ : ∃ WF, WF = wn.alloc (.cells #[.int .i64 x1, .int .i64 x2, .int .i64 x3, .int .i64 x4, .int .i64 x5] 31) := ⟨_, rfl⟩
            rw [← hWF]
            have hBF : Below W0.heap.size W0 WF := by rw [hWF]; exact hD.alloc hD.size _
            clear hWF
            have hFs := hBF.size
            have hB := hB.trans (hBF.mono hB.size)
            have a0 := (hBF.cell (p := ⟨w.heap.size, 0, none⟩) hal).trans a0
            have a1 := (hBF.cell (p := ⟨w.heap.size, 1, none⟩) hal).trans a1
            have a2 := (hBF.cell (p := ⟨w.heap.size, 2, none⟩) hal).trans a2
            have a3 := (hBF.cell (p := ⟨w.heap.size, 3, none⟩) hal).trans a3
            have a4 := (hBF.cell (p := ⟨w.heap.size, 4, none⟩) hal).trans a4
            go_wp2_with fail
            go_roundw
            case rel =>
              refine ⟨K + 1, by go_num, ?_, ?_, by omega, by first | exact hB | exact hB.alloc hB.size _ | exact hB.trans ⟨rfl, rfl, rfl, Nat.le_refl _, fun _ _ => rfl⟩⟩
              · rw [cnt_f (by rw [hPK, hr, hh]; rfl)]
              · rw [cnt_f (by rw [hQK, hr, hm]; rfl)]
            case measure => simp [intOf]; omega
          · obtain ⟨WF, hWF⟩ : ∃ WF, WF = (((((wn.setCell ⟨W0.heap.size, 0, none⟩ (.int .i64 x1)).setCell ⟨W0.heap.size, 1, none⟩ (.int .i64 x2)).setCell ⟨W0.heap.size, 2, none⟩ (.int .i64 x3)).setCell ⟨W0.heap.size, 3, none⟩ (.int .i64 x4)).setCell ⟨W0.heap.size, 4, none⟩ (.int .i64 x5)) := ⟨_, rfl⟩
            rw [← hWF]
            have hBF : Below W0.heap.size W0 WF := by rw [hWF]; exact ((((hD.setCell (Nat.le_refl _) _).setCell (Nat.le_refl _) _).setCell (Nat.le_refl _) _).setCell (Nat.le_refl _) _).setCell (Nat.le_refl _) _
            clear hWF
            have hFs := hBF.size
            have hB := hB.trans (hBF.mono hB.size)
            have a0 := (hBF.cell (p := ⟨w.heap.size, 0, none⟩) hal).trans a0
            have a1 := (hBF.cell (p := ⟨w.heap.size, 1, none⟩) hal).trans a1
            have a2 := (hBF.cell (p := ⟨w.heap.size, 2, none⟩) hal).trans a2
            have a3 := (hBF.cell (p := ⟨w.heap.size, 3, none⟩) hal).trans a3
            have a4 := (hBF.cell (p := ⟨w.heap.size, 4, none⟩) hal).trans a4
            go_wp2_with fail
            go_roundw
            case rel =>
              refine ⟨K + 1, by go_num, ?_, ?_, by omega, by first | exact hB | exact hB.alloc hB.size _ | exact hB.trans ⟨rfl, rfl, rfl, Nat.le_refl _, fun _ _ => rfl⟩⟩
              · rw [cnt_f (by rw [hPK, hr, hh]; rfl)]
              · rw [cnt_f (by rw [hQK, hr, hm]; rfl)]
            case measure => simp [intOf]; omega
        by_cases hhm : hasB s' r' c' a = false ∧ meetsB s r c n m a = true
        · obtain ⟨hh, hm⟩ := hhm
          have HX := Lib.hid (show ∀ wi, _ from HX.out)
          rw [hh] at HX
          have HY := Lib.hid (show ∀ wi, _ from HY.out)
          rw [hm] at HY
          have HZ := Lib.hid (show ∀ wi, _ from HZ.out)
          rw [show rightB s r c n m = true from (meetB_iff.1 hm).1] at HZ
          have hQt : Q K = true := by rw [hQK, hr, hm]; rfl
          obtain ⟨gm, em, _, cm⟩ := HMr.out (cnt Q K) K (pick_get hlt hQt)
          subst em
          have cm := (hB.cell (p := ⟨gm, cnt Q K, none⟩) (w4.block_lt_of_cell? _ cm)).trans cm
          have hcm := cnt_lt hlt hQt
          have hQl : (cnt Q K : Int) < (cnt Q M : Int) := by omega
          have hgml : gm < wr.heap.size := World.block_lt_of_cell? _ _ cm
          have hKK : ((K : Int) != (K : Int)) = false := by simp
          go_wp2_with (go_at_call 21; refine (HR.out _).mono ?_; rintro e wn ⟨rfl, hBn⟩; have cm := (hBn.cell (p := ⟨gm, cnt Q K, none⟩) hgml).trans cm; have hgml := Nat.lt_of_lt_of_le hgml hBn.size; have e0 := (hBn.cell (p := ⟨g, off + K * 5, none⟩) (hgl)).trans e0; have e1 := (hBn.cell (p := ⟨g, off + K * 5 + 1, none⟩) (hgl)).trans e1; have e2 := (hBn.cell (p := ⟨g, off + K * 5 + 2, none⟩) (hgl)).trans e2; have e3 := (hBn.cell (p := ⟨g, off + K * 5 + 3, none⟩) (hgl)).trans e3; have e4 := (hBn.cell (p := ⟨g, off + K * 5 + 4, none⟩) (hgl)).trans e4; have a0 := (hBn.cell (p := ⟨w.heap.size, 0, none⟩) (hal)).trans a0; have a1 := (hBn.cell (p := ⟨w.heap.size, 1, none⟩) (hal)).trans a1; have a2 := (hBn.cell (p := ⟨w.heap.size, 2, none⟩) (hal)).trans a2; have a3 := (hBn.cell (p := ⟨w.heap.size, 3, none⟩) (hal)).trans a3; have a4 := (hBn.cell (p := ⟨w.heap.size, 4, none⟩) (hal)).trans a4; have t0 := (hBn.cell (p := ⟨w.heap.size + 1, 0, none⟩) (htl)).trans t0; have t1 := (hBn.cell (p := ⟨w.heap.size + 1, 1, none⟩) (htl)).trans t1; have t2 := (hBn.cell (p := ⟨w.heap.size + 1, 2, none⟩) (htl)).trans t2; have hB := hB.trans (hBn.mono hB.size); have hgl := Nat.lt_of_lt_of_le hgl hBn.size; have hal := Nat.lt_of_lt_of_le hal hBn.size; have htl := Nat.lt_of_lt_of_le htl hBn.size)
          have e0 : wn.drew.cell? ⟨g, off + K * 5, none⟩ = some (.int .i64 a.s) := e0
          have a0 : wn.drew.cell? ⟨w.heap.size, 0, none⟩ = some (.int .i64 s) := a0
          have e1 : wn.drew.cell? ⟨g, off + K * 5 + 1, none⟩ = some (.int .i64 a.r) := e1
          have a1 : wn.drew.cell? ⟨w.heap.size, 1, none⟩ = some (.int .i64 r) := a1
          have e2 : wn.drew.cell? ⟨g, off + K * 5 + 2, none⟩ = some (.int .i64 a.c) := e2
          have a2 : wn.drew.cell? ⟨w.heap.size, 2, none⟩ = some (.int .i64 c) := a2
          have e3 : wn.drew.cell? ⟨g, off + K * 5 + 3, none⟩ = some (.int .i64 a.n) := e3
          have a3 : wn.drew.cell? ⟨w.heap.size, 3, none⟩ = some (.int .i64 n) := a3
          have e4 : wn.drew.cell? ⟨g, off + K * 5 + 4, none⟩ = some (.int .i64 a.m) := e4
          have a4 : wn.drew.cell? ⟨w.heap.size, 4, none⟩ = some (.int .i64 m) := a4
          have t0 : wn.drew.cell? ⟨w.heap.size + 1, 0, none⟩ = some (.int .i64 s') := t0
          have t1 : wn.drew.cell? ⟨w.heap.size + 1, 1, none⟩ = some (.int .i64 r') := t1
          have t2 : wn.drew.cell? ⟨w.heap.size + 1, 2, none⟩ = some (.int .i64 c') := t2
          have hB := hB.drew
          have hgl : g < wn.drew.heap.size := hgl
          have hal : w.heap.size < wn.drew.heap.size := hal
          have htl : w.heap.size + 1 < wn.drew.heap.size := htl
          have cm : wn.drew.cell? ⟨gm, cnt Q K, none⟩ = some (.int .i64 K) := cm
          have hgml : gm < wn.drew.heap.size := hgml
          go_region_held3 (fun w' => w'.cell? ⟨g, off + K * 5, none⟩ = some (.int .i64 a.s) ∧ w'.cell? ⟨g, off + K * 5 + 1, none⟩ = some (.int .i64 a.r) ∧ w'.cell? ⟨g, off + K * 5 + 2, none⟩ = some (.int .i64 a.c) ∧ w'.cell? ⟨g, off + K * 5 + 3, none⟩ = some (.int .i64 a.n) ∧ w'.cell? ⟨g, off + K * 5 + 4, none⟩ = some (.int .i64 a.m) ∧ w'.cell? ⟨w.heap.size + 1, 0, none⟩ = some (.int .i64 s') ∧ w'.cell? ⟨w.heap.size + 1, 1, none⟩ = some (.int .i64 r') ∧ w'.cell? ⟨w.heap.size + 1, 2, none⟩ = some (.int .i64 c'))
            (first | exact ⟨e0, e1, e2, e3, e4, t0, t1, t2⟩ | fail)
            (first
              | (go_at_call 22; refine (HX.out _).mono ?_; rintro e wn ⟨rfl, hBn⟩; have cm := (hBn.cell (p := ⟨gm, cnt Q K, none⟩) hgml).trans cm; have hgml := Nat.lt_of_lt_of_le hgml hBn.size; have e0 := (hBn.cell (p := ⟨g, off + K * 5, none⟩) (hgl)).trans e0; have e1 := (hBn.cell (p := ⟨g, off + K * 5 + 1, none⟩) (hgl)).trans e1; have e2 := (hBn.cell (p := ⟨g, off + K * 5 + 2, none⟩) (hgl)).trans e2; have e3 := (hBn.cell (p := ⟨g, off + K * 5 + 3, none⟩) (hgl)).trans e3; have e4 := (hBn.cell (p := ⟨g, off + K * 5 + 4, none⟩) (hgl)).trans e4; have a0 := (hBn.cell (p := ⟨w.heap.size, 0, none⟩) (hal)).trans a0; have a1 := (hBn.cell (p := ⟨w.heap.size, 1, none⟩) (hal)).trans a1; have a2 := (hBn.cell (p := ⟨w.heap.size, 2, none⟩) (hal)).trans a2; have a3 := (hBn.cell (p := ⟨w.heap.size, 3, none⟩) (hal)).trans a3; have a4 := (hBn.cell (p := ⟨w.heap.size, 4, none⟩) (hal)).trans a4; have t0 := (hBn.cell (p := ⟨w.heap.size + 1, 0, none⟩) (htl)).trans t0; have t1 := (hBn.cell (p := ⟨w.heap.size + 1, 1, none⟩) (htl)).trans t1; have t2 := (hBn.cell (p := ⟨w.heap.size + 1, 2, none⟩) (htl)).trans t2; have hB := hB.trans (hBn.mono hB.size); have hgl := Nat.lt_of_lt_of_le hgl hBn.size; have hal := Nat.lt_of_lt_of_le hal hBn.size; have htl := Nat.lt_of_lt_of_le htl hBn.size)
              | fail)
          go_wp2_with fail
          obtain ⟨W0, hW0⟩ : ∃ W0, W0 = wn := ⟨_, rfl⟩
          have e0 : W0.cell? ⟨g, off + K * 5, none⟩ = some (.int .i64 a.s) := by rw [hW0]; exact e0
          have a0 : W0.cell? ⟨w.heap.size, 0, none⟩ = some (.int .i64 s) := by rw [hW0]; exact a0
          have e1 : W0.cell? ⟨g, off + K * 5 + 1, none⟩ = some (.int .i64 a.r) := by rw [hW0]; exact e1
          have a1 : W0.cell? ⟨w.heap.size, 1, none⟩ = some (.int .i64 r) := by rw [hW0]; exact a1
          have e2 : W0.cell? ⟨g, off + K * 5 + 2, none⟩ = some (.int .i64 a.c) := by rw [hW0]; exact e2
          have a2 : W0.cell? ⟨w.heap.size, 2, none⟩ = some (.int .i64 c) := by rw [hW0]; exact a2
          have e3 : W0.cell? ⟨g, off + K * 5 + 3, none⟩ = some (.int .i64 a.n) := by rw [hW0]; exact e3
          have a3 : W0.cell? ⟨w.heap.size, 3, none⟩ = some (.int .i64 n) := by rw [hW0]; exact a3
          have e4 : W0.cell? ⟨g, off + K * 5 + 4, none⟩ = some (.int .i64 a.m) := by rw [hW0]; exact e4
          have a4 : W0.cell? ⟨w.heap.size, 4, none⟩ = some (.int .i64 m) := by rw [hW0]; exact a4
          have hB : Below w4.heap.size w4 W0 := by rw [hW0]; exact hB
          have hgl : g < W0.heap.size := by rw [hW0]; exact hgl
          have hal : w.heap.size < W0.heap.size := by rw [hW0]; exact hal
          have htl : w.heap.size + 1 < W0.heap.size := by rw [hW0]; exact htl
          have cm : W0.cell? ⟨gm, cnt Q K, none⟩ = some (.int .i64 K) := by rw [hW0]; exact cm
          have hgml : gm < W0.heap.size := by rw [hW0]; exact hgml
          rw [← hW0]
          clear hW0 t0 t1 t2
          have hD := (Below.refl W0.heap.size W0).drew
          have hDs := hD.size
          go_region_held3 (fun w' => w'.cell? ⟨g, off + K * 5, none⟩ = some (.int .i64 a.s) ∧ w'.cell? ⟨g, off + K * 5 + 1, none⟩ = some (.int .i64 a.r) ∧ w'.cell? ⟨g, off + K * 5 + 2, none⟩ = some (.int .i64 a.c) ∧ w'.cell? ⟨g, off + K * 5 + 3, none⟩ = some (.int .i64 a.n) ∧ w'.cell? ⟨g, off + K * 5 + 4, none⟩ = some (.int .i64 a.m) ∧ w'.cell? ⟨w.heap.size, 0, none⟩ = some (.int .i64 s) ∧ w'.cell? ⟨w.heap.size, 1, none⟩ = some (.int .i64 r) ∧ w'.cell? ⟨w.heap.size, 2, none⟩ = some (.int .i64 c) ∧ w'.cell? ⟨w.heap.size, 3, none⟩ = some (.int .i64 n) ∧ w'.cell? ⟨w.heap.size, 4, none⟩ = some (.int .i64 m))
            (first | exact ⟨(by (repeat refine (World.cell?_setCell_far _ _ _ _ (by first | (simp; done) | (simp; omega))).trans ?_); first | exact (hD.cell (p := ⟨g, off + K * 5, none⟩) hgl).trans e0 | exact ((hD.alloc hD.size _).cell (p := ⟨g, off + K * 5, none⟩) hgl).trans e0), (by (repeat refine (World.cell?_setCell_far _ _ _ _ (by first | (simp; done) | (simp; omega))).trans ?_); first | exact (hD.cell (p := ⟨g, off + K * 5 + 1, none⟩) hgl).trans e1 | exact ((hD.alloc hD.size _).cell (p := ⟨g, off + K * 5 + 1, none⟩) hgl).trans e1), (by (repeat refine (World.cell?_setCell_far _ _ _ _ (by first | (simp; done) | (simp; omega))).trans ?_); first | exact (hD.cell (p := ⟨g, off + K * 5 + 2, none⟩) hgl).trans e2 | exact ((hD.alloc hD.size _).cell (p := ⟨g, off + K * 5 + 2, none⟩) hgl).trans e2), (by (repeat refine (World.cell?_setCell_far _ _ _ _ (by first | (simp; done) | (simp; omega))).trans ?_); first | exact (hD.cell (p := ⟨g, off + K * 5 + 3, none⟩) hgl).trans e3 | exact ((hD.alloc hD.size _).cell (p := ⟨g, off + K * 5 + 3, none⟩) hgl).trans e3), (by (repeat refine (World.cell?_setCell_far _ _ _ _ (by first | (simp; done) | (simp; omega))).trans ?_); first | exact (hD.cell (p := ⟨g, off + K * 5 + 4, none⟩) hgl).trans e4 | exact ((hD.alloc hD.size _).cell (p := ⟨g, off + K * 5 + 4, none⟩) hgl).trans e4), (by (repeat refine (World.cell?_setCell_far _ _ _ _ (by first | (simp; done) | (simp; omega))).trans ?_); first | exact (hD.cell (p := ⟨w.heap.size, 0, none⟩) hal).trans a0 | exact ((hD.alloc hD.size _).cell (p := ⟨w.heap.size, 0, none⟩) hal).trans a0), (by (repeat refine (World.cell?_setCell_far _ _ _ _ (by first | (simp; done) | (simp; omega))).trans ?_); first | exact (hD.cell (p := ⟨w.heap.size, 1, none⟩) hal).trans a1 | exact ((hD.alloc hD.size _).cell (p := ⟨w.heap.size, 1, none⟩) hal).trans a1), (by (repeat refine (World.cell?_setCell_far _ _ _ _ (by first | (simp; done) | (simp; omega))).trans ?_); first | exact (hD.cell (p := ⟨w.heap.size, 2, none⟩) hal).trans a2 | exact ((hD.alloc hD.size _).cell (p := ⟨w.heap.size, 2, none⟩) hal).trans a2), (by (repeat refine (World.cell?_setCell_far _ _ _ _ (by first | (simp; done) | (simp; omega))).trans ?_); first | exact (hD.cell (p := ⟨w.heap.size, 3, none⟩) hal).trans a3 | exact ((hD.alloc hD.size _).cell (p := ⟨w.heap.size, 3, none⟩) hal).trans a3), (by (repeat refine (World.cell?_setCell_far _ _ _ _ (by first | (simp; done) | (simp; omega))).trans ?_); first | exact (hD.cell (p := ⟨w.heap.size, 4, none⟩) hal).trans a4 | exact ((hD.alloc hD.size _).cell (p := ⟨w.heap.size, 4, none⟩) hal).trans a4)⟩ | fail)
            (first
              | (go_at_call 23; refine (HY.out _).mono ?_; rintro e wn ⟨⟨x1, x2, x3, x4, x5, rfl⟩, hBn⟩; (first | have hD := hD.trans (hBn.mono hD.size) | (have hz : World.area wn W0.heap.size 0 0 0 0 0 := (World.area_new W0.drew 0 0 0 0 0).below hBn (World.area_new W0.drew 0 0 0 0 0).lt; have z0 := hz.cell 0 _ rfl; have z1 := hz.cell 1 _ rfl; have z2 := hz.cell 2 _ rfl; have z3 := hz.cell 3 _ rfl; have z4 := hz.cell 4 _ rfl; have y0 := frozen_of_row _ _ 0 _ _ hz; have y1 := frozen_of_row _ _ 1 _ _ hz; have y2 := frozen_of_row _ _ 2 _ _ hz; have y3 := frozen_of_row _ _ 3 _ _ hz; have y4 := frozen_of_row _ _ 4 _ _ hz; have hD := (hD.alloc hD.size _).trans (hBn.mono (hD.alloc hD.size _).size))); have hDs := hD.size)
              | fail)
          · obtain ⟨WF, hWF⟩ : ∃ WF, WF = wn.alloc (.cells #[.int .i64 x1, .int .i64 x2, .int .i64 x3, .int .i64 x4, .int .i64 x5] 31) := ⟨_, rfl⟩
            rw [← hWF]
            have hBF : Below W0.heap.size W0 WF := by rw [hWF]; exact hD.alloc hD.size _
            clear hWF
            have hFs := hBF.size
            have hB := hB.trans (hBF.mono hB.size)
            have a0 := (hBF.cell (p := ⟨w.heap.size, 0, none⟩) hal).trans a0
            have a1 := (hBF.cell (p := ⟨w.heap.size, 1, none⟩) hal).trans a1
            have a2 := (hBF.cell (p := ⟨w.heap.size, 2, none⟩) hal).trans a2
            have a3 := (hBF.cell (p := ⟨w.heap.size, 3, none⟩) hal).trans a3
            have a4 := (hBF.cell (p := ⟨w.heap.size, 4, none⟩) hal).trans a4
            have cm := (hBF.cell (p := ⟨gm, cnt Q K, none⟩) hgml).trans cm
            go_wp2_with (go_at_call 21; refine (HZ.out _).mono ?_; rintro e wz ⟨rfl, hBz⟩; have cm := (hBz.cell (p := ⟨gm, cnt Q K, none⟩) (Nat.lt_of_lt_of_le hgml hFs)).trans cm; have hB := hB.trans (hBz.mono hB.size))
            go_roundw
            case rel =>
              refine ⟨K + 1, by go_num, ?_, ?_, by omega, by first | exact hB | exact hB.alloc hB.size _ | exact hB.trans ⟨rfl, rfl, rfl, Nat.le_refl _, fun _ _ => rfl⟩⟩
              · rw [cnt_f (by rw [hPK, hr, hh]; rfl)]
              · rw [cnt_t (by rw [hQK, hr, hm]; rfl)]; go_num
            case measure => simp [intOf]; omega
          · obtain ⟨WF, hWF⟩ : ∃ WF, WF = (((((wn.setCell ⟨W0.heap.size, 0, none⟩ (.int .i64 x1)).setCell ⟨W0.heap.size, 1, none⟩ (.int .i64 x2)).setCell ⟨W0.heap.size, 2, none⟩ (.int .i64 x3)).setCell ⟨W0.heap.size, 3, none⟩ (.int .i64 x4)).setCell ⟨W0.heap.size, 4, none⟩ (.int .i64 x5)) := ⟨_, rfl⟩
            rw [← hWF]
            have hBF : Below W0.heap.size W0 WF := by rw [hWF]; exact ((((hD.setCell (Nat.le_refl _) _).setCell (Nat.le_refl _) _).setCell (Nat.le_refl _) _).setCell (Nat.le_refl _) _).setCell (Nat.le_refl _) _
            clear hWF
            have hFs := hBF.size
            have hB := hB.trans (hBF.mono hB.size)
            have a0 := (hBF.cell (p := ⟨w.heap.size, 0, none⟩) hal).trans a0
            have a1 := (hBF.cell (p := ⟨w.heap.size, 1, none⟩) hal).trans a1
            have a2 := (hBF.cell (p := ⟨w.heap.size, 2, none⟩) hal).trans a2
            have a3 := (hBF.cell (p := ⟨w.heap.size, 3, none⟩) hal).trans a3
            have a4 := (hBF.cell (p := ⟨w.heap.size, 4, none⟩) hal).trans a4
            have cm := (hBF.cell (p := ⟨gm, cnt Q K, none⟩) hgml).trans cm
            go_wp2_with (go_at_call 21; refine (HZ.out _).mono ?_; rintro e wz ⟨rfl, hBz⟩; have cm := (hBz.cell (p := ⟨gm, cnt Q K, none⟩) (Nat.lt_of_lt_of_le hgml hFs)).trans cm; have hB := hB.trans (hBz.mono hB.size))
            go_roundw
            case rel =>
              refine ⟨K + 1, by go_num, ?_, ?_, by omega, by first | exact hB | exact hB.alloc hB.size _ | exact hB.trans ⟨rfl, rfl, rfl, Nat.le_refl _, fun _ _ => rfl⟩⟩
              · rw [cnt_f (by rw [hPK, hr, hh]; rfl)]
              · rw [cnt_t (by rw [hQK, hr, hm]; rfl)]; go_num
            case measure => simp [intOf]; omega
        by_cases hhm : hasB s' r' c' a = true ∧ meetsB s r c n m a = false
        · obtain ⟨hh, hm⟩ := hhm
          have HX := Lib.hid (show ∀ wi, _ from HX.out)
          rw [hh] at HX
          have HY := Lib.hid (show ∀ wi, _ from HY.out)
          rw [hm] at HY
          have hPt : P K = true := by rw [hPK, hr, hh]; rfl
          obtain ⟨gh, eh, _, ch⟩ := HHr.out (cnt P K) K (pick_get hlt hPt)
          subst eh
          have ch := (hB.cell (p := ⟨gh, cnt P K, none⟩) (w4.block_lt_of_cell? _ ch)).trans ch
          have hcl := cnt_lt hlt hPt
          have hPl : (cnt P K : Int) < (cnt P M : Int) := by omega
          have hghl : gh < wr.heap.size := World.block_lt_of_cell? _ _ ch
          have hKK : ((K : Int) != (K : Int)) = false := by simp
          go_wp2_with (go_at_call 21; refine (HR.out _).mono ?_; rintro e wn ⟨rfl, hBn⟩; have ch := (hBn.cell (p := ⟨gh, cnt P K, none⟩) hghl).trans ch; have hghl := Nat.lt_of_lt_of_le hghl hBn.size; have e0 := (hBn.cell (p := ⟨g, off + K * 5, none⟩) (hgl)).trans e0; have e1 := (hBn.cell (p := ⟨g, off + K * 5 + 1, none⟩) (hgl)).trans e1; have e2 := (hBn.cell (p := ⟨g, off + K * 5 + 2, none⟩) (hgl)).trans e2; have e3 := (hBn.cell (p := ⟨g, off + K * 5 + 3, none⟩) (hgl)).trans e3; have e4 := (hBn.cell (p := ⟨g, off + K * 5 + 4, none⟩) (hgl)).trans e4; have a0 := (hBn.cell (p := ⟨w.heap.size, 0, none⟩) (hal)).trans a0; have a1 := (hBn.cell (p := ⟨w.heap.size, 1, none⟩) (hal)).trans a1; have a2 := (hBn.cell (p := ⟨w.heap.size, 2, none⟩) (hal)).trans a2; have a3 := (hBn.cell (p := ⟨w.heap.size, 3, none⟩) (hal)).trans a3; have a4 := (hBn.cell (p := ⟨w.heap.size, 4, none⟩) (hal)).trans a4; have t0 := (hBn.cell (p := ⟨w.heap.size + 1, 0, none⟩) (htl)).trans t0; have t1 := (hBn.cell (p := ⟨w.heap.size + 1, 1, none⟩) (htl)).trans t1; have t2 := (hBn.cell (p := ⟨w.heap.size + 1, 2, none⟩) (htl)).trans t2; have hB := hB.trans (hBn.mono hB.size); have hgl := Nat.lt_of_lt_of_le hgl hBn.size; have hal := Nat.lt_of_lt_of_le hal hBn.size; have htl := Nat.lt_of_lt_of_le htl hBn.size)
          have e0 : wn.drew.cell? ⟨g, off + K * 5, none⟩ = some (.int .i64 a.s) := e0
          have a0 : wn.drew.cell? ⟨w.heap.size, 0, none⟩ = some (.int .i64 s) := a0
          have e1 : wn.drew.cell? ⟨g, off + K * 5 + 1, none⟩ = some (.int .i64 a.r) := e1
          have a1 : wn.drew.cell? ⟨w.heap.size, 1, none⟩ = some (.int .i64 r) := a1
          have e2 : wn.drew.cell? ⟨g, off + K * 5 + 2, none⟩ = some (.int .i64 a.c) := e2
          have a2 : wn.drew.cell? ⟨w.heap.size, 2, none⟩ = some (.int .i64 c) := a2
          have e3 : wn.drew.cell? ⟨g, off + K * 5 + 3, none⟩ = some (.int .i64 a.n) := e3
          have a3 : wn.drew.cell? ⟨w.heap.size, 3, none⟩ = some (.int .i64 n) := a3
          have e4 : wn.drew.cell? ⟨g, off + K * 5 + 4, none⟩ = some (.int .i64 a.m) := e4
          have a4 : wn.drew.cell? ⟨w.heap.size, 4, none⟩ = some (.int .i64 m) := a4
          have t0 : wn.drew.cell? ⟨w.heap.size + 1, 0, none⟩ = some (.int .i64 s') := t0
          have t1 : wn.drew.cell? ⟨w.heap.size + 1, 1, none⟩ = some (.int .i64 r') := t1
          have t2 : wn.drew.cell? ⟨w.heap.size + 1, 2, none⟩ = some (.int .i64 c') := t2
          have hB := hB.drew
          have hgl : g < wn.drew.heap.size := hgl
          have hal : w.heap.size < wn.drew.heap.size := hal
          have htl : w.heap.size + 1 < wn.drew.heap.size := htl
          have ch : wn.drew.cell? ⟨gh, cnt P K, none⟩ = some (.int .i64 K) := ch
          have hghl : gh < wn.drew.heap.size := hghl
          go_region_held3 (fun w' => w'.cell? ⟨g, off + K * 5, none⟩ = some (.int .i64 a.s) ∧ w'.cell? ⟨g, off + K * 5 + 1, none⟩ = some (.int .i64 a.r) ∧ w'.cell? ⟨g, off + K * 5 + 2, none⟩ = some (.int .i64 a.c) ∧ w'.cell? ⟨g, off + K * 5 + 3, none⟩ = some (.int .i64 a.n) ∧ w'.cell? ⟨g, off + K * 5 + 4, none⟩ = some (.int .i64 a.m) ∧ w'.cell? ⟨w.heap.size + 1, 0, none⟩ = some (.int .i64 s') ∧ w'.cell? ⟨w.heap.size + 1, 1, none⟩ = some (.int .i64 r') ∧ w'.cell? ⟨w.heap.size + 1, 2, none⟩ = some (.int .i64 c'))
            (first | exact ⟨e0, e1, e2, e3, e4, t0, t1, t2⟩ | fail)
            (first
              | (go_at_call 22; refine (HX.out _).mono ?_; rintro e wn ⟨rfl, hBn⟩; have ch := (hBn.cell (p := ⟨gh, cnt P K, none⟩) hghl).trans ch; have hghl := Nat.lt_of_lt_of_le hghl hBn.size; have e0 := (hBn.cell (p := ⟨g, off + K * 5, none⟩) (hgl)).trans e0; have e1 := (hBn.cell (p := ⟨g, off + K * 5 + 1, none⟩) (hgl)).trans e1; have e2 := (hBn.cell (p := ⟨g, off + K * 5 + 2, none⟩) (hgl)).trans e2; have e3 := (hBn.cell (p := ⟨g, off + K * 5 + 3, none⟩) (hgl)).trans e3; have e4 := (hBn.cell (p := ⟨g, off + K * 5 + 4, none⟩) (hgl)).trans e4; have a0 := (hBn.cell (p := ⟨w.heap.size, 0, none⟩) (hal)).trans a0; have a1 := (hBn.cell (p := ⟨w.heap.size, 1, none⟩) (hal)).trans a1; have a2 := (hBn.cell (p := ⟨w.heap.size, 2, none⟩) (hal)).trans a2; have a3 := (hBn.cell (p := ⟨w.heap.size, 3, none⟩) (hal)).trans a3; have a4 := (hBn.cell (p := ⟨w.heap.size, 4, none⟩) (hal)).trans a4; have t0 := (hBn.cell (p := ⟨w.heap.size + 1, 0, none⟩) (htl)).trans t0; have t1 := (hBn.cell (p := ⟨w.heap.size + 1, 1, none⟩) (htl)).trans t1; have t2 := (hBn.cell (p := ⟨w.heap.size + 1, 2, none⟩) (htl)).trans t2; have hB := hB.trans (hBn.mono hB.size); have hgl := Nat.lt_of_lt_of_le hgl hBn.size; have hal := Nat.lt_of_lt_of_le hal hBn.size; have htl := Nat.lt_of_lt_of_le htl hBn.size)
              | fail)
          go_wp2_with fail
          obtain ⟨W0, hW0⟩ : ∃ W0, W0 = wn := ⟨_, rfl⟩
          have e0 : W0.cell? ⟨g, off + K * 5, none⟩ = some (.int .i64 a.s) := by rw [hW0]; exact e0
          have a0 : W0.cell? ⟨w.heap.size, 0, none⟩ = some (.int .i64 s) := by rw [hW0]; exact a0
          have e1 : W0.cell? ⟨g, off + K * 5 + 1, none⟩ = some (.int .i64 a.r) := by rw [hW0]; exact e1
          have a1 : W0.cell? ⟨w.heap.size, 1, none⟩ = some (.int .i64 r) := by rw [hW0]; exact a1
          have e2 : W0.cell? ⟨g, off + K * 5 + 2, none⟩ = some (.int .i64 a.c) := by rw [hW0]; exact e2
          have a2 : W0.cell? ⟨w.heap.size, 2, none⟩ = some (.int .i64 c) := by rw [hW0]; exact a2
          have e3 : W0.cell? ⟨g, off + K * 5 + 3, none⟩ = some (.int .i64 a.n) := by rw [hW0]; exact e3
          have a3 : W0.cell? ⟨w.heap.size, 3, none⟩ = some (.int .i64 n) := by rw [hW0]; exact a3
          have e4 : W0.cell? ⟨g, off + K * 5 + 4, none⟩ = some (.int .i64 a.m) := by rw [hW0]; exact e4
          have a4 : W0.cell? ⟨w.heap.size, 4, none⟩ = some (.int .i64 m) := by rw [hW0]; exact a4
          have hB : Below w4.heap.size w4 W0 := by rw [hW0]; exact hB
          have hgl : g < W0.heap.size := by rw [hW0]; exact hgl
          have hal : w.heap.size < W0.heap.size := by rw [hW0]; exact hal
          have htl : w.heap.size + 1 < W0.heap.size := by rw [hW0]; exact htl
          rw [← hW0]
          clear hW0 t0 t1 t2
          have hD := (Below.refl W0.heap.size W0).drew
          have hDs := hD.size
          go_region_held3 (fun w' => w'.cell? ⟨g, off + K * 5, none⟩ = some (.int .i64 a.s) ∧ w'.cell? ⟨g, off + K * 5 + 1, none⟩ = some (.int .i64 a.r) ∧ w'.cell? ⟨g, off + K * 5 + 2, none⟩ = some (.int .i64 a.c) ∧ w'.cell? ⟨g, off + K * 5 + 3, none⟩ = some (.int .i64 a.n) ∧ w'.cell? ⟨g, off + K * 5 + 4, none⟩ = some (.int .i64 a.m) ∧ w'.cell? ⟨w.heap.size, 0, none⟩ = some (.int .i64 s) ∧ w'.cell? ⟨w.heap.size, 1, none⟩ = some (.int .i64 r) ∧ w'.cell? ⟨w.heap.size, 2, none⟩ = some (.int .i64 c) ∧ w'.cell? ⟨w.heap.size, 3, none⟩ = some (.int .i64 n) ∧ w'.cell? ⟨w.heap.size, 4, none⟩ = some (.int .i64 m))
            (first | exact ⟨(by (repeat refine (World.cell?_setCell_far _ _ _ _ (by first | (simp; done) | (simp; omega))).trans ?_); first | exact (hD.cell (p := ⟨g, off + K * 5, none⟩) hgl).trans e0 | exact ((hD.alloc hD.size _).cell (p := ⟨g, off + K * 5, none⟩) hgl).trans e0), (by (repeat refine (World.cell?_setCell_far _ _ _ _ (by first | (simp; done) | (simp; omega))).trans ?_); first | exact (hD.cell (p := ⟨g, off + K * 5 + 1, none⟩) hgl).trans e1 | exact ((hD.alloc hD.size _).cell (p := ⟨g, off + K * 5 + 1, none⟩) hgl).trans e1), (by (repeat refine (World.cell?_setCell_far _ _ _ _ (by first | (simp; done) | (simp; omega))).trans ?_); first | exact (hD.cell (p := ⟨g, off + K * 5 + 2, none⟩) hgl).trans e2 | exact ((hD.alloc hD.size _).cell (p := ⟨g, off + K * 5 + 2, none⟩) hgl).trans e2), (by (repeat refine (World.cell?_setCell_far _ _ _ _ (by first | (simp; done) | (simp; omega))).trans ?_); first | exact (hD.cell (p := ⟨g, off + K * 5 + 3, none⟩) hgl).trans e3 | exact ((hD.alloc hD.size _).cell (p := ⟨g, off + K * 5 + 3, none⟩) hgl).trans e3), (by (repeat refine (World.cell?_setCell_far _ _ _ _ (by first | (simp; done) | (simp; omega))).trans ?_); first | exact (hD.cell (p := ⟨g, off + K * 5 + 4, none⟩) hgl).trans e4 | exact ((hD.alloc hD.size _).cell (p := ⟨g, off + K * 5 + 4, none⟩) hgl).trans e4), (by (repeat refine (World.cell?_setCell_far _ _ _ _ (by first | (simp; done) | (simp; omega))).trans ?_); first | exact (hD.cell (p := ⟨w.heap.size, 0, none⟩) hal).trans a0 | exact ((hD.alloc hD.size _).cell (p := ⟨w.heap.size, 0, none⟩) hal).trans a0), (by (repeat refine (World.cell?_setCell_far _ _ _ _ (by first | (simp; done) | (simp; omega))).trans ?_); first | exact (hD.cell (p := ⟨w.heap.size, 1, none⟩) hal).trans a1 | exact ((hD.alloc hD.size _).cell (p := ⟨w.heap.size, 1, none⟩) hal).trans a1), (by (repeat refine (World.cell?_setCell_far _ _ _ _ (by first | (simp; done) | (simp; omega))).trans ?_); first | exact (hD.cell (p := ⟨w.heap.size, 2, none⟩) hal).trans a2 | exact ((hD.alloc hD.size _).cell (p := ⟨w.heap.size, 2, none⟩) hal).trans a2), (by (repeat refine (World.cell?_setCell_far _ _ _ _ (by first | (simp; done) | (simp; omega))).trans ?_); first | exact (hD.cell (p := ⟨w.heap.size, 3, none⟩) hal).trans a3 | exact ((hD.alloc hD.size _).cell (p := ⟨w.heap.size, 3, none⟩) hal).trans a3), (by (repeat refine (World.cell?_setCell_far _ _ _ _ (by first | (simp; done) | (simp; omega))).trans ?_); first | exact (hD.cell (p := ⟨w.heap.size, 4, none⟩) hal).trans a4 | exact ((hD.alloc hD.size _).cell (p := ⟨w.heap.size, 4, none⟩) hal).trans a4)⟩ | fail)
            (first
              | (go_at_call 23; refine (HY.out _).mono ?_; rintro e wn ⟨⟨x1, x2, x3, x4, x5, rfl⟩, hBn⟩; (first | have hD := hD.trans (hBn.mono hD.size) | (have hz : World.area wn W0.heap.size 0 0 0 0 0 := (World.area_new W0.drew 0 0 0 0 0).below hBn (World.area_new W0.drew 0 0 0 0 0).lt; have z0 := hz.cell 0 _ rfl; have z1 := hz.cell 1 _ rfl; have z2 := hz.cell 2 _ rfl; have z3 := hz.cell 3 _ rfl; have z4 := hz.cell 4 _ rfl; have y0 := frozen_of_row _ _ 0 _ _ hz; have y1 := frozen_of_row _ _ 1 _ _ hz; have y2 := frozen_of_row _ _ 2 _ _ hz; have y3 := frozen_of_row _ _ 3 _ _ hz; have y4 := frozen_of_row _ _ 4 _ _ hz; have hD := (hD.alloc hD.size _).trans (hBn.mono (hD.alloc hD.size _).size))); have hDs := hD.size)
              | fail)
          · obtain ⟨WF, hWF⟩ : ∃ WF, WF = wn.alloc (.cells #[.int .i64 x1, .int .i64 x2, .int .i64 x3, .int .i64 x4, .int .i64 x5] 31) := ⟨_, rfl⟩
            rw [← hWF]
            have hBF : Below W0.heap.size W0 WF := by rw [hWF]; exact hD.alloc hD.size _
            clear hWF
            have hFs := hBF.size
            have hB := hB.trans (hBF.mono hB.size)
            have a0 := (hBF.cell (p := ⟨w.heap.size, 0, none⟩) hal).trans a0
            have a1 := (hBF.cell (p := ⟨w.heap.size, 1, none⟩) hal).trans a1
            have a2 := (hBF.cell (p := ⟨w.heap.size, 2, none⟩) hal).trans a2
            have a3 := (hBF.cell (p := ⟨w.heap.size, 3, none⟩) hal).trans a3
            have a4 := (hBF.cell (p := ⟨w.heap.size, 4, none⟩) hal).trans a4
            go_wp2_with fail
            go_roundw
            case rel =>
              refine ⟨K + 1, by go_num, ?_, ?_, by omega, by first | exact hB | exact hB.alloc hB.size _ | exact hB.trans ⟨rfl, rfl, rfl, Nat.le_refl _, fun _ _ => rfl⟩⟩
              · rw [cnt_t (by rw [hPK, hr, hh]; rfl)]; go_num
              · rw [cnt_f (by rw [hQK, hr, hm]; rfl)]
            case measure => simp [intOf]; omega
          · obtain ⟨WF, hWF⟩ : ∃ WF, WF = (((((wn.setCell ⟨W0.heap.size, 0, none⟩ (.int .i64 x1)).setCell ⟨W0.heap.size, 1, none⟩ (.int .i64 x2)).setCell ⟨W0.heap.size, 2, none⟩ (.int .i64 x3)).setCell ⟨W0.heap.size, 3, none⟩ (.int .i64 x4)).setCell ⟨W0.heap.size, 4, none⟩ (.int .i64 x5)) := ⟨_, rfl⟩
            rw [← hWF]
            have hBF : Below W0.heap.size W0 WF := by rw [hWF]; exact ((((hD.setCell (Nat.le_refl _) _).setCell (Nat.le_refl _) _).setCell (Nat.le_refl _) _).setCell (Nat.le_refl _) _).setCell (Nat.le_refl _) _
            clear hWF
            have hFs := hBF.size
            have hB := hB.trans (hBF.mono hB.size)
            have a0 := (hBF.cell (p := ⟨w.heap.size, 0, none⟩) hal).trans a0
            have a1 := (hBF.cell (p := ⟨w.heap.size, 1, none⟩) hal).trans a1
            have a2 := (hBF.cell (p := ⟨w.heap.size, 2, none⟩) hal).trans a2
            have a3 := (hBF.cell (p := ⟨w.heap.size, 3, none⟩) hal).trans a3
            have a4 := (hBF.cell (p := ⟨w.heap.size, 4, none⟩) hal).trans a4
            go_wp2_with fail
            go_roundw
            case rel =>
              refine ⟨K + 1, by go_num, ?_, ?_, by omega, by first | exact hB | exact hB.alloc hB.size _ | exact hB.trans ⟨rfl, rfl, rfl, Nat.le_refl _, fun _ _ => rfl⟩⟩
              · rw [cnt_t (by rw [hPK, hr, hh]; rfl)]; go_num
              · rw [cnt_f (by rw [hQK, hr, hm]; rfl)]
            case measure => simp [intOf]; omega
        by_cases hhm : hasB s' r' c' a = true ∧ meetsB s r c n m a = true
        · obtain ⟨hh, hm⟩ := hhm
          have HX := Lib.hid (show ∀ wi, _ from HX.out)
          rw [hh] at HX
          have HY := Lib.hid (show ∀ wi, _ from HY.out)
          rw [hm] at HY
          have HZ := Lib.hid (show ∀ wi, _ from HZ.out)
          rw [show rightB s r c n m = true from (meetB_iff.1 hm).1] at HZ
          have hPt : P K = true := by rw [hPK, hr, hh]; rfl
          obtain ⟨gh, eh, _, ch⟩ := HHr.out (cnt P K) K (pick_get hlt hPt)
          subst eh
          have ch := (hB.cell (p := ⟨gh, cnt P K, none⟩) (w4.block_lt_of_cell? _ ch)).trans ch
          have hcl := cnt_lt hlt hPt
          have hPl : (cnt P K : Int) < (cnt P M : Int) := by omega
          have hghl : gh < wr.heap.size := World.block_lt_of_cell? _ _ ch
          have hQt : Q K = true := by rw [hQK, hr, hm]; rfl
          obtain ⟨gm, em, _, cm⟩ := HMr.out (cnt Q K) K (pick_get hlt hQt)
          subst em
          have cm := (hB.cell (p := ⟨gm, cnt Q K, none⟩) (w4.block_lt_of_cell? _ cm)).trans cm
          have hcm := cnt_lt hlt hQt
          have hQl : (cnt Q K : Int) < (cnt Q M : Int) := by omega
          have hgml : gm < wr.heap.size := World.block_lt_of_cell? _ _ cm
          have hKK : ((K : Int) != (K : Int)) = false := by simp
          go_wp2_with (go_at_call 21; refine (HR.out _).mono ?_; rintro e wn ⟨rfl, hBn⟩; have ch := (hBn.cell (p := ⟨gh, cnt P K, none⟩) hghl).trans ch; have hghl := Nat.lt_of_lt_of_le hghl hBn.size; have cm := (hBn.cell (p := ⟨gm, cnt Q K, none⟩) hgml).trans cm; have hgml := Nat.lt_of_lt_of_le hgml hBn.size; have e0 := (hBn.cell (p := ⟨g, off + K * 5, none⟩) (hgl)).trans e0; have e1 := (hBn.cell (p := ⟨g, off + K * 5 + 1, none⟩) (hgl)).trans e1; have e2 := (hBn.cell (p := ⟨g, off + K * 5 + 2, none⟩) (hgl)).trans e2; have e3 := (hBn.cell (p := ⟨g, off + K * 5 + 3, none⟩) (hgl)).trans e3; have e4 := (hBn.cell (p := ⟨g, off + K * 5 + 4, none⟩) (hgl)).trans e4; have a0 := (hBn.cell (p := ⟨w.heap.size, 0, none⟩) (hal)).trans a0; have a1 := (hBn.cell (p := ⟨w.heap.size, 1, none⟩) (hal)).trans a1; have a2 := (hBn.cell (p := ⟨w.heap.size, 2, none⟩) (hal)).trans a2; have a3 := (hBn.cell (p := ⟨w.heap.size, 3, none⟩) (hal)).trans a3; have a4 := (hBn.cell (p := ⟨w.heap.size, 4, none⟩) (hal)).trans a4; have t0 := (hBn.cell (p := ⟨w.heap.size + 1, 0, none⟩) (htl)).trans t0; have t1 := (hBn.cell (p := ⟨w.heap.size + 1, 1, none⟩) (htl)).trans t1; have t2 := (hBn.cell (p := ⟨w.heap.size + 1, 2, none⟩) (htl)).trans t2; have hB := hB.trans (hBn.mono hB.size); have hgl := Nat.lt_of_lt_of_le hgl hBn.size; have hal := Nat.lt_of_lt_of_le hal hBn.size; have htl := Nat.lt_of_lt_of_le htl hBn.size)
          have e0 : wn.drew.cell? ⟨g, off + K * 5, none⟩ = some (.int .i64 a.s) := e0
          have a0 : wn.drew.cell? ⟨w.heap.size, 0, none⟩ = some (.int .i64 s) := a0
          have e1 : wn.drew.cell? ⟨g, off + K * 5 + 1, none⟩ = some (.int .i64 a.r) := e1
          have a1 : wn.drew.cell? ⟨w.heap.size, 1, none⟩ = some (.int .i64 r) := a1
          have e2 : wn.drew.cell? ⟨g, off + K * 5 + 2, none⟩ = some (.int .i64 a.c) := e2
          have a2 : wn.drew.cell? ⟨w.heap.size, 2, none⟩ = some (.int .i64 c) := a2
          have e3 : wn.drew.cell? ⟨g, off + K * 5 + 3, none⟩ = some (.int .i64 a.n) := e3
          have a3 : wn.drew.cell? ⟨w.heap.size, 3, none⟩ = some (.int .i64 n) := a3
          have e4 : wn.drew.cell? ⟨g, off + K * 5 + 4, none⟩ = some (.int .i64 a.m) := e4
          have a4 : wn.drew.cell? ⟨w.heap.size, 4, none⟩ = some (.int .i64 m) := a4
          have t0 : wn.drew.cell? ⟨w.heap.size + 1, 0, none⟩ = some (.int .i64 s') := t0
          have t1 : wn.drew.cell? ⟨w.heap.size + 1, 1, none⟩ = some (.int .i64 r') := t1
          have t2 : wn.drew.cell? ⟨w.heap.size + 1, 2, none⟩ = some (.int .i64 c') := t2
          have hB := hB.drew
          have hgl : g < wn.drew.heap.size := hgl
          have hal : w.heap.size < wn.drew.heap.size := hal
          have htl : w.heap.size + 1 < wn.drew.heap.size := htl
          have ch : wn.drew.cell? ⟨gh, cnt P K, none⟩ = some (.int .i64 K) := ch
          have hghl : gh < wn.drew.heap.size := hghl
          have cm : wn.drew.cell? ⟨gm, cnt Q K, none⟩ = some (.int .i64 K) := cm
          have hgml : gm < wn.drew.heap.size := hgml
          go_region_held3 (fun w' => w'.cell? ⟨g, off + K * 5, none⟩ = some (.int .i64 a.s) ∧ w'.cell? ⟨g, off + K * 5 + 1, none⟩ = some (.int .i64 a.r) ∧ w'.cell? ⟨g, off + K * 5 + 2, none⟩ = some (.int .i64 a.c) ∧ w'.cell? ⟨g, off + K * 5 + 3, none⟩ = some (.int .i64 a.n) ∧ w'.cell? ⟨g, off + K * 5 + 4, none⟩ = some (.int .i64 a.m) ∧ w'.cell? ⟨w.heap.size + 1, 0, none⟩ = some (.int .i64 s') ∧ w'.cell? ⟨w.heap.size + 1, 1, none⟩ = some (.int .i64 r') ∧ w'.cell? ⟨w.heap.size + 1, 2, none⟩ = some (.int .i64 c'))
            (first | exact ⟨e0, e1, e2, e3, e4, t0, t1, t2⟩ | fail)
            (first
              | (go_at_call 22; refine (HX.out _).mono ?_; rintro e wn ⟨rfl, hBn⟩; have ch := (hBn.cell (p := ⟨gh, cnt P K, none⟩) hghl).trans ch; have hghl := Nat.lt_of_lt_of_le hghl hBn.size; have cm := (hBn.cell (p := ⟨gm, cnt Q K, none⟩) hgml).trans cm; have hgml := Nat.lt_of_lt_of_le hgml hBn.size; have e0 := (hBn.cell (p := ⟨g, off + K * 5, none⟩) (hgl)).trans e0; have e1 := (hBn.cell (p := ⟨g, off + K * 5 + 1, none⟩) (hgl)).trans e1; have e2 := (hBn.cell (p := ⟨g, off + K * 5 + 2, none⟩) (hgl)).trans e2; have e3 := (hBn.cell (p := ⟨g, off + K * 5 + 3, none⟩) (hgl)).trans e3; have e4 := (hBn.cell (p := ⟨g, off + K * 5 + 4, none⟩) (hgl)).trans e4; have a0 := (hBn.cell (p := ⟨w.heap.size, 0, none⟩) (hal)).trans a0; have a1 := (hBn.cell (p := ⟨w.heap.size, 1, none⟩) (hal)).trans a1; have a2 := (hBn.cell (p := ⟨w.heap.size, 2, none⟩) (hal)).trans a2; have a3 := (hBn.cell (p := ⟨w.heap.size, 3, none⟩) (hal)).trans a3; have a4 := (hBn.cell (p := ⟨w.heap.size, 4, none⟩) (hal)).trans a4; have t0 := (hBn.cell (p := ⟨w.heap.size + 1, 0, none⟩) (htl)).trans t0; have t1 := (hBn.cell (p := ⟨w.heap.size + 1, 1, none⟩) (htl)).trans t1; have t2 := (hBn.cell (p := ⟨w.heap.size + 1, 2, none⟩) (htl)).trans t2; have hB := hB.trans (hBn.mono hB.size); have hgl := Nat.lt_of_lt_of_le hgl hBn.size; have hal := Nat.lt_of_lt_of_le hal hBn.size; have htl := Nat.lt_of_lt_of_le htl hBn.size)
              | fail)
          go_wp2_with fail
          obtain ⟨W0, hW0⟩ : ∃ W0, W0 = wn := ⟨_, rfl⟩
          have e0 : W0.cell? ⟨g, off + K * 5, none⟩ = some (.int .i64 a.s) := by rw [hW0]; exact e0
          have a0 : W0.cell? ⟨w.heap.size, 0, none⟩ = some (.int .i64 s) := by rw [hW0]; exact a0
          have e1 : W0.cell? ⟨g, off + K * 5 + 1, none⟩ = some (.int .i64 a.r) := by rw [hW0]; exact e1
          have a1 : W0.cell? ⟨w.heap.size, 1, none⟩ = some (.int .i64 r) := by rw [hW0]; exact a1
          have e2 : W0.cell? ⟨g, off + K * 5 + 2, none⟩ = some (.int .i64 a.c) := by rw [hW0]; exact e2
          have a2 : W0.cell? ⟨w.heap.size, 2, none⟩ = some (.int .i64 c) := by rw [hW0]; exact a2
          have e3 : W0.cell? ⟨g, off + K * 5 + 3, none⟩ = some (.int .i64 a.n) := by rw [hW0]; exact e3
          have a3 : W0.cell? ⟨w.heap.size, 3, none⟩ = some (.int .i64 n) := by rw [hW0]; exact a3
          have e4 : W0.cell? ⟨g, off + K * 5 + 4, none⟩ = some (.int .i64 a.m) := by rw [hW0]; exact e4
          have a4 : W0.cell? ⟨w.heap.size, 4, none⟩ = some (.int .i64 m) := by rw [hW0]; exact a4
          have hB : Below w4.heap.size w4 W0 := by rw [hW0]; exact hB
          have hgl : g < W0.heap.size := by rw [hW0]; exact hgl
          have hal : w.heap.size < W0.heap.size := by rw [hW0]; exact hal
          have htl : w.heap.size + 1 < W0.heap.size := by rw [hW0]; exact htl
          have cm : W0.cell? ⟨gm, cnt Q K, none⟩ = some (.int .i64 K) := by rw [hW0]; exact cm
          have hgml : gm < W0.heap.size := by rw [hW0]; exact hgml
          rw [← hW0]
          clear hW0 t0 t1 t2
          have hD := (Below.refl W0.heap.size W0).drew
          have hDs := hD.size
          go_region_held3 (fun w' => w'.cell? ⟨g, off + K * 5, none⟩ = some (.int .i64 a.s) ∧ w'.cell? ⟨g, off + K * 5 + 1, none⟩ = some (.int .i64 a.r) ∧ w'.cell? ⟨g, off + K * 5 + 2, none⟩ = some (.int .i64 a.c) ∧ w'.cell? ⟨g, off + K * 5 + 3, none⟩ = some (.int .i64 a.n) ∧ w'.cell? ⟨g, off + K * 5 + 4, none⟩ = some (.int .i64 a.m) ∧ w'.cell? ⟨w.heap.size, 0, none⟩ = some (.int .i64 s) ∧ w'.cell? ⟨w.heap.size, 1, none⟩ = some (.int .i64 r) ∧ w'.cell? ⟨w.heap.size, 2, none⟩ = some (.int .i64 c) ∧ w'.cell? ⟨w.heap.size, 3, none⟩ = some (.int .i64 n) ∧ w'.cell? ⟨w.heap.size, 4, none⟩ = some (.int .i64 m))
            (first | exact ⟨(by (repeat refine (World.cell?_setCell_far _ _ _ _ (by first | (simp; done) | (simp; omega))).trans ?_); first | exact (hD.cell (p := ⟨g, off + K * 5, none⟩) hgl).trans e0 | exact ((hD.alloc hD.size _).cell (p := ⟨g, off + K * 5, none⟩) hgl).trans e0), (by (repeat refine (World.cell?_setCell_far _ _ _ _ (by first | (simp; done) | (simp; omega))).trans ?_); first | exact (hD.cell (p := ⟨g, off + K * 5 + 1, none⟩) hgl).trans e1 | exact ((hD.alloc hD.size _).cell (p := ⟨g, off + K * 5 + 1, none⟩) hgl).trans e1), (by (repeat refine (World.cell?_setCell_far _ _ _ _ (by first | (simp; done) | (simp; omega))).trans ?_); first | exact (hD.cell (p := ⟨g, off + K * 5 + 2, none⟩) hgl).trans e2 | exact ((hD.alloc hD.size _).cell (p := ⟨g, off + K * 5 + 2, none⟩) hgl).trans e2), (by (repeat refine (World.cell?_setCell_far _ _ _ _ (by first | (simp; done) | (simp; omega))).trans ?_); first | exact (hD.cell (p := ⟨g, off + K * 5 + 3, none⟩) hgl).trans e3 | exact ((hD.alloc hD.size _).cell (p := ⟨g, off + K * 5 + 3, none⟩) hgl).trans e3), (by (repeat refine (World.cell?_setCell_far _ _ _ _ (by first | (simp; done) | (simp; omega))).trans ?_); first | exact (hD.cell (p := ⟨g, off + K * 5 + 4, none⟩) hgl).trans e4 | exact ((hD.alloc hD.size _).cell (p := ⟨g, off + K * 5 + 4, none⟩) hgl).trans e4), (by (repeat refine (World.cell?_setCell_far _ _ _ _ (by first | (simp; done) | (simp; omega))).trans ?_); first | exact (hD.cell (p := ⟨w.heap.size, 0, none⟩) hal).trans a0 | exact ((hD.alloc hD.size _).cell (p := ⟨w.heap.size, 0, none⟩) hal).trans a0), (by (repeat refine (World.cell?_setCell_far _ _ _ _ (by first | (simp; done) | (simp; omega))).trans ?_); first | exact (hD.cell (p := ⟨w.heap.size, 1, none⟩) hal).trans a1 | exact ((hD.alloc hD.size _).cell (p := ⟨w.heap.size, 1, none⟩) hal).trans a1), (by (repeat refine (World.cell?_setCell_far _ _ _ _ (by first | (simp; done) | (simp; omega))).trans ?_); first | exact (hD.cell (p := ⟨w.heap.size, 2, none⟩) hal).trans a2 | exact ((hD.alloc hD.size _).cell (p := ⟨w.heap.size, 2, none⟩) hal).trans a2), (by (repeat refine (World.cell?_setCell_far _ _ _ _ (by first | (simp; done) | (simp; omega))).trans ?_); first | exact (hD.cell (p := ⟨w.heap.size, 3, none⟩) hal).trans a3 | exact ((hD.alloc hD.size _).cell (p := ⟨w.heap.size, 3, none⟩) hal).trans a3), (by (repeat refine (World.cell?_setCell_far _ _ _ _ (by first | (simp; done) | (simp; omega))).trans ?_); first | exact (hD.cell (p := ⟨w.heap.size, 4, none⟩) hal).trans a4 | exact ((hD.alloc hD.size _).cell (p := ⟨w.heap.size, 4, none⟩) hal).trans a4)⟩ | fail)
            (first
              | (go_at_call 23; refine (HY.out _).mono ?_; rintro e wn ⟨⟨x1, x2, x3, x4, x5, rfl⟩, hBn⟩; (first | have hD := hD.trans (hBn.mono hD.size) | (have hz : World.area wn W0.heap.size 0 0 0 0 0 := (World.area_new W0.drew 0 0 0 0 0).below hBn (World.area_new W0.drew 0 0 0 0 0).lt; have z0 := hz.cell 0 _ rfl; have z1 := hz.cell 1 _ rfl; have z2 := hz.cell 2 _ rfl; have z3 := hz.cell 3 _ rfl; have z4 := hz.cell 4 _ rfl; have y0 := frozen_of_row _ _ 0 _ _ hz; have y1 := frozen_of_row _ _ 1 _ _ hz; have y2 := frozen_of_row _ _ 2 _ _ hz; have y3 := frozen_of_row _ _ 3 _ _ hz; have y4 := frozen_of_row _ _ 4 _ _ hz; have hD := (hD.alloc hD.size _).trans (hBn.mono (hD.alloc hD.size _).size))); have hDs := hD.size)
              | fail)
          · obtain ⟨WF, hWF⟩ : ∃ WF, WF = wn.alloc (.cells #[.int .i64 x1, .int .i64 x2, .int .i64 x3, .int .i64 x4, .int .i64 x5] 31) := ⟨_, rfl⟩
            rw [← hWF]
            have hBF : Below W0.heap.size W0 WF := by rw [hWF]; exact hD.alloc hD.size _
            clear hWF
            have hFs := hBF.size
            have hB := hB.trans (hBF.mono hB.size)
            have a0 := (hBF.cell (p := ⟨w.heap.size, 0, none⟩) hal).trans a0
            have a1 := (hBF.cell (p := ⟨w.heap.size, 1, none⟩) hal).trans a1
            have a2 := (hBF.cell (p := ⟨w.heap.size, 2, none⟩) hal).trans a2
            have a3 := (hBF.cell (p := ⟨w.heap.size, 3, none⟩) hal).trans a3
            have a4 := (hBF.cell (p := ⟨w.heap.size, 4, none⟩) hal).trans a4
            have cm := (hBF.cell (p := ⟨gm, cnt Q K, none⟩) hgml).trans cm
            go_wp2_with (go_at_call 21; refine (HZ.out _).mono ?_; rintro e wz ⟨rfl, hBz⟩; have cm := (hBz.cell (p := ⟨gm, cnt Q K, none⟩) (Nat.lt_of_lt_of_le hgml hFs)).trans cm; have hB := hB.trans (hBz.mono hB.size))
            go_roundw
            case rel =>
              refine ⟨K + 1, by go_num, ?_, ?_, by omega, by first | exact hB | exact hB.alloc hB.size _ | exact hB.trans ⟨rfl, rfl, rfl, Nat.le_refl _, fun _ _ => rfl⟩⟩
              · rw [cnt_t (by rw [hPK, hr, hh]; rfl)]; go_num
              · rw [cnt_t (by rw [hQK, hr, hm]; rfl)]; go_num
            case measure => simp [intOf]; omega
          · obtain ⟨WF, hWF⟩ : ∃ WF, WF = (((((wn.setCell ⟨W0.heap.size, 0, none⟩ (.int .i64 x1)).setCell ⟨W0.heap.size, 1, none⟩ (.int .i64 x2)).setCell ⟨W0.heap.size, 2, none⟩ (.int .i64 x3)).setCell ⟨W0.heap.size, 3, none⟩ (.int .i64 x4)).setCell ⟨W0.heap.size, 4, none⟩ (.int .i64 x5)) := ⟨_, rfl⟩
            rw [← hWF]
            have hBF : Below W0.heap.size W0 WF := by rw [hWF]; exact ((((hD.setCell (Nat.le_refl _) _).setCell (Nat.le_refl _) _).setCell (Nat.le_refl _) _).setCell (Nat.le_refl _) _).setCell (Nat.le_refl _) _
            clear hWF
            have hFs := hBF.size
            have hB := hB.trans (hBF.mono hB.size)
            have a0 := (hBF.cell (p := ⟨w.heap.size, 0, none⟩) hal).trans a0
            have a1 := (hBF.cell (p := ⟨w.heap.size, 1, none⟩) hal).trans a1
            have a2 := (hBF.cell (p := ⟨w.heap.size, 2, none⟩) hal).trans a2
            have a3 := (hBF.cell (p := ⟨w.heap.size, 3, none⟩) hal).trans a3
            have a4 := (hBF.cell (p := ⟨w.heap.size, 4, none⟩) hal).trans a4
            have cm := (hBF.cell (p := ⟨gm, cnt Q K, none⟩) hgml).trans cm
            go_wp2_with (go_at_call 21; refine (HZ.out _).mono ?_; rintro e wz ⟨rfl, hBz⟩; have cm := (hBz.cell (p := ⟨gm, cnt Q K, none⟩) (Nat.lt_of_lt_of_le hgml hFs)).trans cm; have hB := hB.trans (hBz.mono hB.size))
            go_roundw
            case rel =>
              refine ⟨K + 1, by go_num, ?_, ?_, by omega, by first | exact hB | exact hB.alloc hB.size _ | exact hB.trans ⟨rfl, rfl, rfl, Nat.le_refl _, fun _ _ => rfl⟩⟩
              · rw [cnt_t (by rw [hPK, hr, hh]; rfl)]; go_num
              · rw [cnt_t (by rw [hQK, hr, hm]; rfl)]; go_num
            case measure => simp [intOf]; omega
        · cases hh : hasB s' r' c' a <;> cases hm : meetsB s r c n m a <;> simp_all
    · obtain rfl : K = M := by omega
      have hl2 : K < xs.length → ¬ K < 30 := hMx K hlt
      by_cases hl3 : K < xs.length
      · have hl4 := hl2 hl3
        have hl5 : (K : Int) < (xs.length : Int) := by omega
        have hl6 : ¬ (K : Int) < 30 := by omega
        go_wp2_with fail
        all_goals
          go_ret
          exact ⟨rfl, hb4.trans (hB.mono hb4.size)⟩
      · have hl5 : ¬ (K : Int) < (xs.length : Int) := by omega
        go_wp2_with fail
        all_goals
          go_ret
          exact ⟨rfl, hb4.trans (hB.mono hb4.size)⟩
end Go.Proofs.YtnbfkhcignjfoaaDoor
