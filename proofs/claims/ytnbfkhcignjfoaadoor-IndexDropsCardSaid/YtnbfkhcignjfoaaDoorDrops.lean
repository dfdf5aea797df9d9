/- The law IndexDrops' walk. (Printed by genDrops.py.) -/
import Derived.Test.YtnbfkhcignjfoaaDoorCut
import Derived.Test.YtnbfkhcignjfoaaDoorOrd
namespace Go.Proofs.YtnbfkhcignjfoaaDoor
open Go Go.RowKit Go.Maps

set_option maxRecDepth 100000 in
set_option maxHeartbeats 16000000 in
theorem lawDrops_any (D : Nat) (p q : Addr) (v : Value) (xs : List Ar) (id s' r' c' : Int) (w : World) (hE : Errs w D p q) (hA : Areas w w.heap.size v xs) (hid : i64R id) (hs' : i64R s') (hr' : i64R r') :
    Calls Tryd.prog 6 #[v, .int .i64 id, atV s' r' c'] w fun e w' => e = .returned (.bool true) ∧ Below w.heap.size w w' := by
  have HS := Lib.hid (show ∀ w1, Below w.heap.size w w1 → Calls Tryd.prog 7 #[] w1 fun e w' => e = .returned (.bool true) ∧ Below w1.heap.size w1 w' from fun w1 hb => shown_any D p q w1 (hE.below (hb.mono hE.le)))
  have HF := Lib.hid (show ∀ w1, Below w.heap.size w w1 → Calls Tryd.prog 20 #[v, .bool false] w1 (MadePost xs false w1) from fun w1 hb => made_f D p q v xs w1 (hE.below (hb.mono hE.le)) ((hA.below hb).mono hb.size))
  have HAB := Lib.hid (show ∀ w1, Below w.heap.size w w1 → Areas w1 w.heap.size v xs from fun w1 hb => hA.below hb)
  have HE := Lib.hid (show ∀ w1 B, w.heap.size ≤ B → B ≤ w1.heap.size → Below w.heap.size w w1 → Errs w1 B p q from fun w1 B h1 h2 hb => (hE.below (hb.mono hE.le)).mono (Nat.le_trans hE.le h1) h2)
  obtain ⟨pp, cap, rfl, hlen, _⟩ := hA
  clear hE
  go_enter Tryd.func6, Tryd.ntmps6
  go_wp2_with fail
  obtain ⟨W, hW⟩ : ∃ W, W = w.alloc (.cells #[.int .i64 s', .int .i64 r', .int .i64 c'] 33) := ⟨_, rfl⟩
  try rw [← hW]
  have hb0 : Below w.heap.size w W := by rw [hW]; exact (Below.refl _ w).alloc (Nat.le_refl _) _
  have hT0 : W.heap[w.heap.size]? = some (.cells #[.int .i64 s', .int .i64 r', .int .i64 c'] 33 (0, 0)) := by rw [hW]; exact World.atB w s' r' c'
  have hsW : W.heap.size = w.heap.size + 1 := by rw [hW]; simp
  clear hW
  refine (HS.out _ hb0).mono ?_
  rintro e w1 ⟨rfl, hB1⟩
  have hb1 := hb0.trans (hB1.mono hb0.size)
  have hs1 := hB1.size
  go_wp2_with fail
  refine (HF.out _ hb1).mono ?_
  rintro e w2 ⟨rfl, ⟨T, hI⟩, hB2⟩
  have hb2 := hb1.trans (hB2.mono hb1.size)
  have hB02 : Below W.heap.size W w2 := hB1.trans (hB2.mono hB1.size)
  have hT2 := (hB02.block _ (by omega)).trans hT0
  have hs2 := hB02.size
  have hs12 := hB2.size
  clear hT0 HS HF
  have t0 := (cell_of_row _ _ 0 _ _ _ hT2).trans rfl
  have t1 := (cell_of_row _ _ 1 _ _ _ hT2).trans rfl
  have t2 := (cell_of_row _ _ 2 _ _ _ hT2).trans rfl
  have htl : w.heap.size < w2.heap.size := by omega
  obtain ⟨x, hx⟩ : ∃ x, x = w1.heap.size + 2 := ⟨_, rfl⟩
  rw [← hx] at hI
  try rw [← hx]
  obtain ⟨B, hB⟩ : ∃ B, B = w1.heap.size := ⟨_, rfl⟩
  rw [← hB] at hI
  have hBw : w.heap.size < B := by omega
  have hBx : w.heap.size ≤ B := by omega
  have hB2s : B ≤ w2.heap.size := by omega
  have hgood := hI.good
  have hL6 : (madeL xs false).length ≤ 6000 := by
    obtain ⟨T1, ma, mb, f, c, g, h, _⟩ := hI
    exact h.len
  have HLs := Lib.hid (madeL_mem xs false)
  obtain ⟨L, hL⟩ : ∃ L, L = madeL xs false := ⟨_, rfl⟩
  rw [← hL] at hI hgood hL6 HLs
  clear hx hT2 hB hL
  have HH := Lib.hid (hits_any _ _ _ _ T s' r' c' w2 hI hs' hr' (by omega))
  go_wp2_with fail
  refine HH.out.mono ?_
  rintro e w3 ⟨vh, zs, rfl, haH, hlH, hrH, hB3⟩
  have hb3 := hb2.trans (hB3.mono hb2.size)
  have R := Row.new hI hrH hB2s
  have hI3 := hI.below hB3 (Nat.le_refl _)
  have hB3s := Nat.le_trans hB2s hB3.size
  have t0 := (hB3.cell (p := ⟨w.heap.size, 0, none⟩) htl).trans t0
  have t1 := (hB3.cell (p := ⟨w.heap.size, 1, none⟩) htl).trans t1
  have t2 := (hB3.cell (p := ⟨w.heap.size, 2, none⟩) htl).trans t2
  have htl := Nat.lt_of_lt_of_le htl hB3.size
  have HLn := Lib.hid (len_any _ _ _ _ T w3 hI3)
  have HD := Lib.hid (drop_ix B x 6000 L T id w3 hI3 (by omega) hid)
  clear hI hrH HH
  go_wp2_with (first
    | (go_at_call 18; refine HLn.out.mono ?_; rintro e wn ⟨rfl, rfl⟩)
    | fail)
  refine HD.out.mono ?_
  rintro e w4 hp
  have hB4 := hp.below hI3 hB3s
  obtain ⟨rfl, T4, hI4, hT4, hu4⟩ := hp
  have hb4 := hb3.trans (hB4.mono hBx)
  have R := R.turned hu4 hT4
  have hB4s := Nat.le_trans hB3s hu4.size
  have t0 := (hB4.cell (p := ⟨w.heap.size, 0, none⟩) hBw).trans t0
  have t1 := (hB4.cell (p := ⟨w.heap.size, 1, none⟩) hBw).trans t1
  have t2 := (hB4.cell (p := ⟨w.heap.size, 2, none⟩) hBw).trans t2
  have htl := Nat.lt_of_lt_of_le htl hu4.size
  have HH := Lib.hid (hits_any _ _ _ _ T4 s' r' c' w4 hI4 hs' hr' (by omega))
  clear hI3 HD HLn hT4 hu4
  go_wp2_with fail
  refine HH.out.mono ?_
  rintro e w5 ⟨vn, zn, rfl, haN, hlN, hrN, hB5⟩
  obtain rfl := haN.unique (haH.less id)
  have hb5 := hb4.trans (hB5.mono hb4.size)
  have R := R.below hB5
  have hI5 := hI4.below hB5 (Nat.le_refl _)
  have hB5s := Nat.le_trans hB4s hB5.size
  have t0 := (hB5.cell (p := ⟨w.heap.size, 0, none⟩) htl).trans t0
  have t1 := (hB5.cell (p := ⟨w.heap.size, 1, none⟩) htl).trans t1
  have t2 := (hB5.cell (p := ⟨w.heap.size, 2, none⟩) htl).trans t2
  have htl := Nat.lt_of_lt_of_le htl hB5.size
  obtain ⟨ph, caph, rfl, hH⟩ := ints_shape R.1
  obtain ⟨pn, capn, rfl, hN⟩ := ints_shape hrN
  have HHr := Lib.hid hH
  have HNr := Lib.hid hN
  clear hI4 hH hN hrN haN HH
  go_wp2_with fail
  go_loopw [13, 14] (fun k' i wr => ∃ K : Nat, i = .int .i64 (K : Int) ∧ k' = .int .i64 (cf zs id K : Int) ∧ K ≤ zs.length ∧ Below w5.heap.size w5 wr) (fun _ i _ => zs.length - (intOf i).toNat)
  case atStart => exact ⟨0, rfl, rfl, Nat.zero_le _, Below.refl _ _⟩
  case round =>
    obtain ⟨K, rfl, rfl, hK, hal⟩ := hrel
    by_cases hlt : K < zs.length
    · obtain ⟨z, hz⟩ : ∃ z, zs[K]? = some z := ⟨_, List.getElem?_eq_getElem hlt⟩
      obtain ⟨gh, eh, _, ch⟩ := HHr.out K z hz
      subst eh
      have ch := (hal.cell (p := ⟨gh, K, none⟩) (w5.block_lt_of_cell? _ ch)).trans ch
      have hKl : (K : Int) < (zs.length : Int) := by omega
      cases hzi : (z == id) with
      | true =>
        go_wp2_with fail
        go_roundw
        case rel => exact ⟨K + 1, by go_num, by rw [cf_f hz hzi], by omega, hal⟩
        case measure => simp [intOf]; omega
      | false =>
        obtain ⟨gn, en, _, cn⟩ := HNr.out _ z (less_get hz hzi)
        subst en
        have cn := (hal.cell (p := ⟨gn, cf zs id K, none⟩) (w5.block_lt_of_cell? _ cn)).trans cn
        have hcl := cf_lt hz hzi
        have hcl2 : (cf zs id K : Int) < ((less zs id).length : Int) := by omega
        have hzz : (z != z) = false := by simp
        go_wp2_with fail
        go_quiet (fail)
        go_wp2_with fail
        go_roundw
        case rel => exact ⟨K + 1, by go_num, by rw [cf_t hz hzi]; go_num, by omega, hal.trans ⟨rfl, rfl, rfl, Nat.le_refl _, fun _ _ => rfl⟩⟩
        case measure => simp [intOf]; omega
    · obtain rfl : K = zs.length := by omega
      have hce := cf_all zs id
      have hcc : ((cf zs id zs.length : Int) != ((less zs id).length : Int)) = false := by rw [hce]; simp
      have hcd : ((cf zs id zs.length : Int) == ((less zs id).length : Int)) = true := by rw [hce]; simp
      clear hce
      have hb6 := hb5.trans (hal.mono hb5.size)
      have hI6 := hI5.below hal (Nat.le_refl _)
      have R := R.below hal
      have t0 := (hal.cell (p := ⟨w.heap.size, 0, none⟩) htl).trans t0
      have t1 := (hal.cell (p := ⟨w.heap.size, 1, none⟩) htl).trans t1
      have t2 := (hal.cell (p := ⟨w.heap.size, 2, none⟩) htl).trans t2
      have htl := Nat.lt_of_lt_of_le htl hal.size
      have hB6s := Nat.le_trans hB5s hal.size
      cases hda : areaAt L id with
      | none =>
        have hdn := dropL_none hda
        have hLe : ((L.length : Int) == (L.length : Int)) = true := by simp
        have HLn := Lib.hid (len_any _ _ _ _ T4 wr hI6)
        rw [hdn] at HLn
        go_wp2_with (go_at_call 18; refine HLn.out.mono ?_; rintro e wn ⟨rfl, rfl⟩)
        all_goals
          go_ret
          exact ⟨rfl, hb6⟩
      | some a =>
        obtain ⟨k, hk, e1, e2, _⟩ := (HLs.out (id, a)).1 ((areaAt_some hgood).1 hda)
        simp only at e1 e2
        subst e1
        have hkl : k < xs.length := by omega
        have hs : xs[k]? = some a := by
          rw [e2, List.getElem?_eq_getElem hkl]
          rfl
        obtain ⟨pp', cap', e, _, hc⟩ := HAB.out wr hb6
        obtain ⟨g, off, e2', hg, c0, c1, c2, c3, c4⟩ := hc k a hs
        simp only [Value.slice.injEq] at e
        obtain ⟨rfl, _, rfl⟩ := e
        subst e2'
        have hk0 : ¬ ((k : Int) < 0) := by omega
        have hk1 : (k : Int) < (xs.length : Int) := by omega
        obtain ⟨hz0, hz1, hz2, hz3⟩ := again_same hgood hda
        have HP := Lib.hid (put_ix B x 6200 (dropL L k) T4 k a p q wr hI6 (HE.out wr B hBx hB6s hb6) (by omega))
        rw [hz0, hz1] at HP
        have hle := len_same hgood hz3 hz2
        clear hc e2 hda
        go_wp2_with fail
        refine HP.out.mono ?_
        rintro e w7 hp
        have hB7 := hp.below hI6 hB6s
        obtain ⟨rfl, T7, hI7, hT7, hu7⟩ := hp
        have hb7 := hb6.trans (hB7.mono hBx)
        have R := R.turned hu7 hT7
        have hB7s := Nat.le_trans hB6s hu7.size
        have t0 := (hB7.cell (p := ⟨w.heap.size, 0, none⟩) hBw).trans t0
        have t1 := (hB7.cell (p := ⟨w.heap.size, 1, none⟩) hBw).trans t1
        have t2 := (hB7.cell (p := ⟨w.heap.size, 2, none⟩) hBw).trans t2
        have htl := Nat.lt_of_lt_of_le htl hu7.size
        have HLn := Lib.hid (len_any _ _ _ _ T7 w7 hI7)
        rw [hle] at HLn
        have hLe : ((L.length : Int) == (L.length : Int)) = true := by simp
        have HH := Lib.hid (hits_any _ _ _ _ T7 s' r' c' w7 hI7 hs' hr' (by omega))
        have haS := Asked.same haH hz2
        clear hI6 HP hT7 hu7 hz2 hz3 hz0 hz1
        go_wp2_with (first
          | (go_at_call 18; refine HLn.out.mono ?_; rintro e wn ⟨rfl, rfl⟩)
          | (go_at_call 14; refine HH.out.mono ?_; rintro e w8 ⟨v8, z8, rfl, ha8, hl8, hr8, hB8⟩; obtain rfl := ha8.unique haS; have HX := Lib.hid (ints_eq _ _ _ v8 (.slice ph _ caph) w8 hr8 (R.below hB8).1 hl8))
          | (go_at_call 13; refine HX.out.mono ?_; rintro e w9 ⟨rfl, hB9⟩)
          | fail)
        all_goals
          go_ret
          exact ⟨rfl, (hb7.trans (hB8.mono hb7.size)).trans (hB9.mono (Nat.le_trans hb7.size hB8.size))⟩
end Go.Proofs.YtnbfkhcignjfoaaDoor
