/- The law IndexOrder's walk. -/
import Derived.Test.YtnbfkhcignjfoaaDoorOrder
namespace Go.Proofs.YtnbfkhcignjfoaaDoor
open Go Go.RowKit Go.Maps

theorem World.atB (w : World) (s r c : Int) : ((w.alloc (.cells #[.int .i64 s, .int .i64 r, .int .i64 c] 33)).heap[w.heap.size]? = some (.cells #[.int .i64 s, .int .i64 r, .int .i64 c] 33 (0, 0))) := (MapKept.heap_alloc w _).1
set_option maxRecDepth 100000 in
set_option maxHeartbeats 16000000 in
theorem order_any (D : Nat) (p q : Addr) (v : Value) (xs : List Ar) (s r c n m s' r' c' : Int) (w : World) (hE : Errs w D p q) (hA : Areas w w.heap.size v xs) (hs' : i64R s') (hr' : i64R r') :
    Calls Tryd.prog 4 #[v, areaV s r c n m, atV s' r' c'] w fun e w' => e = .returned (.bool true) ∧ Below w.heap.size w w' := by
  have HS := Lib.hid (show ∀ w1, Below w.heap.size w w1 → Calls Tryd.prog 7 #[] w1 fun e w' => e = .returned (.bool true) ∧ Below w1.heap.size w1 w' from fun w1 hb => shown_any D p q w1 (hE.below (hb.mono hE.le)))
  have HF := Lib.hid (show ∀ w1, Below w.heap.size w w1 → Calls Tryd.prog 20 #[v, .bool false] w1 (MadePost xs false w1) from fun w1 hb => made_f D p q v xs w1 (hE.below (hb.mono hE.le)) ((hA.below hb).mono hb.size))
  have HB := Lib.hid (show ∀ w1, Below w.heap.size w w1 → Calls Tryd.prog 20 #[v, .bool true] w1 (MadePost xs true w1) from fun w1 hb => made_b D p q v xs w1 (hE.below (hb.mono hE.le)) ((hA.below hb).mono hb.size))
  clear hA hE
  go_enter Tryd.func4, Tryd.ntmps4
  go_wp2_with fail
  obtain ⟨W, hW⟩ : ∃ W, W = (w.alloc (.cells #[.int .i64 s, .int .i64 r, .int .i64 c, .int .i64 n, .int .i64 m] 31)).alloc (.cells #[.int .i64 s', .int .i64 r', .int .i64 c'] 33) := ⟨_, rfl⟩
  try rw [← hW]
  have hb0 : Below w.heap.size w W := by rw [hW]; exact ((Below.refl _ w).alloc (Nat.le_refl _) _).alloc (by simp) _
  have hA0 : World.area W w.heap.size s r c n m := by rw [hW]; exact (World.area_new w s r c n m).alloc _
  have hT0 : W.heap[w.heap.size + 1]? = some (.cells #[.int .i64 s', .int .i64 r', .int .i64 c'] 33 (0, 0)) := by
    rw [hW]
    have := World.atB (w.alloc (.cells #[.int .i64 s, .int .i64 r, .int .i64 c, .int .i64 n, .int .i64 m] 31)) s' r' c'
    rwa [World.size_alloc] at this
  have hsW : W.heap.size = w.heap.size + 2 := by rw [hW]; simp
  clear hW
  refine (HS.out _ hb0).mono ?_
  rintro e w1 ⟨rfl, hB1⟩
  have hb1 := hb0.trans (hB1.mono hb0.size)
  go_wp2_with fail
  refine (HF.out _ hb1).mono ?_
  rintro e w2 ⟨rfl, ⟨T, hI⟩, hB2⟩
  have hb2 := hb1.trans (hB2.mono hb1.size)
  go_wp2_with fail
  refine (HB.out _ hb2).mono ?_
  rintro e w3 ⟨rfl, ⟨T', hI'⟩, hB3⟩
  have hb3 := hb2.trans (hB3.mono hb2.size)
  have hI := hI.below hB3 (Nat.le_refl _)
  have hB13 : Below W.heap.size W w3 := (hB1.trans (hB2.mono hB1.size)).trans (hB3.mono (Nat.le_trans hB1.size hB2.size))
  have hA3 := hA0.below hB13 hA0.lt
  have hT3 := (hB13.block _ (by omega)).trans hT0
  have hs3 := hB13.size
  go_wp2_with fail
  obtain ⟨zM, hzM, hlM⟩ := asked_ex hI.good (meetsB s r c n m)
  obtain ⟨zH, hzH, hlH⟩ := asked_ex hI.good (hasB s' r' c')
  have hll := len_same hI.good hI'.good (madeL_same xs)
  obtain ⟨x, hx⟩ : ∃ x, x = w1.heap.size + 2 := ⟨_, rfl⟩
  obtain ⟨y, hy⟩ : ∃ y, y = w2.heap.size + 2 := ⟨_, rfl⟩
  rw [← hx] at hI
  rw [← hy] at hI'
  try rw [← hx]
  try rw [← hy]
  have hlen0 : (madeL xs false).length ≤ 6000 := by
    obtain ⟨T1, ma, mb, f, c, g, h, _⟩ := hI
    exact h.len
  have HL := Lib.hid (show ∀ b wi, (b = x ∨ b = y) → Below w3.heap.size w3 wi → Calls Tryd.prog 18 #[.pointer (some ⟨b, 0, none⟩)] wi fun e w' => e = .returned (.int .i64 ((madeL xs false).length : Int)) ∧ w' = wi from fun b wi hb hB => by
    rcases hb with rfl | rfl
    · exact len_any _ _ _ _ _ wi (hI.below hB (Nat.le_refl _))
    · have := len_any _ _ _ _ _ wi (hI'.below hB (Nat.le_refl _))
      rwa [hll] at this)
  have HM := Lib.hid (show ∀ b wi, (b = x ∨ b = y) → Below w3.heap.size w3 wi → Calls Tryd.prog 16 #[.pointer (some ⟨b, 0, none⟩), areaV s r c n m] wi fun e w' => ∃ v, e = .returned v ∧ w'.ownsRow wi.heap.size 3 1 v zM.length (ints zM) ∧ Below wi.heap.size wi w' from fun b wi hb hB =>
    two_meets _ _ x y 6000 6000 _ _ _ _ s r c n m zM wi (hI.below hB (Nat.le_refl _)) (hI'.below hB (Nat.le_refl _)) (by omega) (by omega) hzM (hzM.same (madeL_same xs)) b hb)
  have HH := Lib.hid (show ∀ b wi, (b = x ∨ b = y) → Below w3.heap.size w3 wi → Calls Tryd.prog 14 #[.pointer (some ⟨b, 0, none⟩), atV s' r' c'] wi fun e w' => ∃ v, e = .returned v ∧ w'.ownsRow wi.heap.size 3 1 v zH.length (ints zH) ∧ Below wi.heap.size wi w' from fun b wi hb hB =>
    two_hits _ _ x y 6000 6000 _ _ _ _ s' r' c' zH wi (hI.below hB (Nat.le_refl _)) (hI'.below hB (Nat.le_refl _)) hs' hr' (by omega) (by omega) hzH (hzH.same (madeL_same xs)) b hb)
  have hlM2 : zM.length ≤ 100000 := by omega
  have hlH2 : zH.length ≤ 100000 := by omega
  have hb3s := hb3.size
  clear hI hI' hx hy hzM hzH hlM hlH HS HF HB hll
  have hB : Below w3.heap.size w3 w3.drew := (Below.refl _ _).drew
  have hA3 : World.area w3.drew w.heap.size s r c n m := hA3
  have hT3 : w3.drew.heap[w.heap.size + 1]? = some (.cells #[.int .i64 s', .int .i64 r', .int .i64 c'] 33 (0, 0)) := hT3
  have a0 := hA3.cell 0 _ rfl
  have a1 := hA3.cell 1 _ rfl
  have a2 := hA3.cell 2 _ rfl
  have a3 := hA3.cell 3 _ rfl
  have a4 := hA3.cell 4 _ rfl
  have t0 := (cell_of_row _ _ 0 _ _ _ hT3).trans rfl
  have t1 := (cell_of_row _ _ 1 _ _ _ hT3).trans rfl
  have t2 := (cell_of_row _ _ 2 _ _ _ hT3).trans rfl
  go_region_held3 (fun w' => w'.cell? ⟨w.heap.size, 0, none⟩ = some (.int .i64 s) ∧ w'.cell? ⟨w.heap.size, 1, none⟩ = some (.int .i64 r) ∧ w'.cell? ⟨w.heap.size, 2, none⟩ = some (.int .i64 c) ∧ w'.cell? ⟨w.heap.size, 3, none⟩ = some (.int .i64 n) ∧ w'.cell? ⟨w.heap.size, 4, none⟩ = some (.int .i64 m) ∧ w'.cell? ⟨w.heap.size + 1, 0, none⟩ = some (.int .i64 s') ∧ w'.cell? ⟨w.heap.size + 1, 1, none⟩ = some (.int .i64 r') ∧ w'.cell? ⟨w.heap.size + 1, 2, none⟩ = some (.int .i64 c'))
    (first | exact ⟨a0, a1, a2, a3, a4, t0, t1, t2⟩ | fail)
    (first
      | (go_at_call 18; refine (HL.out _ _ ?_ hB).mono ?_; (first | exact .inl rfl | exact .inr rfl); rintro e wn ⟨rfl, rfl⟩)
      | (go_at_call 16; refine (HM.out _ _ ?_ hB).mono ?_; exact .inl rfl; rintro e wn ⟨vMx, rfl, rMx, hBn⟩; have hA3 := hA3.below hBn hA3.lt; have hT3 := (hBn.block _ (Array.getElem?_eq_some_iff.1 hT3).1).trans hT3; have a0 := hA3.cell 0 _ rfl; have a1 := hA3.cell 1 _ rfl; have a2 := hA3.cell 2 _ rfl; have a3 := hA3.cell 3 _ rfl; have a4 := hA3.cell 4 _ rfl; have t0 := (cell_of_row _ _ 0 _ _ _ hT3).trans rfl; have t1 := (cell_of_row _ _ 1 _ _ _ hT3).trans rfl; have t2 := (cell_of_row _ _ 2 _ _ _ hT3).trans rfl; (try have rMx := rMx.below hBn); (try have rMy := rMy.below hBn); (try have rHx := rHx.below hBn); (try have rHy := rHy.below hBn); have hB := hB.trans (hBn.mono hB.size))
      | (go_at_call 16; refine (HM.out _ _ ?_ hB).mono ?_; exact .inr rfl; rintro e wn ⟨vMy, rfl, rMy, hBn⟩; have hA3 := hA3.below hBn hA3.lt; have hT3 := (hBn.block _ (Array.getElem?_eq_some_iff.1 hT3).1).trans hT3; have a0 := hA3.cell 0 _ rfl; have a1 := hA3.cell 1 _ rfl; have a2 := hA3.cell 2 _ rfl; have a3 := hA3.cell 3 _ rfl; have a4 := hA3.cell 4 _ rfl; have t0 := (cell_of_row _ _ 0 _ _ _ hT3).trans rfl; have t1 := (cell_of_row _ _ 1 _ _ _ hT3).trans rfl; have t2 := (cell_of_row _ _ 2 _ _ _ hT3).trans rfl; (try have rMx := rMx.below hBn); (try have rMy := rMy.below hBn); (try have rHx := rHx.below hBn); (try have rHy := rHy.below hBn); have hB := hB.trans (hBn.mono hB.size))
      | (go_at_call 14; refine (HH.out _ _ ?_ hB).mono ?_; exact .inl rfl; rintro e wn ⟨vHx, rfl, rHx, hBn⟩; have hA3 := hA3.below hBn hA3.lt; have hT3 := (hBn.block _ (Array.getElem?_eq_some_iff.1 hT3).1).trans hT3; have a0 := hA3.cell 0 _ rfl; have a1 := hA3.cell 1 _ rfl; have a2 := hA3.cell 2 _ rfl; have a3 := hA3.cell 3 _ rfl; have a4 := hA3.cell 4 _ rfl; have t0 := (cell_of_row _ _ 0 _ _ _ hT3).trans rfl; have t1 := (cell_of_row _ _ 1 _ _ _ hT3).trans rfl; have t2 := (cell_of_row _ _ 2 _ _ _ hT3).trans rfl; (try have rMx := rMx.below hBn); (try have rMy := rMy.below hBn); (try have rHx := rHx.below hBn); (try have rHy := rHy.below hBn); have hB := hB.trans (hBn.mono hB.size))
      | (go_at_call 14; refine (HH.out _ _ ?_ hB).mono ?_; exact .inr rfl; rintro e wn ⟨vHy, rfl, rHy, hBn⟩; have hA3 := hA3.below hBn hA3.lt; have hT3 := (hBn.block _ (Array.getElem?_eq_some_iff.1 hT3).1).trans hT3; have a0 := hA3.cell 0 _ rfl; have a1 := hA3.cell 1 _ rfl; have a2 := hA3.cell 2 _ rfl; have a3 := hA3.cell 3 _ rfl; have a4 := hA3.cell 4 _ rfl; have t0 := (cell_of_row _ _ 0 _ _ _ hT3).trans rfl; have t1 := (cell_of_row _ _ 1 _ _ _ hT3).trans rfl; have t2 := (cell_of_row _ _ 2 _ _ _ hT3).trans rfl; (try have rMx := rMx.below hBn); (try have rMy := rMy.below hBn); (try have rHx := rHx.below hBn); (try have rHy := rHy.below hBn); have hB := hB.trans (hBn.mono hB.size))
      | (go_at_call 13; refine (ints_at zM _ _ _ _ _ ?_ _ _ rMx rMy hlM2).mono ?_; exact ⟨rfl, rfl⟩; rintro e wn ⟨rfl, hBn⟩; have hA3 := hA3.below hBn hA3.lt; have hT3 := (hBn.block _ (Array.getElem?_eq_some_iff.1 hT3).1).trans hT3; have a0 := hA3.cell 0 _ rfl; have a1 := hA3.cell 1 _ rfl; have a2 := hA3.cell 2 _ rfl; have a3 := hA3.cell 3 _ rfl; have a4 := hA3.cell 4 _ rfl; have t0 := (cell_of_row _ _ 0 _ _ _ hT3).trans rfl; have t1 := (cell_of_row _ _ 1 _ _ _ hT3).trans rfl; have t2 := (cell_of_row _ _ 2 _ _ _ hT3).trans rfl; (try have rMx := rMx.below hBn); (try have rMy := rMy.below hBn); (try have rHx := rHx.below hBn); (try have rHy := rHy.below hBn); have hB := hB.trans (hBn.mono hB.size))
      | (go_at_call 13; refine (ints_at zH _ _ _ _ _ ?_ _ _ rHx rHy hlH2).mono ?_; exact ⟨rfl, rfl⟩; rintro e wn ⟨rfl, hBn⟩; have hA3 := hA3.below hBn hA3.lt; have hT3 := (hBn.block _ (Array.getElem?_eq_some_iff.1 hT3).1).trans hT3; have a0 := hA3.cell 0 _ rfl; have a1 := hA3.cell 1 _ rfl; have a2 := hA3.cell 2 _ rfl; have a3 := hA3.cell 3 _ rfl; have a4 := hA3.cell 4 _ rfl; have t0 := (cell_of_row _ _ 0 _ _ _ hT3).trans rfl; have t1 := (cell_of_row _ _ 1 _ _ _ hT3).trans rfl; have t2 := (cell_of_row _ _ 2 _ _ _ hT3).trans rfl; (try have rMx := rMx.below hBn); (try have rMy := rMy.below hBn); (try have rHx := rHx.below hBn); (try have rHy := rHy.below hBn); have hB := hB.trans (hBn.mono hB.size))
      | fail)
  all_goals
    go_wp2_with fail
    go_ret
    exact ⟨rfl, hb3.trans (hB.mono hb3s)⟩
end Go.Proofs.YtnbfkhcignjfoaaDoor
