/- Merged: Rge, Rmk, Rga. -/
import Derived.Test.YtkhohjdakcchdaaGreatDoorBq
/- tabularef03.Get at arrays. (Get.lean turned to the document's function.) -/
namespace Go.Proofs.YtkhohjdakcchdaaGreatDoor
open Go Go.RowKit Go.Shelf
set_option maxRecDepth 100000 in
set_option maxHeartbeats 8000000 in
theorem rget_rc (n : Nat) (r c i j : Int) (l : List Vl) (v : Value) (w : World) (hv : Rp w w.heap.size (n + 2) (arrV r c l) v) (hr : rightV (n + 2) (arrV r c l) = true) (hi : 0 ≤ i) (hj : 0 ≤ j) (hr1 : r = 1) (hc1 : c = 1) :
    Calls Tryz.prog 23 #[v, .int .i64 i, .int .i64 j] w (Gives (.agg (pcs (getV (n + 2) (arrV r c l) i j))) w) := by
  have hdim := (right_arr.1 hr).1
  have hpl := (right_arr.1 hr).2
  have hG := get_arr hr hi hj
  have ha : atI r i = 0 := by unfold atI; rw [if_pos hr1]
  have hb : atI c j = 0 := by unfold atI; rw [if_pos hc1]
  rw [ha, hb] at hG
  have HR := Lib.hid (show ∀ W, Below w.heap.size w W → w.heap.size ≤ W.heap.size → Calls Tryz.prog 38 #[v] W (Gives (.bool true) W) from fun W hW hz => by
    have := rright38_any (n + 2) _ v W (hv.below hW hz)
    rw [hr] at this; exact this)
  obtain ⟨p, k, rfl, hl, hok⟩ := arr_cells hv
  obtain ⟨Y, hY⟩ : ∃ Y, getV (n + 2) (arrV r c l) i j = Y := ⟨_, rfl⟩
  rw [hY] at hG ⊢
  have HLK : Hid (∀ q : Nat, q < l.length → ∃ g0 off, p = some ⟨g0, off, none⟩ ∧ ∀ W, Below w.heap.size w W → ∀ jj u, (pcs (l.getD q {}))[jj]? = some u → W.cell? ⟨g0, off + q * 12 + jj, none⟩ = some u) := Lib.hid fun q hq => by
    obtain ⟨p', c', e, _, _, _, _, H⟩ := hl
    injection e with e1 _ _
    have hx : l[q]? = some (l.getD q {}) := by rw [List.getD_eq_getElem?_getD, List.getElem?_eq_getElem hq]; rfl
    obtain ⟨g0, off, cs, e2, hg0, hs, hr0, hc0⟩ := H q _ hx
    have := plain_cells hr0 (hpl _ (List.mem_of_getElem? hx))
    injection this with this
    subst this
    exact ⟨g0, off, e1.trans e2, fun W hW jj u hj => (hW.cell (p := ⟨g0, _, none⟩) hg0).trans (hc0 jj u hj)⟩
  obtain ⟨CA, hCA⟩ : ∃ C, vcs (arrV r c l) (.slice p l.length k) nilS nilS = C := ⟨_, rfl⟩
  have hO : OneC CA := by rw [← hCA]; exact vcs_one _ _ _ _ _ _ _ _ _ _
  have x0 : CA[0]? = some (.int .i64 5) := by rw [← hCA]; rfl
  have x6 : CA[6]? = some (.int .i64 r) := by rw [← hCA]; rfl
  have x7 : CA[7]? = some (.int .i64 c) := by rw [← hCA]; rfl
  have x8 : CA[8]? = some (.slice p l.length k) := by rw [← hCA]; rfl
  rw [hCA] at HR ⊢
  have HO := Lib.hid hO
  have XS := Lib.hid (And.intro x0 (And.intro x6 (And.intro x7 x8)))
  have HG := Lib.hid hG
  have HD := Lib.hid hdim
  have HHR := Lib.hid hr
  have fi : ¬ i < 0 := by omega
  have fj : ¬ j < 0 := by omega
  have f1 : (r == 1) = true := by simpa using hr1
  have f2 : (c == 1) = true := by simpa using hc1
  have hlb : l.length ≤ 400 := by omega
  clear hCA hO x0 x6 x7 x8 hv hpl hdim hl hok hG hY hr ha hb
  go_enter Tryz.func23, Tryz.ntmps23
  go_wp2_with (first | refine wpList_alloc34 rfl rfl ?_ | refine wpList_load34 rfl rfl rfl ((World.vb_new w CA).alloc _) HO.out.1 ?_)
  obtain ⟨W, hW⟩ : ∃ W, W = (w.alloc (.cells CA 34)).alloc (.cells vz 34) := ⟨_, rfl⟩
  rw [← hW]
  have hvx : World.vb W w.heap.size CA := by rw [hW]; exact (World.vb_new w CA).alloc _
  have hvy : World.vb W (w.heap.size + 1) vz := by rw [hW]; exact World.vb_new' _ _ _ (by simp)
  have hB : Below w.heap.size w W := by rw [hW]; exact ((Below.refl _ w).alloc (Nat.le_refl _) _).alloc (by simp) _
  clear hW
  refine (HR.out _ hB hB.size).mono ?_
  rintro e2 w2 ⟨rfl, hB2⟩
  have hvx := hvx.below hB2 hvx.lt
  have hvy := hvy.below hB2 hvy.lt
  have hB := hB.trans (hB2.mono hB.size)
  clear hB2 HR
  have c0 := hvx.cell XS.out.1
  have c6 := hvx.cell XS.out.2.1
  have c7 := hvx.cell XS.out.2.2.1
  have c8 := hvx.cell XS.out.2.2.2
  have hq1 : ¬ (r ≤ 0 ∨ c ≤ 0) := by have := HD.out; omega
  have hlt := at_lt (r := r) (c := c) (i := 0) (j := 0) (by omega) (by omega) (by
    unfold atI
    rw [if_pos hr1, if_pos hc1]
    exact hq1)
  have hai : atI r 0 = 0 ∧ atI c 0 = 0 := by unfold atI; exact ⟨if_pos hr1, if_pos hc1⟩
  rw [hai.1, hai.2] at hlt
  obtain ⟨q, hq⟩ : ∃ q : Nat, (0 * c + 0).toNat = q := ⟨_, rfl⟩
  have hqK : 0 * c + 0 = (q : Int) := by omega
  have hql : q < l.length := by have := HD.out; omega
  have HN : Hid (Y = l.getD q {}) := by show _ = _; rw [HG.out, if_neg hq1, hq]
  obtain ⟨g0, off, rfl, hcl⟩ := HLK.out q hql
  have HCL := Lib.hid hcl
  have hO2 := pcs_one (l.getD q {})
  obtain ⟨C2, hC2⟩ : ∃ C2, pcs (l.getD q {}) = C2 := ⟨_, rfl⟩
  rw [hC2] at HCL hO2
  have HO2 := Lib.hid hO2
  have HC2 := Lib.hid hC2
  have hqlI : (0 : Int) < (l.length : Int) := by omega
  have hm0 : 0 ≤ 0 * c := Int.mul_nonneg (by omega) (by have := HD.out; omega)
  have hm1 : 0 * c ≤ 400 := by omega
  have hdr := HD.out
  clear hcl hO2 hC2 hq1 hlt hai hq
  have hrI : ¬ r ≤ 0 := by omega
  have hcI : ¬ c ≤ 0 := by omega
  have hq0 : q = 0 := by omega
  clear hqK hm0 hm1
  subst hq0
  clear hdr
  go_wp2_with (first | refine wpList_load34at rfl rfl rfl HO2.out.1 (HCL.out _ hB) ?_ | (refine wpList_store34 rfl rfl rfl rfl hvy (by rfl) HO2.out ?_; intro w9 hn9 hg9 hz9))
  refine bodyPost_ret (results_cell_row rfl _ _ _ 34 _ (0, 0) _ rfl hn9 Tryz.underlying34 rfl (by rw [HO2.out.1]; exact info34)) rfl ?_
  exact ⟨by rw [HN.out, HC2.out], hB.grown hg9 hB.size (fun k9 hk9 => by cases hk9; omega)⟩

set_option maxRecDepth 100000 in
set_option maxHeartbeats 8000000 in
theorem rget_r (n : Nat) (r c i j : Int) (l : List Vl) (v : Value) (w : World) (hv : Rp w w.heap.size (n + 2) (arrV r c l) v) (hr : rightV (n + 2) (arrV r c l) = true) (hi : 0 ≤ i) (hj : 0 ≤ j) (hr1 : r = 1) (hc1 : ¬ c = 1) :
    Calls Tryz.prog 23 #[v, .int .i64 i, .int .i64 j] w (Gives (.agg (pcs (getV (n + 2) (arrV r c l) i j))) w) := by
  have hdim := (right_arr.1 hr).1
  have hpl := (right_arr.1 hr).2
  have hG := get_arr hr hi hj
  have ha : atI r i = 0 := by unfold atI; rw [if_pos hr1]
  have hb : atI c j = j := by unfold atI; rw [if_neg hc1]
  rw [ha, hb] at hG
  have HR := Lib.hid (show ∀ W, Below w.heap.size w W → w.heap.size ≤ W.heap.size → Calls Tryz.prog 38 #[v] W (Gives (.bool true) W) from fun W hW hz => by
    have := rright38_any (n + 2) _ v W (hv.below hW hz)
    rw [hr] at this; exact this)
  obtain ⟨p, k, rfl, hl, hok⟩ := arr_cells hv
  obtain ⟨Y, hY⟩ : ∃ Y, getV (n + 2) (arrV r c l) i j = Y := ⟨_, rfl⟩
  rw [hY] at hG ⊢
  have HLK : Hid (∀ q : Nat, q < l.length → ∃ g0 off, p = some ⟨g0, off, none⟩ ∧ ∀ W, Below w.heap.size w W → ∀ jj u, (pcs (l.getD q {}))[jj]? = some u → W.cell? ⟨g0, off + q * 12 + jj, none⟩ = some u) := Lib.hid fun q hq => by
    obtain ⟨p', c', e, _, _, _, _, H⟩ := hl
    injection e with e1 _ _
    have hx : l[q]? = some (l.getD q {}) := by rw [List.getD_eq_getElem?_getD, List.getElem?_eq_getElem hq]; rfl
    obtain ⟨g0, off, cs, e2, hg0, hs, hr0, hc0⟩ := H q _ hx
    have := plain_cells hr0 (hpl _ (List.mem_of_getElem? hx))
    injection this with this
    subst this
    exact ⟨g0, off, e1.trans e2, fun W hW jj u hj => (hW.cell (p := ⟨g0, _, none⟩) hg0).trans (hc0 jj u hj)⟩
  obtain ⟨CA, hCA⟩ : ∃ C, vcs (arrV r c l) (.slice p l.length k) nilS nilS = C := ⟨_, rfl⟩
  have hO : OneC CA := by rw [← hCA]; exact vcs_one _ _ _ _ _ _ _ _ _ _
  have x0 : CA[0]? = some (.int .i64 5) := by rw [← hCA]; rfl
  have x6 : CA[6]? = some (.int .i64 r) := by rw [← hCA]; rfl
  have x7 : CA[7]? = some (.int .i64 c) := by rw [← hCA]; rfl
  have x8 : CA[8]? = some (.slice p l.length k) := by rw [← hCA]; rfl
  rw [hCA] at HR ⊢
  have HO := Lib.hid hO
  have XS := Lib.hid (And.intro x0 (And.intro x6 (And.intro x7 x8)))
  have HG := Lib.hid hG
  have HD := Lib.hid hdim
  have HHR := Lib.hid hr
  have fi : ¬ i < 0 := by omega
  have fj : ¬ j < 0 := by omega
  have f1 : (r == 1) = true := by simpa using hr1
  have f2 : (c == 1) = false := by simpa using hc1
  have hlb : l.length ≤ 400 := by omega
  clear hCA hO x0 x6 x7 x8 hv hpl hdim hl hok hG hY hr ha hb
  go_enter Tryz.func23, Tryz.ntmps23
  go_wp2_with (first | refine wpList_alloc34 rfl rfl ?_ | refine wpList_load34 rfl rfl rfl ((World.vb_new w CA).alloc _) HO.out.1 ?_)
  obtain ⟨W, hW⟩ : ∃ W, W = (w.alloc (.cells CA 34)).alloc (.cells vz 34) := ⟨_, rfl⟩
  rw [← hW]
  have hvx : World.vb W w.heap.size CA := by rw [hW]; exact (World.vb_new w CA).alloc _
  have hvy : World.vb W (w.heap.size + 1) vz := by rw [hW]; exact World.vb_new' _ _ _ (by simp)
  have hB : Below w.heap.size w W := by rw [hW]; exact ((Below.refl _ w).alloc (Nat.le_refl _) _).alloc (by simp) _
  clear hW
  refine (HR.out _ hB hB.size).mono ?_
  rintro e2 w2 ⟨rfl, hB2⟩
  have hvx := hvx.below hB2 hvx.lt
  have hvy := hvy.below hB2 hvy.lt
  have hB := hB.trans (hB2.mono hB.size)
  clear hB2 HR
  have c0 := hvx.cell XS.out.1
  have c6 := hvx.cell XS.out.2.1
  have c7 := hvx.cell XS.out.2.2.1
  have c8 := hvx.cell XS.out.2.2.2
  by_cases h2 : c ≤ j
  · have HN : Hid (Y = errV 7) := by show _ = _; rw [HG.out, if_pos (by omega)]
    have hd1 := HD.out
    go_wp2_with fail
    refine (rerr_any 7 _).mono ?_
    rintro e3 w3 ⟨rfl, hB3⟩
    have hvy := hvy.below hB3 hvy.lt
    have hB := hB.trans (hB3.mono hB.size)
    clear hB3
    go_wp2_with (refine wpList_store34 rfl rfl rfl rfl hvy (by rfl) (pcs_one _) ?_; intro w9 hn9 hg9 hz9)
    refine bodyPost_ret (results_cell_row rfl _ _ _ 34 _ (0, 0) _ rfl hn9 Tryz.underlying34 rfl info34) rfl ?_
    exact ⟨by rw [HN.out], hB.grown hg9 hB.size (fun k9 hk9 => by cases hk9; omega)⟩
  have hq1 : ¬ (r ≤ 0 ∨ c ≤ j) := by have := HD.out; omega
  have hlt := at_lt (r := r) (c := c) (i := 0) (j := j) (by omega) (by omega) (by
    unfold atI
    rw [if_pos hr1, if_neg hc1]
    exact hq1)
  have hai : atI r 0 = 0 ∧ atI c j = j := by unfold atI; exact ⟨if_pos hr1, if_neg hc1⟩
  rw [hai.1, hai.2] at hlt
  obtain ⟨q, hq⟩ : ∃ q : Nat, (0 * c + j).toNat = q := ⟨_, rfl⟩
  have hqI : 0 * c + j = (q : Int) := by omega
  have hql : q < l.length := by have := HD.out; omega
  have HN : Hid (Y = l.getD q {}) := by show _ = _; rw [HG.out, if_neg hq1, hq]
  obtain ⟨g0, off, rfl, hcl⟩ := HLK.out q hql
  have HCL := Lib.hid hcl
  have hO2 := pcs_one (l.getD q {})
  obtain ⟨C2, hC2⟩ : ∃ C2, pcs (l.getD q {}) = C2 := ⟨_, rfl⟩
  rw [hC2] at HCL hO2
  have HO2 := Lib.hid hO2
  have HC2 := Lib.hid hC2
  have hqlI : (q : Int) < (l.length : Int) := by omega
  have hm0 : 0 ≤ 0 * c := Int.mul_nonneg (by omega) (by have := HD.out; omega)
  have hm1 : 0 * c ≤ 400 := by omega
  have hdr := HD.out
  clear hcl hO2 hC2 hq1 hlt hai hq
  have hqI : j = (q : Int) := by omega
  have hrI : ¬ r ≤ 0 := by omega
  have hcI : ¬ c ≤ j := by omega
  clear hdr
  go_wp2_with (first | refine wpList_load34at rfl rfl rfl HO2.out.1 (HCL.out _ hB) ?_ | (refine wpList_store34 rfl rfl rfl rfl hvy (by rfl) HO2.out ?_; intro w9 hn9 hg9 hz9))
  refine bodyPost_ret (results_cell_row rfl _ _ _ 34 _ (0, 0) _ rfl hn9 Tryz.underlying34 rfl (by rw [HO2.out.1]; exact info34)) rfl ?_
  exact ⟨by rw [HN.out, HC2.out], hB.grown hg9 hB.size (fun k9 hk9 => by cases hk9; omega)⟩

set_option maxRecDepth 100000 in
set_option maxHeartbeats 8000000 in
theorem rget_c (n : Nat) (r c i j : Int) (l : List Vl) (v : Value) (w : World) (hv : Rp w w.heap.size (n + 2) (arrV r c l) v) (hr : rightV (n + 2) (arrV r c l) = true) (hi : 0 ≤ i) (hj : 0 ≤ j) (hr1 : ¬ r = 1) (hc1 : c = 1) :
    Calls Tryz.prog 23 #[v, .int .i64 i, .int .i64 j] w (Gives (.agg (pcs (getV (n + 2) (arrV r c l) i j))) w) := by
  have hdim := (right_arr.1 hr).1
  have hpl := (right_arr.1 hr).2
  have hG := get_arr hr hi hj
  have ha : atI r i = i := by unfold atI; rw [if_neg hr1]
  have hb : atI c j = 0 := by unfold atI; rw [if_pos hc1]
  rw [ha, hb] at hG
  have HR := Lib.hid (show ∀ W, Below w.heap.size w W → w.heap.size ≤ W.heap.size → Calls Tryz.prog 38 #[v] W (Gives (.bool true) W) from fun W hW hz => by
    have := rright38_any (n + 2) _ v W (hv.below hW hz)
    rw [hr] at this; exact this)
  obtain ⟨p, k, rfl, hl, hok⟩ := arr_cells hv
  obtain ⟨Y, hY⟩ : ∃ Y, getV (n + 2) (arrV r c l) i j = Y := ⟨_, rfl⟩
  rw [hY] at hG ⊢
  have HLK : Hid (∀ q : Nat, q < l.length → ∃ g0 off, p = some ⟨g0, off, none⟩ ∧ ∀ W, Below w.heap.size w W → ∀ jj u, (pcs (l.getD q {}))[jj]? = some u → W.cell? ⟨g0, off + q * 12 + jj, none⟩ = some u) := Lib.hid fun q hq => by
    obtain ⟨p', c', e, _, _, _, _, H⟩ := hl
    injection e with e1 _ _
    have hx : l[q]? = some (l.getD q {}) := by rw [List.getD_eq_getElem?_getD, List.getElem?_eq_getElem hq]; rfl
    obtain ⟨g0, off, cs, e2, hg0, hs, hr0, hc0⟩ := H q _ hx
    have := plain_cells hr0 (hpl _ (List.mem_of_getElem? hx))
    injection this with this
    subst this
    exact ⟨g0, off, e1.trans e2, fun W hW jj u hj => (hW.cell (p := ⟨g0, _, none⟩) hg0).trans (hc0 jj u hj)⟩
  obtain ⟨CA, hCA⟩ : ∃ C, vcs (arrV r c l) (.slice p l.length k) nilS nilS = C := ⟨_, rfl⟩
  have hO : OneC CA := by rw [← hCA]; exact vcs_one _ _ _ _ _ _ _ _ _ _
  have x0 : CA[0]? = some (.int .i64 5) := by rw [← hCA]; rfl
  have x6 : CA[6]? = some (.int .i64 r) := by rw [← hCA]; rfl
  have x7 : CA[7]? = some (.int .i64 c) := by rw [← hCA]; rfl
  have x8 : CA[8]? = some (.slice p l.length k) := by rw [← hCA]; rfl
  rw [hCA] at HR ⊢
  have HO := Lib.hid hO
  have XS := Lib.hid (And.intro x0 (And.intro x6 (And.intro x7 x8)))
  have HG := Lib.hid hG
  have HD := Lib.hid hdim
  have HHR := Lib.hid hr
  have fi : ¬ i < 0 := by omega
  have fj : ¬ j < 0 := by omega
  have f1 : (r == 1) = false := by simpa using hr1
  have f2 : (c == 1) = true := by simpa using hc1
  have hlb : l.length ≤ 400 := by omega
  clear hCA hO x0 x6 x7 x8 hv hpl hdim hl hok hG hY hr ha hb
  go_enter Tryz.func23, Tryz.ntmps23
  go_wp2_with (first | refine wpList_alloc34 rfl rfl ?_ | refine wpList_load34 rfl rfl rfl ((World.vb_new w CA).alloc _) HO.out.1 ?_)
  obtain ⟨W, hW⟩ : ∃ W, W = (w.alloc (.cells CA 34)).alloc (.cells vz 34) := ⟨_, rfl⟩
  rw [← hW]
  have hvx : World.vb W w.heap.size CA := by rw [hW]; exact (World.vb_new w CA).alloc _
  have hvy : World.vb W (w.heap.size + 1) vz := by rw [hW]; exact World.vb_new' _ _ _ (by simp)
  have hB : Below w.heap.size w W := by rw [hW]; exact ((Below.refl _ w).alloc (Nat.le_refl _) _).alloc (by simp) _
  clear hW
  refine (HR.out _ hB hB.size).mono ?_
  rintro e2 w2 ⟨rfl, hB2⟩
  have hvx := hvx.below hB2 hvx.lt
  have hvy := hvy.below hB2 hvy.lt
  have hB := hB.trans (hB2.mono hB.size)
  clear hB2 HR
  have c0 := hvx.cell XS.out.1
  have c6 := hvx.cell XS.out.2.1
  have c7 := hvx.cell XS.out.2.2.1
  have c8 := hvx.cell XS.out.2.2.2
  by_cases h1 : r ≤ i
  · have HN : Hid (Y = errV 7) := by show _ = _; rw [HG.out, if_pos (by omega)]
    go_wp2_with fail
    refine (rerr_any 7 _).mono ?_
    rintro e3 w3 ⟨rfl, hB3⟩
    have hvy := hvy.below hB3 hvy.lt
    have hB := hB.trans (hB3.mono hB.size)
    clear hB3
    go_wp2_with (refine wpList_store34 rfl rfl rfl rfl hvy (by rfl) (pcs_one _) ?_; intro w9 hn9 hg9 hz9)
    refine bodyPost_ret (results_cell_row rfl _ _ _ 34 _ (0, 0) _ rfl hn9 Tryz.underlying34 rfl info34) rfl ?_
    exact ⟨by rw [HN.out], hB.grown hg9 hB.size (fun k9 hk9 => by cases hk9; omega)⟩
  have hq1 : ¬ (r ≤ i ∨ c ≤ 0) := by have := HD.out; omega
  have hlt := at_lt (r := r) (c := c) (i := i) (j := 0) (by omega) (by omega) (by
    unfold atI
    rw [if_neg hr1, if_pos hc1]
    exact hq1)
  have hai : atI r i = i ∧ atI c 0 = 0 := by unfold atI; exact ⟨if_neg hr1, if_pos hc1⟩
  rw [hai.1, hai.2] at hlt
  obtain ⟨q, hq⟩ : ∃ q : Nat, (i * c + 0).toNat = q := ⟨_, rfl⟩
  have hqI : i * c + 0 = (q : Int) := by omega
  have hql : q < l.length := by have := HD.out; omega
  have HN : Hid (Y = l.getD q {}) := by show _ = _; rw [HG.out, if_neg hq1, hq]
  obtain ⟨g0, off, rfl, hcl⟩ := HLK.out q hql
  have HCL := Lib.hid hcl
  have hO2 := pcs_one (l.getD q {})
  obtain ⟨C2, hC2⟩ : ∃ C2, pcs (l.getD q {}) = C2 := ⟨_, rfl⟩
  rw [hC2] at HCL hO2
  have HO2 := Lib.hid hO2
  have HC2 := Lib.hid hC2
  have hqlI : (q : Int) < (l.length : Int) := by omega
  have hm0 : 0 ≤ i * c := Int.mul_nonneg (by omega) (by have := HD.out; omega)
  have hm1 : i * c ≤ 400 := by omega
  have hdr := HD.out
  clear hcl hO2 hC2 hq1 hlt hai hq
  obtain ⟨m1, hm⟩ : ∃ m1, i * c = m1 := ⟨_, rfl⟩
  rw [hm] at hqI hm0 hm1
  have hiq : i = (q : Int) := by rw [hc1] at hm; omega
  clear hqI hm
  have hrI : ¬ r ≤ i := by omega
  have hcI : ¬ c ≤ 0 := by omega
  clear hdr
  go_wp2_with (first | refine wpList_load34at rfl rfl rfl HO2.out.1 (HCL.out _ hB) ?_ | (refine wpList_store34 rfl rfl rfl rfl hvy (by rfl) HO2.out ?_; intro w9 hn9 hg9 hz9))
  refine bodyPost_ret (results_cell_row rfl _ _ _ 34 _ (0, 0) _ rfl hn9 Tryz.underlying34 rfl (by rw [HO2.out.1]; exact info34)) rfl ?_
  exact ⟨by rw [HN.out, HC2.out], hB.grown hg9 hB.size (fun k9 hk9 => by cases hk9; omega)⟩

set_option maxRecDepth 100000 in
set_option maxHeartbeats 8000000 in
theorem rget_n (n : Nat) (r c i j : Int) (l : List Vl) (v : Value) (w : World) (hv : Rp w w.heap.size (n + 2) (arrV r c l) v) (hr : rightV (n + 2) (arrV r c l) = true) (hi : 0 ≤ i) (hj : 0 ≤ j) (hr1 : ¬ r = 1) (hc1 : ¬ c = 1) :
    Calls Tryz.prog 23 #[v, .int .i64 i, .int .i64 j] w (Gives (.agg (pcs (getV (n + 2) (arrV r c l) i j))) w) := by
  have hdim := (right_arr.1 hr).1
  have hpl := (right_arr.1 hr).2
  have hG := get_arr hr hi hj
  have ha : atI r i = i := by unfold atI; rw [if_neg hr1]
  have hb : atI c j = j := by unfold atI; rw [if_neg hc1]
  rw [ha, hb] at hG
  have HR := Lib.hid (show ∀ W, Below w.heap.size w W → w.heap.size ≤ W.heap.size → Calls Tryz.prog 38 #[v] W (Gives (.bool true) W) from fun W hW hz => by
    have := rright38_any (n + 2) _ v W (hv.below hW hz)
    rw [hr] at this; exact this)
  obtain ⟨p, k, rfl, hl, hok⟩ := arr_cells hv
  obtain ⟨Y, hY⟩ : ∃ Y, getV (n + 2) (arrV r c l) i j = Y := ⟨_, rfl⟩
  rw [hY] at hG ⊢
  have HLK : Hid (∀ q : Nat, q < l.length → ∃ g0 off, p = some ⟨g0, off, none⟩ ∧ ∀ W, Below w.heap.size w W → ∀ jj u, (pcs (l.getD q {}))[jj]? = some u → W.cell? ⟨g0, off + q * 12 + jj, none⟩ = some u) := Lib.hid fun q hq => by
    obtain ⟨p', c', e, _, _, _, _, H⟩ := hl
    injection e with e1 _ _
    have hx : l[q]? = some (l.getD q {}) := by rw [List.getD_eq_getElem?_getD, List.getElem?_eq_getElem hq]; rfl
    obtain ⟨g0, off, cs, e2, hg0, hs, hr0, hc0⟩ := H q _ hx
    have := plain_cells hr0 (hpl _ (List.mem_of_getElem? hx))
    injection this with this
    subst this
    exact ⟨g0, off, e1.trans e2, fun W hW jj u hj => (hW.cell (p := ⟨g0, _, none⟩) hg0).trans (hc0 jj u hj)⟩
  obtain ⟨CA, hCA⟩ : ∃ C, vcs (arrV r c l) (.slice p l.length k) nilS nilS = C := ⟨_, rfl⟩
  have hO : OneC CA := by rw [← hCA]; exact vcs_one _ _ _ _ _ _ _ _ _ _
  have x0 : CA[0]? = some (.int .i64 5) := by rw [← hCA]; rfl
  have x6 : CA[6]? = some (.int .i64 r) := by rw [← hCA]; rfl
  have x7 : CA[7]? = some (.int .i64 c) := by rw [← hCA]; rfl
  have x8 : CA[8]? = some (.slice p l.length k) := by rw [← hCA]; rfl
  rw [hCA] at HR ⊢
  have HO := Lib.hid hO
  have XS := Lib.hid (And.intro x0 (And.intro x6 (And.intro x7 x8)))
  have HG := Lib.hid hG
  have HD := Lib.hid hdim
  have HHR := Lib.hid hr
  have fi : ¬ i < 0 := by omega
  have fj : ¬ j < 0 := by omega
  have f1 : (r == 1) = false := by simpa using hr1
  have f2 : (c == 1) = false := by simpa using hc1
  have hlb : l.length ≤ 400 := by omega
  clear hCA hO x0 x6 x7 x8 hv hpl hdim hl hok hG hY hr ha hb
  go_enter Tryz.func23, Tryz.ntmps23
  go_wp2_with (first | refine wpList_alloc34 rfl rfl ?_ | refine wpList_load34 rfl rfl rfl ((World.vb_new w CA).alloc _) HO.out.1 ?_)
  obtain ⟨W, hW⟩ : ∃ W, W = (w.alloc (.cells CA 34)).alloc (.cells vz 34) := ⟨_, rfl⟩
  rw [← hW]
  have hvx : World.vb W w.heap.size CA := by rw [hW]; exact (World.vb_new w CA).alloc _
  have hvy : World.vb W (w.heap.size + 1) vz := by rw [hW]; exact World.vb_new' _ _ _ (by simp)
  have hB : Below w.heap.size w W := by rw [hW]; exact ((Below.refl _ w).alloc (Nat.le_refl _) _).alloc (by simp) _
  clear hW
  refine (HR.out _ hB hB.size).mono ?_
  rintro e2 w2 ⟨rfl, hB2⟩
  have hvx := hvx.below hB2 hvx.lt
  have hvy := hvy.below hB2 hvy.lt
  have hB := hB.trans (hB2.mono hB.size)
  clear hB2 HR
  have c0 := hvx.cell XS.out.1
  have c6 := hvx.cell XS.out.2.1
  have c7 := hvx.cell XS.out.2.2.1
  have c8 := hvx.cell XS.out.2.2.2
  by_cases h1 : r ≤ i
  · have HN : Hid (Y = errV 7) := by show _ = _; rw [HG.out, if_pos (by omega)]
    go_wp2_with fail
    refine (rerr_any 7 _).mono ?_
    rintro e3 w3 ⟨rfl, hB3⟩
    have hvy := hvy.below hB3 hvy.lt
    have hB := hB.trans (hB3.mono hB.size)
    clear hB3
    go_wp2_with (refine wpList_store34 rfl rfl rfl rfl hvy (by rfl) (pcs_one _) ?_; intro w9 hn9 hg9 hz9)
    refine bodyPost_ret (results_cell_row rfl _ _ _ 34 _ (0, 0) _ rfl hn9 Tryz.underlying34 rfl info34) rfl ?_
    exact ⟨by rw [HN.out], hB.grown hg9 hB.size (fun k9 hk9 => by cases hk9; omega)⟩
  by_cases h2 : c ≤ j
  · have HN : Hid (Y = errV 7) := by show _ = _; rw [HG.out, if_pos (by omega)]
    have hd1 := HD.out
    go_wp2_with fail
    refine (rerr_any 7 _).mono ?_
    rintro e3 w3 ⟨rfl, hB3⟩
    have hvy := hvy.below hB3 hvy.lt
    have hB := hB.trans (hB3.mono hB.size)
    clear hB3
    go_wp2_with (refine wpList_store34 rfl rfl rfl rfl hvy (by rfl) (pcs_one _) ?_; intro w9 hn9 hg9 hz9)
    refine bodyPost_ret (results_cell_row rfl _ _ _ 34 _ (0, 0) _ rfl hn9 Tryz.underlying34 rfl info34) rfl ?_
    exact ⟨by rw [HN.out], hB.grown hg9 hB.size (fun k9 hk9 => by cases hk9; omega)⟩
  have hq1 : ¬ (r ≤ i ∨ c ≤ j) := by have := HD.out; omega
  have hlt := at_lt (r := r) (c := c) (i := i) (j := j) (by omega) (by omega) (by
    unfold atI
    rw [if_neg hr1, if_neg hc1]
    exact hq1)
  have hai : atI r i = i ∧ atI c j = j := by unfold atI; exact ⟨if_neg hr1, if_neg hc1⟩
  rw [hai.1, hai.2] at hlt
  obtain ⟨q, hq⟩ : ∃ q : Nat, (i * c + j).toNat = q := ⟨_, rfl⟩
  have hqI : i * c + j = (q : Int) := by omega
  have hql : q < l.length := by have := HD.out; omega
  have HN : Hid (Y = l.getD q {}) := by show _ = _; rw [HG.out, if_neg hq1, hq]
  obtain ⟨g0, off, rfl, hcl⟩ := HLK.out q hql
  have HCL := Lib.hid hcl
  have hO2 := pcs_one (l.getD q {})
  obtain ⟨C2, hC2⟩ : ∃ C2, pcs (l.getD q {}) = C2 := ⟨_, rfl⟩
  rw [hC2] at HCL hO2
  have HO2 := Lib.hid hO2
  have HC2 := Lib.hid hC2
  have hqlI : (q : Int) < (l.length : Int) := by omega
  have hm0 : 0 ≤ i * c := Int.mul_nonneg (by omega) (by have := HD.out; omega)
  have hm1 : i * c ≤ 400 := by omega
  have hdr := HD.out
  clear hcl hO2 hC2 hq1 hlt hai hq
  obtain ⟨m1, hm⟩ : ∃ m1, i * c = m1 := ⟨_, rfl⟩
  rw [hm] at hqI hm0 hm1
  have hrI : ¬ r ≤ i := by omega
  have hcI : ¬ c ≤ j := by omega
  clear hdr
  go_wp2_with (first | refine wpList_load34at rfl rfl rfl HO2.out.1 (HCL.out _ hB) ?_ | (refine wpList_store34 rfl rfl rfl rfl hvy (by rfl) HO2.out ?_; intro w9 hn9 hg9 hz9))
  refine bodyPost_ret (results_cell_row rfl _ _ _ 34 _ (0, 0) _ rfl hn9 Tryz.underlying34 rfl (by rw [HO2.out.1]; exact info34)) rfl ?_
  exact ⟨by rw [HN.out, HC2.out], hB.grown hg9 hB.size (fun k9 hk9 => by cases hk9; omega)⟩

theorem rget_any (n : Nat) (r c i j : Int) (l : List Vl) (v : Value) (w : World) (hv : Rp w w.heap.size (n + 2) (arrV r c l) v) (hr : rightV (n + 2) (arrV r c l) = true) (hi : 0 ≤ i) (hj : 0 ≤ j) :
    Calls Tryz.prog 23 #[v, .int .i64 i, .int .i64 j] w (Gives (.agg (pcs (getV (n + 2) (arrV r c l) i j))) w) := by
  by_cases hr1 : r = 1
  · by_cases hc1 : c = 1
    · exact rget_rc n r c i j l v w hv hr hi hj hr1 hc1
    · exact rget_r n r c i j l v w hv hr hi hj hr1 hc1
  · by_cases hc1 : c = 1
    · exact rget_c n r c i j l v w hv hr hi hj hr1 hc1
    · exact rget_n n r c i j l v w hv hr hi hj hr1 hc1
end Go.Proofs.YtkhohjdakcchdaaGreatDoor
/- tabularef03.Make; val.copied at plain values; val.Get and tabularef03.Get at any place of a plain value or an array. -/
namespace Go.Proofs.YtkhohjdakcchdaaGreatDoor
open Go Go.RowKit Go.Shelf
theorem bslice0 (w : World) : (Instr.buildSlice 28 0 #[]).run Tryz.prog w = .ok (.slice (some ⟨w.heap.size, 0, none⟩) 0 0) (w.alloc (.cells #[] 34)) := by kernel_rfl
theorem vr_empty (w : World) (base : Nat) (hb : base ≤ w.heap.size) : World.vr (w.alloc (.cells #[] 34)) base (.slice (some ⟨w.heap.size, 0, none⟩) 0 0) [] :=
  ⟨rfl, .inr ⟨w.heap.size, 0, #[], rfl, hb, heap_alloc_new w _, Nat.le_refl _, Nat.zero_le _, rfl, rfl⟩⟩
section
variable {ops : Array Oper} {rest : List Oper} {o : Oper} {a : Act} {w : World} {K : Act → World → Prop} {Q : Exit → Act → World → Prop}
theorem wpList_bslice0 (hgd : o.guard = none) (ho : o.op = .buildSlice 28 0 #[]) (h : wpList Tryz.prog ops Q rest (a.put o.dst (.slice (some ⟨w.heap.size, 0, none⟩) 0 0)) (w.alloc (.cells #[] 34))) : wpList Tryz.prog ops Q (o :: rest) a w :=
  wpList_plain hgd fun _ hK => by
    have hz := bslice0 w
    unfold Oper.wp execOp
    simp [ho, hz]
    exact hK _ _ h
set_option maxRecDepth 100000 in
/-- A slice of plain values appended to an own one. -/
theorem wpList_appendv {n : Nat} (hgd : o.guard = none) (s x : Operand) (ho : o.op = .call { callee := .builtin .append, args := #[s, x], argTypes := #[28, 28] })
    (base : Nat) (v : Value) (l r : List Vl) (R : Value) (hown : World.vr w base v l) (hl : l.length ≤ 1000) (hs : a.eval s = v) (hx : a.eval x = R) (hr : VsAt (Rp w w.heap.size (n + 1)) w w.heap.size R r) (hp : ∀ y ∈ r, plainV y = true) (hne : r ≠ []) (hbase : base ≤ w.heap.size)
    (h : ∀ v' w', World.vr w' base v' (l ++ r) → w.grownBy w' v.ownBlock → wpList Tryz.prog ops Q rest (a.put o.dst v') w') : wpList Tryz.prog ops Q (o :: rest) a w :=
  wpList_plain hgd fun _ hK => by
    obtain ⟨p, c, rfl, l1, l2, l3, l4, HL⟩ := hr
    obtain ⟨g, off, hpe⟩ : ∃ g off, p = some ⟨g, off, none⟩ := by
      cases r with
      | nil => exact absurd rfl hne
      | cons x l =>
        obtain ⟨g, off, _, e, _⟩ := HL 0 x rfl
        exact ⟨g, off, e⟩
    subst hpe
    obtain ⟨i0, hi, hz0, hz1, hz2⟩ := info_parts info34b
    refine wp_append_own w s x 28 ho base 34 i0 (.agg vz) 12 152 Tryz.underlying28 hi hz0 hz1 hz2 rfl (by decide) v l.length _ hs hown ⟨g, off, none⟩ r.length c (vsC r) hx (vsC_len r) ?_ (vsC_one r) ?_ ?_ hbase ?_
    · intro j u hj
      rw [add_at]
      refine vsC_each (P := fun j u => w.cell? ⟨g, off + j, none⟩ = some u) (fun i y jj u hy hjj => ?_) j u hj
      obtain ⟨g', off', cs, e, _, _, hr, hc⟩ := HL i y hy
      injection e with e
      injection e with e1 e2 _
      subst e1 e2
      have := plain_cells hr (hp y (List.mem_of_getElem? hy))
      injection this with this
      subst this
      have := hc jj u hjj
      rwa [Nat.add_assoc] at this
    · unfold maxLen; omega
    · omega
    · intro v' w' h1 h2 _
      refine hK _ _ (h v' w' ?_ h2)
      unfold World.vr
      have e : vsC (l ++ r) = vsC l ++ vsC r := by
        clear h1 h2 hown HL hp hne
        unfold vsC
        simp
      rw [e, List.length_append]
      exact h1
end

set_option maxRecDepth 100000 in
set_option maxHeartbeats 2000000 in
/-- An array without values is not right, wherever its slice points. -/
theorem rright_empty (r c : Int) (p : Option Addr) (k : Nat) (w : World) (h1 : i64R r) (h2 : i64R c) : Calls Tryz.prog 38 #[.agg (vcs (arrV r c []) (.slice p 0 k) nilS nilS)] w (Gives (.bool false) w) := by
  have HBA := Lib.hid (show ∀ W, Calls Tryz.prog 94 #[.agg (vcs (arrV r c []) (.slice p 0 k) nilS nilS), .int .i64 5] W (Gives (.bool true) W) from fun W => by
    have hb : bareV (arrV r c []) 5 = true := by simp [bareV, arrV, ByteArray.size]
    have := rbare_any (arrV r c []) 5 p none none k 0 0 W
    rw [hb] at this
    exact this)
  obtain ⟨C, hC⟩ : ∃ C, vcs (arrV r c []) (.slice p 0 k) nilS nilS = C := ⟨_, rfl⟩
  have HO : Hid (OneC C) := Lib.hid (by rw [← hC]; exact vcs_one _ _ _ _ _ _ _ _ _ _)
  have X0 : Hid (C[0]? = some (.int .i64 5)) := Lib.hid (by rw [← hC]; rfl)
  have X6 : Hid (C[6]? = some (.int .i64 r)) := Lib.hid (by rw [← hC]; rfl)
  have X7 : Hid (C[7]? = some (.int .i64 c)) := Lib.hid (by rw [← hC]; rfl)
  have X8 : Hid (C[8]? = some (.slice p 0 k)) := Lib.hid (by rw [← hC]; rfl)
  rw [hC] at HBA ⊢
  clear hC
  unfold i64R at h1 h2
  have x0 := X0.out
  have hB : Below w.heap.size w (w.alloc (.cells C 34)) := (Below.refl _ w).alloc (Nat.le_refl _) _
  have hv : World.vb (w.alloc (.cells C 34)) w.heap.size C := World.vb_new w C
  go_enter Tryz.func38, Tryz.ntmps38
  go_wp2_with (refine wpList_load34 rfl rfl rfl hv HO.out.1 ?_)
  obtain ⟨w0, hw0⟩ : ∃ w0, w0 = w.alloc (.cells C 34) := ⟨_, rfl⟩
  rw [← hw0] at hB hv ⊢
  clear hw0 x0
  refine (HBA.out _).mono ?_
  rintro e1 w1 ⟨rfl, hB1⟩
  have hv := hv.below hB1 hv.lt
  have hB := hB.trans (hB1.mono hB.size)
  clear hB1 HBA
  have c0 := hv.cell X0.out
  have c6 := hv.cell X6.out
  have c7 := hv.cell X7.out
  have c8 := hv.cell X8.out
  by_cases a1 : r < 1
  · go_wp2_with fail
    go_ret
    exact ⟨rfl, hB⟩
  by_cases a2 : c < 1
  · go_wp2_with fail
    go_ret
    exact ⟨rfl, hB⟩
  by_cases a3 : 400 < r
  · go_wp2_with fail
    go_ret
    exact ⟨rfl, hB⟩
  by_cases a4 : 400 < c
  · go_wp2_with fail
    go_ret
    exact ⟨rfl, hB⟩
  have hm0 : 1 * 1 ≤ r * c := Int.mul_le_mul (by omega) (by omega) (by omega) (by omega)
  have hm1 : r * c ≤ 400 * 400 := Int.mul_le_mul (by omega) (by omega) (by omega) (by omega)
  obtain ⟨m, hm⟩ : ∃ m, r * c = m := ⟨_, rfl⟩
  rw [hm] at hm0 hm1
  by_cases a5 : 400 < m
  · go_wp2_with fail
    go_ret
    exact ⟨rfl, hB⟩
  have f6 : ((0 : Int) != m) = true := by simp; omega
  have f7 : (((0 : Nat) : Int) != m) = true := f6
  go_wp2_with fail
  go_ret
  exact ⟨rfl, hB⟩
theorem arr_ok' {r c : Int} {l : List Vl} (h1 : i64R r) (h2 : i64R c) : VOk (arrV r c l) := ⟨(show i64R 5 from i64_one (by decide) (by decide)), i64_zero, i64_zero, (show (⟨#[]⟩ : ByteArray).size ≤ 1000 by decide), i64_zero, h1, h2, i64_zero⟩
/-- What an array is made of. -/
def HandsM (r c : Int) (l : List Vl) (w : World) (e : Ending) (w' : World) : Prop := if rightV 1 (arrV r c l) = true then MadePost r c l w e w' else ReadPost ({}, 30) w e w'
set_option maxRecDepth 100000 in
set_option maxHeartbeats 8000000 in
theorem rmake_nil (r c : Int) (w : World) (hr1 : i64R r) (hc1 : i64R c) : Calls Tryz.prog 20 #[.int .i64 r, .int .i64 c, nilS] w (ReadPost ({}, 30) w) := by
  have HRE := Lib.hid (show ∀ W q, Calls Tryz.prog 38 #[.agg (vcs (arrV r c []) (.slice (some ⟨q, 0, none⟩) 0 0) nilS nilS)] W (Gives (.bool false) W) from fun W q => rright_empty r c _ 0 W hr1 hc1)
  clear hr1 hc1
  have hB : Below w.heap.size w (((w.alloc (.cells vz 34)).alloc (.cells #[] 34)).alloc (.cells vz 34)) := (((Below.refl _ w).alloc (Nat.le_refl _) _).alloc (by simp) _).alloc (by simp; omega) _
  have hv6 : World.vb (((w.alloc (.cells vz 34)).alloc (.cells #[] 34)).alloc (.cells vz 34)) w.heap.size vz := ((World.vb_new w vz).alloc _).alloc _
  have hv8 : World.vb (((w.alloc (.cells vz 34)).alloc (.cells #[] 34)).alloc (.cells vz 34)) (w.heap.size + 1 + 1) vz := World.vb_new' _ _ _ (by simp)
  go_enter Tryz.func20, Tryz.ntmps20
  go_wp2_with (first | refine wpList_alloc34 rfl rfl ?_ | refine wpList_bslice0 rfl rfl ?_ | refine wpList_build_arr ([] : List Vl) rfl rfl rfl rfl rfl ?_ | (refine wpList_store34 rfl rfl rfl rfl (World.vb_new ((w.alloc (.cells vz 34)).alloc (.cells #[] 34)) vz) (by rfl) (vcs_one (arrV r c []) (some _) none none 0 0 0 0 0 0) ?_; intro w1 hn1 hg1 hz1) | refine wpList_load34 rfl rfl rfl hn1 (by rfl) ?_)
  have hv6 := hv6.grown hg1 (by intro e9; injection e9 with e9; simp at e9; omega)
  have hB := hB.grown hg1 (by simp; omega) (fun k9 hk9 => by cases hk9; simp; omega)
  clear hg1 hz1 hn1 hv8
  refine (HRE.out _ _).mono ?_
  rintro e2 w2 ⟨rfl, hB2⟩
  have hv6 := hv6.below hB2 hv6.lt
  have hB := hB.trans (hB2.mono hB.size)
  clear hB2
  go_wp2_with (first | refine wpList_build_zero rfl rfl ?_ | (refine wpList_store34 rfl rfl rfl rfl hv6 (by rfl) (pcs_one _) ?_; intro w9 hn9 hg9 hz9))
  refine bodyPost_ret (results_vl_tmp rfl _ _ _ _ rfl hn9 (by rfl)) rfl ?_
  exact ⟨rfl, hB.grown hg9 hB.size (fun k9 hk9 => by cases hk9; omega)⟩
set_option maxRecDepth 100000 in
set_option maxHeartbeats 8000000 in
theorem rmake_full (n : Nat) (r c : Int) (l : List Vl) (L : Value) (w : World) (hp : ∀ x ∈ l, plainV x = true) (hl : VsAt (Rp w w.heap.size (n + 1)) w w.heap.size L l) (hne : l ≠ []) (hr1 : i64R r) (hc1 : i64R c) :
    Calls Tryz.prog 20 #[.int .i64 r, .int .i64 c, L] w (HandsM r c l w) := by
  have hlen : l.length ≤ 1000 := hl.shape.choose_spec.choose_spec.2.2
  obtain ⟨W, hW⟩ : ∃ W, W = (w.alloc (.cells vz 34)).alloc (.cells #[] 34) := ⟨_, rfl⟩
  have hB : Below w.heap.size w W := by rw [hW]; exact ((Below.refl _ w).alloc (Nat.le_refl _) _).alloc (by simp) _
  have hv6 : World.vb W w.heap.size vz := by rw [hW]; exact (World.vb_new w vz).alloc _
  have hL := hl.imp (R' := Rp W W.heap.size (n + 1)) (fun p9 hp9 => hB.cell hp9) hB.size (fun y9 v9 h9 => h9.below hB hB.size)
  have hown : World.vr W (w.heap.size + 1) (.slice (some ⟨w.heap.size + 1, 0, none⟩) 0 0) [] := by
    rw [hW]
    have := vr_empty (w.alloc (.cells vz 34)) (w.heap.size + 1) (by simp)
    rwa [World.size_alloc] at this
  have hsz : W.heap.size = w.heap.size + 1 + 1 := by rw [hW]; simp
  have HRG := Lib.hid (show ∀ W2 L2 D, World.vr W2 D L2 l → Calls Tryz.prog 38 #[.agg (vcs (arrV r c l) L2 nilS nilS)] W2 (Gives (.bool (rightV 1 (arrV r c l))) W2) from fun W2 L2 D h2 => by
    have hv := h2.vsAt (B := W2.heap.size) (n := 1) hp hlen (Nat.le_refl _) (fun e => absurd e hne)
    have := rright38_any 3 (arrV r c l) _ W2 (rp_arr hv (arr_ok' hr1 hc1))
    rw [show rightV 3 (arrV r c l) = rightV 1 (arrV r c l) by rw [right_dims hp, right_dims hp]] at this
    exact this)
  obtain ⟨D, hD⟩ : ∃ D, rightV 1 (arrV r c l) = D := ⟨_, rfl⟩
  rw [hD] at HRG
  have HD := Lib.hid hD
  have HP := Lib.hid hp
  have HNE := Lib.hid hne
  clear hl hD hp hne hr1 hc1
  go_enter Tryz.func20, Tryz.ntmps20
  go_wp2_with (first | refine wpList_alloc34 rfl rfl ?_ | (refine wpList_bslice0 rfl rfl ?_; rw [← hW, World.size_alloc]; clear hW) | (at_builtin; refine wpList_appendv (n := n) rfl _ _ rfl (w.heap.size + 1) _ [] l L hown (by decide) rfl rfl hL HP.out HNE.out (by omega) ?_; intro v4 w4 hown4 hg4; obtain ⟨pv, nv, cv, rfl⟩ := hown4.shape2) | refine wpList_build_arr l rfl rfl rfl rfl rfl ?_ | (refine wpList_store34 rfl rfl rfl rfl (World.vb_new w4 vz) (by rfl) (vcs_one (arrV r c l) _ none none _ _ 0 0 0 0) ?_; intro w1 hn1 hg1 hz1) | refine wpList_load34 rfl rfl rfl hn1 (by rfl) ?_)
  rw [List.nil_append] at hown4
  have hz4 := hg4.size
  have hv6 := ((hv6.grown hg4 (by intro e9; simp [Value.ownBlock] at e9)).alloc (.cells vz 34)).grown hg1 (by intro e9; injection e9 with e9; omega)
  have hlt4 : ∀ k, Value.ownBlock (.slice pv nv cv) = some k → k < w4.heap.size := fun k hk => (World.ownsRow.lt hown4 k hk).2
  have hown1 := (hown4.alloc (.cells vz 34)).grown' hg1 (fun k hk e => by have := hlt4 k hk; omega)
  have hB := ((hB.grown hg4 (by omega) (fun k9 hk9 => by simp [Value.ownBlock] at hk9; omega)).alloc (by omega) (.cells vz 34)).grown hg1 (by simp; omega) (fun k9 hk9 => by cases hk9; omega)
  clear hg4 hg1 hown4 hlt4 hown hL
  refine (HRG.out w1 _ _ hown1).mono ?_
  rintro e2 w2 ⟨rfl, hB2⟩
  have hv6 := hv6.below hB2 hv6.lt
  have hn1 := hn1.below hB2 hn1.lt
  have hown1 := hown1.below hB2
  have hB := hB.trans (hB2.mono hB.size)
  clear hB2 HRG
  cases D with
  | false =>
    go_wp2_with (first | refine wpList_build_zero rfl rfl ?_ | (refine wpList_store34 rfl rfl rfl rfl hv6 (by rfl) (pcs_one _) ?_; intro w9 hn9 hg9 hz9))
    refine bodyPost_ret (results_vl_tmp rfl _ _ _ _ rfl hn9 (by rfl)) rfl ?_
    unfold HandsM
    rw [if_neg (by rw [HD.out]; decide)]
    exact ⟨rfl, hB.grown hg9 hB.size (fun k9 hk9 => by cases hk9; omega)⟩
  | true =>
    go_wp2_with (first | refine wpList_load34 rfl rfl rfl hn1 (by rfl) ?_ | (refine wpList_store34 rfl rfl rfl rfl hv6 (by rfl) (vcs_one (arrV r c l) _ none none _ _ 0 0 0 0) ?_; intro w9 hn9 hg9 hz9))
    refine bodyPost_ret (results_vl_tmp rfl _ _ _ _ rfl hn9 (by rfl)) rfl ?_
    unfold HandsM
    rw [if_pos HD.out]
    exact ⟨_, rfl, (hown1.grown hg9 (by omega)).mono (by omega), hB.grown hg9 hB.size (fun k9 hk9 => by cases hk9; omega)⟩
theorem rmake_any (n : Nat) (r c : Int) (l : List Vl) (L : Value) (w : World) (hp : ∀ x ∈ l, plainV x = true) (hl : VsAt (Rp w w.heap.size (n + 1)) w w.heap.size L l) (hr1 : i64R r) (hc1 : i64R c) :
    Calls Tryz.prog 20 #[.int .i64 r, .int .i64 c, L] w (HandsM r c l w) := by
  by_cases h0 : l = []
  · subst h0
    obtain ⟨_, _, _, _, _, _, hn, _⟩ := id hl
    have hL : L = nilS := hn rfl
    subst hL
    refine (rmake_nil r c w hr1 hc1).mono fun e w' h => ?_
    unfold HandsM
    rw [if_neg fun h => arr_ne h rfl]
    exact h
  · exact rmake_full n r c l L w hp hl h0 hr1 hc1
/-- val.Make, all cases in one. -/
theorem make_any (n : Nat) (r c : Int) (l : List Vl) (L : Value) (w : World) (hp : ∀ x ∈ l, plainV x = true) (hl : VsAt (Rp w w.heap.size (n + 1)) w w.heap.size L l) (hr1 : i64R r) (hc1 : i64R c) (hT : Lib.Utf8Tabs 0 1 w) :
    Calls Tryz.prog 19 #[.int .i64 r, .int .i64 c, L] w (HandsM r c l w) := by
  cases h : rightV 1 (arrV r c l) with
  | true => exact (make_ok n r c l L w hp hl h hT).mono fun e w' h' => by unfold HandsM; rw [if_pos h]; exact h'
  | false => exact (make_no n r c l L w hp hl h hr1 hc1 hT).mono fun e w' h' => by unfold HandsM; rw [if_neg (by rw [h]; decide)]; exact h'
end Go.Proofs.YtkhohjdakcchdaaGreatDoor
/- val.copied at plain values; val.Get and tabularef03.Get at any place of a plain value or an array. (By genRga.py.) -/
namespace Go.Proofs.YtkhohjdakcchdaaGreatDoor
open Go Go.RowKit Go.Shelf
theorem set_same {C : Array Value} {i : Nat} {u : Value} (h : C[i]? = some u) : C.setIfInBounds i u = C := by
  apply Array.ext_getElem?
  intro j
  rw [Array.getElem?_setIfInBounds]
  split
  · rename_i e
    subst e
    split
    · exact h.symm
    · rename_i hlt
      rw [Array.getElem?_eq_none (by omega)]
  · rfl
set_option maxRecDepth 100000 in
set_option maxHeartbeats 8000000 in
theorem copied_plain (x : Vl) (w : World) : Calls Tryz.prog 60 #[.agg (pcs x)] w (Gives (.agg (pcs x)) w) := by
  have HCL := Lib.hid (show ∀ W, Calls Tryz.prog 110 #[nilS] W (fun e w' => e = .returned nilS ∧ w' = W) from fun W => (AnyE.slices_Clone_nil Tryz.laysE110 0 0 W).mono fun e w' h => h)
  have HO : Hid (OneC (pcs x)) := Lib.hid (pcs_one x)
  obtain ⟨C, hC⟩ : ∃ C, pcs x = C := ⟨_, rfl⟩
  have X8 : Hid (C[8]? = some nilS) := Lib.hid (by rw [← hC]; rfl)
  have X10 : Hid (C[10]? = some nilS) := Lib.hid (by rw [← hC]; rfl)
  have X11 : Hid (C[11]? = some nilS) := Lib.hid (by rw [← hC]; rfl)
  rw [hC] at HO ⊢
  clear hC
  have a90 : ∀ f : Field, ([f] : List Field)[0]? = some f := fun _ => rfl
  have a91 : ∀ f g : Field, ([f, g] : List Field)[0]? = some f := fun _ _ => rfl
  obtain ⟨W, hW⟩ : ∃ W, W = (w.alloc (.cells C 34)).alloc (.cells vz 34) := ⟨_, rfl⟩
  have hvx : World.vb W w.heap.size C := by rw [hW]; exact (World.vb_new w C).alloc _
  have hvy : World.vb W (w.heap.size + 1) vz := by rw [hW]; exact World.vb_new' _ _ _ (by simp)
  have hB : Below w.heap.size w W := by rw [hW]; exact ((Below.refl _ w).alloc (Nat.le_refl _) _).alloc (by simp) _
  go_enter Tryz.func60, Tryz.ntmps60
  go_upto_region 1 with (refine wpList_alloc34 rfl rfl ?_)
  go_simp
  rw [← hW]
  clear hW
  have c8 := hvx.cell X8.out
  have f8 := hvx.frozen 8
  go_wp2_with fail
  obtain ⟨W1, hW1⟩ : ∃ W1, W1 = W.setCell ⟨w.heap.size, 8, none⟩ nilS := ⟨_, rfl⟩
  rw [← hW1]
  have hvx : World.vb W1 w.heap.size C := by
    rw [hW1]
    have := hvx.set 8 nilS
    rwa [set_same X8.out] at this
  have hvy : World.vb W1 (w.heap.size + 1) vz := by rw [hW1]; exact hvy.other (by simp) _
  have hB : Below w.heap.size w W1 := by rw [hW1]; exact hB.setCell (Nat.le_refl _) _
  clear hW1 c8 f8
  go_loopw [14] (fun i wr => i = .int .i64 0 ∧ wr = W1) (fun _ _ => 0)
  case atStart => exact ⟨rfl, rfl⟩
  case round =>
    obtain ⟨rfl, rfl⟩ := hrel
    have c11 := hvx.cell X11.out
    go_wp2_with fail
    refine (HCL.out _).mono ?_
    rintro e2 w2 ⟨rfl, rfl⟩
    have f11 := hvx.frozen 11
    have f10 := hvx.frozen 10
    have c10 := hvx.cell X10.out
    go_wp2_with fail
    obtain ⟨W2, hW2⟩ : ∃ W2, W2 = (w2.setCell ⟨w.heap.size, 11, none⟩ nilS).setCell ⟨w.heap.size, 10, none⟩ nilS := ⟨_, rfl⟩
    rw [← hW2]
    have hvx : World.vb W2 w.heap.size C := by
      rw [hW2]
      have h1 := hvx.set 11 nilS
      rw [set_same X11.out] at h1
      have := h1.set 10 nilS
      rwa [set_same X10.out] at this
    have hvy : World.vb W2 (w.heap.size + 1) vz := by rw [hW2]; exact (hvy.other (by simp) _).other (by simp) _
    have hB : Below w.heap.size w W2 := by rw [hW2]; exact (hB.setCell (Nat.le_refl _) _).setCell (Nat.le_refl _) _
    clear hW2 c10 f10 c11 f11
    go_loopw [39] (fun i wr => i = .int .i64 0 ∧ wr = W2) (fun _ _ => 0)
    case atStart => exact ⟨rfl, rfl⟩
    case round =>
      obtain ⟨rfl, rfl⟩ := hrel
      go_wp2_with (first | refine wpList_load34 rfl rfl rfl hvx HO.out.1 ?_ | (refine wpList_store34 rfl rfl rfl rfl hvy (by rfl) HO.out ?_; intro w9 hn9 hg9 hz9))
      refine bodyPost_ret (results_cell_row rfl _ _ _ 34 _ (0, 0) _ rfl hn9 Tryz.underlying34 rfl (by rw [HO.out.1]; exact info34)) rfl ?_
      exact ⟨rfl, hB.grown hg9 hB.size (fun k9 hk9 => by cases hk9; omega)⟩
set_option maxRecDepth 100000 in
set_option maxHeartbeats 8000000 in
theorem get22_neg (x : Vl) (C : Array Value) (i j : Int) (w : World) (hx : At x C w) (hE : Env w) (h : i < 0 ∨ j < 0) : Calls Tryz.prog 22 #[.agg C, .int .i64 i, .int .i64 j] w (Gives (.agg (pcs (errV 7))) w) := by
  have HR := Lib.hid (show ∀ W, Below w.heap.size w W → Calls Tryz.prog 27 #[.agg C] W (Gives (.bool true) W) from fun W hW => right27 (hx.below hW) (hE.below hW))
  have HO := Lib.hid hx.one
  have hO := hx.one
  clear hx hE
  go_enter Tryz.func22, Tryz.ntmps22
  go_wp2_with (first | refine wpList_alloc34 rfl rfl ?_ | refine wpList_load34 rfl rfl rfl ((World.vb_new w C).alloc _) HO.out.1 ?_)
  obtain ⟨W, hW⟩ : ∃ W, W = (w.alloc (.cells C 34)).alloc (.cells vz 34) := ⟨_, rfl⟩
  rw [← hW]
  have hvy : World.vb W (w.heap.size + 1) vz := by rw [hW]; exact World.vb_new' _ _ _ (by simp)
  have hB : Below w.heap.size w W := by rw [hW]; exact ((Below.refl _ w).alloc (Nat.le_refl _) _).alloc (by simp) _
  clear hW
  refine (HR.out _ hB).mono ?_
  rintro e2 w2 ⟨rfl, hB2⟩
  have hvy := hvy.below hB2 hvy.lt
  have hB := hB.trans (hB2.mono hB.size)
  clear hB2 HR
  by_cases hi : i < 0
  · go_wp2_with fail
    refine (err_any 7 _).mono ?_
    rintro e3 w3 ⟨rfl, hB3⟩
    have hvy := hvy.below hB3 hvy.lt
    have hB := hB.trans (hB3.mono hB.size)
    clear hB3
    go_wp2_with (refine wpList_store34 rfl rfl rfl rfl hvy (by rfl) (pcs_one _) ?_; intro w9 hn9 hg9 hz9)
    refine bodyPost_ret (results_cell_row rfl _ _ _ 34 _ (0, 0) _ rfl hn9 Tryz.underlying34 rfl info34) rfl ?_
    exact ⟨rfl, hB.grown hg9 hB.size (fun k9 hk9 => by cases hk9; omega)⟩
  · have hj : j < 0 := by omega
    go_wp2_with fail
    refine (err_any 7 _).mono ?_
    rintro e3 w3 ⟨rfl, hB3⟩
    have hvy := hvy.below hB3 hvy.lt
    have hB := hB.trans (hB3.mono hB.size)
    clear hB3
    go_wp2_with (refine wpList_store34 rfl rfl rfl rfl hvy (by rfl) (pcs_one _) ?_; intro w9 hn9 hg9 hz9)
    refine bodyPost_ret (results_cell_row rfl _ _ _ 34 _ (0, 0) _ rfl hn9 Tryz.underlying34 rfl info34) rfl ?_
    exact ⟨rfl, hB.grown hg9 hB.size (fun k9 hk9 => by cases hk9; omega)⟩
set_option maxRecDepth 100000 in
set_option maxHeartbeats 8000000 in
theorem get22_one (x : Vl) (i j : Int) (w : World) (hp : plainV x = true) (hE : Env w) (hi : 0 ≤ i) (hj : 0 ≤ j) : Calls Tryz.prog 22 #[.agg (pcs x), .int .i64 i, .int .i64 j] w (Gives (.agg (pcs x)) w) := by
  have hx : ∀ W, At x (pcs x) W := fun W => at_plain hp
  have HR := Lib.hid (show ∀ W, Below w.heap.size w W → Calls Tryz.prog 27 #[.agg (pcs x)] W (Gives (.bool true) W) from fun W hW => right27 (hx W) (hE.below hW))
  have h5 := (plain_kind hp).1
  have HCP := Lib.hid (fun W => copied_plain x W)
  obtain ⟨C, hC⟩ : ∃ C, pcs x = C := ⟨_, rfl⟩
  have HO : Hid (OneC C) := Lib.hid (by rw [← hC]; exact pcs_one x)
  have X0 : Hid (C[0]? = some (.int .i64 x.k)) := Lib.hid (by rw [← hC]; rfl)
  rw [hC] at HR HCP ⊢
  clear hC hx hE hp
  generalize x.k = k at *
  have f5 : (k != 5) = true := by simpa using h5
  have fi : ¬ i < 0 := by omega
  have fj : ¬ j < 0 := by omega
  clear h5 hi hj
  go_enter Tryz.func22, Tryz.ntmps22
  go_wp2_with (first | refine wpList_alloc34 rfl rfl ?_ | refine wpList_load34 rfl rfl rfl ((World.vb_new w C).alloc _) HO.out.1 ?_)
  obtain ⟨W, hW⟩ : ∃ W, W = (w.alloc (.cells C 34)).alloc (.cells vz 34) := ⟨_, rfl⟩
  rw [← hW]
  have hvx : World.vb W w.heap.size C := by rw [hW]; exact (World.vb_new w C).alloc _
  have hvy : World.vb W (w.heap.size + 1) vz := by rw [hW]; exact World.vb_new' _ _ _ (by simp)
  have hB : Below w.heap.size w W := by rw [hW]; exact ((Below.refl _ w).alloc (Nat.le_refl _) _).alloc (by simp) _
  clear hW
  refine (HR.out _ hB).mono ?_
  rintro e2 w2 ⟨rfl, hB2⟩
  have hvx := hvx.below hB2 hvx.lt
  have hvy := hvy.below hB2 hvy.lt
  have hB := hB.trans (hB2.mono hB.size)
  clear hB2 HR
  have c0 := hvx.cell X0.out
  go_wp2_with (refine wpList_load34 rfl rfl rfl hvx HO.out.1 ?_)
  refine (HCP.out _).mono ?_
  rintro e3 w3 ⟨rfl, hB3⟩
  have hvx := hvx.below hB3 hvx.lt
  have hvy := hvy.below hB3 hvy.lt
  have hB := hB.trans (hB3.mono hB.size)
  clear hB3
  go_wp2_with (first | refine wpList_load34 rfl rfl rfl hvx HO.out.1 ?_ | (refine wpList_store34 rfl rfl rfl rfl hvy (by rfl) HO.out ?_; intro w9 hn9 hg9 hz9))
  refine bodyPost_ret (results_cell_row rfl _ _ _ 34 _ (0, 0) _ rfl hn9 Tryz.underlying34 rfl (by rw [HO.out.1]; exact info34)) rfl ?_
  exact ⟨rfl, hB.grown hg9 hB.size (fun k9 hk9 => by cases hk9; omega)⟩
/-- At any place. -/
theorem get22_all (x : Vl) (C : Array Value) (i j : Int) (w : World) (hx : At x C w) (hE : Env w) : Calls Tryz.prog 22 #[.agg C, .int .i64 i, .int .i64 j] w (HandsV (getV 3 x i j) w) := by
  by_cases h : i < 0 ∨ j < 0
  · have hg : getV 3 x i j = errV 7 := by
      unfold getV
      rw [if_pos (hx.2.2.right 2), if_pos h]
    rw [hg]
    exact (get22_neg x C i j w hx hE h).mono fun _ _ hg => handsV_plain (plain_err (by decide) (by decide)) hg
  have hi : 0 ≤ i := by omega
  have hj : 0 ≤ j := by omega
  rcases hx.cases with hp | ⟨r, c, l, rfl, hr⟩
  · have hg : getV 3 x i j = x := by
      unfold getV
      rw [if_pos (hx.2.2.right 2), if_neg h, if_neg (plain_kind hp).1]
    rw [hg]
    have := plain_cells hx.1 hp
    injection this with this
    rw [this]
    exact (get22_one x i j w hp hE hi hj).mono fun _ _ hg => handsV_plain hp hg
  · exact (get_any 1 r c i j l _ w hx.1 (hr 2) hE.1 hi hj).mono fun _ _ hg => handsV_plain (get_plain (hr 2) hi hj) hg
set_option maxRecDepth 100000 in
set_option maxHeartbeats 8000000 in
theorem get23_neg (x : Vl) (C : Array Value) (i j : Int) (w : World) (hx : At x C w) (_hE : Env w) (h : i < 0 ∨ j < 0) : Calls Tryz.prog 23 #[.agg C, .int .i64 i, .int .i64 j] w (Gives (.agg (pcs (errV 7))) w) := by
  have HR := Lib.hid (show ∀ W, Below w.heap.size w W → Calls Tryz.prog 38 #[.agg C] W (Gives (.bool true) W) from fun W hW => by
    have := rright38_any 3 x _ W (hx.below hW).1
    rw [hx.2.2.right 2] at this
    exact this)
  have HO := Lib.hid hx.one
  have hO := hx.one
  clear hx _hE
  go_enter Tryz.func23, Tryz.ntmps23
  go_wp2_with (first | refine wpList_alloc34 rfl rfl ?_ | refine wpList_load34 rfl rfl rfl ((World.vb_new w C).alloc _) HO.out.1 ?_)
  obtain ⟨W, hW⟩ : ∃ W, W = (w.alloc (.cells C 34)).alloc (.cells vz 34) := ⟨_, rfl⟩
  rw [← hW]
  have hvy : World.vb W (w.heap.size + 1) vz := by rw [hW]; exact World.vb_new' _ _ _ (by simp)
  have hB : Below w.heap.size w W := by rw [hW]; exact ((Below.refl _ w).alloc (Nat.le_refl _) _).alloc (by simp) _
  clear hW
  refine (HR.out _ hB).mono ?_
  rintro e2 w2 ⟨rfl, hB2⟩
  have hvy := hvy.below hB2 hvy.lt
  have hB := hB.trans (hB2.mono hB.size)
  clear hB2 HR
  by_cases hi : i < 0
  · go_wp2_with fail
    refine (rerr_any 7 _).mono ?_
    rintro e3 w3 ⟨rfl, hB3⟩
    have hvy := hvy.below hB3 hvy.lt
    have hB := hB.trans (hB3.mono hB.size)
    clear hB3
    go_wp2_with (refine wpList_store34 rfl rfl rfl rfl hvy (by rfl) (pcs_one _) ?_; intro w9 hn9 hg9 hz9)
    refine bodyPost_ret (results_cell_row rfl _ _ _ 34 _ (0, 0) _ rfl hn9 Tryz.underlying34 rfl info34) rfl ?_
    exact ⟨rfl, hB.grown hg9 hB.size (fun k9 hk9 => by cases hk9; omega)⟩
  · have hj : j < 0 := by omega
    go_wp2_with fail
    refine (rerr_any 7 _).mono ?_
    rintro e3 w3 ⟨rfl, hB3⟩
    have hvy := hvy.below hB3 hvy.lt
    have hB := hB.trans (hB3.mono hB.size)
    clear hB3
    go_wp2_with (refine wpList_store34 rfl rfl rfl rfl hvy (by rfl) (pcs_one _) ?_; intro w9 hn9 hg9 hz9)
    refine bodyPost_ret (results_cell_row rfl _ _ _ 34 _ (0, 0) _ rfl hn9 Tryz.underlying34 rfl info34) rfl ?_
    exact ⟨rfl, hB.grown hg9 hB.size (fun k9 hk9 => by cases hk9; omega)⟩
set_option maxRecDepth 100000 in
set_option maxHeartbeats 8000000 in
theorem get23_one (x : Vl) (i j : Int) (w : World) (hp : plainV x = true) (_hE : Env w) (hi : 0 ≤ i) (hj : 0 ≤ j) : Calls Tryz.prog 23 #[.agg (pcs x), .int .i64 i, .int .i64 j] w (Gives (.agg (pcs x)) w) := by
  have hx : ∀ W, At x (pcs x) W := fun W => at_plain hp
  have HR := Lib.hid (show ∀ W, Below w.heap.size w W → Calls Tryz.prog 38 #[.agg (pcs x)] W (Gives (.bool true) W) from fun W hW => by
    have := rright38_any 3 x _ W (hx W).1
    rw [right_of_plain 2 hp] at this
    exact this)
  have h5 := (plain_kind hp).1
  have HCP := Lib.hid (fun W => copied_plain x W)
  obtain ⟨C, hC⟩ : ∃ C, pcs x = C := ⟨_, rfl⟩
  have HO : Hid (OneC C) := Lib.hid (by rw [← hC]; exact pcs_one x)
  have X0 : Hid (C[0]? = some (.int .i64 x.k)) := Lib.hid (by rw [← hC]; rfl)
  rw [hC] at HR HCP ⊢
  clear hC hx hp
  generalize x.k = k at *
  have f5 : (k != 5) = true := by simpa using h5
  have fi : ¬ i < 0 := by omega
  have fj : ¬ j < 0 := by omega
  clear h5 hi hj
  go_enter Tryz.func23, Tryz.ntmps23
  go_wp2_with (first | refine wpList_alloc34 rfl rfl ?_ | refine wpList_load34 rfl rfl rfl ((World.vb_new w C).alloc _) HO.out.1 ?_)
  obtain ⟨W, hW⟩ : ∃ W, W = (w.alloc (.cells C 34)).alloc (.cells vz 34) := ⟨_, rfl⟩
  rw [← hW]
  have hvx : World.vb W w.heap.size C := by rw [hW]; exact (World.vb_new w C).alloc _
  have hvy : World.vb W (w.heap.size + 1) vz := by rw [hW]; exact World.vb_new' _ _ _ (by simp)
  have hB : Below w.heap.size w W := by rw [hW]; exact ((Below.refl _ w).alloc (Nat.le_refl _) _).alloc (by simp) _
  clear hW
  refine (HR.out _ hB).mono ?_
  rintro e2 w2 ⟨rfl, hB2⟩
  have hvx := hvx.below hB2 hvx.lt
  have hvy := hvy.below hB2 hvy.lt
  have hB := hB.trans (hB2.mono hB.size)
  clear hB2 HR
  have c0 := hvx.cell X0.out
  go_wp2_with (first | refine wpList_load34 rfl rfl rfl hvx HO.out.1 ?_ | (refine wpList_store34 rfl rfl rfl rfl hvy (by rfl) HO.out ?_; intro w9 hn9 hg9 hz9))
  refine bodyPost_ret (results_cell_row rfl _ _ _ 34 _ (0, 0) _ rfl hn9 Tryz.underlying34 rfl (by rw [HO.out.1]; exact info34)) rfl ?_
  exact ⟨rfl, hB.grown hg9 hB.size (fun k9 hk9 => by cases hk9; omega)⟩
/-- At any place. -/
theorem get23_all (x : Vl) (C : Array Value) (i j : Int) (w : World) (hx : At x C w) (hE : Env w) : Calls Tryz.prog 23 #[.agg C, .int .i64 i, .int .i64 j] w (HandsV (getV 3 x i j) w) := by
  by_cases h : i < 0 ∨ j < 0
  · have hg : getV 3 x i j = errV 7 := by
      unfold getV
      rw [if_pos (hx.2.2.right 2), if_pos h]
    rw [hg]
    exact (get23_neg x C i j w hx hE h).mono fun _ _ hg => handsV_plain (plain_err (by decide) (by decide)) hg
  have hi : 0 ≤ i := by omega
  have hj : 0 ≤ j := by omega
  rcases hx.cases with hp | ⟨r, c, l, rfl, hr⟩
  · have hg : getV 3 x i j = x := by
      unfold getV
      rw [if_pos (hx.2.2.right 2), if_neg h, if_neg (plain_kind hp).1]
    rw [hg]
    have := plain_cells hx.1 hp
    injection this with this
    rw [this]
    exact (get23_one x i j w hp hE hi hj).mono fun _ _ hg => handsV_plain hp hg
  · exact (rget_any 1 r c i j l _ w hx.1 (hr 2) hi hj).mono fun _ _ hg => handsV_plain (get_plain (hr 2) hi hj) hg
end Go.Proofs.YtkhohjdakcchdaaGreatDoor
