/- The law ValMade, walked: it tells true. (By genMade.py.) -/
import Derived.Test.YtkhohjdakcchdaaGreatDoorUni
namespace Go.Proofs.YtkhohjdakcchdaaGreatDoor
open Go Go.RowKit Go.Shelf
set_option maxRecDepth 100000 in
set_option maxHeartbeats 16000000 in
theorem law_made (r c : Int) (v : Value) (zs : List Rw) (n : Int) (w : World) (hr0 : i64R r) (hc0 : i64R c) (hn0 : i64R n) (hr : RawsAt w w.heap.size v zs) (hS : Shp w) (hT : Lib.Utf8Tabs 0 1 w) :
    Calls Tryz.prog 9 #[.int .i64 r, .int .i64 c, v, .int .i64 n] w (Gives (.bool true) w) := by
  have hE : Env w := ⟨hT, hS⟩
  have HA := Lib.hid (show ∀ W, RawsAt W W.heap.size v zs → Calls Tryz.prog 13 #[.int .i64 r, .int .i64 c, v] W (HandsV (arrV (sideN r) (sideN c) (eltL zs (sideN r * sideN c).toNat)) W) from fun W h => arr13 hr0 hc0 h)
  have hAP : ∀ n, rightV (n + 1) (arrV (sideN r) (sideN c) (eltL zs (sideN r * sideN c).toNat)) = true := fun n => arrOf_right n r c zs
  have hRb := sideN_bd r
  have hCb := sideN_bd c
  obtain ⟨R, hR⟩ : ∃ R, sideN r = R := ⟨_, rfl⟩
  obtain ⟨C, hC⟩ : ∃ C, sideN c = C := ⟨_, rfl⟩
  obtain ⟨l, hl⟩ : ∃ l, eltL zs (sideN r * sideN c).toNat = l := ⟨_, rfl⟩
  rw [hl, hR, hC] at HA hAP
  rw [hR] at hRb
  rw [hC] at hCb
  have hlen : (l.length : Int) = R * C := (right_arr.1 (hAP 0)).1.2.2.2.2.2
  have hpl := (right_arr.1 (hAP 0)).2
  have hne : l ≠ [] := arr_ne (hAP 0)
  have hpos : 0 < l.length := List.length_pos_iff.2 hne
  have hRC : R * C ≤ 25 := by rw [← hR, ← hC]; exact (side_mul r c).2
  have hNo : rightV 1 (arrV (R + 1) C l) = false := by
    cases h : rightV 1 (arrV (R + 1) C l) with
    | false => rfl
    | true =>
      have := (right_arr.1 h).1.2.2.2.2.2
      rw [hlen, Int.add_mul] at this
      omega
  obtain ⟨far, hfar⟩ : ∃ f, pickI n 1000 = f := ⟨_, rfl⟩
  have hfb : 0 ≤ far ∧ far < 1000 := by rw [← hfar]; exact pickI_bd n (by decide)
  have HP := Lib.hid (show ∀ W, Calls Tryz.prog 24 #[.int .i64 n, .int .i64 1000] W (fun e w' => e = .returned (.int .i64 far) ∧ w' = W) from fun W => pick_at n 1000 far W hn0 (by decide) (by decide) (Lib.hid hfar))
  obtain ⟨y0, hy0⟩ : ∃ y, l[0]? = some y := ⟨_, List.getElem?_eq_getElem hpos⟩
  have hD0 : l.getD 0 {} = y0 := by rw [List.getD_eq_getElem?_getD, hy0]; rfl
  have hdn : getV 3 (arrV R C l) (R + far) 0 = if R = 1 then y0 else errV 7 := by rw [← hD0]; exact get_down (hAP 2) hfb.1
  have hal : getV 3 (arrV R C l) 0 (C + far) = if C = 1 then y0 else errV 7 := by rw [← hD0]; exact get_along (hAP 2) hfb.1
  have hy0p : plainV y0 = true := hpl y0 (List.mem_of_getElem? hy0)
  have HAP := Lib.hid hAP
  have HX : Hid (∃ r' c' l', arrV R C l = arrV r' c' l' ∧ rightV 3 (arrV r' c' l') = true) := Lib.hid ⟨_, _, _, rfl, hAP 2⟩
  have HNo := Lib.hid (And.intro hpl hNo)
  have HDn := Lib.hid (And.intro hdn hal)
  have HY0 := Lib.hid (And.intro hy0 hy0p)
  have hLen : l.length ≤ 25 := by omega
  have HLen := Lib.hid hlen
  clear hR hC hl hlen hpl hne hRC hNo hfar hy0 hD0 hdn hal hy0p hAP hS hT hr0 hc0 hn0
  have hB : Below w.heap.size w w := Below.refl _ w
  go_enter Tryz.func9, Tryz.ntmps9
  go_wp2_with fail
  refine (awk11 hE).mono ?_
  rintro e1 w1 ⟨rfl, hB1⟩
  have hE := hE.below hB1
  have hr := hr.at hB1 (Nat.le_trans (Nat.le_refl _) hB1.size)
  have hB := hB.trans (hB1.mono hB.size)
  clear hB1
  go_wp2_with fail
  refine (HA.out _ hr).mono ?_
  rintro e2 w2 ⟨Cv, rfl, hv, hB2⟩
  have hE := hE.below hB2
  have hr := hr.at hB2 (Nat.le_trans (Nat.le_refl _) hB2.size)
  have hB := hB.trans (hB2.mono hB.size)
  clear hB2 HA hr
  obtain ⟨g0, off, k, hCv, hel⟩ := hv.arr (HAP.out 2)
  have x6 : Cv[6]? = some (.int .i64 R) := by rw [hCv]; rfl
  have x7 : Cv[7]? = some (.int .i64 C) := by rw [hCv]; rfl
  have x8 : Cv[8]? = some (.slice (some ⟨g0, off, none⟩) l.length k) := by rw [hCv]; rfl
  have X6 := Lib.hid x6
  have X7 := Lib.hid x7
  have X8 := Lib.hid x8
  have MK := Lib.hid (show ∀ W, At (arrV R C l) Cv W → Env W → Calls Tryz.prog 19 #[.int .i64 R, .int .i64 C, .slice (some ⟨g0, off, none⟩) l.length k] W (fun e w' => ∃ C', e = .returned (.tuple #[.agg C', .int .i64 0]) ∧ At (arrV R C l) C' w' ∧ Below W.heap.size W w') from fun W hW he => makeA (by rw [← hCv]; exact hW) (HAP.out 0) he)
  have MN := Lib.hid (show ∀ W, At (arrV R C l) Cv W → Env W → Calls Tryz.prog 19 #[.int .i64 (R + 1), .int .i64 C, .slice (some ⟨g0, off, none⟩) l.length k] W (fun e w' => e = .returned (.tuple #[.agg (pcs {}), .int .i64 30]) ∧ Below W.heap.size W w') from fun W hW he => makeNo (by rw [← hCv]; exact hW) HNo.out.1 HNo.out.2 (by unfold i64R; omega) (by unfold i64R; omega) he)
  obtain ⟨x, hx⟩ : ∃ x, arrV R C l = x := ⟨_, rfl⟩
  rw [hx] at MK MN hv HX HDn
  have HAX := Lib.hid hx
  clear x6 x7 x8 hCv HNo hx
  obtain ⟨b10, hb10⟩ : ∃ b, b = w2.heap.size := ⟨_, rfl⟩
  go_wp2_with (first | refine wpList_alloc34 rfl rfl ?_ | (refine wpList_store34 rfl rfl rfl rfl (World.vb_new w2 vz) (by rfl) hv.one ?_; intro w3 hn10 hg3 hz3; have hB3 := vb_made hg3; have hE := hE.below hB3; have hv := hv.below hB3; have hel := hel.below hB3; have hB := hB.trans (hB3.mono hB.size); have c6 := hn10.cell X6.out; have c7 := hn10.cell X7.out; have c8 := hn10.cell X8.out))
  rw [← hb10] at hn10 ⊢
  clear hb10 hg3 hz3 hB3
  refine (MK.out _ hv hE).mono ?_
  rintro e4 w4 ⟨Cm, rfl, hm, hB4⟩
  have hE := hE.below hB4
  have hv := hv.below hB4
  have hel := hel.below hB4
  have hn10 := hn10.below hB4 hn10.lt
  have hB := hB.trans (hB4.mono hB.size)
  have c6 := hn10.cell X6.out; have c7 := hn10.cell X7.out; have c8 := hn10.cell X8.out
  clear hB4 MK
  obtain ⟨b11, hb11⟩ : ∃ b, b = w4.heap.size := ⟨_, rfl⟩
  go_wp2_with (first | refine wpList_alloc34 rfl rfl ?_ | (refine wpList_store34 rfl rfl rfl rfl (World.vb_new w4 vz) (by rfl) hm.one ?_; intro w5 hn11 hg5 hz5; have hB5 := vb_made hg5; have hE := hE.below hB5; have hv := hv.below hB5; have hel := hel.below hB5; have hm := hm.below hB5; have hn10 := hn10.below hB5 hn10.lt; have hB := hB.trans (hB5.mono hB.size); have c6 := hn10.cell X6.out; have c7 := hn10.cell X7.out; have c8 := hn10.cell X8.out) | refine wpList_load34g rfl rfl rfl hn11 hm.one.1 ?_ | refine wpList_load34g rfl rfl rfl hn10 hv.one.1 ?_)
  rw [← hb11] at hn11 ⊢
  clear hb11 hg5 hz5 hB5
  refine (same26 hm hv rfl).mono ?_
  rintro e6 w6 ⟨rfl, hB6⟩
  have hE := hE.below hB6
  have hv := hv.below hB6
  have hel := hel.below hB6
  have hm := hm.below hB6
  have hn10 := hn10.below hB6 hn10.lt
  have hn11 := hn11.below hB6 hn11.lt
  have hB := hB.trans (hB6.mono hB.size)
  have c6 := hn10.cell X6.out; have c7 := hn10.cell X7.out; have c8 := hn10.cell X8.out
  clear hB6
  go_wp2_with fail
  go_loopw [13] (fun i wr => ∃ K : Nat, K ≤ l.length ∧ i = .int .i64 (K : Int) ∧ Below w.heap.size w wr ∧ World.vb wr b10 Cv ∧ World.vb wr b11 Cm ∧ At x Cv wr ∧ At x Cm wr ∧ Env wr ∧ Els l g0 off wr) (fun i _ => l.length - (intOf i).toNat)
  case atStart => exact ⟨0, Nat.zero_le _, rfl, hB, hn10, hn11, hv, hm, hE, hel⟩
  case round =>
    clear c6 c7 c8 hB hn10 hn11 hv hm hE hel
    obtain ⟨K, hK, rfl, hB, hn10, hn11, hv, hm, hE, hel⟩ := hrel
    have c6 := hn10.cell X6.out
    have c7 := hn10.cell X7.out
    have c8 := hn10.cell X8.out
    by_cases hlt : K < l.length
    · have hKI : (K : Int) < (l.length : Int) := by omega
      obtain ⟨y, hy⟩ : ∃ y, l[K]? = some y := ⟨_, List.getElem?_eq_getElem hlt⟩
      have hyp : plainV y = true := by
        have := HAX.out
        have hh := (right_arr.1 (HAP.out 0)).2
        exact hh y (List.mem_of_getElem? hy)
      have hdx : (K : Int).tdiv C = (K : Int) / C := Int.tdiv_eq_ediv_of_nonneg (by omega)
      have hmx : (K : Int).tmod C = (K : Int) % C := Int.tmod_eq_emod_of_nonneg (by omega)
      have hd1 : 0 ≤ (K : Int) / C := Int.ediv_nonneg (by omega) (by omega)
      have hd2 : (K : Int) / C ≤ K := Int.ediv_le_self _ (by omega)
      have hm1 : 0 ≤ (K : Int) % C := Int.emod_nonneg _ (by omega)
      have hm2 : (K : Int) % C < C := Int.emod_lt_of_pos _ (by omega)
      have hget : getV 3 x ((K : Int) / C) ((K : Int) % C) = y := by
        rw [← HAX.out, get_made (HAP.out 2) hlt, List.getD_eq_getElem?_getD, hy]; rfl
      obtain ⟨dq, hdq⟩ : ∃ d, (K : Int) / C = d := ⟨_, rfl⟩
      obtain ⟨mq, hmq⟩ : ∃ d, (K : Int) % C = d := ⟨_, rfl⟩
      rw [hdq] at hdx hd1 hd2 hget
      rw [hmq] at hmx hm1 hm2 hget
      have hwd : IntKind.i64.wrap dq = dq := IntWalk.i64_in _ (by omega)
      have HG := Lib.hid hget
      have hCz : (C == 0) = false := by rw [beq_eq_false_iff_ne]; omega
      have hCn : ¬ C = 0 := by omega
      have hcell : ∀ W, Els l g0 off W → ∀ j u, (pcs y)[j]? = some u → W.cell? ⟨g0, off + K * 12 + j, none⟩ = some u := fun W h j u hj => h.2 K y hy j u hj
      have hYp := at_plain (w := wr) hyp
      have hY1 := pcs_one y
      obtain ⟨Y, hY⟩ : ∃ Y, pcs y = Y := ⟨_, rfl⟩
      have HYP := Lib.hid (show ∀ W, At y Y W from fun W => by rw [← hY]; exact at_plain hyp)
      rw [hY] at hcell hY1
      have HCL := Lib.hid hcell
      have HY1 := Lib.hid hY1
      have hd1 : 0 ≤ dq := hd1
      clear hget hdq hmq hy hyp hcell hYp hY1 hY hlt
      go_wp2_with fail
      refine wp_region_held_drew (S := (fun w9 => World.vb w9 b11 Cm ∧ w9.cell? ⟨b10, 7, none⟩ = some (.int .i64 C) ∧ w9.cell? ⟨b10, 8, none⟩ = some (.slice (some ⟨g0, off, none⟩) l.length k) ∧ ∀ j u, Y[j]? = some u → w9.cell? ⟨g0, off + K * 12 + j, none⟩ = some u)) (by kernel_rfl) ⟨hn11, c7, c8, HCL.out _ hel⟩ (fun hHeld => ?_)
      have hBd := World.drew_below wr
      have hE := hE.below hBd
      have hv := hv.below hBd
      have hel := hel.below hBd
      have hm := hm.below hBd
      have hn10 := hn10.below hBd hn10.lt
      have hn11 := hn11.below hBd hn11.lt
      have hB := hB.trans (hBd.mono hB.size)
      have c6 := hn10.cell X6.out; have c7 := hn10.cell X7.out; have c8 := hn10.cell X8.out
      clear hBd
      refine wpAnyH_take (i := 0) (oi := ⟨some 49, _, _, _, _, _⟩) (v := ?_) rfl (by kernel_rfl) (by kernel_rfl) (by kernel_rfl) (fun _ _ _ h => h) (Or.inl ⟨by rfl, ?_⟩) hHeld ?_
      rotate_left
      · (intro w9 hSw; refine yields34 (x := .tmp 11) (g := b11) (cs := Cm) ?_ ?_ hm.one.1 hSw.1 <;> rfl)
      try simp only [Act.put, List.setIfInBounds_toArray, List.set_cons_zero, List.set_cons_succ]
      refine wpAnyH_take (i := 1) (oi := ⟨some 50, _, _, _, _, _⟩) (v := ?_) rfl (by kernel_rfl) (by kernel_rfl) (by kernel_rfl) (fun _ _ _ h => h) (Or.inl ⟨by rfl, ?_⟩) hHeld ?_
      rotate_left
      · (intro w9 hSw; (try dsimp only at hSw); go_simp)
        all_goals with_reducible rfl
      try simp only [Act.put, List.setIfInBounds_toArray, List.set_cons_zero, List.set_cons_succ]
      refine wpAnyH_take (i := 2) (oi := ⟨some 51, _, _, _, _, _⟩) (v := ?_) rfl (by kernel_rfl) (by kernel_rfl) (by kernel_rfl) (fun _ _ _ h => h) (Or.inl ⟨by rfl, ?_⟩) hHeld ?_
      rotate_left
      · (intro w9 hSw; (try dsimp only at hSw); go_simp)
        all_goals with_reducible rfl
      try simp only [Act.put, List.setIfInBounds_toArray, List.set_cons_zero, List.set_cons_succ]
      refine wpAnyH_take (i := 3) (oi := ⟨some 52, _, _, _, _, _⟩) (v := ?_) rfl (by kernel_rfl) (by kernel_rfl) (by kernel_rfl) (fun _ _ _ h => h) (Or.inl ⟨by rfl, ?_⟩) hHeld ?_
      rotate_left
      · (intro w9 hSw; obtain ⟨hs1, hs2, hs3, hs4⟩ := hSw; clear hs1 hs4; go_simp)
        all_goals with_reducible rfl
      try simp only [Act.put, List.setIfInBounds_toArray, List.set_cons_zero, List.set_cons_succ]
      refine wpAnyH_take (i := 4) (oi := ⟨some 53, _, _, _, _, _⟩) (v := ?_) rfl (by kernel_rfl) (by kernel_rfl) (by kernel_rfl) (fun _ _ _ h => h) (Or.inl ⟨by rfl, ?_⟩) hHeld ?_
      rotate_left
      · (intro w9 hSw; (try dsimp only at hSw); go_simp)
        all_goals with_reducible rfl
      try simp only [Act.put, List.setIfInBounds_toArray, List.set_cons_zero, List.set_cons_succ]
      refine wpAnyH_take (i := 5) (oi := ⟨some 54, _, _, _, _, _⟩) (v := ?_) rfl (by kernel_rfl) (by kernel_rfl) (by kernel_rfl) (fun _ _ _ h => h) (Or.inl ⟨by rfl, ?_⟩) hHeld ?_
      rotate_left
      · (intro w9 hSw; (try dsimp only at hSw); go_simp)
        all_goals with_reducible rfl
      try simp only [Act.put, List.setIfInBounds_toArray, List.set_cons_zero, List.set_cons_succ]
      refine wpAnyH_take (i := 6) (oi := ⟨some 55, _, _, _, _, _⟩) (v := ?_) rfl (by kernel_rfl) (by kernel_rfl) (by kernel_rfl) (fun _ _ _ h => h) (Or.inl ⟨by rfl, ?_⟩) hHeld ?_
      rotate_left
      · (intro w9 hSw; (try dsimp only at hSw); go_simp)
        all_goals with_reducible rfl
      try simp only [Act.put, List.setIfInBounds_toArray, List.set_cons_zero, List.set_cons_succ]
      refine wpAnyH_take (i := 7) (oi := ⟨some 56, _, _, _, _, _⟩) (v := ?_) rfl (by kernel_rfl) (by kernel_rfl) (by kernel_rfl) (fun _ _ _ h => h) (Or.inl ⟨by rfl, ?_⟩) hHeld ?_
      rotate_left
      · (intro w9 hSw; obtain ⟨hs1, hs2, hs3, hs4⟩ := hSw; clear hs1 hs4; go_simp)
        all_goals with_reducible rfl
      try simp only [Act.put, List.setIfInBounds_toArray, List.set_cons_zero, List.set_cons_succ]
      refine wpAnyH_take (i := 8) (oi := ⟨some 57, _, _, _, _, _⟩) (v := ?_) rfl (by kernel_rfl) (by kernel_rfl) (by kernel_rfl) (fun _ _ _ h => h) (Or.inl ⟨by rfl, ?_⟩) hHeld ?_
      rotate_left
      · (intro w9 hSw; (try dsimp only at hSw); go_simp)
        all_goals with_reducible rfl
      try simp only [Act.put, List.setIfInBounds_toArray, List.set_cons_zero, List.set_cons_succ]
      refine wpAnyH_take (i := 10) (oi := ⟨some 59, _, _, _, _, _⟩) (v := ?_) rfl (by kernel_rfl) (by kernel_rfl) (by kernel_rfl) (fun _ _ _ h => h) (Or.inl ⟨by rfl, ?_⟩) hHeld ?_
      rotate_left
      · (intro w9 hSw; (try dsimp only at hSw); go_simp)
        all_goals with_reducible rfl
      try simp only [Act.put, List.setIfInBounds_toArray, List.set_cons_zero, List.set_cons_succ]
      refine wpAnyH_take (i := 11) (oi := ⟨some 60, _, _, _, _, _⟩) (v := ?_) rfl (by kernel_rfl) (by kernel_rfl) (by kernel_rfl) (fun _ _ _ h => h) (Or.inl ⟨by rfl, ?_⟩) hHeld ?_
      rotate_left
      · (intro w9 hSw; obtain ⟨hs1, hs2, hs3, hs4⟩ := hSw; clear hs1 hs4; go_simp)
        all_goals with_reducible rfl
      try simp only [Act.put, List.setIfInBounds_toArray, List.set_cons_zero, List.set_cons_succ]
      refine wpAnyH_take (i := 12) (oi := ⟨some 61, _, _, _, _, _⟩) (v := ?_) rfl (by kernel_rfl) (by kernel_rfl) (by kernel_rfl) (fun _ _ _ h => h) (Or.inl ⟨by rfl, ?_⟩) hHeld ?_
      rotate_left
      · (intro w9 hSw; (try dsimp only at hSw); go_simp)
        all_goals with_reducible rfl
      try simp only [Act.put, List.setIfInBounds_toArray, List.set_cons_zero, List.set_cons_succ]
      refine wpAnyH_take (i := 13) (oi := ⟨some 62, _, _, _, _, _⟩) (v := ?_) rfl (by kernel_rfl) (by kernel_rfl) (by kernel_rfl) (fun _ _ _ h => h) (Or.inl ⟨by rfl, ?_⟩) hHeld ?_
      rotate_left
      · (intro w9 hSw; (try dsimp only at hSw); go_simp)
        all_goals with_reducible rfl
      try simp only [Act.put, List.setIfInBounds_toArray, List.set_cons_zero, List.set_cons_succ]
      refine wpAnyH_take (i := 14) (oi := ⟨some 63, _, _, _, _, _⟩) (v := ?_) rfl (by kernel_rfl) (by kernel_rfl) (by kernel_rfl) (fun _ _ _ h => h) (Or.inl ⟨by rfl, ?_⟩) hHeld ?_
      rotate_left
      · (intro w9 hSw; refine yields34a (x := .tmp 62) (g := g0) (off := off + K * 12) (cs := Y) ?_ ?_ HY1.out.1 hSw.2.2.2 <;> rfl)
      try simp only [Act.put, List.setIfInBounds_toArray, List.set_cons_zero, List.set_cons_succ]
      refine wpAnyH_ready (rs := [9]) (by kernel_rfl) (by simp) ?_
      refine (AllReadyH.cons (o := ⟨some 58, _, _, _, _, _⟩) rfl (fun KK hK => ?_) AllReadyH.nil)
      go_simp
      refine (getA hm HX.out hE hd1 hm1).mono ?_
      rintro e7 w7 ⟨Cg, rfl, hg, hB7⟩
      rw [HG.out] at hg
      have hE := hE.below hB7
      have hv := hv.below hB7
      have hel := hel.below hB7
      have hm := hm.below hB7
      have hn10 := hn10.below hB7 hn10.lt
      have hn11 := hn11.below hB7 hn11.lt
      have hB := hB.trans (hB7.mono hB.size)
      have c6 := hn10.cell X6.out; have c7 := hn10.cell X7.out; have c8 := hn10.cell X8.out
      clear hB7
      refine hK.out _ _ ⟨hn11, c7, c8, HCL.out _ hel⟩ ?_
      clear hK KK hHeld
      intro hHeld
      try simp only [Act.put, List.setIfInBounds_toArray, List.set_cons_zero, List.set_cons_succ]
      refine wpAnyH_ready (rs := [15]) (by kernel_rfl) (by simp) ?_
      refine (AllReadyH.cons (o := ⟨some 64, _, _, _, _, _⟩) rfl (fun KK hK => ?_) AllReadyH.nil)
      go_simp
      refine (same26 hg (HYP.out _) rfl).mono ?_
      rintro e8 w8 ⟨rfl, hB8⟩
      clear hg
      have hE := hE.below hB8
      have hv := hv.below hB8
      have hel := hel.below hB8
      have hm := hm.below hB8
      have hn10 := hn10.below hB8 hn10.lt
      have hn11 := hn11.below hB8 hn11.lt
      have hB := hB.trans (hB8.mono hB.size)
      have c6 := hn10.cell X6.out; have c7 := hn10.cell X7.out; have c8 := hn10.cell X8.out
      clear hB8
      refine hK.out _ _ ⟨hn11, c7, c8, HCL.out _ hel⟩ ?_
      clear hK KK hHeld
      intro hHeld
      try simp only [Act.put, List.setIfInBounds_toArray, List.set_cons_zero, List.set_cons_succ]
      refine wpAnyH_take (i := 16) (oi := ⟨some 65, _, _, _, _, _⟩) (v := ?_) rfl (by kernel_rfl) (by kernel_rfl) (by kernel_rfl) (fun _ _ _ h => h) (Or.inl ⟨by rfl, ?_⟩) hHeld ?_
      rotate_left
      · (intro w9 hSw; (try dsimp only at hSw); go_simp)
        all_goals with_reducible rfl
      try simp only [Act.put, List.setIfInBounds_toArray, List.set_cons_zero, List.set_cons_succ]
      refine wpAnyH_done (by kernel_rfl) ?_ _
      try simp only [Act.put, List.setIfInBounds_toArray, List.set_cons_zero, List.set_cons_succ]
      go_wp2_with fail
      go_roundw
      case rel => exact ⟨K + 1, by omega, by go_num, hB, hn10, hn11, hv, hm, hE, hel⟩
      case measure => simp [intOf]; omega
    · obtain rfl : K = l.length := by omega
      have hKI : ¬ ((l.length : Int) < (l.length : Int)) := by omega
      go_wp2_with fail
      refine (HP.out _).mono ?_
      rintro e90 w90 ⟨rfl, rfl⟩
      go_wp2_with (refine wpList_load34 rfl rfl rfl hn11 hm.one.1 ?_)
      refine (getA hm HX.out hE (by omega) (by omega)).mono ?_
      rintro e9 w9 ⟨Ca, rfl, ha, hB9⟩
      have hE := hE.below hB9
      have hv := hv.below hB9
      have hm := hm.below hB9
      have hel := hel.below hB9
      have hn10 := hn10.below hB9 hn10.lt
      have hn11 := hn11.below hB9 hn11.lt
      have hB := hB.trans (hB9.mono hB.size)
      have c6 := hn10.cell X6.out; have c7 := hn10.cell X7.out; have c8 := hn10.cell X8.out
      clear hB9
      rw [HDn.out.1] at ha
      obtain ⟨b15, hb15⟩ : ∃ b, b = w9.heap.size := ⟨_, rfl⟩
      go_wp2_with (first | refine wpList_alloc34 rfl rfl ?_ | (refine wpList_store34 rfl rfl rfl rfl (World.vb_new w9 vz) (by rfl) ha.one ?_; intro w10 hn15 hg10 hz10; have hB10 := vb_made hg10; have hE := hE.below hB10; have hv := hv.below hB10; have hm := hm.below hB10; have hel := hel.below hB10; have ha := ha.below hB10; have hn10 := hn10.below hB10 hn10.lt; have hn11 := hn11.below hB10 hn11.lt; have hB := hB.trans (hB10.mono hB.size); have c6 := hn10.cell X6.out; have c7 := hn10.cell X7.out; have c8 := hn10.cell X8.out) | refine wpList_load34 rfl rfl rfl hn11 hm.one.1 ?_)
      rw [← hb15] at hn15 ⊢
      clear hb15 hg10 hz10 hB10
      refine (getA hm HX.out hE (by omega) (by omega)).mono ?_
      rintro e11 w11 ⟨Cb, rfl, hb, hB11⟩
      have hE := hE.below hB11
      have hv := hv.below hB11
      have hm := hm.below hB11
      have hel := hel.below hB11
      have ha := ha.below hB11
      have hn10 := hn10.below hB11 hn10.lt
      have hn11 := hn11.below hB11 hn11.lt
      have hn15 := hn15.below hB11 hn15.lt
      have hB := hB.trans (hB11.mono hB.size)
      have c6 := hn10.cell X6.out; have c7 := hn10.cell X7.out; have c8 := hn10.cell X8.out
      clear hB11
      rw [HDn.out.2] at hb
      obtain ⟨b16, hb16⟩ : ∃ b, b = w11.heap.size := ⟨_, rfl⟩
      go_wp2_with (first | refine wpList_alloc34 rfl rfl ?_ | (refine wpList_store34 rfl rfl rfl rfl (World.vb_new w11 vz) (by rfl) hb.one ?_; intro w12 hn16 hg12 hz12; have hB12 := vb_made hg12; have hE := hE.below hB12; have hv := hv.below hB12; have hm := hm.below hB12; have hel := hel.below hB12; have ha := ha.below hB12; have hb := hb.below hB12; have hn10 := hn10.below hB12 hn10.lt; have hn11 := hn11.below hB12 hn11.lt; have hn15 := hn15.below hB12 hn15.lt; have hB := hB.trans (hB12.mono hB.size); have c6 := hn10.cell X6.out; have c7 := hn10.cell X7.out; have c8 := hn10.cell X8.out))
      rw [← hb16] at hn16 ⊢
      clear hb16 hg12 hz12 hB12
      refine (MN.out _ hv hE).mono ?_
      rintro e13 w13 ⟨rfl, hB13⟩
      have hE := hE.below hB13
      have hv := hv.below hB13
      have hm := hm.below hB13
      have hel := hel.below hB13
      have ha := ha.below hB13
      have hb := hb.below hB13
      have hn10 := hn10.below hB13 hn10.lt
      have hn11 := hn11.below hB13 hn11.lt
      have hn15 := hn15.below hB13 hn15.lt
      have hn16 := hn16.below hB13 hn16.lt
      have hB := hB.trans (hB13.mono hB.size)
      have c6 := hn10.cell X6.out; have c7 := hn10.cell X7.out; have c8 := hn10.cell X8.out
      clear hB13 MN
      have hz : At {} (pcs {}) w13 := at_plain plain_zero
      obtain ⟨b17, hb17⟩ : ∃ b, b = w13.heap.size := ⟨_, rfl⟩
      go_wp2_with (first | refine wpList_alloc34 rfl rfl ?_ | (refine wpList_store34 rfl rfl rfl rfl (World.vb_new w13 vz) (by rfl) hz.one ?_; intro w14 hn17 hg14 hz14; have hB14 := vb_made hg14; have hE := hE.below hB14; have hv := hv.below hB14; have hm := hm.below hB14; have hel := hel.below hB14; have ha := ha.below hB14; have hb := hb.below hB14; have hz := hz.below hB14; have hn10 := hn10.below hB14 hn10.lt; have hn11 := hn11.below hB14 hn11.lt; have hn15 := hn15.below hB14 hn15.lt; have hn16 := hn16.below hB14 hn16.lt; have hB := hB.trans (hB14.mono hB.size); have c6 := hn10.cell X6.out; have c7 := hn10.cell X7.out; have c8 := hn10.cell X8.out))
      rw [← hb17] at hn17 ⊢
      clear hb17 hg14 hz14 hB14
      clear hz hn17 hm hn11
      have hY1 := pcs_one y0
      have hcell : ∀ W, Els l g0 off W → ∀ j u, (pcs y0)[j]? = some u → W.cell? ⟨g0, off + 0 * 12 + j, none⟩ = some u := fun W h j u hj => h.2 0 y0 HY0.out.1 j u hj
      obtain ⟨Y, hY⟩ : ∃ Y, pcs y0 = Y := ⟨_, rfl⟩
      have HYP := Lib.hid (show ∀ W, At y0 Y W from fun W => by rw [← hY]; exact at_plain HY0.out.2)
      rw [hY] at hcell hY1
      have HCL := Lib.hid hcell
      have HY1 := Lib.hid hY1
      clear hcell hY1 hY
      have hl0 : (0 : Int) < (l.length : Int) := by omega
      by_cases hR1 : R = 1
      · by_cases hC1 : C = 1
        · rw [if_pos hR1] at ha
          rw [if_pos hC1] at hb
          have fR : (R == 1) = true := beq_iff_eq.2 hR1
          have gR : ¬ 1 < R := by omega
          have fC : (C == 1) = true := beq_iff_eq.2 hC1
          have gC : ¬ 1 < C := by omega
          clear hR1 hC1
          have c8 := hn10.cell X8.out
          refine wp_region_held_drew (S := (fun w9 => World.vb w9 b15 Ca ∧ World.vb w9 b16 Cb ∧ w9.cell? ⟨b10, 6, none⟩ = some (.int .i64 R) ∧ w9.cell? ⟨b10, 7, none⟩ = some (.int .i64 C) ∧ w9.cell? ⟨b10, 8, none⟩ = some (.slice (some ⟨g0, off, none⟩) l.length k) ∧ ∀ j u, Y[j]? = some u → w9.cell? ⟨g0, off + 0 * 12 + j, none⟩ = some u)) (by kernel_rfl) ⟨hn15, hn16, c6, c7, c8, HCL.out _ hel⟩ (fun hHeld => ?_)
          have hBd := World.drew_below w14
          have hE := hE.below hBd
          have hv := hv.below hBd
          have ha := ha.below hBd
          have hb := hb.below hBd
          have hel := hel.below hBd
          have hn10 := hn10.below hBd hn10.lt
          have hn15 := hn15.below hBd hn15.lt
          have hn16 := hn16.below hBd hn16.lt
          have hB := hB.trans (hBd.mono hB.size)
          have c6 := hn10.cell X6.out; have c7 := hn10.cell X7.out
          have c8 := hn10.cell X8.out
          clear hBd
          refine wpAnyH_take (i := 0) (oi := ⟨some 91, _, _, _, _, _⟩) (v := ?_) rfl (by kernel_rfl) (by kernel_rfl) (by kernel_rfl) (fun _ _ _ h => h) (Or.inl ⟨by rfl, ?_⟩) hHeld ?_
          rotate_left
          · (intro w9 hSw; (try dsimp only at hSw); go_simp)
            all_goals with_reducible rfl
          try simp only [Act.put, List.setIfInBounds_toArray, List.set_cons_zero, List.set_cons_succ]
          refine wpAnyH_take (i := 1) (oi := ⟨some 92, _, _, _, _, _⟩) (v := ?_) rfl (by kernel_rfl) (by kernel_rfl) (by kernel_rfl) (fun _ _ _ h => h) (Or.inl ⟨by rfl, ?_⟩) hHeld ?_
          rotate_left
          · (intro w9 hSw; (try dsimp only at hSw); go_simp)
            all_goals with_reducible rfl
          try simp only [Act.put, List.setIfInBounds_toArray, List.set_cons_zero, List.set_cons_succ]
          refine wpAnyH_take (i := 2) (oi := ⟨some 93, _, _, _, _, _⟩) (v := ?_) rfl (by kernel_rfl) (by kernel_rfl) (by kernel_rfl) (fun _ _ _ h => h) (Or.inl ⟨by rfl, ?_⟩) hHeld ?_
          rotate_left
          · (intro w9 hSw; (try dsimp only at hSw); go_simp)
            all_goals with_reducible rfl
          try simp only [Act.put, List.setIfInBounds_toArray, List.set_cons_zero, List.set_cons_succ]
          refine wpAnyH_take (i := 3) (oi := ⟨some 94, _, _, _, _, _⟩) (v := ?_) rfl (by kernel_rfl) (by kernel_rfl) (by kernel_rfl) (fun _ _ _ h => h) (Or.inl ⟨by rfl, ?_⟩) hHeld ?_
          rotate_left
          · (intro w9 hSw; (try dsimp only at hSw); go_simp)
            all_goals with_reducible rfl
          try simp only [Act.put, List.setIfInBounds_toArray, List.set_cons_zero, List.set_cons_succ]
          refine wpAnyH_take (i := 4) (oi := ⟨some 95, _, _, _, _, _⟩) (v := ?_) rfl (by kernel_rfl) (by kernel_rfl) (by kernel_rfl) (fun _ _ _ h => h) (Or.inl ⟨by rfl, ?_⟩) hHeld ?_
          rotate_left
          · (intro w9 hSw; (try dsimp only at hSw); go_simp)
            all_goals with_reducible rfl
          try simp only [Act.put, List.setIfInBounds_toArray, List.set_cons_zero, List.set_cons_succ]
          refine wpAnyH_take (i := 5) (oi := ⟨some 96, _, _, _, _, _⟩) (v := ?_) rfl (by kernel_rfl) (by kernel_rfl) (by kernel_rfl) (fun _ _ _ h => h) (Or.inl ⟨by rfl, ?_⟩) hHeld ?_
          rotate_left
          · (intro w9 hSw; (try dsimp only at hSw); go_simp)
            all_goals with_reducible rfl
          try simp only [Act.put, List.setIfInBounds_toArray, List.set_cons_zero, List.set_cons_succ]
          refine wpAnyH_take (i := 6) (oi := ⟨some 97, _, _, _, _, _⟩) (v := ?_) rfl (by kernel_rfl) (by kernel_rfl) (by kernel_rfl) (fun _ _ _ h => h) (Or.inl ⟨by rfl, ?_⟩) hHeld ?_
          rotate_left
          · (intro w9 hSw; (try dsimp only at hSw); go_simp)
            all_goals with_reducible rfl
          try simp only [Act.put, List.setIfInBounds_toArray, List.set_cons_zero, List.set_cons_succ]
          refine wpAnyH_take (i := 7) (oi := ⟨some 98, _, _, _, _, _⟩) (v := ?_) rfl (by kernel_rfl) (by kernel_rfl) (by kernel_rfl) (fun _ _ _ h => h) (Or.inl ⟨by rfl, ?_⟩) hHeld ?_
          rotate_left
          · (intro w9 hSw; obtain ⟨hs0, hs1, hs2, hs3, hs4, hs5⟩ := hSw; clear hs0 hs1 hs5; go_simp)
            all_goals with_reducible rfl
          try simp only [Act.put, List.setIfInBounds_toArray, List.set_cons_zero, List.set_cons_succ]
          refine wpAnyH_take (i := 8) (oi := ⟨some 99, _, _, _, _, _⟩) (v := ?_) rfl (by kernel_rfl) (by kernel_rfl) (by kernel_rfl) (fun _ _ _ h => h) (Or.inl ⟨by rfl, ?_⟩) hHeld ?_
          rotate_left
          · (intro w9 hSw; (try dsimp only at hSw); go_simp)
            all_goals with_reducible rfl
          try simp only [Act.put, List.setIfInBounds_toArray, List.set_cons_zero, List.set_cons_succ]
          refine wpAnyH_take (i := 9) (oi := ⟨some 100, _, _, _, _, _⟩) (v := ?_) rfl (by kernel_rfl) (by kernel_rfl) (by kernel_rfl) (fun _ _ _ h => h) (Or.inl ⟨by rfl, ?_⟩) hHeld ?_
          rotate_left
          · (intro w9 hSw; (try dsimp only at hSw); go_simp)
            all_goals with_reducible rfl
          try simp only [Act.put, List.setIfInBounds_toArray, List.set_cons_zero, List.set_cons_succ]
          refine wpAnyH_take (i := 10) (oi := ⟨some 101, _, _, _, _, _⟩) (v := ?_) rfl (by kernel_rfl) (by kernel_rfl) (by kernel_rfl) (fun _ _ _ h => h) (Or.inl ⟨by rfl, ?_⟩) hHeld ?_
          rotate_left
          · (intro w9 hSw; refine yields34 (x := .tmp 15) (g := b15) (cs := Ca) ?_ ?_ ha.one.1 hSw.1 <;> rfl)
          try simp only [Act.put, List.setIfInBounds_toArray, List.set_cons_zero, List.set_cons_succ]
          refine wpAnyH_take (i := 11) (oi := ⟨some 102, _, _, _, _, _⟩) (v := ?_) rfl (by kernel_rfl) (by kernel_rfl) (by kernel_rfl) (fun _ _ _ h => h) (Or.inl ⟨by rfl, ?_⟩) hHeld ?_
          rotate_left
          · (intro w9 hSw; (try dsimp only at hSw); go_simp)
            all_goals with_reducible rfl
          try simp only [Act.put, List.setIfInBounds_toArray, List.set_cons_zero, List.set_cons_succ]
          refine wpAnyH_take (i := 12) (oi := ⟨some 103, _, _, _, _, _⟩) (v := ?_) rfl (by kernel_rfl) (by kernel_rfl) (by kernel_rfl) (fun _ _ _ h => h) (Or.inl ⟨by rfl, ?_⟩) hHeld ?_
          rotate_left
          · (intro w9 hSw; obtain ⟨hs0, hs1, hs2, hs3, hs4, hs5⟩ := hSw; clear hs0 hs1 hs5; go_simp)
            all_goals with_reducible rfl
          try simp only [Act.put, List.setIfInBounds_toArray, List.set_cons_zero, List.set_cons_succ]
          refine wpAnyH_take (i := 13) (oi := ⟨some 104, _, _, _, _, _⟩) (v := ?_) rfl (by kernel_rfl) (by kernel_rfl) (by kernel_rfl) (fun _ _ _ h => h) (Or.inl ⟨by rfl, ?_⟩) hHeld ?_
          rotate_left
          · (intro w9 hSw; (try dsimp only at hSw); go_simp)
            all_goals with_reducible rfl
          try simp only [Act.put, List.setIfInBounds_toArray, List.set_cons_zero, List.set_cons_succ]
          refine wpAnyH_take (i := 14) (oi := ⟨some 105, _, _, _, _, _⟩) (v := ?_) rfl (by kernel_rfl) (by kernel_rfl) (by kernel_rfl) (fun _ _ _ h => h) (Or.inl ⟨by rfl, ?_⟩) hHeld ?_
          rotate_left
          · (intro w9 hSw; refine yields34a (x := .tmp 104) (g := g0) (off := off + 0 * 12) (cs := Y) ?_ ?_ HY1.out.1 hSw.2.2.2.2.2 <;> rfl)
          try simp only [Act.put, List.setIfInBounds_toArray, List.set_cons_zero, List.set_cons_succ]
          refine wpAnyH_ready (rs := [15]) (by kernel_rfl) (by simp) ?_
          refine (AllReadyH.cons (o := ⟨some 106, _, _, _, _, _⟩) rfl (fun KK hK => ?_) AllReadyH.nil)
          rw [if_pos (by rfl)]
          go_simp
          refine (same26 ha (HYP.out _) rfl).mono ?_
          rintro e15 w15 ⟨rfl, hB15⟩
          have hE := hE.below hB15
          have hv := hv.below hB15
          have ha := ha.below hB15
          have hb := hb.below hB15
          have hel := hel.below hB15
          have hn10 := hn10.below hB15 hn10.lt
          have hn15 := hn15.below hB15 hn15.lt
          have hn16 := hn16.below hB15 hn16.lt
          have hB := hB.trans (hB15.mono hB.size)
          have c6 := hn10.cell X6.out; have c7 := hn10.cell X7.out
          have c8 := hn10.cell X8.out
          clear hB15
          refine hK.out _ _ ⟨hn15, hn16, c6, c7, c8, HCL.out _ hel⟩ ?_
          clear hK KK hHeld
          intro hHeld
          try simp only [Act.put, List.setIfInBounds_toArray, List.set_cons_zero, List.set_cons_succ]
          refine wpAnyH_take (i := 16) (oi := ⟨some 107, _, _, _, _, _⟩) (v := ?_) rfl (by kernel_rfl) (by kernel_rfl) (by kernel_rfl) (fun _ _ _ h => h) (Or.inl ⟨by rfl, ?_⟩) hHeld ?_
          rotate_left
          · (intro w9 hSw; (try dsimp only at hSw); go_simp)
            all_goals with_reducible rfl
          try simp only [Act.put, List.setIfInBounds_toArray, List.set_cons_zero, List.set_cons_succ]
          refine wpAnyH_take (i := 17) (oi := ⟨some 108, _, _, _, _, _⟩) (v := ?_) rfl (by kernel_rfl) (by kernel_rfl) (by kernel_rfl) (fun _ _ _ h => h) (Or.inl ⟨by rfl, ?_⟩) hHeld ?_
          rotate_left
          · (intro w9 hSw; (try dsimp only at hSw); go_simp)
            all_goals with_reducible rfl
          try simp only [Act.put, List.setIfInBounds_toArray, List.set_cons_zero, List.set_cons_succ]
          refine wpAnyH_take (i := 18) (oi := ⟨some 109, _, _, _, _, _⟩) (v := undef) rfl (by kernel_rfl) (by kernel_rfl) (by kernel_rfl) (fun _ _ _ h => h) (Or.inr ⟨by rfl, rfl⟩) hHeld ?_
          try simp only [Act.put, List.setIfInBounds_toArray, List.set_cons_zero, List.set_cons_succ]
          refine wpAnyH_take (i := 19) (oi := ⟨some 110, _, _, _, _, _⟩) (v := undef) rfl (by kernel_rfl) (by kernel_rfl) (by kernel_rfl) (fun _ _ _ h => h) (Or.inr ⟨by rfl, rfl⟩) hHeld ?_
          try simp only [Act.put, List.setIfInBounds_toArray, List.set_cons_zero, List.set_cons_succ]
          refine wpAnyH_take (i := 20) (oi := ⟨some 111, _, _, _, _, _⟩) (v := undef) rfl (by kernel_rfl) (by kernel_rfl) (by kernel_rfl) (fun _ _ _ h => h) (Or.inr ⟨by rfl, rfl⟩) hHeld ?_
          try simp only [Act.put, List.setIfInBounds_toArray, List.set_cons_zero, List.set_cons_succ]
          refine wpAnyH_take (i := 21) (oi := ⟨some 112, _, _, _, _, _⟩) (v := undef) rfl (by kernel_rfl) (by kernel_rfl) (by kernel_rfl) (fun _ _ _ h => h) (Or.inr ⟨by rfl, rfl⟩) hHeld ?_
          try simp only [Act.put, List.setIfInBounds_toArray, List.set_cons_zero, List.set_cons_succ]
          refine wpAnyH_take (i := 22) (oi := ⟨some 113, _, _, _, _, _⟩) (v := undef) rfl (by kernel_rfl) (by kernel_rfl) (by kernel_rfl) (fun _ _ _ h => h) (Or.inr ⟨by rfl, rfl⟩) hHeld ?_
          try simp only [Act.put, List.setIfInBounds_toArray, List.set_cons_zero, List.set_cons_succ]
          refine wpAnyH_take (i := 23) (oi := ⟨some 114, _, _, _, _, _⟩) (v := undef) rfl (by kernel_rfl) (by kernel_rfl) (by kernel_rfl) (fun _ _ _ h => h) (Or.inr ⟨by rfl, rfl⟩) hHeld ?_
          try simp only [Act.put, List.setIfInBounds_toArray, List.set_cons_zero, List.set_cons_succ]
          refine wpAnyH_take (i := 24) (oi := ⟨some 115, _, _, _, _, _⟩) (v := undef) rfl (by kernel_rfl) (by kernel_rfl) (by kernel_rfl) (fun _ _ _ h => h) (Or.inr ⟨by rfl, rfl⟩) hHeld ?_
          try simp only [Act.put, List.setIfInBounds_toArray, List.set_cons_zero, List.set_cons_succ]
          refine wpAnyH_take (i := 25) (oi := ⟨some 116, _, _, _, _, _⟩) (v := undef) rfl (by kernel_rfl) (by kernel_rfl) (by kernel_rfl) (fun _ _ _ h => h) (Or.inr ⟨by rfl, rfl⟩) hHeld ?_
          try simp only [Act.put, List.setIfInBounds_toArray, List.set_cons_zero, List.set_cons_succ]
          refine wpAnyH_take (i := 26) (oi := ⟨some 117, _, _, _, _, _⟩) (v := ?_) rfl (by kernel_rfl) (by kernel_rfl) (by kernel_rfl) (fun _ _ _ h => h) (Or.inl ⟨by rfl, ?_⟩) hHeld ?_
          rotate_left
          · (intro w9 hSw; (try dsimp only at hSw); go_simp)
            all_goals with_reducible rfl
          try simp only [Act.put, List.setIfInBounds_toArray, List.set_cons_zero, List.set_cons_succ]
          refine wpAnyH_take (i := 27) (oi := ⟨some 118, _, _, _, _, _⟩) (v := ?_) rfl (by kernel_rfl) (by kernel_rfl) (by kernel_rfl) (fun _ _ _ h => h) (Or.inl ⟨by rfl, ?_⟩) hHeld ?_
          rotate_left
          · (intro w9 hSw; (try dsimp only at hSw); go_simp)
            all_goals with_reducible rfl
          try simp only [Act.put, List.setIfInBounds_toArray, List.set_cons_zero, List.set_cons_succ]
          refine wpAnyH_take (i := 28) (oi := ⟨some 119, _, _, _, _, _⟩) (v := ?_) rfl (by kernel_rfl) (by kernel_rfl) (by kernel_rfl) (fun _ _ _ h => h) (Or.inl ⟨by rfl, ?_⟩) hHeld ?_
          rotate_left
          · (intro w9 hSw; (try dsimp only at hSw); go_simp)
            all_goals with_reducible rfl
          try simp only [Act.put, List.setIfInBounds_toArray, List.set_cons_zero, List.set_cons_succ]
          refine wpAnyH_take (i := 29) (oi := ⟨some 120, _, _, _, _, _⟩) (v := ?_) rfl (by kernel_rfl) (by kernel_rfl) (by kernel_rfl) (fun _ _ _ h => h) (Or.inl ⟨by rfl, ?_⟩) hHeld ?_
          rotate_left
          · (intro w9 hSw; (try dsimp only at hSw); go_simp)
            all_goals with_reducible rfl
          try simp only [Act.put, List.setIfInBounds_toArray, List.set_cons_zero, List.set_cons_succ]
          refine wpAnyH_take (i := 30) (oi := ⟨some 121, _, _, _, _, _⟩) (v := ?_) rfl (by kernel_rfl) (by kernel_rfl) (by kernel_rfl) (fun _ _ _ h => h) (Or.inl ⟨by rfl, ?_⟩) hHeld ?_
          rotate_left
          · (intro w9 hSw; obtain ⟨hs0, hs1, hs2, hs3, hs4, hs5⟩ := hSw; clear hs0 hs1 hs5; go_simp)
            all_goals with_reducible rfl
          try simp only [Act.put, List.setIfInBounds_toArray, List.set_cons_zero, List.set_cons_succ]
          refine wpAnyH_take (i := 31) (oi := ⟨some 122, _, _, _, _, _⟩) (v := ?_) rfl (by kernel_rfl) (by kernel_rfl) (by kernel_rfl) (fun _ _ _ h => h) (Or.inl ⟨by rfl, ?_⟩) hHeld ?_
          rotate_left
          · (intro w9 hSw; (try dsimp only at hSw); go_simp)
            all_goals with_reducible rfl
          try simp only [Act.put, List.setIfInBounds_toArray, List.set_cons_zero, List.set_cons_succ]
          refine wpAnyH_take (i := 32) (oi := ⟨some 123, _, _, _, _, _⟩) (v := ?_) rfl (by kernel_rfl) (by kernel_rfl) (by kernel_rfl) (fun _ _ _ h => h) (Or.inl ⟨by rfl, ?_⟩) hHeld ?_
          rotate_left
          · (intro w9 hSw; (try dsimp only at hSw); go_simp)
            all_goals with_reducible rfl
          try simp only [Act.put, List.setIfInBounds_toArray, List.set_cons_zero, List.set_cons_succ]
          refine wpAnyH_take (i := 33) (oi := ⟨some 124, _, _, _, _, _⟩) (v := ?_) rfl (by kernel_rfl) (by kernel_rfl) (by kernel_rfl) (fun _ _ _ h => h) (Or.inl ⟨by rfl, ?_⟩) hHeld ?_
          rotate_left
          · (intro w9 hSw; refine yields34 (x := .tmp 16) (g := b16) (cs := Cb) ?_ ?_ hb.one.1 hSw.2.1 <;> rfl)
          try simp only [Act.put, List.setIfInBounds_toArray, List.set_cons_zero, List.set_cons_succ]
          refine wpAnyH_take (i := 34) (oi := ⟨some 125, _, _, _, _, _⟩) (v := ?_) rfl (by kernel_rfl) (by kernel_rfl) (by kernel_rfl) (fun _ _ _ h => h) (Or.inl ⟨by rfl, ?_⟩) hHeld ?_
          rotate_left
          · (intro w9 hSw; (try dsimp only at hSw); go_simp)
            all_goals with_reducible rfl
          try simp only [Act.put, List.setIfInBounds_toArray, List.set_cons_zero, List.set_cons_succ]
          refine wpAnyH_take (i := 35) (oi := ⟨some 126, _, _, _, _, _⟩) (v := ?_) rfl (by kernel_rfl) (by kernel_rfl) (by kernel_rfl) (fun _ _ _ h => h) (Or.inl ⟨by rfl, ?_⟩) hHeld ?_
          rotate_left
          · (intro w9 hSw; obtain ⟨hs0, hs1, hs2, hs3, hs4, hs5⟩ := hSw; clear hs0 hs1 hs5; go_simp)
            all_goals with_reducible rfl
          try simp only [Act.put, List.setIfInBounds_toArray, List.set_cons_zero, List.set_cons_succ]
          refine wpAnyH_take (i := 36) (oi := ⟨some 127, _, _, _, _, _⟩) (v := ?_) rfl (by kernel_rfl) (by kernel_rfl) (by kernel_rfl) (fun _ _ _ h => h) (Or.inl ⟨by rfl, ?_⟩) hHeld ?_
          rotate_left
          · (intro w9 hSw; (try dsimp only at hSw); go_simp)
            all_goals with_reducible rfl
          try simp only [Act.put, List.setIfInBounds_toArray, List.set_cons_zero, List.set_cons_succ]
          refine wpAnyH_take (i := 37) (oi := ⟨some 128, _, _, _, _, _⟩) (v := ?_) rfl (by kernel_rfl) (by kernel_rfl) (by kernel_rfl) (fun _ _ _ h => h) (Or.inl ⟨by rfl, ?_⟩) hHeld ?_
          rotate_left
          · (intro w9 hSw; refine yields34a (x := .tmp 127) (g := g0) (off := off + 0 * 12) (cs := Y) ?_ ?_ HY1.out.1 hSw.2.2.2.2.2 <;> rfl)
          try simp only [Act.put, List.setIfInBounds_toArray, List.set_cons_zero, List.set_cons_succ]
          refine wpAnyH_ready (rs := [38]) (by kernel_rfl) (by simp) ?_
          refine (AllReadyH.cons (o := ⟨some 129, _, _, _, _, _⟩) rfl (fun KK hK => ?_) AllReadyH.nil)
          rw [if_pos (by rfl)]
          go_simp
          refine (same26 hb (HYP.out _) rfl).mono ?_
          rintro e16 w16 ⟨rfl, hB16⟩
          have hE := hE.below hB16
          have hv := hv.below hB16
          have ha := ha.below hB16
          have hb := hb.below hB16
          have hel := hel.below hB16
          have hn10 := hn10.below hB16 hn10.lt
          have hn15 := hn15.below hB16 hn15.lt
          have hn16 := hn16.below hB16 hn16.lt
          have hB := hB.trans (hB16.mono hB.size)
          have c6 := hn10.cell X6.out; have c7 := hn10.cell X7.out
          have c8 := hn10.cell X8.out
          clear hB16
          refine hK.out _ _ ⟨hn15, hn16, c6, c7, c8, HCL.out _ hel⟩ ?_
          clear hK KK hHeld
          intro hHeld
          try simp only [Act.put, List.setIfInBounds_toArray, List.set_cons_zero, List.set_cons_succ]
          refine wpAnyH_take (i := 39) (oi := ⟨some 130, _, _, _, _, _⟩) (v := ?_) rfl (by kernel_rfl) (by kernel_rfl) (by kernel_rfl) (fun _ _ _ h => h) (Or.inl ⟨by rfl, ?_⟩) hHeld ?_
          rotate_left
          · (intro w9 hSw; (try dsimp only at hSw); go_simp)
            all_goals with_reducible rfl
          try simp only [Act.put, List.setIfInBounds_toArray, List.set_cons_zero, List.set_cons_succ]
          refine wpAnyH_take (i := 40) (oi := ⟨some 131, _, _, _, _, _⟩) (v := ?_) rfl (by kernel_rfl) (by kernel_rfl) (by kernel_rfl) (fun _ _ _ h => h) (Or.inl ⟨by rfl, ?_⟩) hHeld ?_
          rotate_left
          · (intro w9 hSw; (try dsimp only at hSw); go_simp)
            all_goals with_reducible rfl
          try simp only [Act.put, List.setIfInBounds_toArray, List.set_cons_zero, List.set_cons_succ]
          refine wpAnyH_take (i := 41) (oi := ⟨some 132, _, _, _, _, _⟩) (v := undef) rfl (by kernel_rfl) (by kernel_rfl) (by kernel_rfl) (fun _ _ _ h => h) (Or.inr ⟨by rfl, rfl⟩) hHeld ?_
          try simp only [Act.put, List.setIfInBounds_toArray, List.set_cons_zero, List.set_cons_succ]
          refine wpAnyH_take (i := 42) (oi := ⟨some 133, _, _, _, _, _⟩) (v := undef) rfl (by kernel_rfl) (by kernel_rfl) (by kernel_rfl) (fun _ _ _ h => h) (Or.inr ⟨by rfl, rfl⟩) hHeld ?_
          try simp only [Act.put, List.setIfInBounds_toArray, List.set_cons_zero, List.set_cons_succ]
          refine wpAnyH_take (i := 43) (oi := ⟨some 134, _, _, _, _, _⟩) (v := undef) rfl (by kernel_rfl) (by kernel_rfl) (by kernel_rfl) (fun _ _ _ h => h) (Or.inr ⟨by rfl, rfl⟩) hHeld ?_
          try simp only [Act.put, List.setIfInBounds_toArray, List.set_cons_zero, List.set_cons_succ]
          refine wpAnyH_take (i := 44) (oi := ⟨some 135, _, _, _, _, _⟩) (v := undef) rfl (by kernel_rfl) (by kernel_rfl) (by kernel_rfl) (fun _ _ _ h => h) (Or.inr ⟨by rfl, rfl⟩) hHeld ?_
          try simp only [Act.put, List.setIfInBounds_toArray, List.set_cons_zero, List.set_cons_succ]
          refine wpAnyH_take (i := 45) (oi := ⟨some 136, _, _, _, _, _⟩) (v := undef) rfl (by kernel_rfl) (by kernel_rfl) (by kernel_rfl) (fun _ _ _ h => h) (Or.inr ⟨by rfl, rfl⟩) hHeld ?_
          try simp only [Act.put, List.setIfInBounds_toArray, List.set_cons_zero, List.set_cons_succ]
          refine wpAnyH_take (i := 46) (oi := ⟨some 137, _, _, _, _, _⟩) (v := undef) rfl (by kernel_rfl) (by kernel_rfl) (by kernel_rfl) (fun _ _ _ h => h) (Or.inr ⟨by rfl, rfl⟩) hHeld ?_
          try simp only [Act.put, List.setIfInBounds_toArray, List.set_cons_zero, List.set_cons_succ]
          refine wpAnyH_take (i := 47) (oi := ⟨some 138, _, _, _, _, _⟩) (v := undef) rfl (by kernel_rfl) (by kernel_rfl) (by kernel_rfl) (fun _ _ _ h => h) (Or.inr ⟨by rfl, rfl⟩) hHeld ?_
          try simp only [Act.put, List.setIfInBounds_toArray, List.set_cons_zero, List.set_cons_succ]
          refine wpAnyH_take (i := 48) (oi := ⟨some 139, _, _, _, _, _⟩) (v := undef) rfl (by kernel_rfl) (by kernel_rfl) (by kernel_rfl) (fun _ _ _ h => h) (Or.inr ⟨by rfl, rfl⟩) hHeld ?_
          try simp only [Act.put, List.setIfInBounds_toArray, List.set_cons_zero, List.set_cons_succ]
          refine wpAnyH_take (i := 49) (oi := ⟨some 140, _, _, _, _, _⟩) (v := ?_) rfl (by kernel_rfl) (by kernel_rfl) (by kernel_rfl) (fun _ _ _ h => h) (Or.inl ⟨by rfl, ?_⟩) hHeld ?_
          rotate_left
          · (intro w9 hSw; (try dsimp only at hSw); go_simp)
            all_goals with_reducible rfl
          try simp only [Act.put, List.setIfInBounds_toArray, List.set_cons_zero, List.set_cons_succ]
          refine wpAnyH_take (i := 50) (oi := ⟨some 141, _, _, _, _, _⟩) (v := ?_) rfl (by kernel_rfl) (by kernel_rfl) (by kernel_rfl) (fun _ _ _ h => h) (Or.inl ⟨by rfl, ?_⟩) hHeld ?_
          rotate_left
          · (intro w9 hSw; (try dsimp only at hSw); go_simp)
            all_goals with_reducible rfl
          try simp only [Act.put, List.setIfInBounds_toArray, List.set_cons_zero, List.set_cons_succ]
          refine wpAnyH_take (i := 51) (oi := ⟨some 8, _, _, _, _, _⟩) (v := ?_) rfl (by kernel_rfl) (by kernel_rfl) (by kernel_rfl) (fun _ _ _ h => h) (Or.inl ⟨by rfl, ?_⟩) hHeld ?_
          rotate_left
          · (intro w9 hSw; (try dsimp only at hSw); go_simp)
            all_goals with_reducible rfl
          try simp only [Act.put, List.setIfInBounds_toArray, List.set_cons_zero, List.set_cons_succ]
          refine wpAnyH_done (by kernel_rfl) ?_ _
          try simp only [Act.put, List.setIfInBounds_toArray, List.set_cons_zero, List.set_cons_succ]
          go_wp2_with fail
          go_ret
          refine ⟨?_, hB⟩
          rfl
        · rw [if_pos hR1] at ha
          rw [if_neg hC1] at hb
          have fR : (R == 1) = true := beq_iff_eq.2 hR1
          have gR : ¬ 1 < R := by omega
          have fC : (C == 1) = false := beq_eq_false_iff_ne.2 hC1
          have gC : 1 < C := by omega
          have XB : Hid (Cb[5]? = some (.int .i64 7)) := by
            have := plain_cells hb.1 (plain_err (by decide) (by decide))
            injection this with this
            rw [this]; exact Lib.hid rfl
          have cb := hn16.cell XB.out
          clear hR1 hC1
          have c8 := hn10.cell X8.out
          refine wp_region_held_drew (S := (fun w9 => World.vb w9 b15 Ca ∧ World.vb w9 b16 Cb ∧ w9.cell? ⟨b10, 6, none⟩ = some (.int .i64 R) ∧ w9.cell? ⟨b10, 7, none⟩ = some (.int .i64 C) ∧ w9.cell? ⟨b10, 8, none⟩ = some (.slice (some ⟨g0, off, none⟩) l.length k) ∧ w9.cell? ⟨b16, 5, none⟩ = some (.int .i64 7) ∧ ∀ j u, Y[j]? = some u → w9.cell? ⟨g0, off + 0 * 12 + j, none⟩ = some u)) (by kernel_rfl) ⟨hn15, hn16, c6, c7, c8, cb, HCL.out _ hel⟩ (fun hHeld => ?_)
          have hBd := World.drew_below w14
          have hE := hE.below hBd
          have hv := hv.below hBd
          have ha := ha.below hBd
          have hb := hb.below hBd
          have hel := hel.below hBd
          have hn10 := hn10.below hBd hn10.lt
          have hn15 := hn15.below hBd hn15.lt
          have hn16 := hn16.below hBd hn16.lt
          have hB := hB.trans (hBd.mono hB.size)
          have c6 := hn10.cell X6.out; have c7 := hn10.cell X7.out; have cb := hn16.cell XB.out
          have c8 := hn10.cell X8.out
          clear hBd
          refine wpAnyH_take (i := 0) (oi := ⟨some 91, _, _, _, _, _⟩) (v := ?_) rfl (by kernel_rfl) (by kernel_rfl) (by kernel_rfl) (fun _ _ _ h => h) (Or.inl ⟨by rfl, ?_⟩) hHeld ?_
          rotate_left
          · (intro w9 hSw; (try dsimp only at hSw); go_simp)
            all_goals with_reducible rfl
          try simp only [Act.put, List.setIfInBounds_toArray, List.set_cons_zero, List.set_cons_succ]
          refine wpAnyH_take (i := 1) (oi := ⟨some 92, _, _, _, _, _⟩) (v := ?_) rfl (by kernel_rfl) (by kernel_rfl) (by kernel_rfl) (fun _ _ _ h => h) (Or.inl ⟨by rfl, ?_⟩) hHeld ?_
          rotate_left
          · (intro w9 hSw; (try dsimp only at hSw); go_simp)
            all_goals with_reducible rfl
          try simp only [Act.put, List.setIfInBounds_toArray, List.set_cons_zero, List.set_cons_succ]
          refine wpAnyH_take (i := 2) (oi := ⟨some 93, _, _, _, _, _⟩) (v := ?_) rfl (by kernel_rfl) (by kernel_rfl) (by kernel_rfl) (fun _ _ _ h => h) (Or.inl ⟨by rfl, ?_⟩) hHeld ?_
          rotate_left
          · (intro w9 hSw; (try dsimp only at hSw); go_simp)
            all_goals with_reducible rfl
          try simp only [Act.put, List.setIfInBounds_toArray, List.set_cons_zero, List.set_cons_succ]
          refine wpAnyH_take (i := 3) (oi := ⟨some 94, _, _, _, _, _⟩) (v := ?_) rfl (by kernel_rfl) (by kernel_rfl) (by kernel_rfl) (fun _ _ _ h => h) (Or.inl ⟨by rfl, ?_⟩) hHeld ?_
          rotate_left
          · (intro w9 hSw; (try dsimp only at hSw); go_simp)
            all_goals with_reducible rfl
          try simp only [Act.put, List.setIfInBounds_toArray, List.set_cons_zero, List.set_cons_succ]
          refine wpAnyH_take (i := 4) (oi := ⟨some 95, _, _, _, _, _⟩) (v := ?_) rfl (by kernel_rfl) (by kernel_rfl) (by kernel_rfl) (fun _ _ _ h => h) (Or.inl ⟨by rfl, ?_⟩) hHeld ?_
          rotate_left
          · (intro w9 hSw; (try dsimp only at hSw); go_simp)
            all_goals with_reducible rfl
          try simp only [Act.put, List.setIfInBounds_toArray, List.set_cons_zero, List.set_cons_succ]
          refine wpAnyH_take (i := 5) (oi := ⟨some 96, _, _, _, _, _⟩) (v := ?_) rfl (by kernel_rfl) (by kernel_rfl) (by kernel_rfl) (fun _ _ _ h => h) (Or.inl ⟨by rfl, ?_⟩) hHeld ?_
          rotate_left
          · (intro w9 hSw; (try dsimp only at hSw); go_simp)
            all_goals with_reducible rfl
          try simp only [Act.put, List.setIfInBounds_toArray, List.set_cons_zero, List.set_cons_succ]
          refine wpAnyH_take (i := 6) (oi := ⟨some 97, _, _, _, _, _⟩) (v := ?_) rfl (by kernel_rfl) (by kernel_rfl) (by kernel_rfl) (fun _ _ _ h => h) (Or.inl ⟨by rfl, ?_⟩) hHeld ?_
          rotate_left
          · (intro w9 hSw; (try dsimp only at hSw); go_simp)
            all_goals with_reducible rfl
          try simp only [Act.put, List.setIfInBounds_toArray, List.set_cons_zero, List.set_cons_succ]
          refine wpAnyH_take (i := 7) (oi := ⟨some 98, _, _, _, _, _⟩) (v := ?_) rfl (by kernel_rfl) (by kernel_rfl) (by kernel_rfl) (fun _ _ _ h => h) (Or.inl ⟨by rfl, ?_⟩) hHeld ?_
          rotate_left
          · (intro w9 hSw; obtain ⟨hs0, hs1, hs2, hs3, hs4, hs5, hs6⟩ := hSw; clear hs0 hs1 hs6; go_simp)
            all_goals with_reducible rfl
          try simp only [Act.put, List.setIfInBounds_toArray, List.set_cons_zero, List.set_cons_succ]
          refine wpAnyH_take (i := 8) (oi := ⟨some 99, _, _, _, _, _⟩) (v := ?_) rfl (by kernel_rfl) (by kernel_rfl) (by kernel_rfl) (fun _ _ _ h => h) (Or.inl ⟨by rfl, ?_⟩) hHeld ?_
          rotate_left
          · (intro w9 hSw; (try dsimp only at hSw); go_simp)
            all_goals with_reducible rfl
          try simp only [Act.put, List.setIfInBounds_toArray, List.set_cons_zero, List.set_cons_succ]
          refine wpAnyH_take (i := 9) (oi := ⟨some 100, _, _, _, _, _⟩) (v := ?_) rfl (by kernel_rfl) (by kernel_rfl) (by kernel_rfl) (fun _ _ _ h => h) (Or.inl ⟨by rfl, ?_⟩) hHeld ?_
          rotate_left
          · (intro w9 hSw; (try dsimp only at hSw); go_simp)
            all_goals with_reducible rfl
          try simp only [Act.put, List.setIfInBounds_toArray, List.set_cons_zero, List.set_cons_succ]
          refine wpAnyH_take (i := 10) (oi := ⟨some 101, _, _, _, _, _⟩) (v := ?_) rfl (by kernel_rfl) (by kernel_rfl) (by kernel_rfl) (fun _ _ _ h => h) (Or.inl ⟨by rfl, ?_⟩) hHeld ?_
          rotate_left
          · (intro w9 hSw; refine yields34 (x := .tmp 15) (g := b15) (cs := Ca) ?_ ?_ ha.one.1 hSw.1 <;> rfl)
          try simp only [Act.put, List.setIfInBounds_toArray, List.set_cons_zero, List.set_cons_succ]
          refine wpAnyH_take (i := 11) (oi := ⟨some 102, _, _, _, _, _⟩) (v := ?_) rfl (by kernel_rfl) (by kernel_rfl) (by kernel_rfl) (fun _ _ _ h => h) (Or.inl ⟨by rfl, ?_⟩) hHeld ?_
          rotate_left
          · (intro w9 hSw; (try dsimp only at hSw); go_simp)
            all_goals with_reducible rfl
          try simp only [Act.put, List.setIfInBounds_toArray, List.set_cons_zero, List.set_cons_succ]
          refine wpAnyH_take (i := 12) (oi := ⟨some 103, _, _, _, _, _⟩) (v := ?_) rfl (by kernel_rfl) (by kernel_rfl) (by kernel_rfl) (fun _ _ _ h => h) (Or.inl ⟨by rfl, ?_⟩) hHeld ?_
          rotate_left
          · (intro w9 hSw; obtain ⟨hs0, hs1, hs2, hs3, hs4, hs5, hs6⟩ := hSw; clear hs0 hs1 hs6; go_simp)
            all_goals with_reducible rfl
          try simp only [Act.put, List.setIfInBounds_toArray, List.set_cons_zero, List.set_cons_succ]
          refine wpAnyH_take (i := 13) (oi := ⟨some 104, _, _, _, _, _⟩) (v := ?_) rfl (by kernel_rfl) (by kernel_rfl) (by kernel_rfl) (fun _ _ _ h => h) (Or.inl ⟨by rfl, ?_⟩) hHeld ?_
          rotate_left
          · (intro w9 hSw; (try dsimp only at hSw); go_simp)
            all_goals with_reducible rfl
          try simp only [Act.put, List.setIfInBounds_toArray, List.set_cons_zero, List.set_cons_succ]
          refine wpAnyH_take (i := 14) (oi := ⟨some 105, _, _, _, _, _⟩) (v := ?_) rfl (by kernel_rfl) (by kernel_rfl) (by kernel_rfl) (fun _ _ _ h => h) (Or.inl ⟨by rfl, ?_⟩) hHeld ?_
          rotate_left
          · (intro w9 hSw; refine yields34a (x := .tmp 104) (g := g0) (off := off + 0 * 12) (cs := Y) ?_ ?_ HY1.out.1 hSw.2.2.2.2.2.2 <;> rfl)
          try simp only [Act.put, List.setIfInBounds_toArray, List.set_cons_zero, List.set_cons_succ]
          refine wpAnyH_ready (rs := [15]) (by kernel_rfl) (by simp) ?_
          refine (AllReadyH.cons (o := ⟨some 106, _, _, _, _, _⟩) rfl (fun KK hK => ?_) AllReadyH.nil)
          rw [if_pos (by rfl)]
          go_simp
          refine (same26 ha (HYP.out _) rfl).mono ?_
          rintro e15 w15 ⟨rfl, hB15⟩
          have hE := hE.below hB15
          have hv := hv.below hB15
          have ha := ha.below hB15
          have hb := hb.below hB15
          have hel := hel.below hB15
          have hn10 := hn10.below hB15 hn10.lt
          have hn15 := hn15.below hB15 hn15.lt
          have hn16 := hn16.below hB15 hn16.lt
          have hB := hB.trans (hB15.mono hB.size)
          have c6 := hn10.cell X6.out; have c7 := hn10.cell X7.out; have cb := hn16.cell XB.out
          have c8 := hn10.cell X8.out
          clear hB15
          refine hK.out _ _ ⟨hn15, hn16, c6, c7, c8, cb, HCL.out _ hel⟩ ?_
          clear hK KK hHeld
          intro hHeld
          try simp only [Act.put, List.setIfInBounds_toArray, List.set_cons_zero, List.set_cons_succ]
          refine wpAnyH_take (i := 16) (oi := ⟨some 107, _, _, _, _, _⟩) (v := ?_) rfl (by kernel_rfl) (by kernel_rfl) (by kernel_rfl) (fun _ _ _ h => h) (Or.inl ⟨by rfl, ?_⟩) hHeld ?_
          rotate_left
          · (intro w9 hSw; (try dsimp only at hSw); go_simp)
            all_goals with_reducible rfl
          try simp only [Act.put, List.setIfInBounds_toArray, List.set_cons_zero, List.set_cons_succ]
          refine wpAnyH_take (i := 17) (oi := ⟨some 108, _, _, _, _, _⟩) (v := ?_) rfl (by kernel_rfl) (by kernel_rfl) (by kernel_rfl) (fun _ _ _ h => h) (Or.inl ⟨by rfl, ?_⟩) hHeld ?_
          rotate_left
          · (intro w9 hSw; (try dsimp only at hSw); go_simp)
            all_goals with_reducible rfl
          try simp only [Act.put, List.setIfInBounds_toArray, List.set_cons_zero, List.set_cons_succ]
          refine wpAnyH_take (i := 18) (oi := ⟨some 109, _, _, _, _, _⟩) (v := undef) rfl (by kernel_rfl) (by kernel_rfl) (by kernel_rfl) (fun _ _ _ h => h) (Or.inr ⟨by rfl, rfl⟩) hHeld ?_
          try simp only [Act.put, List.setIfInBounds_toArray, List.set_cons_zero, List.set_cons_succ]
          refine wpAnyH_take (i := 19) (oi := ⟨some 110, _, _, _, _, _⟩) (v := undef) rfl (by kernel_rfl) (by kernel_rfl) (by kernel_rfl) (fun _ _ _ h => h) (Or.inr ⟨by rfl, rfl⟩) hHeld ?_
          try simp only [Act.put, List.setIfInBounds_toArray, List.set_cons_zero, List.set_cons_succ]
          refine wpAnyH_take (i := 20) (oi := ⟨some 111, _, _, _, _, _⟩) (v := undef) rfl (by kernel_rfl) (by kernel_rfl) (by kernel_rfl) (fun _ _ _ h => h) (Or.inr ⟨by rfl, rfl⟩) hHeld ?_
          try simp only [Act.put, List.setIfInBounds_toArray, List.set_cons_zero, List.set_cons_succ]
          refine wpAnyH_take (i := 21) (oi := ⟨some 112, _, _, _, _, _⟩) (v := undef) rfl (by kernel_rfl) (by kernel_rfl) (by kernel_rfl) (fun _ _ _ h => h) (Or.inr ⟨by rfl, rfl⟩) hHeld ?_
          try simp only [Act.put, List.setIfInBounds_toArray, List.set_cons_zero, List.set_cons_succ]
          refine wpAnyH_take (i := 22) (oi := ⟨some 113, _, _, _, _, _⟩) (v := undef) rfl (by kernel_rfl) (by kernel_rfl) (by kernel_rfl) (fun _ _ _ h => h) (Or.inr ⟨by rfl, rfl⟩) hHeld ?_
          try simp only [Act.put, List.setIfInBounds_toArray, List.set_cons_zero, List.set_cons_succ]
          refine wpAnyH_take (i := 23) (oi := ⟨some 114, _, _, _, _, _⟩) (v := undef) rfl (by kernel_rfl) (by kernel_rfl) (by kernel_rfl) (fun _ _ _ h => h) (Or.inr ⟨by rfl, rfl⟩) hHeld ?_
          try simp only [Act.put, List.setIfInBounds_toArray, List.set_cons_zero, List.set_cons_succ]
          refine wpAnyH_take (i := 24) (oi := ⟨some 115, _, _, _, _, _⟩) (v := undef) rfl (by kernel_rfl) (by kernel_rfl) (by kernel_rfl) (fun _ _ _ h => h) (Or.inr ⟨by rfl, rfl⟩) hHeld ?_
          try simp only [Act.put, List.setIfInBounds_toArray, List.set_cons_zero, List.set_cons_succ]
          refine wpAnyH_take (i := 25) (oi := ⟨some 116, _, _, _, _, _⟩) (v := undef) rfl (by kernel_rfl) (by kernel_rfl) (by kernel_rfl) (fun _ _ _ h => h) (Or.inr ⟨by rfl, rfl⟩) hHeld ?_
          try simp only [Act.put, List.setIfInBounds_toArray, List.set_cons_zero, List.set_cons_succ]
          refine wpAnyH_take (i := 26) (oi := ⟨some 117, _, _, _, _, _⟩) (v := ?_) rfl (by kernel_rfl) (by kernel_rfl) (by kernel_rfl) (fun _ _ _ h => h) (Or.inl ⟨by rfl, ?_⟩) hHeld ?_
          rotate_left
          · (intro w9 hSw; (try dsimp only at hSw); go_simp)
            all_goals with_reducible rfl
          try simp only [Act.put, List.setIfInBounds_toArray, List.set_cons_zero, List.set_cons_succ]
          refine wpAnyH_take (i := 27) (oi := ⟨some 118, _, _, _, _, _⟩) (v := ?_) rfl (by kernel_rfl) (by kernel_rfl) (by kernel_rfl) (fun _ _ _ h => h) (Or.inl ⟨by rfl, ?_⟩) hHeld ?_
          rotate_left
          · (intro w9 hSw; (try dsimp only at hSw); go_simp)
            all_goals with_reducible rfl
          try simp only [Act.put, List.setIfInBounds_toArray, List.set_cons_zero, List.set_cons_succ]
          refine wpAnyH_take (i := 28) (oi := ⟨some 119, _, _, _, _, _⟩) (v := ?_) rfl (by kernel_rfl) (by kernel_rfl) (by kernel_rfl) (fun _ _ _ h => h) (Or.inl ⟨by rfl, ?_⟩) hHeld ?_
          rotate_left
          · (intro w9 hSw; (try dsimp only at hSw); go_simp)
            all_goals with_reducible rfl
          try simp only [Act.put, List.setIfInBounds_toArray, List.set_cons_zero, List.set_cons_succ]
          refine wpAnyH_take (i := 29) (oi := ⟨some 120, _, _, _, _, _⟩) (v := ?_) rfl (by kernel_rfl) (by kernel_rfl) (by kernel_rfl) (fun _ _ _ h => h) (Or.inl ⟨by rfl, ?_⟩) hHeld ?_
          rotate_left
          · (intro w9 hSw; (try dsimp only at hSw); go_simp)
            all_goals with_reducible rfl
          try simp only [Act.put, List.setIfInBounds_toArray, List.set_cons_zero, List.set_cons_succ]
          refine wpAnyH_take (i := 30) (oi := ⟨some 121, _, _, _, _, _⟩) (v := ?_) rfl (by kernel_rfl) (by kernel_rfl) (by kernel_rfl) (fun _ _ _ h => h) (Or.inl ⟨by rfl, ?_⟩) hHeld ?_
          rotate_left
          · (intro w9 hSw; obtain ⟨hs0, hs1, hs2, hs3, hs4, hs5, hs6⟩ := hSw; clear hs0 hs1 hs6; go_simp)
            all_goals with_reducible rfl
          try simp only [Act.put, List.setIfInBounds_toArray, List.set_cons_zero, List.set_cons_succ]
          refine wpAnyH_take (i := 31) (oi := ⟨some 122, _, _, _, _, _⟩) (v := ?_) rfl (by kernel_rfl) (by kernel_rfl) (by kernel_rfl) (fun _ _ _ h => h) (Or.inl ⟨by rfl, ?_⟩) hHeld ?_
          rotate_left
          · (intro w9 hSw; (try dsimp only at hSw); go_simp)
            all_goals with_reducible rfl
          try simp only [Act.put, List.setIfInBounds_toArray, List.set_cons_zero, List.set_cons_succ]
          refine wpAnyH_take (i := 32) (oi := ⟨some 123, _, _, _, _, _⟩) (v := ?_) rfl (by kernel_rfl) (by kernel_rfl) (by kernel_rfl) (fun _ _ _ h => h) (Or.inl ⟨by rfl, ?_⟩) hHeld ?_
          rotate_left
          · (intro w9 hSw; (try dsimp only at hSw); go_simp)
            all_goals with_reducible rfl
          try simp only [Act.put, List.setIfInBounds_toArray, List.set_cons_zero, List.set_cons_succ]
          refine wpAnyH_take (i := 33) (oi := ⟨some 124, _, _, _, _, _⟩) (v := undef) rfl (by kernel_rfl) (by kernel_rfl) (by kernel_rfl) (fun _ _ _ h => h) (Or.inr ⟨by rfl, rfl⟩) hHeld ?_
          try simp only [Act.put, List.setIfInBounds_toArray, List.set_cons_zero, List.set_cons_succ]
          refine wpAnyH_take (i := 34) (oi := ⟨some 125, _, _, _, _, _⟩) (v := undef) rfl (by kernel_rfl) (by kernel_rfl) (by kernel_rfl) (fun _ _ _ h => h) (Or.inr ⟨by rfl, rfl⟩) hHeld ?_
          try simp only [Act.put, List.setIfInBounds_toArray, List.set_cons_zero, List.set_cons_succ]
          refine wpAnyH_take (i := 35) (oi := ⟨some 126, _, _, _, _, _⟩) (v := undef) rfl (by kernel_rfl) (by kernel_rfl) (by kernel_rfl) (fun _ _ _ h => h) (Or.inr ⟨by rfl, rfl⟩) hHeld ?_
          try simp only [Act.put, List.setIfInBounds_toArray, List.set_cons_zero, List.set_cons_succ]
          refine wpAnyH_take (i := 36) (oi := ⟨some 127, _, _, _, _, _⟩) (v := undef) rfl (by kernel_rfl) (by kernel_rfl) (by kernel_rfl) (fun _ _ _ h => h) (Or.inr ⟨by rfl, rfl⟩) hHeld ?_
          try simp only [Act.put, List.setIfInBounds_toArray, List.set_cons_zero, List.set_cons_succ]
          refine wpAnyH_take (i := 37) (oi := ⟨some 128, _, _, _, _, _⟩) (v := undef) rfl (by kernel_rfl) (by kernel_rfl) (by kernel_rfl) (fun _ _ _ h => h) (Or.inr ⟨by rfl, rfl⟩) hHeld ?_
          try simp only [Act.put, List.setIfInBounds_toArray, List.set_cons_zero, List.set_cons_succ]
          refine wpAnyH_take (i := 38) (oi := ⟨some 129, _, _, _, _, _⟩) (v := undef) rfl (by kernel_rfl) (by kernel_rfl) (by kernel_rfl) (fun _ _ _ h => h) (Or.inr ⟨by rfl, rfl⟩) hHeld ?_
          try simp only [Act.put, List.setIfInBounds_toArray, List.set_cons_zero, List.set_cons_succ]
          refine wpAnyH_take (i := 39) (oi := ⟨some 130, _, _, _, _, _⟩) (v := ?_) rfl (by kernel_rfl) (by kernel_rfl) (by kernel_rfl) (fun _ _ _ h => h) (Or.inl ⟨by rfl, ?_⟩) hHeld ?_
          rotate_left
          · (intro w9 hSw; (try dsimp only at hSw); go_simp)
            all_goals with_reducible rfl
          try simp only [Act.put, List.setIfInBounds_toArray, List.set_cons_zero, List.set_cons_succ]
          refine wpAnyH_take (i := 40) (oi := ⟨some 131, _, _, _, _, _⟩) (v := ?_) rfl (by kernel_rfl) (by kernel_rfl) (by kernel_rfl) (fun _ _ _ h => h) (Or.inl ⟨by rfl, ?_⟩) hHeld ?_
          rotate_left
          · (intro w9 hSw; (try dsimp only at hSw); go_simp)
            all_goals with_reducible rfl
          try simp only [Act.put, List.setIfInBounds_toArray, List.set_cons_zero, List.set_cons_succ]
          refine wpAnyH_take (i := 41) (oi := ⟨some 132, _, _, _, _, _⟩) (v := ?_) rfl (by kernel_rfl) (by kernel_rfl) (by kernel_rfl) (fun _ _ _ h => h) (Or.inl ⟨by rfl, ?_⟩) hHeld ?_
          rotate_left
          · (intro w9 hSw; (try dsimp only at hSw); go_simp)
            all_goals with_reducible rfl
          try simp only [Act.put, List.setIfInBounds_toArray, List.set_cons_zero, List.set_cons_succ]
          refine wpAnyH_take (i := 42) (oi := ⟨some 133, _, _, _, _, _⟩) (v := ?_) rfl (by kernel_rfl) (by kernel_rfl) (by kernel_rfl) (fun _ _ _ h => h) (Or.inl ⟨by rfl, ?_⟩) hHeld ?_
          rotate_left
          · (intro w9 hSw; obtain ⟨hs0, hs1, hs2, hs3, hs4, hs5, hs6⟩ := hSw; clear hs0 hs1 hs6; go_simp)
            all_goals with_reducible rfl
          try simp only [Act.put, List.setIfInBounds_toArray, List.set_cons_zero, List.set_cons_succ]
          refine wpAnyH_take (i := 43) (oi := ⟨some 134, _, _, _, _, _⟩) (v := ?_) rfl (by kernel_rfl) (by kernel_rfl) (by kernel_rfl) (fun _ _ _ h => h) (Or.inl ⟨by rfl, ?_⟩) hHeld ?_
          rotate_left
          · (intro w9 hSw; (try dsimp only at hSw); go_simp)
            all_goals with_reducible rfl
          try simp only [Act.put, List.setIfInBounds_toArray, List.set_cons_zero, List.set_cons_succ]
          refine wpAnyH_take (i := 44) (oi := ⟨some 135, _, _, _, _, _⟩) (v := ?_) rfl (by kernel_rfl) (by kernel_rfl) (by kernel_rfl) (fun _ _ _ h => h) (Or.inl ⟨by rfl, ?_⟩) hHeld ?_
          rotate_left
          · (intro w9 hSw; (try dsimp only at hSw); go_simp)
            all_goals with_reducible rfl
          try simp only [Act.put, List.setIfInBounds_toArray, List.set_cons_zero, List.set_cons_succ]
          refine wpAnyH_take (i := 45) (oi := ⟨some 136, _, _, _, _, _⟩) (v := ?_) rfl (by kernel_rfl) (by kernel_rfl) (by kernel_rfl) (fun _ _ _ h => h) (Or.inl ⟨by rfl, ?_⟩) hHeld ?_
          rotate_left
          · (intro w9 hSw; (try dsimp only at hSw); go_simp)
            all_goals with_reducible rfl
          try simp only [Act.put, List.setIfInBounds_toArray, List.set_cons_zero, List.set_cons_succ]
          refine wpAnyH_take (i := 46) (oi := ⟨some 137, _, _, _, _, _⟩) (v := ?_) rfl (by kernel_rfl) (by kernel_rfl) (by kernel_rfl) (fun _ _ _ h => h) (Or.inl ⟨by rfl, ?_⟩) hHeld ?_
          rotate_left
          · (intro w9 hSw; obtain ⟨hs0, hs1, hs2, hs3, hs4, hs5, hs6⟩ := hSw; clear hs0 hs1 hs6; go_simp)
            all_goals with_reducible rfl
          try simp only [Act.put, List.setIfInBounds_toArray, List.set_cons_zero, List.set_cons_succ]
          refine wpAnyH_take (i := 47) (oi := ⟨some 138, _, _, _, _, _⟩) (v := ?_) rfl (by kernel_rfl) (by kernel_rfl) (by kernel_rfl) (fun _ _ _ h => h) (Or.inl ⟨by rfl, ?_⟩) hHeld ?_
          rotate_left
          · (intro w9 hSw; (try dsimp only at hSw); go_simp)
            all_goals with_reducible rfl
          try simp only [Act.put, List.setIfInBounds_toArray, List.set_cons_zero, List.set_cons_succ]
          refine wpAnyH_take (i := 48) (oi := ⟨some 139, _, _, _, _, _⟩) (v := ?_) rfl (by kernel_rfl) (by kernel_rfl) (by kernel_rfl) (fun _ _ _ h => h) (Or.inl ⟨by rfl, ?_⟩) hHeld ?_
          rotate_left
          · (intro w9 hSw; (try dsimp only at hSw); go_simp)
            all_goals with_reducible rfl
          try simp only [Act.put, List.setIfInBounds_toArray, List.set_cons_zero, List.set_cons_succ]
          refine wpAnyH_take (i := 49) (oi := ⟨some 140, _, _, _, _, _⟩) (v := ?_) rfl (by kernel_rfl) (by kernel_rfl) (by kernel_rfl) (fun _ _ _ h => h) (Or.inl ⟨by rfl, ?_⟩) hHeld ?_
          rotate_left
          · (intro w9 hSw; (try dsimp only at hSw); go_simp)
            all_goals with_reducible rfl
          try simp only [Act.put, List.setIfInBounds_toArray, List.set_cons_zero, List.set_cons_succ]
          refine wpAnyH_take (i := 50) (oi := ⟨some 141, _, _, _, _, _⟩) (v := ?_) rfl (by kernel_rfl) (by kernel_rfl) (by kernel_rfl) (fun _ _ _ h => h) (Or.inl ⟨by rfl, ?_⟩) hHeld ?_
          rotate_left
          · (intro w9 hSw; (try dsimp only at hSw); go_simp)
            all_goals with_reducible rfl
          try simp only [Act.put, List.setIfInBounds_toArray, List.set_cons_zero, List.set_cons_succ]
          refine wpAnyH_take (i := 51) (oi := ⟨some 8, _, _, _, _, _⟩) (v := ?_) rfl (by kernel_rfl) (by kernel_rfl) (by kernel_rfl) (fun _ _ _ h => h) (Or.inl ⟨by rfl, ?_⟩) hHeld ?_
          rotate_left
          · (intro w9 hSw; (try dsimp only at hSw); go_simp)
            all_goals with_reducible rfl
          try simp only [Act.put, List.setIfInBounds_toArray, List.set_cons_zero, List.set_cons_succ]
          refine wpAnyH_done (by kernel_rfl) ?_ _
          try simp only [Act.put, List.setIfInBounds_toArray, List.set_cons_zero, List.set_cons_succ]
          go_wp2_with fail
          go_ret
          refine ⟨?_, hB⟩
          rfl
      · by_cases hC1 : C = 1
        · rw [if_neg hR1] at ha
          rw [if_pos hC1] at hb
          have fR : (R == 1) = false := beq_eq_false_iff_ne.2 hR1
          have gR : 1 < R := by omega
          have XA : Hid (Ca[5]? = some (.int .i64 7)) := by
            have := plain_cells ha.1 (plain_err (by decide) (by decide))
            injection this with this
            rw [this]; exact Lib.hid rfl
          have ca := hn15.cell XA.out
          have fC : (C == 1) = true := beq_iff_eq.2 hC1
          have gC : ¬ 1 < C := by omega
          clear hR1 hC1
          have c8 := hn10.cell X8.out
          refine wp_region_held_drew (S := (fun w9 => World.vb w9 b15 Ca ∧ World.vb w9 b16 Cb ∧ w9.cell? ⟨b10, 6, none⟩ = some (.int .i64 R) ∧ w9.cell? ⟨b10, 7, none⟩ = some (.int .i64 C) ∧ w9.cell? ⟨b10, 8, none⟩ = some (.slice (some ⟨g0, off, none⟩) l.length k) ∧ w9.cell? ⟨b15, 5, none⟩ = some (.int .i64 7) ∧ ∀ j u, Y[j]? = some u → w9.cell? ⟨g0, off + 0 * 12 + j, none⟩ = some u)) (by kernel_rfl) ⟨hn15, hn16, c6, c7, c8, ca, HCL.out _ hel⟩ (fun hHeld => ?_)
          have hBd := World.drew_below w14
          have hE := hE.below hBd
          have hv := hv.below hBd
          have ha := ha.below hBd
          have hb := hb.below hBd
          have hel := hel.below hBd
          have hn10 := hn10.below hBd hn10.lt
          have hn15 := hn15.below hBd hn15.lt
          have hn16 := hn16.below hBd hn16.lt
          have hB := hB.trans (hBd.mono hB.size)
          have c6 := hn10.cell X6.out; have c7 := hn10.cell X7.out; have ca := hn15.cell XA.out
          have c8 := hn10.cell X8.out
          clear hBd
          refine wpAnyH_take (i := 0) (oi := ⟨some 91, _, _, _, _, _⟩) (v := ?_) rfl (by kernel_rfl) (by kernel_rfl) (by kernel_rfl) (fun _ _ _ h => h) (Or.inl ⟨by rfl, ?_⟩) hHeld ?_
          rotate_left
          · (intro w9 hSw; (try dsimp only at hSw); go_simp)
            all_goals with_reducible rfl
          try simp only [Act.put, List.setIfInBounds_toArray, List.set_cons_zero, List.set_cons_succ]
          refine wpAnyH_take (i := 1) (oi := ⟨some 92, _, _, _, _, _⟩) (v := ?_) rfl (by kernel_rfl) (by kernel_rfl) (by kernel_rfl) (fun _ _ _ h => h) (Or.inl ⟨by rfl, ?_⟩) hHeld ?_
          rotate_left
          · (intro w9 hSw; (try dsimp only at hSw); go_simp)
            all_goals with_reducible rfl
          try simp only [Act.put, List.setIfInBounds_toArray, List.set_cons_zero, List.set_cons_succ]
          refine wpAnyH_take (i := 2) (oi := ⟨some 93, _, _, _, _, _⟩) (v := ?_) rfl (by kernel_rfl) (by kernel_rfl) (by kernel_rfl) (fun _ _ _ h => h) (Or.inl ⟨by rfl, ?_⟩) hHeld ?_
          rotate_left
          · (intro w9 hSw; (try dsimp only at hSw); go_simp)
            all_goals with_reducible rfl
          try simp only [Act.put, List.setIfInBounds_toArray, List.set_cons_zero, List.set_cons_succ]
          refine wpAnyH_take (i := 3) (oi := ⟨some 94, _, _, _, _, _⟩) (v := ?_) rfl (by kernel_rfl) (by kernel_rfl) (by kernel_rfl) (fun _ _ _ h => h) (Or.inl ⟨by rfl, ?_⟩) hHeld ?_
          rotate_left
          · (intro w9 hSw; (try dsimp only at hSw); go_simp)
            all_goals with_reducible rfl
          try simp only [Act.put, List.setIfInBounds_toArray, List.set_cons_zero, List.set_cons_succ]
          refine wpAnyH_take (i := 4) (oi := ⟨some 95, _, _, _, _, _⟩) (v := ?_) rfl (by kernel_rfl) (by kernel_rfl) (by kernel_rfl) (fun _ _ _ h => h) (Or.inl ⟨by rfl, ?_⟩) hHeld ?_
          rotate_left
          · (intro w9 hSw; (try dsimp only at hSw); go_simp)
            all_goals with_reducible rfl
          try simp only [Act.put, List.setIfInBounds_toArray, List.set_cons_zero, List.set_cons_succ]
          refine wpAnyH_take (i := 5) (oi := ⟨some 96, _, _, _, _, _⟩) (v := ?_) rfl (by kernel_rfl) (by kernel_rfl) (by kernel_rfl) (fun _ _ _ h => h) (Or.inl ⟨by rfl, ?_⟩) hHeld ?_
          rotate_left
          · (intro w9 hSw; (try dsimp only at hSw); go_simp)
            all_goals with_reducible rfl
          try simp only [Act.put, List.setIfInBounds_toArray, List.set_cons_zero, List.set_cons_succ]
          refine wpAnyH_take (i := 6) (oi := ⟨some 97, _, _, _, _, _⟩) (v := ?_) rfl (by kernel_rfl) (by kernel_rfl) (by kernel_rfl) (fun _ _ _ h => h) (Or.inl ⟨by rfl, ?_⟩) hHeld ?_
          rotate_left
          · (intro w9 hSw; (try dsimp only at hSw); go_simp)
            all_goals with_reducible rfl
          try simp only [Act.put, List.setIfInBounds_toArray, List.set_cons_zero, List.set_cons_succ]
          refine wpAnyH_take (i := 7) (oi := ⟨some 98, _, _, _, _, _⟩) (v := ?_) rfl (by kernel_rfl) (by kernel_rfl) (by kernel_rfl) (fun _ _ _ h => h) (Or.inl ⟨by rfl, ?_⟩) hHeld ?_
          rotate_left
          · (intro w9 hSw; obtain ⟨hs0, hs1, hs2, hs3, hs4, hs5, hs6⟩ := hSw; clear hs0 hs1 hs6; go_simp)
            all_goals with_reducible rfl
          try simp only [Act.put, List.setIfInBounds_toArray, List.set_cons_zero, List.set_cons_succ]
          refine wpAnyH_take (i := 8) (oi := ⟨some 99, _, _, _, _, _⟩) (v := ?_) rfl (by kernel_rfl) (by kernel_rfl) (by kernel_rfl) (fun _ _ _ h => h) (Or.inl ⟨by rfl, ?_⟩) hHeld ?_
          rotate_left
          · (intro w9 hSw; (try dsimp only at hSw); go_simp)
            all_goals with_reducible rfl
          try simp only [Act.put, List.setIfInBounds_toArray, List.set_cons_zero, List.set_cons_succ]
          refine wpAnyH_take (i := 9) (oi := ⟨some 100, _, _, _, _, _⟩) (v := ?_) rfl (by kernel_rfl) (by kernel_rfl) (by kernel_rfl) (fun _ _ _ h => h) (Or.inl ⟨by rfl, ?_⟩) hHeld ?_
          rotate_left
          · (intro w9 hSw; (try dsimp only at hSw); go_simp)
            all_goals with_reducible rfl
          try simp only [Act.put, List.setIfInBounds_toArray, List.set_cons_zero, List.set_cons_succ]
          refine wpAnyH_take (i := 10) (oi := ⟨some 101, _, _, _, _, _⟩) (v := undef) rfl (by kernel_rfl) (by kernel_rfl) (by kernel_rfl) (fun _ _ _ h => h) (Or.inr ⟨by rfl, rfl⟩) hHeld ?_
          try simp only [Act.put, List.setIfInBounds_toArray, List.set_cons_zero, List.set_cons_succ]
          refine wpAnyH_take (i := 11) (oi := ⟨some 102, _, _, _, _, _⟩) (v := undef) rfl (by kernel_rfl) (by kernel_rfl) (by kernel_rfl) (fun _ _ _ h => h) (Or.inr ⟨by rfl, rfl⟩) hHeld ?_
          try simp only [Act.put, List.setIfInBounds_toArray, List.set_cons_zero, List.set_cons_succ]
          refine wpAnyH_take (i := 12) (oi := ⟨some 103, _, _, _, _, _⟩) (v := undef) rfl (by kernel_rfl) (by kernel_rfl) (by kernel_rfl) (fun _ _ _ h => h) (Or.inr ⟨by rfl, rfl⟩) hHeld ?_
          try simp only [Act.put, List.setIfInBounds_toArray, List.set_cons_zero, List.set_cons_succ]
          refine wpAnyH_take (i := 13) (oi := ⟨some 104, _, _, _, _, _⟩) (v := undef) rfl (by kernel_rfl) (by kernel_rfl) (by kernel_rfl) (fun _ _ _ h => h) (Or.inr ⟨by rfl, rfl⟩) hHeld ?_
          try simp only [Act.put, List.setIfInBounds_toArray, List.set_cons_zero, List.set_cons_succ]
          refine wpAnyH_take (i := 14) (oi := ⟨some 105, _, _, _, _, _⟩) (v := undef) rfl (by kernel_rfl) (by kernel_rfl) (by kernel_rfl) (fun _ _ _ h => h) (Or.inr ⟨by rfl, rfl⟩) hHeld ?_
          try simp only [Act.put, List.setIfInBounds_toArray, List.set_cons_zero, List.set_cons_succ]
          refine wpAnyH_take (i := 15) (oi := ⟨some 106, _, _, _, _, _⟩) (v := undef) rfl (by kernel_rfl) (by kernel_rfl) (by kernel_rfl) (fun _ _ _ h => h) (Or.inr ⟨by rfl, rfl⟩) hHeld ?_
          try simp only [Act.put, List.setIfInBounds_toArray, List.set_cons_zero, List.set_cons_succ]
          refine wpAnyH_take (i := 16) (oi := ⟨some 107, _, _, _, _, _⟩) (v := ?_) rfl (by kernel_rfl) (by kernel_rfl) (by kernel_rfl) (fun _ _ _ h => h) (Or.inl ⟨by rfl, ?_⟩) hHeld ?_
          rotate_left
          · (intro w9 hSw; (try dsimp only at hSw); go_simp)
            all_goals with_reducible rfl
          try simp only [Act.put, List.setIfInBounds_toArray, List.set_cons_zero, List.set_cons_succ]
          refine wpAnyH_take (i := 17) (oi := ⟨some 108, _, _, _, _, _⟩) (v := ?_) rfl (by kernel_rfl) (by kernel_rfl) (by kernel_rfl) (fun _ _ _ h => h) (Or.inl ⟨by rfl, ?_⟩) hHeld ?_
          rotate_left
          · (intro w9 hSw; (try dsimp only at hSw); go_simp)
            all_goals with_reducible rfl
          try simp only [Act.put, List.setIfInBounds_toArray, List.set_cons_zero, List.set_cons_succ]
          refine wpAnyH_take (i := 18) (oi := ⟨some 109, _, _, _, _, _⟩) (v := ?_) rfl (by kernel_rfl) (by kernel_rfl) (by kernel_rfl) (fun _ _ _ h => h) (Or.inl ⟨by rfl, ?_⟩) hHeld ?_
          rotate_left
          · (intro w9 hSw; (try dsimp only at hSw); go_simp)
            all_goals with_reducible rfl
          try simp only [Act.put, List.setIfInBounds_toArray, List.set_cons_zero, List.set_cons_succ]
          refine wpAnyH_take (i := 19) (oi := ⟨some 110, _, _, _, _, _⟩) (v := ?_) rfl (by kernel_rfl) (by kernel_rfl) (by kernel_rfl) (fun _ _ _ h => h) (Or.inl ⟨by rfl, ?_⟩) hHeld ?_
          rotate_left
          · (intro w9 hSw; obtain ⟨hs0, hs1, hs2, hs3, hs4, hs5, hs6⟩ := hSw; clear hs0 hs1 hs6; go_simp)
            all_goals with_reducible rfl
          try simp only [Act.put, List.setIfInBounds_toArray, List.set_cons_zero, List.set_cons_succ]
          refine wpAnyH_take (i := 20) (oi := ⟨some 111, _, _, _, _, _⟩) (v := ?_) rfl (by kernel_rfl) (by kernel_rfl) (by kernel_rfl) (fun _ _ _ h => h) (Or.inl ⟨by rfl, ?_⟩) hHeld ?_
          rotate_left
          · (intro w9 hSw; (try dsimp only at hSw); go_simp)
            all_goals with_reducible rfl
          try simp only [Act.put, List.setIfInBounds_toArray, List.set_cons_zero, List.set_cons_succ]
          refine wpAnyH_take (i := 21) (oi := ⟨some 112, _, _, _, _, _⟩) (v := ?_) rfl (by kernel_rfl) (by kernel_rfl) (by kernel_rfl) (fun _ _ _ h => h) (Or.inl ⟨by rfl, ?_⟩) hHeld ?_
          rotate_left
          · (intro w9 hSw; (try dsimp only at hSw); go_simp)
            all_goals with_reducible rfl
          try simp only [Act.put, List.setIfInBounds_toArray, List.set_cons_zero, List.set_cons_succ]
          refine wpAnyH_take (i := 22) (oi := ⟨some 113, _, _, _, _, _⟩) (v := ?_) rfl (by kernel_rfl) (by kernel_rfl) (by kernel_rfl) (fun _ _ _ h => h) (Or.inl ⟨by rfl, ?_⟩) hHeld ?_
          rotate_left
          · (intro w9 hSw; (try dsimp only at hSw); go_simp)
            all_goals with_reducible rfl
          try simp only [Act.put, List.setIfInBounds_toArray, List.set_cons_zero, List.set_cons_succ]
          refine wpAnyH_take (i := 23) (oi := ⟨some 114, _, _, _, _, _⟩) (v := ?_) rfl (by kernel_rfl) (by kernel_rfl) (by kernel_rfl) (fun _ _ _ h => h) (Or.inl ⟨by rfl, ?_⟩) hHeld ?_
          rotate_left
          · (intro w9 hSw; obtain ⟨hs0, hs1, hs2, hs3, hs4, hs5, hs6⟩ := hSw; clear hs0 hs1 hs6; go_simp)
            all_goals with_reducible rfl
          try simp only [Act.put, List.setIfInBounds_toArray, List.set_cons_zero, List.set_cons_succ]
          refine wpAnyH_take (i := 24) (oi := ⟨some 115, _, _, _, _, _⟩) (v := ?_) rfl (by kernel_rfl) (by kernel_rfl) (by kernel_rfl) (fun _ _ _ h => h) (Or.inl ⟨by rfl, ?_⟩) hHeld ?_
          rotate_left
          · (intro w9 hSw; (try dsimp only at hSw); go_simp)
            all_goals with_reducible rfl
          try simp only [Act.put, List.setIfInBounds_toArray, List.set_cons_zero, List.set_cons_succ]
          refine wpAnyH_take (i := 25) (oi := ⟨some 116, _, _, _, _, _⟩) (v := ?_) rfl (by kernel_rfl) (by kernel_rfl) (by kernel_rfl) (fun _ _ _ h => h) (Or.inl ⟨by rfl, ?_⟩) hHeld ?_
          rotate_left
          · (intro w9 hSw; (try dsimp only at hSw); go_simp)
            all_goals with_reducible rfl
          try simp only [Act.put, List.setIfInBounds_toArray, List.set_cons_zero, List.set_cons_succ]
          refine wpAnyH_take (i := 26) (oi := ⟨some 117, _, _, _, _, _⟩) (v := ?_) rfl (by kernel_rfl) (by kernel_rfl) (by kernel_rfl) (fun _ _ _ h => h) (Or.inl ⟨by rfl, ?_⟩) hHeld ?_
          rotate_left
          · (intro w9 hSw; (try dsimp only at hSw); go_simp)
            all_goals with_reducible rfl
          try simp only [Act.put, List.setIfInBounds_toArray, List.set_cons_zero, List.set_cons_succ]
          refine wpAnyH_take (i := 27) (oi := ⟨some 118, _, _, _, _, _⟩) (v := ?_) rfl (by kernel_rfl) (by kernel_rfl) (by kernel_rfl) (fun _ _ _ h => h) (Or.inl ⟨by rfl, ?_⟩) hHeld ?_
          rotate_left
          · (intro w9 hSw; (try dsimp only at hSw); go_simp)
            all_goals with_reducible rfl
          try simp only [Act.put, List.setIfInBounds_toArray, List.set_cons_zero, List.set_cons_succ]
          refine wpAnyH_take (i := 28) (oi := ⟨some 119, _, _, _, _, _⟩) (v := ?_) rfl (by kernel_rfl) (by kernel_rfl) (by kernel_rfl) (fun _ _ _ h => h) (Or.inl ⟨by rfl, ?_⟩) hHeld ?_
          rotate_left
          · (intro w9 hSw; (try dsimp only at hSw); go_simp)
            all_goals with_reducible rfl
          try simp only [Act.put, List.setIfInBounds_toArray, List.set_cons_zero, List.set_cons_succ]
          refine wpAnyH_take (i := 29) (oi := ⟨some 120, _, _, _, _, _⟩) (v := ?_) rfl (by kernel_rfl) (by kernel_rfl) (by kernel_rfl) (fun _ _ _ h => h) (Or.inl ⟨by rfl, ?_⟩) hHeld ?_
          rotate_left
          · (intro w9 hSw; (try dsimp only at hSw); go_simp)
            all_goals with_reducible rfl
          try simp only [Act.put, List.setIfInBounds_toArray, List.set_cons_zero, List.set_cons_succ]
          refine wpAnyH_take (i := 30) (oi := ⟨some 121, _, _, _, _, _⟩) (v := ?_) rfl (by kernel_rfl) (by kernel_rfl) (by kernel_rfl) (fun _ _ _ h => h) (Or.inl ⟨by rfl, ?_⟩) hHeld ?_
          rotate_left
          · (intro w9 hSw; obtain ⟨hs0, hs1, hs2, hs3, hs4, hs5, hs6⟩ := hSw; clear hs0 hs1 hs6; go_simp)
            all_goals with_reducible rfl
          try simp only [Act.put, List.setIfInBounds_toArray, List.set_cons_zero, List.set_cons_succ]
          refine wpAnyH_take (i := 31) (oi := ⟨some 122, _, _, _, _, _⟩) (v := ?_) rfl (by kernel_rfl) (by kernel_rfl) (by kernel_rfl) (fun _ _ _ h => h) (Or.inl ⟨by rfl, ?_⟩) hHeld ?_
          rotate_left
          · (intro w9 hSw; (try dsimp only at hSw); go_simp)
            all_goals with_reducible rfl
          try simp only [Act.put, List.setIfInBounds_toArray, List.set_cons_zero, List.set_cons_succ]
          refine wpAnyH_take (i := 32) (oi := ⟨some 123, _, _, _, _, _⟩) (v := ?_) rfl (by kernel_rfl) (by kernel_rfl) (by kernel_rfl) (fun _ _ _ h => h) (Or.inl ⟨by rfl, ?_⟩) hHeld ?_
          rotate_left
          · (intro w9 hSw; (try dsimp only at hSw); go_simp)
            all_goals with_reducible rfl
          try simp only [Act.put, List.setIfInBounds_toArray, List.set_cons_zero, List.set_cons_succ]
          refine wpAnyH_take (i := 33) (oi := ⟨some 124, _, _, _, _, _⟩) (v := ?_) rfl (by kernel_rfl) (by kernel_rfl) (by kernel_rfl) (fun _ _ _ h => h) (Or.inl ⟨by rfl, ?_⟩) hHeld ?_
          rotate_left
          · (intro w9 hSw; refine yields34 (x := .tmp 16) (g := b16) (cs := Cb) ?_ ?_ hb.one.1 hSw.2.1 <;> rfl)
          try simp only [Act.put, List.setIfInBounds_toArray, List.set_cons_zero, List.set_cons_succ]
          refine wpAnyH_take (i := 34) (oi := ⟨some 125, _, _, _, _, _⟩) (v := ?_) rfl (by kernel_rfl) (by kernel_rfl) (by kernel_rfl) (fun _ _ _ h => h) (Or.inl ⟨by rfl, ?_⟩) hHeld ?_
          rotate_left
          · (intro w9 hSw; (try dsimp only at hSw); go_simp)
            all_goals with_reducible rfl
          try simp only [Act.put, List.setIfInBounds_toArray, List.set_cons_zero, List.set_cons_succ]
          refine wpAnyH_take (i := 35) (oi := ⟨some 126, _, _, _, _, _⟩) (v := ?_) rfl (by kernel_rfl) (by kernel_rfl) (by kernel_rfl) (fun _ _ _ h => h) (Or.inl ⟨by rfl, ?_⟩) hHeld ?_
          rotate_left
          · (intro w9 hSw; obtain ⟨hs0, hs1, hs2, hs3, hs4, hs5, hs6⟩ := hSw; clear hs0 hs1 hs6; go_simp)
            all_goals with_reducible rfl
          try simp only [Act.put, List.setIfInBounds_toArray, List.set_cons_zero, List.set_cons_succ]
          refine wpAnyH_take (i := 36) (oi := ⟨some 127, _, _, _, _, _⟩) (v := ?_) rfl (by kernel_rfl) (by kernel_rfl) (by kernel_rfl) (fun _ _ _ h => h) (Or.inl ⟨by rfl, ?_⟩) hHeld ?_
          rotate_left
          · (intro w9 hSw; (try dsimp only at hSw); go_simp)
            all_goals with_reducible rfl
          try simp only [Act.put, List.setIfInBounds_toArray, List.set_cons_zero, List.set_cons_succ]
          refine wpAnyH_take (i := 37) (oi := ⟨some 128, _, _, _, _, _⟩) (v := ?_) rfl (by kernel_rfl) (by kernel_rfl) (by kernel_rfl) (fun _ _ _ h => h) (Or.inl ⟨by rfl, ?_⟩) hHeld ?_
          rotate_left
          · (intro w9 hSw; refine yields34a (x := .tmp 127) (g := g0) (off := off + 0 * 12) (cs := Y) ?_ ?_ HY1.out.1 hSw.2.2.2.2.2.2 <;> rfl)
          try simp only [Act.put, List.setIfInBounds_toArray, List.set_cons_zero, List.set_cons_succ]
          refine wpAnyH_ready (rs := [38]) (by kernel_rfl) (by simp) ?_
          refine (AllReadyH.cons (o := ⟨some 129, _, _, _, _, _⟩) rfl (fun KK hK => ?_) AllReadyH.nil)
          rw [if_pos (by rfl)]
          go_simp
          refine (same26 hb (HYP.out _) rfl).mono ?_
          rintro e15 w15 ⟨rfl, hB15⟩
          have hE := hE.below hB15
          have hv := hv.below hB15
          have ha := ha.below hB15
          have hb := hb.below hB15
          have hel := hel.below hB15
          have hn10 := hn10.below hB15 hn10.lt
          have hn15 := hn15.below hB15 hn15.lt
          have hn16 := hn16.below hB15 hn16.lt
          have hB := hB.trans (hB15.mono hB.size)
          have c6 := hn10.cell X6.out; have c7 := hn10.cell X7.out; have ca := hn15.cell XA.out
          have c8 := hn10.cell X8.out
          clear hB15
          refine hK.out _ _ ⟨hn15, hn16, c6, c7, c8, ca, HCL.out _ hel⟩ ?_
          clear hK KK hHeld
          intro hHeld
          try simp only [Act.put, List.setIfInBounds_toArray, List.set_cons_zero, List.set_cons_succ]
          refine wpAnyH_take (i := 39) (oi := ⟨some 130, _, _, _, _, _⟩) (v := ?_) rfl (by kernel_rfl) (by kernel_rfl) (by kernel_rfl) (fun _ _ _ h => h) (Or.inl ⟨by rfl, ?_⟩) hHeld ?_
          rotate_left
          · (intro w9 hSw; (try dsimp only at hSw); go_simp)
            all_goals with_reducible rfl
          try simp only [Act.put, List.setIfInBounds_toArray, List.set_cons_zero, List.set_cons_succ]
          refine wpAnyH_take (i := 40) (oi := ⟨some 131, _, _, _, _, _⟩) (v := ?_) rfl (by kernel_rfl) (by kernel_rfl) (by kernel_rfl) (fun _ _ _ h => h) (Or.inl ⟨by rfl, ?_⟩) hHeld ?_
          rotate_left
          · (intro w9 hSw; (try dsimp only at hSw); go_simp)
            all_goals with_reducible rfl
          try simp only [Act.put, List.setIfInBounds_toArray, List.set_cons_zero, List.set_cons_succ]
          refine wpAnyH_take (i := 41) (oi := ⟨some 132, _, _, _, _, _⟩) (v := undef) rfl (by kernel_rfl) (by kernel_rfl) (by kernel_rfl) (fun _ _ _ h => h) (Or.inr ⟨by rfl, rfl⟩) hHeld ?_
          try simp only [Act.put, List.setIfInBounds_toArray, List.set_cons_zero, List.set_cons_succ]
          refine wpAnyH_take (i := 42) (oi := ⟨some 133, _, _, _, _, _⟩) (v := undef) rfl (by kernel_rfl) (by kernel_rfl) (by kernel_rfl) (fun _ _ _ h => h) (Or.inr ⟨by rfl, rfl⟩) hHeld ?_
          try simp only [Act.put, List.setIfInBounds_toArray, List.set_cons_zero, List.set_cons_succ]
          refine wpAnyH_take (i := 43) (oi := ⟨some 134, _, _, _, _, _⟩) (v := undef) rfl (by kernel_rfl) (by kernel_rfl) (by kernel_rfl) (fun _ _ _ h => h) (Or.inr ⟨by rfl, rfl⟩) hHeld ?_
          try simp only [Act.put, List.setIfInBounds_toArray, List.set_cons_zero, List.set_cons_succ]
          refine wpAnyH_take (i := 44) (oi := ⟨some 135, _, _, _, _, _⟩) (v := undef) rfl (by kernel_rfl) (by kernel_rfl) (by kernel_rfl) (fun _ _ _ h => h) (Or.inr ⟨by rfl, rfl⟩) hHeld ?_
          try simp only [Act.put, List.setIfInBounds_toArray, List.set_cons_zero, List.set_cons_succ]
          refine wpAnyH_take (i := 45) (oi := ⟨some 136, _, _, _, _, _⟩) (v := undef) rfl (by kernel_rfl) (by kernel_rfl) (by kernel_rfl) (fun _ _ _ h => h) (Or.inr ⟨by rfl, rfl⟩) hHeld ?_
          try simp only [Act.put, List.setIfInBounds_toArray, List.set_cons_zero, List.set_cons_succ]
          refine wpAnyH_take (i := 46) (oi := ⟨some 137, _, _, _, _, _⟩) (v := undef) rfl (by kernel_rfl) (by kernel_rfl) (by kernel_rfl) (fun _ _ _ h => h) (Or.inr ⟨by rfl, rfl⟩) hHeld ?_
          try simp only [Act.put, List.setIfInBounds_toArray, List.set_cons_zero, List.set_cons_succ]
          refine wpAnyH_take (i := 47) (oi := ⟨some 138, _, _, _, _, _⟩) (v := undef) rfl (by kernel_rfl) (by kernel_rfl) (by kernel_rfl) (fun _ _ _ h => h) (Or.inr ⟨by rfl, rfl⟩) hHeld ?_
          try simp only [Act.put, List.setIfInBounds_toArray, List.set_cons_zero, List.set_cons_succ]
          refine wpAnyH_take (i := 48) (oi := ⟨some 139, _, _, _, _, _⟩) (v := undef) rfl (by kernel_rfl) (by kernel_rfl) (by kernel_rfl) (fun _ _ _ h => h) (Or.inr ⟨by rfl, rfl⟩) hHeld ?_
          try simp only [Act.put, List.setIfInBounds_toArray, List.set_cons_zero, List.set_cons_succ]
          refine wpAnyH_take (i := 49) (oi := ⟨some 140, _, _, _, _, _⟩) (v := ?_) rfl (by kernel_rfl) (by kernel_rfl) (by kernel_rfl) (fun _ _ _ h => h) (Or.inl ⟨by rfl, ?_⟩) hHeld ?_
          rotate_left
          · (intro w9 hSw; (try dsimp only at hSw); go_simp)
            all_goals with_reducible rfl
          try simp only [Act.put, List.setIfInBounds_toArray, List.set_cons_zero, List.set_cons_succ]
          refine wpAnyH_take (i := 50) (oi := ⟨some 141, _, _, _, _, _⟩) (v := ?_) rfl (by kernel_rfl) (by kernel_rfl) (by kernel_rfl) (fun _ _ _ h => h) (Or.inl ⟨by rfl, ?_⟩) hHeld ?_
          rotate_left
          · (intro w9 hSw; (try dsimp only at hSw); go_simp)
            all_goals with_reducible rfl
          try simp only [Act.put, List.setIfInBounds_toArray, List.set_cons_zero, List.set_cons_succ]
          refine wpAnyH_take (i := 51) (oi := ⟨some 8, _, _, _, _, _⟩) (v := ?_) rfl (by kernel_rfl) (by kernel_rfl) (by kernel_rfl) (fun _ _ _ h => h) (Or.inl ⟨by rfl, ?_⟩) hHeld ?_
          rotate_left
          · (intro w9 hSw; (try dsimp only at hSw); go_simp)
            all_goals with_reducible rfl
          try simp only [Act.put, List.setIfInBounds_toArray, List.set_cons_zero, List.set_cons_succ]
          refine wpAnyH_done (by kernel_rfl) ?_ _
          try simp only [Act.put, List.setIfInBounds_toArray, List.set_cons_zero, List.set_cons_succ]
          go_wp2_with fail
          go_ret
          refine ⟨?_, hB⟩
          rfl
        · rw [if_neg hR1] at ha
          rw [if_neg hC1] at hb
          have fR : (R == 1) = false := beq_eq_false_iff_ne.2 hR1
          have gR : 1 < R := by omega
          have XA : Hid (Ca[5]? = some (.int .i64 7)) := by
            have := plain_cells ha.1 (plain_err (by decide) (by decide))
            injection this with this
            rw [this]; exact Lib.hid rfl
          have ca := hn15.cell XA.out
          have fC : (C == 1) = false := beq_eq_false_iff_ne.2 hC1
          have gC : 1 < C := by omega
          have XB : Hid (Cb[5]? = some (.int .i64 7)) := by
            have := plain_cells hb.1 (plain_err (by decide) (by decide))
            injection this with this
            rw [this]; exact Lib.hid rfl
          have cb := hn16.cell XB.out
          clear hR1 hC1
          have c8 := hn10.cell X8.out
          refine wp_region_held_drew (S := (fun w9 => World.vb w9 b15 Ca ∧ World.vb w9 b16 Cb ∧ w9.cell? ⟨b10, 6, none⟩ = some (.int .i64 R) ∧ w9.cell? ⟨b10, 7, none⟩ = some (.int .i64 C) ∧ w9.cell? ⟨b10, 8, none⟩ = some (.slice (some ⟨g0, off, none⟩) l.length k) ∧ w9.cell? ⟨b15, 5, none⟩ = some (.int .i64 7) ∧ w9.cell? ⟨b16, 5, none⟩ = some (.int .i64 7) ∧ ∀ j u, Y[j]? = some u → w9.cell? ⟨g0, off + 0 * 12 + j, none⟩ = some u)) (by kernel_rfl) ⟨hn15, hn16, c6, c7, c8, ca, cb, HCL.out _ hel⟩ (fun hHeld => ?_)
          have hBd := World.drew_below w14
          have hE := hE.below hBd
          have hv := hv.below hBd
          have ha := ha.below hBd
          have hb := hb.below hBd
          have hel := hel.below hBd
          have hn10 := hn10.below hBd hn10.lt
          have hn15 := hn15.below hBd hn15.lt
          have hn16 := hn16.below hBd hn16.lt
          have hB := hB.trans (hBd.mono hB.size)
          have c6 := hn10.cell X6.out; have c7 := hn10.cell X7.out; have ca := hn15.cell XA.out; have cb := hn16.cell XB.out
          have c8 := hn10.cell X8.out
          clear hBd
          refine wpAnyH_take (i := 0) (oi := ⟨some 91, _, _, _, _, _⟩) (v := ?_) rfl (by kernel_rfl) (by kernel_rfl) (by kernel_rfl) (fun _ _ _ h => h) (Or.inl ⟨by rfl, ?_⟩) hHeld ?_
          rotate_left
          · (intro w9 hSw; (try dsimp only at hSw); go_simp)
            all_goals with_reducible rfl
          try simp only [Act.put, List.setIfInBounds_toArray, List.set_cons_zero, List.set_cons_succ]
          refine wpAnyH_take (i := 1) (oi := ⟨some 92, _, _, _, _, _⟩) (v := ?_) rfl (by kernel_rfl) (by kernel_rfl) (by kernel_rfl) (fun _ _ _ h => h) (Or.inl ⟨by rfl, ?_⟩) hHeld ?_
          rotate_left
          · (intro w9 hSw; (try dsimp only at hSw); go_simp)
            all_goals with_reducible rfl
          try simp only [Act.put, List.setIfInBounds_toArray, List.set_cons_zero, List.set_cons_succ]
          refine wpAnyH_take (i := 2) (oi := ⟨some 93, _, _, _, _, _⟩) (v := ?_) rfl (by kernel_rfl) (by kernel_rfl) (by kernel_rfl) (fun _ _ _ h => h) (Or.inl ⟨by rfl, ?_⟩) hHeld ?_
          rotate_left
          · (intro w9 hSw; (try dsimp only at hSw); go_simp)
            all_goals with_reducible rfl
          try simp only [Act.put, List.setIfInBounds_toArray, List.set_cons_zero, List.set_cons_succ]
          refine wpAnyH_take (i := 3) (oi := ⟨some 94, _, _, _, _, _⟩) (v := ?_) rfl (by kernel_rfl) (by kernel_rfl) (by kernel_rfl) (fun _ _ _ h => h) (Or.inl ⟨by rfl, ?_⟩) hHeld ?_
          rotate_left
          · (intro w9 hSw; (try dsimp only at hSw); go_simp)
            all_goals with_reducible rfl
          try simp only [Act.put, List.setIfInBounds_toArray, List.set_cons_zero, List.set_cons_succ]
          refine wpAnyH_take (i := 4) (oi := ⟨some 95, _, _, _, _, _⟩) (v := ?_) rfl (by kernel_rfl) (by kernel_rfl) (by kernel_rfl) (fun _ _ _ h => h) (Or.inl ⟨by rfl, ?_⟩) hHeld ?_
          rotate_left
          · (intro w9 hSw; (try dsimp only at hSw); go_simp)
            all_goals with_reducible rfl
          try simp only [Act.put, List.setIfInBounds_toArray, List.set_cons_zero, List.set_cons_succ]
          refine wpAnyH_take (i := 5) (oi := ⟨some 96, _, _, _, _, _⟩) (v := ?_) rfl (by kernel_rfl) (by kernel_rfl) (by kernel_rfl) (fun _ _ _ h => h) (Or.inl ⟨by rfl, ?_⟩) hHeld ?_
          rotate_left
          · (intro w9 hSw; (try dsimp only at hSw); go_simp)
            all_goals with_reducible rfl
          try simp only [Act.put, List.setIfInBounds_toArray, List.set_cons_zero, List.set_cons_succ]
          refine wpAnyH_take (i := 6) (oi := ⟨some 97, _, _, _, _, _⟩) (v := ?_) rfl (by kernel_rfl) (by kernel_rfl) (by kernel_rfl) (fun _ _ _ h => h) (Or.inl ⟨by rfl, ?_⟩) hHeld ?_
          rotate_left
          · (intro w9 hSw; (try dsimp only at hSw); go_simp)
            all_goals with_reducible rfl
          try simp only [Act.put, List.setIfInBounds_toArray, List.set_cons_zero, List.set_cons_succ]
          refine wpAnyH_take (i := 7) (oi := ⟨some 98, _, _, _, _, _⟩) (v := ?_) rfl (by kernel_rfl) (by kernel_rfl) (by kernel_rfl) (fun _ _ _ h => h) (Or.inl ⟨by rfl, ?_⟩) hHeld ?_
          rotate_left
          · (intro w9 hSw; obtain ⟨hs0, hs1, hs2, hs3, hs4, hs5, hs6, hs7⟩ := hSw; clear hs0 hs1 hs7; go_simp)
            all_goals with_reducible rfl
          try simp only [Act.put, List.setIfInBounds_toArray, List.set_cons_zero, List.set_cons_succ]
          refine wpAnyH_take (i := 8) (oi := ⟨some 99, _, _, _, _, _⟩) (v := ?_) rfl (by kernel_rfl) (by kernel_rfl) (by kernel_rfl) (fun _ _ _ h => h) (Or.inl ⟨by rfl, ?_⟩) hHeld ?_
          rotate_left
          · (intro w9 hSw; (try dsimp only at hSw); go_simp)
            all_goals with_reducible rfl
          try simp only [Act.put, List.setIfInBounds_toArray, List.set_cons_zero, List.set_cons_succ]
          refine wpAnyH_take (i := 9) (oi := ⟨some 100, _, _, _, _, _⟩) (v := ?_) rfl (by kernel_rfl) (by kernel_rfl) (by kernel_rfl) (fun _ _ _ h => h) (Or.inl ⟨by rfl, ?_⟩) hHeld ?_
          rotate_left
          · (intro w9 hSw; (try dsimp only at hSw); go_simp)
            all_goals with_reducible rfl
          try simp only [Act.put, List.setIfInBounds_toArray, List.set_cons_zero, List.set_cons_succ]
          refine wpAnyH_take (i := 10) (oi := ⟨some 101, _, _, _, _, _⟩) (v := undef) rfl (by kernel_rfl) (by kernel_rfl) (by kernel_rfl) (fun _ _ _ h => h) (Or.inr ⟨by rfl, rfl⟩) hHeld ?_
          try simp only [Act.put, List.setIfInBounds_toArray, List.set_cons_zero, List.set_cons_succ]
          refine wpAnyH_take (i := 11) (oi := ⟨some 102, _, _, _, _, _⟩) (v := undef) rfl (by kernel_rfl) (by kernel_rfl) (by kernel_rfl) (fun _ _ _ h => h) (Or.inr ⟨by rfl, rfl⟩) hHeld ?_
          try simp only [Act.put, List.setIfInBounds_toArray, List.set_cons_zero, List.set_cons_succ]
          refine wpAnyH_take (i := 12) (oi := ⟨some 103, _, _, _, _, _⟩) (v := undef) rfl (by kernel_rfl) (by kernel_rfl) (by kernel_rfl) (fun _ _ _ h => h) (Or.inr ⟨by rfl, rfl⟩) hHeld ?_
          try simp only [Act.put, List.setIfInBounds_toArray, List.set_cons_zero, List.set_cons_succ]
          refine wpAnyH_take (i := 13) (oi := ⟨some 104, _, _, _, _, _⟩) (v := undef) rfl (by kernel_rfl) (by kernel_rfl) (by kernel_rfl) (fun _ _ _ h => h) (Or.inr ⟨by rfl, rfl⟩) hHeld ?_
          try simp only [Act.put, List.setIfInBounds_toArray, List.set_cons_zero, List.set_cons_succ]
          refine wpAnyH_take (i := 14) (oi := ⟨some 105, _, _, _, _, _⟩) (v := undef) rfl (by kernel_rfl) (by kernel_rfl) (by kernel_rfl) (fun _ _ _ h => h) (Or.inr ⟨by rfl, rfl⟩) hHeld ?_
          try simp only [Act.put, List.setIfInBounds_toArray, List.set_cons_zero, List.set_cons_succ]
          refine wpAnyH_take (i := 15) (oi := ⟨some 106, _, _, _, _, _⟩) (v := undef) rfl (by kernel_rfl) (by kernel_rfl) (by kernel_rfl) (fun _ _ _ h => h) (Or.inr ⟨by rfl, rfl⟩) hHeld ?_
          try simp only [Act.put, List.setIfInBounds_toArray, List.set_cons_zero, List.set_cons_succ]
          refine wpAnyH_take (i := 16) (oi := ⟨some 107, _, _, _, _, _⟩) (v := ?_) rfl (by kernel_rfl) (by kernel_rfl) (by kernel_rfl) (fun _ _ _ h => h) (Or.inl ⟨by rfl, ?_⟩) hHeld ?_
          rotate_left
          · (intro w9 hSw; (try dsimp only at hSw); go_simp)
            all_goals with_reducible rfl
          try simp only [Act.put, List.setIfInBounds_toArray, List.set_cons_zero, List.set_cons_succ]
          refine wpAnyH_take (i := 17) (oi := ⟨some 108, _, _, _, _, _⟩) (v := ?_) rfl (by kernel_rfl) (by kernel_rfl) (by kernel_rfl) (fun _ _ _ h => h) (Or.inl ⟨by rfl, ?_⟩) hHeld ?_
          rotate_left
          · (intro w9 hSw; (try dsimp only at hSw); go_simp)
            all_goals with_reducible rfl
          try simp only [Act.put, List.setIfInBounds_toArray, List.set_cons_zero, List.set_cons_succ]
          refine wpAnyH_take (i := 18) (oi := ⟨some 109, _, _, _, _, _⟩) (v := ?_) rfl (by kernel_rfl) (by kernel_rfl) (by kernel_rfl) (fun _ _ _ h => h) (Or.inl ⟨by rfl, ?_⟩) hHeld ?_
          rotate_left
          · (intro w9 hSw; (try dsimp only at hSw); go_simp)
            all_goals with_reducible rfl
          try simp only [Act.put, List.setIfInBounds_toArray, List.set_cons_zero, List.set_cons_succ]
          refine wpAnyH_take (i := 19) (oi := ⟨some 110, _, _, _, _, _⟩) (v := ?_) rfl (by kernel_rfl) (by kernel_rfl) (by kernel_rfl) (fun _ _ _ h => h) (Or.inl ⟨by rfl, ?_⟩) hHeld ?_
          rotate_left
          · (intro w9 hSw; obtain ⟨hs0, hs1, hs2, hs3, hs4, hs5, hs6, hs7⟩ := hSw; clear hs0 hs1 hs7; go_simp)
            all_goals with_reducible rfl
          try simp only [Act.put, List.setIfInBounds_toArray, List.set_cons_zero, List.set_cons_succ]
          refine wpAnyH_take (i := 20) (oi := ⟨some 111, _, _, _, _, _⟩) (v := ?_) rfl (by kernel_rfl) (by kernel_rfl) (by kernel_rfl) (fun _ _ _ h => h) (Or.inl ⟨by rfl, ?_⟩) hHeld ?_
          rotate_left
          · (intro w9 hSw; (try dsimp only at hSw); go_simp)
            all_goals with_reducible rfl
          try simp only [Act.put, List.setIfInBounds_toArray, List.set_cons_zero, List.set_cons_succ]
          refine wpAnyH_take (i := 21) (oi := ⟨some 112, _, _, _, _, _⟩) (v := ?_) rfl (by kernel_rfl) (by kernel_rfl) (by kernel_rfl) (fun _ _ _ h => h) (Or.inl ⟨by rfl, ?_⟩) hHeld ?_
          rotate_left
          · (intro w9 hSw; (try dsimp only at hSw); go_simp)
            all_goals with_reducible rfl
          try simp only [Act.put, List.setIfInBounds_toArray, List.set_cons_zero, List.set_cons_succ]
          refine wpAnyH_take (i := 22) (oi := ⟨some 113, _, _, _, _, _⟩) (v := ?_) rfl (by kernel_rfl) (by kernel_rfl) (by kernel_rfl) (fun _ _ _ h => h) (Or.inl ⟨by rfl, ?_⟩) hHeld ?_
          rotate_left
          · (intro w9 hSw; (try dsimp only at hSw); go_simp)
            all_goals with_reducible rfl
          try simp only [Act.put, List.setIfInBounds_toArray, List.set_cons_zero, List.set_cons_succ]
          refine wpAnyH_take (i := 23) (oi := ⟨some 114, _, _, _, _, _⟩) (v := ?_) rfl (by kernel_rfl) (by kernel_rfl) (by kernel_rfl) (fun _ _ _ h => h) (Or.inl ⟨by rfl, ?_⟩) hHeld ?_
          rotate_left
          · (intro w9 hSw; obtain ⟨hs0, hs1, hs2, hs3, hs4, hs5, hs6, hs7⟩ := hSw; clear hs0 hs1 hs7; go_simp)
            all_goals with_reducible rfl
          try simp only [Act.put, List.setIfInBounds_toArray, List.set_cons_zero, List.set_cons_succ]
          refine wpAnyH_take (i := 24) (oi := ⟨some 115, _, _, _, _, _⟩) (v := ?_) rfl (by kernel_rfl) (by kernel_rfl) (by kernel_rfl) (fun _ _ _ h => h) (Or.inl ⟨by rfl, ?_⟩) hHeld ?_
          rotate_left
          · (intro w9 hSw; (try dsimp only at hSw); go_simp)
            all_goals with_reducible rfl
          try simp only [Act.put, List.setIfInBounds_toArray, List.set_cons_zero, List.set_cons_succ]
          refine wpAnyH_take (i := 25) (oi := ⟨some 116, _, _, _, _, _⟩) (v := ?_) rfl (by kernel_rfl) (by kernel_rfl) (by kernel_rfl) (fun _ _ _ h => h) (Or.inl ⟨by rfl, ?_⟩) hHeld ?_
          rotate_left
          · (intro w9 hSw; (try dsimp only at hSw); go_simp)
            all_goals with_reducible rfl
          try simp only [Act.put, List.setIfInBounds_toArray, List.set_cons_zero, List.set_cons_succ]
          refine wpAnyH_take (i := 26) (oi := ⟨some 117, _, _, _, _, _⟩) (v := ?_) rfl (by kernel_rfl) (by kernel_rfl) (by kernel_rfl) (fun _ _ _ h => h) (Or.inl ⟨by rfl, ?_⟩) hHeld ?_
          rotate_left
          · (intro w9 hSw; (try dsimp only at hSw); go_simp)
            all_goals with_reducible rfl
          try simp only [Act.put, List.setIfInBounds_toArray, List.set_cons_zero, List.set_cons_succ]
          refine wpAnyH_take (i := 27) (oi := ⟨some 118, _, _, _, _, _⟩) (v := ?_) rfl (by kernel_rfl) (by kernel_rfl) (by kernel_rfl) (fun _ _ _ h => h) (Or.inl ⟨by rfl, ?_⟩) hHeld ?_
          rotate_left
          · (intro w9 hSw; (try dsimp only at hSw); go_simp)
            all_goals with_reducible rfl
          try simp only [Act.put, List.setIfInBounds_toArray, List.set_cons_zero, List.set_cons_succ]
          refine wpAnyH_take (i := 28) (oi := ⟨some 119, _, _, _, _, _⟩) (v := ?_) rfl (by kernel_rfl) (by kernel_rfl) (by kernel_rfl) (fun _ _ _ h => h) (Or.inl ⟨by rfl, ?_⟩) hHeld ?_
          rotate_left
          · (intro w9 hSw; (try dsimp only at hSw); go_simp)
            all_goals with_reducible rfl
          try simp only [Act.put, List.setIfInBounds_toArray, List.set_cons_zero, List.set_cons_succ]
          refine wpAnyH_take (i := 29) (oi := ⟨some 120, _, _, _, _, _⟩) (v := ?_) rfl (by kernel_rfl) (by kernel_rfl) (by kernel_rfl) (fun _ _ _ h => h) (Or.inl ⟨by rfl, ?_⟩) hHeld ?_
          rotate_left
          · (intro w9 hSw; (try dsimp only at hSw); go_simp)
            all_goals with_reducible rfl
          try simp only [Act.put, List.setIfInBounds_toArray, List.set_cons_zero, List.set_cons_succ]
          refine wpAnyH_take (i := 30) (oi := ⟨some 121, _, _, _, _, _⟩) (v := ?_) rfl (by kernel_rfl) (by kernel_rfl) (by kernel_rfl) (fun _ _ _ h => h) (Or.inl ⟨by rfl, ?_⟩) hHeld ?_
          rotate_left
          · (intro w9 hSw; obtain ⟨hs0, hs1, hs2, hs3, hs4, hs5, hs6, hs7⟩ := hSw; clear hs0 hs1 hs7; go_simp)
            all_goals with_reducible rfl
          try simp only [Act.put, List.setIfInBounds_toArray, List.set_cons_zero, List.set_cons_succ]
          refine wpAnyH_take (i := 31) (oi := ⟨some 122, _, _, _, _, _⟩) (v := ?_) rfl (by kernel_rfl) (by kernel_rfl) (by kernel_rfl) (fun _ _ _ h => h) (Or.inl ⟨by rfl, ?_⟩) hHeld ?_
          rotate_left
          · (intro w9 hSw; (try dsimp only at hSw); go_simp)
            all_goals with_reducible rfl
          try simp only [Act.put, List.setIfInBounds_toArray, List.set_cons_zero, List.set_cons_succ]
          refine wpAnyH_take (i := 32) (oi := ⟨some 123, _, _, _, _, _⟩) (v := ?_) rfl (by kernel_rfl) (by kernel_rfl) (by kernel_rfl) (fun _ _ _ h => h) (Or.inl ⟨by rfl, ?_⟩) hHeld ?_
          rotate_left
          · (intro w9 hSw; (try dsimp only at hSw); go_simp)
            all_goals with_reducible rfl
          try simp only [Act.put, List.setIfInBounds_toArray, List.set_cons_zero, List.set_cons_succ]
          refine wpAnyH_take (i := 33) (oi := ⟨some 124, _, _, _, _, _⟩) (v := undef) rfl (by kernel_rfl) (by kernel_rfl) (by kernel_rfl) (fun _ _ _ h => h) (Or.inr ⟨by rfl, rfl⟩) hHeld ?_
          try simp only [Act.put, List.setIfInBounds_toArray, List.set_cons_zero, List.set_cons_succ]
          refine wpAnyH_take (i := 34) (oi := ⟨some 125, _, _, _, _, _⟩) (v := undef) rfl (by kernel_rfl) (by kernel_rfl) (by kernel_rfl) (fun _ _ _ h => h) (Or.inr ⟨by rfl, rfl⟩) hHeld ?_
          try simp only [Act.put, List.setIfInBounds_toArray, List.set_cons_zero, List.set_cons_succ]
          refine wpAnyH_take (i := 35) (oi := ⟨some 126, _, _, _, _, _⟩) (v := undef) rfl (by kernel_rfl) (by kernel_rfl) (by kernel_rfl) (fun _ _ _ h => h) (Or.inr ⟨by rfl, rfl⟩) hHeld ?_
          try simp only [Act.put, List.setIfInBounds_toArray, List.set_cons_zero, List.set_cons_succ]
          refine wpAnyH_take (i := 36) (oi := ⟨some 127, _, _, _, _, _⟩) (v := undef) rfl (by kernel_rfl) (by kernel_rfl) (by kernel_rfl) (fun _ _ _ h => h) (Or.inr ⟨by rfl, rfl⟩) hHeld ?_
          try simp only [Act.put, List.setIfInBounds_toArray, List.set_cons_zero, List.set_cons_succ]
          refine wpAnyH_take (i := 37) (oi := ⟨some 128, _, _, _, _, _⟩) (v := undef) rfl (by kernel_rfl) (by kernel_rfl) (by kernel_rfl) (fun _ _ _ h => h) (Or.inr ⟨by rfl, rfl⟩) hHeld ?_
          try simp only [Act.put, List.setIfInBounds_toArray, List.set_cons_zero, List.set_cons_succ]
          refine wpAnyH_take (i := 38) (oi := ⟨some 129, _, _, _, _, _⟩) (v := undef) rfl (by kernel_rfl) (by kernel_rfl) (by kernel_rfl) (fun _ _ _ h => h) (Or.inr ⟨by rfl, rfl⟩) hHeld ?_
          try simp only [Act.put, List.setIfInBounds_toArray, List.set_cons_zero, List.set_cons_succ]
          refine wpAnyH_take (i := 39) (oi := ⟨some 130, _, _, _, _, _⟩) (v := ?_) rfl (by kernel_rfl) (by kernel_rfl) (by kernel_rfl) (fun _ _ _ h => h) (Or.inl ⟨by rfl, ?_⟩) hHeld ?_
          rotate_left
          · (intro w9 hSw; (try dsimp only at hSw); go_simp)
            all_goals with_reducible rfl
          try simp only [Act.put, List.setIfInBounds_toArray, List.set_cons_zero, List.set_cons_succ]
          refine wpAnyH_take (i := 40) (oi := ⟨some 131, _, _, _, _, _⟩) (v := ?_) rfl (by kernel_rfl) (by kernel_rfl) (by kernel_rfl) (fun _ _ _ h => h) (Or.inl ⟨by rfl, ?_⟩) hHeld ?_
          rotate_left
          · (intro w9 hSw; (try dsimp only at hSw); go_simp)
            all_goals with_reducible rfl
          try simp only [Act.put, List.setIfInBounds_toArray, List.set_cons_zero, List.set_cons_succ]
          refine wpAnyH_take (i := 41) (oi := ⟨some 132, _, _, _, _, _⟩) (v := ?_) rfl (by kernel_rfl) (by kernel_rfl) (by kernel_rfl) (fun _ _ _ h => h) (Or.inl ⟨by rfl, ?_⟩) hHeld ?_
          rotate_left
          · (intro w9 hSw; (try dsimp only at hSw); go_simp)
            all_goals with_reducible rfl
          try simp only [Act.put, List.setIfInBounds_toArray, List.set_cons_zero, List.set_cons_succ]
          refine wpAnyH_take (i := 42) (oi := ⟨some 133, _, _, _, _, _⟩) (v := ?_) rfl (by kernel_rfl) (by kernel_rfl) (by kernel_rfl) (fun _ _ _ h => h) (Or.inl ⟨by rfl, ?_⟩) hHeld ?_
          rotate_left
          · (intro w9 hSw; obtain ⟨hs0, hs1, hs2, hs3, hs4, hs5, hs6, hs7⟩ := hSw; clear hs0 hs1 hs7; go_simp)
            all_goals with_reducible rfl
          try simp only [Act.put, List.setIfInBounds_toArray, List.set_cons_zero, List.set_cons_succ]
          refine wpAnyH_take (i := 43) (oi := ⟨some 134, _, _, _, _, _⟩) (v := ?_) rfl (by kernel_rfl) (by kernel_rfl) (by kernel_rfl) (fun _ _ _ h => h) (Or.inl ⟨by rfl, ?_⟩) hHeld ?_
          rotate_left
          · (intro w9 hSw; (try dsimp only at hSw); go_simp)
            all_goals with_reducible rfl
          try simp only [Act.put, List.setIfInBounds_toArray, List.set_cons_zero, List.set_cons_succ]
          refine wpAnyH_take (i := 44) (oi := ⟨some 135, _, _, _, _, _⟩) (v := ?_) rfl (by kernel_rfl) (by kernel_rfl) (by kernel_rfl) (fun _ _ _ h => h) (Or.inl ⟨by rfl, ?_⟩) hHeld ?_
          rotate_left
          · (intro w9 hSw; (try dsimp only at hSw); go_simp)
            all_goals with_reducible rfl
          try simp only [Act.put, List.setIfInBounds_toArray, List.set_cons_zero, List.set_cons_succ]
          refine wpAnyH_take (i := 45) (oi := ⟨some 136, _, _, _, _, _⟩) (v := ?_) rfl (by kernel_rfl) (by kernel_rfl) (by kernel_rfl) (fun _ _ _ h => h) (Or.inl ⟨by rfl, ?_⟩) hHeld ?_
          rotate_left
          · (intro w9 hSw; (try dsimp only at hSw); go_simp)
            all_goals with_reducible rfl
          try simp only [Act.put, List.setIfInBounds_toArray, List.set_cons_zero, List.set_cons_succ]
          refine wpAnyH_take (i := 46) (oi := ⟨some 137, _, _, _, _, _⟩) (v := ?_) rfl (by kernel_rfl) (by kernel_rfl) (by kernel_rfl) (fun _ _ _ h => h) (Or.inl ⟨by rfl, ?_⟩) hHeld ?_
          rotate_left
          · (intro w9 hSw; obtain ⟨hs0, hs1, hs2, hs3, hs4, hs5, hs6, hs7⟩ := hSw; clear hs0 hs1 hs7; go_simp)
            all_goals with_reducible rfl
          try simp only [Act.put, List.setIfInBounds_toArray, List.set_cons_zero, List.set_cons_succ]
          refine wpAnyH_take (i := 47) (oi := ⟨some 138, _, _, _, _, _⟩) (v := ?_) rfl (by kernel_rfl) (by kernel_rfl) (by kernel_rfl) (fun _ _ _ h => h) (Or.inl ⟨by rfl, ?_⟩) hHeld ?_
          rotate_left
          · (intro w9 hSw; (try dsimp only at hSw); go_simp)
            all_goals with_reducible rfl
          try simp only [Act.put, List.setIfInBounds_toArray, List.set_cons_zero, List.set_cons_succ]
          refine wpAnyH_take (i := 48) (oi := ⟨some 139, _, _, _, _, _⟩) (v := ?_) rfl (by kernel_rfl) (by kernel_rfl) (by kernel_rfl) (fun _ _ _ h => h) (Or.inl ⟨by rfl, ?_⟩) hHeld ?_
          rotate_left
          · (intro w9 hSw; (try dsimp only at hSw); go_simp)
            all_goals with_reducible rfl
          try simp only [Act.put, List.setIfInBounds_toArray, List.set_cons_zero, List.set_cons_succ]
          refine wpAnyH_take (i := 49) (oi := ⟨some 140, _, _, _, _, _⟩) (v := ?_) rfl (by kernel_rfl) (by kernel_rfl) (by kernel_rfl) (fun _ _ _ h => h) (Or.inl ⟨by rfl, ?_⟩) hHeld ?_
          rotate_left
          · (intro w9 hSw; (try dsimp only at hSw); go_simp)
            all_goals with_reducible rfl
          try simp only [Act.put, List.setIfInBounds_toArray, List.set_cons_zero, List.set_cons_succ]
          refine wpAnyH_take (i := 50) (oi := ⟨some 141, _, _, _, _, _⟩) (v := ?_) rfl (by kernel_rfl) (by kernel_rfl) (by kernel_rfl) (fun _ _ _ h => h) (Or.inl ⟨by rfl, ?_⟩) hHeld ?_
          rotate_left
          · (intro w9 hSw; (try dsimp only at hSw); go_simp)
            all_goals with_reducible rfl
          try simp only [Act.put, List.setIfInBounds_toArray, List.set_cons_zero, List.set_cons_succ]
          refine wpAnyH_take (i := 51) (oi := ⟨some 8, _, _, _, _, _⟩) (v := ?_) rfl (by kernel_rfl) (by kernel_rfl) (by kernel_rfl) (fun _ _ _ h => h) (Or.inl ⟨by rfl, ?_⟩) hHeld ?_
          rotate_left
          · (intro w9 hSw; (try dsimp only at hSw); go_simp)
            all_goals with_reducible rfl
          try simp only [Act.put, List.setIfInBounds_toArray, List.set_cons_zero, List.set_cons_succ]
          refine wpAnyH_done (by kernel_rfl) ?_ _
          try simp only [Act.put, List.setIfInBounds_toArray, List.set_cons_zero, List.set_cons_succ]
          go_wp2_with fail
          go_ret
          refine ⟨?_, hB⟩
          rfl
end Go.Proofs.YtkhohjdakcchdaaGreatDoor
