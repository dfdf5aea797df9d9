/- The law ValEach, walked: it tells true. (By genEachLaw.py.) -/
import Derived.Test.YtkhohjdakcchdaaGreatDoorUni
namespace Go.Proofs.YtkhohjdakcchdaaGreatDoor
open Go Go.RowKit Go.Shelf
set_option maxRecDepth 100000 in
set_option maxHeartbeats 16000000 in
theorem law_each (r c : Int) (v : Value) (zs : List Rw) (a b : Int) (w : World) (hr0 : i64R r) (hc0 : i64R c) (ha0 : i64R a) (hb0 : i64R b) (hr : RawsAt w w.heap.size v zs) (hS : Shp w) (hT : Lib.Utf8Tabs 0 1 w) :
    Calls Tryz.prog 8 #[.int .i64 r, .int .i64 c, v, .agg #[.int .i64 a, .int .i64 b]] w (Gives (.bool true) w) := by
  have hE : Env w := ⟨hT, hS⟩
  have HA := Lib.hid (show ∀ W, RawsAt W W.heap.size v zs → Calls Tryz.prog 13 #[.int .i64 r, .int .i64 c, v] W (HandsV (arrOf r c zs) W) from fun W h => arr13 hr0 hc0 h)
  have hAP : ∃ r' c' l, arrOf r c zs = arrV r' c' l ∧ rightV 3 (arrV r' c' l) = true := ⟨_, _, _, rfl, arrOf_right 2 r c zs⟩
  obtain ⟨x, hx⟩ : ∃ x, arrOf r c zs = x := ⟨_, rfl⟩
  rw [hx] at HA hAP
  obtain ⟨i, hi⟩ : ∃ i, pickI a 6 = i := ⟨_, rfl⟩
  obtain ⟨j, hj⟩ : ∃ j, pickI b 6 = j := ⟨_, rfl⟩
  have hi0 : 0 ≤ i := by rw [← hi]; exact (pickI_bd a (by decide)).1
  have hj0 : 0 ≤ j := by rw [← hj]; exact (pickI_bd b (by decide)).1
  have HPI := Lib.hid (show ∀ W, Calls Tryz.prog 24 #[.int .i64 a, .int .i64 6] W (fun e w' => e = .returned (.int .i64 i) ∧ w' = W) from fun W => pick_at a 6 i W ha0 (by decide) (by decide) (Lib.hid hi))
  have HPJ := Lib.hid (show ∀ W, Calls Tryz.prog 24 #[.int .i64 b, .int .i64 6] W (fun e w' => e = .returned (.int .i64 j) ∧ w' = W) from fun W => pick_at b 6 j W hb0 (by decide) (by decide) (Lib.hid hj))
  have hNT := get_eachA (fun _ => numT_plain) (show numT (errV 7) = errV 7 from rfl) hAP hi0 hj0
  have hTT := get_eachA (fun _ => txtT_plain) (show txtT (errV 7) = errV 7 from rfl) hAP hi0 hj0
  have hUT := get_eachA (fun _ => truT_plain) (show truT (errV 7) = errV 7 from rfl) hAP hi0 hj0
  have hAN := each_isarr (fun _ => numT_plain) hAP
  have hAT := each_isarr (fun _ => txtT_plain) hAP
  have hAU := each_isarr (fun _ => truT_plain) hAP
  have HNT := Lib.hid hNT
  have HTT := Lib.hid hTT
  have HUT := Lib.hid hUT
  have HAP := Lib.hid hAP
  have HAN := Lib.hid hAN
  have HAT := Lib.hid hAT
  have HAU := Lib.hid hAU
  have HI := Lib.hid (And.intro hi0 hj0)
  clear hx hi hj hi0 hj0 hNT hTT hUT hAP hAN hAT hAU hS hT hr0 hc0 ha0 hb0
  have hB : Below w.heap.size w w := Below.refl _ w
  go_enter Tryz.func8, Tryz.ntmps8
  go_wp2_with fail
  have hB1 : Below w.heap.size w (w.alloc (.cells #[.int .i64 a, .int .i64 b] 41)) := (Below.refl _ w).alloc (Nat.le_refl _) _
  have hblk : World.blk (w.alloc (.cells #[.int .i64 a, .int .i64 b] 41)) w.heap.size 41 #[.int .i64 a, .int .i64 b] := blk_new w 41 _
  have hE := hE.below hB1
  have hr := hr.at hB1 hB1.size
  have hB := hB1
  clear hB1
  obtain ⟨w0, hw0⟩ : ∃ w0, w0 = w.alloc (.cells #[.int .i64 a, .int .i64 b] 41) := ⟨_, rfl⟩
  rw [← hw0] at hE hr hB hblk ⊢
  clear hw0
  refine (awk11 hE).mono ?_
  rintro e1 w1 ⟨rfl, hB1⟩
  have hblk := hblk.below hB1 hblk.lt
  have hE := hE.below hB1
  have hr := hr.at hB1 (Nat.le_trans (Nat.le_refl _) hB1.size)
  have hB := hB.trans (hB1.mono hB.size)
  clear hB1
  go_wp2_with fail
  refine (HA.out _ hr).mono ?_
  rintro e2 w2 ⟨Cv, rfl, hv, hB2⟩
  have hblk := hblk.below hB2 hblk.lt
  have hE := hE.below hB2
  have hr := hr.at hB2 (Nat.le_trans (Nat.le_refl _) hB2.size)
  have hB := hB.trans (hB2.mono hB.size)
  clear hB2 HA hr
  obtain ⟨b10, hb10⟩ : ∃ b, b = w2.heap.size := ⟨_, rfl⟩
  go_wp2_with (first | refine wpList_alloc34 rfl rfl ?_ | (refine wpList_store34 rfl rfl rfl rfl (World.vb_new w2 vz) (by rfl) hv.one ?_; intro w3 hn10 hg3 hz3; have hB3 := vb_made hg3; have hblk := hblk.below hB3 hblk.lt; have hE := hE.below hB3; have hv := hv.below hB3; have hB := hB.trans (hB3.mono hB.size); have q0 := hblk.cell (j := 0) rfl; have q1 := hblk.cell (j := 1) rfl))
  rw [← hb10] at hn10 ⊢
  clear hb10 hg3 hz3 hB3
  refine (HPI.out _).mono ?_
  rintro e90 w90 ⟨rfl, rfl⟩
  go_wp2_with fail
  refine (HPJ.out _).mono ?_
  rintro e91 w91 ⟨rfl, rfl⟩
  go_wp2_with (refine wpList_load34 rfl rfl rfl hn10 hv.one.1 ?_)
  clear q0 q1 hblk HPI HPJ
  refine (getA hv HAP.out hE HI.out.1 HI.out.2).mono ?_
  rintro e4 w4 ⟨Cg, rfl, hg, hB4⟩
  have hE := hE.below hB4
  have hv := hv.below hB4
  have hn10 := hn10.below hB4 hn10.lt
  have hB := hB.trans (hB4.mono hB.size)
  clear hB4
  obtain ⟨b13, hb13⟩ : ∃ b, b = w4.heap.size := ⟨_, rfl⟩
  go_wp2_with (first | refine wpList_alloc34 rfl rfl ?_ | (refine wpList_store34 rfl rfl rfl rfl (World.vb_new w4 vz) (by rfl) hg.one ?_; intro w5 hn13 hg5 hz5; have hB5 := vb_made hg5; have hE := hE.below hB5; have hv := hv.below hB5; have hg := hg.below hB5; have hn10 := hn10.below hB5 hn10.lt; have hB := hB.trans (hB5.mono hB.size)))
  rw [← hb13] at hn13 ⊢
  clear hb13 hg5 hz5 hB5
  refine wp_region_held_drew (S := (fun w9 => World.vb w9 b10 Cv ∧ World.vb w9 b13 Cg)) (by kernel_rfl) ⟨hn10, hn13⟩ (fun hHeld => ?_)
  have hBd := World.drew_below w5
  have hE := hE.below hBd
  have hv := hv.below hBd
  have hg := hg.below hBd
  have hn10 := hn10.below hBd hn10.lt
  have hn13 := hn13.below hBd hn13.lt
  have hB := hB.trans (hBd.mono hB.size)
  clear hBd
  refine wpAnyH_take (i := 0) (oi := ⟨some 29, _, _, _, _, _⟩) (v := ?_) rfl (by kernel_rfl) (by kernel_rfl) (by kernel_rfl) (fun _ _ _ h => h) (Or.inl ⟨by rfl, ?_⟩) hHeld ?_
  rotate_left
  · (intro w9 hSw; (try dsimp only at hSw); go_simp)
    all_goals with_reducible rfl
  try simp only [Act.put, List.setIfInBounds_toArray, List.set_cons_zero, List.set_cons_succ]
  refine wpAnyH_take (i := 1) (oi := ⟨some 30, _, _, _, _, _⟩) (v := ?_) rfl (by kernel_rfl) (by kernel_rfl) (by kernel_rfl) (fun _ _ _ h => h) (Or.inl ⟨by rfl, ?_⟩) hHeld ?_
  rotate_left
  · (intro w9 hSw; (try dsimp only at hSw); go_simp)
    all_goals with_reducible rfl
  try simp only [Act.put, List.setIfInBounds_toArray, List.set_cons_zero, List.set_cons_succ]
  refine wpAnyH_take (i := 2) (oi := ⟨some 31, _, _, _, _, _⟩) (v := ?_) rfl (by kernel_rfl) (by kernel_rfl) (by kernel_rfl) (fun _ _ _ h => h) (Or.inl ⟨by rfl, ?_⟩) hHeld ?_
  rotate_left
  · (intro w9 hSw; refine yields34 (x := .tmp 10) (g := b10) (cs := Cv) ?_ ?_ hv.one.1 hSw.1 <;> rfl)
  try simp only [Act.put, List.setIfInBounds_toArray, List.set_cons_zero, List.set_cons_succ]
  refine wpAnyH_take (i := 4) (oi := ⟨some 33, _, _, _, _, _⟩) (v := ?_) rfl (by kernel_rfl) (by kernel_rfl) (by kernel_rfl) (fun _ _ _ h => h) (Or.inl ⟨by rfl, ?_⟩) hHeld ?_
  rotate_left
  · (intro w9 hSw; (try dsimp only at hSw); go_simp)
    all_goals with_reducible rfl
  try simp only [Act.put, List.setIfInBounds_toArray, List.set_cons_zero, List.set_cons_succ]
  refine wpAnyH_take (i := 5) (oi := ⟨some 34, _, _, _, _, _⟩) (v := ?_) rfl (by kernel_rfl) (by kernel_rfl) (by kernel_rfl) (fun _ _ _ h => h) (Or.inl ⟨by rfl, ?_⟩) hHeld ?_
  rotate_left
  · (intro w9 hSw; (try dsimp only at hSw); go_simp)
    all_goals with_reducible rfl
  try simp only [Act.put, List.setIfInBounds_toArray, List.set_cons_zero, List.set_cons_succ]
  refine wpAnyH_take (i := 7) (oi := ⟨some 36, _, _, _, _, _⟩) (v := ?_) rfl (by kernel_rfl) (by kernel_rfl) (by kernel_rfl) (fun _ _ _ h => h) (Or.inl ⟨by rfl, ?_⟩) hHeld ?_
  rotate_left
  · (intro w9 hSw; refine yields34 (x := .tmp 13) (g := b13) (cs := Cg) ?_ ?_ hg.one.1 hSw.2 <;> rfl)
  try simp only [Act.put, List.setIfInBounds_toArray, List.set_cons_zero, List.set_cons_succ]
  refine wpAnyH_ready (rs := [3]) (by kernel_rfl) (by simp) ?_
  refine (AllReadyH.cons (o := ⟨some 32, _, _, _, _, _⟩) rfl (fun KK hK => ?_) AllReadyH.nil)
  rw [if_pos (by rfl)]
  go_simp
  refine (to29 hv hE).mono ?_
  rintro e6 w6 ⟨Cx32, rfl, hx32, hB6⟩
  have hE := hE.below hB6
  have hv := hv.below hB6
  have hg := hg.below hB6
  have hn10 := hn10.below hB6 hn10.lt
  have hn13 := hn13.below hB6 hn13.lt
  have hB := hB.trans (hB6.mono hB.size)
  clear hB6
  refine hK.out _ _ ⟨hn10, hn13⟩ ?_
  clear hK KK hHeld
  intro hHeld
  try simp only [Act.put, List.setIfInBounds_toArray, List.set_cons_zero, List.set_cons_succ]
  refine wpAnyH_ready (rs := [6]) (by kernel_rfl) (by simp) ?_
  refine (AllReadyH.cons (o := ⟨some 35, _, _, _, _, _⟩) rfl (fun KK hK => ?_) AllReadyH.nil)
  rw [if_pos (by rfl)]
  go_simp
  refine (getA hx32 HAN.out hE HI.out.1 HI.out.2).mono ?_
  rintro e7 w7 ⟨Cx35, rfl, hx35, hB7⟩
  clear hx32
  have hE := hE.below hB7
  have hv := hv.below hB7
  have hg := hg.below hB7
  have hn10 := hn10.below hB7 hn10.lt
  have hn13 := hn13.below hB7 hn13.lt
  have hB := hB.trans (hB7.mono hB.size)
  clear hB7
  refine hK.out _ _ ⟨hn10, hn13⟩ ?_
  clear hK KK hHeld
  intro hHeld
  try simp only [Act.put, List.setIfInBounds_toArray, List.set_cons_zero, List.set_cons_succ]
  refine wpAnyH_ready (rs := [8]) (by kernel_rfl) (by simp) ?_
  refine (AllReadyH.cons (o := ⟨some 37, _, _, _, _, _⟩) rfl (fun KK hK => ?_) AllReadyH.nil)
  rw [if_pos (by rfl)]
  go_simp
  refine (to29 hg hE).mono ?_
  rintro e8 w8 ⟨Cx37, rfl, hx37, hB8⟩
  have hE := hE.below hB8
  have hv := hv.below hB8
  have hg := hg.below hB8
  have hx35 := hx35.below hB8
  have hn10 := hn10.below hB8 hn10.lt
  have hn13 := hn13.below hB8 hn13.lt
  have hB := hB.trans (hB8.mono hB.size)
  clear hB8
  refine hK.out _ _ ⟨hn10, hn13⟩ ?_
  clear hK KK hHeld
  intro hHeld
  try simp only [Act.put, List.setIfInBounds_toArray, List.set_cons_zero, List.set_cons_succ]
  refine wpAnyH_ready (rs := [9]) (by kernel_rfl) (by simp) ?_
  refine (AllReadyH.cons (o := ⟨some 38, _, _, _, _, _⟩) rfl (fun KK hK => ?_) AllReadyH.nil)
  rw [if_pos (by rfl)]
  go_simp
  refine (same26 hx35 hx37 HNT.out).mono ?_
  rintro e9 w9 ⟨rfl, hB9⟩
  clear hx35 hx37
  have hE := hE.below hB9
  have hv := hv.below hB9
  have hg := hg.below hB9
  have hn10 := hn10.below hB9 hn10.lt
  have hn13 := hn13.below hB9 hn13.lt
  have hB := hB.trans (hB9.mono hB.size)
  clear hB9
  refine hK.out _ _ ⟨hn10, hn13⟩ ?_
  clear hK KK hHeld
  intro hHeld
  try simp only [Act.put, List.setIfInBounds_toArray, List.set_cons_zero, List.set_cons_succ]
  refine wpAnyH_take (i := 10) (oi := ⟨some 39, _, _, _, _, _⟩) (v := ?_) rfl (by kernel_rfl) (by kernel_rfl) (by kernel_rfl) (fun _ _ _ h => h) (Or.inl ⟨by rfl, ?_⟩) hHeld ?_
  rotate_left
  · (intro w9 hSw; (try dsimp only at hSw); go_simp)
    all_goals with_reducible rfl
  try simp only [Act.put, List.setIfInBounds_toArray, List.set_cons_zero, List.set_cons_succ]
  refine wpAnyH_take (i := 11) (oi := ⟨some 40, _, _, _, _, _⟩) (v := ?_) rfl (by kernel_rfl) (by kernel_rfl) (by kernel_rfl) (fun _ _ _ h => h) (Or.inl ⟨by rfl, ?_⟩) hHeld ?_
  rotate_left
  · (intro w9 hSw; (try dsimp only at hSw); go_simp)
    all_goals with_reducible rfl
  try simp only [Act.put, List.setIfInBounds_toArray, List.set_cons_zero, List.set_cons_succ]
  refine wpAnyH_take (i := 12) (oi := ⟨some 41, _, _, _, _, _⟩) (v := ?_) rfl (by kernel_rfl) (by kernel_rfl) (by kernel_rfl) (fun _ _ _ h => h) (Or.inl ⟨by rfl, ?_⟩) hHeld ?_
  rotate_left
  · (intro w9 hSw; refine yields34 (x := .tmp 10) (g := b10) (cs := Cv) ?_ ?_ hv.one.1 hSw.1 <;> rfl)
  try simp only [Act.put, List.setIfInBounds_toArray, List.set_cons_zero, List.set_cons_succ]
  refine wpAnyH_take (i := 14) (oi := ⟨some 43, _, _, _, _, _⟩) (v := ?_) rfl (by kernel_rfl) (by kernel_rfl) (by kernel_rfl) (fun _ _ _ h => h) (Or.inl ⟨by rfl, ?_⟩) hHeld ?_
  rotate_left
  · (intro w9 hSw; (try dsimp only at hSw); go_simp)
    all_goals with_reducible rfl
  try simp only [Act.put, List.setIfInBounds_toArray, List.set_cons_zero, List.set_cons_succ]
  refine wpAnyH_take (i := 15) (oi := ⟨some 44, _, _, _, _, _⟩) (v := ?_) rfl (by kernel_rfl) (by kernel_rfl) (by kernel_rfl) (fun _ _ _ h => h) (Or.inl ⟨by rfl, ?_⟩) hHeld ?_
  rotate_left
  · (intro w9 hSw; (try dsimp only at hSw); go_simp)
    all_goals with_reducible rfl
  try simp only [Act.put, List.setIfInBounds_toArray, List.set_cons_zero, List.set_cons_succ]
  refine wpAnyH_take (i := 17) (oi := ⟨some 46, _, _, _, _, _⟩) (v := ?_) rfl (by kernel_rfl) (by kernel_rfl) (by kernel_rfl) (fun _ _ _ h => h) (Or.inl ⟨by rfl, ?_⟩) hHeld ?_
  rotate_left
  · (intro w9 hSw; refine yields34 (x := .tmp 13) (g := b13) (cs := Cg) ?_ ?_ hg.one.1 hSw.2 <;> rfl)
  try simp only [Act.put, List.setIfInBounds_toArray, List.set_cons_zero, List.set_cons_succ]
  refine wpAnyH_ready (rs := [13]) (by kernel_rfl) (by simp) ?_
  refine (AllReadyH.cons (o := ⟨some 42, _, _, _, _, _⟩) rfl (fun KK hK => ?_) AllReadyH.nil)
  rw [if_pos (by rfl)]
  go_simp
  refine (to30 hv hE).mono ?_
  rintro e10 w10 ⟨Cx42, rfl, hx42, hB10⟩
  have hE := hE.below hB10
  have hv := hv.below hB10
  have hg := hg.below hB10
  have hn10 := hn10.below hB10 hn10.lt
  have hn13 := hn13.below hB10 hn13.lt
  have hB := hB.trans (hB10.mono hB.size)
  clear hB10
  refine hK.out _ _ ⟨hn10, hn13⟩ ?_
  clear hK KK hHeld
  intro hHeld
  try simp only [Act.put, List.setIfInBounds_toArray, List.set_cons_zero, List.set_cons_succ]
  refine wpAnyH_ready (rs := [16]) (by kernel_rfl) (by simp) ?_
  refine (AllReadyH.cons (o := ⟨some 45, _, _, _, _, _⟩) rfl (fun KK hK => ?_) AllReadyH.nil)
  rw [if_pos (by rfl)]
  go_simp
  refine (getA hx42 HAT.out hE HI.out.1 HI.out.2).mono ?_
  rintro e11 w11 ⟨Cx45, rfl, hx45, hB11⟩
  clear hx42
  have hE := hE.below hB11
  have hv := hv.below hB11
  have hg := hg.below hB11
  have hn10 := hn10.below hB11 hn10.lt
  have hn13 := hn13.below hB11 hn13.lt
  have hB := hB.trans (hB11.mono hB.size)
  clear hB11
  refine hK.out _ _ ⟨hn10, hn13⟩ ?_
  clear hK KK hHeld
  intro hHeld
  try simp only [Act.put, List.setIfInBounds_toArray, List.set_cons_zero, List.set_cons_succ]
  refine wpAnyH_ready (rs := [18]) (by kernel_rfl) (by simp) ?_
  refine (AllReadyH.cons (o := ⟨some 47, _, _, _, _, _⟩) rfl (fun KK hK => ?_) AllReadyH.nil)
  rw [if_pos (by rfl)]
  go_simp
  refine (to30 hg hE).mono ?_
  rintro e12 w12 ⟨Cx47, rfl, hx47, hB12⟩
  have hE := hE.below hB12
  have hv := hv.below hB12
  have hg := hg.below hB12
  have hx45 := hx45.below hB12
  have hn10 := hn10.below hB12 hn10.lt
  have hn13 := hn13.below hB12 hn13.lt
  have hB := hB.trans (hB12.mono hB.size)
  clear hB12
  refine hK.out _ _ ⟨hn10, hn13⟩ ?_
  clear hK KK hHeld
  intro hHeld
  try simp only [Act.put, List.setIfInBounds_toArray, List.set_cons_zero, List.set_cons_succ]
  refine wpAnyH_ready (rs := [19]) (by kernel_rfl) (by simp) ?_
  refine (AllReadyH.cons (o := ⟨some 48, _, _, _, _, _⟩) rfl (fun KK hK => ?_) AllReadyH.nil)
  rw [if_pos (by rfl)]
  go_simp
  refine (same26 hx45 hx47 HTT.out).mono ?_
  rintro e13 w13 ⟨rfl, hB13⟩
  clear hx45 hx47
  have hE := hE.below hB13
  have hv := hv.below hB13
  have hg := hg.below hB13
  have hn10 := hn10.below hB13 hn10.lt
  have hn13 := hn13.below hB13 hn13.lt
  have hB := hB.trans (hB13.mono hB.size)
  clear hB13
  refine hK.out _ _ ⟨hn10, hn13⟩ ?_
  clear hK KK hHeld
  intro hHeld
  try simp only [Act.put, List.setIfInBounds_toArray, List.set_cons_zero, List.set_cons_succ]
  refine wpAnyH_take (i := 20) (oi := ⟨some 49, _, _, _, _, _⟩) (v := ?_) rfl (by kernel_rfl) (by kernel_rfl) (by kernel_rfl) (fun _ _ _ h => h) (Or.inl ⟨by rfl, ?_⟩) hHeld ?_
  rotate_left
  · (intro w9 hSw; (try dsimp only at hSw); go_simp)
    all_goals with_reducible rfl
  try simp only [Act.put, List.setIfInBounds_toArray, List.set_cons_zero, List.set_cons_succ]
  refine wpAnyH_take (i := 21) (oi := ⟨some 50, _, _, _, _, _⟩) (v := ?_) rfl (by kernel_rfl) (by kernel_rfl) (by kernel_rfl) (fun _ _ _ h => h) (Or.inl ⟨by rfl, ?_⟩) hHeld ?_
  rotate_left
  · (intro w9 hSw; (try dsimp only at hSw); go_simp)
    all_goals with_reducible rfl
  try simp only [Act.put, List.setIfInBounds_toArray, List.set_cons_zero, List.set_cons_succ]
  refine wpAnyH_take (i := 22) (oi := ⟨some 51, _, _, _, _, _⟩) (v := ?_) rfl (by kernel_rfl) (by kernel_rfl) (by kernel_rfl) (fun _ _ _ h => h) (Or.inl ⟨by rfl, ?_⟩) hHeld ?_
  rotate_left
  · (intro w9 hSw; refine yields34 (x := .tmp 10) (g := b10) (cs := Cv) ?_ ?_ hv.one.1 hSw.1 <;> rfl)
  try simp only [Act.put, List.setIfInBounds_toArray, List.set_cons_zero, List.set_cons_succ]
  refine wpAnyH_take (i := 24) (oi := ⟨some 53, _, _, _, _, _⟩) (v := ?_) rfl (by kernel_rfl) (by kernel_rfl) (by kernel_rfl) (fun _ _ _ h => h) (Or.inl ⟨by rfl, ?_⟩) hHeld ?_
  rotate_left
  · (intro w9 hSw; (try dsimp only at hSw); go_simp)
    all_goals with_reducible rfl
  try simp only [Act.put, List.setIfInBounds_toArray, List.set_cons_zero, List.set_cons_succ]
  refine wpAnyH_take (i := 25) (oi := ⟨some 54, _, _, _, _, _⟩) (v := ?_) rfl (by kernel_rfl) (by kernel_rfl) (by kernel_rfl) (fun _ _ _ h => h) (Or.inl ⟨by rfl, ?_⟩) hHeld ?_
  rotate_left
  · (intro w9 hSw; (try dsimp only at hSw); go_simp)
    all_goals with_reducible rfl
  try simp only [Act.put, List.setIfInBounds_toArray, List.set_cons_zero, List.set_cons_succ]
  refine wpAnyH_take (i := 27) (oi := ⟨some 56, _, _, _, _, _⟩) (v := ?_) rfl (by kernel_rfl) (by kernel_rfl) (by kernel_rfl) (fun _ _ _ h => h) (Or.inl ⟨by rfl, ?_⟩) hHeld ?_
  rotate_left
  · (intro w9 hSw; refine yields34 (x := .tmp 13) (g := b13) (cs := Cg) ?_ ?_ hg.one.1 hSw.2 <;> rfl)
  try simp only [Act.put, List.setIfInBounds_toArray, List.set_cons_zero, List.set_cons_succ]
  refine wpAnyH_ready (rs := [23]) (by kernel_rfl) (by simp) ?_
  refine (AllReadyH.cons (o := ⟨some 52, _, _, _, _, _⟩) rfl (fun KK hK => ?_) AllReadyH.nil)
  rw [if_pos (by rfl)]
  go_simp
  refine (to31 hv hE).mono ?_
  rintro e14 w14 ⟨Cx52, rfl, hx52, hB14⟩
  have hE := hE.below hB14
  have hv := hv.below hB14
  have hg := hg.below hB14
  have hn10 := hn10.below hB14 hn10.lt
  have hn13 := hn13.below hB14 hn13.lt
  have hB := hB.trans (hB14.mono hB.size)
  clear hB14
  refine hK.out _ _ ⟨hn10, hn13⟩ ?_
  clear hK KK hHeld
  intro hHeld
  try simp only [Act.put, List.setIfInBounds_toArray, List.set_cons_zero, List.set_cons_succ]
  refine wpAnyH_ready (rs := [26]) (by kernel_rfl) (by simp) ?_
  refine (AllReadyH.cons (o := ⟨some 55, _, _, _, _, _⟩) rfl (fun KK hK => ?_) AllReadyH.nil)
  rw [if_pos (by rfl)]
  go_simp
  refine (getA hx52 HAU.out hE HI.out.1 HI.out.2).mono ?_
  rintro e15 w15 ⟨Cx55, rfl, hx55, hB15⟩
  clear hx52
  have hE := hE.below hB15
  have hv := hv.below hB15
  have hg := hg.below hB15
  have hn10 := hn10.below hB15 hn10.lt
  have hn13 := hn13.below hB15 hn13.lt
  have hB := hB.trans (hB15.mono hB.size)
  clear hB15
  refine hK.out _ _ ⟨hn10, hn13⟩ ?_
  clear hK KK hHeld
  intro hHeld
  try simp only [Act.put, List.setIfInBounds_toArray, List.set_cons_zero, List.set_cons_succ]
  refine wpAnyH_ready (rs := [28]) (by kernel_rfl) (by simp) ?_
  refine (AllReadyH.cons (o := ⟨some 57, _, _, _, _, _⟩) rfl (fun KK hK => ?_) AllReadyH.nil)
  rw [if_pos (by rfl)]
  go_simp
  refine (to31 hg hE).mono ?_
  rintro e16 w16 ⟨Cx57, rfl, hx57, hB16⟩
  have hE := hE.below hB16
  have hv := hv.below hB16
  have hg := hg.below hB16
  have hx55 := hx55.below hB16
  have hn10 := hn10.below hB16 hn10.lt
  have hn13 := hn13.below hB16 hn13.lt
  have hB := hB.trans (hB16.mono hB.size)
  clear hB16
  refine hK.out _ _ ⟨hn10, hn13⟩ ?_
  clear hK KK hHeld
  intro hHeld
  try simp only [Act.put, List.setIfInBounds_toArray, List.set_cons_zero, List.set_cons_succ]
  refine wpAnyH_ready (rs := [29]) (by kernel_rfl) (by simp) ?_
  refine (AllReadyH.cons (o := ⟨some 58, _, _, _, _, _⟩) rfl (fun KK hK => ?_) AllReadyH.nil)
  rw [if_pos (by rfl)]
  go_simp
  refine (same26 hx55 hx57 HUT.out).mono ?_
  rintro e17 w17 ⟨rfl, hB17⟩
  clear hx55 hx57
  have hE := hE.below hB17
  have hv := hv.below hB17
  have hg := hg.below hB17
  have hn10 := hn10.below hB17 hn10.lt
  have hn13 := hn13.below hB17 hn13.lt
  have hB := hB.trans (hB17.mono hB.size)
  clear hB17
  refine hK.out _ _ ⟨hn10, hn13⟩ ?_
  clear hK KK hHeld
  intro hHeld
  try simp only [Act.put, List.setIfInBounds_toArray, List.set_cons_zero, List.set_cons_succ]
  refine wpAnyH_take (i := 30) (oi := ⟨some 59, _, _, _, _, _⟩) (v := ?_) rfl (by kernel_rfl) (by kernel_rfl) (by kernel_rfl) (fun _ _ _ h => h) (Or.inl ⟨by rfl, ?_⟩) hHeld ?_
  rotate_left
  · (intro w9 hSw; (try dsimp only at hSw); go_simp)
    all_goals with_reducible rfl
  try simp only [Act.put, List.setIfInBounds_toArray, List.set_cons_zero, List.set_cons_succ]
  refine wpAnyH_take (i := 31) (oi := ⟨some 8, _, _, _, _, _⟩) (v := ?_) rfl (by kernel_rfl) (by kernel_rfl) (by kernel_rfl) (fun _ _ _ h => h) (Or.inl ⟨by rfl, ?_⟩) hHeld ?_
  rotate_left
  · (intro w9 hSw; (try dsimp only at hSw); go_simp)
    all_goals with_reducible rfl
  try simp only [Act.put, List.setIfInBounds_toArray, List.set_cons_zero, List.set_cons_succ]
  refine wpAnyH_done (by kernel_rfl) ?_ _
  try simp only [Act.put, List.setIfInBounds_toArray, List.set_cons_zero, List.set_cons_succ]
  go_wp2_with fail
  go_ret
  refine ⟨?_, hB⟩
  rfl
end Go.Proofs.YtkhohjdakcchdaaGreatDoor
