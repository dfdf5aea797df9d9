/- The law ValTwice, walked: it tells true. (By genTwice.py.) -/
import Derived.Test.YtkhohjdakcchdaaGreatDoorUni
namespace Go.Proofs.YtkhohjdakcchdaaGreatDoor
open Go Go.RowKit Go.Shelf
set_option maxRecDepth 100000 in
set_option maxHeartbeats 16000000 in
theorem twice_arr_walk (z : Rw) (v : Value) (zs : List Rw) (w : World) (hz : RwOk z) (hr : RawsAt w w.heap.size v zs) (hE : Env w) :
    Calls Tryz.prog 7 #[.agg z.c, v, .bool true] w (Gives (.bool true) w) := by
  have HV := Lib.hid (show ∀ W, Calls Tryz.prog 12 #[.agg z.c] W (HandsV z.v W) from fun W => val12 hz)
  have HA := Lib.hid (show ∀ W, RawsAt W W.heap.size v zs → Calls Tryz.prog 13 #[.int .i64 z.k, .int .i64 z.e, v] W (HandsA (sideN z.k) (sideN z.e) (eltL zs (sideN z.k * sideN z.e).toNat) W) from fun W h => array_any z.k z.e zs v W hz.k hz.e h)
  have hAP : rightV 1 (arrOf z.k z.e zs) = true := arrOf_right 0 _ _ _
  unfold arrOf at hAP
  obtain ⟨RC, hRC⟩ : ∃ RC, z.c = RC := ⟨_, rfl⟩
  have hO5 : RC.size = 5 := by rw [← hRC]; rfl
  have r0 : RC[0]? = some (.int .i64 z.k) := by rw [← hRC]; rfl
  have r2 : RC[2]? = some (.int .i64 z.e) := by rw [← hRC]; rfl
  have HO5 := Lib.hid hO5
  have HR0 := Lib.hid r0
  have HR2 := Lib.hid r2
  rw [hRC] at HV ⊢
  obtain ⟨K, hK⟩ : ∃ K, z.k = K := ⟨_, rfl⟩
  obtain ⟨E, hEE⟩ : ∃ E, z.e = E := ⟨_, rfl⟩
  rw [hK] at HR0
  rw [hEE] at HR2
  rw [hK, hEE] at HA hAP
  generalize sideN K = rr at HA hAP
  generalize sideN E = cc at HA hAP
  generalize eltL zs (rr * cc).toNat = ll at HA hAP
  have HAP := Lib.hid hAP
  generalize z.v = zv at HV
  clear hRC hO5 r0 r2 hK hEE hAP hz
  have hB : Below w.heap.size w w := Below.refl _ w
  go_enter Tryz.func7, Tryz.ntmps7
  go_wp2_with fail
  have hB1 : Below w.heap.size w (w.alloc (.cells RC 25)) := (Below.refl _ w).alloc (Nat.le_refl _) _
  have hraw : World.rw (w.alloc (.cells RC 25)) w.heap.size RC := rw_new w RC
  have hE0 := hE
  have hE := hE.below hB1
  have hr := hr.at hB1 hB1.size
  have hB := hB1
  clear hB1
  obtain ⟨w0, hw0⟩ : ∃ w0, w0 = w.alloc (.cells RC 25) := ⟨_, rfl⟩
  rw [← hw0] at hE hr hB hraw ⊢
  clear hw0
  refine (awk11 hE).mono ?_
  rintro e1 w1 ⟨rfl, hB1⟩
  have hraw := hraw.below hB1 hraw.lt
  have hE := hE.below hB1
  have hr := hr.at hB1 (Nat.le_trans (Nat.le_refl _) hB1.size)
  have hB := hB.trans (hB1.mono hB.size)
  clear hB1
  go_wp2_with (refine wpList_load25 rfl rfl rfl hraw HO5.out ?_)
  refine (HV.out _).mono ?_
  rintro e2 w2 ⟨Cv, rfl, hv, hB2⟩
  have hraw := hraw.below hB2 hraw.lt
  have hE := hE.below hB2
  have hr := hr.at hB2 (Nat.le_trans (Nat.le_refl _) hB2.size)
  have hB := hB.trans (hB2.mono hB.size)
  clear hB2 HV
  have rc0 := hraw.cell HR0.out
  have rc2 := hraw.cell HR2.out
  obtain ⟨b8, hb8⟩ : ∃ b, b = w2.heap.size := ⟨_, rfl⟩
  have hlb8 : w.heap.size ≤ b8 := by rw [hb8]; exact hB.size
  go_wp2_with (first | refine wpList_alloc34 rfl rfl ?_ | (refine wpList_store34 rfl rfl rfl rfl (World.vb_new w2 vz) (by rfl) hv.one ?_; intro w3 hn8 hg3 hz3; have hB3 := vb_made hg3; have hraw := hraw.below hB3 hraw.lt; have hE := hE.below hB3; have hv := hv.below hB3; have hr := hr.at hB3 (Nat.le_trans (Nat.le_refl _) hB3.size); have hB := hB.trans (hB3.mono hB.size); have rc0 := hraw.cell HR0.out; have rc2 := hraw.cell HR2.out))
  rw [← hb8] at hn8 ⊢
  clear hb8 hg3 hz3 hB3 rc0 rc2
  have hl8 := hn8.lt
  obtain ⟨D, hD⟩ : ∃ D, D = w3.heap.size := ⟨_, rfl⟩
  refine (HA.out _ hr).mono ?_
  rintro e4 w4 ⟨LA, rfl, hown, hB4⟩
  rw [← hD] at hown hl8
  clear hD
  have hraw := hraw.below hB4 hraw.lt
  have hE := hE.below hB4
  have hv := hv.below hB4
  have hn8 := hn8.below hB4 hn8.lt
  have hr := hr.at hB4 (Nat.le_trans (Nat.le_refl _) hB4.size)
  have hB := hB.trans (hB4.mono hB.size)
  clear hB4 hr hraw
  have hOA := vr_one (r := rr) (c := cc) hown
  obtain ⟨CA, hCA⟩ : ∃ C, vcs (arrV rr cc ll) LA nilS nilS = C := ⟨_, rfl⟩
  rw [hCA] at hOA ⊢
  have HOA := Lib.hid hOA
  clear hOA
  have hl3 : w.heap.size ≤ b8 := hlb8
  go_wp2_with (first | (refine wpList_store34 rfl rfl rfl rfl hn8 (by exact hv.one.1) HOA.out ?_; intro w5 hn8 hg5 hz5) | refine wpList_load34 rfl rfl rfl hn8 HOA.out.1 ?_)
  have hB := hB.grown hg5 hB.size (fun k9 hk9 => by cases hk9; exact hl3)
  have hown := World.vr.grown' hown hg5 (fun k9 hk9 => by have h9 := World.ownsRow.lt hown k9 hk9; omega)
  have hE := hE0.below hB
  have hv : At (arrV rr cc ll) CA w5 := ⟨by rw [← hCA]; exact rp_of_vr hown HAP.out (Nat.le_refl _), HOA.out, .inr ⟨rfl, HAP.out⟩⟩
  clear hg5 hz5 hown hCA HOA HAP hl8 hl3
  refine (to29 hv hE).mono ?_
  rintro e6 w6 ⟨Cn, rfl, hn, hB6⟩
  have hE := hE.below hB6
  have hv := hv.below hB6
  have hn8 := hn8.below hB6 hn8.lt
  have hB := hB.trans (hB6.mono hB.size)
  clear hB6
  obtain ⟨b9, hb9⟩ : ∃ b, b = w6.heap.size := ⟨_, rfl⟩
  go_wp2_with (first | refine wpList_alloc34 rfl rfl ?_ | (refine wpList_store34 rfl rfl rfl rfl (World.vb_new w6 vz) (by rfl) hn.one ?_; intro w7 hn9 hg7 hz7; have hB7 := vb_made hg7; have hE := hE.below hB7; have hv := hv.below hB7; have hn := hn.below hB7; have hn8 := hn8.below hB7 hn8.lt; have hB := hB.trans (hB7.mono hB.size)) | refine wpList_load34 rfl rfl rfl hn8 hv.one.1 ?_)
  rw [← hb9] at hn9 ⊢
  clear hb9 hg7 hz7 hB7
  refine (to30 hv hE).mono ?_
  rintro e8 w8 ⟨Ct, rfl, ht, hB8⟩
  have hE := hE.below hB8
  have hv := hv.below hB8
  have hn := hn.below hB8
  have hn8 := hn8.below hB8 hn8.lt
  have hn9 := hn9.below hB8 hn9.lt
  have hB := hB.trans (hB8.mono hB.size)
  clear hB8
  obtain ⟨b10, hb10⟩ : ∃ b, b = w8.heap.size := ⟨_, rfl⟩
  go_wp2_with (first | refine wpList_alloc34 rfl rfl ?_ | (refine wpList_store34 rfl rfl rfl rfl (World.vb_new w8 vz) (by rfl) ht.one ?_; intro w9 hn10 hg9 hz9; have hB9 := vb_made hg9; have hE := hE.below hB9; have hv := hv.below hB9; have hn := hn.below hB9; have ht := ht.below hB9; have hn8 := hn8.below hB9 hn8.lt; have hn9 := hn9.below hB9 hn9.lt; have hB := hB.trans (hB9.mono hB.size)) | refine wpList_load34 rfl rfl rfl hn8 hv.one.1 ?_)
  rw [← hb10] at hn10 ⊢
  clear hb10 hg9 hz9 hB9
  refine (to31 hv hE).mono ?_
  rintro e10 w10 ⟨Cb, rfl, hb, hB10⟩
  have hE := hE.below hB10
  have hv := hv.below hB10
  have hn := hn.below hB10
  have ht := ht.below hB10
  have hn8 := hn8.below hB10 hn8.lt
  have hn9 := hn9.below hB10 hn9.lt
  have hn10 := hn10.below hB10 hn10.lt
  have hB := hB.trans (hB10.mono hB.size)
  clear hB10
  obtain ⟨b11, hb11⟩ : ∃ b, b = w10.heap.size := ⟨_, rfl⟩
  go_wp2_with (first | refine wpList_alloc34 rfl rfl ?_ | (refine wpList_store34 rfl rfl rfl rfl (World.vb_new w10 vz) (by rfl) hb.one ?_; intro w11 hn11 hg11 hz11; have hB11 := vb_made hg11; have hE := hE.below hB11; have hv := hv.below hB11; have hn := hn.below hB11; have ht := ht.below hB11; have hb := hb.below hB11; have hn8 := hn8.below hB11 hn8.lt; have hn9 := hn9.below hB11 hn9.lt; have hn10 := hn10.below hB11 hn10.lt; have hB := hB.trans (hB11.mono hB.size)) | refine wpList_load34 rfl rfl rfl hn9 hn.one.1 ?_)
  rw [← hb11] at hn11 ⊢
  clear hb11 hg11 hz11 hB11
  have hvc := hv.cases
  clear hv hn8
  refine (right27 hn hE).mono ?_
  rintro e12 w12 ⟨rfl, hB12⟩
  have hE := hE.below hB12
  have hn := hn.below hB12
  have ht := ht.below hB12
  have hb := hb.below hB12
  have hn9 := hn9.below hB12 hn9.lt
  have hn10 := hn10.below hB12 hn10.lt
  have hn11 := hn11.below hB12 hn11.lt
  have hB := hB.trans (hB12.mono hB.size)
  clear hB12
  go_wp2_with (refine wpList_load34g rfl rfl rfl hn10 ht.one.1 ?_)
  refine (right27 ht hE).mono ?_
  rintro e13 w13 ⟨rfl, hB13⟩
  have hE := hE.below hB13
  have hn := hn.below hB13
  have ht := ht.below hB13
  have hb := hb.below hB13
  have hn9 := hn9.below hB13 hn9.lt
  have hn10 := hn10.below hB13 hn10.lt
  have hn11 := hn11.below hB13 hn11.lt
  have hB := hB.trans (hB13.mono hB.size)
  clear hB13
  go_wp2_with (refine wpList_load34g rfl rfl rfl hn11 hb.one.1 ?_)
  refine (right27 hb hE).mono ?_
  rintro e14 w14 ⟨rfl, hB14⟩
  have hE := hE.below hB14
  have hn := hn.below hB14
  have ht := ht.below hB14
  have hb := hb.below hB14
  have hn9 := hn9.below hB14 hn9.lt
  have hn10 := hn10.below hB14 hn10.lt
  have hn11 := hn11.below hB14 hn11.lt
  have hB := hB.trans (hB14.mono hB.size)
  clear hB14
  go_wp2_with fail
  refine wp_region_held_drew (S := (fun w9 => World.vb w9 b9 Cn ∧ World.vb w9 b10 Ct ∧ World.vb w9 b11 Cb)) (by kernel_rfl) ⟨hn9, hn10, hn11⟩ (fun hHeld => ?_)
  have hBd := World.drew_below w14
  have hE := hE.below hBd
  have hn := hn.below hBd
  have ht := ht.below hBd
  have hb := hb.below hBd
  have hn9 := hn9.below hBd hn9.lt
  have hn10 := hn10.below hBd hn10.lt
  have hn11 := hn11.below hBd hn11.lt
  have hB := hB.trans (hBd.mono hB.size)
  clear hBd
  refine wpAnyH_take (i := 0) (oi := ⟨some 42, _, _, _, _, _⟩) (v := ?_) rfl (by kernel_rfl) (by kernel_rfl) (by kernel_rfl) (fun _ _ _ h => h) (Or.inl ⟨by rfl, ?_⟩) hHeld ?_
  rotate_left
  · (intro w9 hSw; (try dsimp only at hSw); go_simp)
    all_goals with_reducible rfl
  try simp only [Act.put, List.setIfInBounds_toArray, List.set_cons_zero, List.set_cons_succ]
  refine wpAnyH_take (i := 1) (oi := ⟨some 43, _, _, _, _, _⟩) (v := ?_) rfl (by kernel_rfl) (by kernel_rfl) (by kernel_rfl) (fun _ _ _ h => h) (Or.inl ⟨by rfl, ?_⟩) hHeld ?_
  rotate_left
  · (intro w9 hSw; (try dsimp only at hSw); go_simp)
    all_goals with_reducible rfl
  try simp only [Act.put, List.setIfInBounds_toArray, List.set_cons_zero, List.set_cons_succ]
  refine wpAnyH_take (i := 2) (oi := ⟨some 44, _, _, _, _, _⟩) (v := ?_) rfl (by kernel_rfl) (by kernel_rfl) (by kernel_rfl) (fun _ _ _ h => h) (Or.inl ⟨by rfl, ?_⟩) hHeld ?_
  rotate_left
  · (intro w9 hSw; refine yields34 (x := .tmp 9) (g := b9) (cs := Cn) ?_ ?_ hn.one.1 hSw.1 <;> rfl)
  try simp only [Act.put, List.setIfInBounds_toArray, List.set_cons_zero, List.set_cons_succ]
  refine wpAnyH_take (i := 4) (oi := ⟨some 46, _, _, _, _, _⟩) (v := ?_) rfl (by kernel_rfl) (by kernel_rfl) (by kernel_rfl) (fun _ _ _ h => h) (Or.inl ⟨by rfl, ?_⟩) hHeld ?_
  rotate_left
  · (intro w9 hSw; refine yields34 (x := .tmp 9) (g := b9) (cs := Cn) ?_ ?_ hn.one.1 hSw.1 <;> rfl)
  try simp only [Act.put, List.setIfInBounds_toArray, List.set_cons_zero, List.set_cons_succ]
  refine wpAnyH_ready (rs := [3]) (by kernel_rfl) (by simp) ?_
  refine (AllReadyH.cons (o := ⟨some 45, _, _, _, _, _⟩) rfl (fun KK hK => ?_) AllReadyH.nil)
  rw [if_pos (by rfl)]
  go_simp
  refine (to29 hn hE).mono ?_
  rintro e15 w15 ⟨Cx45, rfl, hx45, hB15⟩
  have hE := hE.below hB15
  have hn := hn.below hB15
  have ht := ht.below hB15
  have hb := hb.below hB15
  have hn9 := hn9.below hB15 hn9.lt
  have hn10 := hn10.below hB15 hn10.lt
  have hn11 := hn11.below hB15 hn11.lt
  have hB := hB.trans (hB15.mono hB.size)
  clear hB15
  refine hK.out _ _ ⟨hn9, hn10, hn11⟩ ?_
  clear hK KK hHeld
  intro hHeld
  try simp only [Act.put, List.setIfInBounds_toArray, List.set_cons_zero, List.set_cons_succ]
  refine wpAnyH_ready (rs := [5]) (by kernel_rfl) (by simp) ?_
  refine (AllReadyH.cons (o := ⟨some 47, _, _, _, _, _⟩) rfl (fun KK hK => ?_) AllReadyH.nil)
  rw [if_pos (by rfl)]
  go_simp
  refine (same26 hx45 hn (each_again (fun _ => numT_plain) (fun _ => numT_again) hvc)).mono ?_
  rintro e16 w16 ⟨rfl, hB16⟩
  clear hx45
  have hE := hE.below hB16
  have hn := hn.below hB16
  have ht := ht.below hB16
  have hb := hb.below hB16
  have hn9 := hn9.below hB16 hn9.lt
  have hn10 := hn10.below hB16 hn10.lt
  have hn11 := hn11.below hB16 hn11.lt
  have hB := hB.trans (hB16.mono hB.size)
  clear hB16
  refine hK.out _ _ ⟨hn9, hn10, hn11⟩ ?_
  clear hK KK hHeld
  intro hHeld
  try simp only [Act.put, List.setIfInBounds_toArray, List.set_cons_zero, List.set_cons_succ]
  refine wpAnyH_take (i := 6) (oi := ⟨some 48, _, _, _, _, _⟩) (v := ?_) rfl (by kernel_rfl) (by kernel_rfl) (by kernel_rfl) (fun _ _ _ h => h) (Or.inl ⟨by rfl, ?_⟩) hHeld ?_
  rotate_left
  · (intro w9 hSw; (try dsimp only at hSw); go_simp)
    all_goals with_reducible rfl
  try simp only [Act.put, List.setIfInBounds_toArray, List.set_cons_zero, List.set_cons_succ]
  refine wpAnyH_take (i := 7) (oi := ⟨some 49, _, _, _, _, _⟩) (v := ?_) rfl (by kernel_rfl) (by kernel_rfl) (by kernel_rfl) (fun _ _ _ h => h) (Or.inl ⟨by rfl, ?_⟩) hHeld ?_
  rotate_left
  · (intro w9 hSw; (try dsimp only at hSw); go_simp)
    all_goals with_reducible rfl
  try simp only [Act.put, List.setIfInBounds_toArray, List.set_cons_zero, List.set_cons_succ]
  refine wpAnyH_take (i := 8) (oi := ⟨some 50, _, _, _, _, _⟩) (v := ?_) rfl (by kernel_rfl) (by kernel_rfl) (by kernel_rfl) (fun _ _ _ h => h) (Or.inl ⟨by rfl, ?_⟩) hHeld ?_
  rotate_left
  · (intro w9 hSw; refine yields34 (x := .tmp 10) (g := b10) (cs := Ct) ?_ ?_ ht.one.1 hSw.2.1 <;> rfl)
  try simp only [Act.put, List.setIfInBounds_toArray, List.set_cons_zero, List.set_cons_succ]
  refine wpAnyH_take (i := 10) (oi := ⟨some 52, _, _, _, _, _⟩) (v := ?_) rfl (by kernel_rfl) (by kernel_rfl) (by kernel_rfl) (fun _ _ _ h => h) (Or.inl ⟨by rfl, ?_⟩) hHeld ?_
  rotate_left
  · (intro w9 hSw; refine yields34 (x := .tmp 10) (g := b10) (cs := Ct) ?_ ?_ ht.one.1 hSw.2.1 <;> rfl)
  try simp only [Act.put, List.setIfInBounds_toArray, List.set_cons_zero, List.set_cons_succ]
  refine wpAnyH_ready (rs := [9]) (by kernel_rfl) (by simp) ?_
  refine (AllReadyH.cons (o := ⟨some 51, _, _, _, _, _⟩) rfl (fun KK hK => ?_) AllReadyH.nil)
  rw [if_pos (by rfl)]
  go_simp
  refine (to30 ht hE).mono ?_
  rintro e17 w17 ⟨Cx51, rfl, hx51, hB17⟩
  have hE := hE.below hB17
  have hn := hn.below hB17
  have ht := ht.below hB17
  have hb := hb.below hB17
  have hn9 := hn9.below hB17 hn9.lt
  have hn10 := hn10.below hB17 hn10.lt
  have hn11 := hn11.below hB17 hn11.lt
  have hB := hB.trans (hB17.mono hB.size)
  clear hB17
  refine hK.out _ _ ⟨hn9, hn10, hn11⟩ ?_
  clear hK KK hHeld
  intro hHeld
  try simp only [Act.put, List.setIfInBounds_toArray, List.set_cons_zero, List.set_cons_succ]
  refine wpAnyH_ready (rs := [11]) (by kernel_rfl) (by simp) ?_
  refine (AllReadyH.cons (o := ⟨some 53, _, _, _, _, _⟩) rfl (fun KK hK => ?_) AllReadyH.nil)
  rw [if_pos (by rfl)]
  go_simp
  refine (same26 hx51 ht (each_again (fun _ => txtT_plain) (fun _ => txtT_again) hvc)).mono ?_
  rintro e18 w18 ⟨rfl, hB18⟩
  clear hx51
  have hE := hE.below hB18
  have hn := hn.below hB18
  have ht := ht.below hB18
  have hb := hb.below hB18
  have hn9 := hn9.below hB18 hn9.lt
  have hn10 := hn10.below hB18 hn10.lt
  have hn11 := hn11.below hB18 hn11.lt
  have hB := hB.trans (hB18.mono hB.size)
  clear hB18
  refine hK.out _ _ ⟨hn9, hn10, hn11⟩ ?_
  clear hK KK hHeld
  intro hHeld
  try simp only [Act.put, List.setIfInBounds_toArray, List.set_cons_zero, List.set_cons_succ]
  refine wpAnyH_take (i := 12) (oi := ⟨some 54, _, _, _, _, _⟩) (v := ?_) rfl (by kernel_rfl) (by kernel_rfl) (by kernel_rfl) (fun _ _ _ h => h) (Or.inl ⟨by rfl, ?_⟩) hHeld ?_
  rotate_left
  · (intro w9 hSw; (try dsimp only at hSw); go_simp)
    all_goals with_reducible rfl
  try simp only [Act.put, List.setIfInBounds_toArray, List.set_cons_zero, List.set_cons_succ]
  refine wpAnyH_take (i := 13) (oi := ⟨some 55, _, _, _, _, _⟩) (v := ?_) rfl (by kernel_rfl) (by kernel_rfl) (by kernel_rfl) (fun _ _ _ h => h) (Or.inl ⟨by rfl, ?_⟩) hHeld ?_
  rotate_left
  · (intro w9 hSw; (try dsimp only at hSw); go_simp)
    all_goals with_reducible rfl
  try simp only [Act.put, List.setIfInBounds_toArray, List.set_cons_zero, List.set_cons_succ]
  refine wpAnyH_take (i := 14) (oi := ⟨some 56, _, _, _, _, _⟩) (v := ?_) rfl (by kernel_rfl) (by kernel_rfl) (by kernel_rfl) (fun _ _ _ h => h) (Or.inl ⟨by rfl, ?_⟩) hHeld ?_
  rotate_left
  · (intro w9 hSw; refine yields34 (x := .tmp 11) (g := b11) (cs := Cb) ?_ ?_ hb.one.1 hSw.2.2 <;> rfl)
  try simp only [Act.put, List.setIfInBounds_toArray, List.set_cons_zero, List.set_cons_succ]
  refine wpAnyH_take (i := 16) (oi := ⟨some 58, _, _, _, _, _⟩) (v := ?_) rfl (by kernel_rfl) (by kernel_rfl) (by kernel_rfl) (fun _ _ _ h => h) (Or.inl ⟨by rfl, ?_⟩) hHeld ?_
  rotate_left
  · (intro w9 hSw; refine yields34 (x := .tmp 11) (g := b11) (cs := Cb) ?_ ?_ hb.one.1 hSw.2.2 <;> rfl)
  try simp only [Act.put, List.setIfInBounds_toArray, List.set_cons_zero, List.set_cons_succ]
  refine wpAnyH_ready (rs := [15]) (by kernel_rfl) (by simp) ?_
  refine (AllReadyH.cons (o := ⟨some 57, _, _, _, _, _⟩) rfl (fun KK hK => ?_) AllReadyH.nil)
  rw [if_pos (by rfl)]
  go_simp
  refine (to31 hb hE).mono ?_
  rintro e19 w19 ⟨Cx57, rfl, hx57, hB19⟩
  have hE := hE.below hB19
  have hn := hn.below hB19
  have ht := ht.below hB19
  have hb := hb.below hB19
  have hn9 := hn9.below hB19 hn9.lt
  have hn10 := hn10.below hB19 hn10.lt
  have hn11 := hn11.below hB19 hn11.lt
  have hB := hB.trans (hB19.mono hB.size)
  clear hB19
  refine hK.out _ _ ⟨hn9, hn10, hn11⟩ ?_
  clear hK KK hHeld
  intro hHeld
  try simp only [Act.put, List.setIfInBounds_toArray, List.set_cons_zero, List.set_cons_succ]
  refine wpAnyH_ready (rs := [17]) (by kernel_rfl) (by simp) ?_
  refine (AllReadyH.cons (o := ⟨some 59, _, _, _, _, _⟩) rfl (fun KK hK => ?_) AllReadyH.nil)
  rw [if_pos (by rfl)]
  go_simp
  refine (same26 hx57 hb (each_again (fun _ => truT_plain) (fun _ => truT_again) hvc)).mono ?_
  rintro e20 w20 ⟨rfl, hB20⟩
  clear hx57
  have hE := hE.below hB20
  have hn := hn.below hB20
  have ht := ht.below hB20
  have hb := hb.below hB20
  have hn9 := hn9.below hB20 hn9.lt
  have hn10 := hn10.below hB20 hn10.lt
  have hn11 := hn11.below hB20 hn11.lt
  have hB := hB.trans (hB20.mono hB.size)
  clear hB20
  refine hK.out _ _ ⟨hn9, hn10, hn11⟩ ?_
  clear hK KK hHeld
  intro hHeld
  try simp only [Act.put, List.setIfInBounds_toArray, List.set_cons_zero, List.set_cons_succ]
  refine wpAnyH_take (i := 18) (oi := ⟨some 60, _, _, _, _, _⟩) (v := ?_) rfl (by kernel_rfl) (by kernel_rfl) (by kernel_rfl) (fun _ _ _ h => h) (Or.inl ⟨by rfl, ?_⟩) hHeld ?_
  rotate_left
  · (intro w9 hSw; (try dsimp only at hSw); go_simp)
    all_goals with_reducible rfl
  try simp only [Act.put, List.setIfInBounds_toArray, List.set_cons_zero, List.set_cons_succ]
  refine wpAnyH_take (i := 19) (oi := ⟨some 61, _, _, _, _, _⟩) (v := ?_) rfl (by kernel_rfl) (by kernel_rfl) (by kernel_rfl) (fun _ _ _ h => h) (Or.inl ⟨by rfl, ?_⟩) hHeld ?_
  rotate_left
  · (intro w9 hSw; (try dsimp only at hSw); go_simp)
    all_goals with_reducible rfl
  try simp only [Act.put, List.setIfInBounds_toArray, List.set_cons_zero, List.set_cons_succ]
  refine wpAnyH_take (i := 20) (oi := ⟨some 62, _, _, _, _, _⟩) (v := ?_) rfl (by kernel_rfl) (by kernel_rfl) (by kernel_rfl) (fun _ _ _ h => h) (Or.inl ⟨by rfl, ?_⟩) hHeld ?_
  rotate_left
  · (intro w9 hSw; refine yields34 (x := .tmp 9) (g := b9) (cs := Cn) ?_ ?_ hn.one.1 hSw.1 <;> rfl)
  try simp only [Act.put, List.setIfInBounds_toArray, List.set_cons_zero, List.set_cons_succ]
  refine wpAnyH_take (i := 23) (oi := ⟨some 65, _, _, _, _, _⟩) (v := ?_) rfl (by kernel_rfl) (by kernel_rfl) (by kernel_rfl) (fun _ _ _ h => h) (Or.inl ⟨by rfl, ?_⟩) hHeld ?_
  rotate_left
  · (intro w9 hSw; refine yields34 (x := .tmp 9) (g := b9) (cs := Cn) ?_ ?_ hn.one.1 hSw.1 <;> rfl)
  try simp only [Act.put, List.setIfInBounds_toArray, List.set_cons_zero, List.set_cons_succ]
  refine wpAnyH_ready (rs := [21]) (by kernel_rfl) (by simp) ?_
  refine (AllReadyH.cons (o := ⟨some 63, _, _, _, _, _⟩) rfl (fun KK hK => ?_) AllReadyH.nil)
  rw [if_pos (by rfl)]
  go_simp
  refine (to30 hn hE).mono ?_
  rintro e21 w21 ⟨Cx63, rfl, hx63, hB21⟩
  have hE := hE.below hB21
  have hn := hn.below hB21
  have ht := ht.below hB21
  have hb := hb.below hB21
  have hn9 := hn9.below hB21 hn9.lt
  have hn10 := hn10.below hB21 hn10.lt
  have hn11 := hn11.below hB21 hn11.lt
  have hB := hB.trans (hB21.mono hB.size)
  clear hB21
  refine hK.out _ _ ⟨hn9, hn10, hn11⟩ ?_
  clear hK KK hHeld
  intro hHeld
  try simp only [Act.put, List.setIfInBounds_toArray, List.set_cons_zero, List.set_cons_succ]
  refine wpAnyH_ready (rs := [22]) (by kernel_rfl) (by simp) ?_
  refine (AllReadyH.cons (o := ⟨some 64, _, _, _, _, _⟩) rfl (fun KK hK => ?_) AllReadyH.nil)
  rw [if_pos (by rfl)]
  go_simp
  refine (to29 hx63 hE).mono ?_
  rintro e22 w22 ⟨Cx64, rfl, hx64, hB22⟩
  have hE := hE.below hB22
  have hn := hn.below hB22
  have ht := ht.below hB22
  have hb := hb.below hB22
  have hx63 := hx63.below hB22
  have hn9 := hn9.below hB22 hn9.lt
  have hn10 := hn10.below hB22 hn10.lt
  have hn11 := hn11.below hB22 hn11.lt
  have hB := hB.trans (hB22.mono hB.size)
  clear hx63
  clear hB22
  refine hK.out _ _ ⟨hn9, hn10, hn11⟩ ?_
  clear hK KK hHeld
  intro hHeld
  try simp only [Act.put, List.setIfInBounds_toArray, List.set_cons_zero, List.set_cons_succ]
  refine wpAnyH_ready (rs := [24]) (by kernel_rfl) (by simp) ?_
  refine (AllReadyH.cons (o := ⟨some 66, _, _, _, _, _⟩) rfl (fun KK hK => ?_) AllReadyH.nil)
  rw [if_pos (by rfl)]
  go_simp
  refine (same26 hx64 hn (each_twice (fun _ => numT_plain) (fun _ => txtT_plain) (fun _ => num_of_txt) hvc)).mono ?_
  rintro e23 w23 ⟨rfl, hB23⟩
  clear hx64
  have hE := hE.below hB23
  have hn := hn.below hB23
  have ht := ht.below hB23
  have hb := hb.below hB23
  have hn9 := hn9.below hB23 hn9.lt
  have hn10 := hn10.below hB23 hn10.lt
  have hn11 := hn11.below hB23 hn11.lt
  have hB := hB.trans (hB23.mono hB.size)
  clear hB23
  refine hK.out _ _ ⟨hn9, hn10, hn11⟩ ?_
  clear hK KK hHeld
  intro hHeld
  try simp only [Act.put, List.setIfInBounds_toArray, List.set_cons_zero, List.set_cons_succ]
  refine wpAnyH_take (i := 25) (oi := ⟨some 67, _, _, _, _, _⟩) (v := ?_) rfl (by kernel_rfl) (by kernel_rfl) (by kernel_rfl) (fun _ _ _ h => h) (Or.inl ⟨by rfl, ?_⟩) hHeld ?_
  rotate_left
  · (intro w9 hSw; (try dsimp only at hSw); go_simp)
    all_goals with_reducible rfl
  try simp only [Act.put, List.setIfInBounds_toArray, List.set_cons_zero, List.set_cons_succ]
  refine wpAnyH_take (i := 26) (oi := ⟨some 68, _, _, _, _, _⟩) (v := ?_) rfl (by kernel_rfl) (by kernel_rfl) (by kernel_rfl) (fun _ _ _ h => h) (Or.inl ⟨by rfl, ?_⟩) hHeld ?_
  rotate_left
  · (intro w9 hSw; (try dsimp only at hSw); go_simp)
    all_goals with_reducible rfl
  try simp only [Act.put, List.setIfInBounds_toArray, List.set_cons_zero, List.set_cons_succ]
  refine wpAnyH_take (i := 27) (oi := ⟨some 69, _, _, _, _, _⟩) (v := ?_) rfl (by kernel_rfl) (by kernel_rfl) (by kernel_rfl) (fun _ _ _ h => h) (Or.inl ⟨by rfl, ?_⟩) hHeld ?_
  rotate_left
  · (intro w9 hSw; refine yields34 (x := .tmp 11) (g := b11) (cs := Cb) ?_ ?_ hb.one.1 hSw.2.2 <;> rfl)
  try simp only [Act.put, List.setIfInBounds_toArray, List.set_cons_zero, List.set_cons_succ]
  refine wpAnyH_take (i := 30) (oi := ⟨some 72, _, _, _, _, _⟩) (v := ?_) rfl (by kernel_rfl) (by kernel_rfl) (by kernel_rfl) (fun _ _ _ h => h) (Or.inl ⟨by rfl, ?_⟩) hHeld ?_
  rotate_left
  · (intro w9 hSw; refine yields34 (x := .tmp 11) (g := b11) (cs := Cb) ?_ ?_ hb.one.1 hSw.2.2 <;> rfl)
  try simp only [Act.put, List.setIfInBounds_toArray, List.set_cons_zero, List.set_cons_succ]
  refine wpAnyH_ready (rs := [28]) (by kernel_rfl) (by simp) ?_
  refine (AllReadyH.cons (o := ⟨some 70, _, _, _, _, _⟩) rfl (fun KK hK => ?_) AllReadyH.nil)
  rw [if_pos (by rfl)]
  go_simp
  refine (to29 hb hE).mono ?_
  rintro e24 w24 ⟨Cx70, rfl, hx70, hB24⟩
  have hE := hE.below hB24
  have hn := hn.below hB24
  have ht := ht.below hB24
  have hb := hb.below hB24
  have hn9 := hn9.below hB24 hn9.lt
  have hn10 := hn10.below hB24 hn10.lt
  have hn11 := hn11.below hB24 hn11.lt
  have hB := hB.trans (hB24.mono hB.size)
  clear hB24
  refine hK.out _ _ ⟨hn9, hn10, hn11⟩ ?_
  clear hK KK hHeld
  intro hHeld
  try simp only [Act.put, List.setIfInBounds_toArray, List.set_cons_zero, List.set_cons_succ]
  refine wpAnyH_ready (rs := [29]) (by kernel_rfl) (by simp) ?_
  refine (AllReadyH.cons (o := ⟨some 71, _, _, _, _, _⟩) rfl (fun KK hK => ?_) AllReadyH.nil)
  rw [if_pos (by rfl)]
  go_simp
  refine (to31 hx70 hE).mono ?_
  rintro e25 w25 ⟨Cx71, rfl, hx71, hB25⟩
  have hE := hE.below hB25
  have hn := hn.below hB25
  have ht := ht.below hB25
  have hb := hb.below hB25
  have hx70 := hx70.below hB25
  have hn9 := hn9.below hB25 hn9.lt
  have hn10 := hn10.below hB25 hn10.lt
  have hn11 := hn11.below hB25 hn11.lt
  have hB := hB.trans (hB25.mono hB.size)
  clear hx70
  clear hB25
  refine hK.out _ _ ⟨hn9, hn10, hn11⟩ ?_
  clear hK KK hHeld
  intro hHeld
  try simp only [Act.put, List.setIfInBounds_toArray, List.set_cons_zero, List.set_cons_succ]
  refine wpAnyH_ready (rs := [31]) (by kernel_rfl) (by simp) ?_
  refine (AllReadyH.cons (o := ⟨some 73, _, _, _, _, _⟩) rfl (fun KK hK => ?_) AllReadyH.nil)
  rw [if_pos (by rfl)]
  go_simp
  refine (same26 hx71 hb (each_twice (fun _ => truT_plain) (fun _ => numT_plain) (fun _ => tru_of_num) hvc)).mono ?_
  rintro e26 w26 ⟨rfl, hB26⟩
  clear hx71
  have hE := hE.below hB26
  have hn := hn.below hB26
  have ht := ht.below hB26
  have hb := hb.below hB26
  have hn9 := hn9.below hB26 hn9.lt
  have hn10 := hn10.below hB26 hn10.lt
  have hn11 := hn11.below hB26 hn11.lt
  have hB := hB.trans (hB26.mono hB.size)
  clear hB26
  refine hK.out _ _ ⟨hn9, hn10, hn11⟩ ?_
  clear hK KK hHeld
  intro hHeld
  try simp only [Act.put, List.setIfInBounds_toArray, List.set_cons_zero, List.set_cons_succ]
  refine wpAnyH_take (i := 32) (oi := ⟨some 74, _, _, _, _, _⟩) (v := ?_) rfl (by kernel_rfl) (by kernel_rfl) (by kernel_rfl) (fun _ _ _ h => h) (Or.inl ⟨by rfl, ?_⟩) hHeld ?_
  rotate_left
  · (intro w9 hSw; (try dsimp only at hSw); go_simp)
    all_goals with_reducible rfl
  try simp only [Act.put, List.setIfInBounds_toArray, List.set_cons_zero, List.set_cons_succ]
  refine wpAnyH_take (i := 33) (oi := ⟨some 6, _, _, _, _, _⟩) (v := ?_) rfl (by kernel_rfl) (by kernel_rfl) (by kernel_rfl) (fun _ _ _ h => h) (Or.inl ⟨by rfl, ?_⟩) hHeld ?_
  rotate_left
  · (intro w9 hSw; (try dsimp only at hSw); go_simp)
    all_goals with_reducible rfl
  try simp only [Act.put, List.setIfInBounds_toArray, List.set_cons_zero, List.set_cons_succ]
  refine wpAnyH_done (by kernel_rfl) ?_ _
  try simp only [Act.put, List.setIfInBounds_toArray, List.set_cons_zero, List.set_cons_succ]
  go_wp2_with fail
  go_ret
  refine ⟨?_, hB⟩
  rfl
set_option maxRecDepth 100000 in
set_option maxHeartbeats 16000000 in
theorem twice_one_walk (z : Rw) (v : Value) (zs : List Rw) (w : World) (hz : RwOk z) (hr : RawsAt w w.heap.size v zs) (hE : Env w) :
    Calls Tryz.prog 7 #[.agg z.c, v, .bool false] w (Gives (.bool true) w) := by
  have HV := Lib.hid (show ∀ W, Calls Tryz.prog 12 #[.agg z.c] W (HandsV z.v W) from fun W => val12 hz)
  have HA := Lib.hid (show ∀ W, RawsAt W W.heap.size v zs → Calls Tryz.prog 13 #[.int .i64 z.k, .int .i64 z.e, v] W (HandsA (sideN z.k) (sideN z.e) (eltL zs (sideN z.k * sideN z.e).toNat) W) from fun W h => array_any z.k z.e zs v W hz.k hz.e h)
  have hAP : rightV 1 (arrOf z.k z.e zs) = true := arrOf_right 0 _ _ _
  unfold arrOf at hAP
  obtain ⟨RC, hRC⟩ : ∃ RC, z.c = RC := ⟨_, rfl⟩
  have hO5 : RC.size = 5 := by rw [← hRC]; rfl
  have r0 : RC[0]? = some (.int .i64 z.k) := by rw [← hRC]; rfl
  have r2 : RC[2]? = some (.int .i64 z.e) := by rw [← hRC]; rfl
  have HO5 := Lib.hid hO5
  have HR0 := Lib.hid r0
  have HR2 := Lib.hid r2
  rw [hRC] at HV ⊢
  obtain ⟨K, hK⟩ : ∃ K, z.k = K := ⟨_, rfl⟩
  obtain ⟨E, hEE⟩ : ∃ E, z.e = E := ⟨_, rfl⟩
  rw [hK] at HR0
  rw [hEE] at HR2
  rw [hK, hEE] at HA hAP
  generalize sideN K = rr at HA hAP
  generalize sideN E = cc at HA hAP
  generalize eltL zs (rr * cc).toNat = ll at HA hAP
  have HAP := Lib.hid hAP
  generalize z.v = zv at HV
  clear hRC hO5 r0 r2 hK hEE hAP hz
  have hB : Below w.heap.size w w := Below.refl _ w
  go_enter Tryz.func7, Tryz.ntmps7
  go_wp2_with fail
  have hB1 : Below w.heap.size w (w.alloc (.cells RC 25)) := (Below.refl _ w).alloc (Nat.le_refl _) _
  have hraw : World.rw (w.alloc (.cells RC 25)) w.heap.size RC := rw_new w RC
  have hE0 := hE
  have hE := hE.below hB1
  have hr := hr.at hB1 hB1.size
  have hB := hB1
  clear hB1
  obtain ⟨w0, hw0⟩ : ∃ w0, w0 = w.alloc (.cells RC 25) := ⟨_, rfl⟩
  rw [← hw0] at hE hr hB hraw ⊢
  clear hw0
  refine (awk11 hE).mono ?_
  rintro e1 w1 ⟨rfl, hB1⟩
  have hraw := hraw.below hB1 hraw.lt
  have hE := hE.below hB1
  have hr := hr.at hB1 (Nat.le_trans (Nat.le_refl _) hB1.size)
  have hB := hB.trans (hB1.mono hB.size)
  clear hB1
  go_wp2_with (refine wpList_load25 rfl rfl rfl hraw HO5.out ?_)
  refine (HV.out _).mono ?_
  rintro e2 w2 ⟨Cv, rfl, hv, hB2⟩
  have hraw := hraw.below hB2 hraw.lt
  have hE := hE.below hB2
  have hr := hr.at hB2 (Nat.le_trans (Nat.le_refl _) hB2.size)
  have hB := hB.trans (hB2.mono hB.size)
  clear hB2 HV
  have rc0 := hraw.cell HR0.out
  have rc2 := hraw.cell HR2.out
  obtain ⟨b8, hb8⟩ : ∃ b, b = w2.heap.size := ⟨_, rfl⟩
  go_wp2_with (first | refine wpList_alloc34 rfl rfl ?_ | (refine wpList_store34 rfl rfl rfl rfl (World.vb_new w2 vz) (by rfl) hv.one ?_; intro w3 hn8 hg3 hz3; have hB3 := vb_made hg3; have hE := hE.below hB3; have hv := hv.below hB3; have hB := hB.trans (hB3.mono hB.size)) | refine wpList_load34 rfl rfl rfl hn8 hv.one.1 ?_)
  rw [← hb8] at hn8 ⊢
  clear hb8 hg3 hz3 hB3
  clear hraw rc0 rc2
  refine (to29 hv hE).mono ?_
  rintro e4 w4 ⟨Cn, rfl, hn, hB4⟩
  have hE := hE.below hB4
  have hv := hv.below hB4
  have hn8 := hn8.below hB4 hn8.lt
  have hB := hB.trans (hB4.mono hB.size)
  clear hB4
  obtain ⟨b9, hb9⟩ : ∃ b, b = w4.heap.size := ⟨_, rfl⟩
  go_wp2_with (first | refine wpList_alloc34 rfl rfl ?_ | (refine wpList_store34 rfl rfl rfl rfl (World.vb_new w4 vz) (by rfl) hn.one ?_; intro w5 hn9 hg5 hz5; have hB5 := vb_made hg5; have hE := hE.below hB5; have hv := hv.below hB5; have hn := hn.below hB5; have hn8 := hn8.below hB5 hn8.lt; have hB := hB.trans (hB5.mono hB.size)) | refine wpList_load34 rfl rfl rfl hn8 hv.one.1 ?_)
  rw [← hb9] at hn9 ⊢
  clear hb9 hg5 hz5 hB5
  refine (to30 hv hE).mono ?_
  rintro e6 w6 ⟨Ct, rfl, ht, hB6⟩
  have hE := hE.below hB6
  have hv := hv.below hB6
  have hn := hn.below hB6
  have hn8 := hn8.below hB6 hn8.lt
  have hn9 := hn9.below hB6 hn9.lt
  have hB := hB.trans (hB6.mono hB.size)
  clear hB6
  obtain ⟨b10, hb10⟩ : ∃ b, b = w6.heap.size := ⟨_, rfl⟩
  go_wp2_with (first | refine wpList_alloc34 rfl rfl ?_ | (refine wpList_store34 rfl rfl rfl rfl (World.vb_new w6 vz) (by rfl) ht.one ?_; intro w7 hn10 hg7 hz7; have hB7 := vb_made hg7; have hE := hE.below hB7; have hv := hv.below hB7; have hn := hn.below hB7; have ht := ht.below hB7; have hn8 := hn8.below hB7 hn8.lt; have hn9 := hn9.below hB7 hn9.lt; have hB := hB.trans (hB7.mono hB.size)) | refine wpList_load34 rfl rfl rfl hn8 hv.one.1 ?_)
  rw [← hb10] at hn10 ⊢
  clear hb10 hg7 hz7 hB7
  refine (to31 hv hE).mono ?_
  rintro e8 w8 ⟨Cb, rfl, hb, hB8⟩
  have hE := hE.below hB8
  have hv := hv.below hB8
  have hn := hn.below hB8
  have ht := ht.below hB8
  have hn8 := hn8.below hB8 hn8.lt
  have hn9 := hn9.below hB8 hn9.lt
  have hn10 := hn10.below hB8 hn10.lt
  have hB := hB.trans (hB8.mono hB.size)
  clear hB8
  obtain ⟨b11, hb11⟩ : ∃ b, b = w8.heap.size := ⟨_, rfl⟩
  go_wp2_with (first | refine wpList_alloc34 rfl rfl ?_ | (refine wpList_store34 rfl rfl rfl rfl (World.vb_new w8 vz) (by rfl) hb.one ?_; intro w9 hn11 hg9 hz9; have hB9 := vb_made hg9; have hE := hE.below hB9; have hv := hv.below hB9; have hn := hn.below hB9; have ht := ht.below hB9; have hb := hb.below hB9; have hn8 := hn8.below hB9 hn8.lt; have hn9 := hn9.below hB9 hn9.lt; have hn10 := hn10.below hB9 hn10.lt; have hB := hB.trans (hB9.mono hB.size)) | refine wpList_load34 rfl rfl rfl hn9 hn.one.1 ?_)
  rw [← hb11] at hn11 ⊢
  clear hb11 hg9 hz9 hB9
  have hvc := hv.cases
  clear hv hn8
  refine (right27 hn hE).mono ?_
  rintro e10 w10 ⟨rfl, hB10⟩
  have hE := hE.below hB10
  have hn := hn.below hB10
  have ht := ht.below hB10
  have hb := hb.below hB10
  have hn9 := hn9.below hB10 hn9.lt
  have hn10 := hn10.below hB10 hn10.lt
  have hn11 := hn11.below hB10 hn11.lt
  have hB := hB.trans (hB10.mono hB.size)
  clear hB10
  go_wp2_with (refine wpList_load34g rfl rfl rfl hn10 ht.one.1 ?_)
  refine (right27 ht hE).mono ?_
  rintro e11 w11 ⟨rfl, hB11⟩
  have hE := hE.below hB11
  have hn := hn.below hB11
  have ht := ht.below hB11
  have hb := hb.below hB11
  have hn9 := hn9.below hB11 hn9.lt
  have hn10 := hn10.below hB11 hn10.lt
  have hn11 := hn11.below hB11 hn11.lt
  have hB := hB.trans (hB11.mono hB.size)
  clear hB11
  go_wp2_with (refine wpList_load34g rfl rfl rfl hn11 hb.one.1 ?_)
  refine (right27 hb hE).mono ?_
  rintro e12 w12 ⟨rfl, hB12⟩
  have hE := hE.below hB12
  have hn := hn.below hB12
  have ht := ht.below hB12
  have hb := hb.below hB12
  have hn9 := hn9.below hB12 hn9.lt
  have hn10 := hn10.below hB12 hn10.lt
  have hn11 := hn11.below hB12 hn11.lt
  have hB := hB.trans (hB12.mono hB.size)
  clear hB12
  go_wp2_with fail
  refine wp_region_held_drew (S := (fun w9 => World.vb w9 b9 Cn ∧ World.vb w9 b10 Ct ∧ World.vb w9 b11 Cb)) (by kernel_rfl) ⟨hn9, hn10, hn11⟩ (fun hHeld => ?_)
  have hBd := World.drew_below w12
  have hE := hE.below hBd
  have hn := hn.below hBd
  have ht := ht.below hBd
  have hb := hb.below hBd
  have hn9 := hn9.below hBd hn9.lt
  have hn10 := hn10.below hBd hn10.lt
  have hn11 := hn11.below hBd hn11.lt
  have hB := hB.trans (hBd.mono hB.size)
  clear hBd
  refine wpAnyH_take (i := 0) (oi := ⟨some 42, _, _, _, _, _⟩) (v := ?_) rfl (by kernel_rfl) (by kernel_rfl) (by kernel_rfl) (fun _ _ _ h => h) (Or.inl ⟨by rfl, ?_⟩) hHeld ?_
  rotate_left
  · (intro w9 hSw; (try dsimp only at hSw); go_simp)
    all_goals with_reducible rfl
  try simp only [Act.put, List.setIfInBounds_toArray, List.set_cons_zero, List.set_cons_succ]
  refine wpAnyH_take (i := 1) (oi := ⟨some 43, _, _, _, _, _⟩) (v := ?_) rfl (by kernel_rfl) (by kernel_rfl) (by kernel_rfl) (fun _ _ _ h => h) (Or.inl ⟨by rfl, ?_⟩) hHeld ?_
  rotate_left
  · (intro w9 hSw; (try dsimp only at hSw); go_simp)
    all_goals with_reducible rfl
  try simp only [Act.put, List.setIfInBounds_toArray, List.set_cons_zero, List.set_cons_succ]
  refine wpAnyH_take (i := 2) (oi := ⟨some 44, _, _, _, _, _⟩) (v := ?_) rfl (by kernel_rfl) (by kernel_rfl) (by kernel_rfl) (fun _ _ _ h => h) (Or.inl ⟨by rfl, ?_⟩) hHeld ?_
  rotate_left
  · (intro w9 hSw; refine yields34 (x := .tmp 9) (g := b9) (cs := Cn) ?_ ?_ hn.one.1 hSw.1 <;> rfl)
  try simp only [Act.put, List.setIfInBounds_toArray, List.set_cons_zero, List.set_cons_succ]
  refine wpAnyH_take (i := 4) (oi := ⟨some 46, _, _, _, _, _⟩) (v := ?_) rfl (by kernel_rfl) (by kernel_rfl) (by kernel_rfl) (fun _ _ _ h => h) (Or.inl ⟨by rfl, ?_⟩) hHeld ?_
  rotate_left
  · (intro w9 hSw; refine yields34 (x := .tmp 9) (g := b9) (cs := Cn) ?_ ?_ hn.one.1 hSw.1 <;> rfl)
  try simp only [Act.put, List.setIfInBounds_toArray, List.set_cons_zero, List.set_cons_succ]
  refine wpAnyH_ready (rs := [3]) (by kernel_rfl) (by simp) ?_
  refine (AllReadyH.cons (o := ⟨some 45, _, _, _, _, _⟩) rfl (fun KK hK => ?_) AllReadyH.nil)
  rw [if_pos (by rfl)]
  go_simp
  refine (to29 hn hE).mono ?_
  rintro e13 w13 ⟨Cx45, rfl, hx45, hB13⟩
  have hE := hE.below hB13
  have hn := hn.below hB13
  have ht := ht.below hB13
  have hb := hb.below hB13
  have hn9 := hn9.below hB13 hn9.lt
  have hn10 := hn10.below hB13 hn10.lt
  have hn11 := hn11.below hB13 hn11.lt
  have hB := hB.trans (hB13.mono hB.size)
  clear hB13
  refine hK.out _ _ ⟨hn9, hn10, hn11⟩ ?_
  clear hK KK hHeld
  intro hHeld
  try simp only [Act.put, List.setIfInBounds_toArray, List.set_cons_zero, List.set_cons_succ]
  refine wpAnyH_ready (rs := [5]) (by kernel_rfl) (by simp) ?_
  refine (AllReadyH.cons (o := ⟨some 47, _, _, _, _, _⟩) rfl (fun KK hK => ?_) AllReadyH.nil)
  rw [if_pos (by rfl)]
  go_simp
  refine (same26 hx45 hn (each_again (fun _ => numT_plain) (fun _ => numT_again) hvc)).mono ?_
  rintro e14 w14 ⟨rfl, hB14⟩
  clear hx45
  have hE := hE.below hB14
  have hn := hn.below hB14
  have ht := ht.below hB14
  have hb := hb.below hB14
  have hn9 := hn9.below hB14 hn9.lt
  have hn10 := hn10.below hB14 hn10.lt
  have hn11 := hn11.below hB14 hn11.lt
  have hB := hB.trans (hB14.mono hB.size)
  clear hB14
  refine hK.out _ _ ⟨hn9, hn10, hn11⟩ ?_
  clear hK KK hHeld
  intro hHeld
  try simp only [Act.put, List.setIfInBounds_toArray, List.set_cons_zero, List.set_cons_succ]
  refine wpAnyH_take (i := 6) (oi := ⟨some 48, _, _, _, _, _⟩) (v := ?_) rfl (by kernel_rfl) (by kernel_rfl) (by kernel_rfl) (fun _ _ _ h => h) (Or.inl ⟨by rfl, ?_⟩) hHeld ?_
  rotate_left
  · (intro w9 hSw; (try dsimp only at hSw); go_simp)
    all_goals with_reducible rfl
  try simp only [Act.put, List.setIfInBounds_toArray, List.set_cons_zero, List.set_cons_succ]
  refine wpAnyH_take (i := 7) (oi := ⟨some 49, _, _, _, _, _⟩) (v := ?_) rfl (by kernel_rfl) (by kernel_rfl) (by kernel_rfl) (fun _ _ _ h => h) (Or.inl ⟨by rfl, ?_⟩) hHeld ?_
  rotate_left
  · (intro w9 hSw; (try dsimp only at hSw); go_simp)
    all_goals with_reducible rfl
  try simp only [Act.put, List.setIfInBounds_toArray, List.set_cons_zero, List.set_cons_succ]
  refine wpAnyH_take (i := 8) (oi := ⟨some 50, _, _, _, _, _⟩) (v := ?_) rfl (by kernel_rfl) (by kernel_rfl) (by kernel_rfl) (fun _ _ _ h => h) (Or.inl ⟨by rfl, ?_⟩) hHeld ?_
  rotate_left
  · (intro w9 hSw; refine yields34 (x := .tmp 10) (g := b10) (cs := Ct) ?_ ?_ ht.one.1 hSw.2.1 <;> rfl)
  try simp only [Act.put, List.setIfInBounds_toArray, List.set_cons_zero, List.set_cons_succ]
  refine wpAnyH_take (i := 10) (oi := ⟨some 52, _, _, _, _, _⟩) (v := ?_) rfl (by kernel_rfl) (by kernel_rfl) (by kernel_rfl) (fun _ _ _ h => h) (Or.inl ⟨by rfl, ?_⟩) hHeld ?_
  rotate_left
  · (intro w9 hSw; refine yields34 (x := .tmp 10) (g := b10) (cs := Ct) ?_ ?_ ht.one.1 hSw.2.1 <;> rfl)
  try simp only [Act.put, List.setIfInBounds_toArray, List.set_cons_zero, List.set_cons_succ]
  refine wpAnyH_ready (rs := [9]) (by kernel_rfl) (by simp) ?_
  refine (AllReadyH.cons (o := ⟨some 51, _, _, _, _, _⟩) rfl (fun KK hK => ?_) AllReadyH.nil)
  rw [if_pos (by rfl)]
  go_simp
  refine (to30 ht hE).mono ?_
  rintro e15 w15 ⟨Cx51, rfl, hx51, hB15⟩
  have hE := hE.below hB15
  have hn := hn.below hB15
  have ht := ht.below hB15
  have hb := hb.below hB15
  have hn9 := hn9.below hB15 hn9.lt
  have hn10 := hn10.below hB15 hn10.lt
  have hn11 := hn11.below hB15 hn11.lt
  have hB := hB.trans (hB15.mono hB.size)
  clear hB15
  refine hK.out _ _ ⟨hn9, hn10, hn11⟩ ?_
  clear hK KK hHeld
  intro hHeld
  try simp only [Act.put, List.setIfInBounds_toArray, List.set_cons_zero, List.set_cons_succ]
  refine wpAnyH_ready (rs := [11]) (by kernel_rfl) (by simp) ?_
  refine (AllReadyH.cons (o := ⟨some 53, _, _, _, _, _⟩) rfl (fun KK hK => ?_) AllReadyH.nil)
  rw [if_pos (by rfl)]
  go_simp
  refine (same26 hx51 ht (each_again (fun _ => txtT_plain) (fun _ => txtT_again) hvc)).mono ?_
  rintro e16 w16 ⟨rfl, hB16⟩
  clear hx51
  have hE := hE.below hB16
  have hn := hn.below hB16
  have ht := ht.below hB16
  have hb := hb.below hB16
  have hn9 := hn9.below hB16 hn9.lt
  have hn10 := hn10.below hB16 hn10.lt
  have hn11 := hn11.below hB16 hn11.lt
  have hB := hB.trans (hB16.mono hB.size)
  clear hB16
  refine hK.out _ _ ⟨hn9, hn10, hn11⟩ ?_
  clear hK KK hHeld
  intro hHeld
  try simp only [Act.put, List.setIfInBounds_toArray, List.set_cons_zero, List.set_cons_succ]
  refine wpAnyH_take (i := 12) (oi := ⟨some 54, _, _, _, _, _⟩) (v := ?_) rfl (by kernel_rfl) (by kernel_rfl) (by kernel_rfl) (fun _ _ _ h => h) (Or.inl ⟨by rfl, ?_⟩) hHeld ?_
  rotate_left
  · (intro w9 hSw; (try dsimp only at hSw); go_simp)
    all_goals with_reducible rfl
  try simp only [Act.put, List.setIfInBounds_toArray, List.set_cons_zero, List.set_cons_succ]
  refine wpAnyH_take (i := 13) (oi := ⟨some 55, _, _, _, _, _⟩) (v := ?_) rfl (by kernel_rfl) (by kernel_rfl) (by kernel_rfl) (fun _ _ _ h => h) (Or.inl ⟨by rfl, ?_⟩) hHeld ?_
  rotate_left
  · (intro w9 hSw; (try dsimp only at hSw); go_simp)
    all_goals with_reducible rfl
  try simp only [Act.put, List.setIfInBounds_toArray, List.set_cons_zero, List.set_cons_succ]
  refine wpAnyH_take (i := 14) (oi := ⟨some 56, _, _, _, _, _⟩) (v := ?_) rfl (by kernel_rfl) (by kernel_rfl) (by kernel_rfl) (fun _ _ _ h => h) (Or.inl ⟨by rfl, ?_⟩) hHeld ?_
  rotate_left
  · (intro w9 hSw; refine yields34 (x := .tmp 11) (g := b11) (cs := Cb) ?_ ?_ hb.one.1 hSw.2.2 <;> rfl)
  try simp only [Act.put, List.setIfInBounds_toArray, List.set_cons_zero, List.set_cons_succ]
  refine wpAnyH_take (i := 16) (oi := ⟨some 58, _, _, _, _, _⟩) (v := ?_) rfl (by kernel_rfl) (by kernel_rfl) (by kernel_rfl) (fun _ _ _ h => h) (Or.inl ⟨by rfl, ?_⟩) hHeld ?_
  rotate_left
  · (intro w9 hSw; refine yields34 (x := .tmp 11) (g := b11) (cs := Cb) ?_ ?_ hb.one.1 hSw.2.2 <;> rfl)
  try simp only [Act.put, List.setIfInBounds_toArray, List.set_cons_zero, List.set_cons_succ]
  refine wpAnyH_ready (rs := [15]) (by kernel_rfl) (by simp) ?_
  refine (AllReadyH.cons (o := ⟨some 57, _, _, _, _, _⟩) rfl (fun KK hK => ?_) AllReadyH.nil)
  rw [if_pos (by rfl)]
  go_simp
  refine (to31 hb hE).mono ?_
  rintro e17 w17 ⟨Cx57, rfl, hx57, hB17⟩
  have hE := hE.below hB17
  have hn := hn.below hB17
  have ht := ht.below hB17
  have hb := hb.below hB17
  have hn9 := hn9.below hB17 hn9.lt
  have hn10 := hn10.below hB17 hn10.lt
  have hn11 := hn11.below hB17 hn11.lt
  have hB := hB.trans (hB17.mono hB.size)
  clear hB17
  refine hK.out _ _ ⟨hn9, hn10, hn11⟩ ?_
  clear hK KK hHeld
  intro hHeld
  try simp only [Act.put, List.setIfInBounds_toArray, List.set_cons_zero, List.set_cons_succ]
  refine wpAnyH_ready (rs := [17]) (by kernel_rfl) (by simp) ?_
  refine (AllReadyH.cons (o := ⟨some 59, _, _, _, _, _⟩) rfl (fun KK hK => ?_) AllReadyH.nil)
  rw [if_pos (by rfl)]
  go_simp
  refine (same26 hx57 hb (each_again (fun _ => truT_plain) (fun _ => truT_again) hvc)).mono ?_
  rintro e18 w18 ⟨rfl, hB18⟩
  clear hx57
  have hE := hE.below hB18
  have hn := hn.below hB18
  have ht := ht.below hB18
  have hb := hb.below hB18
  have hn9 := hn9.below hB18 hn9.lt
  have hn10 := hn10.below hB18 hn10.lt
  have hn11 := hn11.below hB18 hn11.lt
  have hB := hB.trans (hB18.mono hB.size)
  clear hB18
  refine hK.out _ _ ⟨hn9, hn10, hn11⟩ ?_
  clear hK KK hHeld
  intro hHeld
  try simp only [Act.put, List.setIfInBounds_toArray, List.set_cons_zero, List.set_cons_succ]
  refine wpAnyH_take (i := 18) (oi := ⟨some 60, _, _, _, _, _⟩) (v := ?_) rfl (by kernel_rfl) (by kernel_rfl) (by kernel_rfl) (fun _ _ _ h => h) (Or.inl ⟨by rfl, ?_⟩) hHeld ?_
  rotate_left
  · (intro w9 hSw; (try dsimp only at hSw); go_simp)
    all_goals with_reducible rfl
  try simp only [Act.put, List.setIfInBounds_toArray, List.set_cons_zero, List.set_cons_succ]
  refine wpAnyH_take (i := 19) (oi := ⟨some 61, _, _, _, _, _⟩) (v := ?_) rfl (by kernel_rfl) (by kernel_rfl) (by kernel_rfl) (fun _ _ _ h => h) (Or.inl ⟨by rfl, ?_⟩) hHeld ?_
  rotate_left
  · (intro w9 hSw; (try dsimp only at hSw); go_simp)
    all_goals with_reducible rfl
  try simp only [Act.put, List.setIfInBounds_toArray, List.set_cons_zero, List.set_cons_succ]
  refine wpAnyH_take (i := 20) (oi := ⟨some 62, _, _, _, _, _⟩) (v := ?_) rfl (by kernel_rfl) (by kernel_rfl) (by kernel_rfl) (fun _ _ _ h => h) (Or.inl ⟨by rfl, ?_⟩) hHeld ?_
  rotate_left
  · (intro w9 hSw; refine yields34 (x := .tmp 9) (g := b9) (cs := Cn) ?_ ?_ hn.one.1 hSw.1 <;> rfl)
  try simp only [Act.put, List.setIfInBounds_toArray, List.set_cons_zero, List.set_cons_succ]
  refine wpAnyH_take (i := 23) (oi := ⟨some 65, _, _, _, _, _⟩) (v := ?_) rfl (by kernel_rfl) (by kernel_rfl) (by kernel_rfl) (fun _ _ _ h => h) (Or.inl ⟨by rfl, ?_⟩) hHeld ?_
  rotate_left
  · (intro w9 hSw; refine yields34 (x := .tmp 9) (g := b9) (cs := Cn) ?_ ?_ hn.one.1 hSw.1 <;> rfl)
  try simp only [Act.put, List.setIfInBounds_toArray, List.set_cons_zero, List.set_cons_succ]
  refine wpAnyH_ready (rs := [21]) (by kernel_rfl) (by simp) ?_
  refine (AllReadyH.cons (o := ⟨some 63, _, _, _, _, _⟩) rfl (fun KK hK => ?_) AllReadyH.nil)
  rw [if_pos (by rfl)]
  go_simp
  refine (to30 hn hE).mono ?_
  rintro e19 w19 ⟨Cx63, rfl, hx63, hB19⟩
  have hE := hE.below hB19
  have hn := hn.below hB19
  have ht := ht.below hB19
  have hb := hb.below hB19
  have hn9 := hn9.below hB19 hn9.lt
  have hn10 := hn10.below hB19 hn10.lt
  have hn11 := hn11.below hB19 hn11.lt
  have hB := hB.trans (hB19.mono hB.size)
  clear hB19
  refine hK.out _ _ ⟨hn9, hn10, hn11⟩ ?_
  clear hK KK hHeld
  intro hHeld
  try simp only [Act.put, List.setIfInBounds_toArray, List.set_cons_zero, List.set_cons_succ]
  refine wpAnyH_ready (rs := [22]) (by kernel_rfl) (by simp) ?_
  refine (AllReadyH.cons (o := ⟨some 64, _, _, _, _, _⟩) rfl (fun KK hK => ?_) AllReadyH.nil)
  rw [if_pos (by rfl)]
  go_simp
  refine (to29 hx63 hE).mono ?_
  rintro e20 w20 ⟨Cx64, rfl, hx64, hB20⟩
  have hE := hE.below hB20
  have hn := hn.below hB20
  have ht := ht.below hB20
  have hb := hb.below hB20
  have hx63 := hx63.below hB20
  have hn9 := hn9.below hB20 hn9.lt
  have hn10 := hn10.below hB20 hn10.lt
  have hn11 := hn11.below hB20 hn11.lt
  have hB := hB.trans (hB20.mono hB.size)
  clear hx63
  clear hB20
  refine hK.out _ _ ⟨hn9, hn10, hn11⟩ ?_
  clear hK KK hHeld
  intro hHeld
  try simp only [Act.put, List.setIfInBounds_toArray, List.set_cons_zero, List.set_cons_succ]
  refine wpAnyH_ready (rs := [24]) (by kernel_rfl) (by simp) ?_
  refine (AllReadyH.cons (o := ⟨some 66, _, _, _, _, _⟩) rfl (fun KK hK => ?_) AllReadyH.nil)
  rw [if_pos (by rfl)]
  go_simp
  refine (same26 hx64 hn (each_twice (fun _ => numT_plain) (fun _ => txtT_plain) (fun _ => num_of_txt) hvc)).mono ?_
  rintro e21 w21 ⟨rfl, hB21⟩
  clear hx64
  have hE := hE.below hB21
  have hn := hn.below hB21
  have ht := ht.below hB21
  have hb := hb.below hB21
  have hn9 := hn9.below hB21 hn9.lt
  have hn10 := hn10.below hB21 hn10.lt
  have hn11 := hn11.below hB21 hn11.lt
  have hB := hB.trans (hB21.mono hB.size)
  clear hB21
  refine hK.out _ _ ⟨hn9, hn10, hn11⟩ ?_
  clear hK KK hHeld
  intro hHeld
  try simp only [Act.put, List.setIfInBounds_toArray, List.set_cons_zero, List.set_cons_succ]
  refine wpAnyH_take (i := 25) (oi := ⟨some 67, _, _, _, _, _⟩) (v := ?_) rfl (by kernel_rfl) (by kernel_rfl) (by kernel_rfl) (fun _ _ _ h => h) (Or.inl ⟨by rfl, ?_⟩) hHeld ?_
  rotate_left
  · (intro w9 hSw; (try dsimp only at hSw); go_simp)
    all_goals with_reducible rfl
  try simp only [Act.put, List.setIfInBounds_toArray, List.set_cons_zero, List.set_cons_succ]
  refine wpAnyH_take (i := 26) (oi := ⟨some 68, _, _, _, _, _⟩) (v := ?_) rfl (by kernel_rfl) (by kernel_rfl) (by kernel_rfl) (fun _ _ _ h => h) (Or.inl ⟨by rfl, ?_⟩) hHeld ?_
  rotate_left
  · (intro w9 hSw; (try dsimp only at hSw); go_simp)
    all_goals with_reducible rfl
  try simp only [Act.put, List.setIfInBounds_toArray, List.set_cons_zero, List.set_cons_succ]
  refine wpAnyH_take (i := 27) (oi := ⟨some 69, _, _, _, _, _⟩) (v := ?_) rfl (by kernel_rfl) (by kernel_rfl) (by kernel_rfl) (fun _ _ _ h => h) (Or.inl ⟨by rfl, ?_⟩) hHeld ?_
  rotate_left
  · (intro w9 hSw; refine yields34 (x := .tmp 11) (g := b11) (cs := Cb) ?_ ?_ hb.one.1 hSw.2.2 <;> rfl)
  try simp only [Act.put, List.setIfInBounds_toArray, List.set_cons_zero, List.set_cons_succ]
  refine wpAnyH_take (i := 30) (oi := ⟨some 72, _, _, _, _, _⟩) (v := ?_) rfl (by kernel_rfl) (by kernel_rfl) (by kernel_rfl) (fun _ _ _ h => h) (Or.inl ⟨by rfl, ?_⟩) hHeld ?_
  rotate_left
  · (intro w9 hSw; refine yields34 (x := .tmp 11) (g := b11) (cs := Cb) ?_ ?_ hb.one.1 hSw.2.2 <;> rfl)
  try simp only [Act.put, List.setIfInBounds_toArray, List.set_cons_zero, List.set_cons_succ]
  refine wpAnyH_ready (rs := [28]) (by kernel_rfl) (by simp) ?_
  refine (AllReadyH.cons (o := ⟨some 70, _, _, _, _, _⟩) rfl (fun KK hK => ?_) AllReadyH.nil)
  rw [if_pos (by rfl)]
  go_simp
  refine (to29 hb hE).mono ?_
  rintro e22 w22 ⟨Cx70, rfl, hx70, hB22⟩
  have hE := hE.below hB22
  have hn := hn.below hB22
  have ht := ht.below hB22
  have hb := hb.below hB22
  have hn9 := hn9.below hB22 hn9.lt
  have hn10 := hn10.below hB22 hn10.lt
  have hn11 := hn11.below hB22 hn11.lt
  have hB := hB.trans (hB22.mono hB.size)
  clear hB22
  refine hK.out _ _ ⟨hn9, hn10, hn11⟩ ?_
  clear hK KK hHeld
  intro hHeld
  try simp only [Act.put, List.setIfInBounds_toArray, List.set_cons_zero, List.set_cons_succ]
  refine wpAnyH_ready (rs := [29]) (by kernel_rfl) (by simp) ?_
  refine (AllReadyH.cons (o := ⟨some 71, _, _, _, _, _⟩) rfl (fun KK hK => ?_) AllReadyH.nil)
  rw [if_pos (by rfl)]
  go_simp
  refine (to31 hx70 hE).mono ?_
  rintro e23 w23 ⟨Cx71, rfl, hx71, hB23⟩
  have hE := hE.below hB23
  have hn := hn.below hB23
  have ht := ht.below hB23
  have hb := hb.below hB23
  have hx70 := hx70.below hB23
  have hn9 := hn9.below hB23 hn9.lt
  have hn10 := hn10.below hB23 hn10.lt
  have hn11 := hn11.below hB23 hn11.lt
  have hB := hB.trans (hB23.mono hB.size)
  clear hx70
  clear hB23
  refine hK.out _ _ ⟨hn9, hn10, hn11⟩ ?_
  clear hK KK hHeld
  intro hHeld
  try simp only [Act.put, List.setIfInBounds_toArray, List.set_cons_zero, List.set_cons_succ]
  refine wpAnyH_ready (rs := [31]) (by kernel_rfl) (by simp) ?_
  refine (AllReadyH.cons (o := ⟨some 73, _, _, _, _, _⟩) rfl (fun KK hK => ?_) AllReadyH.nil)
  rw [if_pos (by rfl)]
  go_simp
  refine (same26 hx71 hb (each_twice (fun _ => truT_plain) (fun _ => numT_plain) (fun _ => tru_of_num) hvc)).mono ?_
  rintro e24 w24 ⟨rfl, hB24⟩
  clear hx71
  have hE := hE.below hB24
  have hn := hn.below hB24
  have ht := ht.below hB24
  have hb := hb.below hB24
  have hn9 := hn9.below hB24 hn9.lt
  have hn10 := hn10.below hB24 hn10.lt
  have hn11 := hn11.below hB24 hn11.lt
  have hB := hB.trans (hB24.mono hB.size)
  clear hB24
  refine hK.out _ _ ⟨hn9, hn10, hn11⟩ ?_
  clear hK KK hHeld
  intro hHeld
  try simp only [Act.put, List.setIfInBounds_toArray, List.set_cons_zero, List.set_cons_succ]
  refine wpAnyH_take (i := 32) (oi := ⟨some 74, _, _, _, _, _⟩) (v := ?_) rfl (by kernel_rfl) (by kernel_rfl) (by kernel_rfl) (fun _ _ _ h => h) (Or.inl ⟨by rfl, ?_⟩) hHeld ?_
  rotate_left
  · (intro w9 hSw; (try dsimp only at hSw); go_simp)
    all_goals with_reducible rfl
  try simp only [Act.put, List.setIfInBounds_toArray, List.set_cons_zero, List.set_cons_succ]
  refine wpAnyH_take (i := 33) (oi := ⟨some 6, _, _, _, _, _⟩) (v := ?_) rfl (by kernel_rfl) (by kernel_rfl) (by kernel_rfl) (fun _ _ _ h => h) (Or.inl ⟨by rfl, ?_⟩) hHeld ?_
  rotate_left
  · (intro w9 hSw; (try dsimp only at hSw); go_simp)
    all_goals with_reducible rfl
  try simp only [Act.put, List.setIfInBounds_toArray, List.set_cons_zero, List.set_cons_succ]
  refine wpAnyH_done (by kernel_rfl) ?_ _
  try simp only [Act.put, List.setIfInBounds_toArray, List.set_cons_zero, List.set_cons_succ]
  go_wp2_with fail
  go_ret
  refine ⟨?_, hB⟩
  rfl
theorem law_twice (z : Rw) (v : Value) (zs : List Rw) (b : Bool) (w : World) (hz : RwOk z) (hr : RawsAt w w.heap.size v zs) (hS : Shp w) (hT : Lib.Utf8Tabs 0 1 w) :
    Calls Tryz.prog 7 #[.agg z.c, v, .bool b] w (Gives (.bool true) w) := by
  cases b with
  | true => exact twice_arr_walk z v zs w hz hr ⟨hT, hS⟩
  | false => exact twice_one_walk z v zs w hz hr ⟨hT, hS⟩
end Go.Proofs.YtkhohjdakcchdaaGreatDoor
