/- The law ValOrder, walked: it tells true. -/
import Derived.Test.YtkhohjdakcchdaaGreatDoorThr
import Derived.Deep.DeepCutAuto
namespace Go.Proofs.YtkhohjdakcchdaaGreatDoor
open Go Go.RowKit Go.Shelf
set_option maxRecDepth 100000 in
set_option maxHeartbeats 16000000 in
theorem law_order (z0 z1 z2 : Rw) (v : Value) (zs : List Rw) (t0 t1 t2 : Bool) (w : World) (h0 : RwOk z0) (h1 : RwOk z1) (h2 : RwOk z2) (hr : RawsAt w w.heap.size v zs) (hcap : ∀ p n c, v = .slice p n c → n ≤ c) (hS : Shp w) (hT : Lib.Utf8Tabs 0 1 w) :
    Calls Tryz.prog 6 #[.agg z0.c, .agg z1.c, .agg z2.c, v, .agg #[.bool t0, .bool t1, .bool t2]] w (Gives (.bool true) w) := by
  have HE := Lib.hid (show ∀ W, Below w.heap.size w W → Env W from fun W hW => ⟨tabs_below hT hW, hS.below hW⟩)
  have HR := Lib.hid (show ∀ W, Below w.heap.size w W → RawsAt W w.heap.size v zs from fun W hW => hr.below hW)
  have HCAP := Lib.hid hcap
  clear hcap
  have H0 := Lib.hid (show ∀ W, Calls Tryz.prog 12 #[.agg z0.c] W (Gives (.agg (pcs z0.v)) W) from fun W => val12p h0)
  have H1 := Lib.hid (show ∀ W, Calls Tryz.prog 12 #[.agg z1.c] W (Gives (.agg (pcs z1.v)) W) from fun W => val12p h1)
  have H2 := Lib.hid (show ∀ W, Calls Tryz.prog 12 #[.agg z2.c] W (Gives (.agg (pcs z2.v)) W) from fun W => val12p h2)
  obtain ⟨R0, hR0⟩ : ∃ R, z0.c = R := ⟨_, rfl⟩
  obtain ⟨R1, hR1⟩ : ∃ R, z1.c = R := ⟨_, rfl⟩
  obtain ⟨R2, hR2⟩ : ∃ R, z2.c = R := ⟨_, rfl⟩
  have HR0 : Hid (R0.size = 5) := Lib.hid (by rw [← hR0]; rfl)
  have HR1 : Hid (R1.size = 5) := Lib.hid (by rw [← hR1]; rfl)
  have HR2 : Hid (R2.size = 5) := Lib.hid (by rw [← hR2]; rfl)
  rw [hR0] at H0
  rw [hR1] at H1
  rw [hR2] at H2
  rw [hR0, hR1, hR2]
  have P0 : plainV z0.v = true := valP_plain _ _ _ _ _
  have P1 : plainV z1.v = true := valP_plain _ _ _ _ _
  have P2 : plainV z2.v = true := valP_plain _ _ _ _ _
  generalize z0.v = x0 at H0 P0
  generalize z1.v = x1 at H1 P1
  generalize z2.v = x2 at H2 P2
  obtain ⟨C, X, e0, e1, e2, hX⟩ := tri_ex x0 x1 x2 P0 P1 P2
  have HC : Hid (∀ K, K < 3 → (C K).size = 12) := Lib.hid fun K _ => by rw [(hX K).2]; rfl
  have HO : Hid ((tri3 C).all (·.oneCell') = true) := Lib.hid (tri3_one fun K hK => by rw [(hX K).2]; exact pcs_one _)
  have HX := Lib.hid hX
  rw [e0] at H0
  rw [e1] at H1
  rw [e2] at H2
  clear hR0 hR1 hR2 h0 h1 h2 hS hT hr e0 e1 e2 hX P0 P1 P2 x0 x1 x2
  have hB : Below w.heap.size w w := Below.refl _ w
  go_enter Tryz.func6, Tryz.ntmps6
  go_wp2_with fail
  obtain ⟨W, hW⟩ : ∃ W, W = (((w.alloc (.cells R0 25)).alloc (.cells R1 25)).alloc (.cells R2 25)).alloc (.cells #[.bool t0, .bool t1, .bool t2] 53) := ⟨_, rfl⟩
  rw [← hW]
  have r0 : World.blk W w.heap.size 25 R0 := by rw [hW]; exact (((blk_new w 25 R0).alloc _).alloc _).alloc _
  have r1 : World.blk W (w.heap.size + 1) 25 R1 := by rw [hW]; have := ((blk_new (w.alloc (.cells R0 25)) 25 R1).alloc (.cells R2 25)).alloc (.cells #[.bool t0, .bool t1, .bool t2] 53); rwa [World.size_alloc] at this
  have r2 : World.blk W (w.heap.size + 1 + 1) 25 R2 := by rw [hW]; have := (blk_new ((w.alloc (.cells R0 25)).alloc (.cells R1 25)) 25 R2).alloc (.cells #[.bool t0, .bool t1, .bool t2] 53); rwa [World.size_alloc, World.size_alloc] at this
  have r3 : World.blk W (w.heap.size + 1 + 1 + 1) 53 #[.bool t0, .bool t1, .bool t2] := by rw [hW]; have := (blk_new (((w.alloc (.cells R0 25)).alloc (.cells R1 25)).alloc (.cells R2 25)) 53 #[.bool t0, .bool t1, .bool t2]); rwa [World.size_alloc, World.size_alloc, World.size_alloc] at this
  have hB : Below w.heap.size w W := by rw [hW]; exact ((((Below.refl _ w).alloc (Nat.le_refl _) _).alloc (by simp) _).alloc (by simp; omega) _).alloc (by simp; omega) _
  clear hW
  refine (awk11 (HE.out _ hB)).mono ?_
  rintro e1 w1 ⟨rfl, hB1⟩
  have r0 := r0.below hB1 r0.lt
  have r1 := r1.below hB1 r1.lt
  have r2 := r2.below hB1 r2.lt
  have r3 := r3.below hB1 r3.lt
  have hB := hB.trans (hB1.mono hB.size)
  clear hB1
  go_upto_region 2 with fail
  go_cut [12] (fun v12 wr => ∃ b, v12 = .pointer (some ⟨b, 0, none⟩) ∧ World.blk wr b 54 (tri3 C) ∧ w.heap.size + 4 ≤ b ∧ Below w.heap.size w wr ∧ World.blk wr (w.heap.size + 1 + 1 + 1) 53 #[.bool t0, .bool t1, .bool t2])
  case first =>
    refine wp_region_held_drew (S := (fun w9 => World.blk w9 w.heap.size 25 R0 ∧ World.blk w9 (w.heap.size + 1) 25 R1 ∧ World.blk w9 (w.heap.size + 1 + 1) 25 R2)) (by kernel_rfl) ⟨r0, r1, r2⟩ (fun hHeld => ?_)
    have hBd := World.drew_below w1
    have r0 := r0.below hBd r0.lt
    have r1 := r1.below hBd r1.lt
    have r2 := r2.below hBd r2.lt
    have r3 := r3.below hBd r3.lt
    have hB := hB.trans (hBd.mono hB.size)

    clear hBd
    refine wpAnyH_take (i := 0) (oi := ⟨some 18, _, _, _, _, _⟩) (v := ?_) rfl (by kernel_rfl) (by kernel_rfl) (by kernel_rfl) (fun _ _ _ h => h) (Or.inl ⟨by rfl, ?_⟩) hHeld ?_
    rotate_left
    · (intro w9 hSw; refine yields25 (x := .tmp 5) (g := w.heap.size) (off := 0) (cs := R0) ?_ ?_ HR0.out hSw.1.cell0 <;> rfl)
    try simp only [Act.put, List.setIfInBounds_toArray, List.set_cons_zero, List.set_cons_succ]
    refine wpAnyH_take (i := 2) (oi := ⟨some 20, _, _, _, _, _⟩) (v := ?_) rfl (by kernel_rfl) (by kernel_rfl) (by kernel_rfl) (fun _ _ _ h => h) (Or.inl ⟨by rfl, ?_⟩) hHeld ?_
    rotate_left
    · (intro w9 hSw; refine yields25 (x := .tmp 6) (g := (w.heap.size + 1)) (off := 0) (cs := R1) ?_ ?_ HR1.out hSw.2.1.cell0 <;> rfl)
    try simp only [Act.put, List.setIfInBounds_toArray, List.set_cons_zero, List.set_cons_succ]
    refine wpAnyH_take (i := 4) (oi := ⟨some 22, _, _, _, _, _⟩) (v := ?_) rfl (by kernel_rfl) (by kernel_rfl) (by kernel_rfl) (fun _ _ _ h => h) (Or.inl ⟨by rfl, ?_⟩) hHeld ?_
    rotate_left
    · (intro w9 hSw; refine yields25 (x := .tmp 7) (g := (w.heap.size + 1 + 1)) (off := 0) (cs := R2) ?_ ?_ HR2.out hSw.2.2.cell0 <;> rfl)
    try simp only [Act.put, List.setIfInBounds_toArray, List.set_cons_zero, List.set_cons_succ]
    refine wpAnyH_ready (rs := [1, 7]) (by kernel_rfl) (by simp) ?_
    refine (AllReadyH.cons (o := ⟨some 19, _, _, _, _, _⟩) rfl (fun KK hK => ?_) (AllReadyH.cons (o := ⟨some 12, _, _, _, _, _⟩) rfl (fun KK hK => ?_) AllReadyH.nil))
    · (try rw [if_pos (by rfl)])
      go_simp
      refine (H0.out _).mono ?_
      rintro e2 w2 ⟨rfl, hB2⟩
      have r0 := r0.below hB2 r0.lt
      have r1 := r1.below hB2 r1.lt
      have r2 := r2.below hB2 r2.lt
      have r3 := r3.below hB2 r3.lt
      have hB := hB.trans (hB2.mono hB.size)
      clear hB2
      refine hK.out _ _ ⟨r0, r1, r2⟩ ?_
      clear hK KK hHeld
      intro hHeld
      try simp only [Act.put, List.setIfInBounds_toArray, List.set_cons_zero, List.set_cons_succ]
      refine wpAnyH_ready (rs := [3, 7]) (by kernel_rfl) (by simp) ?_
      refine (AllReadyH.cons (o := ⟨some 21, _, _, _, _, _⟩) rfl (fun KK hK => ?_) (AllReadyH.cons (o := ⟨some 12, _, _, _, _, _⟩) rfl (fun KK hK => ?_) AllReadyH.nil))
      · (try rw [if_pos (by rfl)])
        go_simp
        refine (H1.out _).mono ?_
        rintro e3 w3 ⟨rfl, hB3⟩
        have r0 := r0.below hB3 r0.lt
        have r1 := r1.below hB3 r1.lt
        have r2 := r2.below hB3 r2.lt
        have r3 := r3.below hB3 r3.lt
        have hB := hB.trans (hB3.mono hB.size)
        clear hB3
        refine hK.out _ _ ⟨r0, r1, r2⟩ ?_
        clear hK KK hHeld
        intro hHeld
        try simp only [Act.put, List.setIfInBounds_toArray, List.set_cons_zero, List.set_cons_succ]
        refine wpAnyH_ready (rs := [5, 7]) (by kernel_rfl) (by simp) ?_
        refine (AllReadyH.cons (o := ⟨some 23, _, _, _, _, _⟩) rfl (fun KK hK => ?_) (AllReadyH.cons (o := ⟨some 12, _, _, _, _, _⟩) rfl (fun KK hK => ?_) AllReadyH.nil))
        · (try rw [if_pos (by rfl)])
          go_simp
          refine (H2.out _).mono ?_
          rintro e4 w4 ⟨rfl, hB4⟩
          have r0 := r0.below hB4 r0.lt
          have r1 := r1.below hB4 r1.lt
          have r2 := r2.below hB4 r2.lt
          have r3 := r3.below hB4 r3.lt
          have hB := hB.trans (hB4.mono hB.size)
          clear hB4
          refine hK.out _ _ ⟨r0, r1, r2⟩ ?_
          clear hK KK hHeld
          intro hHeld
          try simp only [Act.put, List.setIfInBounds_toArray, List.set_cons_zero, List.set_cons_succ]
          refine wpAnyH_ready (rs := [6, 7]) (by kernel_rfl) (by simp) ?_
          refine (AllReadyH.cons (o := ⟨some 24, _, _, _, _, _⟩) rfl (fun KK hK => ?_) (AllReadyH.cons (o := ⟨some 12, _, _, _, _, _⟩) rfl (fun KK hK => ?_) AllReadyH.nil))
          · (try rw [if_pos (by rfl)])
            refine op_build54 rfl rfl rfl rfl HC.out ?_
            refine hK.out _ _ ⟨r0, r1, r2⟩ ?_
            clear hK KK hHeld
            intro hHeld
            try simp only [Act.put, List.setIfInBounds_toArray, List.set_cons_zero, List.set_cons_succ]
            refine wpAnyH_ready (rs := [7]) (by kernel_rfl) (by simp) ?_
            refine (AllReadyH.cons (o := ⟨some 12, _, _, _, _, _⟩) rfl (fun KK hK => ?_) AllReadyH.nil)
            · (try rw [if_pos (by rfl)])
              refine op_alloc54 rfl ?_
              intro w5 hn hB5 hz5
              obtain ⟨b, hb⟩ : ∃ b, b = w4.heap.size := ⟨_, rfl⟩
              rw [← hb] at hn ⊢
              have hbb : w.heap.size + 4 ≤ b := by have := r3.lt; omega
              clear hb hz5
              have r0 := r0.below hB5 r0.lt
              have r1 := r1.below hB5 r1.lt
              have r2 := r2.below hB5 r2.lt
              have r3 := r3.below hB5 r3.lt
              have hB := hB.trans (hB5.mono hB.size)
              clear hB5
              refine hK.out _ _ ⟨r0, r1, r2⟩ ?_
              clear hK KK hHeld
              intro hHeld
              try simp only [Act.put, List.setIfInBounds_toArray, List.set_cons_zero, List.set_cons_succ]
              refine wpAnyH_ready (rs := [8]) (by kernel_rfl) (by simp) ?_
              refine (AllReadyH.cons (o := ⟨none, _, _, _, _, _⟩) rfl (fun KK hK => ?_) AllReadyH.nil)
              · (try rw [if_pos (by rfl)])
                refine op_store54 rfl rfl rfl hn rfl (tri3_size HC.out) HO.out ?_
                intro w6 hn hg6 hz6
                have r0 := r0.grown hg6 (by intro e9; injection e9 with e9; omega)
                have r1 := r1.grown hg6 (by intro e9; injection e9 with e9; omega)
                have r2 := r2.grown hg6 (by intro e9; injection e9 with e9; omega)
                have r3 := r3.grown hg6 (by intro e9; injection e9 with e9; omega)
                have hB := hB.grown hg6 hB.size (fun k9 hk9 => by cases hk9; omega)
                clear hg6 hz6
                refine hK.out _ _ ⟨r0, r1, r2⟩ ?_
                clear hK KK hHeld
                intro hHeld
                try simp only [Act.put]
                refine wpAnyH_done (by kernel_rfl) ?_ _
                try simp only [Act.put, List.setIfInBounds_toArray, List.set_cons_zero, List.set_cons_succ]
                go_wp2_with fail
                go_meet
                case rel => exact ⟨b, rfl, hn, hbb, hB, r3⟩
          · (try rw [if_pos (by rfl)])
            refine op_alloc54 rfl ?_
            intro w5 hn hB5 hz5
            obtain ⟨b, hb⟩ : ∃ b, b = w4.heap.size := ⟨_, rfl⟩
            rw [← hb] at hn ⊢
            have hbb : w.heap.size + 4 ≤ b := by have := r3.lt; omega
            clear hb hz5
            have r0 := r0.below hB5 r0.lt
            have r1 := r1.below hB5 r1.lt
            have r2 := r2.below hB5 r2.lt
            have r3 := r3.below hB5 r3.lt
            have hB := hB.trans (hB5.mono hB.size)
            clear hB5
            refine hK.out _ _ ⟨r0, r1, r2⟩ ?_
            clear hK KK hHeld
            intro hHeld
            try simp only [Act.put, List.setIfInBounds_toArray, List.set_cons_zero, List.set_cons_succ]
            refine wpAnyH_ready (rs := [6]) (by kernel_rfl) (by simp) ?_
            refine (AllReadyH.cons (o := ⟨some 24, _, _, _, _, _⟩) rfl (fun KK hK => ?_) AllReadyH.nil)
            · (try rw [if_pos (by rfl)])
              refine op_build54 rfl rfl rfl rfl HC.out ?_
              refine hK.out _ _ ⟨r0, r1, r2⟩ ?_
              clear hK KK hHeld
              intro hHeld
              try simp only [Act.put, List.setIfInBounds_toArray, List.set_cons_zero, List.set_cons_succ]
              refine wpAnyH_ready (rs := [8]) (by kernel_rfl) (by simp) ?_
              refine (AllReadyH.cons (o := ⟨none, _, _, _, _, _⟩) rfl (fun KK hK => ?_) AllReadyH.nil)
              · (try rw [if_pos (by rfl)])
                refine op_store54 rfl rfl rfl hn rfl (tri3_size HC.out) HO.out ?_
                intro w6 hn hg6 hz6
                have r0 := r0.grown hg6 (by intro e9; injection e9 with e9; omega)
                have r1 := r1.grown hg6 (by intro e9; injection e9 with e9; omega)
                have r2 := r2.grown hg6 (by intro e9; injection e9 with e9; omega)
                have r3 := r3.grown hg6 (by intro e9; injection e9 with e9; omega)
                have hB := hB.grown hg6 hB.size (fun k9 hk9 => by cases hk9; omega)
                clear hg6 hz6
                refine hK.out _ _ ⟨r0, r1, r2⟩ ?_
                clear hK KK hHeld
                intro hHeld
                try simp only [Act.put]
                refine wpAnyH_done (by kernel_rfl) ?_ _
                try simp only [Act.put, List.setIfInBounds_toArray, List.set_cons_zero, List.set_cons_succ]
                go_wp2_with fail
                go_meet
                case rel => exact ⟨b, rfl, hn, hbb, hB, r3⟩
        · (try rw [if_pos (by rfl)])
          refine op_alloc54 rfl ?_
          intro w4 hn hB4 hz4
          obtain ⟨b, hb⟩ : ∃ b, b = w3.heap.size := ⟨_, rfl⟩
          rw [← hb] at hn ⊢
          have hbb : w.heap.size + 4 ≤ b := by have := r3.lt; omega
          clear hb hz4
          have r0 := r0.below hB4 r0.lt
          have r1 := r1.below hB4 r1.lt
          have r2 := r2.below hB4 r2.lt
          have r3 := r3.below hB4 r3.lt
          have hB := hB.trans (hB4.mono hB.size)
          clear hB4
          refine hK.out _ _ ⟨r0, r1, r2⟩ ?_
          clear hK KK hHeld
          intro hHeld
          try simp only [Act.put, List.setIfInBounds_toArray, List.set_cons_zero, List.set_cons_succ]
          refine wpAnyH_ready (rs := [5]) (by kernel_rfl) (by simp) ?_
          refine (AllReadyH.cons (o := ⟨some 23, _, _, _, _, _⟩) rfl (fun KK hK => ?_) AllReadyH.nil)
          · (try rw [if_pos (by rfl)])
            go_simp
            refine (H2.out _).mono ?_
            rintro e5 w5 ⟨rfl, hB5⟩
            have r0 := r0.below hB5 r0.lt
            have r1 := r1.below hB5 r1.lt
            have r2 := r2.below hB5 r2.lt
            have r3 := r3.below hB5 r3.lt
            have hB := hB.trans (hB5.mono hB.size)
            have hn := hn.below hB5 hn.lt
            clear hB5
            refine hK.out _ _ ⟨r0, r1, r2⟩ ?_
            clear hK KK hHeld
            intro hHeld
            try simp only [Act.put, List.setIfInBounds_toArray, List.set_cons_zero, List.set_cons_succ]
            refine wpAnyH_ready (rs := [6]) (by kernel_rfl) (by simp) ?_
            refine (AllReadyH.cons (o := ⟨some 24, _, _, _, _, _⟩) rfl (fun KK hK => ?_) AllReadyH.nil)
            · (try rw [if_pos (by rfl)])
              refine op_build54 rfl rfl rfl rfl HC.out ?_
              refine hK.out _ _ ⟨r0, r1, r2⟩ ?_
              clear hK KK hHeld
              intro hHeld
              try simp only [Act.put, List.setIfInBounds_toArray, List.set_cons_zero, List.set_cons_succ]
              refine wpAnyH_ready (rs := [8]) (by kernel_rfl) (by simp) ?_
              refine (AllReadyH.cons (o := ⟨none, _, _, _, _, _⟩) rfl (fun KK hK => ?_) AllReadyH.nil)
              · (try rw [if_pos (by rfl)])
                refine op_store54 rfl rfl rfl hn rfl (tri3_size HC.out) HO.out ?_
                intro w6 hn hg6 hz6
                have r0 := r0.grown hg6 (by intro e9; injection e9 with e9; omega)
                have r1 := r1.grown hg6 (by intro e9; injection e9 with e9; omega)
                have r2 := r2.grown hg6 (by intro e9; injection e9 with e9; omega)
                have r3 := r3.grown hg6 (by intro e9; injection e9 with e9; omega)
                have hB := hB.grown hg6 hB.size (fun k9 hk9 => by cases hk9; omega)
                clear hg6 hz6
                refine hK.out _ _ ⟨r0, r1, r2⟩ ?_
                clear hK KK hHeld
                intro hHeld
                try simp only [Act.put]
                refine wpAnyH_done (by kernel_rfl) ?_ _
                try simp only [Act.put, List.setIfInBounds_toArray, List.set_cons_zero, List.set_cons_succ]
                go_wp2_with fail
                go_meet
                case rel => exact ⟨b, rfl, hn, hbb, hB, r3⟩
      · (try rw [if_pos (by rfl)])
        refine op_alloc54 rfl ?_
        intro w3 hn hB3 hz3
        obtain ⟨b, hb⟩ : ∃ b, b = w2.heap.size := ⟨_, rfl⟩
        rw [← hb] at hn ⊢
        have hbb : w.heap.size + 4 ≤ b := by have := r3.lt; omega
        clear hb hz3
        have r0 := r0.below hB3 r0.lt
        have r1 := r1.below hB3 r1.lt
        have r2 := r2.below hB3 r2.lt
        have r3 := r3.below hB3 r3.lt
        have hB := hB.trans (hB3.mono hB.size)
        clear hB3
        refine hK.out _ _ ⟨r0, r1, r2⟩ ?_
        clear hK KK hHeld
        intro hHeld
        try simp only [Act.put, List.setIfInBounds_toArray, List.set_cons_zero, List.set_cons_succ]
        refine wpAnyH_ready (rs := [3]) (by kernel_rfl) (by simp) ?_
        refine (AllReadyH.cons (o := ⟨some 21, _, _, _, _, _⟩) rfl (fun KK hK => ?_) AllReadyH.nil)
        · (try rw [if_pos (by rfl)])
          go_simp
          refine (H1.out _).mono ?_
          rintro e4 w4 ⟨rfl, hB4⟩
          have r0 := r0.below hB4 r0.lt
          have r1 := r1.below hB4 r1.lt
          have r2 := r2.below hB4 r2.lt
          have r3 := r3.below hB4 r3.lt
          have hB := hB.trans (hB4.mono hB.size)
          have hn := hn.below hB4 hn.lt
          clear hB4
          refine hK.out _ _ ⟨r0, r1, r2⟩ ?_
          clear hK KK hHeld
          intro hHeld
          try simp only [Act.put, List.setIfInBounds_toArray, List.set_cons_zero, List.set_cons_succ]
          refine wpAnyH_ready (rs := [5]) (by kernel_rfl) (by simp) ?_
          refine (AllReadyH.cons (o := ⟨some 23, _, _, _, _, _⟩) rfl (fun KK hK => ?_) AllReadyH.nil)
          · (try rw [if_pos (by rfl)])
            go_simp
            refine (H2.out _).mono ?_
            rintro e5 w5 ⟨rfl, hB5⟩
            have r0 := r0.below hB5 r0.lt
            have r1 := r1.below hB5 r1.lt
            have r2 := r2.below hB5 r2.lt
            have r3 := r3.below hB5 r3.lt
            have hB := hB.trans (hB5.mono hB.size)
            have hn := hn.below hB5 hn.lt
            clear hB5
            refine hK.out _ _ ⟨r0, r1, r2⟩ ?_
            clear hK KK hHeld
            intro hHeld
            try simp only [Act.put, List.setIfInBounds_toArray, List.set_cons_zero, List.set_cons_succ]
            refine wpAnyH_ready (rs := [6]) (by kernel_rfl) (by simp) ?_
            refine (AllReadyH.cons (o := ⟨some 24, _, _, _, _, _⟩) rfl (fun KK hK => ?_) AllReadyH.nil)
            · (try rw [if_pos (by rfl)])
              refine op_build54 rfl rfl rfl rfl HC.out ?_
              refine hK.out _ _ ⟨r0, r1, r2⟩ ?_
              clear hK KK hHeld
              intro hHeld
              try simp only [Act.put, List.setIfInBounds_toArray, List.set_cons_zero, List.set_cons_succ]
              refine wpAnyH_ready (rs := [8]) (by kernel_rfl) (by simp) ?_
              refine (AllReadyH.cons (o := ⟨none, _, _, _, _, _⟩) rfl (fun KK hK => ?_) AllReadyH.nil)
              · (try rw [if_pos (by rfl)])
                refine op_store54 rfl rfl rfl hn rfl (tri3_size HC.out) HO.out ?_
                intro w6 hn hg6 hz6
                have r0 := r0.grown hg6 (by intro e9; injection e9 with e9; omega)
                have r1 := r1.grown hg6 (by intro e9; injection e9 with e9; omega)
                have r2 := r2.grown hg6 (by intro e9; injection e9 with e9; omega)
                have r3 := r3.grown hg6 (by intro e9; injection e9 with e9; omega)
                have hB := hB.grown hg6 hB.size (fun k9 hk9 => by cases hk9; omega)
                clear hg6 hz6
                refine hK.out _ _ ⟨r0, r1, r2⟩ ?_
                clear hK KK hHeld
                intro hHeld
                try simp only [Act.put]
                refine wpAnyH_done (by kernel_rfl) ?_ _
                try simp only [Act.put, List.setIfInBounds_toArray, List.set_cons_zero, List.set_cons_succ]
                go_wp2_with fail
                go_meet
                case rel => exact ⟨b, rfl, hn, hbb, hB, r3⟩
    · (try rw [if_pos (by rfl)])
      refine op_alloc54 rfl ?_
      intro w2 hn hB2 hz2
      obtain ⟨b, hb⟩ : ∃ b, b = w1.drew.heap.size := ⟨_, rfl⟩
      rw [← hb] at hn ⊢
      have hbb : w.heap.size + 4 ≤ b := by have := r3.lt; omega
      clear hb hz2
      have r0 := r0.below hB2 r0.lt
      have r1 := r1.below hB2 r1.lt
      have r2 := r2.below hB2 r2.lt
      have r3 := r3.below hB2 r3.lt
      have hB := hB.trans (hB2.mono hB.size)
      clear hB2
      refine hK.out _ _ ⟨r0, r1, r2⟩ ?_
      clear hK KK hHeld
      intro hHeld
      try simp only [Act.put, List.setIfInBounds_toArray, List.set_cons_zero, List.set_cons_succ]
      refine wpAnyH_ready (rs := [1]) (by kernel_rfl) (by simp) ?_
      refine (AllReadyH.cons (o := ⟨some 19, _, _, _, _, _⟩) rfl (fun KK hK => ?_) AllReadyH.nil)
      · (try rw [if_pos (by rfl)])
        go_simp
        refine (H0.out _).mono ?_
        rintro e3 w3 ⟨rfl, hB3⟩
        have r0 := r0.below hB3 r0.lt
        have r1 := r1.below hB3 r1.lt
        have r2 := r2.below hB3 r2.lt
        have r3 := r3.below hB3 r3.lt
        have hB := hB.trans (hB3.mono hB.size)
        have hn := hn.below hB3 hn.lt
        clear hB3
        refine hK.out _ _ ⟨r0, r1, r2⟩ ?_
        clear hK KK hHeld
        intro hHeld
        try simp only [Act.put, List.setIfInBounds_toArray, List.set_cons_zero, List.set_cons_succ]
        refine wpAnyH_ready (rs := [3]) (by kernel_rfl) (by simp) ?_
        refine (AllReadyH.cons (o := ⟨some 21, _, _, _, _, _⟩) rfl (fun KK hK => ?_) AllReadyH.nil)
        · (try rw [if_pos (by rfl)])
          go_simp
          refine (H1.out _).mono ?_
          rintro e4 w4 ⟨rfl, hB4⟩
          have r0 := r0.below hB4 r0.lt
          have r1 := r1.below hB4 r1.lt
          have r2 := r2.below hB4 r2.lt
          have r3 := r3.below hB4 r3.lt
          have hB := hB.trans (hB4.mono hB.size)
          have hn := hn.below hB4 hn.lt
          clear hB4
          refine hK.out _ _ ⟨r0, r1, r2⟩ ?_
          clear hK KK hHeld
          intro hHeld
          try simp only [Act.put, List.setIfInBounds_toArray, List.set_cons_zero, List.set_cons_succ]
          refine wpAnyH_ready (rs := [5]) (by kernel_rfl) (by simp) ?_
          refine (AllReadyH.cons (o := ⟨some 23, _, _, _, _, _⟩) rfl (fun KK hK => ?_) AllReadyH.nil)
          · (try rw [if_pos (by rfl)])
            go_simp
            refine (H2.out _).mono ?_
            rintro e5 w5 ⟨rfl, hB5⟩
            have r0 := r0.below hB5 r0.lt
            have r1 := r1.below hB5 r1.lt
            have r2 := r2.below hB5 r2.lt
            have r3 := r3.below hB5 r3.lt
            have hB := hB.trans (hB5.mono hB.size)
            have hn := hn.below hB5 hn.lt
            clear hB5
            refine hK.out _ _ ⟨r0, r1, r2⟩ ?_
            clear hK KK hHeld
            intro hHeld
            try simp only [Act.put, List.setIfInBounds_toArray, List.set_cons_zero, List.set_cons_succ]
            refine wpAnyH_ready (rs := [6]) (by kernel_rfl) (by simp) ?_
            refine (AllReadyH.cons (o := ⟨some 24, _, _, _, _, _⟩) rfl (fun KK hK => ?_) AllReadyH.nil)
            · (try rw [if_pos (by rfl)])
              refine op_build54 rfl rfl rfl rfl HC.out ?_
              refine hK.out _ _ ⟨r0, r1, r2⟩ ?_
              clear hK KK hHeld
              intro hHeld
              try simp only [Act.put, List.setIfInBounds_toArray, List.set_cons_zero, List.set_cons_succ]
              refine wpAnyH_ready (rs := [8]) (by kernel_rfl) (by simp) ?_
              refine (AllReadyH.cons (o := ⟨none, _, _, _, _, _⟩) rfl (fun KK hK => ?_) AllReadyH.nil)
              · (try rw [if_pos (by rfl)])
                refine op_store54 rfl rfl rfl hn rfl (tri3_size HC.out) HO.out ?_
                intro w6 hn hg6 hz6
                have r0 := r0.grown hg6 (by intro e9; injection e9 with e9; omega)
                have r1 := r1.grown hg6 (by intro e9; injection e9 with e9; omega)
                have r2 := r2.grown hg6 (by intro e9; injection e9 with e9; omega)
                have r3 := r3.grown hg6 (by intro e9; injection e9 with e9; omega)
                have hB := hB.grown hg6 hB.size (fun k9 hk9 => by cases hk9; omega)
                clear hg6 hz6
                refine hK.out _ _ ⟨r0, r1, r2⟩ ?_
                clear hK KK hHeld
                intro hHeld
                try simp only [Act.put]
                refine wpAnyH_done (by kernel_rfl) ?_ _
                try simp only [Act.put, List.setIfInBounds_toArray, List.set_cons_zero, List.set_cons_succ]
                go_wp2_with fail
                go_meet
                case rel => exact ⟨b, rfl, hn, hbb, hB, r3⟩
  case rest =>
    obtain ⟨b, rfl, hn, hbb, hB, r3⟩ := hcut
    go_wp2_with fail
    go_loopw [13] (fun i wr => ∃ K : Nat, K ≤ 3 ∧ i = .int .i64 (K : Int) ∧ ∃ (D : Nat → Array Value) (Y : Nat → Vl), World.blk wr b 54 (tri3 D) ∧ Hid (∀ k, k < 3 → In3 wr (b + 1) (Y k) (D k)) ∧ Hid (∀ k, K ≤ k → plainV (Y k) = true ∧ D k = pcs (Y k)) ∧ Below w.heap.size w wr ∧ World.blk wr (w.heap.size + 1 + 1 + 1) 53 #[.bool t0, .bool t1, .bool t2]) (fun i _ => 3 - (intOf i).toNat)
    case atStart => exact ⟨0, by omega, rfl, C, X, hn, Lib.hid (fun k _ => .inl (HX.out k)), Lib.hid (fun k _ => HX.out k), hB, r3⟩
    case round =>
      obtain ⟨K, hK, rfl, D, Y, hn, HI, HP, hB, r3⟩ := hrel
      by_cases hlt : K < 3
      · have hKI : (K : Int) < 3 := by omega
        obtain ⟨tb, htb⟩ : ∃ tb, #[Value.bool t0, .bool t1, .bool t2][K]? = some (.bool tb) := by
          match K, hlt with
          | 0, _ => exact ⟨_, rfl⟩
          | 1, _ => exact ⟨_, rfl⟩
          | 2, _ => exact ⟨_, rfl⟩
        have ct := r3.cell htb
        clear htb
        cases tb with
        | false =>
          have HP' : Hid (∀ k, K + 1 ≤ k → plainV (Y k) = true ∧ D k = pcs (Y k)) := Lib.hid fun k hk => HP.out k (by omega)
          clear HP
          go_wp2_with fail
          go_roundw
          case rel => exact ⟨K + 1, by omega, by go_num, D, Y, hn, HI, HP', hB, r3⟩
          case measure => simp [intOf]; omega
        | true =>
          obtain ⟨d, hd⟩ : ∃ d, min K zs.length = d := ⟨_, rfl⟩
          obtain ⟨m, hm⟩ : ∃ m, zs.length = m := ⟨_, rfl⟩
          have hdm : d ≤ zs.length := by omega
          obtain ⟨v', HSL, HRD⟩ := slice_raws (HR.out w (Below.refl _ w)) HCAP.out d hdm
          have HRD := Lib.hid HRD
          have hlen := len_raws (HR.out w (Below.refl _ w))
          have hif := min_nat K zs.length
          rw [hd] at hif
          rw [hm] at hif hlen
          clear hd hdm hm
          obtain ⟨hp1, hp2⟩ := HP.out K (Nat.le_refl _)
          have hYk : 0 ≤ (Y K).k ∧ (Y K).k ≤ 4 := plain_kr hp1
          have hYe : 0 ≤ (Y K).err ∧ (Y K).err ≤ 9 := plain_er hp1
          have XK0 : Hid ((D K)[0]? = some (.int .i64 (Y K).k)) := Lib.hid (by rw [hp2]; rfl)
          have XK5 : Hid ((D K)[5]? = some (.int .i64 (Y K).err)) := Lib.hid (by rw [hp2]; rfl)
          have HD : Hid (∀ k, k < 3 → (D k).size = 12) := Lib.hid fun k hk => (HI.out k hk).one.1
          obtain ⟨yk, hyk⟩ : ∃ y, (Y K).k = y := ⟨_, rfl⟩
          obtain ⟨ye, hye⟩ : ∃ y, (Y K).err = y := ⟨_, rfl⟩
          rw [hyk] at hYk XK0
          rw [hye] at hYe XK5
          obtain ⟨xA, hxA⟩ : ∃ x, arrOf ye (yk + (K : Int)) (zs.drop d) = x := ⟨_, rfl⟩
          have HARR := Lib.hid (show ∀ W, Below w.heap.size w W → b + 1 ≤ W.heap.size → Calls Tryz.prog 13 #[.int .i64 ye, .int .i64 (yk + (K : Int)), v'] W (fun e w' => ∃ C, e = .returned (.agg C) ∧ In3 w' (b + 1) xA C ∧ Below W.heap.size W w') from fun W hW hbW => by
            rw [← hxA]
            refine (array_any ye (yk + (K : Int)) (zs.drop d) v' W (by unfold i64R; omega) (by unfold i64R; omega) ((HRD.out w (HR.out w (Below.refl _ w))).at hW hW.size)).mono ?_
            intro e w' h
            exact In3.hands hbW (arrOf_right 0 _ _ _) h)
          have hwr : IntKind.i64.wrap (yk + (K : Int)) = yk + (K : Int) := IntWalk.i64_in _ (by omega)
          clear hp1 hp2 hyk hye HRD hxA
          go_wp2_with fail
          have hn := hn.drew
          have HI := Lib.hid (show ∀ k, k < 3 → In3 wr.drew (b + 1) (Y k) (D k) from fun k hk => (HI.out k hk).below (World.drew_below wr))
          have hB := hB.drew
          have r3 := r3.drew
          refine wp_region_held_drew (S := fun _ => True) (by kernel_rfl) trivial (fun hHeld => ?_)
          refine wpAnyH_take (i := 0) (oi := ⟨some 32, _, _, _, _, _⟩) (v := ?_) rfl (by kernel_rfl) (by kernel_rfl) (by kernel_rfl) (fun _ _ _ h => h) (Or.inl ⟨by rfl, ?_⟩) hHeld ?_
          rotate_left
          · (intro w9 hSw; (try dsimp only at hSw); go_simp)
            all_goals with_reducible rfl
          try simp only [Act.put, List.setIfInBounds_toArray, List.set_cons_zero, List.set_cons_succ]
          refine wpAnyH_take (i := 1) (oi := ⟨some 33, _, _, _, _, _⟩) (v := ?_) rfl (by kernel_rfl) (by kernel_rfl) (by kernel_rfl) (fun _ _ _ h => h) (Or.inl ⟨by rfl, ?_⟩) hHeld ?_
          rotate_left
          · (intro w9 hSw; (try dsimp only at hSw); go_simp)
            all_goals with_reducible rfl
          try simp only [Act.put, List.setIfInBounds_toArray, List.set_cons_zero, List.set_cons_succ]
          refine wpAnyH_take (i := 2) (oi := ⟨some 34, _, _, _, _, _⟩) (v := ?_) rfl (by kernel_rfl) (by kernel_rfl) (by kernel_rfl) (fun _ _ _ h => h) (Or.inl ⟨by rfl, ?_⟩) hHeld ?_
          rotate_left
          · (intro w9 hSw; (try dsimp only at hSw); go_simp)
            all_goals with_reducible rfl
          try simp only [Act.put, List.setIfInBounds_toArray, List.set_cons_zero, List.set_cons_succ]
          refine wpAnyH_take (i := 3) (oi := ⟨some 35, _, _, _, _, _⟩) (v := ?_) rfl (by kernel_rfl) (by kernel_rfl) (by kernel_rfl) (fun _ _ _ h => h) (Or.inl ⟨by rfl, ?_⟩) hHeld ?_
          rotate_left
          · (intro w9 hSw; (try dsimp only at hSw); go_simp)
            all_goals with_reducible rfl
          try simp only [Act.put, List.setIfInBounds_toArray, List.set_cons_zero, List.set_cons_succ]
          refine wpAnyH_take (i := 5) (oi := ⟨some 37, _, _, _, _, _⟩) (v := ?_) rfl (by kernel_rfl) (by kernel_rfl) (by kernel_rfl) (fun _ _ _ h => h) (Or.inl ⟨by rfl, ?_⟩) hHeld ?_
          rotate_left
          · (intro w9 hSw; (try dsimp only at hSw); go_simp)
            all_goals with_reducible rfl
          try simp only [Act.put, List.setIfInBounds_toArray, List.set_cons_zero, List.set_cons_succ]
          refine wpAnyH_take (i := 6) (oi := ⟨some 38, _, _, _, _, _⟩) (v := ?_) rfl (by kernel_rfl) (by kernel_rfl) (by kernel_rfl) (fun _ _ _ h => h) (Or.inl ⟨by rfl, ?_⟩) hHeld ?_
          rotate_left
          · (intro w9 hSw; (try dsimp only at hSw); go_simp)
            all_goals with_reducible rfl
          try simp only [Act.put, List.setIfInBounds_toArray, List.set_cons_zero, List.set_cons_succ]
          refine wpAnyH_take (i := 7) (oi := ⟨some 39, _, _, _, _, _⟩) (v := ?_) rfl (by kernel_rfl) (by kernel_rfl) (by kernel_rfl) (fun _ _ _ h => h) (Or.inl ⟨by rfl, ?_⟩) hHeld ?_
          rotate_left
          · (intro w9 hSw; (try dsimp only at hSw); go_simp)
            all_goals with_reducible rfl
          try simp only [Act.put, List.setIfInBounds_toArray, List.set_cons_zero, List.set_cons_succ]
          refine wpAnyH_take (i := 9) (oi := ⟨some 41, _, _, _, _, _⟩) (v := ?_) rfl (by kernel_rfl) (by kernel_rfl) (by kernel_rfl) (fun _ _ _ h => h) (Or.inl ⟨by rfl, ?_⟩) hHeld ?_
          rotate_left
          · (intro w9 hSw; (try dsimp only at hSw); go_simp)
            all_goals with_reducible rfl
          try simp only [Act.put, List.setIfInBounds_toArray, List.set_cons_zero, List.set_cons_succ]
          refine wpAnyH_take (i := 11) (oi := ⟨some 43, _, _, _, _, _⟩) (v := ?_) rfl (by kernel_rfl) (by kernel_rfl) (by kernel_rfl) (fun _ _ _ h => h) (Or.inl ⟨by rfl, ?_⟩) hHeld ?_
          rotate_left
          · (intro w9 hSw; (try dsimp only at hSw); go_simp)
            all_goals with_reducible rfl
          try simp only [Act.put, List.setIfInBounds_toArray, List.set_cons_zero, List.set_cons_succ]
          refine wpAnyH_take (i := 12) (oi := ⟨some 44, _, _, _, _, _⟩) (v := ?_) rfl (by kernel_rfl) (by kernel_rfl) (by kernel_rfl) (fun _ _ _ h => h) (Or.inl ⟨by rfl, ?_⟩) hHeld ?_
          rotate_left
          · (intro w9 hSw; (try dsimp only at hSw); go_simp)
            all_goals with_reducible rfl
          try simp only [Act.put, List.setIfInBounds_toArray, List.set_cons_zero, List.set_cons_succ]
          refine wpAnyH_take (i := 13) (oi := ⟨some 45, _, _, _, _, _⟩) (v := ?_) rfl (by kernel_rfl) (by kernel_rfl) (by kernel_rfl) (fun _ _ _ h => h) (Or.inl ⟨by rfl, ?_⟩) hHeld ?_
          rotate_left
          · (intro w9 hSw; (try dsimp only at hSw); go_simp)
            all_goals with_reducible rfl
          try simp only [Act.put, List.setIfInBounds_toArray, List.set_cons_zero, List.set_cons_succ]
          refine wpAnyH_take (i := 14) (oi := ⟨some 46, _, _, _, _, _⟩) (v := ?_) rfl (by kernel_rfl) (by kernel_rfl) (by kernel_rfl) (fun _ _ _ h => h) (Or.inl ⟨by rfl, ?_⟩) hHeld ?_
          rotate_left
          · (intro w9 hSw; (try dsimp only at hSw); go_simp)
            all_goals with_reducible rfl
          try simp only [Act.put, List.setIfInBounds_toArray, List.set_cons_zero, List.set_cons_succ]
          refine wpAnyH_take (i := 15) (oi := ⟨some 47, _, _, _, _, _⟩) (v := ?_) rfl (by kernel_rfl) (by kernel_rfl) (by kernel_rfl) (fun _ _ _ h => h) (Or.inl ⟨by rfl, ?_⟩) hHeld ?_
          rotate_left
          · (intro w9 hSw; (try dsimp only at hSw); go_simp)
            all_goals with_reducible rfl
          try simp only [Act.put, List.setIfInBounds_toArray, List.set_cons_zero, List.set_cons_succ]
          refine wpAnyH_take (i := 16) (oi := ⟨some 48, _, _, _, _, _⟩) (v := ?_) rfl (by kernel_rfl) (by kernel_rfl) (by kernel_rfl) (fun _ _ _ h => h) (Or.inl ⟨by rfl, ?_⟩) hHeld ?_
          rotate_left
          · (intro w9 hSw; (try dsimp only at hSw); go_simp)
            all_goals with_reducible rfl
          try simp only [Act.put, List.setIfInBounds_toArray, List.set_cons_zero, List.set_cons_succ]
          refine wpAnyH_ready (rs := [4, 8]) (by kernel_rfl) (by simp) ?_
          refine (AllReadyH.cons (o := ⟨some 36, _, _, _, _, _⟩) rfl (fun KK hK => ?_) (AllReadyH.cons (o := ⟨some 40, _, _, _, _, _⟩) rfl (fun KK hK => ?_) AllReadyH.nil))
          · (try rw [if_pos (by rfl)])
            have ck := hn.el HD.out hlt XK5.out
            (try rw [Nat.add_zero] at ck)
            go_simp
            clear ck
            refine hK.out _ _ trivial ?_
            clear hK KK hHeld
            intro hHeld
            try simp only [Act.put, List.setIfInBounds_toArray, List.set_cons_zero, List.set_cons_succ]
            refine wpAnyH_ready (rs := [8]) (by kernel_rfl) (by simp) ?_
            refine (AllReadyH.cons (o := ⟨some 40, _, _, _, _, _⟩) rfl (fun KK hK => ?_) AllReadyH.nil)
            · (try rw [if_pos (by rfl)])
              have ck := hn.el HD.out hlt XK0.out
              (try rw [Nat.add_zero] at ck)
              go_simp
              clear ck
              refine hK.out _ _ trivial ?_
              clear hK KK hHeld
              intro hHeld
              try simp only [Act.put, List.setIfInBounds_toArray, List.set_cons_zero, List.set_cons_succ]
              refine wpAnyH_take (i := 10) (oi := ⟨some 42, _, _, _, _, _⟩) (v := ?_) rfl (by kernel_rfl) (by kernel_rfl) (by kernel_rfl) (fun _ _ _ h => h) (Or.inl ⟨by rfl, ?_⟩) hHeld ?_
              rotate_left
              · (intro w9 hSw; (try dsimp only at hSw); go_simp)
                all_goals with_reducible rfl
              try simp only [Act.put, List.setIfInBounds_toArray, List.set_cons_zero, List.set_cons_succ]
              refine wpAnyH_ready (rs := [17]) (by kernel_rfl) (by simp) ?_
              refine (AllReadyH.cons (o := ⟨some 49, _, _, _, _, _⟩) rfl (fun KK hK => ?_) AllReadyH.nil)
              · (try rw [if_pos (by rfl)])
                go_simp
                refine (HARR.out _ hB (by have := hn.lt; omega)).mono ?_
                rintro e9 wA ⟨CA, rfl, hA, hBA⟩
                have HI := Lib.hid (show ∀ k, k < 3 → In3 wA (b + 1) (Y k) (D k) from fun k hk => (HI.out k hk).below hBA)
                have hn := hn.below hBA hn.lt
                have r3 := r3.below hBA r3.lt
                have hB := hB.trans (hBA.mono hB.size)
                clear hBA
                refine hK.out _ _ trivial ?_
                clear hK KK hHeld
                intro hHeld
                try simp only [Act.put, List.setIfInBounds_toArray, List.set_cons_zero, List.set_cons_succ]
                refine wpAnyH_take (i := 18) (oi := ⟨some 50, _, _, _, _, _⟩) (v := ?_) rfl (by kernel_rfl) (by kernel_rfl) (by kernel_rfl) (fun _ _ _ h => h) (Or.inl ⟨by rfl, ?_⟩) hHeld ?_
                rotate_left
                · (intro w9 hSw; (try dsimp only at hSw); go_simp)
                  all_goals with_reducible rfl
                try simp only [Act.put, List.setIfInBounds_toArray, List.set_cons_zero, List.set_cons_succ]
                refine wpAnyH_ready (rs := [19]) (by kernel_rfl) (by simp) ?_
                refine (AllReadyH.cons (o := ⟨none, _, _, _, _, _⟩) rfl (fun KK hK => ?_) AllReadyH.nil)
                · (try rw [if_pos (by rfl)])
                  refine op_store3 (k := K) rfl (by rfl) rfl hlt hn HD.out hA.one ?_
                  intro wS hn2 hg9 hz9
                  have HI := Lib.hid (show ∀ k, k < 3 → In3 wS (b + 1) (if k = K then xA else Y k) (upd D K CA k) from fun k hk => by
                    unfold upd
                    by_cases e : k = K
                    · rw [if_pos e, if_pos e]; exact hA.grown hg9 (by omega)
                    · rw [if_neg e, if_neg e]; exact (HI.out k hk).grown hg9 (by omega))
                  have HP := Lib.hid (show ∀ k, K + 1 ≤ k → plainV (if k = K then xA else Y k) = true ∧ upd D K CA k = pcs (if k = K then xA else Y k) from fun k hk => by
                    unfold upd
                    rw [if_neg (by omega), if_neg (by omega)]; exact HP.out k (by omega))
                  have r3 := r3.grown hg9 (by intro e9; injection e9 with e9; omega)
                  have hB := hB.grown hg9 hB.size (fun k9 hk9 => by cases hk9; omega)
                  clear hg9 hz9 hA hn
                  refine hK.out _ _ trivial ?_
                  clear hK KK hHeld
                  intro hHeld
                  try simp only [Act.put]
                  refine wpAnyH_done (by kernel_rfl) ?_ _
                  try simp only [Act.put, List.setIfInBounds_toArray, List.set_cons_zero, List.set_cons_succ]
                  go_wp2_with fail
                  go_roundw
                  case rel => exact ⟨K + 1, by omega, by go_num, upd D K CA, (fun k => if k = K then xA else Y k), hn2, HI, HP, hB, r3⟩
                  case measure => simp [intOf]; omega
          · (try rw [if_pos (by rfl)])
            have ck := hn.el HD.out hlt XK0.out
            (try rw [Nat.add_zero] at ck)
            go_simp
            clear ck
            refine hK.out _ _ trivial ?_
            clear hK KK hHeld
            intro hHeld
            try simp only [Act.put, List.setIfInBounds_toArray, List.set_cons_zero, List.set_cons_succ]
            refine wpAnyH_take (i := 10) (oi := ⟨some 42, _, _, _, _, _⟩) (v := ?_) rfl (by kernel_rfl) (by kernel_rfl) (by kernel_rfl) (fun _ _ _ h => h) (Or.inl ⟨by rfl, ?_⟩) hHeld ?_
            rotate_left
            · (intro w9 hSw; (try dsimp only at hSw); go_simp)
              all_goals with_reducible rfl
            try simp only [Act.put, List.setIfInBounds_toArray, List.set_cons_zero, List.set_cons_succ]
            refine wpAnyH_ready (rs := [4]) (by kernel_rfl) (by simp) ?_
            refine (AllReadyH.cons (o := ⟨some 36, _, _, _, _, _⟩) rfl (fun KK hK => ?_) AllReadyH.nil)
            · (try rw [if_pos (by rfl)])
              have ck := hn.el HD.out hlt XK5.out
              (try rw [Nat.add_zero] at ck)
              go_simp
              clear ck
              refine hK.out _ _ trivial ?_
              clear hK KK hHeld
              intro hHeld
              try simp only [Act.put, List.setIfInBounds_toArray, List.set_cons_zero, List.set_cons_succ]
              refine wpAnyH_ready (rs := [17]) (by kernel_rfl) (by simp) ?_
              refine (AllReadyH.cons (o := ⟨some 49, _, _, _, _, _⟩) rfl (fun KK hK => ?_) AllReadyH.nil)
              · (try rw [if_pos (by rfl)])
                go_simp
                refine (HARR.out _ hB (by have := hn.lt; omega)).mono ?_
                rintro e9 wA ⟨CA, rfl, hA, hBA⟩
                have HI := Lib.hid (show ∀ k, k < 3 → In3 wA (b + 1) (Y k) (D k) from fun k hk => (HI.out k hk).below hBA)
                have hn := hn.below hBA hn.lt
                have r3 := r3.below hBA r3.lt
                have hB := hB.trans (hBA.mono hB.size)
                clear hBA
                refine hK.out _ _ trivial ?_
                clear hK KK hHeld
                intro hHeld
                try simp only [Act.put, List.setIfInBounds_toArray, List.set_cons_zero, List.set_cons_succ]
                refine wpAnyH_take (i := 18) (oi := ⟨some 50, _, _, _, _, _⟩) (v := ?_) rfl (by kernel_rfl) (by kernel_rfl) (by kernel_rfl) (fun _ _ _ h => h) (Or.inl ⟨by rfl, ?_⟩) hHeld ?_
                rotate_left
                · (intro w9 hSw; (try dsimp only at hSw); go_simp)
                  all_goals with_reducible rfl
                try simp only [Act.put, List.setIfInBounds_toArray, List.set_cons_zero, List.set_cons_succ]
                refine wpAnyH_ready (rs := [19]) (by kernel_rfl) (by simp) ?_
                refine (AllReadyH.cons (o := ⟨none, _, _, _, _, _⟩) rfl (fun KK hK => ?_) AllReadyH.nil)
                · (try rw [if_pos (by rfl)])
                  refine op_store3 (k := K) rfl (by rfl) rfl hlt hn HD.out hA.one ?_
                  intro wS hn2 hg9 hz9
                  have HI := Lib.hid (show ∀ k, k < 3 → In3 wS (b + 1) (if k = K then xA else Y k) (upd D K CA k) from fun k hk => by
                    unfold upd
                    by_cases e : k = K
                    · rw [if_pos e, if_pos e]; exact hA.grown hg9 (by omega)
                    · rw [if_neg e, if_neg e]; exact (HI.out k hk).grown hg9 (by omega))
                  have HP := Lib.hid (show ∀ k, K + 1 ≤ k → plainV (if k = K then xA else Y k) = true ∧ upd D K CA k = pcs (if k = K then xA else Y k) from fun k hk => by
                    unfold upd
                    rw [if_neg (by omega), if_neg (by omega)]; exact HP.out k (by omega))
                  have r3 := r3.grown hg9 (by intro e9; injection e9 with e9; omega)
                  have hB := hB.grown hg9 hB.size (fun k9 hk9 => by cases hk9; omega)
                  clear hg9 hz9 hA hn
                  refine hK.out _ _ trivial ?_
                  clear hK KK hHeld
                  intro hHeld
                  try simp only [Act.put]
                  refine wpAnyH_done (by kernel_rfl) ?_ _
                  try simp only [Act.put, List.setIfInBounds_toArray, List.set_cons_zero, List.set_cons_succ]
                  go_wp2_with fail
                  go_roundw
                  case rel => exact ⟨K + 1, by omega, by go_num, upd D K CA, (fun k => if k = K then xA else Y k), hn2, HI, HP, hB, r3⟩
                  case measure => simp [intOf]; omega
      · obtain rfl : K = 3 := by omega
        have hKI : ¬ ((3 : Nat) : Int) < 3 := by omega
        have i0 := HI.out 0 (by decide)
        have i1 := HI.out 1 (by decide)
        have i2 := HI.out 2 (by decide)
        have hD : ∀ k, k < 3 → (D k).size = 12 := fun k hk => (HI.out k hk).one.1
        have E0 := Lib.hid (show ∀ W, World.blk W b 54 (tri3 D) → ∀ j u, (D 0)[j]? = some u → W.cell? ⟨b, 0 + j, none⟩ = some u from fun W h j u hj => h.el hD (k := 0) (by decide) hj)
        have E1 := Lib.hid (show ∀ W, World.blk W b 54 (tri3 D) → ∀ j u, (D 1)[j]? = some u → W.cell? ⟨b, 12 + j, none⟩ = some u from fun W h j u hj => h.el hD (k := 1) (by decide) hj)
        have E2 := Lib.hid (show ∀ W, World.blk W b 54 (tri3 D) → ∀ j u, (D 2)[j]? = some u → W.cell? ⟨b, 24 + j, none⟩ = some u from fun W h j u hj => h.el hD (k := 2) (by decide) hj)
        clear hD HI HP
        generalize Y 0 = y0 at i0
        generalize Y 1 = y1 at i1
        generalize Y 2 = y2 at i2
        generalize D 0 = C0 at i0 E0
        generalize D 1 = C1 at i1 E1
        generalize D 2 = C2 at i2 E2
        obtain ⟨T1, T2, T3, T4, T5, T6, T7⟩ := order_three (n := 2) i0.arrP i1.arrP i2.arrP
        obtain ⟨_, _, _, T8, T9, _, _⟩ := order_three (n := 2) i1.arrP i2.arrP i0.arrP
        obtain ⟨_, _, _, T10, T11, _, _⟩ := order_three (n := 2) i0.arrP i2.arrP i1.arrP
        have Q := Lib.hid (show ∀ x y Cx Cy W, In3 W (b + 1) x Cx → In3 W (b + 1) y Cy → Below w.heap.size w W → ∀ r, cmpV (2 + 1) x y = r → Calls Tryz.prog 28 #[.agg Cx, .agg Cy] W (Gives (.int .i64 r) W) from fun x y Cx Cy W hx hy hW r hr => by rw [← hr]; exact cmp28 hx.at hy.at (HE.out W hW))
        obtain ⟨ab, hab⟩ : ∃ r, cmpV (2 + 1) y0 y1 = r := ⟨_, rfl⟩
        obtain ⟨bc, hbc⟩ : ∃ r, cmpV (2 + 1) y1 y2 = r := ⟨_, rfl⟩
        obtain ⟨ac, hac⟩ : ∃ r, cmpV (2 + 1) y0 y2 = r := ⟨_, rfl⟩
        rw [hab] at T1 T4 T5 T6 T7
        rw [hbc] at T2 T6 T7 T8 T9
        rw [hac] at T6 T7 T10 T11
        have Q01 := Lib.hid (Q.out y0 y1 C0 C1 · · · · ab hab)
        have Q12 := Lib.hid (Q.out y1 y2 C1 C2 · · · · bc hbc)
        have Q02 := Lib.hid (Q.out y0 y2 C0 C2 · · · · ac hac)
        have Q10 := Lib.hid (Q.out y1 y0 C1 C0 · · · · (-ab) T1)
        have Q21 := Lib.hid (Q.out y2 y1 C2 C1 · · · · (-bc) T2)
        have Q00 := Lib.hid (Q.out y0 y0 C0 C0 · · · · 0 T3)
        have HT := Lib.hid (And.intro T6 T7)
        have hna : IntKind.i64.wrap (-ab) = -ab := IntWalk.i64_in _ (by omega)
        have hnb : IntKind.i64.wrap (-bc) = -bc := IntWalk.i64_in _ (by omega)
        clear Q hab hbc hac T1 T2 T3 T6 T7
        go_wp2_with (first | refine wpList_load34atg (by rfl) rfl rfl i0.one.1 (E0.out _ hn) ?_ | refine wpList_load34atg (by rfl) rfl rfl i1.one.1 (E1.out _ hn) ?_ | refine wpList_load34atg (by rfl) rfl rfl i2.one.1 (E2.out _ hn) ?_)
        refine (Q01.out _ i0 i1 hB).mono ?_
        rintro e41 w41 ⟨rfl, hB41⟩
        have hn := hn.below hB41 hn.lt
        have i0 := i0.below hB41
        have i1 := i1.below hB41
        have i2 := i2.below hB41
        have hB := hB.trans (hB41.mono hB.size)
        clear hB41 Q01
        go_wp2_with (first | refine wpList_load34atg (by rfl) rfl rfl i0.one.1 (E0.out _ hn) ?_ | refine wpList_load34atg (by rfl) rfl rfl i1.one.1 (E1.out _ hn) ?_ | refine wpList_load34atg (by rfl) rfl rfl i2.one.1 (E2.out _ hn) ?_)
        refine (Q12.out _ i1 i2 hB).mono ?_
        rintro e42 w42 ⟨rfl, hB42⟩
        have hn := hn.below hB42 hn.lt
        have i0 := i0.below hB42
        have i1 := i1.below hB42
        have i2 := i2.below hB42
        have hB := hB.trans (hB42.mono hB.size)
        clear hB42 Q12
        go_wp2_with (first | refine wpList_load34atg (by rfl) rfl rfl i0.one.1 (E0.out _ hn) ?_ | refine wpList_load34atg (by rfl) rfl rfl i1.one.1 (E1.out _ hn) ?_ | refine wpList_load34atg (by rfl) rfl rfl i2.one.1 (E2.out _ hn) ?_)
        refine (Q02.out _ i0 i2 hB).mono ?_
        rintro e43 w43 ⟨rfl, hB43⟩
        have hn := hn.below hB43 hn.lt
        have i0 := i0.below hB43
        have i1 := i1.below hB43
        have i2 := i2.below hB43
        have hB := hB.trans (hB43.mono hB.size)
        clear hB43 Q02
        go_wp2_with (first | refine wpList_load34atg (by rfl) rfl rfl i0.one.1 (E0.out _ hn) ?_ | refine wpList_load34atg (by rfl) rfl rfl i1.one.1 (E1.out _ hn) ?_ | refine wpList_load34atg (by rfl) rfl rfl i2.one.1 (E2.out _ hn) ?_)
        refine (Q10.out _ i1 i0 hB).mono ?_
        rintro e44 w44 ⟨rfl, hB44⟩
        have hn := hn.below hB44 hn.lt
        have i0 := i0.below hB44
        have i1 := i1.below hB44
        have i2 := i2.below hB44
        have hB := hB.trans (hB44.mono hB.size)
        clear hB44 Q10
        go_wp2_with (first | refine wpList_load34atg (by rfl) rfl rfl i0.one.1 (E0.out _ hn) ?_ | refine wpList_load34atg (by rfl) rfl rfl i1.one.1 (E1.out _ hn) ?_ | refine wpList_load34atg (by rfl) rfl rfl i2.one.1 (E2.out _ hn) ?_)
        refine (Q21.out _ i2 i1 hB).mono ?_
        rintro e45 w45 ⟨rfl, hB45⟩
        have hn := hn.below hB45 hn.lt
        have i0 := i0.below hB45
        have i1 := i1.below hB45
        have i2 := i2.below hB45
        have hB := hB.trans (hB45.mono hB.size)
        clear hB45 Q21
        go_wp2_with (first | refine wpList_load34atg (by rfl) rfl rfl i0.one.1 (E0.out _ hn) ?_ | refine wpList_load34atg (by rfl) rfl rfl i1.one.1 (E1.out _ hn) ?_ | refine wpList_load34atg (by rfl) rfl rfl i2.one.1 (E2.out _ hn) ?_)
        refine (Q00.out _ i0 i0 hB).mono ?_
        rintro e46 w46 ⟨rfl, hB46⟩
        have hn := hn.below hB46 hn.lt
        have i0 := i0.below hB46
        have i1 := i1.below hB46
        have i2 := i2.below hB46
        have hB := hB.trans (hB46.mono hB.size)
        clear hB46 Q00
        clear E0 E1 E2 i0 i1 i2 hn r3
        rcases (show ab = -1 ∨ ab = 0 ∨ ab = 1 by omega) with rfl | rfl | rfl <;> rcases (show bc = -1 ∨ bc = 0 ∨ bc = 1 by omega) with rfl | rfl | rfl <;> rcases (show ac = -1 ∨ ac = 0 ∨ ac = 1 by omega) with rfl | rfl | rfl
        all_goals first
          | (exfalso; obtain ⟨u1, u2⟩ := HT.out; revert u1 u2; decide)
          | (clear HT hna hnb T4 T5 T8 T9 T10 T11; go_wp2_with fail; go_ret; exact ⟨rfl, hB⟩)
end Go.Proofs.YtkhohjdakcchdaaGreatDoor
