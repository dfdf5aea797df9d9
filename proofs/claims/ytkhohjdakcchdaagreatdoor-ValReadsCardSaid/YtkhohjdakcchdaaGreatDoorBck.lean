/- The law ValBack, walked: it tells true. -/
import Derived.Test.YtkhohjdakcchdaaGreatDoorAwk
import Derived.Test.YtkhohjdakcchdaaGreatDoorLar
namespace Go.Proofs.YtkhohjdakcchdaaGreatDoor
open Go Go.RowKit Go.Shelf

section
variable {ops : Array Oper} {rest : List Oper} {o : Oper} {a : Act} {w : World} {Q : Exit → Act → World → Prop}
theorem wpList_load25 {x : Operand} {g : Nat} {cs : Array Value} (hgd : o.guard = none) (ho : o.op = .load 25 x) (hx : a.eval x = .pointer (some ⟨g, 0, none⟩)) (hn : World.rw w g cs) (hs : cs.size = 5)
    (h : wpList Tryz.prog ops Q rest (a.put o.dst (.agg cs)) w) : wpList Tryz.prog ops Q (o :: rest) a w :=
  wpList_load_row hgd 25 x ho g hx 25 _ (0, 0) _ hn Tryz.underlying25 rfl (by rw [hs]; exact info25) h
end
theorem textV_len {x : Vl} (h : plainV x = true) : (mk (textV 2 x).1).size ≤ 300 := by
  show (textV 2 x).1.length ≤ 300
  unfold textV
  rw [if_pos (right_of_plain 1 h), if_neg (plain_kind h).2]
  by_cases h2 : x.k = 2
  · rw [if_pos h2]
    have := txt_small (plain_two h h2).2
    rw [Lib.size_eq] at this
    split
    · show x.s.data.toList.length ≤ 300
      omega
    · show (39 :: x.s.data.toList).length ≤ 300
      rw [List.length_cons]
      omega
  · rw [if_neg h2, if_neg (plain_kind h).1]
    show (writL x).length ≤ 300
    rcases plain_cases h with e | ⟨p, e, hr⟩ | ⟨s, e, hs⟩ | ⟨b, e⟩ | ⟨n, e, _⟩ <;> subst e
    · exact Nat.zero_le _
    · show (textD p.1 p.2).1.length ≤ 300
      have := text_plain (x := p.1) (y := p.2) hr
      rw [this.1]
      have := this.2.2.2
      simp only
      omega
    · exact absurd rfl h2
    · cases b <;> decide
    · have := errL_len n.toNat
      show (errL n.toNat).length ≤ 300
      omega
theorem same_self {x : Vl} (hp : plainV x = true) (W : World) : Calls Tryz.prog 26 #[.agg (pcs x), .agg (pcs x)] W (Gives (.bool true) W) := by
  refine (same_any 1 x x _ _ W (rp_plain hp) (rp_plain hp)).mono ?_
  rintro e w' ⟨b, rfl, hb, hB⟩
  rw [hb.2 rfl]; exact ⟨rfl, hB⟩
theorem rw_new (w : World) (cs : Array Value) : World.rw (w.alloc (.cells cs 25)) w.heap.size cs := heap_alloc_new w _
set_option maxRecDepth 100000 in
set_option maxHeartbeats 16000000 in
theorem back_any (z : Rw) (s : ByteArray) (w : World) (hz : RwOk z) (hs : s.size ≤ 9223372036854775807) (hS : Shp w) (hT : Lib.Utf8Tabs 0 1 w) :
    Calls Tryz.prog 5 #[.agg z.c, .string s] w (Gives (.bool true) w) := by
  have hxp : plainV z.v = true := valP_plain _ _ _ _ _
  obtain ⟨x, hx⟩ : ∃ x, z.v = x := ⟨_, rfl⟩
  have HAW := Lib.hid (show ∀ W, Below w.heap.size w W → Calls Tryz.prog 11 #[] W (Gives (.bool true) W) from fun W hW => awake_any W (hS.below hW) (tabs_below hT hW))
  have HV := Lib.hid (show ∀ W, Calls Tryz.prog 12 #[.agg z.c] W (Gives (.agg (pcs x)) W) from fun W => by rw [← hx]; exact val_any z.k z.m z.e z.s z.b W hz.k hz.m hz.e hz.s)
  rw [hx] at hxp
  have hO5 : (z.c).size = 5 := rfl
  obtain ⟨RC, hRC⟩ : ∃ RC, z.c = RC := ⟨_, rfl⟩
  rw [hRC] at HV hO5 ⊢
  have HO5 := Lib.hid hO5
  clear hx hRC hO5 hz
  obtain ⟨TX, hTX⟩ : ∃ T, mk (textV 2 x).1 = T := ⟨_, rfl⟩
  have hTs := textV_len hxp
  have HT1 := Lib.hid (show ∀ W, Below w.heap.size w W → Calls Tryz.prog 25 #[.agg (pcs x)] W (WritPost TX 0 W) from fun W hW => by rw [← hTX]; exact text_plain25 x W hxp (hS.below hW) (tabs_below hT hW))
  have HR1 := Lib.hid (show ∀ W, Below w.heap.size w W → Calls Tryz.prog 17 #[.string TX] W (fun e w' => e = .returned (.tuple #[.agg (pcs x), .int .i64 0]) ∧ Below W.heap.size W w') from fun W hW => by
    have := vread_any TX W (by rw [← hTX]; omega) (hS.below hW) (tabs_below hT hW)
    rw [← hTX, mk_list, (back_plain 1 hxp).2] at this
    rw [← hTX]; exact this)
  have HS1 := Lib.hid (same_self hxp)
  have hO1 := pcs_one x
  obtain ⟨CX, hCX⟩ : ∃ C, pcs x = C := ⟨_, rfl⟩
  rw [hCX] at HV HT1 HR1 HS1 hO1
  have HO1 := Lib.hid hO1
  clear hTX hTs hCX hO1 hxp
  by_cases hlen : 300 < s.size
  · have hlI : 300 < (s.size : Int) := by omega
    clear hS hT
    go_enter Tryz.func5, Tryz.ntmps5
    go_wp2_with fail
    refine (HAW.out _ ((Below.refl _ w).alloc (Nat.le_refl _) _)).mono ?_
    rintro e1 w1 ⟨rfl, hB1⟩
    have hB := ((Below.refl _ w).alloc (Nat.le_refl _) (.cells RC 25)).trans (hB1.mono (by simp))
    clear hB1
    go_wp2_with fail
    go_ret
    exact ⟨rfl, hB⟩
  obtain ⟨r, g, hr⟩ : ∃ r g, readV s.data.toList = (r, g) := ⟨_, _, rfl⟩
  have hrp : plainV r = true ∧ (g = 0 ∨ g = 30) := by
    rcases readV_two s.data.toList with ⟨h0, h⟩ | h
    · rw [hr] at h h0; exact ⟨h, .inl h0⟩
    · rw [hr] at h
      injection h with h h'
      rw [h]; exact ⟨plain_zero, .inr h'⟩
  obtain ⟨hrp, hg⟩ := hrp
  have HR2 := Lib.hid (show ∀ W, Below w.heap.size w W → Calls Tryz.prog 17 #[.string s] W (fun e w' => e = .returned (.tuple #[.agg (pcs r), .int .i64 g]) ∧ Below W.heap.size W w') from fun W hW => by
    have := vread_any s W (by omega) (hS.below hW) (tabs_below hT hW)
    rw [hr] at this; exact this)
  obtain ⟨TU, hTU⟩ : ∃ T, mk (textV 2 r).1 = T := ⟨_, rfl⟩
  have hTs := textV_len hrp
  have HT2 := Lib.hid (show ∀ W, Below w.heap.size w W → Calls Tryz.prog 25 #[.agg (pcs r)] W (WritPost TU 0 W) from fun W hW => by rw [← hTU]; exact text_plain25 r W hrp (hS.below hW) (tabs_below hT hW))
  have HR3 := Lib.hid (show ∀ W, Below w.heap.size w W → Calls Tryz.prog 17 #[.string TU] W (fun e w' => e = .returned (.tuple #[.agg (pcs r), .int .i64 0]) ∧ Below W.heap.size W w') from fun W hW => by
    have := vread_any TU W (by rw [← hTU]; omega) (hS.below hW) (tabs_below hT hW)
    rw [← hTU, mk_list, (back_plain 1 hrp).2] at this
    rw [← hTU]; exact this)
  have HS2 := Lib.hid (same_self hrp)
  have HRi := Lib.hid (show ∀ W, Below w.heap.size w W → Calls Tryz.prog 27 #[.agg (pcs r)] W (Gives (.bool true) W) from fun W hW => right_plain_any 0 r _ W (rp_plain hrp) hrp (tabs_below hT hW))
  have hO2 := pcs_one r
  obtain ⟨CR, hCR⟩ : ∃ C, pcs r = C := ⟨_, rfl⟩
  rw [hCR] at HR2 HT2 HR3 HS2 HRi hO2
  have HO2 := Lib.hid hO2
  have hlI : ¬ 300 < (s.size : Int) := by omega
  clear hTU hTs hCR hO2 hrp hr hS hT hlen hs
  go_enter Tryz.func5, Tryz.ntmps5
  go_wp2_with fail
  refine (HAW.out _ ((Below.refl _ w).alloc (Nat.le_refl _) _)).mono ?_
  rintro e1 w1 ⟨rfl, hB1⟩
  have hB := ((Below.refl _ w).alloc (Nat.le_refl _) (.cells RC 25)).trans (hB1.mono (by simp))
  have hraw : World.rw w1 w.heap.size RC := (rw_new w RC).below hB1 (by simp)
  clear hB1 HAW
  go_wp2_with (refine wpList_load25 rfl rfl rfl hraw HO5.out ?_)
  refine (HV.out _).mono ?_
  rintro e2 w2 ⟨rfl, hB2⟩
  have hB := hB.trans (hB2.mono hB.size)
  clear hB2 HV hraw
  obtain ⟨b6, hb6⟩ : ∃ b, b = w2.heap.size := ⟨_, rfl⟩
  go_wp2_with (first | refine wpList_alloc34 rfl rfl ?_ | (refine wpList_store34 rfl rfl rfl rfl (World.vb_new w2 vz) (by rfl) HO1.out ?_; intro w3 hn6 hg3 hz3; have hB := (hB.alloc hB.size (.cells vz 34)).grown hg3 (by have := hB.size; simp; omega) (fun k9 hk9 => by cases hk9; exact hB.size)) | refine wpList_load34 rfl rfl rfl hn6 HO1.out.1 ?_)
  rw [← hb6] at hn6 ⊢
  clear hb6 hg3 hz3
  refine (HT1.out _ hB).mono ?_
  rintro e4 w4 ⟨rfl, hB4⟩
  have hn6 := hn6.below hB4 hn6.lt
  have hB := hB.trans (hB4.mono hB.size)
  clear hB4 HT1
  go_wp2_with fail
  refine (HR1.out _ hB).mono ?_
  rintro e5 w5 ⟨rfl, hB5⟩
  have hn6 := hn6.below hB5 hn6.lt
  have hB := hB.trans (hB5.mono hB.size)
  clear hB5 HR1
  obtain ⟨b9, hb9⟩ : ∃ b, b = w5.heap.size := ⟨_, rfl⟩
  have hl6 := hn6.lt
  rw [← hb9] at hl6
  go_wp2_with (first | refine wpList_alloc34 rfl rfl ?_ | (refine wpList_store34 rfl rfl rfl rfl (World.vb_new w5 vz) (by rfl) HO1.out ?_; intro w6 hn9 hg6 hz6; have hn6 := (hn6.alloc (.cells vz 34)).grown hg6 (by intro e9; injection e9 with e9; omega); have hB := (hB.alloc hB.size (.cells vz 34)).grown hg6 (by have := hB.size; simp; omega) (fun k9 hk9 => by cases hk9; exact hB.size)))
  rw [← hb9] at hn9 ⊢
  clear hb9 hg6 hz6
  refine (HR2.out _ hB).mono ?_
  rintro e7 w7 ⟨rfl, hB7⟩
  have hn6 := hn6.below hB7 hn6.lt
  have hn9 := hn9.below hB7 hn9.lt
  have hB := hB.trans (hB7.mono hB.size)
  clear hB7 HR2
  obtain ⟨b11, hb11⟩ : ∃ b, b = w7.heap.size := ⟨_, rfl⟩
  have hl6 := hn6.lt
  have hl9 := hn9.lt
  rw [← hb11] at hl6 hl9
  go_wp2_with (first | refine wpList_alloc34 rfl rfl ?_ | (refine wpList_store34 rfl rfl rfl rfl (World.vb_new w7 vz) (by rfl) HO2.out ?_; intro w8 hn11 hg8 hz8; have hn6 := (hn6.alloc (.cells vz 34)).grown hg8 (by intro e9; injection e9 with e9; omega); have hn9 := (hn9.alloc (.cells vz 34)).grown hg8 (by intro e9; injection e9 with e9; omega); have hB := (hB.alloc hB.size (.cells vz 34)).grown hg8 (by have := hB.size; simp; omega) (fun k9 hk9 => by cases hk9; exact hB.size)) | refine wpList_load34 rfl rfl rfl hn11 HO2.out.1 ?_)
  rw [← hb11] at hn11 ⊢
  clear hb11 hg8 hz8
  refine (HT2.out _ hB).mono ?_
  rintro e9 w9 ⟨rfl, hB9⟩
  have hn6 := hn6.below hB9 hn6.lt
  have hn9 := hn9.below hB9 hn9.lt
  have hn11 := hn11.below hB9 hn11.lt
  have hB := hB.trans (hB9.mono hB.size)
  clear hB9 HT2
  go_wp2_with fail
  refine (HR3.out _ hB).mono ?_
  rintro e10 w10 ⟨rfl, hB10⟩
  have hn6 := hn6.below hB10 hn6.lt
  have hn9 := hn9.below hB10 hn9.lt
  have hn11 := hn11.below hB10 hn11.lt
  have hB := hB.trans (hB10.mono hB.size)
  clear hB10 HR3
  obtain ⟨b15, hb15⟩ : ∃ b, b = w10.heap.size := ⟨_, rfl⟩
  have hl6 := hn6.lt
  have hl9 := hn9.lt
  have hl11 := hn11.lt
  rw [← hb15] at hl6 hl9 hl11
  rcases hg with hg | hg
  · subst hg
    go_wp2_with (first | refine wpList_alloc34 rfl rfl ?_ | (refine wpList_store34 rfl rfl rfl rfl (World.vb_new w10 vz) (by rfl) HO2.out ?_; intro w11 hn15 hg11 hz11; have hn6 := (hn6.alloc (.cells vz 34)).grown hg11 (by intro e9; injection e9 with e9; omega); have hn9 := (hn9.alloc (.cells vz 34)).grown hg11 (by intro e9; injection e9 with e9; omega); have hn11 := (hn11.alloc (.cells vz 34)).grown hg11 (by intro e9; injection e9 with e9; omega); have hB := (hB.alloc hB.size (.cells vz 34)).grown hg11 (by have := hB.size; simp; omega) (fun k9 hk9 => by cases hk9; exact hB.size)) | refine wpList_load34g rfl rfl rfl hn6 HO1.out.1 ?_ | refine wpList_load34g rfl rfl rfl hn9 HO1.out.1 ?_)
    rw [← hb15] at hn15 ⊢
    clear hb15 hg11 hz11
    refine (HS1.out _).mono ?_
    rintro e12 w12 ⟨rfl, hB12⟩
    have hn11 := hn11.below hB12 hn11.lt
    have hn15 := hn15.below hB12 hn15.lt
    have hB := hB.trans (hB12.mono hB.size)
    clear hB12 hn6 hn9
    go_wp2_with (first | refine wpList_load34g rfl rfl rfl hn11 HO2.out.1 ?_ | refine wpList_load34g rfl rfl rfl hn15 HO2.out.1 ?_)
    refine (HS2.out _).mono ?_
    rintro e13 w13 ⟨rfl, hB13⟩
    have hn11 := hn11.below hB13 hn11.lt
    have hB := hB.trans (hB13.mono hB.size)
    clear hB13 hn15
    go_wp2_with (refine wpList_load34g rfl rfl rfl hn11 HO2.out.1 ?_)
    refine (HRi.out _ hB).mono ?_
    rintro e14 w14 ⟨rfl, hB14⟩
    have hB := hB.trans (hB14.mono hB.size)
    clear hB14 hn11
    go_wp2_with fail
    go_ret
    exact ⟨rfl, hB⟩
  · subst hg
    go_wp2_with (first | refine wpList_alloc34 rfl rfl ?_ | (refine wpList_store34 rfl rfl rfl rfl (World.vb_new w10 vz) (by rfl) HO2.out ?_; intro w11 hn15 hg11 hz11; have hn6 := (hn6.alloc (.cells vz 34)).grown hg11 (by intro e9; injection e9 with e9; omega); have hn9 := (hn9.alloc (.cells vz 34)).grown hg11 (by intro e9; injection e9 with e9; omega); have hB := (hB.alloc hB.size (.cells vz 34)).grown hg11 (by have := hB.size; simp; omega) (fun k9 hk9 => by cases hk9; exact hB.size)) | refine wpList_load34g rfl rfl rfl hn6 HO1.out.1 ?_ | refine wpList_load34g rfl rfl rfl hn9 HO1.out.1 ?_)
    refine (HS1.out _).mono ?_
    rintro e12 w12 ⟨rfl, hB12⟩
    have hB := hB.trans (hB12.mono hB.size)
    clear hB12 hn6 hn9
    go_wp2_with fail
    go_ret
    exact ⟨rfl, hB⟩
end Go.Proofs.YtkhohjdakcchdaaGreatDoor
