/- The law ValQuote, walked: it tells true. -/
import Derived.Test.YtkhohjdakcchdaaGreatDoorBck
namespace Go.Proofs.YtkhohjdakcchdaaGreatDoor
open Go Go.RowKit Go.Shelf

abbrev litS (s : ByteArray) : Array Value := #[.int .i64 2, .int .i64 0, .int .i64 0, .string s, .bool false, .int .i64 0, .int .i64 0, .int .i64 0, .slice none 0 0, .int .i64 0, .slice none 0 0, .slice none 0 0]
abbrev litN (M E : Int) : Array Value := #[.int .i64 1, .int .i64 M, .int .i64 E, .string ⟨#[]⟩, .bool false, .int .i64 0, .int .i64 0, .int .i64 0, .slice none 0 0, .int .i64 0, .slice none 0 0, .slice none 0 0]
theorem litS_eq (s : ByteArray) : pcs (txtV s) = litS s := rfl
theorem litN_eq (M E : Int) : pcs (numV (M, E)) = litN M E := rfl
theorem pair_ex {α β : Type} (p : α × β) : ∃ a b, p = (a, b) := ⟨p.1, p.2, rfl⟩
theorem app39 (s : ByteArray) : ((⟨#[39]⟩ : ByteArray) ++ s).data.toList = 39 :: s.data.toList := by simp [ByteArray.data_append]
theorem app39_size (s : ByteArray) : ((⟨#[39]⟩ : ByteArray) ++ s).size = 1 + s.size := by rw [ByteArray.size_append]; rfl
theorem field_n (M E : Int) (w : World) : (Instr.field 34 (.agg (pcs (numV (M, E)))) 1).run Tryz.prog w = .ok (.agg #[.int .i64 M, .int .i64 E]) w := by kernel_rfl
theorem rw_set {w : World} {g : Nat} {k m e : Int} {s : ByteArray} {b : Bool} (h : World.rw w g (rawC k m e s b)) (k' : Int) : World.rw (w.setCell ⟨g, 0, none⟩ (.int .i64 k')) g (rawC k' m e s b) := by
  unfold World.rw
  rw [heap_setCell_same w g 0 _ 25 _ h]
  rfl
set_option maxRecDepth 100000 in
set_option maxHeartbeats 16000000 in
theorem quote_any (s : ByteArray) (z : Rw) (w : World) (hs : s.size ≤ 9223372036854775807) (hz : RwOk z) (hS : Shp w) (hT : Lib.Utf8Tabs 0 1 w) :
    Calls Tryz.prog 10 #[.string s, .agg z.c] w (Gives (.bool true) w) := by
  have HAW := Lib.hid (show ∀ W, Below w.heap.size w W → Calls Tryz.prog 11 #[] W (Gives (.bool true) W) from fun W hW => awake_any W (hS.below hW) (tabs_below hT hW))
  obtain ⟨k, m, ee, s', b'⟩ := z
  show Calls Tryz.prog 10 #[.string s, .agg (rawC k m ee s' b')] w (Gives (.bool true) w)
  by_cases hlen : 300 < s.size
  · have hlI : 300 < (s.size : Int) := by omega
    clear hS hT hz
    go_enter Tryz.func10, Tryz.ntmps10
    go_wp2_with fail
    refine (HAW.out _ ((Below.refl _ w).alloc (Nat.le_refl _) _)).mono ?_
    rintro e1 w1 ⟨rfl, hB1⟩
    have hB := ((Below.refl _ w).alloc (Nat.le_refl _) (.cells (rawC k m ee s' b') 25)).trans (hB1.mono (by simp))
    clear hB1
    go_wp2_with fail
    go_ret
    exact ⟨rfl, hB⟩
  obtain ⟨M, E, hN⟩ := pair_ex (valN m ee)
  have hr : RightP (M, E) := by rw [← hN]; exact valN_right m ee
  have hvp : valP 1 m ee s' b' = numV (M, E) := by
    unfold valP
    rw [if_pos (show pickI 1 5 = 1 from rfl), hN]
  have HV := Lib.hid (show ∀ W, Calls Tryz.prog 12 #[.agg (rawC 1 m ee s' b')] W (Gives (.agg (pcs (numV (M, E)))) W) from fun W => by
    rw [← hvp]
    exact val_any 1 m ee s' b' W (i64_one (by decide) (by decide)) hz.m hz.e hz.s)
  have htk := pureS_ok s
  have HP := Lib.hid (pure_any s · hs)
  obtain ⟨T, hTe⟩ : ∃ T, pureS s = T := ⟨_, rfl⟩
  rw [hTe] at htk HP
  have hTs := txt_small htk
  have HR1 := Lib.hid (show ∀ W, Below w.heap.size w W → Calls Tryz.prog 17 #[.string (⟨#[39]⟩ ++ T)] W (fun e w' => e = .returned (.tuple #[.agg (litS T), .int .i64 0]) ∧ Below W.heap.size W w') from fun W hW => by
    have := vread_any (⟨#[39]⟩ ++ T) W (by rw [app39_size]; omega) (hS.below hW) (tabs_below hT hW)
    rw [app39, read_quote, mk_self, if_pos htk] at this
    exact this)
  have HTx := Lib.hid (show ∀ W, Calls Tryz.prog 33 #[.agg #[.int .i64 M, .int .i64 E]] W (fun e w' => e = .returned (.tuple #[.string (mk (textR M E)), .int .i64 0]) ∧ Below W.heap.size W w') from fun W => by
    have := text_any M E W (by unfold RightP at hr; omega) (by unfold RightP at hr; omega)
    rw [(text_plain hr).1] at this
    exact this)
  have HR2 := Lib.hid (show ∀ W, Below w.heap.size w W → Calls Tryz.prog 17 #[.string (mk (textR M E))] W (fun e w' => e = .returned (.tuple #[.agg (litN M E), .int .i64 0]) ∧ Below W.heap.size W w') from fun W hW => by
    have := vread_any (mk (textR M E)) W (by
      have := (text_plain hr).2.2.2
      show (textR M E).length ≤ 4294967000
      omega) (hS.below hW) (tabs_below hT hW)
    rw [mk_list, read_num hr] at this
    exact this)
  obtain ⟨X, er, hX⟩ := pair_ex (readV (39 :: s.data.toList))
  have HR3 := Lib.hid (show ∀ W, Below w.heap.size w W → Calls Tryz.prog 17 #[.string (⟨#[39]⟩ ++ s)] W (fun e w' => e = .returned (.tuple #[.agg (pcs X), .int .i64 er]) ∧ Below W.heap.size W w') from fun W hW => by
    have := vread_any (⟨#[39]⟩ ++ s) W (by rw [app39_size]; omega) (hS.below hW) (tabs_below hT hW)
    rw [app39, hX] at this
    exact this)
  have her : (txtOk s = true ∧ er = 0) ∨ (txtOk s = false ∧ er = 30) := by
    rw [read_quote, mk_self] at hX
    cases ht : txtOk s with
    | true =>
      rw [if_pos ht] at hX
      injection hX with _ h
      exact .inl ⟨rfl, h.symm⟩
    | false =>
      rw [if_neg (by rw [ht]; decide)] at hX
      injection hX with _ h
      exact .inr ⟨rfl, h.symm⟩
  have HI := Lib.hid (istext_any s · hs)
  have hOX := pcs_one X
  obtain ⟨CX, hCX⟩ : ∃ C, pcs X = C := ⟨_, rfl⟩
  rw [hCX] at HR3 hOX
  have HOX := Lib.hid hOX
  have htok : txtOk s = (decide (s.size ≤ 200) && isTextL s.data.toList) := rfl
  have HS1 := Lib.hid (show ∀ W, Calls Tryz.prog 26 #[.agg (litS T), .agg (litS T)] W (Gives (.bool true) W) from fun W => same_self (plain_txt htk) W)
  have HS2 := Lib.hid (show ∀ W, Calls Tryz.prog 26 #[.agg (litN M E), .agg (litN M E)] W (Gives (.bool true) W) from fun W => same_self (plain_num hr) W)
  have OS : Hid (OneC (litS T)) := Lib.hid (pcs_one (txtV T))
  have ON : Hid (OneC (litN M E)) := Lib.hid (pcs_one (numV (M, E)))
  have fl : ∀ W, (Instr.field 34 (.agg (pcs (numV (M, E)))) 1).run Tryz.prog W = .ok (.agg #[.int .i64 M, .int .i64 E]) W := field_n M E
  obtain ⟨CN, hCN⟩ : ∃ C, pcs (numV (M, E)) = C := ⟨_, rfl⟩
  rw [hCN] at HV fl
  obtain ⟨D, hD⟩ : ∃ D, mk (textR M E) = D := ⟨_, rfl⟩
  rw [hD] at HTx HR2
  have hs3 : s.size ≤ 300 := by omega
  have hlI : ¬ 300 < (s.size : Int) := by omega
  have x39 : (⟨#[39]⟩ : ByteArray).size = 1 := rfl
  clear hTe htk hr hvp hN hX hCX hOX hCN hD hS hT hz hs hlen
  go_enter Tryz.func10, Tryz.ntmps10
  go_wp2_with fail
  refine (HAW.out _ ((Below.refl _ w).alloc (Nat.le_refl _) _)).mono ?_
  rintro e1 w1 ⟨rfl, hB1⟩
  have hB := ((Below.refl _ w).alloc (Nat.le_refl _) (.cells (rawC k m ee s' b') 25)).trans (hB1.mono (by simp))
  have hraw : World.rw w1 w.heap.size (rawC k m ee s' b') := (rw_new w _).below hB1 (by simp)
  clear hB1 HAW
  go_wp2_with fail
  refine (HP.out _).mono ?_
  rintro e2 w2 ⟨rfl, rfl⟩
  go_wp2_with fail
  refine (HR1.out _ hB).mono ?_
  rintro e3 w3 ⟨rfl, hB3⟩
  have hraw := hraw.below hB3 hraw.lt
  have hB := hB.trans (hB3.mono hB.size)
  clear hB3 HR1 HP
  obtain ⟨b7, hb7⟩ : ∃ b, b = w3.heap.size := ⟨_, rfl⟩
  have hl0 := hraw.lt
  rw [← hb7] at hl0
  go_wp2_with (first | refine wpList_alloc34 rfl rfl ?_ | (refine wpList_store34 rfl rfl rfl rfl (World.vb_new w3 vz) (by rfl) OS.out ?_; intro w4 hn7 hg4 hz4; have hraw := (World.rw.alloc (o := .cells vz 34) hraw).grown hg4 (by intro e9; injection e9 with e9; omega); have hc4 := hraw.cell (j := 0) rfl; have hf4 : w4.frozen? ⟨w.heap.size, 0, none⟩ = false := frozen_of_row w4 _ 0 _ _ hraw; have hB := (hB.alloc hB.size (.cells vz 34)).grown hg4 (by have := hB.size; simp; omega) (fun k9 hk9 => by cases hk9; exact hB.size)) | refine wpList_load25 rfl rfl rfl (rw_set hraw 1) (by rfl) ?_)
  rw [← hb7] at hn7 ⊢
  clear hb7 hg4 hz4 hc4 hf4
  obtain ⟨w5, hw5⟩ : ∃ w5, w5 = w4.setCell ⟨w.heap.size, 0, none⟩ (.int .i64 1) := ⟨_, rfl⟩
  rw [← hw5]
  have hn7 : World.vb w5 b7 (litS T) := by rw [hw5]; exact hn7.other (by show b7 ≠ w.heap.size; omega) _
  have hB : Below w.heap.size w w5 := by rw [hw5]; exact hB.setCell (Nat.le_refl _) _
  clear hw5 hraw hl0
  refine (HV.out _).mono ?_
  rintro e6 w6 ⟨rfl, hB6⟩
  have hn7 := hn7.below hB6 hn7.lt
  have hB := hB.trans (hB6.mono hB.size)
  clear hB6 HV
  go_wp2_with fail
  -- REST
  have hl7 := hn7.lt
  have d9 : World.dec (w6.alloc (.cells #[.int .i64 M, .int .i64 E] 23)) w6.heap.size M E := World.dec_new _ _ _ _ rfl
  have hn7 := hn7.alloc (.cells #[.int .i64 M, .int .i64 E] 23)
  have hB := hB.alloc hB.size (.cells #[.int .i64 M, .int .i64 E] 23)
  obtain ⟨b9, hb9⟩ : ∃ b, b = w6.heap.size := ⟨_, rfl⟩
  rw [← hb9] at d9 hl7 ⊢
  clear hb9
  refine (HTx.out _).mono ?_
  rintro e8 w8 ⟨rfl, hB8⟩
  have hn7 := hn7.below hB8 hn7.lt
  have d9 := d9.below hB8 d9.lt
  have hB := hB.trans (hB8.mono hB.size)
  clear hB8 HTx
  go_wp2_with fail
  refine (HR2.out _ hB).mono ?_
  rintro e10 w10 ⟨rfl, hB10⟩
  have hn7 := hn7.below hB10 hn7.lt
  have d9 := d9.below hB10 d9.lt
  have hB := hB.trans (hB10.mono hB.size)
  clear hB10 HR2
  obtain ⟨b12, hb12⟩ : ∃ b, b = w10.heap.size := ⟨_, rfl⟩
  have hlhn7 := hn7.lt
  have hld9 := d9.lt
  rw [← hb12] at hlhn7 hld9
  go_wp2_with (first | refine wpList_alloc34 rfl rfl ?_ | (refine wpList_store34 rfl rfl rfl rfl (World.vb_new w10 vz) (by rfl) ON.out ?_; intro w11 hn12 hg11 hz11; have hn7 := (hn7.alloc (.cells vz 34)).grown hg11 (by intro e9; injection e9 with e9; omega); have d9 := (d9.alloc (.cells vz 34)).grown hg11 (by intro e9; injection e9 with e9; omega); have hB := (hB.alloc hB.size (.cells vz 34)).grown hg11 (by have := hB.size; simp; omega) (fun k9 hk9 => by cases hk9; exact hB.size)))
  rw [← hb12] at hn12 ⊢
  clear hb12 hg11 hz11
  refine (HR3.out _ hB).mono ?_
  rintro e13 w13 ⟨rfl, hB13⟩
  have hn7 := hn7.below hB13 hn7.lt
  have d9 := d9.below hB13 d9.lt
  have hn12 := hn12.below hB13 hn12.lt
  have hB := hB.trans (hB13.mono hB.size)
  clear hB13 HR3
  obtain ⟨b14, hb14⟩ : ∃ b, b = w13.heap.size := ⟨_, rfl⟩
  have hlhn7 := hn7.lt
  have hld9 := d9.lt
  have hlhn12 := hn12.lt
  rw [← hb14] at hlhn7 hld9 hlhn12
  obtain ⟨tI, htI⟩ : ∃ b, isTextL s.data.toList = b := ⟨_, rfl⟩
  rw [htI] at HI htok
  clear htI
  by_cases hle : (s.size : Int) ≤ 200
  · have hd : decide (s.size ≤ 200) = true := decide_eq_true (by omega)
    have htt : tI = true ∧ er = 0 ∨ tI = false ∧ er = 30 := by
      rw [hd, Bool.true_and] at htok
      rw [htok] at her
      exact her
    clear htok her hd
    go_wp2_with (first | refine wpList_alloc34 rfl rfl ?_ | (refine wpList_store34 rfl rfl rfl rfl (World.vb_new w13 vz) (by rfl) HOX.out ?_; intro w14 hn14 hg14 hz14; have hn7 := (hn7.alloc (.cells vz 34)).grown hg14 (by intro e9; injection e9 with e9; omega); have hn12 := (hn12.alloc (.cells vz 34)).grown hg14 (by intro e9; injection e9 with e9; omega); have d9 := (d9.alloc (.cells vz 34)).grown hg14 (by intro e9; injection e9 with e9; omega); have c9 := d9.c0; have e9 := d9.c1; have hB := (hB.alloc hB.size (.cells vz 34)).grown hg14 (by have := hB.size; simp; omega) (fun k9 hk9 => by cases hk9; exact hB.size)))
    refine (HI.out _).mono ?_
    rintro e15 w15 ⟨rfl, rfl⟩
    rcases htt with ⟨rfl, rfl⟩ | ⟨rfl, rfl⟩
    · go_wp2_with (refine wpList_load34g rfl rfl rfl hn7 OS.out.1 ?_)
      refine (HS1.out _).mono ?_
      rintro e16 w16 ⟨rfl, hB16⟩
      have hn12 := hn12.below hB16 hn12.lt
      have d9 := d9.below hB16 d9.lt
      have c9 := d9.c0
      have e9 := d9.c1
      have hB := hB.trans (hB16.mono hB.size)
      clear hB16
      go_wp2_with (refine wpList_load34g rfl rfl rfl hn12 ON.out.1 ?_)
      refine (HS2.out _).mono ?_
      rintro e17 w17 ⟨rfl, hB17⟩
      have hB := hB.trans (hB17.mono hB.size)
      clear hB17 c9 e9
      go_wp2_with fail
      go_ret
      exact ⟨rfl, hB⟩
    · go_wp2_with (refine wpList_load34g rfl rfl rfl hn7 OS.out.1 ?_)
      refine (HS1.out _).mono ?_
      rintro e16 w16 ⟨rfl, hB16⟩
      have hn12 := hn12.below hB16 hn12.lt
      have d9 := d9.below hB16 d9.lt
      have c9 := d9.c0
      have e9 := d9.c1
      have hB := hB.trans (hB16.mono hB.size)
      clear hB16
      go_wp2_with (refine wpList_load34g rfl rfl rfl hn12 ON.out.1 ?_)
      refine (HS2.out _).mono ?_
      rintro e17 w17 ⟨rfl, hB17⟩
      have hB := hB.trans (hB17.mono hB.size)
      clear hB17 c9 e9
      go_wp2_with fail
      go_ret
      exact ⟨rfl, hB⟩
  · have hd : decide (s.size ≤ 200) = false := decide_eq_false (by omega)
    have htt : er = 30 := by
      rw [hd, Bool.false_and] at htok
      rcases her with ⟨h, _⟩ | ⟨_, h⟩
      · rw [htok] at h; exact absurd h (by decide)
      · exact h
    subst htt
    clear htok her hd
    go_wp2_with (first | refine wpList_alloc34 rfl rfl ?_ | (refine wpList_store34 rfl rfl rfl rfl (World.vb_new w13 vz) (by rfl) HOX.out ?_; intro w14 hn14 hg14 hz14; have hn7 := (hn7.alloc (.cells vz 34)).grown hg14 (by intro e9; injection e9 with e9; omega); have hn12 := (hn12.alloc (.cells vz 34)).grown hg14 (by intro e9; injection e9 with e9; omega); have d9 := (d9.alloc (.cells vz 34)).grown hg14 (by intro e9; injection e9 with e9; omega); have c9 := d9.c0; have e9 := d9.c1; have hB := (hB.alloc hB.size (.cells vz 34)).grown hg14 (by have := hB.size; simp; omega) (fun k9 hk9 => by cases hk9; exact hB.size)) | refine wpList_load34g rfl rfl rfl hn7 OS.out.1 ?_)
    refine (HS1.out _).mono ?_
    rintro e16 w16 ⟨rfl, hB16⟩
    have hn12 := hn12.below hB16 hn12.lt
    have d9 := d9.below hB16 d9.lt
    have c9 := d9.c0
    have e9 := d9.c1
    have hB := hB.trans (hB16.mono hB.size)
    clear hB16
    go_wp2_with (refine wpList_load34g rfl rfl rfl hn12 ON.out.1 ?_)
    refine (HS2.out _).mono ?_
    rintro e17 w17 ⟨rfl, hB17⟩
    have hB := hB.trans (hB17.mono hB.size)
    clear hB17 c9 e9
    go_wp2_with fail
    go_ret
    exact ⟨rfl, hB⟩
end Go.Proofs.YtkhohjdakcchdaaGreatDoor
