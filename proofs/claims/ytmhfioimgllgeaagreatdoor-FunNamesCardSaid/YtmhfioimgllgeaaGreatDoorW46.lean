/- Fun: more small helpers. (By gensm2.py.) -/
import Derived.Test.YtmhfioimgllgeaaGreatDoorW39
import Derived.Test.YtmhfioimgllgeaaGreatDoorW17
import Derived.Test.YtmhfioimgllgeaaGreatDoorW42
namespace Go.Proofs.YtmhfioimgllgeaaGreatDoor
open Go Go.RowKit Go.Shelf Go.Maps
set_option maxHeartbeats 1000000 in
theorem text24_any (s : ByteArray) (w : World) : Calls Tryz.prog 24 #[.string s] w (Gives (.agg (pcs (txtV s))) w) := by
  go_enter Tryz.func24, Tryz.ntmps24
  go_wp2_with (first | refine wpList_alloc34 rfl rfl ?_ | refine wpList_build_txt rfl rfl (by rfl) ?_ | (refine wpList_store34 rfl rfl rfl rfl (World.vb_new' _ _ _ (by simp)) (by rfl) (pcs_one _) ?_; intro w1 hn1 hg1 hz1))
  refine bodyPost_ret (results_cell_row rfl _ _ _ 39 _ (0, 0) _ rfl hn1 Tryz.underlying39 rfl info34) rfl ?_
  exact ⟨rfl, (((Below.refl _ w).alloc (Nat.le_refl _) _)).grown hg1 (by simp) (fun k hk => by cases hk; simp)⟩
set_option maxRecDepth 100000 in
set_option maxHeartbeats 2000000 in
theorem num23_any (n : Int) (w : World) (h0 : -9223372036854775808 ≤ n) (h1 : n ≤ 9223372036854775807) : Calls Tryz.prog 23 #[.int .i64 n] w (Gives (.agg (pcs (numV (ofD n).1))) w) := by
  have HD := Lib.hid (rof_any n (w.alloc (.cells vz 39)) h0 h1)
  generalize ofD n = p at HD ⊢
  clear h0 h1
  obtain ⟨⟨M, E⟩, r⟩ := p
  go_enter Tryz.func23, Tryz.ntmps23
  go_wp2_with (refine wpList_alloc34 rfl rfl ?_)
  refine HD.out.mono ?_
  rintro e w1 ⟨rfl, hB1⟩
  have hz : (w.alloc (.cells vz 39)).heap.size = w.heap.size + 1 := by simp
  have hvy : World.vb w1 w.heap.size vz := (World.vb_new w vz).below hB1 (by rw [hz]; omega)
  have hB : Below w.heap.size w w1 := ((Below.refl _ w).alloc (Nat.le_refl _) _).trans (hB1.mono (by rw [hz]; omega))
  clear hB1 hz
  simp only [decV]
  go_upto_region 2 with (refine wpList_storeD rfl rfl rfl rfl (World.dec_new _ _ _ _ rfl) ?_; intro w3 hn3 hg3 hz3)
  have hvy : World.vb w3 w.heap.size vz := vb_but (hvy.alloc _) hg3 (by have := hvy.lt; omega)
  have hB : Below w.heap.size w w3 := (hB.alloc hB.size _).grown hg3 (by have := hB.size; simp; omega) (fun k hk => by cases hk; exact hB.size)
  have d0 := hn3.c0
  have d1 := hn3.c1
  clear hg3 hz3
  go_wp2_with (first | refine wpList_build_num rfl rfl (by rfl) ?_ | (refine wpList_store34 rfl rfl rfl rfl hvy (by rfl) (pcs_one _) ?_; intro w9 hn9 hg9 hz9))
  refine bodyPost_ret (results_cell_row rfl _ _ _ 39 _ (0, 0) _ rfl hn9 Tryz.underlying39 rfl info34) rfl ?_
  exact ⟨rfl, hB.grown hg9 hB.size (fun k9 hk9 => by cases hk9; omega)⟩
theorem fz_one : OneF fz := ⟨rfl, by simp [fz, Value.oneCell']⟩
theorem results_tmp3 {fn : Func} {a b c : Tmp} (h : fn.results = #[.tmp a, .tmp b, .tmp c]) (tmps : Array Value) (w : World) : (results fn tmps).run Tryz.prog w = .ok (.tuple #[tmps.getD a undef, tmps.getD b undef, tmps.getD c undef]) w := by
  simp only [results, h]
  simp
set_option maxRecDepth 100000 in
set_option maxHeartbeats 4000000 in
theorem known_any (s : ByteArray) (hs : s.size ≤ 1000) (w : World) : Calls Tryz.prog 15 #[.string s] w (Gives (match look (tabAll 0 0) (upL s.data.toList) with | some e => .tuple #[.int .i64 e.least, .int .i64 e.most, .bool true] | none => .tuple #[.int .i64 0, .int .i64 0, .bool false]) w) := by
  obtain ⟨o, ho⟩ : ∃ o, o = look (tabAll 0 0) (upL s.data.toList) := ⟨_, rfl⟩
  rw [← ho]
  have HO := Lib.hid ho
  clear ho
  go_enter Tryz.func15, Tryz.ntmps15
  go_wp2_with fail
  refine (funs_any 0 0 _).mono ?_
  rintro e1 w1 ⟨b, rfl, hT, hB1⟩
  go_wp2_with fail
  refine (upper_any s _ (by omega)).mono ?_
  rintro e2 w2 ⟨rfl, hB2⟩
  have hT := hT.below hB2
  have hB := hB1.trans (hB2.mono hB1.size)
  clear hB1 hB2
  have hus : (upS s).size ≤ 1000 := by show (upL s.data.toList).length ≤ 1000; unfold upL; rw [List.length_map]; exact hs
  have HE : look (tabAll 0 0) (upS s).data.toList = o := HO.out.symm
  cases o with
  | none =>
    have hrun := hT.miss hus HE
    clear hT HE hus
    go_upto_region 2 with (first | refine wpList_alloc83 rfl rfl ?_ | (refine wpList_store83 rfl rfl rfl rfl (blk_new' _ _ _ _ rfl) (by rfl) fz_one ?_; intro w3 hn3 hg3 hz3))
    have hB3 : Below w.heap.size w w3 := (hB.alloc hB.size (.cells fz 83)).grown hg3 (by have := hB.size; simp; omega) (fun k hk => by cases hk; exact hB.size)
    have c0 : w3.cell? ⟨w2.heap.size, 0, none⟩ = some (.int .i64 0) := hn3.cell rfl
    have c1 : w3.cell? ⟨w2.heap.size, 1, none⟩ = some (.int .i64 0) := hn3.cell rfl
    clear hrun hg3 hz3 hn3
    go_quiet (fail)
    go_wp2_with fail
    refine bodyPost_ret (results_tmp3 rfl _ _) rfl ?_
    exact ⟨rfl, ⟨hB3.os, hB3.tape, hB3.output, hB3.size, hB3.block⟩⟩
  | some e =>
    obtain ⟨v, hv, hrun⟩ := hT.look hus HE
    obtain ⟨cs, hcv, hcs⟩ := ent_form hv
    obtain ⟨va, vb, hv2, hv3, hv4⟩ := hv
    subst hcv
    injection hv2 with hv2
    have Q0 := Lib.hid (show cs[0]? = some (.int .i64 e.least) by rw [hv2]; rfl)
    have Q1 := Lib.hid (show cs[1]? = some (.int .i64 e.most) by rw [hv2]; rfl)
    have HCS := Lib.hid hcs
    clear hT HE hus hcs hv2 hv3 hv4
    go_upto_region 2 with (first | refine wpList_alloc83 rfl rfl ?_ | (refine wpList_store83 rfl rfl rfl rfl (blk_new' _ _ _ _ rfl) (by rfl) HCS.out ?_; intro w3 hn3 hg3 hz3))
    have hB3 : Below w.heap.size w w3 := (hB.alloc hB.size (.cells fz 83)).grown hg3 (by have := hB.size; simp; omega) (fun k hk => by cases hk; exact hB.size)
    have c0 := hn3.cell Q0.out
    have c1 := hn3.cell Q1.out
    clear hrun hg3 hz3 hn3
    go_quiet (fail)
    go_wp2_with fail
    refine bodyPost_ret (results_tmp3 rfl _ _) rfl ?_
    exact ⟨rfl, ⟨hB3.os, hB3.tape, hB3.output, hB3.size, hB3.block⟩⟩
set_option maxHeartbeats 2000000 in
theorem now_any (M E : Int) (h : RightP (M, E)) (L : Value) (b : Nat) (w : World) (hb : World.dec w b M E) : Calls Tryz.prog 188 #[L, .pointer (some ⟨b, 0, none⟩)] w (Gives (.agg (pcs (numV (M, E)))) w) := by
  have hr := rightB_P.2 h
  have HR := Lib.hid (fun W => right_any M E W (by have := h.1; simp only at this; omega) (by have := h.2.1; simp only at this; omega))
  rw [hr] at HR
  have hB0 : Below w.heap.size w (w.alloc (.cells vz 39)) := (Below.refl _ w).alloc (Nat.le_refl _) _
  have hv0 : World.vb (w.alloc (.cells vz 39)) w.heap.size vz := World.vb_new w vz
  have hb0 := hb.below hB0 hb.lt
  clear h hr
  go_enter Tryz.func188, Tryz.ntmps188
  go_wp2_with (first | refine wpList_alloc34 rfl rfl ?_ | refine wpList_loadDat rfl rfl rfl rfl (dec_cells hb0) ?_ | (go_at_call 58; refine (HR.out _).mono ?_; rintro e w1 ⟨rfl, hB1⟩; have hv1 := hv0.below hB1 hv0.lt; have hb1 := hb0.below hB1 hb0.lt; have hB1 := hB0.trans (hB1.mono hB0.size)) | refine wpList_loadDat rfl rfl rfl rfl (dec_cells hb1) ?_ | (go_at_call 119; refine (num_any M E _).mono ?_; rintro e w2 ⟨rfl, hB2⟩; have hv2 := hv1.below hB2 hv1.lt; have hB2 := hB1.trans (hB2.mono hB1.size)) | (refine wpList_store34 rfl rfl rfl rfl hv2 (by rfl) (pcs_one _) ?_; intro w9 hn9 hg9 hz9))
  refine bodyPost_ret (results_cell_row rfl _ _ _ 39 _ (0, 0) _ rfl hn9 Tryz.underlying39 rfl info34) rfl ?_
  exact ⟨rfl, hB2.grown hg9 hB2.size (fun k9 hk9 => by cases hk9; omega)⟩
set_option maxRecDepth 100000 in
set_option maxHeartbeats 8000000 in
theorem call_miss (s : ByteArray) (hs : s.size ≤ 1000) (M E : Int) (he : look (tabAll M E) (upL s.data.toList) = none) (L : Value) (w : World) : Calls Tryz.prog 18 #[.string s, L, .agg #[.int .i64 M, .int .i64 E]] w (Gives (.agg (pcs (errV 5))) w) := by
  have HLK := Lib.hid he
  clear he
  obtain ⟨W, hW⟩ : ∃ W, W = (w.alloc (.cells #[.int .i64 M, .int .i64 E] 34)).alloc (.cells vz 39) := ⟨_, rfl⟩
  have hdc : World.dec W w.heap.size M E := by rw [hW]; exact (World.dec_new w M E _ rfl).alloc _
  have hvy : World.vb W (w.heap.size + 1) vz := by rw [hW]; exact World.vb_new' _ _ _ (by simp)
  have hB : Below w.heap.size w W := by rw [hW]; exact ((Below.refl _ w).alloc (Nat.le_refl _) _).alloc (by simp) _
  go_enter Tryz.func18, Tryz.ntmps18
  go_upto_region 1 with (refine wpList_alloc34 rfl rfl ?_)
  go_simp
  rw [← hW]
  clear hW
  have d0 := hdc.c0
  have d1 := hdc.c1
  go_wp2_with fail
  refine (funs_any M E _).mono ?_
  rintro e1 w1 ⟨b, rfl, hT, hB1⟩
  have hvy := hvy.below hB1 hvy.lt
  have hB := hB.trans (hB1.mono hB.size)
  clear hB1 hdc d0 d1
  go_wp2_with fail
  refine (upper_any s _ (by omega)).mono ?_
  rintro e2 w2 ⟨rfl, hB2⟩
  have hT := hT.below hB2
  have hvy := hvy.below hB2 hvy.lt
  have hB := hB.trans (hB2.mono hB.size)
  clear hB2
  have hrun := hT.miss (s := upS s) (by show (upL s.data.toList).length ≤ 1000; unfold upL; rw [List.length_map]; exact hs) HLK.out
  clear hT
  go_upto_region 2 with (first | refine wpList_alloc83 rfl rfl ?_ | (refine wpList_store83 rfl rfl rfl rfl (blk_new' _ _ _ _ rfl) (by rfl) fz_one ?_; intro w3 hn3 hg3 hz3))
  have hb3 : Below w2.heap.size w2 w3 := ((Below.refl _ w2).alloc (Nat.le_refl _) (.cells fz 83)).grown hg3 (by simp) (fun k hk => by cases hk; exact Nat.le_refl _)
  have hvy := hvy.below hb3 hvy.lt
  have hB := hB.trans (hb3.mono hB.size)
  clear hrun hg3 hz3 hb3
  go_wp2_with (first | (go_at_call 44; refine (fault_any 5 _).mono ?_; rintro e w4 ⟨rfl, hB4⟩; have hvy := hvy.below hB4 hvy.lt; have hB := hB.trans (hB4.mono hB.size)) | (refine wpList_store34 rfl rfl rfl rfl hvy (by rfl) (pcs_one _) ?_; intro w9 hn9 hg9 hz9))
  refine bodyPost_ret (results_cell_row rfl _ _ _ 39 _ (0, 0) _ rfl hn9 Tryz.underlying39 rfl info34) rfl ?_
  exact ⟨rfl, hB.grown hg9 hB.size (fun k9 hk9 => by cases hk9; omega)⟩
set_option maxRecDepth 100000 in
set_option maxHeartbeats 8000000 in
theorem call_few (s : ByteArray) (hs : s.size ≤ 1000) (M E : Int) (e : Ent) (he : look (tabAll M E) (upL s.data.toList) = some e) (p : Option Addr) (n c : Nat) (w : World) (hl0 : (n : Int) < e.least) : Calls Tryz.prog 18 #[.string s, .slice p n c, .agg #[.int .i64 M, .int .i64 E]] w (Gives (.agg (pcs (errV 3))) w) := by
  have HLK := Lib.hid he
  clear he
  obtain ⟨W, hW⟩ : ∃ W, W = (w.alloc (.cells #[.int .i64 M, .int .i64 E] 34)).alloc (.cells vz 39) := ⟨_, rfl⟩
  have hdc : World.dec W w.heap.size M E := by rw [hW]; exact (World.dec_new w M E _ rfl).alloc _
  have hvy : World.vb W (w.heap.size + 1) vz := by rw [hW]; exact World.vb_new' _ _ _ (by simp)
  have hB : Below w.heap.size w W := by rw [hW]; exact ((Below.refl _ w).alloc (Nat.le_refl _) _).alloc (by simp) _
  go_enter Tryz.func18, Tryz.ntmps18
  go_upto_region 1 with (refine wpList_alloc34 rfl rfl ?_)
  go_simp
  rw [← hW]
  clear hW
  have d0 := hdc.c0
  have d1 := hdc.c1
  go_wp2_with fail
  refine (funs_any M E _).mono ?_
  rintro e1 w1 ⟨b, rfl, hT, hB1⟩
  have hvy := hvy.below hB1 hvy.lt
  have hB := hB.trans (hB1.mono hB.size)
  clear hB1 hdc d0 d1
  go_wp2_with fail
  refine (upper_any s _ (by omega)).mono ?_
  rintro e2 w2 ⟨rfl, hB2⟩
  have hT := hT.below hB2
  have hvy := hvy.below hB2 hvy.lt
  have hB := hB.trans (hB2.mono hB.size)
  clear hB2
  obtain ⟨v, hv, hrun⟩ := hT.look (s := upS s) (by show (upL s.data.toList).length ≤ 1000; unfold upL; rw [List.length_map]; exact hs) HLK.out
  obtain ⟨cs, hcv, hcs⟩ := ent_form hv
  obtain ⟨va, vb, hv2, hv3, hv4⟩ := hv
  subst hcv
  injection hv2 with hv2
  have Q0 := Lib.hid (show cs[0]? = some (.int .i64 e.least) by rw [hv2]; rfl)
  have HCS := Lib.hid hcs
  clear hcs hT hv2 hv3 hv4
  go_upto_region 2 with (first | refine wpList_alloc83 rfl rfl ?_ | (refine wpList_store83 rfl rfl rfl rfl (blk_new' _ _ _ _ rfl) (by rfl) HCS.out ?_; intro w3 hn3 hg3 hz3))
  have hb3 : Below w2.heap.size w2 w3 := ((Below.refl _ w2).alloc (Nat.le_refl _) (.cells fz 83)).grown hg3 (by simp) (fun k hk => by cases hk; exact Nat.le_refl _)
  have hvy := hvy.below hb3 hvy.lt
  have hB := hB.trans (hb3.mono hB.size)
  have c0 := hn3.cell Q0.out
  clear hrun hg3 hz3 hb3
  go_wp2_with (first | (go_at_call 44; refine (fault_any 3 _).mono ?_; rintro e w4 ⟨rfl, hB4⟩; have hvy := hvy.below hB4 hvy.lt; have hB := hB.trans (hB4.mono hB.size)) | (refine wpList_store34 rfl rfl rfl rfl hvy (by rfl) (pcs_one _) ?_; intro w9 hn9 hg9 hz9))
  refine bodyPost_ret (results_cell_row rfl _ _ _ 39 _ (0, 0) _ rfl hn9 Tryz.underlying39 rfl info34) rfl ?_
  exact ⟨rfl, hB.grown hg9 hB.size (fun k9 hk9 => by cases hk9; omega)⟩
end Go.Proofs.YtmhfioimgllgeaaGreatDoor
