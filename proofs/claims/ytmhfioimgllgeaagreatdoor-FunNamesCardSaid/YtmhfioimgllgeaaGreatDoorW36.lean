/- Merged: Fns, Upp. -/
import Derived.Test.YtmhfioimgllgeaaGreatDoorW35
namespace Go.Proofs.YtmhfioimgllgeaaGreatDoor
open Go Go.RowKit Go.Shelf Go.Maps
theorem info34d : (Tryz.prog.info? 34).map (·.size) = some 2 := by kernel_rfl
theorem yieldsD {a : Act} {o : Oper} {w : World} {x : Operand} {g : Nat} {M E : Int} (ho : o.op = .load 34 x) (hx : a.eval x = .pointer (some ⟨g, 0, none⟩)) (hd : World.dec w g M E) : (execOp a.eval o).run Tryz.prog w = .ok (.value (.agg #[.int .i64 M, .int .i64 E])) w := by
  have := run_loadVar_row (P := Tryz.prog) w g 34 34 _ (0, 0) _ hd Tryz.underlying34 rfl info34d
  unfold execOp
  simp only [ho, hx, Instr.loadAt, Instr.sureAddr, Sem.run_bind, Sem.run_pure, Result.andThen_ok, this]
theorem bslice_maps (p q r : Nat) (w : World) : (Instr.buildSlice 131 3 #[(0, .map (some p)), (1, .map (some q)), (2, .map (some r))]).run Tryz.prog w = .ok (.slice (some ⟨w.heap.size, 0, none⟩) 3 3) (w.alloc (.cells #[.map (some p), .map (some q), .map (some r)] 74)) := by kernel_rfl
theorem op_bslice131 {o : Oper} {a : Act} {w : World} {K : Act → World → Prop} {Q : Exit → Act → World → Prop} {x y z : Operand} {p q r : Nat} (ho : o.op = .buildSlice 131 3 #[(0, x), (1, y), (2, z)]) (hx : a.eval x = .map (some p)) (hy : a.eval y = .map (some q)) (hz : a.eval z = .map (some r))
    (h : K (a.put o.dst (.slice (some ⟨w.heap.size, 0, none⟩) 3 3)) (w.alloc (.cells #[.map (some p), .map (some q), .map (some r)] 74))) : o.wp Tryz.prog a w K Q := by
  have hb := bslice_maps p q r w
  unfold Oper.wp execOp
  simp [ho, hx, hy, hz, hb]
  exact h
theorem Tb.grown {w W : World} {b n g : Nat} {t : List UInt8 → Option Ent} (h : Tb w b n t) (ha : Away w g) (hg : w.grownBy W (some g)) (hne : b ≠ g) : Tb W b n t := by
  obtain ⟨D, h1, h2⟩ := h
  exact ⟨D, h1.kept hg (by intro e; injection e with e; exact hne e), h2.grown ha hg⟩
theorem Tb.away {w : World} {b n : Nat} {t : List UInt8 → Option Ent} (h : Tb w b n t) : Away w b := owns_away h.choose_spec.1
theorem blk_but {w W : World} {g t b : Nat} {cs : Array Value} (h : World.blk w g t cs) (hg : w.grownBy W (some b)) (hne : g ≠ b) : World.blk W g t cs := by
  unfold World.blk at *
  rw [hg.block g (Array.getElem?_eq_some_iff.1 h).1 (by intro e; injection e with e; exact hne e)]; exact h
/-- All functions, at a time. -/
def FunsPost (M E : Int) (w : World) (e : Ending) (w' : World) : Prop := ∃ b, e = .returned (.map (some b)) ∧ Tb w' b 100 (look (tabAll M E)) ∧ Below w.heap.size w w'
set_option maxRecDepth 100000 in
set_option maxHeartbeats 8000000 in
theorem funs_any (M E : Int) (w : World) : Calls Tryz.prog 39 #[.agg #[.int .i64 M, .int .i64 E]] w (FunsPost M E w) := by
  go_enter Tryz.func39, Tryz.ntmps39
  go_upto_region 1 with fail
  obtain ⟨W0, hW⟩ : ∃ W, W = w.alloc (.cells #[.int .i64 M, .int .i64 E] 34) := ⟨_, rfl⟩
  rw [← hW]
  have hB0 : Below w.heap.size w W0 := by rw [hW]; exact (Below.refl _ w).alloc (Nat.le_refl _) _
  have hd : World.dec W0 w.heap.size M E := by rw [hW]; exact World.dec_new w M E _ rfl
  clear hW
  have hB := hB0
  go_upto_region 2 with (refine (tab84_any _).mono ?_; rintro e W84 ⟨b84, rfl, hl84, hT84, hB84⟩)
  have hd := hd.below hB84 hd.lt
  have hB := hB.trans (hB84.mono hB.size)
  have hB : Below w.heap.size w W84.drew := hB.drew
  have hd : World.dec W84.drew w.heap.size M E := hd
  have hT84 := hT84.below (Below.refl _ W84).drew
  have hl84 : w.heap.size ≤ b84 := Nat.le_trans hB0.size hl84
  clear hB84
  refine wp_region_held_drew (S := fun w9 => World.dec w9 w.heap.size M E) (by kernel_rfl) hd (fun hHeld => ?_)
  obtain ⟨W1, hW1⟩ : ∃ W, W = W84.drew := ⟨_, rfl⟩
  rw [← hW1] at hd hT84 hB hHeld ⊢
  clear hW1
  refine wpAnyH_take (i := 2) (oi := ⟨some 9, _, _, _, _, _⟩) (v := ?_) rfl (by kernel_rfl) (by kernel_rfl) (by kernel_rfl) (fun _ _ _ h => h) (Or.inl ⟨by rfl, ?_⟩) hHeld ?_
  rotate_left
  · (intro w9 hSw; refine yieldsD (x := .tmp 1) (g := w.heap.size) ?_ ?_ hSw <;> rfl)
  try simp only [Act.put, List.setIfInBounds_toArray, List.set_cons_zero, List.set_cons_succ]
  refine wpAnyH_take (i := 6) (oi := ⟨some 13, _, _, _, _, _⟩) (v := ?_) rfl (by kernel_rfl) (by kernel_rfl) (by kernel_rfl) (fun _ _ _ h => h) (Or.inl ⟨by rfl, ?_⟩) hHeld ?_
  rotate_left
  · (intro w9 hSw; (try dsimp only at hSw); go_simp)
    all_goals with_reducible rfl
  try simp only [Act.put, List.setIfInBounds_toArray, List.set_cons_zero, List.set_cons_succ]
  refine wpAnyH_ready (rs := [0]) (by kernel_rfl) (by simp) ?_
  refine (AllReadyH.cons (o := ⟨some 7, _, _, _, _, _⟩) rfl (fun KK hK => ?_) AllReadyH.nil)
  (try rw [if_pos (by rfl)])
  go_simp
  refine (tab85_any _).mono ?_
  rintro e W85 ⟨b85, rfl, hl85, hT85, hB85⟩
  have hd := hd.below hB85 hd.lt
  have k1 : b84 < b85 := Nat.lt_of_lt_of_le hT84.lt hl85
  have hT84 := hT84.below hB85
  have hB := hB.trans (hB85.mono hB.size)
  refine hK.out _ _ hd (fun hHeld => ?_)
  clear hK KK
  try simp only [Act.put, List.setIfInBounds_toArray, List.set_cons_zero, List.set_cons_succ]
  refine wpAnyH_ready (rs := [1]) (by kernel_rfl) (by simp) ?_
  refine (AllReadyH.cons (o := ⟨some 8, _, _, _, _, _⟩) rfl (fun KK hK => ?_) AllReadyH.nil)
  (try rw [if_pos (by rfl)])
  go_simp
  refine (tab86_any _).mono ?_
  rintro e W86 ⟨b86, rfl, hl86, hT86, hB86⟩
  have hd := hd.below hB86 hd.lt
  have k2 : b85 < b86 := Nat.lt_of_lt_of_le hT85.lt hl86
  have hT84 := hT84.below hB86
  have hT85 := hT85.below hB86
  have hB := hB.trans (hB86.mono hB.size)
  refine hK.out _ _ hd (fun hHeld => ?_)
  clear hK KK
  try simp only [Act.put, List.setIfInBounds_toArray, List.set_cons_zero, List.set_cons_succ]
  refine wpAnyH_ready (rs := [3]) (by kernel_rfl) (by simp) ?_
  refine (AllReadyH.cons (o := ⟨some 10, _, _, _, _, _⟩) rfl (fun KK hK => ?_) AllReadyH.nil)
  (try rw [if_pos (by rfl)])
  go_simp
  refine (tab87_any M E _).mono ?_
  rintro e W87 ⟨b87, rfl, hl87, hT87, hB87⟩
  have hd := hd.below hB87 hd.lt
  have k3 : b86 < b87 := Nat.lt_of_lt_of_le hT86.lt hl87
  have hT84 := hT84.below hB87
  have hT85 := hT85.below hB87
  have hT86 := hT86.below hB87
  have hB := hB.trans (hB87.mono hB.size)
  refine hK.out _ _ hd (fun hHeld => ?_)
  clear hK KK
  try simp only [Act.put, List.setIfInBounds_toArray, List.set_cons_zero, List.set_cons_succ]
  clear hB85 hB86 hB87 hl85 hl86 hl87
  refine wpAnyH_ready (rs := [4]) (by kernel_rfl) (by simp) ?_
  refine (AllReadyH.cons (o := ⟨some 11, _, _, _, _, _⟩) rfl (fun KK hK => ?_) AllReadyH.nil)
  (try rw [if_pos (by rfl)])
  refine op_bslice131 rfl rfl rfl rfl ?_
  obtain ⟨W, hW⟩ : ∃ W, W = W87.alloc (.cells #[.map (some b85), .map (some b86), .map (some b87)] 74) := ⟨_, rfl⟩
  rw [← hW]
  have hn : World.blk W W87.heap.size 74 #[.map (some b85), .map (some b86), .map (some b87)] := by rw [hW]; exact blk_new _ _ _
  have hBn : Below W87.heap.size W87 W := by rw [hW]; exact (Below.refl _ _).alloc (Nat.le_refl _) _
  have k4 : b87 < W87.heap.size := hT87.lt
  have hd := hd.below hBn hd.lt
  have hT84 := hT84.below hBn
  have hT85 := hT85.below hBn
  have hT86 := hT86.below hBn
  have hT87 := hT87.below hBn
  have hB := hB.trans (hBn.mono hB.size)
  clear hW hBn
  refine hK.out _ _ hd (fun hHeld => ?_)
  clear hK KK
  try simp only [Act.put, List.setIfInBounds_toArray, List.set_cons_zero, List.set_cons_succ]
  refine wpAnyH_take (i := 5) (oi := ⟨some 12, _, _, _, _, _⟩) (v := ?_) rfl (by kernel_rfl) (by kernel_rfl) (by kernel_rfl) (fun _ _ _ h => h) (Or.inl ⟨by rfl, ?_⟩) hHeld ?_
  rotate_left
  · (intro w9 hSw; (try dsimp only at hSw); go_simp)
    all_goals with_reducible rfl
  try simp only [Act.put, List.setIfInBounds_toArray, List.set_cons_zero, List.set_cons_succ]
  refine wpAnyH_done (by kernel_rfl) ?_ _
  try simp only [Act.put, List.setIfInBounds_toArray, List.set_cons_zero, List.set_cons_succ]
  have l84 : tab84.length = 13 := rfl
  have l85 : tab85.length = 22 := rfl
  have l86 : tab86.length = 6 := rfl
  have l87 : (tab87 M E).length = 28 := rfl
  have c0 := hn.cell (j := 0) rfl
  have c1 := hn.cell (j := 1) rfl
  have c2 := hn.cell (j := 2) rfl
  have L84 := Lib.hid l84
  have L85 := Lib.hid l85
  have L86 := Lib.hid l86
  have L87 := Lib.hid l87
  clear hHeld l84 l85 l86 l87
  go_wp2_with fail
  refine wp_loop_rounds 4 ?_
  rw [rounds_succ]
  go_wp2_with fail
  refine (copy_any b84 b85 _ _ _ _ _ hT84 hT85 (by omega) (by simp only [L84.out, L85.out]; omega)).mono ?_
  rintro e X1 ⟨rfl, hT, hg⟩
  have ha := hT84.away
  have hT86 := hT86.grown ha hg (by omega)
  have hT87 := hT87.grown ha hg (by omega)
  have hn := blk_but hn hg (by omega)
  have hB := hB.grown hg hB.size (fun k hk => by cases hk; omega)
  have hT84 := tb_app hT
  clear ha hg hT
  have c1 := hn.cell (j := 1) rfl
  have c2 := hn.cell (j := 2) rfl
  go_wp2_with fail
  rw [rounds_succ]
  go_wp2_with fail
  refine (copy_any b84 b86 _ _ _ _ _ hT84 hT86 (by omega) (by simp only [L84.out, L85.out, L86.out]; omega)).mono ?_
  rintro e X2 ⟨rfl, hT, hg⟩
  have ha := hT84.away
  have hT87 := hT87.grown ha hg (by omega)
  have hn := blk_but hn hg (by omega)
  have hB := hB.grown hg hB.size (fun k hk => by cases hk; omega)
  have hT84 := tb_app hT
  clear ha hg hT
  have c1 := hn.cell (j := 1) rfl
  have c2 := hn.cell (j := 2) rfl
  go_wp2_with fail
  rw [rounds_succ]
  go_wp2_with fail
  refine (copy_any b84 b87 _ _ _ _ _ hT84 hT87 (by omega) (by simp only [L84.out, L85.out, L86.out, L87.out]; omega)).mono ?_
  rintro e X3 ⟨rfl, hT, hg⟩
  have ha := hT84.away
  have hn := blk_but hn hg (by omega)
  have hB := hB.grown hg hB.size (fun k hk => by cases hk; omega)
  have hT84 := tb_app hT
  clear ha hg hT
  go_wp2_with fail
  rw [rounds_succ]
  go_wp2_with fail
  go_ret
  exact ⟨_, rfl, hT84.mono (by simp only [L84.out, L85.out, L86.out, L87.out]; omega), hB⟩
end Go.Proofs.YtmhfioimgllgeaaGreatDoor
namespace Go.Proofs.YtmhfioimgllgeaaGreatDoor
open Go Go.RowKit Go.Shelf
def upC (c : UInt8) : UInt8 := if 97 ≤ c.toNat ∧ c.toNat ≤ 122 then c - 32 else c
def upL (l : List UInt8) : List UInt8 := l.map upC
def upS (s : ByteArray) : ByteArray := mk (upL s.data.toList)
theorem upL_at (s : ByteArray) (j : Nat) (hj : j < (upL s.data.toList).length) : upC (s.data.toList.getD j 0) = (upL s.data.toList)[j] := by
  have h2 : j < s.data.toList.length := by simpa [upL] using hj
  simp only [upL, List.getElem_map, List.getD_eq_getElem?_getD]
  rw [List.getElem?_eq_getElem h2]
  rfl
theorem upC_lo {c : UInt8} (h : 97 ≤ c.toNat ∧ c.toNat ≤ 122) : ((upC c).toNat : Int) = (c.toNat : Int) - 32 := by
  unfold upC
  have h32 : (32 : UInt8).toNat = 32 := rfl
  rw [if_pos h, UInt8.toNat_sub_of_le _ _ (by rw [UInt8.le_iff_toNat_le, h32]; omega), h32]
  omega
theorem upC_no {c : UInt8} (h : ¬ (97 ≤ c.toNat ∧ c.toNat ≤ 122)) : upC c = c := by unfold upC; rw [if_neg h]
set_option maxRecDepth 100000 in
set_option maxHeartbeats 2000000 in
theorem upper_any (s : ByteArray) (w : World) (hs : s.size ≤ 4294967280) : Calls Tryz.prog 42 #[.string s] w (Gives (.string (upS s)) w) := by
  obtain ⟨W, cap, hconv, hby, hB⟩ := bytes_new w s
  have hlt := hby.lt
  go_enter Tryz.func42, Tryz.ntmps42
  go_wp2
  clear hconv
  go_loopw [10] (fun i wr => ∃ K : Nat, K ≤ s.size ∧ i = .int .i64 (K : Int) ∧ ByAt wr w.heap.size s.size (fun j => if j < K then upC (s.data.toList.getD j 0) else s.data.toList.getD j 0) ∧ Below w.heap.size w wr) (fun i _ => s.size - (intOf i).toNat)
  case atStart => exact ⟨0, Nat.zero_le _, rfl, hby.congr (fun j _ => by simp), hB⟩
  case round =>
    obtain ⟨K, hK, rfl, hb, hBr⟩ := hrel
    clear hby hB
    by_cases hlt2 : K < s.size
    · have hKI : (K : Int) < (s.size : Int) := by omega
      obtain ⟨c, hc⟩ : ∃ c, s.data.toList.getD K 0 = c := ⟨_, rfl⟩
      have h0 := hb.cell K hlt2
      have hf := hb.free K hlt2
      rw [if_neg (by omega), hc] at h0
      have hc256 : c.toNat < 256 := UInt8.toNat_lt _
      by_cases hr : 97 ≤ c.toNat ∧ c.toNat ≤ 122
      · have hr1 : (97 : Int) ≤ (c.toNat : Int) := by omega
        have hr2 : (c.toNat : Int) ≤ 122 := by omega
        have HS : Hid (∀ v : Int, v = (c.toNat : Int) - 32 → ByAt (wr.setCell ⟨w.heap.size, K, none⟩ (.int .u8 v)) w.heap.size s.size (fun j => if j < K + 1 then upC (s.data.toList.getD j 0) else s.data.toList.getD j 0)) := Lib.hid fun v hv => by
          have := hb.set hlt2 (upC c)
          rw [upC_lo hr, ← hv] at this
          refine this.congr (fun j _ => ?_)
          by_cases e : j = K
          · subst e; rw [if_pos rfl, if_pos (by omega), hc]
          · rw [if_neg e]
            by_cases e2 : j < K
            · rw [if_pos e2, if_pos (by omega)]
            · rw [if_neg e2, if_neg (by omega)]
        clear hb hc hr
        go_wp2
        go_roundw
        case rel => exact ⟨K + 1, by omega, by go_num, HS.out _ (by omega), hBr.setCell (Nat.le_refl _) _⟩
        case measure => simp [intOf]; omega
      · have HS : Hid (ByAt wr w.heap.size s.size (fun j => if j < K + 1 then upC (s.data.toList.getD j 0) else s.data.toList.getD j 0)) := Lib.hid (hb.congr (fun j _ => by
          by_cases e : j = K
          · subst e; rw [if_neg (by omega), if_pos (by omega), hc, upC_no hr]
          · by_cases e2 : j < K
            · rw [if_pos e2, if_pos (by omega)]
            · rw [if_neg e2, if_neg (by omega)]))
        clear hb hc
        rcases (by omega : c.toNat < 97 ∨ (97 ≤ c.toNat ∧ 122 < c.toNat)) with hr' | ⟨hr1, hr2⟩
        · have hr1 : (c.toNat : Int) < 97 := by omega
          clear hr
          go_wp2
          go_roundw
          case rel => exact ⟨K + 1, by omega, by go_num, HS.out, hBr⟩
          case measure => simp [intOf]; omega
        · have hr1 : (97 : Int) ≤ (c.toNat : Int) := by omega
          have hr2 : (122 : Int) < (c.toNat : Int) := by omega
          clear hr
          go_wp2
          go_roundw
          case rel => exact ⟨K + 1, by omega, by go_num, HS.out, hBr⟩
          case measure => simp [intOf]; omega
    · have hKI : ¬ (K : Int) < (s.size : Int) := by omega
      have hback := hb.back (l := upL s.data.toList) (cap := cap) (by simp [upL]) (fun j hj => by
        have : j < s.size := by simpa [upL] using hj
        show (if j < K then _ else _) = _
        rw [if_pos (by omega), upL_at s j hj])
      clear hb
      go_wp2
      go_ret
      exact ⟨rfl, hBr⟩
end Go.Proofs.YtmhfioimgllgeaaGreatDoor
