/- Merged: Fol, Sum, Nm1. -/
import Derived.Test.YtmhfioimgllgeaaGreatDoorW39
import Derived.Test.YtmhfioimgllgeaaGreatDoorW32
namespace Go.Proofs.YtmhfioimgllgeaaGreatDoor
open Go Go.RowKit Go.Shelf
/-- A decimal and an error's number, as a value. -/
def toldV (p : Int × Int) (k : Int) : Vl := if k = 0 then numV p else if k = 11 then errV 2 else errV 6
theorem toldV_plain {p : Int × Int} {k : Int} (h : RightP p) : plainV (toldV p k) = true := by
  unfold toldV
  split
  · exact plain_num h
  · split <;> decide
theorem nearF_right (s : Bool) (D : Nat) (m : Bool) : ∀ (n : Nat) (e : Int), -9 ≤ e → e + n ≤ 10 → RightP (nearF s D m n e).1
  | 0, _, _, _ => right_nought
  | n + 1, e, h0, h1 => by
    rw [nearF]
    split
    · rename_i h; exact decOf_right s h h0 (by omega)
    · exact nearF_right s D m n (e + 1) (by omega) (by omega)
theorem addD_right (M E M' E' : Int) : RightP (addD M E M' E').1 := by
  unfold addD
  split
  · exact nearF_right _ _ _ 19 (-9) (by omega) (by omega)
  · exact right_nought
/-- The sum from the left, up to the first error. -/
def foldA : Int × Int → List (Int × Int) → (Int × Int) × Int
  | a, [] => (a, 0)
  | a, p :: l => if (addD a.1 a.2 p.1 p.2).2 = 0 then foldA (addD a.1 a.2 p.1 p.2).1 l else ((0, 0), (addD a.1 a.2 p.1 p.2).2)
theorem dsC_at : ∀ (l : List (Int × Int)) (k j : Nat) {p : Int × Int} {u : Value}, l[k]? = some p → (#[.int .i64 p.1, .int .i64 p.2] : Array Value)[j]? = some u → (dsC l)[k * 2 + j]? = some u
  | [], k, j, p, u, h, _ => by simp at h
  | q :: l, 0, j, p, u, h, hj => by
    have e : q = p := by simpa using h
    subst e
    have h3 : dsC (q :: l) = [.int .i64 q.1, .int .i64 q.2] ++ dsC l := rfl
    rw [h3, Nat.zero_mul, Nat.zero_add]
    match j, hj with
    | 0, hj => simpa using hj
    | 1, hj => simpa using hj
    | j + 2, hj => simp at hj
  | q :: l, k + 1, j, p, u, h, hj => by
    have h1 : l[k]? = some p := by simpa using h
    have h2 := dsC_at l k j h1 hj
    have h3 : dsC (q :: l) = .int .i64 q.1 :: .int .i64 q.2 :: dsC l := rfl
    have h4 : (k + 1) * 2 + j = (k * 2 + j) + 1 + 1 := by omega
    rw [h3, h4, List.getElem?_cons_succ, List.getElem?_cons_succ]
    exact h2
theorem dcr_cells {w : World} {base : Nat} {l : List (Int × Int)} {g n cap : Nat} (h : World.dcr w base (.slice (some ⟨g, 0, none⟩) n cap) l) {k : Nat} {p : Int × Int} (hx : l[k]? = some p) (j : Nat) (u : Value) (hj : (#[.int .i64 p.1, .int .i64 p.2] : Array Value)[j]? = some u) : w.cell? ⟨g, k * 2 + j, none⟩ = some u := by
  obtain ⟨hlen, h | ⟨g', cap', cur, e, hb, hc, hn, hm, hs, ht⟩⟩ := h
  · cases h.1
  · injection e with e1 e2 e3
    injection e1 with e1
    injection e1 with e1
    subst e1
    rw [cell_of_row w g _ _ _ _ hc]
    have := dsC_at l k j hx hj
    rw [← ht] at this
    have h2 := (List.getElem?_eq_some_iff.1 this).1
    rw [List.length_take] at h2
    rw [List.getElem?_take, if_pos (by omega)] at this
    simpa using this
theorem dcr_slice {w : World} {base : Nat} {v : Value} {l : List (Int × Int)} (h : World.dcr w base v l) : ∃ p c, v = .slice p l.length c ∧ (l ≠ [] → ∃ g, p = some ⟨g, 0, none⟩) := by
  obtain ⟨_, h | ⟨g, cap, cur, rfl, r⟩⟩ := h
  · exact ⟨none, 0, by rw [h.1, h.2], fun e => absurd (List.length_eq_zero_iff.1 h.2) e⟩
  · exact ⟨_, cap, rfl, fun _ => ⟨g, rfl⟩⟩
theorem dec_cells {w : World} {g : Nat} {M E : Int} (h : World.dec w g M E) : ∀ (j : Nat) (u : Value), (#[.int .i64 M, .int .i64 E] : Array Value)[j]? = some u → w.cell? ⟨g, 0 + j, none⟩ = some u := by
  intro j u hj
  match j, hj with
  | 0, hj => rw [← hj]; exact h.c0
  | 1, hj => rw [← hj]; exact h.c1
  | j + 2, hj => simp at hj
theorem enters44 : ∀ args w, (callFunc 44 args).run Tryz.prog w = .ok (.enter 44 args) w := enters_of Tryz.func44 (by kernel_rfl) rfl
theorem enters119 : ∀ args w, (callFunc 119 args).run Tryz.prog w = .ok (.enter 119 args) w := enters_of Tryz.func119 (by kernel_rfl) rfl
theorem enters31 : ∀ args w, (callFunc 31 args).run Tryz.prog w = .ok (.enter 31 args) w := enters_of Tryz.func31 (by kernel_rfl) rfl
section
variable {ops : Array Oper} {rest : List Oper} {o : Oper} {a : Act} {w : World} {Q : Exit → Act → World → Prop}
/-- A call of a function's value, by its contract. -/
theorem wpList_gv {x : Operand} {g : Nat} {xs : Array Operand} {ts : Array TypeId} {vs : Array Value} {v : Value} (hgd : o.guard = none) (ho : o.op = .call { callee := .value x, args := xs, argTypes := ts }) (hx : a.eval x = .func (.func g) #[] #[])
    (he : ∀ args w, (callFunc g args).run Tryz.prog w = .ok (.enter g args) w) (hvs : xs.map a.eval = vs) (hc : Calls Tryz.prog g vs w (fun e w' => e = .returned v ∧ Below w.heap.size w w'))
    (h : ∀ w', Below w.heap.size w w' → wpList Tryz.prog ops Q rest (a.put o.dst v) w') : wpList Tryz.prog ops Q (o :: rest) a w :=
  wpList_plain hgd fun K hK => by
    have h1 := he vs w
    unfold Oper.wp execOp
    simp [ho, resolve, invoke, Deferred.ofValue, hx, hvs, h1]
    rw [Oper.upon_enter]
    refine hc.mono ?_
    intro E w' hE
    obtain ⟨rfl, hb⟩ := hE
    exact hK _ _ (h w' hb)
theorem wpList_storeD {x y : Operand} {g : Nat} {M E M' E' : Int} (hgd : o.guard = none) (ho : o.op = .store 34 x y) (hx : a.eval x = .pointer (some ⟨g, 0, none⟩)) (hy : a.eval y = .agg #[.int .i64 M', .int .i64 E'])
    (hn : World.dec w g M E) (h : ∀ w1, World.dec w1 g M' E' → w.grownBy w1 (some g) → w1.heap.size = w.heap.size → wpList Tryz.prog ops Q rest (a.put o.dst undef) w1) : wpList Tryz.prog ops Q (o :: rest) a w :=
  wpList_store_row hgd 34 x y ho g _ hx hy 34 _ hn info34d rfl (by simp [Value.oneCell']) (h _ hn.setRow (setRow_grownBy _ _ _) (by simp))
end
set_option maxRecDepth 100000 in
set_option maxHeartbeats 2000000 in
theorem told_any (p : Int × Int) (k : Int) (w : World) : Calls Tryz.prog 129 #[.agg #[.int .i64 p.1, .int .i64 p.2], .int .i64 k] w (Gives (.agg (pcs (toldV p k))) w) := by
  obtain ⟨M, E⟩ := p
  have hB0 : Below w.heap.size w ((w.alloc (.cells #[.int .i64 M, .int .i64 E] 34)).alloc (.cells vz 39)) := ((Below.refl _ w).alloc (Nat.le_refl _) _).alloc (by simp) _
  have hv0 : World.vb ((w.alloc (.cells #[.int .i64 M, .int .i64 E] 34)).alloc (.cells vz 39)) (w.heap.size + 1) vz := World.vb_new' _ _ _ (by simp)
  have hz0 : ((w.alloc (.cells #[.int .i64 M, .int .i64 E] 34)).alloc (.cells vz 39)).heap.size = w.heap.size + 2 := by simp
  have hd0 : World.dec ((w.alloc (.cells #[.int .i64 M, .int .i64 E] 34)).alloc (.cells vz 39)) w.heap.size M E := (World.dec_new w M E _ rfl).alloc _
  have c0 := hd0.c0
  have c1 := hd0.c1
  by_cases hk : k = 0
  · have e : toldV (M, E) k = numV (M, E) := if_pos hk
    rw [e]
    subst hk
    go_enter Tryz.func129, Tryz.ntmps129
    go_wp2_with (first | refine wpList_alloc34 rfl rfl ?_ | refine wpList_loadDat rfl rfl rfl rfl (dec_cells hd0) ?_ | (refine wpList_gv (g := 119) rfl rfl rfl enters119 (by simp only [List.map_toArray, List.map_cons, List.map_nil]; rfl) (num_any M E _) ?_; intro w1 hB1; simp only [Act.put, List.setIfInBounds_toArray, List.set_cons_zero, List.set_cons_succ]; have hvy := hv0.below hB1 (by rw [hz0]; omega)) | (refine wpList_store34 rfl rfl rfl rfl hvy (by rfl) (pcs_one _) ?_; intro w9 hn9 hg9 hz9))
    have hB := hB0.trans (hB1.mono (by rw [hz0]; omega))
    refine bodyPost_ret (results_cell_row rfl _ _ _ 39 _ (0, 0) _ rfl hn9 Tryz.underlying39 rfl info34) rfl ?_
    exact ⟨rfl, hB.grown hg9 hB.size (fun k9 hk9 => by cases hk9; omega)⟩
  · by_cases hk2 : k = 11
    · have e : toldV (M, E) k = errV 2 := by rw [toldV, if_neg hk, if_pos hk2]
      rw [e]
      subst hk2
      go_enter Tryz.func129, Tryz.ntmps129
      go_wp2_with (first | refine wpList_alloc34 rfl rfl ?_ | refine wpList_loadDat rfl rfl rfl rfl (dec_cells hd0) ?_ | (refine wpList_gv (g := 44) rfl rfl rfl enters44 (by simp only [List.map_toArray, List.map_cons, List.map_nil]; rfl) (fault_any 2 _) ?_; intro w1 hB1; simp only [Act.put, List.setIfInBounds_toArray, List.set_cons_zero, List.set_cons_succ]; have hvy := hv0.below hB1 (by rw [hz0]; omega)) | (refine wpList_store34 rfl rfl rfl rfl hvy (by rfl) (pcs_one _) ?_; intro w9 hn9 hg9 hz9))
      have hB := hB0.trans (hB1.mono (by rw [hz0]; omega))
      refine bodyPost_ret (results_cell_row rfl _ _ _ 39 _ (0, 0) _ rfl hn9 Tryz.underlying39 rfl info34) rfl ?_
      exact ⟨rfl, hB.grown hg9 hB.size (fun k9 hk9 => by cases hk9; omega)⟩
    · have e : toldV (M, E) k = errV 6 := by rw [toldV, if_neg hk, if_neg hk2]
      rw [e]
      have hkn : ¬ (k = 0) := hk
      have hkm : ¬ (k = 11) := hk2
      go_enter Tryz.func129, Tryz.ntmps129
      go_wp2_with (first | refine wpList_alloc34 rfl rfl ?_ | refine wpList_loadDat rfl rfl rfl rfl (dec_cells hd0) ?_ | (refine wpList_gv (g := 44) rfl rfl rfl enters44 (by simp only [List.map_toArray, List.map_cons, List.map_nil]; rfl) (fault_any 6 _) ?_; intro w1 hB1; simp only [Act.put, List.setIfInBounds_toArray, List.set_cons_zero, List.set_cons_succ]; have hvy := hv0.below hB1 (by rw [hz0]; omega)) | (refine wpList_store34 rfl rfl rfl rfl hvy (by rfl) (pcs_one _) ?_; intro w9 hn9 hg9 hz9))
      have hB := hB0.trans (hB1.mono (by rw [hz0]; omega))
      refine bodyPost_ret (results_cell_row rfl _ _ _ 39 _ (0, 0) _ rfl hn9 Tryz.underlying39 rfl info34) rfl ?_
      exact ⟨rfl, hB.grown hg9 hB.size (fun k9 hk9 => by cases hk9; omega)⟩
set_option maxRecDepth 100000 in
set_option maxHeartbeats 8000000 in
theorem foldF_any (l : List (Int × Int)) (hl : ∀ p ∈ l, RightP p) (hn : l.length ≤ 20000) (base : Nat) (v : Value) (w : World) (hd : World.dcr w base v l) : Calls Tryz.prog 165 #[.agg #[.int .i64 0, .int .i64 0], v, .func (.func 31) #[] #[]] w (DecPost (foldA (0, 0) l) w) := by
  obtain ⟨p, c, rfl, hp⟩ := dcr_slice hd
  have HP := Lib.hid hp
  have HL := Lib.hid hl
  have HD := Lib.hid hd
  clear hp hl hd
  have e31 := enters31
  go_enter Tryz.func165, Tryz.ntmps165
  go_wp2_with fail
  have hB0 : Below w.heap.size w ((w.alloc (.cells #[.int .i64 0, .int .i64 0] 34)).alloc (.cells #[.int .i64 0, .int .i64 0] 34)) := ((Below.refl _ w).alloc (Nat.le_refl _) _).alloc (by simp) _
  have hd1 : World.dec ((w.alloc (.cells #[.int .i64 0, .int .i64 0] 34)).alloc (.cells #[.int .i64 0, .int .i64 0] 34)) w.heap.size 0 0 := (World.dec_new w 0 0 _ rfl).alloc _
  have hd2 : World.dec ((w.alloc (.cells #[.int .i64 0, .int .i64 0] 34)).alloc (.cells #[.int .i64 0, .int .i64 0] 34)) (w.heap.size + 1) 0 0 := World.dec_new _ 0 0 _ (by simp)
  go_loopw [14] (fun j wr => ∃ (J : Nat) (A : Int × Int), j = .int .i64 (J : Int) ∧ J ≤ l.length ∧ Hid (RightP A) ∧ Hid (foldA (0, 0) l = foldA A (l.drop J)) ∧ Hid (World.dec wr w.heap.size A.1 A.2) ∧ Hid (World.dec wr (w.heap.size + 1) 0 0) ∧ Below w.heap.size w wr) (fun j _ => l.length - (intOf j).toNat)
  case atStart => exact ⟨0, (0, 0), rfl, Nat.zero_le _, right_nought, rfl, hd1, hd2, hB0⟩
  case round =>
    clear hB0 hd1 hd2
    obtain ⟨J, ⟨M, E⟩, rfl, hJ, HRA, HFA, HA, HZ, hB⟩ := hrel
    simp only at HA
    by_cases hlt : J < l.length
    · have hJI : (J : Int) < (l.length : Int) := by omega
      obtain ⟨q, hqJ⟩ : ∃ q, l[J]? = some q := ⟨_, List.getElem?_eq_getElem hlt⟩
      have HRQ := Lib.hid (HL.out q (List.mem_of_getElem? hqJ))
      obtain ⟨g, rfl⟩ := HP.out (by intro e; rw [e] at hlt; simp at hlt)
      have hcq := dcr_cells (HD.out.below hB) hqJ
      have HDJ := Lib.hid (show l.drop J = q :: l.drop (J + 1) from by
        rw [List.drop_eq_getElem_cons hlt]
        have := (List.getElem?_eq_some_iff.1 hqJ).2
        rw [this])
      clear hqJ
      obtain ⟨qm, qe⟩ := q
      go_upto_region 4 with (first | refine wpList_loadDat rfl rfl rfl rfl hcq ?_ | (refine wpList_storeD rfl rfl rfl rfl (World.dec_new _ _ _ _ rfl) ?_; intro w1 hn1 hg1 hz1))
      have hb1 : Below wr.heap.size wr w1 := ((Below.refl _ wr).alloc (Nat.le_refl _) _).grown hg1 (by simp) (fun k hk => by cases hk; exact Nat.le_refl _)
      have ha1 := HA.out.below hb1 HA.out.lt
      have hz2 := HZ.out.below hb1 HZ.out.lt
      have hB1 := hB.trans (hb1.mono hB.size)
      have hlt1 := HZ.out.lt
      clear hg1 hcq HA HZ hB hb1
      have HCA := Lib.hid (fun W => add_any M E qm qe W (by have := HRA.out.1; simp only at this; omega) (by have := HRA.out.2.1; simp only at this; omega) (by have := HRQ.out.1; simp only at this; omega) (by have := HRQ.out.2.1; simp only at this; omega))
      obtain ⟨R, hR⟩ : ∃ R, R = addD M E qm qe := ⟨_, rfl⟩
      have HRR := Lib.hid (show RightP R.1 from by rw [hR]; exact addD_right _ _ _ _)
      have HFS := Lib.hid (show foldA (0, 0) l = if R.2 = 0 then foldA R.1 (l.drop (J + 1)) else ((0, 0), R.2) from by rw [hR, HFA.out, HDJ.out, foldA])
      rw [← hR] at HCA
      clear hR
      obtain ⟨⟨rm, re⟩, er⟩ := R
      by_cases her : er = 0
      · subst her
        have HFS2 := Lib.hid (HFS.out.trans (if_pos rfl))
        clear HFS
        go_wp2_with (first | refine wpList_loadDat rfl rfl rfl rfl (dec_cells ha1) ?_ | refine wpList_loadDat rfl rfl rfl rfl (dec_cells hn1) ?_ | refine wpList_loadDat rfl rfl rfl rfl (dec_cells hn3) ?_ | (refine wpList_gv (g := 31) rfl rfl rfl enters31 (by simp only [List.map_toArray, List.map_cons, List.map_nil]; rfl) (HCA.out _) ?_; intro w2 hB2; simp only [Act.put, List.setIfInBounds_toArray, List.set_cons_zero, List.set_cons_succ]; have ha2 := ha1.below hB2 ha1.lt; have hz2 := hz2.below hB2 hz2.lt; have hB1 := hB1.trans (hB2.mono hB1.size)) | (refine wpList_storeD rfl rfl rfl rfl (World.dec_new _ _ _ _ rfl) ?_; intro w3 hn3 hg3 hz3; have ha3 := (ha2.alloc _).grown hg3 (fun e => absurd (Option.some.inj e) (Nat.ne_of_lt ha2.lt)); have hz2 := (hz2.alloc _).grown hg3 (fun e => absurd (Option.some.inj e) (Nat.ne_of_lt hz2.lt)); have hB1 := (hB1.alloc hB1.size _).grown hg3 (by have := hB1.size; simp; omega) (fun k hk => by cases hk; exact hB1.size)) | (refine wpList_storeD rfl rfl rfl rfl ha3 ?_; intro w4 hn4 hg4 hz4))
        go_roundw
        case rel =>
          exact ⟨J + 1, (rm, re), by go_num, by omega, HRR.out, HFS2.out, hn4, hz2.grown hg4 (fun e => by have := Option.some.inj e; omega), hB1.grown hg4 hB1.size (fun k hk => by cases hk; exact Nat.le_refl _)⟩
        case measure => simp [intOf]; omega
      · have HFS2 := Lib.hid (HFS.out.trans (if_neg her))
        clear HFS
        have herb : ¬ (er = 0) := her
        go_wp2_with (first | refine wpList_loadDat rfl rfl rfl rfl (dec_cells ha1) ?_ | refine wpList_loadDat rfl rfl rfl rfl (dec_cells hn1) ?_ | refine wpList_loadDat rfl rfl rfl rfl (dec_cells hn3) ?_ | (refine wpList_gv (g := 31) rfl rfl rfl enters31 (by simp only [List.map_toArray, List.map_cons, List.map_nil]; rfl) (HCA.out _) ?_; intro w2 hB2; simp only [Act.put, List.setIfInBounds_toArray, List.set_cons_zero, List.set_cons_succ]; have ha2 := ha1.below hB2 ha1.lt; have hz2 := hz2.below hB2 hz2.lt; have hB1 := hB1.trans (hB2.mono hB1.size)) | (refine wpList_storeD rfl rfl rfl rfl (World.dec_new _ _ _ _ rfl) ?_; intro w3 hn3 hg3 hz3; have ha3 := (ha2.alloc _).grown hg3 (fun e => absurd (Option.some.inj e) (Nat.ne_of_lt ha2.lt)); have hz2 := (hz2.alloc _).grown hg3 (fun e => absurd (Option.some.inj e) (Nat.ne_of_lt hz2.lt)); have hB1 := (hB1.alloc hB1.size _).grown hg3 (by have := hB1.size; simp; omega) (fun k hk => by cases hk; exact hB1.size)) | (refine wpList_storeD rfl rfl rfl rfl hz2 ?_; intro w4 hn4 hg4 hz4))
        refine bodyPost_ret (results_dec_tmp rfl _ _ _ _ _ rfl hn4) rfl ?_
        refine ⟨?_, hB1.grown hg4 hB1.size (fun k hk => by cases hk; omega)⟩
        rw [HFS2.out]; rfl
    · obtain rfl : J = l.length := by omega
      have hJI : ¬ ((l.length : Int) < (l.length : Int)) := by omega
      have ha1 := HA.out
      have hz2 := HZ.out
      have HFS2 := Lib.hid (show foldA (0, 0) l = ((M, E), 0) from by rw [HFA.out, List.drop_length]; rfl)
      go_wp2_with (first | refine wpList_loadDat rfl rfl rfl rfl (dec_cells ha1) ?_ | (refine wpList_storeD rfl rfl rfl rfl hz2 ?_; intro w4 hn4 hg4 hz4))
      refine bodyPost_ret (results_dec_tmp rfl _ _ _ _ _ rfl hn4) rfl ?_
      refine ⟨?_, hB.grown hg4 hB.size (fun k hk => by cases hk; omega)⟩
      rw [HFS2.out]; rfl
end Go.Proofs.YtmhfioimgllgeaaGreatDoor
namespace Go.Proofs.YtmhfioimgllgeaaGreatDoor
open Go Go.RowKit Go.Shelf
/-- A function of decimals, as a contract. -/
def OnDecs (g : Nat) (f : List (Int × Int) → Vl) : Prop := ∀ (base : Nat) (v : Value) (l : List (Int × Int)) (W : World), (∀ p ∈ l, RightP p) → l.length ≤ 20000 → World.dcr W base v l → Calls Tryz.prog g #[v] W (Gives (.agg (pcs (f l))) W)
noncomputable def sumV (l : List (Int × Int)) : Vl := toldV (foldA (0, 0) l).1 (foldA (0, 0) l).2
theorem enters164 : ∀ args w, (callFunc 164 args).run Tryz.prog w = .ok (.enter 164 args) w := enters_of Tryz.func164 (by kernel_rfl) rfl
set_option maxRecDepth 100000 in
set_option maxHeartbeats 4000000 in
theorem sum_any : OnDecs 164 sumV := by
  intro base v l w hl hn hd
  have hB0 : Below w.heap.size w (w.alloc (.cells vz 39)) := (Below.refl _ w).alloc (Nat.le_refl _) _
  have hv0 : World.vb (w.alloc (.cells vz 39)) w.heap.size vz := World.vb_new w vz
  have HF := Lib.hid (foldF_any l hl hn base v (w.alloc (.cells vz 39)) (hd.below hB0))
  have HT := Lib.hid (fun W => told_any (foldA (0, 0) l).1 (foldA (0, 0) l).2 W)
  obtain ⟨R, hR⟩ : ∃ R, R = foldA (0, 0) l := ⟨_, rfl⟩
  unfold sumV
  rw [← hR] at HF HT ⊢
  obtain ⟨⟨M, E⟩, er⟩ := R
  clear hl hn hd hR
  go_enter Tryz.func164, Tryz.ntmps164
  go_wp2_with (first | refine wpList_alloc34 rfl rfl ?_ | (go_at_call 165; refine HF.out.mono ?_; rintro e w1 ⟨rfl, hB1⟩; have hB := hB0.trans (hB1.mono hB0.size); have hvy := hv0.below hB1 hv0.lt) | (go_at_call 129; refine (HT.out _).mono ?_; rintro e w2 ⟨rfl, hB2⟩; have hB := hB.trans (hB2.mono hB.size); have hvy := hvy.below hB2 hvy.lt) | (refine wpList_store34 rfl rfl rfl rfl hvy (by rfl) (pcs_one _) ?_; intro w9 hn9 hg9 hz9))
  refine bodyPost_ret (results_cell_row rfl _ _ _ 39 _ (0, 0) _ rfl hn9 Tryz.underlying39 rfl info34) rfl ?_
  exact ⟨rfl, hB.grown hg9 hB.size (fun k9 hk9 => by cases hk9; omega)⟩
/-- What is made of all numbers, or the first error. -/
noncomputable def gathV (f : List (Int × Int) → Vl) (xs : List Vl) : Vl := match (numY xs).find? isF with
  | some y => y
  | none => f (decsOf (numY xs))
theorem decs_right {xs : List Vl} (h : ∀ x ∈ xs, ArrP x) : ∀ p ∈ decsOf (numY xs), RightP p := by
  intro p hp
  unfold decsOf at hp
  obtain ⟨y, hy, e⟩ := List.mem_filterMap.1 hp
  split at e
  · rename_i hk
    injection e with e
    subst e
    rcases plain_cases (numY_plain h y hy) with e | ⟨p, e, hr⟩ | ⟨s, e, _⟩ | ⟨b, e⟩ | ⟨n, e, _⟩
    · rw [e] at hk; exact absurd hk (by decide)
    · rw [e]; exact hr
    · rw [e] at hk; simp [txtV] at hk
    · rw [e] at hk; simp [trV] at hk
    · rw [e] at hk; simp [errV] at hk
  · cases e
theorem decs_len {xs : List Vl} (h : ∀ x ∈ xs, ArrP x) (hn : xs.length ≤ 25) : (decsOf (numY xs)).length ≤ 20000 := by
  refine Nat.le_trans (decsOf_len _) ?_
  have h1 := flatV_len (xs := xs.map tnV) (fun q hq => by obtain ⟨q', hq', rfl⟩ := List.mem_map.1 hq; exact tnV_arr (h q' hq'))
  rw [List.length_map] at h1
  show (flatV _).length ≤ _
  omega
set_option maxRecDepth 100000 in
set_option maxHeartbeats 8000000 in
theorem gathered_any (gd : Nat) (eg : ∀ args w, (callFunc gd args).run Tryz.prog w = .ok (.enter gd args) w) (f : List (Int × Int) → Vl) (hg : OnDecs gd f) (xs : List Vl) (L u : Value) (w : World) (hA : ArgsAt w L xs) (hn : xs.length ≤ 25) (hE : Env w) (hb : Bx w u (.func (.func gd) #[] #[])) :
    Calls Tryz.prog 253 #[L, u] w (Gives (.agg (pcs (gathV f xs))) w) := by
  obtain ⟨b, t, rfl, hbx⟩ := hb
  have hB0 : Below w.heap.size w (w.alloc (.cells vz 39)) := (Below.refl _ w).alloc (Nat.le_refl _) _
  have hv0 : World.vb (w.alloc (.cells vz 39)) w.heap.size vz := World.vb_new w vz
  have hbl := hbx.lt
  have HN := Lib.hid (numbers_any xs L _ (hA.below hB0) hn (hE.below hB0))
  have HR := Lib.hid (decs_right hA.2)
  have HL := Lib.hid (decs_len hA.2 hn)
  have HG := Lib.hid hg
  obtain ⟨p, c, rfl, _⟩ := id hA.1
  clear hA hn hE hg
  go_enter Tryz.func253, Tryz.ntmps253
  go_wp2_with (refine wpList_alloc34 rfl rfl ?_)
  refine HN.out.mono ?_
  rintro e w1 ⟨v, y, rfl, hB1, hr⟩
  have hB := hB0.trans (hB1.mono hB0.size)
  have hvy := hv0.below hB1 hv0.lt
  have hbx1 := hbx.below hB hbl
  have hvl := hvy.lt
  clear HN hB0 hB1 hv0 hbx
  rcases hr with ⟨hf, rfl⟩ | ⟨hf, rfl, hd⟩
  · have e1 : gathV f xs = y := by unfold gathV; rw [hf]
    have hyk : (y.k == 4) = true := by
      have h := List.find?_some hf
      exact h
    have HE := Lib.hid e1
    have HI := Lib.hid (fun W => isfault_any y (pcs y) W rfl (pcs_one y))
    rw [hyk] at HI
    clear hyk e1 hf HR HL HG
    go_wp2_with (first | refine wpList_alloc34 rfl rfl ?_ | (refine wpList_store34 rfl rfl rfl rfl (World.vb_new' _ _ _ rfl) (by rfl) (pcs_one _) ?_; intro w2 hn2 hg2 hz2; have hb2 : Below w1.heap.size w1 w2 := ((Below.refl _ w1).alloc (Nat.le_refl _) (.cells vz 39)).grown hg2 (by simp) (fun k hk => by cases hk; exact Nat.le_refl _); have hvy := hvy.below hb2 hvy.lt; have hB := hB.trans (hb2.mono hB.size)) | refine wpList_load34 rfl rfl rfl hn2 (by rfl) ?_ | (go_at_call 144; refine (HI.out _).mono ?_; rintro e w3 ⟨rfl, hB3⟩; have hn2 := hn2.below hB3 hn2.lt; have hvy := hvy.below hB3 hvy.lt; have hB := hB.trans (hB3.mono hB.size)) | (refine wpList_store34 rfl rfl rfl rfl hvy (by rfl) (pcs_one _) ?_; intro w9 hn9 hg9 hz9))
    refine bodyPost_ret (results_cell_row rfl _ _ _ 39 _ (0, 0) _ rfl hn9 Tryz.underlying39 rfl info34) rfl ?_
    exact ⟨by rw [HE.out], hB.grown hg9 hB.size (fun k9 hk9 => by cases hk9; omega)⟩
  · have e1 : gathV f xs = f (decsOf (numY xs)) := by unfold gathV; rw [hf]
    have HE := Lib.hid e1
    have HI := Lib.hid (fun W => isfault_any {} (pcs {}) W rfl (pcs_one {}))
    have hyk : ((({} : Vl).k) == 4) = false := rfl
    rw [hyk] at HI
    obtain ⟨D, hD⟩ : ∃ D, D = decsOf (numY xs) := ⟨_, rfl⟩
    rw [← hD] at hd HR HL HE
    clear hyk e1 hf hD
    go_wp2_with (first | refine wpList_alloc34 rfl rfl ?_ | (refine wpList_store34 rfl rfl rfl rfl (World.vb_new' _ _ _ rfl) (by rfl) (pcs_one _) ?_; intro w2 hn2 hg2 hz2; have hb2 : Below w1.heap.size w1 w2 := ((Below.refl _ w1).alloc (Nat.le_refl _) (.cells vz 39)).grown hg2 (by simp) (fun k hk => by cases hk; exact Nat.le_refl _); have hvy := hvy.below hb2 hvy.lt; have hd := hd.below hb2; have hbx1 := hbx1.below hb2 hbx1.lt; have hB := hB.trans (hb2.mono hB.size)) | refine wpList_load34 rfl rfl rfl hn2 (by rfl) ?_ | (go_at_call 144; refine (HI.out _).mono ?_; rintro e w3 ⟨rfl, hB3⟩; have hn2 := hn2.below hB3 hn2.lt; have hvy := hvy.below hB3 hvy.lt; have hd := hd.below hB3; have hbx1 := hbx1.below hB3 hbx1.lt; have hc := hbx1.cell (j := 0) rfl; have hB := hB.trans (hB3.mono hB.size)) | (go_at_fn gd; refine (HG.out _ _ _ _ HR.out HL.out hd).mono ?_; rintro e w4 ⟨rfl, hB4⟩; have hvy := hvy.below hB4 hvy.lt; have hB := hB.trans (hB4.mono hB.size)) | (refine wpList_store34 rfl rfl rfl rfl hvy (by rfl) (pcs_one _) ?_; intro w9 hn9 hg9 hz9))
    refine bodyPost_ret (results_cell_row rfl _ _ _ 39 _ (0, 0) _ rfl hn9 Tryz.underlying39 rfl info34) rfl ?_
    exact ⟨by rw [HE.out], hB.grown hg9 hB.size (fun k9 hk9 => by cases hk9; omega)⟩
end Go.Proofs.YtmhfioimgllgeaaGreatDoor
namespace Go.Proofs.YtmhfioimgllgeaaGreatDoor
open Go Go.RowKit Go.Shelf
abbrev dcs (z : Vl) : Int × Int := (z.m, z.e)
set_option maxRecDepth 100000 in
set_option maxHeartbeats 8000000 in
theorem nums1_any (gd : Nat) (eg : ∀ args w, (callFunc gd args).run Tryz.prog w = .ok (.enter gd args) w) (y : Vl) (zs : List Vl) (hg : ∀ base v W, base ≤ W.heap.size → World.dcr W base v (zs.map dcs) → Calls Tryz.prog gd #[v] W (fun e w' => e = .returned (.agg (pcs y)) ∧ Below base W w')) (base g cap : Nat) (u : Value) (w : World) (hr : World.vr w base (.slice (some ⟨g, 0, none⟩) zs.length cap) zs) (_hgl : g < w.heap.size) (hn : zs.length ≤ 100) (hb : Bx w u (.func (.func gd) #[] #[])) :
    Calls Tryz.prog 236 #[.slice (some ⟨g, 0, none⟩) zs.length cap, u] w (Gives (.agg (pcs y)) w) := by
  obtain ⟨b, t, rfl, hbx⟩ := hb
  have hbl := hbx.lt
  have HVR := Lib.hid (show ∀ W, Below w.heap.size w W → World.vr W base (.slice (some ⟨g, 0, none⟩) zs.length cap) zs from fun W hW => World.vr.below hr hW)
  have HBX := Lib.hid (show ∀ W, Below w.heap.size w W → World.blk W b t #[.func (.func gd) #[] #[]] from fun W hW => hbx.below hW hbl)
  have HG := Lib.hid hg
  clear hr hbx hg
  go_enter Tryz.func236, Tryz.ntmps236
  go_wp2_with (refine wpList_alloc34 rfl rfl ?_)
  have hvy0 : World.vb (w.alloc (.cells vz 39)) w.heap.size vz := World.vb_new w vz
  have hB0 : Below w.heap.size w (w.alloc (.cells vz 39)) := (Below.refl _ w).alloc (Nat.le_refl _) _
  go_loopw [4, 9] (fun s i wr => ∃ K : Nat, i = .int .i64 (K : Int) ∧ K ≤ zs.length ∧ Hid (World.dcr wr (w.heap.size + 1) s ((zs.take K).map dcs)) ∧ Hid (World.vb wr w.heap.size vz) ∧ Below w.heap.size w wr) (fun _ i _ => zs.length - (intOf i).toNat)
  case atStart => exact ⟨0, rfl, Nat.zero_le _, dcr_nil _ _, hvy0, hB0⟩
  case round =>
    clear hvy0 hB0
    obtain ⟨K, rfl, hK, HR, HV, hB⟩ := hrel
    by_cases hlt : K < zs.length
    · have hKI : (K : Int) < (zs.length : Int) := by omega
      obtain ⟨z, hzK⟩ : ∃ z, zs[K]? = some z := ⟨_, List.getElem?_eq_getElem hlt⟩
      have hcz := vr_cells (HVR.out wr hB) hzK
      have HTK := Lib.hid (show (zs.take (K + 1)).map dcs = (zs.take K).map dcs ++ [(z.m, z.e)] by rw [List.take_add_one, hzK, List.map_append]; rfl)
      have hlen : ((zs.take K).map dcs).length ≤ 20000 := by rw [List.length_map, List.length_take]; omega
      have HLN := Lib.hid hlen
      clear hzK hlen
      go_upto_region 5 with (first | refine wpList_load34at rfl rfl rfl rfl hcz ?_ | refine wpList_alloc34 rfl rfl ?_ | (refine wpList_store34 rfl rfl rfl rfl (World.vb_new' _ _ _ rfl) (by rfl) (pcs_one _) ?_; intro w1 hn1 hg1 hz1))
      have hb1 : Below wr.heap.size wr w1 := ((Below.refl _ wr).alloc (Nat.le_refl _) (.cells vz 39)).grown hg1 (by simp) (fun k hk => by cases hk; exact Nat.le_refl _)
      have hdi := dec_in hn1
      have HR1 := Lib.hid (HR.out.below hb1)
      have HV1 := Lib.hid (HV.out.below hb1 HV.out.lt)
      have hB1 := hB.trans (hb1.mono hB.size)
      have hB1z := hB1.size
      have HR8 := Lib.hid (show World.dcr (w1.alloc (.cells #[.int .i64 z.m, .int .i64 z.e] 34)) (w.heap.size + 1) _ _ from HR1.out.below ((Below.refl _ w1).alloc (Nat.le_refl _) _))
      clear hcz hg1 hz1 hb1 hn1
      go_wp2_with (first | refine wpList_loadDat rfl rfl rfl rfl hdi ?_ | refine wpList_bslD rfl rfl rfl ?_ | (refine wpList_pushD rfl rfl HR8.out HLN.out rfl rfl (World.dec_new w1 _ _ _ rfl) (by have := HV1.out.lt; simp; omega) ?_; intro v8 w8 hr8 hg8))
      have hvb8 := HV1.out.below (Below.refl _ _ |>.alloc (Nat.le_refl _) (.cells #[.int .i64 z.m, .int .i64 z.e] 34)) HV1.out.lt
      have hB8 := hB1.trans (((Below.refl _ w1).alloc (Nat.le_refl _) (.cells #[.int .i64 z.m, .int .i64 z.e] 34)).mono hB1z)
      go_roundw
      case rel => exact ⟨K + 1, by go_num, by omega, by rw [HTK.out]; exact hr8, vb_dec HR8.out hvb8 (Nat.lt_succ_self _) hg8, dcr_grown HR8.out (Nat.le_succ _) hB8 hB8.size hg8⟩
      case measure => simp [intOf]; omega
    · obtain rfl : K = zs.length := by omega
      have hKI : ¬ ((zs.length : Int) < (zs.length : Int)) := by omega
      have hvy := HV.out
      have hc := (HBX.out wr hB).cell (j := 0) rfl
      have hd := HR.out
      have HBZ : Hid (w.heap.size + 1 ≤ wr.heap.size) := Lib.hid hvy.lt
      rw [List.take_length] at hd
      obtain ⟨D, hD⟩ : ∃ D, D = zs.map dcs := ⟨_, rfl⟩
      rw [← hD] at hd HG
      have HDD := Lib.hid hd
      clear hD hd HR HV
      go_wp2_with (first | (go_at_fn gd; refine (HG.out _ _ _ HBZ.out HDD.out).mono ?_; rintro e w4 ⟨rfl, hB4⟩; have hvy := hvy.below hB4 (Nat.lt_succ_self _); have hB := hB.trans (hB4.mono (Nat.le_succ _))) | (refine wpList_store34 rfl rfl rfl rfl hvy (by rfl) (pcs_one _) ?_; intro w9 hn9 hg9 hz9))
      refine bodyPost_ret (results_cell_row rfl _ _ _ 39 _ (0, 0) _ rfl hn9 Tryz.underlying39 rfl info34) rfl ?_
      exact ⟨rfl, hB.grown hg9 hB.size (fun k9 hk9 => by cases hk9; omega)⟩
end Go.Proofs.YtmhfioimgllgeaaGreatDoor
