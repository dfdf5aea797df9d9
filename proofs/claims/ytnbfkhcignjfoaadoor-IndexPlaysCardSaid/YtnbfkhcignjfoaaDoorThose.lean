/- Those near an area whose areas are what is asked for: rising. (By genThose.py.) -/
import Derived.Test.YtnbfkhcignjfoaaDoorNear
import Derived.Maps.OwnIn
import Derived.Maps.AppendAt
namespace Go.Proofs.YtnbfkhcignjfoaaDoor
open Go Go.RowKit Go.Maps Go.Shelf
attribute [local go_sem] Oper.semAt_some

theorem near_any (v : Value) (s r c n m : Int) (w : World) (p : Option Addr) (hv : v = .pointer p) :
    Calls Tryd.prog 39 #[v, areaV s r c n m] w fun e w' => e = .returned (.func (.func 44) #[] #[.pointer (some ⟨w.heap.size + 1, 0, none⟩), .pointer (some ⟨w.heap.size, 0, none⟩)]) ∧
      w' = (w.alloc (.cells #[v] 24)).alloc (.cells #[.int .i64 s, .int .i64 r, .int .i64 c, .int .i64 n, .int .i64 m] 31) := by
  subst hv
  go_enter Tryd.func39, Tryd.ntmps39
  go_wp2
  go_ret
  exact ⟨rfl, rfl⟩
/-- The contract of what is asked for. -/
def IsAt (k : Nat) (bc : Nat) (q : Ar → Bool) (w : World) : Prop := ∀ (W : World) (a : Ar), Below w.heap.size w W → Calls Tryd.prog k #[a.v, .pointer (some ⟨bc, 0, none⟩)] W fun e W' => e = .returned (.bool (q a)) ∧ Below W.heap.size W W'
def hl (q : Ar → Bool) (pre : Ids) : List Int := (pre.filter fun p => q p.2).map Prod.fst
theorem hl_hit (q : Ar → Bool) (pre : Ids) {x : Int × Ar} (h : q x.2 = true) : hl q (pre ++ [x]) = hl q pre ++ [x.1] := by simp [hl, h]
theorem hl_miss (q : Ar → Bool) (pre : Ids) {x : Int × Ar} (h : q x.2 = false) : hl q (pre ++ [x]) = hl q pre := by simp [hl, h]
theorem hl_len (q : Ar → Bool) (pre : Ids) : (hl q pre).length ≤ pre.length := by
  unfold hl
  rw [List.length_map]
  exact List.length_filter_le _ _
/-- Rising, and just those asked for near M rows of a sheet. -/
structure Rises (L : Ids) (s r : Int) (M : Nat) (q : Ar → Bool) (zs : List Int) : Prop where
  up : zs.Pairwise (· < ·)
  mem : ∀ x, x ∈ zs ↔ ∃ a, (x, a) ∈ L ∧ (∃ k : Nat, k < M ∧ a.on s (r + k) = true) ∧ q a = true
theorem rises_of {L : Ids} {s r : Int} {M : Nat} {q : Ar → Bool} {ys : Ids} (h : Come L s r M 0 ys) : Rises L s r M q ((hl q ys).mergeSort fun x y => decide (x ≤ y)) := by
  have hp := List.mergeSort_perm (hl q ys) (fun x y => decide (x ≤ y))
  have hn : (hl q ys).Nodup := by
    unfold hl
    exact h.nodup.sublist (List.filter_sublist.map _)
  have hn2 := hp.nodup_iff.2 hn
  have hs := List.pairwise_mergeSort (le := fun x y : Int => decide (x ≤ y)) (fun a b c h1 h2 => by simp at h1 h2 ⊢; omega) (fun a b => by simp; omega) (hl q ys)
  refine ⟨?_, fun x => ?_⟩
  · have := hs.and hn2
    refine this.imp ?_
    rintro a b ⟨h1, h2⟩
    simp at h1
    omega
  · rw [hp.mem_iff]
    unfold hl
    rw [List.mem_map]
    constructor
    · rintro ⟨p, hp, rfl⟩
      rw [List.mem_filter] at hp
      obtain ⟨h1, h2⟩ := (h.mem p).1 hp.1
      refine ⟨p.2, h1, ?_, hp.2⟩
      rcases h2 with h2 | h2
      · exact h2
      · simp at h2
    · rintro ⟨a, h1, h2, h3⟩
      exact ⟨(x, a), List.mem_filter.2 ⟨(h.mem _).2 ⟨h1, .inl h2⟩, h3⟩, rfl⟩
theorem near_stops (ba bx Bo B bi N ma mb c : Nat) (L : Ids) (T1 : Nat → Prop) (f g : Value → Option Value) (s r cc m : Int) (M : Nat) (w : World)
    (hI : IxAt w B bi L N T1 ma mb f c g) (har : World.area w ba s r cc M m) (hbx : w.cell? ⟨bx, 0, none⟩ = some (.pointer (some ⟨bi, 0, none⟩)))
    (hBo : w.cell? ⟨Bo, 0, none⟩ = some nilS) (hfar : ∀ k, (T1 k ∨ k = mb ∨ k = bi ∨ k = ba ∨ k = bx) → k ≠ Bo)
    (hs : i64R s) (hr : i64R r) (hn : M ≤ 200) (hr1 : r + M ≤ 9223372036854775808) (hN : N ≤ 100000) :
    SeqStopsK Fence.wide (4 - 1) Tryd.prog 44 #[.pointer (some ⟨ba, 0, none⟩), .pointer (some ⟨bx, 0, none⟩)] (fun x : Int × Ar => #[.int .i64 x.1, x.2.v]) (KpB Bo) (fun ys => Come L s r M 0 ys) (fun _ => True) L.length w := fun l J Jx W hW hJ hJx hY h0 => by
  have h1 : bx < w.heap.size := w.block_lt_of_cell? _ hbx
  have h2 : Bo < w.heap.size := w.block_lt_of_cell? _ hBo
  exact near1_in l ba bx Bo B bi N ma mb c L T1 f g s r cc m M J Jx W hY hJ hJx h0 (hI.below hW (Nat.le_refl _)) (har.below hW har.lt) ((hW.cell (p := ⟨bx, 0, none⟩) h1).trans hbx) ((hW.cell (p := ⟨Bo, 0, none⟩) h2).trans hBo) hfar hs hr hn hr1 hN
/-- What the append and the store of the box keep. -/
theorem kp_appended {W w1 : World} {Bo : Nat} {v v' : Value} {tmp : Obj} (hv : Boxed W Bo 40 v) (hgrow : (W.alloc tmp).grownBy w1 v.ownBlock) (hat : v'.ownBlock = v.ownBlock ∨ v'.ownBlock = some (W.alloc tmp).heap.size) (hv2 : Boxed (w1.setCell ⟨Bo, 0, none⟩ v') Bo 40 v') : KpB Bo W (w1.setCell ⟨Bo, 0, none⟩ v') := by
  have hrow : rowOf W Bo = v.ownBlock := by unfold rowOf; rw [hv.cell]; rfl
  have hrow2 : rowOf (w1.setCell ⟨Bo, 0, none⟩ v') Bo = v'.ownBlock := by unfold rowOf; rw [hv2.cell]; rfl
  have hs := hgrow.size
  have hs0 : (W.alloc tmp).heap.size = W.heap.size + 1 := by simp
  have hsc := (grownBy_setCell' w1 Bo v').size
  refine ⟨by omega, fun k o hk _ hkB _ hr => ?_, ?_⟩
  · have hlt := (Array.getElem?_eq_some_iff.1 hk).1
    rw [(grownBy_setCell' w1 Bo v').block k (by omega) (by simpa using hkB), hgrow.block k (by omega) (by rw [← hrow]; exact fun e => hr e.symm), Below.heap_alloc _ _ _ hlt]
    exact hk
  · rw [hrow, hrow2]
    rcases hat with e | e
    · exact .inl e
    · exact .inr ⟨_, e, by omega⟩
set_option maxRecDepth 100000 in
set_option maxHeartbeats 4000000 in
theorem those30_any (bc B bi N : Nat) (L : Ids) (T : Nat → Prop) (s r cc m : Int) (M : Nat) (q : Ar → Bool) (w : World)
    (hI : Ix w B bi L N T) (_hbc : bc < w.heap.size) (hq : IsAt 30 bc q w) (hs : i64R s) (hr : i64R r) (hn : M ≤ 200) (hr1 : r + M ≤ 9223372036854775808) (hN : N ≤ 100000) :
    Calls Tryd.prog 29 #[.pointer (some ⟨bi, 0, none⟩), areaV s r cc M m, .func (.func 30) #[] #[.pointer (some ⟨bc, 0, none⟩)]] w fun e w' =>
      ∃ v zs, e = .returned v ∧ Rises L s r M q zs ∧ zs.length ≤ 100000 ∧ w'.ownsRow w.heap.size 3 1 v zs.length (ints zs) ∧ Below w.heap.size w w' := by
  obtain ⟨T1, ma, mb, f, c, g, hI, rfl⟩ := hI
  obtain ⟨i0, hi, hz0, hz1, hz2⟩ := info_parts info3
  have hlL : L.length ≤ 100000 := by have := hI.len; omega
  refine (callsIn_wide (n := 4)).1 ?_
  refine callsIn_of_wp_marks Tryd.func29 rfl trivial ?_ rfl
  simp only [Tryd.ntmps29, List.size_toArray, List.length_cons, List.length_nil, Nat.reduceAdd, Nat.reduceSub, Array.replicate_succ, Array.replicate_zero, List.push_toArray, List.append_toArray, List.nil_append, List.cons_append]
  gi_wp2_with (refine ⟨trivial, ?_⟩; gi_at_call 39; refine (callsIn_wide.2 (near_any _ s r cc M m _ _ rfl)).mono ?_; rintro e w1 ⟨rfl, rfl⟩)
  obtain ⟨W0, hW0⟩ : ∃ W0, W0 = ((((w.alloc (.cells #[.int .i64 s, .int .i64 r, .int .i64 cc, .int .i64 M, .int .i64 m] 31)).alloc (.cells #[.func (.func 30) #[] #[.pointer (some ⟨bc, 0, none⟩)]] 48)).alloc (.cells #[.slice none 0 0] 40)).alloc (.cells #[.pointer (some ⟨bi, 0, none⟩)] 24)).alloc (.cells #[.int .i64 s, .int .i64 r, .int .i64 cc, .int .i64 M, .int .i64 m] 31) := ⟨_, rfl⟩
  rw [← hW0]
  have hsz0 : W0.heap.size = w.heap.size + 5 := by rw [hW0]; simp
  have hB0 : Below w.heap.size w W0 := by rw [hW0]; exact (((((Below.refl _ w).alloc (Nat.le_refl _) _).alloc (by simp) _).alloc (by simp; omega) _).alloc (by simp; omega) _).alloc (by simp; omega) _
  have bF : Boxed W0 (w.heap.size + 1) 48 (.func (.func 30) #[] #[.pointer (some ⟨bc, 0, none⟩)]) := by
    rw [hW0]
    have := Boxed.new (w.alloc (.cells #[.int .i64 s, .int .i64 r, .int .i64 cc, .int .i64 M, .int .i64 m] 31)) 48 (.func (.func 30) #[] #[.pointer (some ⟨bc, 0, none⟩)])
    rw [World.size_alloc] at this
    exact ((this.alloc _).alloc _).alloc _
  have bO : Boxed W0 (w.heap.size + 2) 40 nilS := by
    rw [hW0]
    have := Boxed.new ((w.alloc (.cells #[.int .i64 s, .int .i64 r, .int .i64 cc, .int .i64 M, .int .i64 m] 31)).alloc (.cells #[.func (.func 30) #[] #[.pointer (some ⟨bc, 0, none⟩)]] 48)) 40 nilS
    rw [World.size_alloc, World.size_alloc] at this
    exact (this.alloc _).alloc _
  have bX : Boxed W0 (w.heap.size + 3) 24 (.pointer (some ⟨bi, 0, none⟩)) := by
    rw [hW0]
    have := Boxed.new (((w.alloc (.cells #[.int .i64 s, .int .i64 r, .int .i64 cc, .int .i64 M, .int .i64 m] 31)).alloc (.cells #[.func (.func 30) #[] #[.pointer (some ⟨bc, 0, none⟩)]] 48)).alloc (.cells #[.slice none 0 0] 40)) 24 (.pointer (some ⟨bi, 0, none⟩))
    rw [World.size_alloc, World.size_alloc, World.size_alloc] at this
    exact this.alloc _
  have bA : World.area W0 (w.heap.size + 4) s r cc M m := by
    rw [hW0]
    have := World.area_new ((((w.alloc (.cells #[.int .i64 s, .int .i64 r, .int .i64 cc, .int .i64 M, .int .i64 m] 31)).alloc (.cells #[.func (.func 30) #[] #[.pointer (some ⟨bc, 0, none⟩)]] 48)).alloc (.cells #[.slice none 0 0] 40)).alloc (.cells #[.pointer (some ⟨bi, 0, none⟩)] 24)) s r cc M m
    rw [World.size_alloc, World.size_alloc, World.size_alloc, World.size_alloc] at this
    exact this
  clear hW0
  have hIlt := hI.lt
  refine wpIn_rangeFunc_ownH (n := 4) rfl (by omega) (gf := 44) (lb := #[.pointer (some ⟨w.heap.size + 4, 0, none⟩), .pointer (some ⟨w.heap.size + 3, 0, none⟩)]) rfl trivial (enters_of Tryd.func44 (by kernel_rfl) rfl)
    (near_stops (w.heap.size + 4) (w.heap.size + 3) (w.heap.size + 2) B bi N ma mb c L T1 f g s r cc m M W0 (hI.below hB0 (Nat.le_refl _)) bA bX.cell bO.cell
      (fun k hk => by
        rcases hk with hk | hk | hk | hk | hk
        · have := (hIlt k (.inl hk)).2; omega
        · have := (hIlt k (.inr (.inl hk))).2; omega
        · have := (hIlt k (.inr (.inr hk))).2; omega
        · omega
        · omega) hs hr hn hr1 hN) KpX.trans (kpB_b (by omega)) (Below.refl _ _) (fun _ => rfl)
    (fun pre W => ((∃ v, Boxed W (w.heap.size + 2) 40 v ∧ W.ownsRow w.heap.size 3 1 v (hl q pre).length (ints (hl q pre)) ∧ True) ∧ Boxed W (w.heap.size + 1) 48 (.func (.func 30) #[] #[.pointer (some ⟨bc, 0, none⟩)])) ∧ Below w.heap.size w W)
    (fun _ _ _ => False)
    (OwnFrom.and (OwnFrom.and (Own.from (holdsRow_own w.heap.size (w.heap.size + 2) 40 3 1 (fun pre => (hl q pre).length) (fun pre => ints (hl q pre)) (fun _ _ => True)) _) (Own.from (boxed_own _ _ _) _)) (ownFrom_below (Nat.le_refl _) (by omega)))
    (fun _ _ _ _ _ hs _ _ => hs)
    ⟨⟨⟨_, bO, World.ownsRow_nil _ _ _ _, trivial⟩, bF⟩, hB0⟩
    (fun x a' W => ∃ Bx, w.heap.size + 2 < Bx ∧ World.area W Bx x.2.s x.2.r x.2.c x.2.n x.2.m ∧ a' = { tmps := #[.pointer (some ⟨bi, 0, none⟩), areaV s r cc M m, .func (.func 30) #[] #[.pointer (some ⟨bc, 0, none⟩)], undef, .pointer (some ⟨w.heap.size, 0, none⟩), .pointer (some ⟨w.heap.size + 1, 0, none⟩), .slice none 0 0, .pointer (some ⟨w.heap.size + 2, 0, none⟩), .int .i64 x.1, .pointer (some ⟨Bx, 0, none⟩), .pointer (some ⟨bi, 0, none⟩), areaV s r cc M m, .func (.func 44) #[] #[.pointer (some ⟨w.heap.size + 4, 0, none⟩), .pointer (some ⟨w.heap.size + 3, 0, none⟩)], .int .i64 x.1, x.2.v, undef, undef, undef, undef, undef, undef, undef, undef, undef, undef], defers := [] })
    (fun x a' _ X Y row hs hg hr => by
      obtain ⟨Bx, h1, h2, h3⟩ := hs
      refine ⟨Bx, h1, h2.kept hg (fun e => ?_), h3⟩
      obtain ⟨_, o, ho, hc⟩ := hr Bx e.symm
      rw [show X.heap[Bx]? = _ from h2] at ho
      cases ho
      cases hc)
    ?assign ?body ?done ?stop
  case assign =>
    rintro l pre x W K ⟨⟨⟨v, hv, hrow, _⟩, bF1⟩, hB1⟩ hK
    gi_wp2
    have hvl := hv.lt
    have hsW := hB1.size
    exact hK _ _ ((KeepsOthers.alloc _ _).from _) (KpX.below ((Below.refl _ W).alloc (Nat.le_refl _) _) (Nat.le_refl _) (by omega) (fun h => h)) ⟨⟨⟨v, hv.alloc _, hrow.alloc _, trivial⟩, bF1.alloc _⟩, hB1.alloc hB1.size _⟩ ⟨W.heap.size, hvl, World.area_new W _ _ _ _ _, rfl⟩
  case body =>
    rintro l pre x a' W hl0 ⟨_, hr'⟩ ⟨⟨⟨v, hv, hrow, _⟩, bF1⟩, hB1⟩ ⟨Bx, hBx, bX, rfl⟩ hlt
    have hvl := hv.lt
    have hbl := bX.lt
    have hfl := bF1.lt
    have hsW := hB1.size
    have a0 := bX.cell 0 _ rfl
    have a1 := bX.cell 1 _ rfl
    have a2 := bX.cell 2 _ rfl
    have a3 := bX.cell 3 _ rfl
    have a4 := bX.cell 4 _ rfl
    have cF := bF1.cell
    have hpl := hl_len q pre
    have hlq : (hl q pre).length ≤ 100000 := by omega
    have HC := hq W x.2 hB1
    cases hqx : q x.2 with
    | false =>
      rw [hqx] at HC
      gi_wp2_with (refine ⟨trivial, ?_⟩; gi_at_call 30; refine (CallsIn.inRound l (callsIn_wide.2 HC)).mono ?_; rintro e w2 ⟨rfl, hB2⟩)
      refine ⟨⟨hB2.size, fun k o _ hk _ => (hB2.block k (Array.getElem?_eq_some_iff.1 hk).1).trans hk⟩, KpX.below hB2 (Nat.le_refl _) hvl (fun h => h), ⟨⟨v, (hB2.block _ hv.lt).trans hv, ?_, trivial⟩, (hB2.block _ bF1.lt).trans bF1⟩, hB1.trans (hB2.mono hsW)⟩
      rw [hl_miss q pre hqx]
      exact hrow.below hB2
    | true =>
      rw [hqx] at HC
      gi_wp2_with (first
        | (refine ⟨trivial, ?_⟩; gi_at_call 30; refine (CallsIn.inRound l (callsIn_wide.2 HC)).mono ?_; rintro e w2 ⟨rfl, hB2⟩; have hv2 : Boxed w2 (w.heap.size + 2) 40 v := (hB2.block _ hv.lt).trans hv; have hrow2 := hrow.below hB2; have cO := hv2.cell; have hs2 := hB2.size)
        | (gi_at_builtin; refine wpListIn_append_own_at _ rfl _ _ 40 rfl w.heap.size 3 i0 (.int .i64 0) 1 8 Tryd.underlying40 hi hz0 hz1 hz2 rfl (by decide) _ _ _ rfl (hrow2.alloc _) ⟨w2.heap.size, 0, none⟩ 1 1 [.int .i64 x.1] rfl rfl (cell_one_new _ _ _) (by simp [Value.oneCell']) (by unfold maxLen; omega) (by omega) (by simp; omega) ?_; intro v' w3 hown' hgrow _ hat; obtain ⟨g', cap', rfl⟩ := ownsRow_succ hown'; obtain ⟨hv3, hv4, hr4, hk4, hb4⟩ := hv2.appended (by decide) hrow2 (by omega) (by omega) hown' hgrow; have hc3 := hv3.cell; have hf3 := hv3.frozen)
        | fail)
      have hkk := kp_appended hv2 hgrow hat hv4
      refine ⟨KeepsFrom.trans ⟨hB2.size, fun k o _ hk _ => (hB2.block k (Array.getElem?_eq_some_iff.1 hk).1).trans hk⟩ (hk4.from _), KpX.trans (KpX.below hB2 (Nat.le_refl _) hvl (fun h => h)) hkk, ⟨⟨_, hv4, ?_, trivial⟩, ?_⟩, (hB1.trans (hB2.mono hsW)).trans hb4⟩
      · rw [hl_hit q pre hqx]
        simpa [ints] using hr4
      · have b2 : Boxed w2 (w.heap.size + 1) 48 (.func (.func 30) #[] #[.pointer (some ⟨bc, 0, none⟩)]) := (hB2.block _ bF1.lt).trans bF1
        exact ((b2.alloc _).kept hgrow (b2.not_row (by decide) hrow2)).other (by omega) _
  case done =>
    rintro D ys W hD hcome ⟨⟨⟨v, hv, hrow, _⟩, bF1⟩, hB1⟩ hK
    have cO := hv.cell
    have hcl := come_len hcome.nodup (fun p hp => ((hcome.mem p).1 hp).1)
    have hpl := hl_len q ys
    gi_wp2_with (refine ⟨trivial, ?_⟩; gi_at_call 40; refine (callsIn_wide.2 (sort_any w.heap.size v (hl q ys) _ hrow (by omega))).mono ?_; rintro e w2 ⟨rfl, hrow2, hg2⟩; have hv2 : Boxed w2 (w.heap.size + 2) 40 v := hv.kept hg2 (hv.not_row (by decide) hrow); have cO2 := hv2.cell; have hs2 := hv2.lt)
    have hDl := (Array.getElem?_eq_some_iff.1 hK).1
    have hDv : some D ≠ v.ownBlock := by
      rcases hrow.2 with ⟨rfl, _⟩ | ⟨g', cap', cur', rfl, _, hgb, _⟩
      · simp [Value.ownBlock]
      · intro e
        obtain rfl : D = g' := by simpa [Value.ownBlock] using e
        rw [hgb] at hK
        cases hK
    have hK2 : w2.heap[D]? = some (.deferred (some [])) := (hg2.block D hDl hDv).trans hK
    have hsW := hB1.size
    have hB2 : Below w.heap.size w w2 := hB1.grown hg2 hsW (fun k e => (World.ownsRow.lt hrow k e).1)
    have hlen := List.length_mergeSort (le := fun x y : Int => decide (x ≤ y)) (hl q ys)
    refine ⟨by simp, .inl ⟨_, _, rfl, run_takeDeferred hK2, ?_⟩⟩
    refine ⟨_, results_tmp rfl _ _ _, v, _, rfl, rises_of hcome, by rw [hlen]; omega, ?_, hB2.trans (belowK_b (w := w) (Nat.le_refl _) w2 D _ _ (by omega) hK2 rfl rfl)⟩
    rw [hlen]
    exact ownsRow_putObj hrow2 _ hK2 rfl
  case stop =>
    rintro D c pre W _ _ h _
    exact h.elim
set_option maxRecDepth 100000 in
set_option maxHeartbeats 4000000 in
theorem those32_any (bc B bi N : Nat) (L : Ids) (T : Nat → Prop) (s r cc m : Int) (M : Nat) (q : Ar → Bool) (w : World)
    (hI : Ix w B bi L N T) (_hbc : bc < w.heap.size) (hq : IsAt 32 bc q w) (hs : i64R s) (hr : i64R r) (hn : M ≤ 200) (hr1 : r + M ≤ 9223372036854775808) (hN : N ≤ 100000) :
    Calls Tryd.prog 29 #[.pointer (some ⟨bi, 0, none⟩), areaV s r cc M m, .func (.func 32) #[] #[.pointer (some ⟨bc, 0, none⟩)]] w fun e w' =>
      ∃ v zs, e = .returned v ∧ Rises L s r M q zs ∧ zs.length ≤ 100000 ∧ w'.ownsRow w.heap.size 3 1 v zs.length (ints zs) ∧ Below w.heap.size w w' := by
  obtain ⟨T1, ma, mb, f, c, g, hI, rfl⟩ := hI
  obtain ⟨i0, hi, hz0, hz1, hz2⟩ := info_parts info3
  have hlL : L.length ≤ 100000 := by have := hI.len; omega
  refine (callsIn_wide (n := 4)).1 ?_
  refine callsIn_of_wp_marks Tryd.func29 rfl trivial ?_ rfl
  simp only [Tryd.ntmps29, List.size_toArray, List.length_cons, List.length_nil, Nat.reduceAdd, Nat.reduceSub, Array.replicate_succ, Array.replicate_zero, List.push_toArray, List.append_toArray, List.nil_append, List.cons_append]
  gi_wp2_with (refine ⟨trivial, ?_⟩; gi_at_call 39; refine (callsIn_wide.2 (near_any _ s r cc M m _ _ rfl)).mono ?_; rintro e w1 ⟨rfl, rfl⟩)
  obtain ⟨W0, hW0⟩ : ∃ W0, W0 = ((((w.alloc (.cells #[.int .i64 s, .int .i64 r, .int .i64 cc, .int .i64 M, .int .i64 m] 31)).alloc (.cells #[.func (.func 32) #[] #[.pointer (some ⟨bc, 0, none⟩)]] 48)).alloc (.cells #[.slice none 0 0] 40)).alloc (.cells #[.pointer (some ⟨bi, 0, none⟩)] 24)).alloc (.cells #[.int .i64 s, .int .i64 r, .int .i64 cc, .int .i64 M, .int .i64 m] 31) := ⟨_, rfl⟩
  rw [← hW0]
  have hsz0 : W0.heap.size = w.heap.size + 5 := by rw [hW0]; simp
  have hB0 : Below w.heap.size w W0 := by rw [hW0]; exact (((((Below.refl _ w).alloc (Nat.le_refl _) _).alloc (by simp) _).alloc (by simp; omega) _).alloc (by simp; omega) _).alloc (by simp; omega) _
  have bF : Boxed W0 (w.heap.size + 1) 48 (.func (.func 32) #[] #[.pointer (some ⟨bc, 0, none⟩)]) := by
    rw [hW0]
    have := Boxed.new (w.alloc (.cells #[.int .i64 s, .int .i64 r, .int .i64 cc, .int .i64 M, .int .i64 m] 31)) 48 (.func (.func 32) #[] #[.pointer (some ⟨bc, 0, none⟩)])
    rw [World.size_alloc] at this
    exact ((this.alloc _).alloc _).alloc _
  have bO : Boxed W0 (w.heap.size + 2) 40 nilS := by
    rw [hW0]
    have := Boxed.new ((w.alloc (.cells #[.int .i64 s, .int .i64 r, .int .i64 cc, .int .i64 M, .int .i64 m] 31)).alloc (.cells #[.func (.func 32) #[] #[.pointer (some ⟨bc, 0, none⟩)]] 48)) 40 nilS
    rw [World.size_alloc, World.size_alloc] at this
    exact (this.alloc _).alloc _
  have bX : Boxed W0 (w.heap.size + 3) 24 (.pointer (some ⟨bi, 0, none⟩)) := by
    rw [hW0]
    have := Boxed.new (((w.alloc (.cells #[.int .i64 s, .int .i64 r, .int .i64 cc, .int .i64 M, .int .i64 m] 31)).alloc (.cells #[.func (.func 32) #[] #[.pointer (some ⟨bc, 0, none⟩)]] 48)).alloc (.cells #[.slice none 0 0] 40)) 24 (.pointer (some ⟨bi, 0, none⟩))
    rw [World.size_alloc, World.size_alloc, World.size_alloc] at this
    exact this.alloc _
  have bA : World.area W0 (w.heap.size + 4) s r cc M m := by
    rw [hW0]
    have := World.area_new ((((w.alloc (.cells #[.int .i64 s, .int .i64 r, .int .i64 cc, .int .i64 M, .int .i64 m] 31)).alloc (.cells #[.func (.func 32) #[] #[.pointer (some ⟨bc, 0, none⟩)]] 48)).alloc (.cells #[.slice none 0 0] 40)).alloc (.cells #[.pointer (some ⟨bi, 0, none⟩)] 24)) s r cc M m
    rw [World.size_alloc, World.size_alloc, World.size_alloc, World.size_alloc] at this
    exact this
  clear hW0
  have hIlt := hI.lt
  refine wpIn_rangeFunc_ownH (n := 4) rfl (by omega) (gf := 44) (lb := #[.pointer (some ⟨w.heap.size + 4, 0, none⟩), .pointer (some ⟨w.heap.size + 3, 0, none⟩)]) rfl trivial (enters_of Tryd.func44 (by kernel_rfl) rfl)
    (near_stops (w.heap.size + 4) (w.heap.size + 3) (w.heap.size + 2) B bi N ma mb c L T1 f g s r cc m M W0 (hI.below hB0 (Nat.le_refl _)) bA bX.cell bO.cell
      (fun k hk => by
        rcases hk with hk | hk | hk | hk | hk
        · have := (hIlt k (.inl hk)).2; omega
        · have := (hIlt k (.inr (.inl hk))).2; omega
        · have := (hIlt k (.inr (.inr hk))).2; omega
        · omega
        · omega) hs hr hn hr1 hN) KpX.trans (kpB_b (by omega)) (Below.refl _ _) (fun _ => rfl)
    (fun pre W => ((∃ v, Boxed W (w.heap.size + 2) 40 v ∧ W.ownsRow w.heap.size 3 1 v (hl q pre).length (ints (hl q pre)) ∧ True) ∧ Boxed W (w.heap.size + 1) 48 (.func (.func 32) #[] #[.pointer (some ⟨bc, 0, none⟩)])) ∧ Below w.heap.size w W)
    (fun _ _ _ => False)
    (OwnFrom.and (OwnFrom.and (Own.from (holdsRow_own w.heap.size (w.heap.size + 2) 40 3 1 (fun pre => (hl q pre).length) (fun pre => ints (hl q pre)) (fun _ _ => True)) _) (Own.from (boxed_own _ _ _) _)) (ownFrom_below (Nat.le_refl _) (by omega)))
    (fun _ _ _ _ _ hs _ _ => hs)
    ⟨⟨⟨_, bO, World.ownsRow_nil _ _ _ _, trivial⟩, bF⟩, hB0⟩
    (fun x a' W => ∃ Bx, w.heap.size + 2 < Bx ∧ World.area W Bx x.2.s x.2.r x.2.c x.2.n x.2.m ∧ a' = { tmps := #[.pointer (some ⟨bi, 0, none⟩), areaV s r cc M m, .func (.func 32) #[] #[.pointer (some ⟨bc, 0, none⟩)], undef, .pointer (some ⟨w.heap.size, 0, none⟩), .pointer (some ⟨w.heap.size + 1, 0, none⟩), .slice none 0 0, .pointer (some ⟨w.heap.size + 2, 0, none⟩), .int .i64 x.1, .pointer (some ⟨Bx, 0, none⟩), .pointer (some ⟨bi, 0, none⟩), areaV s r cc M m, .func (.func 44) #[] #[.pointer (some ⟨w.heap.size + 4, 0, none⟩), .pointer (some ⟨w.heap.size + 3, 0, none⟩)], .int .i64 x.1, x.2.v, undef, undef, undef, undef, undef, undef, undef, undef, undef, undef], defers := [] })
    (fun x a' _ X Y row hs hg hr => by
      obtain ⟨Bx, h1, h2, h3⟩ := hs
      refine ⟨Bx, h1, h2.kept hg (fun e => ?_), h3⟩
      obtain ⟨_, o, ho, hc⟩ := hr Bx e.symm
      rw [show X.heap[Bx]? = _ from h2] at ho
      cases ho
      cases hc)
    ?assign ?body ?done ?stop
  case assign =>
    rintro l pre x W K ⟨⟨⟨v, hv, hrow, _⟩, bF1⟩, hB1⟩ hK
    gi_wp2
    have hvl := hv.lt
    have hsW := hB1.size
    exact hK _ _ ((KeepsOthers.alloc _ _).from _) (KpX.below ((Below.refl _ W).alloc (Nat.le_refl _) _) (Nat.le_refl _) (by omega) (fun h => h)) ⟨⟨⟨v, hv.alloc _, hrow.alloc _, trivial⟩, bF1.alloc _⟩, hB1.alloc hB1.size _⟩ ⟨W.heap.size, hvl, World.area_new W _ _ _ _ _, rfl⟩
  case body =>
    rintro l pre x a' W hl0 ⟨_, hr'⟩ ⟨⟨⟨v, hv, hrow, _⟩, bF1⟩, hB1⟩ ⟨Bx, hBx, bX, rfl⟩ hlt
    have hvl := hv.lt
    have hbl := bX.lt
    have hfl := bF1.lt
    have hsW := hB1.size
    have a0 := bX.cell 0 _ rfl
    have a1 := bX.cell 1 _ rfl
    have a2 := bX.cell 2 _ rfl
    have a3 := bX.cell 3 _ rfl
    have a4 := bX.cell 4 _ rfl
    have cF := bF1.cell
    have hpl := hl_len q pre
    have hlq : (hl q pre).length ≤ 100000 := by omega
    have HC := hq W x.2 hB1
    cases hqx : q x.2 with
    | false =>
      rw [hqx] at HC
      gi_wp2_with (refine ⟨trivial, ?_⟩; gi_at_call 32; refine (CallsIn.inRound l (callsIn_wide.2 HC)).mono ?_; rintro e w2 ⟨rfl, hB2⟩)
      refine ⟨⟨hB2.size, fun k o _ hk _ => (hB2.block k (Array.getElem?_eq_some_iff.1 hk).1).trans hk⟩, KpX.below hB2 (Nat.le_refl _) hvl (fun h => h), ⟨⟨v, (hB2.block _ hv.lt).trans hv, ?_, trivial⟩, (hB2.block _ bF1.lt).trans bF1⟩, hB1.trans (hB2.mono hsW)⟩
      rw [hl_miss q pre hqx]
      exact hrow.below hB2
    | true =>
      rw [hqx] at HC
      gi_wp2_with (first
        | (refine ⟨trivial, ?_⟩; gi_at_call 32; refine (CallsIn.inRound l (callsIn_wide.2 HC)).mono ?_; rintro e w2 ⟨rfl, hB2⟩; have hv2 : Boxed w2 (w.heap.size + 2) 40 v := (hB2.block _ hv.lt).trans hv; have hrow2 := hrow.below hB2; have cO := hv2.cell; have hs2 := hB2.size)
        | (gi_at_builtin; refine wpListIn_append_own_at _ rfl _ _ 40 rfl w.heap.size 3 i0 (.int .i64 0) 1 8 Tryd.underlying40 hi hz0 hz1 hz2 rfl (by decide) _ _ _ rfl (hrow2.alloc _) ⟨w2.heap.size, 0, none⟩ 1 1 [.int .i64 x.1] rfl rfl (cell_one_new _ _ _) (by simp [Value.oneCell']) (by unfold maxLen; omega) (by omega) (by simp; omega) ?_; intro v' w3 hown' hgrow _ hat; obtain ⟨g', cap', rfl⟩ := ownsRow_succ hown'; obtain ⟨hv3, hv4, hr4, hk4, hb4⟩ := hv2.appended (by decide) hrow2 (by omega) (by omega) hown' hgrow; have hc3 := hv3.cell; have hf3 := hv3.frozen)
        | fail)
      have hkk := kp_appended hv2 hgrow hat hv4
      refine ⟨KeepsFrom.trans ⟨hB2.size, fun k o _ hk _ => (hB2.block k (Array.getElem?_eq_some_iff.1 hk).1).trans hk⟩ (hk4.from _), KpX.trans (KpX.below hB2 (Nat.le_refl _) hvl (fun h => h)) hkk, ⟨⟨_, hv4, ?_, trivial⟩, ?_⟩, (hB1.trans (hB2.mono hsW)).trans hb4⟩
      · rw [hl_hit q pre hqx]
        simpa [ints] using hr4
      · have b2 : Boxed w2 (w.heap.size + 1) 48 (.func (.func 32) #[] #[.pointer (some ⟨bc, 0, none⟩)]) := (hB2.block _ bF1.lt).trans bF1
        exact ((b2.alloc _).kept hgrow (b2.not_row (by decide) hrow2)).other (by omega) _
  case done =>
    rintro D ys W hD hcome ⟨⟨⟨v, hv, hrow, _⟩, bF1⟩, hB1⟩ hK
    have cO := hv.cell
    have hcl := come_len hcome.nodup (fun p hp => ((hcome.mem p).1 hp).1)
    have hpl := hl_len q ys
    gi_wp2_with (refine ⟨trivial, ?_⟩; gi_at_call 40; refine (callsIn_wide.2 (sort_any w.heap.size v (hl q ys) _ hrow (by omega))).mono ?_; rintro e w2 ⟨rfl, hrow2, hg2⟩; have hv2 : Boxed w2 (w.heap.size + 2) 40 v := hv.kept hg2 (hv.not_row (by decide) hrow); have cO2 := hv2.cell; have hs2 := hv2.lt)
    have hDl := (Array.getElem?_eq_some_iff.1 hK).1
    have hDv : some D ≠ v.ownBlock := by
      rcases hrow.2 with ⟨rfl, _⟩ | ⟨g', cap', cur', rfl, _, hgb, _⟩
      · simp [Value.ownBlock]
      · intro e
        obtain rfl : D = g' := by simpa [Value.ownBlock] using e
        rw [hgb] at hK
        cases hK
    have hK2 : w2.heap[D]? = some (.deferred (some [])) := (hg2.block D hDl hDv).trans hK
    have hsW := hB1.size
    have hB2 : Below w.heap.size w w2 := hB1.grown hg2 hsW (fun k e => (World.ownsRow.lt hrow k e).1)
    have hlen := List.length_mergeSort (le := fun x y : Int => decide (x ≤ y)) (hl q ys)
    refine ⟨by simp, .inl ⟨_, _, rfl, run_takeDeferred hK2, ?_⟩⟩
    refine ⟨_, results_tmp rfl _ _ _, v, _, rfl, rises_of hcome, by rw [hlen]; omega, ?_, hB2.trans (belowK_b (w := w) (Nat.le_refl _) w2 D _ _ (by omega) hK2 rfl rfl)⟩
    rw [hlen]
    exact ownsRow_putObj hrow2 _ hK2 rfl
  case stop =>
    rintro D c pre W _ _ h _
    exact h.elim
end Go.Proofs.YtnbfkhcignjfoaaDoor
