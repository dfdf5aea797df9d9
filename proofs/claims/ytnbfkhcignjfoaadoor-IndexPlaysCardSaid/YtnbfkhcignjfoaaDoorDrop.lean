/- Lines are dropped. -/
import Derived.Test.YtnbfkhcignjfoaaDoorPut
import Derived.Deep.RegionHeld3
namespace Go.Proofs.YtnbfkhcignjfoaaDoor
open Go Go.RowKit Go.Maps

/-- The lines behind 'drop': id stands no longer in n lines from a row on. -/
def dropC (C : Int → Int → List Int) (id s r : Int) (n : Nat) : Int → Int → List Int := fun s' r' => if s' = s ∧ r ≤ r' ∧ r' < r + n then (C s' r').filter (fun x => !(x == id)) else C s' r'
theorem dropC_zero (C : Int → Int → List Int) (id s r : Int) : dropC C id s r 0 = C := by
  funext s' r'
  unfold dropC
  rw [if_neg (by omega)]
theorem dropC_step (C : Int → Int → List Int) (id s r : Int) (n : Nat) : updC (dropC C id s r n) s (r + n) ((dropC C id s r n s (r + n)).filter (fun x => !(x == id))) = dropC C id s r (n + 1) := by
  funext s' r'
  unfold updC
  by_cases e : s' = s ∧ r' = r + n
  · obtain ⟨rfl, rfl⟩ := e
    rw [if_pos ⟨rfl, rfl⟩]
    unfold dropC
    rw [if_neg (by omega), if_pos (by omega)]
  · rw [if_neg e]
    unfold dropC
    by_cases e2 : s' = s ∧ r ≤ r' ∧ r' < r + n
    · rw [if_pos e2, if_pos (by omega)]
    · rw [if_neg e2, if_neg (by omega)]
set_option maxRecDepth 100000 in
set_option maxHeartbeats 2000000 in
theorem drop_any (id s r : Int) (n : Nat) (B b N D : Nat) (C : Int → Int → List Int) (T : Nat → Prop) (lv : Value) (w : World) (h : Lns w B b C N T) (hl : w.ownsRow D 72 2 lv n (lns s r n))
    (hfar : ∀ k, lv.ownBlock = some k → ¬ T k) (hN : N + n ≤ 1000000) (hs : i64R s) (hr0 : -9223372036854775808 ≤ r) (hr1 : r + n ≤ 9223372036854775807) (_hC : ∀ s r, (C s r).length ≤ 100000) :
    Calls Tryd.prog 28 #[.agg #[.map (some b)], .int .i64 id, lv] w (PutPost B b (dropC C id s r n) (N + n) T w) := by
  obtain ⟨p, cap, rfl, hcells⟩ : ∃ p cap, lv = .slice p n cap ∧ ∀ K, K < n → ∃ g, p = some ⟨g, 0, none⟩ ∧ w.cell? ⟨g, K * 2, none⟩ = some (.int .i64 s) ∧ w.cell? ⟨g, K * 2 + 1, none⟩ = some (.int .i64 (r + K)) := by
    rcases hl.2 with ⟨rfl, rfl⟩ | ⟨g, cap, cur, rfl, hg, hb, h1, h2, h3, h4⟩
    · exact ⟨none, 0, rfl, fun K hK => absurd hK (by omega)⟩
    · refine ⟨_, cap, rfl, fun K hK => ⟨g, rfl, ?_, ?_⟩⟩
      · have := hl.cells (g := g) rfl (K * 2) _ (lns_at s r n K hK).1
        unfold Addr.add at this
        split at this
        · rename_i h0
          rw [h0]; exact this
        · simpa using this
      · have := hl.cells (g := g) rfl (K * 2 + 1) _ (lns_at s r n K hK).2
        simpa [Addr.add] using this
  clear hl
  go_enter Tryd.func28, Tryd.ntmps28
  go_wp2_with fail
  obtain ⟨W, hW⟩ : ∃ W, W = (w.alloc (.cells #[.map (some b)] 55)).alloc (.cells #[.int .i64 id] 3) := ⟨_, rfl⟩
  rw [← hW]
  have hB : Below w.heap.size w W := by rw [hW]; exact ((Below.refl _ w).alloc (Nat.le_refl _) _).alloc (by simp) _
  have hc0 : W.cell? ⟨w.heap.size, 0, none⟩ = some (.map (some b)) := by
    rw [cell_of_row W w.heap.size 0 #[.map (some b)] 55 (0, 0) (by rw [hW, Below.heap_alloc _ _ _ (by simp)]; exact (MapKept.heap_alloc w _).1)]
    rfl
  have hc1 : W.cell? ⟨w.heap.size + 1, 0, none⟩ = some (.int .i64 id) := by
    rw [cell_of_row W (w.heap.size + 1) 0 #[.int .i64 id] 3 (0, 0) (by rw [hW]; have := (MapKept.heap_alloc (w.alloc (.cells #[.map (some b)] 55)) (.cells #[.int .i64 id] 3)).1; simpa using this)]
    rfl
  have hw1 : W.heap.size = w.heap.size + 2 := by rw [hW]; simp
  clear hW
  go_loopw [10] (fun i wr => ∃ (K : Nat) (T' : Nat → Prop), i = .int .i64 (K : Int) ∧ K ≤ n ∧ Lns wr B b (dropC C id s r K) (N + K) T' ∧ (∀ k, T' k → T k ∨ w.heap.size + 2 ≤ k) ∧ Turned T w wr ∧ wr.cell? ⟨w.heap.size, 0, none⟩ = some (.map (some b)) ∧ wr.cell? ⟨w.heap.size + 1, 0, none⟩ = some (.int .i64 id)) (fun i _ => ((n : Int) - intOf i).toNat)
  case atStart =>
    refine ⟨0, T, rfl, Nat.zero_le _, ?_, fun k hk => .inl hk, Turned.of_below hB, hc0, hc1⟩
    rw [dropC_zero]
    exact h.keep (fun k hk => hB.block k (by obtain ⟨f, c, h⟩ := h; exact (h.low k hk).2)) hB.size
  case round =>
    obtain ⟨K, T', rfl, hK, ⟨f, c, hL⟩, hT', hturn, hc0, hc1⟩ := hrel
    by_cases hlt : K < n
    · obtain ⟨g, rfl, hk1, hk2⟩ := hcells K hlt
      have hne : ¬ T g := hfar g rfl
      have hg : g < w.heap.size := w.block_lt_of_cell? _ hk1
      have e1 := (World.cell?_of_block (a := ⟨g, K * 2, none⟩) (hturn.block g hg hne)).trans hk1
      have e2 := (World.cell?_of_block (a := ⟨g, K * 2 + 1, none⟩) (hturn.block g hg hne)).trans hk2
      clear hcells hk1 hk2
      have hkn : (K : Int) < n := by omega
      have hws : w.heap.size + 1 < wr.heap.size := wr.block_lt_of_cell? _ hc1
      have hrK : i64R (r + (K : Int)) := ⟨by omega, by omega⟩
      obtain ⟨kl, hkl⟩ := key72 hs hrK
      have HC := Lib.hid (show c < maxLen by have := hL.count; unfold maxLen; omega)
      go_wp2_with fail
      obtain ⟨W2, hW2⟩ : ∃ W2, W2 = wr.alloc (.cells #[.int .i64 s, .int .i64 (r + (K : Int))] 72) := ⟨_, rfl⟩
      rw [← hW2]
      have hBx : Below wr.heap.size wr W2 := by rw [hW2]; exact (Below.refl _ _).alloc (Nat.le_refl _) _
      have hxs : W2.heap.size = wr.heap.size + 1 := by rw [hW2]; simp
      have hrow2 : W2.heap[wr.heap.size]? = some (.cells #[.int .i64 s, .int .i64 (r + (K : Int))] 72 (0, 0)) := by rw [hW2]; exact (MapKept.heap_alloc wr _).1
      clear hW2
      have a0 : W2.drew.cell? ⟨w.heap.size, 0, none⟩ = some (.map (some b)) := (hBx.cell (p := ⟨w.heap.size, 0, none⟩) (by show w.heap.size < wr.heap.size; omega)).trans hc0
      have a3 : W2.drew.cell? ⟨w.heap.size + 1, 0, none⟩ = some (.int .i64 id) := (hBx.cell (p := ⟨w.heap.size + 1, 0, none⟩) hws).trans hc1
      have a1 : W2.drew.cell? ⟨wr.heap.size, 0, none⟩ = some (.int .i64 s) := (cell_of_row W2 wr.heap.size 0 _ _ _ hrow2).trans rfl
      have a2 : W2.drew.cell? ⟨wr.heap.size, 1, none⟩ = some (.int .i64 (r + (K : Int))) := (cell_of_row W2 wr.heap.size 1 _ _ _ hrow2).trans rfl
      have hL2 := hL.below (w' := W2.drew) hBx.drew (fun k hk => (hL.low k hk).2)
      have hlook : (Instr.lookup 53 (.map (some b)) (lineV s (r + (K : Int))) false).run Tryd.prog W2.drew = .ok (rowAt f s (r + (K : Int))) W2.drew := hL2.map.look keyed72 Tryd.underlying53 (Tryd.zeroValue40 _) hkl false
      have hrow3 := hL2.row s (r + K) hs hrK
      have hfresh : ∀ k, wr.heap.size ≤ k → ¬ T' k := fun k hk hT => by have := (hL.low k hT).2; omega
      have hbox : ∀ k, (k = w.heap.size ∨ k = w.heap.size + 1 ∨ k = wr.heap.size) → ¬ T' k := fun k hk hT => by
        rcases hT' k hT with h1 | h1
        · obtain ⟨f0, c0, h0⟩ := h
          have := (h0.low _ h1).2
          omega
        · have := (hL.low k hT).2
          omega
      have hob : ∀ k, (rowAt f s (r + (K : Int))).ownBlock = some k → T' k := fun k hk => (hL.place s (r + K) hs hrK k hk).1
      have hnb : (rowAt f s (r + (K : Int))).ownBlock ≠ some b := fun e => (hL.place s (r + K) hs hrK b e).2 rfl
      have HD := Lib.hid (del_any id (w.heap.size + 1) B (rowAt f s (r + (K : Int))) (dropC C id s r K s (r + K)) W2.drew (by show w.heap.size + 1 < W2.heap.size; omega) a3 hrow3 (fun e => hbox _ (.inr (.inl rfl)) (hob _ e)))
      have HST := Lib.hid (show ∀ w1, W2.drew.grownBy w1 (rowAt f s (r + (K : Int))).ownBlock → ∀ v', ∃ es' clock', (Instr.mapUpdate 53 (.map (some b)) (lineV s (r + (K : Int))) v').run Tryd.prog w1 = .ok () (ChangeMaps.setBlock w1 b (.map es' clock')) ∧ World.mp (ChangeMaps.setBlock w1 b (.map es' clock')) Tryd.prog 72 b (upd f (lineV s (r + (K : Int))) (some v')) (if (f (lineV s (r + (K : Int)))).isSome then c else c + 1) from fun w1 hg v' =>
        (hL2.map.kept hg (fun e => hnb e.symm)).store keyed72 Tryd.underlying53 HC.out hkl v')
      have hb0 : some w.heap.size ≠ some b := fun e => hbox _ (.inl rfl) (Option.some.inj e ▸ hL.own)
      have hb1 : some wr.heap.size ≠ some b := fun e => hbox _ (.inr (.inr rfl)) (Option.some.inj e ▸ hL.own)
      have hb2 : some (w.heap.size + 1) ≠ some b := fun e => hbox _ (.inr (.inl rfl)) (Option.some.inj e ▸ hL.own)
      go_region_held3 (fun w' => w'.cell? ⟨w.heap.size, 0, none⟩ = some (.map (some b)) ∧ w'.cell? ⟨wr.heap.size, 0, none⟩ = some (.int .i64 s) ∧ w'.cell? ⟨wr.heap.size, 1, none⟩ = some (.int .i64 (r + (K : Int))))
        (first | exact ⟨a0, a1, a2⟩ | exact ⟨(setBlock_grown _ _ _).cell a0 hb0, (setBlock_grown _ _ _).cell a1 hb1, (setBlock_grown _ _ _).cell a2 hb1⟩ | fail)
        (first
          | (go_at_call 37; refine HD.out.mono ?_; rintro e w1 ⟨v', rfl, hown', hg1, hvb, hs1⟩; have a0 := hg1.cell a0 (fun e => hbox _ (.inl rfl) (hob _ e.symm)); have a1 := hg1.cell a1 (fun e => hbox _ (.inr (.inr rfl)) (hob _ e.symm)); have a2 := hg1.cell a2 (fun e => hbox _ (.inr (.inr rfl)) (hob _ e.symm)); obtain ⟨es', clock', hst, hmp'⟩ := HST.out w1 hg1 v'))
      all_goals
        obtain ⟨w3, hw3⟩ : ∃ w3, w3 = ChangeMaps.setBlock w1 b (.map es' clock') := ⟨_, rfl⟩
        rw [← hw3]
        rw [← hw3] at hmp'
        have hg3 : w1.grownBy w3 (some b) := by rw [hw3]; exact setBlock_grown _ _ _
        have hs3 : w3.heap.size = w1.heap.size := by rw [hw3]; simp [ChangeMaps.setBlock]
        clear hw3 hst
        go_wp2_with fail
        have hsd : W2.drew.heap.size = W2.heap.size := rfl
        have hrow : w3.ownsRow B 3 1 v' ((dropC C id s r K s (r + K)).filter (fun x => !(x == id))).length (ints ((dropC C id s r K s (r + K)).filter (fun x => !(x == id)))) :=
          World.ownsRow.same hown' (w' := w3) fun k hk => hg3.block k (World.ownsRow.lt hown' k hk).2 (fun e => hnb (by rw [← hvb, hk, Option.some.inj e]))
        have hold : ∀ k, k < wr.heap.size → k ≠ b → (rowAt f s (r + (K : Int))).ownBlock ≠ some k → w3.heap[k]? = wr.heap[k]? := fun k hk hkb hkr => by
          rw [hg3.block k (by omega) (by simpa using hkb), hg1.block k (by omega) (fun e => hkr e.symm)]
          exact hBx.block k hk
        have hT2 := hL.turn hs hrK hmp' (M := N + (K + 1)) (by have := hL.count; split <;> omega) (by omega) hrow (.inl hvb) hold
        rw [dropC_step] at hT2
        go_roundw
        case measure => simp [intOf]; omega
        case rel =>
          refine ⟨K + 1, _, by go_num, by omega, ⟨_, _, hT2⟩, ?_, ?_, hg3.cell a0 hb0, hg3.cell (hg1.cell a3 (fun e => hbox _ (.inr (.inl rfl)) (hob _ e.symm))) hb2⟩
          · rintro k (hk | ⟨_, hk⟩)
            · exact hT' k hk
            · exact .inr (by omega)
          · refine hturn.trans (T' := T') ⟨hg3.os.trans (hg1.os.trans hBx.os), hg3.tape.trans (hg1.tape.trans hBx.drew.tape), hg3.output.trans (hg1.output.trans hBx.output), by omega, ?_⟩ (fun k hk => (hT' k hk).imp (fun x => x) fun h => by omega)
            intro k hk hn
            exact hold k hk (fun e => hn (e ▸ hL.own)) fun e => hn (hob k e)
    · obtain rfl : K = n := by omega
      go_wp2_with fail
      go_end0
      exact ⟨rfl, T', ⟨f, c, hL⟩, fun k hk => (hT' k hk).imp (fun x => x) fun h => by omega, hturn⟩
end Go.Proofs.YtnbfkhcignjfoaaDoor
