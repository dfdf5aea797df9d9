/- Lines are put. -/
import Derived.Test.YtnbfkhcignjfoaaDoorLines
namespace Go.Proofs.YtnbfkhcignjfoaaDoor
open Go Go.RowKit Go.Maps

/-- The lines behind 'put': id stands last in n lines from a row on. -/
def putC (C : Int → Int → List Int) (id s r : Int) (n : Nat) : Int → Int → List Int := fun s' r' => if s' = s ∧ r ≤ r' ∧ r' < r + n then C s' r' ++ [id] else C s' r'
theorem putC_zero (C : Int → Int → List Int) (id s r : Int) : putC C id s r 0 = C := by
  funext s' r'
  unfold putC
  rw [if_neg (by omega)]
theorem putC_step (C : Int → Int → List Int) (id s r : Int) (n : Nat) : updC (putC C id s r n) s (r + n) (putC C id s r n s (r + n) ++ [id]) = putC C id s r (n + 1) := by
  funext s' r'
  unfold updC
  by_cases e : s' = s ∧ r' = r + n
  · obtain ⟨rfl, rfl⟩ := e
    rw [if_pos ⟨rfl, rfl⟩]
    unfold putC
    rw [if_neg (by omega), if_pos (by omega)]
  · rw [if_neg e]
    unfold putC
    by_cases e2 : s' = s ∧ r ≤ r' ∧ r' < r + n
    · rw [if_pos e2, if_pos (by omega)]
    · rw [if_neg e2, if_neg (by omega)]
def PutPost (B b : Nat) (C : Int → Int → List Int) (N : Nat) (T : Nat → Prop) (w : World) (e : Ending) (w' : World) : Prop :=
  e = .returned (.tuple #[]) ∧ ∃ T', Lns w' B b C N T' ∧ (∀ k, T' k → T k ∨ w.heap.size ≤ k) ∧ Turned T w w'
set_option maxRecDepth 100000 in
set_option maxHeartbeats 2000000 in
theorem put_any (id s r : Int) (n : Nat) (B b N D : Nat) (C : Int → Int → List Int) (T : Nat → Prop) (lv : Value) (w : World) (h : Lns w B b C N T) (hl : w.ownsRow D 72 2 lv n (lns s r n))
    (hfar : ∀ k, lv.ownBlock = some k → ¬ T k) (hN : N + n ≤ 1000000) (hs : i64R s) (hr0 : -9223372036854775808 ≤ r) (hr1 : r + n ≤ 9223372036854775807) (hC : ∀ s r, (C s r).length ≤ 100000) :
    Calls Tryd.prog 25 #[.agg #[.map (some b)], .int .i64 id, lv] w (PutPost B b (putC C id s r n) (N + n) T w) := by
  obtain ⟨p, cap, rfl, hcells⟩ : ∃ p cap, lv = .slice p n cap ∧ ∀ K, K < n → ∃ g, p = some ⟨g, 0, none⟩ ∧ w.cell? ⟨g, K * 2, none⟩ = some (.int .i64 s) ∧ w.cell? ⟨g, K * 2 + 1, none⟩ = some (.int .i64 (r + K)) := by
    rcases hl.2 with ⟨rfl, rfl⟩ | ⟨g, cap, cur, rfl, hg, hb, h1, h2, h3, h4⟩
    · exact ⟨none, 0, rfl, fun K hK => absurd hK (by omega)⟩
    · refine ⟨_, cap, rfl, fun K hK => ⟨g, rfl, ?_, ?_⟩⟩
      · have := hl.cells (g := g) rfl (K * 2) _ (lns_at s r n K hK).1
        unfold Addr.add at this
        split at this
        · rename_i h0
          rw [h0]; exact this
        · simpa using this
      · have := hl.cells (g := g) rfl (K * 2 + 1) _ (lns_at s r n K hK).2
        simpa [Addr.add] using this
  clear hl
  go_enter Tryd.func25, Tryd.ntmps25
  go_wp2_with fail
  obtain ⟨W, hW⟩ : ∃ W, W = w.alloc (.cells #[.map (some b)] 55) := ⟨_, rfl⟩
  rw [← hW]
  have hB : Below w.heap.size w W := by rw [hW]; exact (Below.refl _ w).alloc (Nat.le_refl _) _
  have hc0 : W.cell? ⟨w.heap.size, 0, none⟩ = some (.map (some b)) := by
    rw [cell_of_row W w.heap.size 0 #[.map (some b)] 55 (0, 0) (by rw [hW]; exact (MapKept.heap_alloc w _).1)]
    rfl
  have hw1 : W.heap.size = w.heap.size + 1 := by rw [hW]; simp
  clear hW
  obtain ⟨i0, hi, hz0, hz1, hz2⟩ := info_parts info3
  have HI := Lib.hid hi
  have HZ0 := Lib.hid hz0
  have HZ1 := Lib.hid hz1
  have HZ2 := Lib.hid hz2
  clear hi hz0 hz1 hz2
  go_loopw [10] (fun i wr => ∃ (K : Nat) (T' : Nat → Prop), i = .int .i64 (K : Int) ∧ K ≤ n ∧ Lns wr B b (putC C id s r K) (N + K) T' ∧ (∀ k, T' k → T k ∨ w.heap.size + 1 ≤ k) ∧ Turned T w wr ∧ wr.cell? ⟨w.heap.size, 0, none⟩ = some (.map (some b))) (fun i _ => ((n : Int) - intOf i).toNat)
  case atStart =>
    refine ⟨0, T, rfl, Nat.zero_le _, ?_, fun k hk => .inl hk, Turned.of_below hB, hc0⟩
    rw [putC_zero]
    exact h.keep (fun k hk => hB.block k (by obtain ⟨f, c, h⟩ := h; exact (h.low k hk).2)) hB.size
  case round =>
    obtain ⟨K, T', rfl, hK, ⟨f, c, hL⟩, hT', hturn, hc0⟩ := hrel
    by_cases hlt : K < n
    · obtain ⟨g, rfl, hk1, hk2⟩ := hcells K hlt
      have hne : ¬ T g := hfar g rfl
      have hg : g < w.heap.size := w.block_lt_of_cell? _ hk1
      have e1 := (World.cell?_of_block (a := ⟨g, K * 2, none⟩) (hturn.block g hg hne)).trans hk1
      have e2 := (World.cell?_of_block (a := ⟨g, K * 2 + 1, none⟩) (hturn.block g hg hne)).trans hk2
      clear hcells hk1 hk2
      have hkn : (K : Int) < n := by omega
      have hws : w.heap.size < wr.heap.size := wr.block_lt_of_cell? _ hc0
      have hrK : i64R (r + (K : Int)) := ⟨by omega, by omega⟩
      obtain ⟨kl, hkl⟩ := key72 hs hrK
      have HL := Lib.hid hL
      have hlen : (putC C id s r K s (r + K)).length ≤ 100000 := by
        unfold putC
        rw [if_neg (by omega)]
        exact hC _ _
      have HN1 := Lib.hid (show (putC C id s r K s (r + K)).length + 1 ≤ maxLen by unfold maxLen; omega)
      have HN2 := Lib.hid (show ((putC C id s r K s (r + K)).length + 1) * 8 ≤ 140737488355328 by omega)
      have HC := Lib.hid (show c < maxLen by have := hL.count; unfold maxLen; omega)
      have hbB := hL.base
      have hbl := hL.map.lt
      obtain ⟨wx, hwx⟩ : ∃ wx, wx = (wr.alloc (.cells #[.int .i64 s, .int .i64 (r + (K : Int))] 72)).alloc (.cells #[.int .i64 id] 3) := ⟨_, rfl⟩
      have hBx : Below wr.heap.size wr wx := by rw [hwx]; exact ((Below.refl _ _).alloc (Nat.le_refl _) _).alloc (by simp) _
      have hxs : wx.heap.size = wr.heap.size + 2 := by rw [hwx]; simp
      have hxid : wx.cell? ⟨wr.heap.size + 1, 0, none⟩ = some (.int .i64 id) := by
        rw [cell_of_row wx (wr.heap.size + 1) 0 #[.int .i64 id] 3 (0, 0) (by rw [hwx]; have := (MapKept.heap_alloc (wr.alloc (.cells #[.int .i64 s, .int .i64 (r + (K : Int))] 72)) (.cells #[.int .i64 id] 3)).1; simpa using this)]
        rfl
      have HF := Lib.hid (show ∀ w1, wx.grownBy w1 (some b) → w1.ownsRow B 3 1 (rowAt f s (r + K)) (putC C id s r K s (r + K)).length (ints (putC C id s r K s (r + K))) from fun w1 hg1 =>
        (hL.row s (r + K) hs hrK).same fun k hk => by
          obtain ⟨hT1, hkb⟩ := hL.place s (r + K) hs hrK k hk
          have hlt := (hL.low k hT1).2
          exact (hg1.block k (by omega) (by simpa using hkb)).trans (hBx.block k hlt))
      have HN3 := Lib.hid (show ∀ w1 : World, wx.heap.size = w1.heap.size → B ≤ w1.heap.size from fun w1 h1 => by omega)
      have HJ := Lib.hid (show ∀ w1, wx.grownBy w1 (some b) → ∀ j u, [Value.int .i64 id][j]? = some u → w1.cell? ((⟨wr.heap.size + 1, 0, none⟩ : Addr).add j) = some u from fun w1 hg1 j u hj => by
        match j, hj with
        | 0, hj => 
          simp at hj
          subst hj
          simp only [Addr.add, if_true]
          exact hg1.cell hxid (by simp; omega))
      have HO := Lib.hid (show ∀ w1 o', w1.heap[b]? = some o' → wx.grownBy w1 (some b) → ∀ w2, w1.grownBy w2 (rowAt f s (r + K)).ownBlock → w2.heap[b]? = some o' from fun w1 o' h1 hg1 w2 hg2 =>
        (hg2.block b (by have := hg1.size; have := hBx.size; omega) (fun e => (hL.place s (r + K) hs hrK b e.symm).2 rfl)).trans h1)
      subst hwx
      have HK := Lib.hid hkl
      clear hkl
      go_wp2_with (first | (refine wpList_mp_entry _ rfl _ _ 53 rfl 72 40 law72 Tryd.underlying53 nilS Tryd.zeroValue40 b c f rfl (HL.out.map.below (B := wr.heap.size) (((Below.refl _ _).alloc (Nat.le_refl _) _).alloc (by simp) _) HL.out.map.lt) HC.out (lineV s (r + (K : Int))) kl rfl HK.out ?_; intro st o' w1 hmid hb1 hg1 hs1) | (at_builtin; refine wpList_append_own_at _ rfl _ _ 40 rfl B 3 i0 (.int .i64 0) 1 8 Tryd.underlying40 HI.out HZ0.out HZ1.out HZ2.out rfl (by decide) _ _ _ rfl (HF.out w1 hg1) ⟨wr.heap.size + 1, 0, none⟩ 1 1 [.int .i64 id] rfl rfl ?_ (by simp [Value.oneCell']) (HN1.out) (HN2.out) (HN3.out w1 hs1) ?_; (rintro j u hj; exact HJ.out w1 hg1 j u hj); intro v2 w2 hown2 hg2 hnil hat) | (refine wpList_mp_entryStore _ rfl _ _ _ 53 rfl 72 b c f (lineV s (r + (K : Int))) st o' hmid rfl rfl v2 rfl (HO.out w1 _ hb1 hg1 w2 hg2) ?_; intro w3 hm3 hg3 hs3) | fail)
      change w1.grownBy w2 (rowAt f s (r + (K : Int))).ownBlock at hg2
      change v2.ownBlock = (rowAt f s (r + (K : Int))).ownBlock ∨ _ at hat
      have hsz1 := hg1.size
      have hsz2 := hg2.size
      have hxs' := hxs
      have hvb : ∀ k, v2.ownBlock = some k → k ≠ b := by
        intro k hk
        rcases hat with e | e
        · exact (hL.place s (r + K) hs hrK k (by rw [← e]; exact hk)).2
        · have : w1.heap.size = k := by rw [e] at hk; exact Option.some.inj hk
          omega
      have hrow : w3.ownsRow B 3 1 v2 (putC C id s r K s (r + K) ++ [id]).length (ints (putC C id s r K s (r + K) ++ [id])) := by
        have h3 := World.ownsRow.same hown2 (w' := w3) fun k hk => hg3.block k (World.ownsRow.lt hown2 k hk).2 (by simpa using hvb k hk)
        simpa [ints] using h3
      have hT2 := hL.turn hs hrK hm3 (M := N + (K + 1)) (by have := hL.count; split <;> omega) (by omega) hrow (by
        rcases hat with e | e
        · exact .inl e
        · exact .inr ⟨_, e, by omega⟩) (fun k hk hkb hkr => by
          rw [hg3.block k (by omega) (by simpa using hkb), hg2.block k (by omega) (fun e => hkr e.symm), hg1.block k (by omega) (by simpa using hkb)]
          exact hBx.block k hk)
      rw [putC_step] at hT2
      refine ⟨⟨K + 1, _, by go_num, by omega, ⟨_, _, hT2⟩, ?_, ?_, ?_⟩, by simp [intOf]; omega⟩
      · rintro k (hk | ⟨_, hk⟩)
        · exact hT' k hk
        · exact .inr (by omega)
      · refine hturn.trans (T' := T') ⟨?_, ?_, ?_, by omega, ?_⟩ (fun k hk => (hT' k hk).imp (fun x => x) fun h => by omega)
        · exact (hg3.os.trans hg2.os).trans (hg1.os.trans hBx.os)
        · exact (hg3.tape.trans hg2.tape).trans (hg1.tape.trans hBx.tape)
        · exact (hg3.output.trans hg2.output).trans (hg1.output.trans hBx.output)
        · intro k hk hn
          have hkb : k ≠ b := fun e => hn (e ▸ hL.own)
          rw [hg3.block k (by omega) (by simpa using hkb), hg2.block k (by omega) (fun e => hn (hL.place s (r + K) hs hrK k e.symm).1), hg1.block k (by omega) (by simpa using hkb)]
          exact hBx.block k hk
      · have hn : ¬ T' w.heap.size := fun hk => by
          rcases hT' _ hk with h1 | h1
          · obtain ⟨f0, c0, h0⟩ := h
            have := (h0.low _ h1).2
            omega
          · omega
        have hkb : w.heap.size ≠ b := fun e => hn (e ▸ hL.own)
        refine (World.cell?_of_block (a := ⟨w.heap.size, 0, none⟩) ?_).trans hc0
        show w3.heap[w.heap.size]? = wr.heap[w.heap.size]?
        rw [hg3.block _ (by omega) (by simpa using hkb), hg2.block _ (by omega) (fun e => hn (hL.place s (r + K) hs hrK _ e.symm).1), hg1.block _ (by omega) (by simpa using hkb)]
        exact hBx.block _ hws
    · obtain rfl : K = n := by omega
      go_wp2_with fail
      go_end0
      exact ⟨rfl, T', ⟨f, c, hL⟩, fun k hk => (hT' k hk).imp (fun x => x) fun h => by omega, hturn⟩
end Go.Proofs.YtnbfkhcignjfoaaDoor
