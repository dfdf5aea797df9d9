/- The iterator near: what comes, at every loop body that keeps what it must. -/
import Derived.Test.YtnbfkhcignjfoaaDoorKp
import Derived.WalkMore
import Derived.ControlIn
namespace Go.Proofs.YtnbfkhcignjfoaaDoor
open Go Go.RowKit Go.Maps Go.Shelf
attribute [local go_sem] Oper.semAt_some

theorem lns_shape {w : World} {D n : Nat} {lv : Value} {s r : Int} (hl : w.ownsRow D 72 2 lv n (lns s r n)) :
    ∃ p cap, lv = .slice p n cap ∧ ∀ K, K < n → ∃ g, p = some ⟨g, 0, none⟩ ∧ D ≤ g ∧ g < w.heap.size ∧ w.cell? ⟨g, K * 2, none⟩ = some (.int .i64 s) ∧ w.cell? ⟨g, K * 2 + 1, none⟩ = some (.int .i64 (r + K)) := by
  rcases hl.2 with ⟨rfl, rfl⟩ | ⟨g, cap, cur, rfl, hg, hb, h1, h2, h3, h4⟩
  · exact ⟨none, 0, rfl, fun K hK => absurd hK (by omega)⟩
  · refine ⟨_, cap, rfl, fun K hK => ⟨g, rfl, hg, (Array.getElem?_eq_some_iff.1 hb).1, ?_, ?_⟩⟩
    · have := hl.cells (g := g) rfl (K * 2) _ (lns_at s r n K hK).1
      unfold Addr.add at this
      split at this
      · rename_i h0
        rw [h0]; exact this
      · simpa using this
    · have := hl.cells (g := g) rfl (K * 2 + 1) _ (lns_at s r n K hK).2
      simpa [Addr.add] using this
theorem ints_shape {w : World} {D : Nat} {v : Value} {zs : List Int} (hl : w.ownsRow D 3 1 v zs.length (ints zs)) :
    ∃ p cap, v = .slice p zs.length cap ∧ ∀ j z, zs[j]? = some z → ∃ g, p = some ⟨g, 0, none⟩ ∧ v.ownBlock = some g ∧ w.cell? ⟨g, j, none⟩ = some (.int .i64 z) := by
  rcases hl.2 with ⟨rfl, h0⟩ | ⟨g, cap, cur, rfl, hg, hb, h1, h2, h3, h4⟩
  · rw [h0]
    exact ⟨none, 0, rfl, fun j z hz => by
      have := List.eq_nil_of_length_eq_zero h0
      subst this
      simp at hz⟩
  · refine ⟨_, cap, rfl, fun j z hz => ⟨g, rfl, rfl, ?_⟩⟩
    have := hl.cells (g := g) rfl j (.int .i64 z) (by simp [ints, hz])
    unfold Addr.add at this
    split at this
    · rename_i h0
      rw [h0]; exact this
    · simpa using this
section
variable {X : Nat → Prop} {Bo : Nat} {w1 wr : World}
theorem KpX.keepB (hK : KpX X Bo w1 wr) (h0 : rowOf w1 Bo = none) {k : Nat} {o : Obj} (hk : w1.heap[k]? = some o) (ho : o.isCells = true ∨ o.isWalk = true) (hB : k ≠ Bo) (hX : ¬ X k) : wr.heap[k]? = w1.heap[k]? :=
  (hK.same k o hk ho hB hX (by rw [h0]; simp)).trans hk.symm
theorem KpX.mp {P : Program} {t : TypeId} {b c : Nat} {m : Value → Option Value} (hK : KpX X Bo w1 wr) (h0 : rowOf w1 Bo = none) (hm : World.mp w1 P t b m c) (hB : b ≠ Bo) (hX : ¬ X b) : World.mp wr P t b m c := by
  obtain ⟨es, clock, hb⟩ := hm.isMap
  exact hm.same (hK.keepB h0 hb (.inr rfl) hB hX)
theorem KpX.owns {base size n : Nat} {e : TypeId} {v : Value} {xs : List Value} (hK : KpX X Bo w1 wr) (h0 : rowOf w1 Bo = none) (hm : w1.ownsRow base e size v n xs) (hB : ∀ k, v.ownBlock = some k → k ≠ Bo ∧ ¬ X k) : wr.ownsRow base e size v n xs := by
  rcases hm.2 with ⟨rfl, h1⟩ | ⟨g, cap, cur, rfl, hg, hb, _⟩
  · exact hm.same fun k hk => by simp [Value.ownBlock] at hk
  · exact hm.same fun k hk => by
      have hk' := hk
      simp only [Value.ownBlock, Option.some.injEq] at hk'
      subst hk'
      exact hK.keepB h0 hb (.inl rfl) (hB _ hk).1 (hB _ hk).2
theorem KpX.cell {a : Addr} {v : Value} (hK : KpX X Bo w1 wr) (h0 : rowOf w1 Bo = none) (hc : w1.cell? a = some v) (hB : a.block ≠ Bo) (hX : ¬ X a.block) : wr.cell? a = some v := by
  have hc' := hc
  unfold World.cell? at hc'
  split at hc'
  · rename_i cs t fz hh
    exact (World.cell?_of_block (hK.keepB h0 hh (.inl rfl) hB hX)).trans hc
  · cases hc'
end
set_option maxRecDepth 100000 in
set_option maxHeartbeats 4000000 in
theorem near1_in (l ba bx Bo B bi N ma mb c : Nat) (L : Ids) (T1 : Nat → Prop) (f g : Value → Option Value) (s r cc m : Int) (M : Nat) (J Jx : Ids → World → Prop)
    (W : World) (hY : ∀ pre x W1, J pre W1 → pre.length < L.length → YieldAt Fence.wide (3 - 1) Tryd.prog l #[.int .i64 x.1, x.2.v] W1 fun e W' =>
      (e = .returned (.bool true) ∧ J (pre ++ [x]) W' ∧ KpB Bo W1 W') ∨ (e = .returned (.bool false) ∧ Jx (pre ++ [x]) W'))
    (hJ : AbidesFrom W.heap.size J) (_hJx : AbidesFrom W.heap.size Jx) (h0 : J [] W)
    (hI : IxAt W B bi L N T1 ma mb f c g) (har : World.area W ba s r cc M m) (hbx : W.cell? ⟨bx, 0, none⟩ = some (.pointer (some ⟨bi, 0, none⟩)))
    (hBo : W.cell? ⟨Bo, 0, none⟩ = some nilS) (hfar : ∀ k, (T1 k ∨ k = mb ∨ k = bi ∨ k = ba ∨ k = bx) → k ≠ Bo)
    (hs : i64R s) (hr : i64R r) (hn : M ≤ 200) (hr1 : r + M ≤ 9223372036854775808) (hN : N ≤ 100000) :
    CallsIn Fence.wide 3 Tryd.prog 44 #[.func (.yield l) #[] #[], .pointer (some ⟨ba, 0, none⟩), .pointer (some ⟨bx, 0, none⟩)] W fun e W' => (∃ v, e = .returned v) ∧
      ((∃ ys, Come L s r M 0 ys ∧ J ys W') ∨ (∃ pre, True ∧ Jx pre W')) := by
  have hba := har.lt
  have hbx' : bx < W.heap.size := W.block_lt_of_cell? _ hbx
  have hBo' : Bo < W.heap.size := W.block_lt_of_cell? _ hBo
  have c0 := har.cell 0 _ rfl
  have c1 := har.cell 1 _ rfl
  have c2 := har.cell 2 _ rfl
  have c3 := har.cell 3 _ rfl
  have c4 := har.cell 4 _ rfl
  have hmm := @run_makeMap Tryd.prog
  refine callsIn_of_wp Tryd.func44 rfl trivial ?_ rfl
  simp only [Tryd.ntmps44, List.size_toArray, List.length_cons, List.length_nil, Nat.reduceAdd, Nat.reduceSub, Array.replicate_succ, Array.replicate_zero, List.push_toArray, List.append_toArray, List.nil_append, List.cons_append]
  refine (wpIn_wide (n := 3)).2 (wp_scope_straight ((wpIn_wide (n := 3)).1 ?_))
  gi_wp2_with fail
  refine (wpIn_wide (n := 3)).2 ?_
  go_step3
  have HOF : ∀ w, Calls Tryd.prog 26 #[areaV s r cc M m] w (OfPost s r M w) := fun w => by
    have := of_any s r cc M m w (by omega) hr.1 hr1 hr.2
    simpa only [Int.toNat_natCast] using this
  gi_wp2_with (refine ⟨trivial, ?_⟩; gi_at_call 26; refine (callsIn_wide.2 (HOF _)).mono ?_; rintro e w1 ⟨v, rfl, hown, hB1⟩; obtain ⟨p, cap, rfl, hcells⟩ := lns_shape hown)
  have hBW : Below W.heap.size W w1 := ((Below.refl W.heap.size W).alloc (Nat.le_refl _) (.map #[] 0)).trans (hB1.mono (by simp))
  have hsz1 : W.heap.size + 1 ≤ w1.heap.size := by have := hB1.size; simpa using this
  have hI1 := hI.below hBW (Nat.le_refl _)
  have hm0 : World.mp w1 Tryd.prog 3 W.heap.size (metF []) 0 := by
    rw [metF_nil]
    exact (World.mp_made W Tryd.prog 3).below hB1 (by simp)
  have hJ1 : J [] w1 := hJ _ _ _ none h0 ⟨hBW.os, hBW.tape, hBW.output, hBW.size, fun k hk _ => hBW.block k hk⟩ (fun r e => by cases e)
  have hr0 : rowOf w1 Bo = none := by
    rw [rowOf_same (hBW.block Bo hBo')]
    unfold rowOf
    rw [hBo]; rfl
  have hbx1 := (hBW.cell (p := ⟨bx, 0, none⟩) hbx').trans hbx
  have hlt1 := hI1.lt
  have hnb : ∀ k, (T1 k ∨ k = mb ∨ k = bi ∨ k = ba ∨ k = bx) → k ≠ W.heap.size := fun k hk e => by
    subst e
    rcases hk with hk | hk | hk | hk | hk
    · exact absurd (hI.lt _ (.inl hk)).2 (Nat.lt_irrefl _)
    · exact absurd (hI.lt _ (.inr (.inl hk))).2 (Nat.lt_irrefl _)
    · exact absurd (hI.lt _ (.inr (.inr hk))).2 (Nat.lt_irrefl _)
    · omega
    · omega
  have hcells' : ∀ K, K < M → ∃ g, p = some ⟨g, 0, none⟩ ∧ g ≠ Bo ∧ g ≠ W.heap.size ∧ w1.cell? ⟨g, K * 2, none⟩ = some (.int .i64 s) ∧ w1.cell? ⟨g, K * 2 + 1, none⟩ = some (.int .i64 (r + K)) := fun K hK => by
    obtain ⟨g, e, hg, _, h1, h2⟩ := hcells K hK
    simp at hg
    exact ⟨g, e, by omega, by omega, h1, h2⟩
  clear hcells hown hB1 c0 c1 c2 c3 c4 hmm HOF
  gi_loopw [13] (fun i wr => ∃ (K : Nat) (pre : Ids), i = .int .i64 (K : Int) ∧ K ≤ M ∧ Come L s r K 0 pre ∧ J pre wr ∧ KpX (fun k => k = W.heap.size) Bo w1 wr ∧ World.mp wr Tryd.prog 3 W.heap.size (metF (pre.map Prod.fst)) pre.length)
    (fun i _ => M - (intOf i).toNat)
  case atStart => exact ⟨0, [], rfl, Nat.zero_le _, come_zero L s r, hJ1, KpX.refl _ _ _, hm0⟩
  case round =>
    obtain ⟨K, pre, rfl, hK, hcome, hJp, hkp, hmet⟩ := hrel
    by_cases hlt : K < M
    · obtain ⟨g0, rfl, hg1, hg2, hk1, hk2⟩ := hcells' K hlt
      have e1 := hkp.cell hr0 hk1 hg1 hg2
      have e2 := hkp.cell hr0 hk2 hg1 hg2
      clear hcells' hk1 hk2
      have hkn : (K : Int) < M := by omega
      have hrK : i64R (r + (K : Int)) := ⟨by have := hr.1; omega, by omega⟩
      obtain ⟨kl, hkl⟩ := key72 hs hrK
      gi_wp2
      obtain ⟨W4, hW4⟩ : ∃ W4, W4 = wr.alloc (.cells #[.int .i64 s, .int .i64 (r + (K : Int))] 72) := ⟨_, rfl⟩
      rw [← hW4]
      have hB4 : Below wr.heap.size wr W4 := by rw [hW4]; exact (Below.refl _ _).alloc (Nat.le_refl _) _
      have hrow4 : W4.heap[wr.heap.size]? = some (.cells #[.int .i64 s, .int .i64 (r + (K : Int))] 72 (0, 0)) := by rw [hW4]; exact (MapKept.heap_alloc wr _).1
      clear hW4
      have hkp4 : KpX (fun k => k = W.heap.size) Bo w1 W4 := hkp.trans (KpX.below hB4 (Nat.le_refl _) (Nat.lt_of_lt_of_le (Nat.lt_of_lt_of_le hBo' hBW.size) hkp.size) (by show ¬ Bo = _; omega))
      have hJ4 : J pre W4 := hJ _ _ _ none hJp ⟨hB4.os, hB4.tape, hB4.output, hB4.size, fun k hk _ => hB4.block k hk⟩ (fun r e => by cases e)
      have hmet4 := hmet.below hB4 hmet.lt
      have b1 := hkp4.cell hr0 hbx1 (hfar _ (.inr (.inr (.inr (.inr rfl))))) (hnb _ (.inr (.inr (.inr (.inr rfl)))))
      have b2 := hkp4.cell hr0 hI1.c0 (hfar _ (.inr (.inr (.inl rfl)))) (hnb _ (.inr (.inr (.inl rfl))))
      have b3 := hkp4.cell hr0 hI1.c1 (hfar _ (.inr (.inr (.inl rfl)))) (hnb _ (.inr (.inr (.inl rfl))))
      have d1 : W4.cell? ⟨wr.heap.size, 0, none⟩ = some (.int .i64 s) := (cell_of_row W4 wr.heap.size 0 _ _ _ hrow4).trans rfl
      have d2 : W4.cell? ⟨wr.heap.size, 1, none⟩ = some (.int .i64 (r + (K : Int))) := (cell_of_row W4 wr.heap.size 1 _ _ _ hrow4).trans rfl
      have hrw1 := hI1.lines.row s (r + K) hs hrK
      obtain ⟨p2, cap2, hsh, hids⟩ := ints_shape hrw1
      have hma := hkp4.mp hr0 hI1.lines.map (hfar _ (.inl hI1.lines.own)) (hnb _ (.inl hI1.lines.own))
      have hlook : ∀ nn, (Instr.lookup 53 (.map (some ma)) (lineV s (r + (K : Int))) false).run Tryd.prog (W4.drewN nn) = .ok (.slice p2 (cov L s (r + K)).length cap2) (W4.drewN nn) := fun nn => by
        have := (hma.same (w' := W4.drewN nn) rfl).look keyed72 Tryd.underlying53 (Tryd.zeroValue40 _) hkl false
        rw [if_neg (by decide)] at this
        rw [this]
        show Result.ok (rowAt f s (r + (K : Int))) (W4.drewN nn) = _
        rw [hsh]
      refine (wpIn_wide (n := 3)).2 ?_
      go_quiet (fail)
      obtain ⟨W5, hW5⟩ : ∃ W5, W5 = W4.drewN nq := ⟨_, rfl⟩
      rw [← hW5]
      have hB5 : Below W4.heap.size W4 W5 := by rw [hW5]; exact ⟨rfl, rfl, rfl, Nat.le_refl _, fun _ _ => rfl⟩
      clear hW5 hlook
      have hkp5 : KpX (fun k => k = W.heap.size) Bo w1 W5 := hkp4.trans (KpX.below hB5 (Nat.le_refl _) (Nat.lt_of_lt_of_le (Nat.lt_of_lt_of_le hBo' hBW.size) hkp4.size) (by show ¬ Bo = _; omega))
      have hJ5 : J pre W5 := hJ _ _ _ none hJ4 ⟨hB5.os, hB5.tape, hB5.output, hB5.size, fun k hk _ => hB5.block k hk⟩ (fun r e => by cases e)
      have hmet5 := hmet4.below hB5 hmet4.lt
      have hlB := hI1.good
      have hpl : ∀ g', p2 = some ⟨g', 0, none⟩ → g' ≠ Bo ∧ g' ≠ W.heap.size := fun g' e => by
        have hob : (rowAt f s (r + (K : Int))).ownBlock = some g' := by rw [hsh, e]; rfl
        have hT := (hI1.lines.place s (r + K) hs hrK g' hob).1
        exact ⟨hfar _ (.inl hT), hnb _ (.inl hT)⟩
      clear hkp hJp hmet hkp4 hJ4 hmet4 hma b1 b2 b3 d1 d2 e1 e2
      gi_wp2
      gi_loopw [25] (fun j wi => ∃ (jj : Nat) (pre : Ids), j = .int .i64 (jj : Int) ∧ jj ≤ (cov L s (r + K)).length ∧ Come L s r K jj pre ∧ J pre wi ∧ KpX (fun k => k = W.heap.size) Bo w1 wi ∧ World.mp wi Tryd.prog 3 W.heap.size (metF (pre.map Prod.fst)) pre.length)
        (fun j _ => (cov L s (r + K)).length - (intOf j).toNat)
      case atStart => exact ⟨0, pre, rfl, Nat.zero_le _, hcome, hJ5, hkp5, hmet5⟩
      case round =>
        clear hcome hJ5 hkp5 hmet5
        obtain ⟨jj, pre, rfl, hjj, hcome, hJp, hkp, hmet⟩ := hrel
        by_cases hjl : jj < (cov L s (r + (K : Int))).length
        · obtain ⟨z, hz⟩ : ∃ z, (cov L s (r + (K : Int)))[jj]? = some z := ⟨_, List.getElem?_eq_getElem hjl⟩
          obtain ⟨g1, rfl, hob, hzc⟩ := hids jj z hz
          have ez := hkp.cell hr0 hzc (hpl g1 rfl).1 (hpl g1 rfl).2
          obtain ⟨a, haL⟩ := cov_mem hz
          have hzr := hlB.right _ haL
          have hk3 := key3 (x := z) ⟨by omega, by omega⟩
          have hcl : (cov L s (r + (K : Int))).length ≤ 100000 := by have := cov_len L s (r + K); have := hI1.len; omega
          have hj1 : jj + 1 ≤ (cov L s (r + (K : Int))).length := hjl
          have hj2 : (cov L s (r + (K : Int))).length - (jj + 1) < (cov L s (r + (K : Int))).length - jj := by omega
          have hjn : (jj : Int) < ((cov L s (r + (K : Int))).length : Int) := by omega
          have hlk := hmet.look keyed3 Tryd.underlying85 (Tryd.zeroValue4 _) hk3 false
          rw [if_neg (by decide)] at hlk
          by_cases hm : z ∈ pre.map Prod.fst
          · have hlk' : (Instr.lookup 85 (.map (some W.heap.size)) (.int .i64 z) false).run Tryd.prog wr = .ok (.bool true) wr := by
              rw [hlk]
              simp [metF, hm]
            clear hlk
            gi_wp2
            go_roundw
            case rel => exact ⟨jj + 1, pre, by go_num, hj1, hcome.skip hlB hz hm, hJp, hkp, hmet⟩
            case measure => simpa [intOf] using hj2
          · have hlk' : (Instr.lookup 85 (.map (some W.heap.size)) (.int .i64 z) false).run Tryd.prog wr = .ok (.bool false) wr := by
              rw [hlk]
              simp [metF, hm]
            clear hlk
            have hcm : pre.length < L.length := by
              have h1 := hcome.add hlB hz hm haL
              have h2 := come_len h1.nodup (fun p hp => ((h1.mem p).1 hp).1)
              rw [List.length_append] at h2
              exact h2
            obtain ⟨es', clock', hst, hmet6⟩ := hmet.store keyed3 Tryd.underlying85 (by have := hI1.len; unfold maxLen; omega) hk3 (.bool true)
            obtain ⟨w6, hw6⟩ : ∃ w6, w6 = ChangeMaps.setBlock wr W.heap.size (.map es' clock') := ⟨_, rfl⟩
            rw [← hw6] at hst hmet6
            have hg6 : wr.grownBy w6 (some W.heap.size) := by rw [hw6]; exact setBlock_grown _ _ _
            clear hw6
            have hmlt := hmet.lt
            have hkp6 : KpX (fun k => k = W.heap.size) Bo w1 w6 := hkp.trans (KpX.step hg6.size (fun k hk hX => hg6.block k hk (by simpa using hX)) (by omega) (by show ¬ Bo = _; omega))
            have hJ6 : J pre w6 := hJ _ _ _ _ hJp hg6 (fun k e => by
              cases e
              obtain ⟨es, ck, hes⟩ := hmet.isMap
              exact ⟨Nat.le_refl _, _, hes, rfl⟩)
            have hmF : (metF (pre.map Prod.fst) (.int .i64 z)).isSome = false := by simp [metF, hm]
            rw [hmF, metF_upd, if_neg (by decide)] at hmet6
            have b1 := hkp6.cell hr0 hbx1 (hfar _ (.inr (.inr (.inr (.inr rfl))))) (hnb _ (.inr (.inr (.inr (.inr rfl)))))
            have b3 := hkp6.cell hr0 hI1.c1 (hfar _ (.inr (.inr (.inl rfl)))) (hnb _ (.inr (.inr (.inl rfl))))
            have hlka : (Instr.lookup 56 (.map (some mb)) (.int .i64 z) false).run Tryd.prog w6 = .ok a.v w6 := by
              have := (hkp6.mp hr0 hI1.areas (hfar _ (.inr (.inl rfl))) (hnb _ (.inr (.inl rfl)))).look keyed3 Tryd.underlying56 (Tryd.zeroValue31 _) hk3 false
              rw [if_neg (by decide)] at this
              rw [this, hI1.at_ z, (areaAt_some hlB).2 haL]
              rfl
            obtain ⟨fn, tmps, assign, body, hy, hR⟩ := hY pre (z, a) w6 hJ6 hcm
            dsimp only at hy
            gi_wp2
            refine hR.mono ?_
            rintro e W7 (⟨rfl, hJ7, hk7⟩ | ⟨rfl, hJx7⟩)
            · have hkp7 : KpX (fun k => k = W.heap.size) Bo w1 W7 := hkp6.trans (hk7.mono fun _ h => h.elim)
              have hmet7 : World.mp W7 Tryd.prog 3 W.heap.size (metF (pre.map Prod.fst ++ [z])) (pre.length + 1) := by
                obtain ⟨es, ck, hes⟩ := hmet6.isMap
                refine hmet6.same ((hk7.same _ _ hes (.inr rfl) (by omega) (fun h => h) ?_).trans hes.symm)
                rcases hkp6.row with e | ⟨k, e, hk⟩
                · rw [e, hr0]; simp
                · rw [e]
                  intro e'
                  have := Option.some.inj e'
                  omega
              gi_wp2
              go_roundw
              case rel => exact ⟨jj + 1, pre ++ [(z, a)], by go_num, hj1, hcome.add hlB hz hm haL, hJ7, hkp7, by simpa using hmet7⟩
              case measure => simpa [intOf] using hj2
            · gi_wp2
              rw [Exit.noGoto_normal]
              refine bodyPost_end (results_none rfl _ _ _) rfl ?_
              exact ⟨⟨_, rfl⟩, .inr ⟨_, trivial, hJx7⟩⟩
        · obtain rfl : jj = (cov L s (r + (K : Int))).length := by omega
          have hnx := hcome.next hlB
          gi_wp2
          go_roundw
          case rel => exact ⟨K + 1, pre, by go_num, by omega, hnx, hJp, hkp, hmet⟩
          case measure => simp [intOf]; omega
    · obtain rfl : K = M := by omega
      gi_wp2
      rw [Exit.noGoto_normal]
      refine bodyPost_end (results_none rfl _ _ _) rfl ?_
      exact ⟨⟨_, rfl⟩, .inl ⟨pre, hcome, hJp⟩⟩
end Go.Proofs.YtnbfkhcignjfoaaDoor
