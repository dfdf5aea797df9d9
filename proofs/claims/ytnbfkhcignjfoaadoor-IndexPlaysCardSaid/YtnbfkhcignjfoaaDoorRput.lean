/- The reference index's operations: Drop, Put. -/
import Derived.Test.YtnbfkhcignjfoaaDoorRfn
namespace Go.Proofs.YtnbfkhcignjfoaaDoor
open Go Go.RowKit Go.Maps

theorem info67k : (Tryd.prog.info? 67).map (fun i => (i.zero.map fun z => z.cells.size, i.size, i.bytes)) = some (some 6, 6, 48) := by kernel_rfl
theorem info67 : ∃ i z, Tryd.prog.info? 67 = some i ∧ i.zero = some z ∧ z.cells.size = 6 ∧ i.size = 6 ∧ i.bytes = 48 := by
  have h := info67k
  cases hi : Tryd.prog.info? 67 with
  | none => rw [hi] at h; cases h
  | some i =>
    rw [hi] at h
    simp only [Option.map_some, Option.some.injEq, Prod.mk.injEq] at h
    obtain ⟨h1, h2, h3⟩ := h
    cases hz : i.zero with
    | none => rw [hz] at h1; cases h1
    | some z =>
      rw [hz] at h1
      exact ⟨i, z, rfl, hz, by simpa using h1, h2, h3⟩

/-- The reference index behind an operation. -/
def RLeft (v u : Value) (B bi : Nat) (R : Ids) (w : World) (e : Ending) (w' : World) : Prop :=
  e = .returned v ∧ (∃ u', Rx w' B bi u' R ∧ (u' = u ∨ ∀ k, u'.ownBlock = some k → w.heap.size ≤ k)) ∧ Turned (fun k => k = bi) w w'
theorem items_read {R : Ids} {K : Nat} {p : Int × Ar} (hp : R[K]? = some p) : items (R.take (K + 1)) = items (R.take K) ++ itemC p := by
  rw [List.take_add_one, hp, items_app]
  simp [items]
theorem dropL_succ {R : Ids} {id : Int} {K : Nat} {p : Int × Ar} (hp : R[K]? = some p) : dropL (R.take (K + 1)) id = dropL (R.take K) id ++ dropL [p] id := by
  rw [List.take_add_one, hp]
  unfold dropL
  rw [List.filter_append]
  rfl
theorem dropL_t {R : Ids} {id : Int} {K : Nat} {p : Int × Ar} (hp : R[K]? = some p) (hm : (p.1 != id) = true) : dropL (R.take (K + 1)) id = dropL (R.take K) id ++ [p] := by
  rw [dropL_succ hp]
  unfold dropL
  simp at hm
  simp [hm]
theorem dropL_f {R : Ids} {id : Int} {K : Nat} {p : Int × Ar} (hp : R[K]? = some p) (hm : (p.1 != id) = false) : dropL (R.take (K + 1)) id = dropL (R.take K) id := by
  rw [dropL_succ hp]
  unfold dropL
  simp at hm
  simp [hm]
theorem dropL_le (R : Ids) (id : Int) : (dropL R id).length ≤ R.length := by
  unfold dropL
  exact List.length_filter_le _ _
theorem dropK_le (R : Ids) (id : Int) (K : Nat) : (dropL (R.take K) id).length ≤ R.length := by
  refine Nat.le_trans (dropL_le _ _) ?_
  rw [List.length_take]
  omega
/-- The own block is set, another row stands in it. -/
theorem Rx.set_ {w : World} {B bi : Nat} {v u : Value} {R : Ids} (hh : w.heap[bi]? = some (.cells #[v] 29 (0, 0))) (hr : w.ownsRow B 67 6 u R.length (items R)) (hb : B ≤ bi) : Rx (w.setCell ⟨bi, 0, none⟩ u) B bi u R := by
  have hx : Rx w B bi v R → True := fun _ => trivial
  have hap : u.ownBlock ≠ some bi := by
    rcases hr.2 with ⟨rfl, _⟩ | ⟨g, cap, cur, rfl, _, h2, _⟩
    · simp [Value.ownBlock]
    · intro he
      have : g = bi := by simpa [Value.ownBlock] using he
      subst this
      rw [hh] at h2
      injection h2 with h2
      injection h2 with _ ht
      cases ht
  refine ⟨?_, hr.same fun k hk => Below.heap_setCell w _ u k (fun e => hap (by rw [hk, e])), hb⟩
  simp [World.setCell, Array.getElem?_modify, hh]
theorem setCell_turned (w : World) (bi : Nat) (u : Value) : Turned (fun k => k = bi) w (w.setCell ⟨bi, 0, none⟩ u) :=
  ⟨rfl, rfl, rfl, by simp, fun k hk hn => Below.heap_setCell w _ u k hn⟩

set_option maxRecDepth 100000 in
set_option maxHeartbeats 4000000 in
theorem rdrop_any {B bi : Nat} {v : Value} {R : Ids} (id : Int) (w : World) (h : Rx w B bi v R) (hBw : B ≤ w.heap.size) (hl : R.length ≤ 100000) :
    Calls Tryd.prog 12 #[.pointer (some ⟨bi, 0, none⟩), .int .i64 id] w (RLeft (.bool (decide ((dropL R id).length < R.length))) v B bi (dropL R id) w) := by
  have HX := Lib.hid h
  obtain ⟨A, cap, rfl, hcap, hrd, hit⟩ := h.shape
  have c0 := h.c0
  have z0 := h.z0
  have hbi := h.lt
  have HI := Lib.hid hit
  clear hrd hit h
  go_enter Tryd.func12, Tryd.ntmps12
  go_wp2_with fail
  obtain ⟨i0, z0i, hi, hz0, hzs, hz1, hz2⟩ := info67
  have HI3 := Lib.hid hi
  have HZ0 := Lib.hid hz0
  have HZ1 := Lib.hid hz1
  have HZ2 := Lib.hid hz2
  have HZS := Lib.hid hzs
  clear hi hz0 hz1 hz2 hzs
  go_loopw [5, 6] (fun o i wr => ∃ K : Nat, i = .int .i64 (K : Int) ∧ K ≤ R.length ∧ wr.ownsRow w.heap.size 67 6 o (dropL (R.take K) id).length (items (dropL (R.take K) id)) ∧ Below w.heap.size w wr) (fun _ i _ => R.length - (intOf i).toNat)
  case atStart => exact ⟨0, rfl, Nat.zero_le _, owns_nil _ _ _ _, Below.refl _ _⟩
  case round =>
    obtain ⟨K, rfl, hK, hown, hBr⟩ := hrel
    have c0 := (hBr.cell (p := ⟨bi, 0, none⟩) hbi).trans c0
    have hzs := hBr.size
    by_cases hlt : K < R.length
    · obtain ⟨p, hp⟩ : ∃ p, R[K]? = some p := ⟨_, List.getElem?_eq_getElem hlt⟩
      obtain ⟨g, rfl, hg, hc⟩ := HI.out K p hp
      have hkn : (K : Int) < (R.length : Int) := by omega
      have x0 := (hBr.cell (p := ⟨g, K * 6 + 0, none⟩) hg).trans (hc 0 _ (by omega) rfl)
      have x1 := (hBr.cell (p := ⟨g, K * 6 + 1, none⟩) hg).trans (hc 1 _ (by omega) rfl)
      have x2 := (hBr.cell (p := ⟨g, K * 6 + 2, none⟩) hg).trans (hc 2 _ (by omega) rfl)
      have x3 := (hBr.cell (p := ⟨g, K * 6 + 3, none⟩) hg).trans (hc 3 _ (by omega) rfl)
      have x4 := (hBr.cell (p := ⟨g, K * 6 + 4, none⟩) hg).trans (hc 4 _ (by omega) rfl)
      have x5 := (hBr.cell (p := ⟨g, K * 6 + 5, none⟩) hg).trans (hc 5 _ (by omega) rfl)
      rw [Nat.add_zero] at x0
      clear hc
      have HP := Lib.hid hp
      clear hp
      cases hm : (p.1 != id) with
      | true =>
        have HKt := Lib.hid (dropL_t HP.out hm)
        have hnl := dropK_le R id K
        go_wp2_with (at_builtin; refine wpList_append_own_at _ rfl _ _ 27 rfl w.heap.size 67 i0 z0i 6 48 Tryd.underlying27 HI3.out HZ0.out HZ1.out HZ2.out HZS.out (by decide) _ _ _ rfl (hown.alloc _) ⟨wr.heap.size, 0, none⟩ 1 1 (itemC p) rfl rfl ?_ (by simp [itemC, Value.oneCell']) (by unfold maxLen; omega) (by omega) (by simp; omega) ?_; (intro j u hj; exact one_cells wr _ _ j u hj); intro v' w3 hown' hgrow _ hat)
        have hB3 : Below w.heap.size w w3 := by
          refine (hBr.alloc hzs _).trans ((Turned.of_grown (T := fun k => w.heap.size ≤ k) hgrow fun k hk => ?_).below (fun k hk => hk) (by simp; omega))
          exact (World.ownsRow.lt hown k hk).1
        go_roundw
        case rel =>
          refine ⟨K + 1, by go_num, hlt, ?_, hB3⟩
          rw [HKt.out, items_app]
          simpa [items] using hown'
        case measure => simp [intOf]; omega
      | false =>
        have HKf := Lib.hid (dropL_f HP.out hm)
        go_wp2_with fail
        go_roundw
        case rel =>
          refine ⟨K + 1, by go_num, hlt, ?_, hBr⟩
          rw [HKf.out]
          exact hown
        case measure => simp [intOf]; omega
    · obtain rfl : K = R.length := by omega
      have hkn : ¬ ((R.length : Int) < (R.length : Int)) := by omega
      rw [List.take_length] at hown
      obtain ⟨A2, cap2, rfl, hc2⟩ : ∃ A2 cap2, u5 = .slice A2 (dropL R id).length cap2 ∧ True := by
        rcases hown.2 with ⟨h1, h2⟩ | ⟨g, cap, cur, h1, _⟩
        · exact ⟨none, 0, by rw [h1, h2], trivial⟩
        · exact ⟨_, _, h1, trivial⟩
      have z0 : wr.frozen? ⟨bi, 0, none⟩ = false := (hBr.frozen (p := ⟨bi, 0, none⟩) hbi).trans z0
      go_wp2_with fail
      go_ret
      refine ⟨?_, ⟨_, Rx.set_ ((hBr.block bi hbi).trans HX.out.head) (hown.mono hBw) HX.out.base, .inr fun k hk => (World.ownsRow.lt hown k hk).1⟩, (Turned.of_below hBr).trans (setCell_turned _ _ _) fun k hk => .inl hk⟩
      refine ret_bool ?_
      first | rfl | (rw [Bool.eq_iff_iff]; simp)
/-- The reference's numbers behind 'put'. -/
def putR (R : Ids) (k : Nat) (id : Int) (a : Ar) : Ids := R.take k ++ (id, a) :: R.drop k
theorem rx_move {w w' : World} {B bi : Nat} {v : Value} {R : Ids} (h : Rx w B bi v R) (hB : Below w.heap.size w w') : RLeft (.int .i64 2) v B bi R w (.returned (.int .i64 2)) w' :=
  ⟨rfl, ⟨v, h.below hB (Nat.le_refl _), .inl rfl⟩, .of_below hB⟩

set_option maxHeartbeats 1000000 in
theorem rput_bad1 {B bi : Nat} {v : Value} {R : Ids} (id : Int) (a : Ar) (w : World) (h : Rx w B bi v R) (hb : id < 0) :
    Calls Tryd.prog 10 #[.pointer (some ⟨bi, 0, none⟩), .int .i64 id, a.v] w (RLeft (.int .i64 2) v B bi R w) := by
  have HX := Lib.hid h
  clear h
  go_enter Tryd.func10, Tryd.ntmps10
  go_wp2_with (go_at_call 21; refine (right21_any _ _ _ _ _ _).mono ?_; rintro e w1 ⟨rfl, hB1⟩)
  all_goals
    go_ret
    first
      | exact rx_move HX.out ((Below.refl _ _).alloc (Nat.le_refl _) _)
      | exact rx_move HX.out (((Below.refl _ _).alloc (Nat.le_refl _) _).trans (hB1.mono (by simp)))
set_option maxHeartbeats 1000000 in
theorem rput_bad2 {B bi : Nat} {v : Value} {R : Ids} (id : Int) (a : Ar) (w : World) (h : Rx w B bi v R) (hb : 10000 ≤ id) :
    Calls Tryd.prog 10 #[.pointer (some ⟨bi, 0, none⟩), .int .i64 id, a.v] w (RLeft (.int .i64 2) v B bi R w) := by
  have HX := Lib.hid h
  clear h
  have hb0 : ¬ id < 0 := by omega
  go_enter Tryd.func10, Tryd.ntmps10
  go_wp2_with (go_at_call 21; refine (right21_any _ _ _ _ _ _).mono ?_; rintro e w1 ⟨rfl, hB1⟩)
  all_goals
    go_ret
    first
      | exact rx_move HX.out ((Below.refl _ _).alloc (Nat.le_refl _) _)
      | exact rx_move HX.out (((Below.refl _ _).alloc (Nat.le_refl _) _).trans (hB1.mono (by simp)))
set_option maxHeartbeats 1000000 in
theorem rput_bad3 {B bi : Nat} {v : Value} {R : Ids} (id : Int) (a : Ar) (w : World) (h : Rx w B bi v R) (h0 : 0 ≤ id) (h1 : id < 10000) (hb : a.right = false) :
    Calls Tryd.prog 10 #[.pointer (some ⟨bi, 0, none⟩), .int .i64 id, a.v] w (RLeft (.int .i64 2) v B bi R w) := by
  have HX := Lib.hid h
  clear h
  have hb0 : ¬ id < 0 := by omega
  have hb1 : ¬ 10000 ≤ id := by omega
  have hb3 : rightB a.s a.r a.c a.n a.m = false := hb
  go_enter Tryd.func10, Tryd.ntmps10
  go_wp2_with (go_at_call 21; refine (right21_any _ _ _ _ _ _).mono ?_; rintro e w1 ⟨rfl, hB1⟩)
  all_goals
    go_ret
    first
      | exact rx_move HX.out ((Below.refl _ _).alloc (Nat.le_refl _) _)
      | exact rx_move HX.out (((Below.refl _ _).alloc (Nat.le_refl _) _).trans (hB1.mono (by simp)))
theorem rput_bad {B bi : Nat} {v : Value} {R : Ids} (id : Int) (a : Ar) (w : World) (h : Rx w B bi v R) (hb : ¬ (0 ≤ id ∧ id < 10000 ∧ a.right = true)) :
    Calls Tryd.prog 10 #[.pointer (some ⟨bi, 0, none⟩), .int .i64 id, a.v] w (RLeft (.int .i64 2) v B bi R w) := by
  by_cases h0 : id < 0
  · exact rput_bad1 id a w h h0
  · by_cases h1 : 10000 ≤ id
    · exact rput_bad2 id a w h h1
    · refine rput_bad3 id a w h (by omega) (by omega) ?_
      cases ha : a.right with
      | false => rfl
      | true => exact absurd ⟨by omega, by omega, ha⟩ hb
end Go.Proofs.YtnbfkhcignjfoaaDoor
