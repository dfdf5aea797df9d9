/- The reference index's questions: Meet, Len, Meets, Hits. -/
import Derived.Test.YtnbfkhcignjfoaaDoorRix
namespace Go.Proofs.YtnbfkhcignjfoaaDoor
open Go Go.RowKit Go.Maps

set_option maxHeartbeats 4000000 in
theorem rmeet_any {a b : Ar} (ha : a.right = true) (hb : b.right = true) (w : World) :
    Calls Tryd.prog 33 #[a.v, b.v] w fun e w' => e = .returned (.bool (meetR a b)) ∧ Below w.heap.size w w' := by
  obtain ⟨s, r, c, n, m⟩ := a
  obtain ⟨s', r', c', n', m'⟩ := b
  obtain ⟨p1, p2, p3, p4, p5, p6, p7, p8, p9, p10⟩ := rightB_iff.1 (show rightB s r c n m = true from ha)
  obtain ⟨q1, q2, q3, q4, q5, q6, q7, q8, q9, q10⟩ := rightB_iff.1 (show rightB s' r' c' n' m' = true from hb)
  obtain ⟨Z, hZ⟩ : ∃ Z, Z = meetR ⟨s, r, c, n, m⟩ ⟨s', r', c', n', m'⟩ := ⟨_, rfl⟩
  rw [← hZ]
  have HM := Lib.hid (show ∀ z : Bool, (z = true ↔ (s = s' ∧ r < r' + n' ∧ r' < r + n ∧ c < c' + m' ∧ c' < c + m)) → z = Z from fun z h => by
    rw [hZ]
    unfold meetR
    rw [Bool.eq_iff_iff, decide_eq_true_eq]
    exact h)
  clear ha hb hZ
  have e1 : wrap64 (r' + n') = r' + n' := by unfold wrap64; omega
  have e2 : wrap64 (r + n) = r + n := by unfold wrap64; omega
  have e3 : wrap64 (c' + m') = c' + m' := by unfold wrap64; omega
  have e4 : wrap64 (c + m) = c + m := by unfold wrap64; omega
  go_enter Tryd.func33, Tryd.ntmps33
  go_wp2_with fail
  all_goals
    go_ret
    refine ⟨ret_bool (HM.out _ ?_), ((Below.refl _ _).alloc (Nat.le_refl _) _).alloc (by simp) _⟩
    (try rw [e1]); (try rw [e2]); (try rw [e3]); (try rw [e4])
    simp only [decide_eq_true_eq, Bool.false_eq_true, false_iff]
    first | omega | (simp_all; done) | (simp_all; omega)

theorem rlen_any {B bi : Nat} {v : Value} {R : Ids} (w : World) (h : Rx w B bi v R) :
    Calls Tryd.prog 19 #[.pointer (some ⟨bi, 0, none⟩)] w fun e w' => e = .returned (.int .i64 (R.length : Int)) ∧ w' = w := by
  obtain ⟨A, cap, rfl, hcap, hrd, hit⟩ := h.shape
  have c0 := h.c0
  clear hit hrd
  go_enter Tryd.func19, Tryd.ntmps19
  go_wp2_with fail
  go_ret
  exact ⟨rfl, rfl⟩

/-- What the first K items give. -/
def nearK (R : Ids) (b : Ar) (K : Nat) : List Int := near (R.take K) b
theorem near_app (R S : Ids) (b : Ar) : near (R ++ S) b = near R b ++ near S b := by
  unfold near
  rw [List.filter_append, List.map_append]
theorem nearK_zero (R : Ids) (b : Ar) : nearK R b 0 = [] := rfl
theorem nearK_all (R : Ids) (b : Ar) : nearK R b R.length = near R b := by unfold nearK; rw [List.take_length]
theorem nearK_succ {R : Ids} {b : Ar} {K : Nat} {p : Int × Ar} (h : R[K]? = some p) : nearK R b (K + 1) = nearK R b K ++ near [p] b := by
  unfold nearK
  rw [List.take_add_one, h, near_app]
  rfl
theorem nearK_t {R : Ids} {b : Ar} {K : Nat} {p : Int × Ar} (h : R[K]? = some p) (hm : meetR p.2 b = true) : nearK R b (K + 1) = nearK R b K ++ [p.1] := by
  rw [nearK_succ h]
  unfold near
  simp [hm]
theorem nearK_f {R : Ids} {b : Ar} {K : Nat} {p : Int × Ar} (h : R[K]? = some p) (hm : meetR p.2 b = false) : nearK R b (K + 1) = nearK R b K := by
  rw [nearK_succ h]
  unfold near
  simp [hm]
theorem near_len (R : Ids) (b : Ar) : (near R b).length ≤ R.length := by
  unfold near
  rw [List.length_map]
  exact List.length_filter_le _ _
theorem nearK_len (R : Ids) (b : Ar) (K : Nat) : (nearK R b K).length ≤ R.length := by
  refine Nat.le_trans (near_len _ _) ?_
  rw [List.length_take]
  omega

def NearPost (zs : List Int) (w : World) (e : Ending) (w' : World) : Prop := ∃ v, e = .returned v ∧ w'.ownsRow w.heap.size 3 1 v zs.length (ints zs) ∧ Below w.heap.size w w'
theorem owns_nil (w : World) (B : Nat) (e : TypeId) (size : Nat) : w.ownsRow B e size (.slice none 0 0) 0 [] := ⟨by simp, .inl ⟨rfl, rfl⟩⟩

set_option maxRecDepth 100000 in
set_option maxHeartbeats 4000000 in
theorem rmeets_good {B bi : Nat} {v : Value} {R : Ids} {b : Ar} (w : World) (h : Rx w B bi v R) (hR : ∀ p ∈ R, p.2.right = true) (hb : b.right = true) (hl : R.length ≤ 100000) :
    Calls Tryd.prog 17 #[.pointer (some ⟨bi, 0, none⟩), b.v] w (NearPost (near R b) w) := by
  have hbb := Lib.hid (show rightB b.s b.r b.c b.n b.m = true from hb)
  obtain ⟨A, cap, rfl, hcap, hrd, hit⟩ := h.shape
  have c0 := h.c0
  have hbi := h.lt
  clear hrd
  go_enter Tryd.func17, Tryd.ntmps17
  go_wp2_with fail
  obtain ⟨W, hW⟩ : ∃ W, W = w.alloc (.cells #[.int .i64 b.s, .int .i64 b.r, .int .i64 b.c, .int .i64 b.n, .int .i64 b.m] 31) := ⟨_, rfl⟩
  rw [← hW]
  have hB : Below w.heap.size w W := by rw [hW]; exact (Below.refl _ w).alloc (Nat.le_refl _) _
  have hba : World.area W w.heap.size b.s b.r b.c b.n b.m := by rw [hW]; exact World.area_new _ _ _ _ _ _
  have hw1 : W.heap.size = w.heap.size + 1 := by rw [hW]; simp
  have c0 := (hB.cell (p := ⟨bi, 0, none⟩) hbi).trans c0
  have HI := Lib.hid (show ∀ i p, R[i]? = some p → ∃ g, A = some ⟨g, 0, none⟩ ∧ g < w.heap.size ∧ ∀ j u, j < 6 → (itemC p)[j]? = some u → W.cell? ⟨g, i * 6 + j, none⟩ = some u from fun i p hp => by
    obtain ⟨g, e, hg, hc⟩ := hit i p hp
    exact ⟨g, e, hg, fun j u hj hu => (hB.cell (p := ⟨g, i * 6 + j, none⟩) hg).trans (hc j u hj hu)⟩)
  have HB := Lib.hid hB
  clear hW hB hit h
  obtain ⟨i0, hi, hz0, hz1, hz2⟩ := info_parts info3
  have HI3 := Lib.hid hi
  have HZ0 := Lib.hid hz0
  have HZ1 := Lib.hid hz1
  have HZ2 := Lib.hid hz2
  clear hi hz0 hz1 hz2
  go_loopw [5, 6] (fun o i wr => ∃ K : Nat, i = .int .i64 (K : Int) ∧ K ≤ R.length ∧ wr.ownsRow W.heap.size 3 1 o (nearK R b K).length (ints (nearK R b K)) ∧ Below W.heap.size W wr) (fun _ i _ => R.length - (intOf i).toNat)
  case atStart => exact ⟨0, rfl, Nat.zero_le _, owns_nil _ _ _ _, Below.refl _ _⟩
  case round =>
    obtain ⟨K, rfl, hK, hown, hBr⟩ := hrel
    have c0 := (hBr.cell (p := ⟨bi, 0, none⟩) (by simp; omega)).trans c0
    have hba := hba.below hBr hba.lt
    have hzs := hBr.size
    by_cases hlt : K < R.length
    · obtain ⟨p, hp⟩ : ∃ p, R[K]? = some p := ⟨_, List.getElem?_eq_getElem hlt⟩
      obtain ⟨g, rfl, hg, hc⟩ := HI.out K p hp
      have hkn : (K : Int) < (R.length : Int) := by omega
      have x0 := (hBr.cell (p := ⟨g, K * 6 + 0, none⟩) (by simp; omega)).trans (hc 0 _ (by omega) rfl)
      have x1 := (hBr.cell (p := ⟨g, K * 6 + 1, none⟩) (by simp; omega)).trans (hc 1 _ (by omega) rfl)
      have x2 := (hBr.cell (p := ⟨g, K * 6 + 2, none⟩) (by simp; omega)).trans (hc 2 _ (by omega) rfl)
      have x3 := (hBr.cell (p := ⟨g, K * 6 + 3, none⟩) (by simp; omega)).trans (hc 3 _ (by omega) rfl)
      have x4 := (hBr.cell (p := ⟨g, K * 6 + 4, none⟩) (by simp; omega)).trans (hc 4 _ (by omega) rfl)
      have x5 := (hBr.cell (p := ⟨g, K * 6 + 5, none⟩) (by simp; omega)).trans (hc 5 _ (by omega) rfl)
      rw [Nat.add_zero] at x0
      clear hc
      have b0 := hba.cell 0 _ rfl
      have b1 := hba.cell 1 _ rfl
      have b2 := hba.cell 2 _ rfl
      have b3 := hba.cell 3 _ rfl
      have b4 := hba.cell 4 _ rfl
      have HP := Lib.hid hp
      have HPr := Lib.hid (hR p (List.mem_of_getElem? hp))
      clear hp
      have hbl : bi < wr.heap.size := by omega
      have hgl : g < wr.heap.size := by omega
      have hwl : w.heap.size < wr.heap.size := by omega
      have hbl : bi < wr.heap.size := by omega
      have hgl : g < wr.heap.size := by omega
      have hwl : w.heap.size < wr.heap.size := by omega
      go_wp2_with (go_at_call 21; refine (right21_any _ _ _ _ _ _).mono ?_; rintro e w1 ⟨rfl, hB1⟩; have hr1 := hbb.out)
      have c0 := (hB1.cell (p := ⟨bi, 0, none⟩) hbl).trans c0
      have x0 := (hB1.cell (p := ⟨g, K * 6, none⟩) hgl).trans x0
      have x1 := (hB1.cell (p := ⟨g, K * 6 + 1, none⟩) hgl).trans x1
      have x2 := (hB1.cell (p := ⟨g, K * 6 + 2, none⟩) hgl).trans x2
      have x3 := (hB1.cell (p := ⟨g, K * 6 + 3, none⟩) hgl).trans x3
      have x4 := (hB1.cell (p := ⟨g, K * 6 + 4, none⟩) hgl).trans x4
      have x5 := (hB1.cell (p := ⟨g, K * 6 + 5, none⟩) hgl).trans x5
      have b0 := (hB1.cell (p := ⟨w.heap.size, 0, none⟩) hwl).trans b0
      have b1 := (hB1.cell (p := ⟨w.heap.size, 1, none⟩) hwl).trans b1
      have b2 := (hB1.cell (p := ⟨w.heap.size, 2, none⟩) hwl).trans b2
      have b3 := (hB1.cell (p := ⟨w.heap.size, 3, none⟩) hwl).trans b3
      have b4 := (hB1.cell (p := ⟨w.heap.size, 4, none⟩) hwl).trans b4
      have hbl := Nat.lt_of_lt_of_le hbl hB1.size
      have hgl := Nat.lt_of_lt_of_le hgl hB1.size
      have hwl := Nat.lt_of_lt_of_le hwl hB1.size
      have hown := hown.below hB1
      have hBr := hBr.trans (hB1.mono hzs)
      have hzs := Nat.le_trans hzs hB1.size
      have c0 : w1.drew.cell? ⟨bi, 0, none⟩ = some (.slice (some ⟨g, 0, none⟩) R.length cap) := c0
      have x0 : w1.drew.cell? ⟨g, K * 6, none⟩ = some (.int .i64 p.1) := x0
      have x1 : w1.drew.cell? ⟨g, K * 6 + 1, none⟩ = some (.int .i64 p.2.s) := x1
      have x2 : w1.drew.cell? ⟨g, K * 6 + 2, none⟩ = some (.int .i64 p.2.r) := x2
      have x3 : w1.drew.cell? ⟨g, K * 6 + 3, none⟩ = some (.int .i64 p.2.c) := x3
      have x4 : w1.drew.cell? ⟨g, K * 6 + 4, none⟩ = some (.int .i64 p.2.n) := x4
      have x5 : w1.drew.cell? ⟨g, K * 6 + 5, none⟩ = some (.int .i64 p.2.m) := x5
      have b0 : w1.drew.cell? ⟨w.heap.size, 0, none⟩ = some (.int .i64 b.s) := b0
      have b1 : w1.drew.cell? ⟨w.heap.size, 1, none⟩ = some (.int .i64 b.r) := b1
      have b2 : w1.drew.cell? ⟨w.heap.size, 2, none⟩ = some (.int .i64 b.c) := b2
      have b3 : w1.drew.cell? ⟨w.heap.size, 3, none⟩ = some (.int .i64 b.n) := b3
      have b4 : w1.drew.cell? ⟨w.heap.size, 4, none⟩ = some (.int .i64 b.m) := b4
      have hown : w1.drew.ownsRow W.heap.size 3 1 u5 (nearK R b K).length (ints (nearK R b K)) := hown
      have hBr : Below W.heap.size W w1.drew := hBr.drew
      have hzs : W.heap.size ≤ w1.drew.heap.size := hzs
      have hbl : bi < w1.drew.heap.size := hbl
      have hgl : g < w1.drew.heap.size := hgl
      have hwl : w.heap.size < w1.drew.heap.size := hwl
      go_region_held3 (fun w' => w'.cell? ⟨bi, 0, none⟩ = some (.slice (some ⟨g, 0, none⟩) R.length cap) ∧ w'.cell? ⟨g, K * 6, none⟩ = some (.int .i64 p.1) ∧ w'.cell? ⟨g, K * 6 + 1, none⟩ = some (.int .i64 p.2.s) ∧ w'.cell? ⟨g, K * 6 + 2, none⟩ = some (.int .i64 p.2.r) ∧ w'.cell? ⟨g, K * 6 + 3, none⟩ = some (.int .i64 p.2.c) ∧ w'.cell? ⟨g, K * 6 + 4, none⟩ = some (.int .i64 p.2.n) ∧ w'.cell? ⟨g, K * 6 + 5, none⟩ = some (.int .i64 p.2.m) ∧ w'.cell? ⟨w.heap.size, 0, none⟩ = some (.int .i64 b.s) ∧ w'.cell? ⟨w.heap.size, 1, none⟩ = some (.int .i64 b.r) ∧ w'.cell? ⟨w.heap.size, 2, none⟩ = some (.int .i64 b.c) ∧ w'.cell? ⟨w.heap.size, 3, none⟩ = some (.int .i64 b.n) ∧ w'.cell? ⟨w.heap.size, 4, none⟩ = some (.int .i64 b.m))
        (first | exact ⟨c0, x0, x1, x2, x3, x4, x5, b0, b1, b2, b3, b4⟩ | fail)
        (first
          | (go_at_call 33; refine (rmeet_any HPr.out hbb.out _).mono ?_; rintro e wn ⟨rfl, hBn⟩; have c0 := (hBn.cell (p := ⟨bi, 0, none⟩) hbl).trans c0; have x0 := (hBn.cell (p := ⟨g, K * 6, none⟩) hgl).trans x0; have x1 := (hBn.cell (p := ⟨g, K * 6 + 1, none⟩) hgl).trans x1; have x2 := (hBn.cell (p := ⟨g, K * 6 + 2, none⟩) hgl).trans x2; have x3 := (hBn.cell (p := ⟨g, K * 6 + 3, none⟩) hgl).trans x3; have x4 := (hBn.cell (p := ⟨g, K * 6 + 4, none⟩) hgl).trans x4; have x5 := (hBn.cell (p := ⟨g, K * 6 + 5, none⟩) hgl).trans x5; have b0 := (hBn.cell (p := ⟨w.heap.size, 0, none⟩) hwl).trans b0; have b1 := (hBn.cell (p := ⟨w.heap.size, 1, none⟩) hwl).trans b1; have b2 := (hBn.cell (p := ⟨w.heap.size, 2, none⟩) hwl).trans b2; have b3 := (hBn.cell (p := ⟨w.heap.size, 3, none⟩) hwl).trans b3; have b4 := (hBn.cell (p := ⟨w.heap.size, 4, none⟩) hwl).trans b4; have hbl := Nat.lt_of_lt_of_le hbl hBn.size; have hgl := Nat.lt_of_lt_of_le hgl hBn.size; have hwl := Nat.lt_of_lt_of_le hwl hBn.size; have hown := hown.below hBn; have hBr := hBr.trans (hBn.mono hzs); have hzs := Nat.le_trans hzs hBn.size)
          | fail)
      all_goals
        cases hm : meetR p.2 b with
        | true =>
          have HKt := Lib.hid (nearK_t HP.out hm)
          have hnl := nearK_len R b K
          go_wp2_with (at_builtin; refine wpList_append_own_at _ rfl _ _ 40 rfl W.heap.size 3 i0 (.int .i64 0) 1 8 Tryd.underlying40 HI3.out HZ0.out HZ1.out HZ2.out rfl (by decide) _ _ _ rfl (hown.alloc _) ⟨wn.heap.size, 0, none⟩ 1 1 [.int .i64 p.1] rfl rfl (cell_one_new _ _ _) (by simp [Value.oneCell']) (by unfold maxLen; omega) (by omega) (by simp; omega) ?_; intro v' w3 hown' hgrow _ hat)
          have hB3 : Below W.heap.size W w3 := by
            refine (hBr.alloc hzs _).trans ((Turned.of_grown (T := fun k => W.heap.size ≤ k) hgrow fun k hk => ?_).below (fun k hk => hk) (by simp; omega))
            exact (World.ownsRow.lt hown k hk).1
          go_roundw
          case rel =>
            refine ⟨K + 1, by go_num, hlt, ?_, hB3⟩
            rw [HKt.out]
            simpa [ints] using hown'
          case measure => simp [intOf]; omega
        | false =>
          have HKf := Lib.hid (nearK_f HP.out hm)
          go_wp2_with fail
          go_roundw
          case rel =>
            refine ⟨K + 1, by go_num, hlt, ?_, hBr⟩
            rw [HKf.out]
            exact hown
          case measure => simp [intOf]; omega
    · obtain rfl : K = R.length := by omega
      have hkn : ¬ ((R.length : Int) < (R.length : Int)) := by omega
      go_wp2_with fail
      go_ret
      rw [nearK_all] at hown
      exact ⟨_, rfl, (hown.mono (by omega)), HB.out.trans (hBr.mono (by omega))⟩
set_option maxHeartbeats 1000000 in
theorem rmeets_bad {B bi : Nat} {v : Value} {R : Ids} {b : Ar} (w : World) (h : Rx w B bi v R) (hb : b.right = false) :
    Calls Tryd.prog 17 #[.pointer (some ⟨bi, 0, none⟩), b.v] w (NearPost [] w) := by
  have hbb := Lib.hid (show rightB b.s b.r b.c b.n b.m = false from hb)
  obtain ⟨A, cap, rfl, hcap, hrd, hit⟩ := h.shape
  have c0 := h.c0
  have hbi := h.lt
  clear hrd hit h
  go_enter Tryd.func17, Tryd.ntmps17
  go_wp2_with fail
  obtain ⟨W, hW⟩ : ∃ W, W = w.alloc (.cells #[.int .i64 b.s, .int .i64 b.r, .int .i64 b.c, .int .i64 b.n, .int .i64 b.m] 31) := ⟨_, rfl⟩
  rw [← hW]
  have hB : Below w.heap.size w W := by rw [hW]; exact (Below.refl _ w).alloc (Nat.le_refl _) _
  have hba : World.area W w.heap.size b.s b.r b.c b.n b.m := by rw [hW]; exact World.area_new _ _ _ _ _ _
  have c0 := (hB.cell (p := ⟨bi, 0, none⟩) hbi).trans c0
  have HB := Lib.hid hB
  clear hW hB
  go_loopw [5, 6] (fun o i wr => i = .int .i64 0 ∧ o = .slice none 0 0 ∧ Below W.heap.size W wr) (fun _ _ _ => 0)
  case atStart => exact ⟨rfl, rfl, Below.refl _ _⟩
  case round =>
    obtain ⟨rfl, rfl, hBr⟩ := hrel
    have hwl := hba.lt
    have hzs := HB.out.size
    have c0 := (hBr.cell (p := ⟨bi, 0, none⟩) (by simp; omega)).trans c0
    have hba := hba.below hBr hba.lt
    have b0 := hba.cell 0 _ rfl
    have b1 := hba.cell 1 _ rfl
    have b2 := hba.cell 2 _ rfl
    have b3 := hba.cell 3 _ rfl
    have b4 := hba.cell 4 _ rfl
    rcases Nat.eq_zero_or_pos R.length with h0 | h0
    · have hkn : ¬ ((0 : Int) < (R.length : Int)) := by omega
      go_wp2_with fail
      go_ret
      exact ⟨_, rfl, owns_nil _ _ _ _, HB.out.trans (hBr.mono (by omega))⟩
    · have hkn : (0 : Int) < (R.length : Int) := by omega
      go_wp2_with (go_at_call 21; refine (right21_any _ _ _ _ _ _).mono ?_; rintro e w1 ⟨rfl, hB1⟩; have hr1 := hbb.out)
      go_ret
      have hBr := hBr.trans (hB1.mono hBr.size)
      exact ⟨_, rfl, owns_nil _ _ _ _, HB.out.trans (hBr.mono (by omega))⟩

/-- The question that Hits puts to Meets. -/
def hitsR (R : Ids) (s r c : Int) : List Int := if rightB s r c 1 1 = true then near R ⟨s, r, c, 1, 1⟩ else []
def meetsR (R : Ids) (b : Ar) : List Int := if b.right = true then near R b else []
theorem rmeets_any {B bi : Nat} {v : Value} {R : Ids} (b : Ar) (w : World) (h : Rx w B bi v R) (hR : ∀ p ∈ R, p.2.right = true) (hl : R.length ≤ 100000) :
    Calls Tryd.prog 17 #[.pointer (some ⟨bi, 0, none⟩), b.v] w (NearPost (meetsR R b) w) := by
  unfold meetsR
  split
  · rename_i hb
    exact rmeets_good w h hR hb hl
  · rename_i hb
    exact rmeets_bad w h (by simpa using hb)
theorem hitsR_meets (R : Ids) (s r c : Int) : hitsR R s r c = meetsR R ⟨s, r, c, 1, 1⟩ := rfl
theorem rhits_any {B bi : Nat} {v : Value} {R : Ids} (s r c : Int) (w : World) (h : Rx w B bi v R) (hR : ∀ p ∈ R, p.2.right = true) (hl : R.length ≤ 100000) :
    Calls Tryd.prog 15 #[.pointer (some ⟨bi, 0, none⟩), atV s r c] w (NearPost (hitsR R s r c) w) := by
  rw [hitsR_meets]
  have H := Lib.hid h
  clear h
  go_enter Tryd.func15, Tryd.ntmps15
  go_wp2_with (go_at_call 17; refine (rmeets_any ⟨s, r, c, 1, 1⟩ _ (H.out.below ((Below.refl _ _).alloc (Nat.le_refl _) _) (Nat.le_refl _)) hR hl).mono ?_; rintro e w1 ⟨v1, rfl, hown, hB1⟩)
  go_ret
  exact ⟨_, rfl, hown.mono (by simp), ((Below.refl _ _).alloc (Nat.le_refl _) _).trans (hB1.mono (by simp))⟩
end Go.Proofs.YtnbfkhcignjfoaaDoor
