/- The reference index's Put at a right area. -/
import Derived.Test.YtnbfkhcignjfoaaDoorRput
import Derived.Test.YtnbfkhcignjfoaaDoorLate
namespace Go.Proofs.YtnbfkhcignjfoaaDoor
open Go Go.RowKit Go.Maps

/-- What 'Put' answers at a right area: a number that stands there already, or a new one in its place. -/
def RPut (B bi : Nat) (v : Value) (R : Ids) (id : Int) (a : Ar) (w : World) (e : Ending) (w' : World) : Prop :=
  ∃ k, k ≤ R.length ∧ (∀ i p, i < k → R[i]? = some p → p.1 < id) ∧
    ((∃ b, R[k]? = some (id, b) ∧ RLeft (.int .i64 110) v B bi R w e w') ∨ ((∀ p, R[k]? = some p → id < p.1) ∧ RLeft (.int .i64 0) v B bi (putR R k id a) w e w'))

theorem Reads.take {α : Type} {w : World} {B size n K : Nat} {A : Option Addr} {xs : List Value} {R : List α} (h : Reads w B size A n xs) (f : List α → List Value)
    (ht : ∀ k, f (R.take k) = xs.take (k * size)) (hk : K ≤ n) : Reads w B size A K (f (R.take K)) := by
  obtain ⟨h1, h2⟩ := h
  rw [ht]
  refine ⟨by rw [List.length_take, h1]; exact Nat.min_eq_left (Nat.mul_le_mul_right _ hk), fun h0 => ?_⟩
  obtain ⟨ad, e, hb, hc⟩ := h2 (by omega)
  refine ⟨ad, e, hb, fun j u hu => hc j u ?_⟩
  rw [List.getElem?_take] at hu
  split at hu
  · exact hu
  · cases hu
theorem add_zero_off (g n : Nat) : (⟨g, 0, none⟩ : Addr).add n = ⟨g, n, none⟩ := by
  unfold Addr.add
  by_cases hj : n = 0 <;> simp [hj]
theorem own_shape {w : World} {base : Nat} {e : TypeId} {size n : Nat} {v : Value} {xs : List Value} (h : w.ownsRow base e size v n xs) : ∃ A cap, v = .slice A n cap := by
  rcases h.2 with ⟨h1, h2⟩ | ⟨g, cap, cur, h1, _⟩
  · exact ⟨none, 0, by rw [h1, h2]⟩
  · exact ⟨_, _, h1⟩
theorem putR_len {R : Ids} {k : Nat} (id : Int) (a : Ar) (h : k ≤ R.length) : (putR R k id a).length = k + 1 + (R.length - k) := by
  unfold putR
  rw [List.length_append, List.length_cons, List.length_take, List.length_drop]
  omega
theorem putR_items (R : Ids) (k : Nat) (id : Int) (a : Ar) : items (putR R k id a) = items (R.take k) ++ itemC (id, a) ++ items (R.drop k) := by
  unfold putR
  rw [items_app, List.append_assoc]
  rfl
theorem cell_alloc {w : World} {p : Addr} {v : Value} {o : Obj} (h : w.cell? p = some v) : (w.alloc o).cell? p = some v := (World.cell?_alloc_lt w o p (w.block_lt_of_cell? _ h)).trans h
theorem cell_far {w : World} {p q : Addr} {v u : Value} (h : w.cell? p = some v) (hne : q.block ≠ p.block) : (w.setCell q u).cell? p = some v := (World.cell?_setCell_far w q p u hne).trans h
/-- What stands at the call stands, and the area's box. -/
structure Ins (w : World) (a : Ar) (W : World) : Prop where
  bel : Below w.heap.size w W
  box : World.area W w.heap.size a.s a.r a.c a.n a.m
theorem Ins.alloc {w W : World} {a : Ar} (h : Ins w a W) (o : Obj) : Ins w a (W.alloc o) := ⟨h.bel.alloc (Nat.le_of_lt h.box.lt) o, h.box.alloc o⟩
theorem Ins.drew {w W : World} {a : Ar} (h : Ins w a W) : Ins w a W.drew := ⟨h.bel.drew, h.box⟩
theorem Ins.grown {w W W' : World} {a : Ar} {row : Option Nat} (h : Ins w a W) (hg : W.grownBy W' row) (hr : ∀ k, row = some k → w.heap.size + 1 ≤ k) : Ins w a W' :=
  ⟨h.bel.trans ((Turned.of_grown (T := fun k => w.heap.size ≤ k) hg fun k hk => by have := hr k hk; omega).below (fun k hk => hk) (Nat.le_of_lt h.box.lt)),
    h.box.kept hg fun e => by have := hr _ e.symm; omega⟩

set_option maxRecDepth 100000 in
set_option maxHeartbeats 4000000 in
theorem rput_good {B bi : Nat} {v : Value} {R : Ids} (id : Int) (a : Ar) (w : World) (h : Rx w B bi v R) (hBw : B ≤ w.heap.size) (hl : R.length ≤ 100000) (hid0 : 0 ≤ id) (hid1 : id < 10000) (ha : a.right = true) :
    Calls Tryd.prog 10 #[.pointer (some ⟨bi, 0, none⟩), .int .i64 id, a.v] w (RPut B bi v R id a w) := by
  have HX := Lib.hid h
  have hra := Lib.hid (show rightB a.s a.r a.c a.n a.m = true from ha)
  obtain ⟨A, cap, rfl, hcap, hrd, hit⟩ := h.shape
  have c0 := h.c0
  have z0 := h.z0
  have C0 := Lib.hid c0
  have Z0 := Lib.hid z0
  have hbi := h.lt
  have HI := Lib.hid hit
  have HRd := Lib.hid hrd
  clear hrd hit h ha
  have hi0 : ¬ id < 0 := by omega
  have hi1 : ¬ 10000 ≤ id := by omega
  go_enter Tryd.func10, Tryd.ntmps10
  go_wp2_with (go_at_call 21; refine (right21_any _ _ _ _ _ _).mono ?_; rintro e w1 ⟨rfl, hB1⟩; have hr1 := hra.out)
  obtain ⟨i0, z0i, hi, hz0, hzs, hz1, hz2⟩ := info67
  have HI3 := Lib.hid hi
  have HZ0 := Lib.hid hz0
  have HZ1 := Lib.hid hz1
  have HZ2 := Lib.hid hz2
  have HZS := Lib.hid hzs
  clear hi hz0 hz1 hz2 hzs
  have hba : World.area w1 w.heap.size a.s a.r a.c a.n a.m := (World.area_new w _ _ _ _ _).below hB1 (World.area_new w _ _ _ _ _).lt
  have hBw1 : Below w.heap.size w w1 := ((Below.refl _ _).alloc (Nat.le_refl _) _).trans (hB1.mono (by simp))
  have hw1 : w.heap.size < w1.heap.size := hba.lt
  clear hB1
  go_loopw [7] (fun i wr => ∃ K : Nat, i = .int .i64 (K : Int) ∧ K ≤ R.length ∧ (∀ i p, i < K → R[i]? = some p → p.1 < id) ∧ World.area wr w.heap.size a.s a.r a.c a.n a.m ∧ Below w.heap.size w wr) (fun i _ => R.length - (intOf i).toNat)
  case atStart => exact ⟨0, rfl, Nat.zero_le _, fun i p h => by omega, hba, hBw1⟩
  case round =>
    clear hba hBw1 hw1
    obtain ⟨K, rfl, hK, hlow, hba, hBr⟩ := hrel
    have HL := Lib.hid hlow
    clear hlow
    have c0 := (hBr.cell (p := ⟨bi, 0, none⟩) hbi).trans c0
    have z0 : wr.frozen? ⟨bi, 0, none⟩ = false := (hBr.frozen (p := ⟨bi, 0, none⟩) hbi).trans z0
    have hzs := hBr.size
    by_cases hlt : K < R.length
    · obtain ⟨p, hp⟩ : ∃ p, R[K]? = some p := ⟨_, List.getElem?_eq_getElem hlt⟩
      obtain ⟨g, rfl, hg, hc⟩ := HI.out K p hp
      have hkn : (K : Int) < (R.length : Int) := by omega
      have x0 := (hBr.cell (p := ⟨g, K * 6 + 0, none⟩) hg).trans (hc 0 _ (by omega) rfl)
      rw [Nat.add_zero] at x0
      clear hc
      have HP := Lib.hid hp
      clear hp
      by_cases hpl : p.1 < id
      · go_wp2_with fail
        go_roundw
        case rel =>
          refine ⟨K + 1, by go_num, hlt, fun i q hi hq => ?_, hba, hBr⟩
          rcases Nat.lt_or_eq_of_le (Nat.le_of_lt_succ hi) with h1 | rfl
          · exact HL.out i q h1 hq
          · rw [HP.out] at hq
            injection hq with hq
            subst hq
            exact hpl
        case measure => simp [intOf]; omega
      · cases hpe : (p.1 == id) with
        | true =>
          go_wp2_with fail
          go_ret
          have hpi : p.1 = id := by simpa using hpe
          refine ⟨K, by omega, HL.out, .inl ⟨p.2, by rw [HP.out, ← hpi], rfl, ⟨_, HX.out.below hBr (Nat.le_refl _), .inl rfl⟩, .of_below hBr⟩⟩
        | false =>
          have hne : ¬ p.1 = id := by simpa using hpe
          have hgt : id < p.1 := by omega
          clear hne
-- PUT (some ⟨g, 0, none⟩)
          go_wp2_with fail
          have hKc : K ≤ cap := Nat.le_trans hK hcap
          have hKz : (K : Int) ≤ (cap : Int) := by omega
          have hKy : (K : Int) ≤ (R.length : Int) := by omega
          have hal := hba.lt
          have hK0 := Lib.hid hK
          have HT := Lib.hid (show ∀ W, Below w.heap.size w W → Reads W w.heap.size 6 (some ⟨g, 0, none⟩) K (items (R.take K)) from fun W hW => (HRd.out.take items (fun k => items_take R k) hK).below hW)
          have HD := Lib.hid (show ∀ W, Below w.heap.size w W → Reads W w.heap.size 6 (if cap = K then some ⟨g, 0, none⟩ else some ⟨g, K * 6, none⟩) (R.length - K) (items (R.drop K)) from fun W hW => by
            have := (HRd.out.cut hK hcap).below hW
            rw [items_drop R K]
            rw [Option.map_some, add_zero_off] at this
            exact this)
          have hI : Ins w a wr.drew := ⟨hBr.drew, hba⟩
          have c0 : wr.drew.cell? ⟨bi, 0, none⟩ = some (.slice (some ⟨g, 0, none⟩) R.length cap) := c0
          have z0 : wr.drew.frozen? ⟨bi, 0, none⟩ = false := z0
          have hbl : bi < wr.drew.heap.size := Nat.lt_of_lt_of_le hbi hI.bel.size
          have b0 := hI.box.cell 0 _ rfl
          have b1 := hI.box.cell 1 _ rfl
          have b2 := hI.box.cell 2 _ rfl
          have b3 := hI.box.cell 3 _ rfl
          have b4 := hI.box.cell 4 _ rfl
          refine wp_region_late (fun w' => w'.cell? ⟨bi, 0, none⟩ = some (.slice (some ⟨g, 0, none⟩) R.length cap) ∧ w'.cell? ⟨w.heap.size, 0, none⟩ = some (.int .i64 a.s) ∧ w'.cell? ⟨w.heap.size, 1, none⟩ = some (.int .i64 a.r) ∧ w'.cell? ⟨w.heap.size, 2, none⟩ = some (.int .i64 a.c) ∧ w'.cell? ⟨w.heap.size, 3, none⟩ = some (.int .i64 a.n) ∧ w'.cell? ⟨w.heap.size, 4, none⟩ = some (.int .i64 a.m)) 23 (by kernel_rfl) ?_
          have hS : wr.drew.cell? ⟨bi, 0, none⟩ = some (.slice (some ⟨g, 0, none⟩) R.length cap) ∧ wr.drew.cell? ⟨w.heap.size, 0, none⟩ = some (.int .i64 a.s) ∧ wr.drew.cell? ⟨w.heap.size, 1, none⟩ = some (.int .i64 a.r) ∧ wr.drew.cell? ⟨w.heap.size, 2, none⟩ = some (.int .i64 a.c) ∧ wr.drew.cell? ⟨w.heap.size, 3, none⟩ = some (.int .i64 a.n) ∧ wr.drew.cell? ⟨w.heap.size, 4, none⟩ = some (.int .i64 a.m) := ⟨c0, b0, b1, b2, b3, b4⟩
          refine late_take (i := 0) (oi := { dst := some 60, op := Op.move (Operand.tmp 0), type := 26, pos := "ref.go:33", after := #[], guard := none }) (v := ?vp1) rfl (by kernel_rfl) (by kernel_rfl) (by kernel_rfl) (by kernel_rfl) (by kernel_rfl) (fun _ _ _ h => h) (by rfl) hS ?hyp1 ?restp1
          case hyp1 => (intro w2 hS2; (try dsimp only at hS2); go_simp; (try with_reducible rfl))
          (try simp only [Act.put, List.setIfInBounds_toArray, List.set_cons_zero, List.set_cons_succ])
          refine late_take (i := 1) (oi := { dst := some 61, op := Op.move (Operand.tmp 8), type := 27, pos := "ref.go:33", after := #[], guard := none }) (v := ?vp2) rfl (by kernel_rfl) (by kernel_rfl) (by kernel_rfl) (by kernel_rfl) (by kernel_rfl) (fun _ _ _ h => h) (by rfl) hS ?hyp2 ?restp2
          case hyp2 => (intro w2 hS2; (try dsimp only at hS2); go_simp; (try with_reducible rfl))
          (try simp only [Act.put, List.setIfInBounds_toArray, List.set_cons_zero, List.set_cons_succ])
          refine late_take (i := 2) (oi := { dst := some 62, op := Op.move (Operand.tmp 0), type := 26, pos := "ref.go:33", after := #[], guard := none }) (v := ?vp3) rfl (by kernel_rfl) (by kernel_rfl) (by kernel_rfl) (by kernel_rfl) (by kernel_rfl) (fun _ _ _ h => h) (by rfl) hS ?hyp3 ?restp3
          case hyp3 => (intro w2 hS2; (try dsimp only at hS2); go_simp; (try with_reducible rfl))
          (try simp only [Act.put, List.setIfInBounds_toArray, List.set_cons_zero, List.set_cons_succ])
          refine late_take (i := 3) (oi := { dst := some 63, op := Op.nilCheck (Operand.tmp 62), type := 0, pos := "ref.go:33", after := #[{ on := 2, ground := Ground.data }], guard := none }) (v := ?vp4) rfl (by kernel_rfl) (by kernel_rfl) (by kernel_rfl) (by kernel_rfl) (by kernel_rfl) (fun _ _ _ h => h) (by rfl) hS ?hyp4 ?restp4
          case hyp4 => (intro w2 hS2; (try dsimp only at hS2); go_simp; (try with_reducible rfl))
          (try simp only [Act.put, List.setIfInBounds_toArray, List.set_cons_zero, List.set_cons_succ])
          refine late_take (i := 4) (oi := { dst := some 64, op := Op.fieldAddr 29 (Operand.tmp 63) 0, type := 0, pos := "ref.go:33", after := #[{ on := 3, ground := Ground.data }], guard := none }) (v := ?vp5) rfl (by kernel_rfl) (by kernel_rfl) (by kernel_rfl) (by kernel_rfl) (by kernel_rfl) (fun _ _ _ h => h) (by rfl) hS ?hyp5 ?restp5
          case hyp5 => (intro w2 hS2; (try dsimp only at hS2); go_simp; (try with_reducible rfl))
          (try simp only [Act.put, List.setIfInBounds_toArray, List.set_cons_zero, List.set_cons_succ])
          refine late_take (i := 5) (oi := { dst := some 65, op := Op.load 27 (Operand.tmp 64), type := 27, pos := "ref.go:33", after := #[{ on := 4, ground := Ground.data }], guard := none }) (v := ?vp6) rfl (by kernel_rfl) (by kernel_rfl) (by kernel_rfl) (by kernel_rfl) (by kernel_rfl) (fun _ _ _ h => h) (by rfl) hS ?hyp6 ?restp6
          case hyp6 => (intro w2 hS2; (try dsimp only at hS2); go_simp; (try with_reducible rfl))
          (try simp only [Act.put, List.setIfInBounds_toArray, List.set_cons_zero, List.set_cons_succ])
          refine late_take (i := 6) (oi := { dst := some 66, op := Op.move (Operand.tmp 7), type := 3, pos := "ref.go:33", after := #[], guard := none }) (v := ?vp7) rfl (by kernel_rfl) (by kernel_rfl) (by kernel_rfl) (by kernel_rfl) (by kernel_rfl) (fun _ _ _ h => h) (by rfl) hS ?hyp7 ?restp7
          case hyp7 => (intro w2 hS2; (try dsimp only at hS2); go_simp; (try with_reducible rfl))
          (try simp only [Act.put, List.setIfInBounds_toArray, List.set_cons_zero, List.set_cons_succ])
          refine late_take (i := 7) (oi := { dst := some 67, op := Op.slice 27 (Operand.tmp 65) none (some (Operand.tmp 66)) none, type := 27, pos := "ref.go:33", after := #[{ on := 5, ground := Ground.data }, { on := 6, ground := Ground.data }], guard := none }) (v := ?vp8) rfl (by kernel_rfl) (by kernel_rfl) (by kernel_rfl) (by kernel_rfl) (by kernel_rfl) (fun _ _ _ h => h) (by rfl) hS ?hyp8 ?restp8
          case hyp8 => (intro w2 hS2; (try dsimp only at hS2); go_simp; (try with_reducible rfl))
          (try simp only [Act.put, List.setIfInBounds_toArray, List.set_cons_zero, List.set_cons_succ])
          refine late_take (i := 9) (oi := { dst := some 69, op := Op.move (Operand.tmp 1), type := 3, pos := "ref.go:33", after := #[], guard := none }) (v := ?vp9) rfl (by kernel_rfl) (by kernel_rfl) (by kernel_rfl) (by kernel_rfl) (by kernel_rfl) (fun _ _ _ h => h) (by rfl) hS ?hyp9 ?restp9
          case hyp9 => (intro w2 hS2; (try dsimp only at hS2); go_simp; (try with_reducible rfl))
          (try simp only [Act.put, List.setIfInBounds_toArray, List.set_cons_zero, List.set_cons_succ])
          refine late_take (i := 10) (oi := { dst := some 70, op := Op.load 31 (Operand.tmp 5), type := 31, pos := "ref.go:33", after := #[], guard := none }) (v := ?vp10) rfl (by kernel_rfl) (by kernel_rfl) (by kernel_rfl) (by kernel_rfl) (by kernel_rfl) (fun _ _ _ h => h) (by rfl) hS ?hyp10 ?restp10
          case hyp10 => (intro w2 hS2; (try dsimp only at hS2); go_simp; (try with_reducible rfl))
          (try simp only [Act.put, List.setIfInBounds_toArray, List.set_cons_zero, List.set_cons_succ])
          refine late_take (i := 11) (oi := { dst := some 71, op := Op.build 67 #[(0, Operand.tmp 69), (1, Operand.tmp 70)], type := 67, pos := "ref.go:33", after := #[{ on := 9, ground := Ground.data }, { on := 10, ground := Ground.data }], guard := none }) (v := ?vp11) rfl (by kernel_rfl) (by kernel_rfl) (by kernel_rfl) (by kernel_rfl) (by kernel_rfl) (fun _ _ _ h => h) (by rfl) hS ?hyp11 ?restp11
          case hyp11 => (intro w2 hS2; (try dsimp only at hS2); go_simp; (try with_reducible rfl))
          (try simp only [Act.put, List.setIfInBounds_toArray, List.set_cons_zero, List.set_cons_succ])
          refine late_take (i := 14) (oi := { dst := some 74, op := Op.move (Operand.tmp 0), type := 26, pos := "ref.go:33", after := #[], guard := none }) (v := ?vp12) rfl (by kernel_rfl) (by kernel_rfl) (by kernel_rfl) (by kernel_rfl) (by kernel_rfl) (fun _ _ _ h => h) (by rfl) hS ?hyp12 ?restp12
          case hyp12 => (intro w2 hS2; (try dsimp only at hS2); go_simp; (try with_reducible rfl))
          (try simp only [Act.put, List.setIfInBounds_toArray, List.set_cons_zero, List.set_cons_succ])
          refine late_take (i := 15) (oi := { dst := some 75, op := Op.nilCheck (Operand.tmp 74), type := 0, pos := "ref.go:33", after := #[{ on := 14, ground := Ground.data }], guard := none }) (v := ?vp13) rfl (by kernel_rfl) (by kernel_rfl) (by kernel_rfl) (by kernel_rfl) (by kernel_rfl) (fun _ _ _ h => h) (by rfl) hS ?hyp13 ?restp13
          case hyp13 => (intro w2 hS2; (try dsimp only at hS2); go_simp; (try with_reducible rfl))
          (try simp only [Act.put, List.setIfInBounds_toArray, List.set_cons_zero, List.set_cons_succ])
          refine late_take (i := 16) (oi := { dst := some 76, op := Op.fieldAddr 29 (Operand.tmp 75) 0, type := 0, pos := "ref.go:33", after := #[{ on := 15, ground := Ground.data }], guard := none }) (v := ?vp14) rfl (by kernel_rfl) (by kernel_rfl) (by kernel_rfl) (by kernel_rfl) (by kernel_rfl) (fun _ _ _ h => h) (by rfl) hS ?hyp14 ?restp14
          case hyp14 => (intro w2 hS2; (try dsimp only at hS2); go_simp; (try with_reducible rfl))
          (try simp only [Act.put, List.setIfInBounds_toArray, List.set_cons_zero, List.set_cons_succ])
          refine late_take (i := 17) (oi := { dst := some 77, op := Op.load 27 (Operand.tmp 76), type := 27, pos := "ref.go:33", after := #[{ on := 16, ground := Ground.data }], guard := none }) (v := ?vp15) rfl (by kernel_rfl) (by kernel_rfl) (by kernel_rfl) (by kernel_rfl) (by kernel_rfl) (fun _ _ _ h => h) (by rfl) hS ?hyp15 ?restp15
          case hyp15 => (intro w2 hS2; (try dsimp only at hS2); go_simp; (try with_reducible rfl))
          (try simp only [Act.put, List.setIfInBounds_toArray, List.set_cons_zero, List.set_cons_succ])
          refine late_take (i := 18) (oi := { dst := some 78, op := Op.move (Operand.tmp 7), type := 3, pos := "ref.go:33", after := #[], guard := none }) (v := ?vp16) rfl (by kernel_rfl) (by kernel_rfl) (by kernel_rfl) (by kernel_rfl) (by kernel_rfl) (fun _ _ _ h => h) (by rfl) hS ?hyp16 ?restp16
          case hyp16 => (intro w2 hS2; (try dsimp only at hS2); go_simp; (try with_reducible rfl))
          (try simp only [Act.put, List.setIfInBounds_toArray, List.set_cons_zero, List.set_cons_succ])
          refine late_take (i := 19) (oi := { dst := some 79, op := Op.slice 27 (Operand.tmp 77) (some (Operand.tmp 78)) none none, type := 27, pos := "ref.go:33", after := #[{ on := 17, ground := Ground.data }, { on := 18, ground := Ground.data }], guard := none }) (v := ?vp17) rfl (by kernel_rfl) (by kernel_rfl) (by kernel_rfl) (by kernel_rfl) (by kernel_rfl) (fun _ _ _ h => h) (by rfl) hS ?hyp17 ?restp17
          case hyp17 => (intro w2 hS2; (try dsimp only at hS2); go_simp; (try with_reducible rfl))
          (try simp only [Act.put, List.setIfInBounds_toArray, List.set_cons_zero, List.set_cons_succ])
          refine late_ready (rs := [8, 12]) (by kernel_rfl) (by simp) (LateReady.cons (o := { dst := some 68, op := Op.call { callee := Callee.builtin Builtin.append, args := #[Operand.tmp 61, Operand.tmp 67], argTypes := #[27, 27] }, type := 27, pos := "ref.go:33", after := #[{ on := 1, ground := Ground.data }, { on := 7, ground := Ground.data }], guard := none }) rfl (fun K' hK => ?_) (LateReady.cons (o := { dst := some 72, op := Op.buildSlice 27 1 #[(0, Operand.tmp 71)], type := 27, pos := "ref.go:33", after := #[{ on := 11, ground := Ground.data }], guard := none }) rfl (fun K' hK => ?_) LateReady.nil))
          · refine step_append_any _ rfl _ _ 27 rfl (w.heap.size + 1) 67 i0 z0i 6 48 Tryd.underlying27 HI3.out HZ0.out HZ1.out HZ2.out HZS.out (by decide) (.slice none 0 0) 0 [] rfl (owns_nil _ _ _ _) w.heap.size (some ⟨g, 0, none⟩) K cap _ rfl (HT.out _ hI.bel) (items_one _) (by unfold maxLen; omega) (by omega) (by have := hI.box.lt; simp; omega) ?_
            rintro v1 w1 hown1 hg1 hat1
            have hown1 : w1.ownsRow (w.heap.size + 1) 67 6 v1 K (items (R.take K)) := by simpa using hown1
            have hI := hI.grown hg1 (by intro k hk; cases hk)
            have b0 := hI.box.cell 0 _ rfl
            have b1 := hI.box.cell 1 _ rfl
            have b2 := hI.box.cell 2 _ rfl
            have b3 := hI.box.cell 3 _ rfl
            have b4 := hI.box.cell 4 _ rfl
            have c0 := (hI.bel.cell (p := ⟨bi, 0, none⟩) hbi).trans C0.out
            have z0 := (hI.bel.frozen (p := ⟨bi, 0, none⟩) hbi).trans Z0.out
            have hbl := Nat.lt_of_lt_of_le hbi hI.bel.size
            refine hK.out _ _ (fun _ => ⟨c0, b0, b1, b2, b3, b4⟩) ?_
            (try simp only [Act.put, List.setIfInBounds_toArray, List.set_cons_zero, List.set_cons_succ])
            refine late_ready (rs := [12]) (by kernel_rfl) (by simp) (LateReady.cons (o := { dst := some 72, op := Op.buildSlice 27 1 #[(0, Operand.tmp 71)], type := 27, pos := "ref.go:33", after := #[{ on := 11, ground := Ground.data }], guard := none }) rfl (fun K' hK => ?_) LateReady.nil)
            go_simp
            have hN : Reads (w1.alloc (.cells #[.int .i64 id, .int .i64 a.s, .int .i64 a.r, .int .i64 a.c, .int .i64 a.n, .int .i64 a.m] 67)) (w1.heap.size + 1) 6 (some ⟨w1.heap.size, 0, none⟩) 1 (itemC (id, a)) := reads_one w1 67 #[.int .i64 id, .int .i64 a.s, .int .i64 a.r, .int .i64 a.c, .int .i64 a.n, .int .i64 a.m] 6 rfl
            have hI := hI.alloc (.cells #[.int .i64 id, .int .i64 a.s, .int .i64 a.r, .int .i64 a.c, .int .i64 a.n, .int .i64 a.m] 67)
            have b0 := hI.box.cell 0 _ rfl
            have b1 := hI.box.cell 1 _ rfl
            have b2 := hI.box.cell 2 _ rfl
            have b3 := hI.box.cell 3 _ rfl
            have b4 := hI.box.cell 4 _ rfl
            have c0 := (hI.bel.cell (p := ⟨bi, 0, none⟩) hbi).trans C0.out
            have z0 := (hI.bel.frozen (p := ⟨bi, 0, none⟩) hbi).trans Z0.out
            have hbl := Nat.lt_of_lt_of_le hbi hI.bel.size
            refine hK.out _ _ (fun _ => ⟨c0, b0, b1, b2, b3, b4⟩) ?_
            (try simp only [Act.put, List.setIfInBounds_toArray, List.set_cons_zero, List.set_cons_succ])
            refine late_ready (rs := [13]) (by kernel_rfl) (by simp) (LateReady.cons (o := { dst := some 73, op := Op.call { callee := Callee.builtin Builtin.append, args := #[Operand.tmp 68, Operand.tmp 72], argTypes := #[27, 27] }, type := 27, pos := "ref.go:33", after := #[{ on := 8, ground := Ground.data }, { on := 12, ground := Ground.data }, { on := 8, ground := Ground.chain }], guard := none }) rfl (fun K' hK => ?_) LateReady.nil)
            refine step_append_any _ rfl _ _ 27 rfl (w.heap.size + 1) 67 i0 z0i 6 48 Tryd.underlying27 HI3.out HZ0.out HZ1.out HZ2.out HZS.out (by decide) v1 K (items (R.take K)) rfl (hown1.alloc _) _ (some ⟨w1.heap.size, 0, none⟩) 1 1 (itemC (id, a)) rfl hN (by simp [itemC, Value.oneCell']) (by unfold maxLen; omega) (by omega) (by have := hI.box.lt; omega) ?_
            rintro v2 w2 hown2 hg2 hat2
            have hI := hI.grown hg2 (fun k hk => (World.ownsRow.lt hown1 k hk).1)
            have b0 := hI.box.cell 0 _ rfl
            have b1 := hI.box.cell 1 _ rfl
            have b2 := hI.box.cell 2 _ rfl
            have b3 := hI.box.cell 3 _ rfl
            have b4 := hI.box.cell 4 _ rfl
            have c0 := (hI.bel.cell (p := ⟨bi, 0, none⟩) hbi).trans C0.out
            have z0 := (hI.bel.frozen (p := ⟨bi, 0, none⟩) hbi).trans Z0.out
            have hbl := Nat.lt_of_lt_of_le hbi hI.bel.size
            refine hK.out _ _ (fun _ => ⟨c0, b0, b1, b2, b3, b4⟩) ?_
            (try simp only [Act.put, List.setIfInBounds_toArray, List.set_cons_zero, List.set_cons_succ])
            refine late_ready (rs := [20]) (by kernel_rfl) (by simp) (LateReady.cons (o := { dst := some 80, op := Op.call { callee := Callee.builtin Builtin.append, args := #[Operand.tmp 73, Operand.tmp 79], argTypes := #[27, 27] }, type := 27, pos := "ref.go:33", after := #[{ on := 13, ground := Ground.data }, { on := 19, ground := Ground.data }, { on := 13, ground := Ground.chain }], guard := none }) rfl (fun K' hK => ?_) LateReady.nil)
            refine step_append_any _ rfl _ _ 27 rfl (w.heap.size + 1) 67 i0 z0i 6 48 Tryd.underlying27 HI3.out HZ0.out HZ1.out HZ2.out HZS.out (by decide) v2 (K + 1) (items (R.take K) ++ itemC (id, a)) rfl hown2 w.heap.size _ (R.length - K) _ (items (R.drop K)) rfl (HD.out _ hI.bel) (items_one _) (by unfold maxLen; omega) (by omega) (by have := hI.box.lt; omega) ?_
            rintro v3 w3 hown3 hg3 hat3
            obtain ⟨A3, cap3, rfl⟩ := own_shape hown3
            have hI := hI.grown hg3 (fun k hk => (World.ownsRow.lt hown2 k hk).1)
            have b0 := hI.box.cell 0 _ rfl
            have b1 := hI.box.cell 1 _ rfl
            have b2 := hI.box.cell 2 _ rfl
            have b3 := hI.box.cell 3 _ rfl
            have b4 := hI.box.cell 4 _ rfl
            have c0 := (hI.bel.cell (p := ⟨bi, 0, none⟩) hbi).trans C0.out
            have z0 := (hI.bel.frozen (p := ⟨bi, 0, none⟩) hbi).trans Z0.out
            have hbl := Nat.lt_of_lt_of_le hbi hI.bel.size
            refine hK.out _ _ (fun _ => ⟨c0, b0, b1, b2, b3, b4⟩) ?_
            (try simp only [Act.put, List.setIfInBounds_toArray, List.set_cons_zero, List.set_cons_succ])
            refine late_take (i := 21) (oi := { dst := some 81, op := Op.nilCheck (Operand.tmp 60), type := 0, pos := "ref.go:33", after := #[{ on := 0, ground := Ground.data }, { on := 0, ground := Ground.phase }, { on := 1, ground := Ground.phase }, { on := 2, ground := Ground.phase }, { on := 3, ground := Ground.phase }, { on := 4, ground := Ground.phase }, { on := 5, ground := Ground.phase }, { on := 6, ground := Ground.phase }, { on := 7, ground := Ground.phase }, { on := 8, ground := Ground.phase }, { on := 9, ground := Ground.phase }, { on := 10, ground := Ground.phase }, { on := 11, ground := Ground.phase }, { on := 12, ground := Ground.phase }, { on := 13, ground := Ground.phase }, { on := 14, ground := Ground.phase }, { on := 15, ground := Ground.phase }, { on := 16, ground := Ground.phase }, { on := 17, ground := Ground.phase }, { on := 18, ground := Ground.phase }, { on := 19, ground := Ground.phase }, { on := 20, ground := Ground.phase }], guard := none }) (v := ?vp18) rfl (by kernel_rfl) (by kernel_rfl) (by kernel_rfl) (by kernel_rfl) (by kernel_rfl) (fun _ _ _ h => h) (by rfl) ⟨c0, b0, b1, b2, b3, b4⟩ ?hyp18 ?restp18
            case hyp18 => (intro w2 hS2; (try dsimp only at hS2); go_simp; (try with_reducible rfl))
            (try simp only [Act.put, List.setIfInBounds_toArray, List.set_cons_zero, List.set_cons_succ])
            refine late_take (i := 22) (oi := { dst := some 82, op := Op.fieldAddr 29 (Operand.tmp 81) 0, type := 0, pos := "ref.go:33", after := #[{ on := 21, ground := Ground.data }, { on := 0, ground := Ground.phase }, { on := 1, ground := Ground.phase }, { on := 2, ground := Ground.phase }, { on := 3, ground := Ground.phase }, { on := 4, ground := Ground.phase }, { on := 5, ground := Ground.phase }, { on := 6, ground := Ground.phase }, { on := 7, ground := Ground.phase }, { on := 8, ground := Ground.phase }, { on := 9, ground := Ground.phase }, { on := 10, ground := Ground.phase }, { on := 11, ground := Ground.phase }, { on := 12, ground := Ground.phase }, { on := 13, ground := Ground.phase }, { on := 14, ground := Ground.phase }, { on := 15, ground := Ground.phase }, { on := 16, ground := Ground.phase }, { on := 17, ground := Ground.phase }, { on := 18, ground := Ground.phase }, { on := 19, ground := Ground.phase }, { on := 20, ground := Ground.phase }], guard := none }) (v := ?vp19) rfl (by kernel_rfl) (by kernel_rfl) (by kernel_rfl) (by kernel_rfl) (by kernel_rfl) (fun _ _ _ h => h) (by rfl) ⟨c0, b0, b1, b2, b3, b4⟩ ?hyp19 ?restp19
            case hyp19 => (intro w2 hS2; (try dsimp only at hS2); go_simp; (try with_reducible rfl))
            (try simp only [Act.put, List.setIfInBounds_toArray, List.set_cons_zero, List.set_cons_succ])
            refine late_ready (rs := [23]) (by kernel_rfl) (by simp) (LateReady.cons (o := { dst := none, op := Op.store 27 (Operand.tmp 82) (Operand.tmp 80), type := 0, pos := "ref.go:33", after := #[{ on := 22, ground := Ground.data }, { on := 20, ground := Ground.data }, { on := 20, ground := Ground.chain }, { on := 0, ground := Ground.phase }, { on := 1, ground := Ground.phase }, { on := 2, ground := Ground.phase }, { on := 3, ground := Ground.phase }, { on := 4, ground := Ground.phase }, { on := 5, ground := Ground.phase }, { on := 6, ground := Ground.phase }, { on := 7, ground := Ground.phase }, { on := 8, ground := Ground.phase }, { on := 9, ground := Ground.phase }, { on := 10, ground := Ground.phase }, { on := 11, ground := Ground.phase }, { on := 12, ground := Ground.phase }, { on := 13, ground := Ground.phase }, { on := 14, ground := Ground.phase }, { on := 15, ground := Ground.phase }, { on := 16, ground := Ground.phase }, { on := 17, ground := Ground.phase }, { on := 18, ground := Ground.phase }, { on := 19, ground := Ground.phase }, { on := 20, ground := Ground.phase }], guard := none }) rfl (fun K' hK => ?_) LateReady.nil)
            go_simp
            refine hK.out _ _ (fun h => absurd rfl h) ?_
            refine late_done (by kernel_rfl) ?_ _
            go_wp2_with fail
            all_goals
              go_ret
              refine ⟨K, hK0.out, HL.out, .inr ⟨fun q hq => by rw [HP.out] at hq; injection hq with hq; subst hq; exact hgt, rfl, ⟨_, Rx.set_ ((hI.bel.block bi hbi).trans HX.out.head) ?_ HX.out.base, .inr fun k hk => by have := (World.ownsRow.lt hown3 k hk).1; omega⟩, (Turned.of_below hI.bel).trans (setCell_turned _ _ _) fun k hk => .inl hk⟩⟩
              rw [putR_len id a hK0.out, putR_items]
              exact hown3.mono (by omega)
          · go_simp
            have hN : Reads (wr.drew.alloc (.cells #[.int .i64 id, .int .i64 a.s, .int .i64 a.r, .int .i64 a.c, .int .i64 a.n, .int .i64 a.m] 67)) (wr.drew.heap.size + 1) 6 (some ⟨wr.drew.heap.size, 0, none⟩) 1 (itemC (id, a)) := reads_one wr.drew 67 #[.int .i64 id, .int .i64 a.s, .int .i64 a.r, .int .i64 a.c, .int .i64 a.n, .int .i64 a.m] 6 rfl
            have hI := hI.alloc (.cells #[.int .i64 id, .int .i64 a.s, .int .i64 a.r, .int .i64 a.c, .int .i64 a.n, .int .i64 a.m] 67)
            have b0 := hI.box.cell 0 _ rfl
            have b1 := hI.box.cell 1 _ rfl
            have b2 := hI.box.cell 2 _ rfl
            have b3 := hI.box.cell 3 _ rfl
            have b4 := hI.box.cell 4 _ rfl
            have c0 := (hI.bel.cell (p := ⟨bi, 0, none⟩) hbi).trans C0.out
            have z0 := (hI.bel.frozen (p := ⟨bi, 0, none⟩) hbi).trans Z0.out
            have hbl := Nat.lt_of_lt_of_le hbi hI.bel.size
            refine hK.out _ _ (fun _ => ⟨c0, b0, b1, b2, b3, b4⟩) ?_
            (try simp only [Act.put, List.setIfInBounds_toArray, List.set_cons_zero, List.set_cons_succ])
            refine late_ready (rs := [8]) (by kernel_rfl) (by simp) (LateReady.cons (o := { dst := some 68, op := Op.call { callee := Callee.builtin Builtin.append, args := #[Operand.tmp 61, Operand.tmp 67], argTypes := #[27, 27] }, type := 27, pos := "ref.go:33", after := #[{ on := 1, ground := Ground.data }, { on := 7, ground := Ground.data }], guard := none }) rfl (fun K' hK => ?_) LateReady.nil)
            refine step_append_any _ rfl _ _ 27 rfl (w.heap.size + 1) 67 i0 z0i 6 48 Tryd.underlying27 HI3.out HZ0.out HZ1.out HZ2.out HZS.out (by decide) (.slice none 0 0) 0 [] rfl (owns_nil _ _ _ _) w.heap.size (some ⟨g, 0, none⟩) K cap _ rfl (HT.out _ hI.bel) (items_one _) (by unfold maxLen; omega) (by omega) (by have := hI.box.lt; simp; omega) ?_
            rintro v1 w1 hown1 hg1 hat1
            have hown1 : w1.ownsRow (w.heap.size + 1) 67 6 v1 K (items (R.take K)) := by simpa using hown1
            have hI := hI.grown hg1 (by intro k hk; cases hk)
            have b0 := hI.box.cell 0 _ rfl
            have b1 := hI.box.cell 1 _ rfl
            have b2 := hI.box.cell 2 _ rfl
            have b3 := hI.box.cell 3 _ rfl
            have b4 := hI.box.cell 4 _ rfl
            have c0 := (hI.bel.cell (p := ⟨bi, 0, none⟩) hbi).trans C0.out
            have z0 := (hI.bel.frozen (p := ⟨bi, 0, none⟩) hbi).trans Z0.out
            have hbl := Nat.lt_of_lt_of_le hbi hI.bel.size
            refine hK.out _ _ (fun _ => ⟨c0, b0, b1, b2, b3, b4⟩) ?_
            (try simp only [Act.put, List.setIfInBounds_toArray, List.set_cons_zero, List.set_cons_succ])
            have hN := hN.grown hg1 (by simp) (by intro k hk; cases hk)
            refine late_ready (rs := [13]) (by kernel_rfl) (by simp) (LateReady.cons (o := { dst := some 73, op := Op.call { callee := Callee.builtin Builtin.append, args := #[Operand.tmp 68, Operand.tmp 72], argTypes := #[27, 27] }, type := 27, pos := "ref.go:33", after := #[{ on := 8, ground := Ground.data }, { on := 12, ground := Ground.data }, { on := 8, ground := Ground.chain }], guard := none }) rfl (fun K' hK => ?_) LateReady.nil)
            refine step_append_any _ rfl _ _ 27 rfl (w.heap.size + 1) 67 i0 z0i 6 48 Tryd.underlying27 HI3.out HZ0.out HZ1.out HZ2.out HZS.out (by decide) v1 K (items (R.take K)) rfl hown1 _ (some ⟨wr.drew.heap.size, 0, none⟩) 1 1 (itemC (id, a)) rfl hN (by simp [itemC, Value.oneCell']) (by unfold maxLen; omega) (by omega) (by have := hI.box.lt; omega) ?_
            rintro v2 w2 hown2 hg2 hat2
            have hI := hI.grown hg2 (fun k hk => (World.ownsRow.lt hown1 k hk).1)
            have b0 := hI.box.cell 0 _ rfl
            have b1 := hI.box.cell 1 _ rfl
            have b2 := hI.box.cell 2 _ rfl
            have b3 := hI.box.cell 3 _ rfl
            have b4 := hI.box.cell 4 _ rfl
            have c0 := (hI.bel.cell (p := ⟨bi, 0, none⟩) hbi).trans C0.out
            have z0 := (hI.bel.frozen (p := ⟨bi, 0, none⟩) hbi).trans Z0.out
            have hbl := Nat.lt_of_lt_of_le hbi hI.bel.size
            refine hK.out _ _ (fun _ => ⟨c0, b0, b1, b2, b3, b4⟩) ?_
            (try simp only [Act.put, List.setIfInBounds_toArray, List.set_cons_zero, List.set_cons_succ])
            refine late_ready (rs := [20]) (by kernel_rfl) (by simp) (LateReady.cons (o := { dst := some 80, op := Op.call { callee := Callee.builtin Builtin.append, args := #[Operand.tmp 73, Operand.tmp 79], argTypes := #[27, 27] }, type := 27, pos := "ref.go:33", after := #[{ on := 13, ground := Ground.data }, { on := 19, ground := Ground.data }, { on := 13, ground := Ground.chain }], guard := none }) rfl (fun K' hK => ?_) LateReady.nil)
            refine step_append_any _ rfl _ _ 27 rfl (w.heap.size + 1) 67 i0 z0i 6 48 Tryd.underlying27 HI3.out HZ0.out HZ1.out HZ2.out HZS.out (by decide) v2 (K + 1) (items (R.take K) ++ itemC (id, a)) rfl hown2 w.heap.size _ (R.length - K) _ (items (R.drop K)) rfl (HD.out _ hI.bel) (items_one _) (by unfold maxLen; omega) (by omega) (by have := hI.box.lt; omega) ?_
            rintro v3 w3 hown3 hg3 hat3
            obtain ⟨A3, cap3, rfl⟩ := own_shape hown3
            have hI := hI.grown hg3 (fun k hk => (World.ownsRow.lt hown2 k hk).1)
            have b0 := hI.box.cell 0 _ rfl
            have b1 := hI.box.cell 1 _ rfl
            have b2 := hI.box.cell 2 _ rfl
            have b3 := hI.box.cell 3 _ rfl
            have b4 := hI.box.cell 4 _ rfl
            have c0 := (hI.bel.cell (p := ⟨bi, 0, none⟩) hbi).trans C0.out
            have z0 := (hI.bel.frozen (p := ⟨bi, 0, none⟩) hbi).trans Z0.out
            have hbl := Nat.lt_of_lt_of_le hbi hI.bel.size
            refine hK.out _ _ (fun _ => ⟨c0, b0, b1, b2, b3, b4⟩) ?_
            (try simp only [Act.put, List.setIfInBounds_toArray, List.set_cons_zero, List.set_cons_succ])
            refine late_take (i := 21) (oi := { dst := some 81, op := Op.nilCheck (Operand.tmp 60), type := 0, pos := "ref.go:33", after := #[{ on := 0, ground := Ground.data }, { on := 0, ground := Ground.phase }, { on := 1, ground := Ground.phase }, { on := 2, ground := Ground.phase }, { on := 3, ground := Ground.phase }, { on := 4, ground := Ground.phase }, { on := 5, ground := Ground.phase }, { on := 6, ground := Ground.phase }, { on := 7, ground := Ground.phase }, { on := 8, ground := Ground.phase }, { on := 9, ground := Ground.phase }, { on := 10, ground := Ground.phase }, { on := 11, ground := Ground.phase }, { on := 12, ground := Ground.phase }, { on := 13, ground := Ground.phase }, { on := 14, ground := Ground.phase }, { on := 15, ground := Ground.phase }, { on := 16, ground := Ground.phase }, { on := 17, ground := Ground.phase }, { on := 18, ground := Ground.phase }, { on := 19, ground := Ground.phase }, { on := 20, ground := Ground.phase }], guard := none }) (v := ?vp20) rfl (by kernel_rfl) (by kernel_rfl) (by kernel_rfl) (by kernel_rfl) (by kernel_rfl) (fun _ _ _ h => h) (by rfl) ⟨c0, b0, b1, b2, b3, b4⟩ ?hyp20 ?restp20
            case hyp20 => (intro w2 hS2; (try dsimp only at hS2); go_simp; (try with_reducible rfl))
            (try simp only [Act.put, List.setIfInBounds_toArray, List.set_cons_zero, List.set_cons_succ])
            refine late_take (i := 22) (oi := { dst := some 82, op := Op.fieldAddr 29 (Operand.tmp 81) 0, type := 0, pos := "ref.go:33", after := #[{ on := 21, ground := Ground.data }, { on := 0, ground := Ground.phase }, { on := 1, ground := Ground.phase }, { on := 2, ground := Ground.phase }, { on := 3, ground := Ground.phase }, { on := 4, ground := Ground.phase }, { on := 5, ground := Ground.phase }, { on := 6, ground := Ground.phase }, { on := 7, ground := Ground.phase }, { on := 8, ground := Ground.phase }, { on := 9, ground := Ground.phase }, { on := 10, ground := Ground.phase }, { on := 11, ground := Ground.phase }, { on := 12, ground := Ground.phase }, { on := 13, ground := Ground.phase }, { on := 14, ground := Ground.phase }, { on := 15, ground := Ground.phase }, { on := 16, ground := Ground.phase }, { on := 17, ground := Ground.phase }, { on := 18, ground := Ground.phase }, { on := 19, ground := Ground.phase }, { on := 20, ground := Ground.phase }], guard := none }) (v := ?vp21) rfl (by kernel_rfl) (by kernel_rfl) (by kernel_rfl) (by kernel_rfl) (by kernel_rfl) (fun _ _ _ h => h) (by rfl) ⟨c0, b0, b1, b2, b3, b4⟩ ?hyp21 ?restp21
            case hyp21 => (intro w2 hS2; (try dsimp only at hS2); go_simp; (try with_reducible rfl))
            (try simp only [Act.put, List.setIfInBounds_toArray, List.set_cons_zero, List.set_cons_succ])
            refine late_ready (rs := [23]) (by kernel_rfl) (by simp) (LateReady.cons (o := { dst := none, op := Op.store 27 (Operand.tmp 82) (Operand.tmp 80), type := 0, pos := "ref.go:33", after := #[{ on := 22, ground := Ground.data }, { on := 20, ground := Ground.data }, { on := 20, ground := Ground.chain }, { on := 0, ground := Ground.phase }, { on := 1, ground := Ground.phase }, { on := 2, ground := Ground.phase }, { on := 3, ground := Ground.phase }, { on := 4, ground := Ground.phase }, { on := 5, ground := Ground.phase }, { on := 6, ground := Ground.phase }, { on := 7, ground := Ground.phase }, { on := 8, ground := Ground.phase }, { on := 9, ground := Ground.phase }, { on := 10, ground := Ground.phase }, { on := 11, ground := Ground.phase }, { on := 12, ground := Ground.phase }, { on := 13, ground := Ground.phase }, { on := 14, ground := Ground.phase }, { on := 15, ground := Ground.phase }, { on := 16, ground := Ground.phase }, { on := 17, ground := Ground.phase }, { on := 18, ground := Ground.phase }, { on := 19, ground := Ground.phase }, { on := 20, ground := Ground.phase }], guard := none }) rfl (fun K' hK => ?_) LateReady.nil)
            go_simp
            refine hK.out _ _ (fun h => absurd rfl h) ?_
            refine late_done (by kernel_rfl) ?_ _
            go_wp2_with fail
            all_goals
              go_ret
              refine ⟨K, hK0.out, HL.out, .inr ⟨fun q hq => by rw [HP.out] at hq; injection hq with hq; subst hq; exact hgt, rfl, ⟨_, Rx.set_ ((hI.bel.block bi hbi).trans HX.out.head) ?_ HX.out.base, .inr fun k hk => by have := (World.ownsRow.lt hown3 k hk).1; omega⟩, (Turned.of_below hI.bel).trans (setCell_turned _ _ _) fun k hk => .inl hk⟩⟩
              rw [putR_len id a hK0.out, putR_items]
              exact hown3.mono (by omega)
-- END
    · have hkn : ¬ ((K : Int) < (R.length : Int)) := by omega
-- PUT A
      go_wp2_with fail
      have hKc : K ≤ cap := Nat.le_trans hK hcap
      have hKz : (K : Int) ≤ (cap : Int) := by omega
      have hKy : (K : Int) ≤ (R.length : Int) := by omega
      have hal := hba.lt
      have hK0 := Lib.hid hK
      have HT := Lib.hid (show ∀ W, Below w.heap.size w W → Reads W w.heap.size 6 A K (items (R.take K)) from fun W hW => (HRd.out.take items (fun k => items_take R k) hK).below hW)
      have HD := Lib.hid (show ∀ W, Below w.heap.size w W → Reads W w.heap.size 6 (if cap = K then A else A.map (·.add (K * 6))) (R.length - K) (items (R.drop K)) from fun W hW => by
        have := (HRd.out.cut hK hcap).below hW
        rw [items_drop R K]
        exact this)
      have hI : Ins w a wr.drew := ⟨hBr.drew, hba⟩
      have c0 : wr.drew.cell? ⟨bi, 0, none⟩ = some (.slice A R.length cap) := c0
      have z0 : wr.drew.frozen? ⟨bi, 0, none⟩ = false := z0
      have hbl : bi < wr.drew.heap.size := Nat.lt_of_lt_of_le hbi hI.bel.size
      have b0 := hI.box.cell 0 _ rfl
      have b1 := hI.box.cell 1 _ rfl
      have b2 := hI.box.cell 2 _ rfl
      have b3 := hI.box.cell 3 _ rfl
      have b4 := hI.box.cell 4 _ rfl
      refine wp_region_late (fun w' => w'.cell? ⟨bi, 0, none⟩ = some (.slice A R.length cap) ∧ w'.cell? ⟨w.heap.size, 0, none⟩ = some (.int .i64 a.s) ∧ w'.cell? ⟨w.heap.size, 1, none⟩ = some (.int .i64 a.r) ∧ w'.cell? ⟨w.heap.size, 2, none⟩ = some (.int .i64 a.c) ∧ w'.cell? ⟨w.heap.size, 3, none⟩ = some (.int .i64 a.n) ∧ w'.cell? ⟨w.heap.size, 4, none⟩ = some (.int .i64 a.m)) 23 (by kernel_rfl) ?_
      have hS : wr.drew.cell? ⟨bi, 0, none⟩ = some (.slice A R.length cap) ∧ wr.drew.cell? ⟨w.heap.size, 0, none⟩ = some (.int .i64 a.s) ∧ wr.drew.cell? ⟨w.heap.size, 1, none⟩ = some (.int .i64 a.r) ∧ wr.drew.cell? ⟨w.heap.size, 2, none⟩ = some (.int .i64 a.c) ∧ wr.drew.cell? ⟨w.heap.size, 3, none⟩ = some (.int .i64 a.n) ∧ wr.drew.cell? ⟨w.heap.size, 4, none⟩ = some (.int .i64 a.m) := ⟨c0, b0, b1, b2, b3, b4⟩
      refine late_take (i := 0) (oi := { dst := some 60, op := Op.move (Operand.tmp 0), type := 26, pos := "ref.go:33", after := #[], guard := none }) (v := ?vq1) rfl (by kernel_rfl) (by kernel_rfl) (by kernel_rfl) (by kernel_rfl) (by kernel_rfl) (fun _ _ _ h => h) (by rfl) hS ?hyq1 ?restq1
      case hyq1 => (intro w2 hS2; (try dsimp only at hS2); go_simp; (try with_reducible rfl))
      (try simp only [Act.put, List.setIfInBounds_toArray, List.set_cons_zero, List.set_cons_succ])
      refine late_take (i := 1) (oi := { dst := some 61, op := Op.move (Operand.tmp 8), type := 27, pos := "ref.go:33", after := #[], guard := none }) (v := ?vq2) rfl (by kernel_rfl) (by kernel_rfl) (by kernel_rfl) (by kernel_rfl) (by kernel_rfl) (fun _ _ _ h => h) (by rfl) hS ?hyq2 ?restq2
      case hyq2 => (intro w2 hS2; (try dsimp only at hS2); go_simp; (try with_reducible rfl))
      (try simp only [Act.put, List.setIfInBounds_toArray, List.set_cons_zero, List.set_cons_succ])
      refine late_take (i := 2) (oi := { dst := some 62, op := Op.move (Operand.tmp 0), type := 26, pos := "ref.go:33", after := #[], guard := none }) (v := ?vq3) rfl (by kernel_rfl) (by kernel_rfl) (by kernel_rfl) (by kernel_rfl) (by kernel_rfl) (fun _ _ _ h => h) (by rfl) hS ?hyq3 ?restq3
      case hyq3 => (intro w2 hS2; (try dsimp only at hS2); go_simp; (try with_reducible rfl))
      (try simp only [Act.put, List.setIfInBounds_toArray, List.set_cons_zero, List.set_cons_succ])
      refine late_take (i := 3) (oi := { dst := some 63, op := Op.nilCheck (Operand.tmp 62), type := 0, pos := "ref.go:33", after := #[{ on := 2, ground := Ground.data }], guard := none }) (v := ?vq4) rfl (by kernel_rfl) (by kernel_rfl) (by kernel_rfl) (by kernel_rfl) (by kernel_rfl) (fun _ _ _ h => h) (by rfl) hS ?hyq4 ?restq4
      case hyq4 => (intro w2 hS2; (try dsimp only at hS2); go_simp; (try with_reducible rfl))
      (try simp only [Act.put, List.setIfInBounds_toArray, List.set_cons_zero, List.set_cons_succ])
      refine late_take (i := 4) (oi := { dst := some 64, op := Op.fieldAddr 29 (Operand.tmp 63) 0, type := 0, pos := "ref.go:33", after := #[{ on := 3, ground := Ground.data }], guard := none }) (v := ?vq5) rfl (by kernel_rfl) (by kernel_rfl) (by kernel_rfl) (by kernel_rfl) (by kernel_rfl) (fun _ _ _ h => h) (by rfl) hS ?hyq5 ?restq5
      case hyq5 => (intro w2 hS2; (try dsimp only at hS2); go_simp; (try with_reducible rfl))
      (try simp only [Act.put, List.setIfInBounds_toArray, List.set_cons_zero, List.set_cons_succ])
      refine late_take (i := 5) (oi := { dst := some 65, op := Op.load 27 (Operand.tmp 64), type := 27, pos := "ref.go:33", after := #[{ on := 4, ground := Ground.data }], guard := none }) (v := ?vq6) rfl (by kernel_rfl) (by kernel_rfl) (by kernel_rfl) (by kernel_rfl) (by kernel_rfl) (fun _ _ _ h => h) (by rfl) hS ?hyq6 ?restq6
      case hyq6 => (intro w2 hS2; (try dsimp only at hS2); go_simp; (try with_reducible rfl))
      (try simp only [Act.put, List.setIfInBounds_toArray, List.set_cons_zero, List.set_cons_succ])
      refine late_take (i := 6) (oi := { dst := some 66, op := Op.move (Operand.tmp 7), type := 3, pos := "ref.go:33", after := #[], guard := none }) (v := ?vq7) rfl (by kernel_rfl) (by kernel_rfl) (by kernel_rfl) (by kernel_rfl) (by kernel_rfl) (fun _ _ _ h => h) (by rfl) hS ?hyq7 ?restq7
      case hyq7 => (intro w2 hS2; (try dsimp only at hS2); go_simp; (try with_reducible rfl))
      (try simp only [Act.put, List.setIfInBounds_toArray, List.set_cons_zero, List.set_cons_succ])
      refine late_take (i := 7) (oi := { dst := some 67, op := Op.slice 27 (Operand.tmp 65) none (some (Operand.tmp 66)) none, type := 27, pos := "ref.go:33", after := #[{ on := 5, ground := Ground.data }, { on := 6, ground := Ground.data }], guard := none }) (v := ?vq8) rfl (by kernel_rfl) (by kernel_rfl) (by kernel_rfl) (by kernel_rfl) (by kernel_rfl) (fun _ _ _ h => h) (by rfl) hS ?hyq8 ?restq8
      case hyq8 => (intro w2 hS2; (try dsimp only at hS2); go_simp; (try with_reducible rfl))
      (try simp only [Act.put, List.setIfInBounds_toArray, List.set_cons_zero, List.set_cons_succ])
      refine late_take (i := 9) (oi := { dst := some 69, op := Op.move (Operand.tmp 1), type := 3, pos := "ref.go:33", after := #[], guard := none }) (v := ?vq9) rfl (by kernel_rfl) (by kernel_rfl) (by kernel_rfl) (by kernel_rfl) (by kernel_rfl) (fun _ _ _ h => h) (by rfl) hS ?hyq9 ?restq9
      case hyq9 => (intro w2 hS2; (try dsimp only at hS2); go_simp; (try with_reducible rfl))
      (try simp only [Act.put, List.setIfInBounds_toArray, List.set_cons_zero, List.set_cons_succ])
      refine late_take (i := 10) (oi := { dst := some 70, op := Op.load 31 (Operand.tmp 5), type := 31, pos := "ref.go:33", after := #[], guard := none }) (v := ?vq10) rfl (by kernel_rfl) (by kernel_rfl) (by kernel_rfl) (by kernel_rfl) (by kernel_rfl) (fun _ _ _ h => h) (by rfl) hS ?hyq10 ?restq10
      case hyq10 => (intro w2 hS2; (try dsimp only at hS2); go_simp; (try with_reducible rfl))
      (try simp only [Act.put, List.setIfInBounds_toArray, List.set_cons_zero, List.set_cons_succ])
      refine late_take (i := 11) (oi := { dst := some 71, op := Op.build 67 #[(0, Operand.tmp 69), (1, Operand.tmp 70)], type := 67, pos := "ref.go:33", after := #[{ on := 9, ground := Ground.data }, { on := 10, ground := Ground.data }], guard := none }) (v := ?vq11) rfl (by kernel_rfl) (by kernel_rfl) (by kernel_rfl) (by kernel_rfl) (by kernel_rfl) (fun _ _ _ h => h) (by rfl) hS ?hyq11 ?restq11
      case hyq11 => (intro w2 hS2; (try dsimp only at hS2); go_simp; (try with_reducible rfl))
      (try simp only [Act.put, List.setIfInBounds_toArray, List.set_cons_zero, List.set_cons_succ])
      refine late_take (i := 14) (oi := { dst := some 74, op := Op.move (Operand.tmp 0), type := 26, pos := "ref.go:33", after := #[], guard := none }) (v := ?vq12) rfl (by kernel_rfl) (by kernel_rfl) (by kernel_rfl) (by kernel_rfl) (by kernel_rfl) (fun _ _ _ h => h) (by rfl) hS ?hyq12 ?restq12
      case hyq12 => (intro w2 hS2; (try dsimp only at hS2); go_simp; (try with_reducible rfl))
      (try simp only [Act.put, List.setIfInBounds_toArray, List.set_cons_zero, List.set_cons_succ])
      refine late_take (i := 15) (oi := { dst := some 75, op := Op.nilCheck (Operand.tmp 74), type := 0, pos := "ref.go:33", after := #[{ on := 14, ground := Ground.data }], guard := none }) (v := ?vq13) rfl (by kernel_rfl) (by kernel_rfl) (by kernel_rfl) (by kernel_rfl) (by kernel_rfl) (fun _ _ _ h => h) (by rfl) hS ?hyq13 ?restq13
      case hyq13 => (intro w2 hS2; (try dsimp only at hS2); go_simp; (try with_reducible rfl))
      (try simp only [Act.put, List.setIfInBounds_toArray, List.set_cons_zero, List.set_cons_succ])
      refine late_take (i := 16) (oi := { dst := some 76, op := Op.fieldAddr 29 (Operand.tmp 75) 0, type := 0, pos := "ref.go:33", after := #[{ on := 15, ground := Ground.data }], guard := none }) (v := ?vq14) rfl (by kernel_rfl) (by kernel_rfl) (by kernel_rfl) (by kernel_rfl) (by kernel_rfl) (fun _ _ _ h => h) (by rfl) hS ?hyq14 ?restq14
      case hyq14 => (intro w2 hS2; (try dsimp only at hS2); go_simp; (try with_reducible rfl))
      (try simp only [Act.put, List.setIfInBounds_toArray, List.set_cons_zero, List.set_cons_succ])
      refine late_take (i := 17) (oi := { dst := some 77, op := Op.load 27 (Operand.tmp 76), type := 27, pos := "ref.go:33", after := #[{ on := 16, ground := Ground.data }], guard := none }) (v := ?vq15) rfl (by kernel_rfl) (by kernel_rfl) (by kernel_rfl) (by kernel_rfl) (by kernel_rfl) (fun _ _ _ h => h) (by rfl) hS ?hyq15 ?restq15
      case hyq15 => (intro w2 hS2; (try dsimp only at hS2); go_simp; (try with_reducible rfl))
      (try simp only [Act.put, List.setIfInBounds_toArray, List.set_cons_zero, List.set_cons_succ])
      refine late_take (i := 18) (oi := { dst := some 78, op := Op.move (Operand.tmp 7), type := 3, pos := "ref.go:33", after := #[], guard := none }) (v := ?vq16) rfl (by kernel_rfl) (by kernel_rfl) (by kernel_rfl) (by kernel_rfl) (by kernel_rfl) (fun _ _ _ h => h) (by rfl) hS ?hyq16 ?restq16
      case hyq16 => (intro w2 hS2; (try dsimp only at hS2); go_simp; (try with_reducible rfl))
      (try simp only [Act.put, List.setIfInBounds_toArray, List.set_cons_zero, List.set_cons_succ])
      refine late_take (i := 19) (oi := { dst := some 79, op := Op.slice 27 (Operand.tmp 77) (some (Operand.tmp 78)) none none, type := 27, pos := "ref.go:33", after := #[{ on := 17, ground := Ground.data }, { on := 18, ground := Ground.data }], guard := none }) (v := ?vq17) rfl (by kernel_rfl) (by kernel_rfl) (by kernel_rfl) (by kernel_rfl) (by kernel_rfl) (fun _ _ _ h => h) (by rfl) hS ?hyq17 ?restq17
      case hyq17 => (intro w2 hS2; (try dsimp only at hS2); go_simp; (try with_reducible rfl))
      (try simp only [Act.put, List.setIfInBounds_toArray, List.set_cons_zero, List.set_cons_succ])
      refine late_ready (rs := [8, 12]) (by kernel_rfl) (by simp) (LateReady.cons (o := { dst := some 68, op := Op.call { callee := Callee.builtin Builtin.append, args := #[Operand.tmp 61, Operand.tmp 67], argTypes := #[27, 27] }, type := 27, pos := "ref.go:33", after := #[{ on := 1, ground := Ground.data }, { on := 7, ground := Ground.data }], guard := none }) rfl (fun K' hK => ?_) (LateReady.cons (o := { dst := some 72, op := Op.buildSlice 27 1 #[(0, Operand.tmp 71)], type := 27, pos := "ref.go:33", after := #[{ on := 11, ground := Ground.data }], guard := none }) rfl (fun K' hK => ?_) LateReady.nil))
      · refine step_append_any _ rfl _ _ 27 rfl (w.heap.size + 1) 67 i0 z0i 6 48 Tryd.underlying27 HI3.out HZ0.out HZ1.out HZ2.out HZS.out (by decide) (.slice none 0 0) 0 [] rfl (owns_nil _ _ _ _) w.heap.size A K cap _ rfl (HT.out _ hI.bel) (items_one _) (by unfold maxLen; omega) (by omega) (by have := hI.box.lt; simp; omega) ?_
        rintro v1 w1 hown1 hg1 hat1
        have hown1 : w1.ownsRow (w.heap.size + 1) 67 6 v1 K (items (R.take K)) := by simpa using hown1
        have hI := hI.grown hg1 (by intro k hk; cases hk)
        have b0 := hI.box.cell 0 _ rfl
        have b1 := hI.box.cell 1 _ rfl
        have b2 := hI.box.cell 2 _ rfl
        have b3 := hI.box.cell 3 _ rfl
        have b4 := hI.box.cell 4 _ rfl
        have c0 := (hI.bel.cell (p := ⟨bi, 0, none⟩) hbi).trans C0.out
        have z0 := (hI.bel.frozen (p := ⟨bi, 0, none⟩) hbi).trans Z0.out
        have hbl := Nat.lt_of_lt_of_le hbi hI.bel.size
        refine hK.out _ _ (fun _ => ⟨c0, b0, b1, b2, b3, b4⟩) ?_
        (try simp only [Act.put, List.setIfInBounds_toArray, List.set_cons_zero, List.set_cons_succ])
        refine late_ready (rs := [12]) (by kernel_rfl) (by simp) (LateReady.cons (o := { dst := some 72, op := Op.buildSlice 27 1 #[(0, Operand.tmp 71)], type := 27, pos := "ref.go:33", after := #[{ on := 11, ground := Ground.data }], guard := none }) rfl (fun K' hK => ?_) LateReady.nil)
        go_simp
        have hN : Reads (w1.alloc (.cells #[.int .i64 id, .int .i64 a.s, .int .i64 a.r, .int .i64 a.c, .int .i64 a.n, .int .i64 a.m] 67)) (w1.heap.size + 1) 6 (some ⟨w1.heap.size, 0, none⟩) 1 (itemC (id, a)) := reads_one w1 67 #[.int .i64 id, .int .i64 a.s, .int .i64 a.r, .int .i64 a.c, .int .i64 a.n, .int .i64 a.m] 6 rfl
        have hI := hI.alloc (.cells #[.int .i64 id, .int .i64 a.s, .int .i64 a.r, .int .i64 a.c, .int .i64 a.n, .int .i64 a.m] 67)
        have b0 := hI.box.cell 0 _ rfl
        have b1 := hI.box.cell 1 _ rfl
        have b2 := hI.box.cell 2 _ rfl
        have b3 := hI.box.cell 3 _ rfl
        have b4 := hI.box.cell 4 _ rfl
        have c0 := (hI.bel.cell (p := ⟨bi, 0, none⟩) hbi).trans C0.out
        have z0 := (hI.bel.frozen (p := ⟨bi, 0, none⟩) hbi).trans Z0.out
        have hbl := Nat.lt_of_lt_of_le hbi hI.bel.size
        refine hK.out _ _ (fun _ => ⟨c0, b0, b1, b2, b3, b4⟩) ?_
        (try simp only [Act.put, List.setIfInBounds_toArray, List.set_cons_zero, List.set_cons_succ])
        refine late_ready (rs := [13]) (by kernel_rfl) (by simp) (LateReady.cons (o := { dst := some 73, op := Op.call { callee := Callee.builtin Builtin.append, args := #[Operand.tmp 68, Operand.tmp 72], argTypes := #[27, 27] }, type := 27, pos := "ref.go:33", after := #[{ on := 8, ground := Ground.data }, { on := 12, ground := Ground.data }, { on := 8, ground := Ground.chain }], guard := none }) rfl (fun K' hK => ?_) LateReady.nil)
        refine step_append_any _ rfl _ _ 27 rfl (w.heap.size + 1) 67 i0 z0i 6 48 Tryd.underlying27 HI3.out HZ0.out HZ1.out HZ2.out HZS.out (by decide) v1 K (items (R.take K)) rfl (hown1.alloc _) _ (some ⟨w1.heap.size, 0, none⟩) 1 1 (itemC (id, a)) rfl hN (by simp [itemC, Value.oneCell']) (by unfold maxLen; omega) (by omega) (by have := hI.box.lt; omega) ?_
        rintro v2 w2 hown2 hg2 hat2
        have hI := hI.grown hg2 (fun k hk => (World.ownsRow.lt hown1 k hk).1)
        have b0 := hI.box.cell 0 _ rfl
        have b1 := hI.box.cell 1 _ rfl
        have b2 := hI.box.cell 2 _ rfl
        have b3 := hI.box.cell 3 _ rfl
        have b4 := hI.box.cell 4 _ rfl
        have c0 := (hI.bel.cell (p := ⟨bi, 0, none⟩) hbi).trans C0.out
        have z0 := (hI.bel.frozen (p := ⟨bi, 0, none⟩) hbi).trans Z0.out
        have hbl := Nat.lt_of_lt_of_le hbi hI.bel.size
        refine hK.out _ _ (fun _ => ⟨c0, b0, b1, b2, b3, b4⟩) ?_
        (try simp only [Act.put, List.setIfInBounds_toArray, List.set_cons_zero, List.set_cons_succ])
        refine late_ready (rs := [20]) (by kernel_rfl) (by simp) (LateReady.cons (o := { dst := some 80, op := Op.call { callee := Callee.builtin Builtin.append, args := #[Operand.tmp 73, Operand.tmp 79], argTypes := #[27, 27] }, type := 27, pos := "ref.go:33", after := #[{ on := 13, ground := Ground.data }, { on := 19, ground := Ground.data }, { on := 13, ground := Ground.chain }], guard := none }) rfl (fun K' hK => ?_) LateReady.nil)
        refine step_append_any _ rfl _ _ 27 rfl (w.heap.size + 1) 67 i0 z0i 6 48 Tryd.underlying27 HI3.out HZ0.out HZ1.out HZ2.out HZS.out (by decide) v2 (K + 1) (items (R.take K) ++ itemC (id, a)) rfl hown2 w.heap.size _ (R.length - K) _ (items (R.drop K)) rfl (HD.out _ hI.bel) (items_one _) (by unfold maxLen; omega) (by omega) (by have := hI.box.lt; omega) ?_
        rintro v3 w3 hown3 hg3 hat3
        obtain ⟨A3, cap3, rfl⟩ := own_shape hown3
        have hI := hI.grown hg3 (fun k hk => (World.ownsRow.lt hown2 k hk).1)
        have b0 := hI.box.cell 0 _ rfl
        have b1 := hI.box.cell 1 _ rfl
        have b2 := hI.box.cell 2 _ rfl
        have b3 := hI.box.cell 3 _ rfl
        have b4 := hI.box.cell 4 _ rfl
        have c0 := (hI.bel.cell (p := ⟨bi, 0, none⟩) hbi).trans C0.out
        have z0 := (hI.bel.frozen (p := ⟨bi, 0, none⟩) hbi).trans Z0.out
        have hbl := Nat.lt_of_lt_of_le hbi hI.bel.size
        refine hK.out _ _ (fun _ => ⟨c0, b0, b1, b2, b3, b4⟩) ?_
        (try simp only [Act.put, List.setIfInBounds_toArray, List.set_cons_zero, List.set_cons_succ])
        refine late_take (i := 21) (oi := { dst := some 81, op := Op.nilCheck (Operand.tmp 60), type := 0, pos := "ref.go:33", after := #[{ on := 0, ground := Ground.data }, { on := 0, ground := Ground.phase }, { on := 1, ground := Ground.phase }, { on := 2, ground := Ground.phase }, { on := 3, ground := Ground.phase }, { on := 4, ground := Ground.phase }, { on := 5, ground := Ground.phase }, { on := 6, ground := Ground.phase }, { on := 7, ground := Ground.phase }, { on := 8, ground := Ground.phase }, { on := 9, ground := Ground.phase }, { on := 10, ground := Ground.phase }, { on := 11, ground := Ground.phase }, { on := 12, ground := Ground.phase }, { on := 13, ground := Ground.phase }, { on := 14, ground := Ground.phase }, { on := 15, ground := Ground.phase }, { on := 16, ground := Ground.phase }, { on := 17, ground := Ground.phase }, { on := 18, ground := Ground.phase }, { on := 19, ground := Ground.phase }, { on := 20, ground := Ground.phase }], guard := none }) (v := ?vq18) rfl (by kernel_rfl) (by kernel_rfl) (by kernel_rfl) (by kernel_rfl) (by kernel_rfl) (fun _ _ _ h => h) (by rfl) ⟨c0, b0, b1, b2, b3, b4⟩ ?hyq18 ?restq18
        case hyq18 => (intro w2 hS2; (try dsimp only at hS2); go_simp; (try with_reducible rfl))
        (try simp only [Act.put, List.setIfInBounds_toArray, List.set_cons_zero, List.set_cons_succ])
        refine late_take (i := 22) (oi := { dst := some 82, op := Op.fieldAddr 29 (Operand.tmp 81) 0, type := 0, pos := "ref.go:33", after := #[{ on := 21, ground := Ground.data }, { on := 0, ground := Ground.phase }, { on := 1, ground := Ground.phase }, { on := 2, ground := Ground.phase }, { on := 3, ground := Ground.phase }, { on := 4, ground := Ground.phase }, { on := 5, ground := Ground.phase }, { on := 6, ground := Ground.phase }, { on := 7, ground := Ground.phase }, { on := 8, ground := Ground.phase }, { on := 9, ground := Ground.phase }, { on := 10, ground := Ground.phase }, { on := 11, ground := Ground.phase }, { on := 12, ground := Ground.phase }, { on := 13, ground := Ground.phase }, { on := 14, ground := Ground.phase }, { on := 15, ground := Ground.phase }, { on := 16, ground := Ground.phase }, { on := 17, ground := Ground.phase }, { on := 18, ground := Ground.phase }, { on := 19, ground := Ground.phase }, { on := 20, ground := Ground.phase }], guard := none }) (v := ?vq19) rfl (by kernel_rfl) (by kernel_rfl) (by kernel_rfl) (by kernel_rfl) (by kernel_rfl) (fun _ _ _ h => h) (by rfl) ⟨c0, b0, b1, b2, b3, b4⟩ ?hyq19 ?restq19
        case hyq19 => (intro w2 hS2; (try dsimp only at hS2); go_simp; (try with_reducible rfl))
        (try simp only [Act.put, List.setIfInBounds_toArray, List.set_cons_zero, List.set_cons_succ])
        refine late_ready (rs := [23]) (by kernel_rfl) (by simp) (LateReady.cons (o := { dst := none, op := Op.store 27 (Operand.tmp 82) (Operand.tmp 80), type := 0, pos := "ref.go:33", after := #[{ on := 22, ground := Ground.data }, { on := 20, ground := Ground.data }, { on := 20, ground := Ground.chain }, { on := 0, ground := Ground.phase }, { on := 1, ground := Ground.phase }, { on := 2, ground := Ground.phase }, { on := 3, ground := Ground.phase }, { on := 4, ground := Ground.phase }, { on := 5, ground := Ground.phase }, { on := 6, ground := Ground.phase }, { on := 7, ground := Ground.phase }, { on := 8, ground := Ground.phase }, { on := 9, ground := Ground.phase }, { on := 10, ground := Ground.phase }, { on := 11, ground := Ground.phase }, { on := 12, ground := Ground.phase }, { on := 13, ground := Ground.phase }, { on := 14, ground := Ground.phase }, { on := 15, ground := Ground.phase }, { on := 16, ground := Ground.phase }, { on := 17, ground := Ground.phase }, { on := 18, ground := Ground.phase }, { on := 19, ground := Ground.phase }, { on := 20, ground := Ground.phase }], guard := none }) rfl (fun K' hK => ?_) LateReady.nil)
        go_simp
        refine hK.out _ _ (fun h => absurd rfl h) ?_
        refine late_done (by kernel_rfl) ?_ _
        go_wp2_with fail
        all_goals
          go_ret
          refine ⟨K, hK0.out, HL.out, .inr ⟨fun q hq => absurd (List.getElem?_eq_some_iff.1 hq).1 hlt, rfl, ⟨_, Rx.set_ ((hI.bel.block bi hbi).trans HX.out.head) ?_ HX.out.base, .inr fun k hk => by have := (World.ownsRow.lt hown3 k hk).1; omega⟩, (Turned.of_below hI.bel).trans (setCell_turned _ _ _) fun k hk => .inl hk⟩⟩
          rw [putR_len id a hK0.out, putR_items]
          exact hown3.mono (by omega)
      · go_simp
        have hN : Reads (wr.drew.alloc (.cells #[.int .i64 id, .int .i64 a.s, .int .i64 a.r, .int .i64 a.c, .int .i64 a.n, .int .i64 a.m] 67)) (wr.drew.heap.size + 1) 6 (some ⟨wr.drew.heap.size, 0, none⟩) 1 (itemC (id, a)) := reads_one wr.drew 67 #[.int .i64 id, .int .i64 a.s, .int .i64 a.r, .int .i64 a.c, .int .i64 a.n, .int .i64 a.m] 6 rfl
        have hI := hI.alloc (.cells #[.int .i64 id, .int .i64 a.s, .int .i64 a.r, .int .i64 a.c, .int .i64 a.n, .int .i64 a.m] 67)
        have b0 := hI.box.cell 0 _ rfl
        have b1 := hI.box.cell 1 _ rfl
        have b2 := hI.box.cell 2 _ rfl
        have b3 := hI.box.cell 3 _ rfl
        have b4 := hI.box.cell 4 _ rfl
        have c0 := (hI.bel.cell (p := ⟨bi, 0, none⟩) hbi).trans C0.out
        have z0 := (hI.bel.frozen (p := ⟨bi, 0, none⟩) hbi).trans Z0.out
        have hbl := Nat.lt_of_lt_of_le hbi hI.bel.size
        refine hK.out _ _ (fun _ => ⟨c0, b0, b1, b2, b3, b4⟩) ?_
        (try simp only [Act.put, List.setIfInBounds_toArray, List.set_cons_zero, List.set_cons_succ])
        refine late_ready (rs := [8]) (by kernel_rfl) (by simp) (LateReady.cons (o := { dst := some 68, op := Op.call { callee := Callee.builtin Builtin.append, args := #[Operand.tmp 61, Operand.tmp 67], argTypes := #[27, 27] }, type := 27, pos := "ref.go:33", after := #[{ on := 1, ground := Ground.data }, { on := 7, ground := Ground.data }], guard := none }) rfl (fun K' hK => ?_) LateReady.nil)
        refine step_append_any _ rfl _ _ 27 rfl (w.heap.size + 1) 67 i0 z0i 6 48 Tryd.underlying27 HI3.out HZ0.out HZ1.out HZ2.out HZS.out (by decide) (.slice none 0 0) 0 [] rfl (owns_nil _ _ _ _) w.heap.size A K cap _ rfl (HT.out _ hI.bel) (items_one _) (by unfold maxLen; omega) (by omega) (by have := hI.box.lt; simp; omega) ?_
        rintro v1 w1 hown1 hg1 hat1
        have hown1 : w1.ownsRow (w.heap.size + 1) 67 6 v1 K (items (R.take K)) := by simpa using hown1
        have hI := hI.grown hg1 (by intro k hk; cases hk)
        have b0 := hI.box.cell 0 _ rfl
        have b1 := hI.box.cell 1 _ rfl
        have b2 := hI.box.cell 2 _ rfl
        have b3 := hI.box.cell 3 _ rfl
        have b4 := hI.box.cell 4 _ rfl
        have c0 := (hI.bel.cell (p := ⟨bi, 0, none⟩) hbi).trans C0.out
        have z0 := (hI.bel.frozen (p := ⟨bi, 0, none⟩) hbi).trans Z0.out
        have hbl := Nat.lt_of_lt_of_le hbi hI.bel.size
        refine hK.out _ _ (fun _ => ⟨c0, b0, b1, b2, b3, b4⟩) ?_
        (try simp only [Act.put, List.setIfInBounds_toArray, List.set_cons_zero, List.set_cons_succ])
        have hN := hN.grown hg1 (by simp) (by intro k hk; cases hk)
        refine late_ready (rs := [13]) (by kernel_rfl) (by simp) (LateReady.cons (o := { dst := some 73, op := Op.call { callee := Callee.builtin Builtin.append, args := #[Operand.tmp 68, Operand.tmp 72], argTypes := #[27, 27] }, type := 27, pos := "ref.go:33", after := #[{ on := 8, ground := Ground.data }, { on := 12, ground := Ground.data }, { on := 8, ground := Ground.chain }], guard := none }) rfl (fun K' hK => ?_) LateReady.nil)
        refine step_append_any _ rfl _ _ 27 rfl (w.heap.size + 1) 67 i0 z0i 6 48 Tryd.underlying27 HI3.out HZ0.out HZ1.out HZ2.out HZS.out (by decide) v1 K (items (R.take K)) rfl hown1 _ (some ⟨wr.drew.heap.size, 0, none⟩) 1 1 (itemC (id, a)) rfl hN (by simp [itemC, Value.oneCell']) (by unfold maxLen; omega) (by omega) (by have := hI.box.lt; omega) ?_
        rintro v2 w2 hown2 hg2 hat2
        have hI := hI.grown hg2 (fun k hk => (World.ownsRow.lt hown1 k hk).1)
        have b0 := hI.box.cell 0 _ rfl
        have b1 := hI.box.cell 1 _ rfl
        have b2 := hI.box.cell 2 _ rfl
        have b3 := hI.box.cell 3 _ rfl
        have b4 := hI.box.cell 4 _ rfl
        have c0 := (hI.bel.cell (p := ⟨bi, 0, none⟩) hbi).trans C0.out
        have z0 := (hI.bel.frozen (p := ⟨bi, 0, none⟩) hbi).trans Z0.out
        have hbl := Nat.lt_of_lt_of_le hbi hI.bel.size
        refine hK.out _ _ (fun _ => ⟨c0, b0, b1, b2, b3, b4⟩) ?_
        (try simp only [Act.put, List.setIfInBounds_toArray, List.set_cons_zero, List.set_cons_succ])
        refine late_ready (rs := [20]) (by kernel_rfl) (by simp) (LateReady.cons (o := { dst := some 80, op := Op.call { callee := Callee.builtin Builtin.append, args := #[Operand.tmp 73, Operand.tmp 79], argTypes := #[27, 27] }, type := 27, pos := "ref.go:33", after := #[{ on := 13, ground := Ground.data }, { on := 19, ground := Ground.data }, { on := 13, ground := Ground.chain }], guard := none }) rfl (fun K' hK => ?_) LateReady.nil)
        refine step_append_any _ rfl _ _ 27 rfl (w.heap.size + 1) 67 i0 z0i 6 48 Tryd.underlying27 HI3.out HZ0.out HZ1.out HZ2.out HZS.out (by decide) v2 (K + 1) (items (R.take K) ++ itemC (id, a)) rfl hown2 w.heap.size _ (R.length - K) _ (items (R.drop K)) rfl (HD.out _ hI.bel) (items_one _) (by unfold maxLen; omega) (by omega) (by have := hI.box.lt; omega) ?_
        rintro v3 w3 hown3 hg3 hat3
        obtain ⟨A3, cap3, rfl⟩ := own_shape hown3
        have hI := hI.grown hg3 (fun k hk => (World.ownsRow.lt hown2 k hk).1)
        have b0 := hI.box.cell 0 _ rfl
        have b1 := hI.box.cell 1 _ rfl
        have b2 := hI.box.cell 2 _ rfl
        have b3 := hI.box.cell 3 _ rfl
        have b4 := hI.box.cell 4 _ rfl
        have c0 := (hI.bel.cell (p := ⟨bi, 0, none⟩) hbi).trans C0.out
        have z0 := (hI.bel.frozen (p := ⟨bi, 0, none⟩) hbi).trans Z0.out
        have hbl := Nat.lt_of_lt_of_le hbi hI.bel.size
        refine hK.out _ _ (fun _ => ⟨c0, b0, b1, b2, b3, b4⟩) ?_
        (try simp only [Act.put, List.setIfInBounds_toArray, List.set_cons_zero, List.set_cons_succ])
        refine late_take (i := 21) (oi := { dst := some 81, op := Op.nilCheck (Operand.tmp 60), type := 0, pos := "ref.go:33", after := #[{ on := 0, ground := Ground.data }, { on := 0, ground := Ground.phase }, { on := 1, ground := Ground.phase }, { on := 2, ground := Ground.phase }, { on := 3, ground := Ground.phase }, { on := 4, ground := Ground.phase }, { on := 5, ground := Ground.phase }, { on := 6, ground := Ground.phase }, { on := 7, ground := Ground.phase }, { on := 8, ground := Ground.phase }, { on := 9, ground := Ground.phase }, { on := 10, ground := Ground.phase }, { on := 11, ground := Ground.phase }, { on := 12, ground := Ground.phase }, { on := 13, ground := Ground.phase }, { on := 14, ground := Ground.phase }, { on := 15, ground := Ground.phase }, { on := 16, ground := Ground.phase }, { on := 17, ground := Ground.phase }, { on := 18, ground := Ground.phase }, { on := 19, ground := Ground.phase }, { on := 20, ground := Ground.phase }], guard := none }) (v := ?vq20) rfl (by kernel_rfl) (by kernel_rfl) (by kernel_rfl) (by kernel_rfl) (by kernel_rfl) (fun _ _ _ h => h) (by rfl) ⟨c0, b0, b1, b2, b3, b4⟩ ?hyq20 ?restq20
        case hyq20 => (intro w2 hS2; (try dsimp only at hS2); go_simp; (try with_reducible rfl))
        (try simp only [Act.put, List.setIfInBounds_toArray, List.set_cons_zero, List.set_cons_succ])
        refine late_take (i := 22) (oi := { dst := some 82, op := Op.fieldAddr 29 (Operand.tmp 81) 0, type := 0, pos := "ref.go:33", after := #[{ on := 21, ground := Ground.data }, { on := 0, ground := Ground.phase }, { on := 1, ground := Ground.phase }, { on := 2, ground := Ground.phase }, { on := 3, ground := Ground.phase }, { on := 4, ground := Ground.phase }, { on := 5, ground := Ground.phase }, { on := 6, ground := Ground.phase }, { on := 7, ground := Ground.phase }, { on := 8, ground := Ground.phase }, { on := 9, ground := Ground.phase }, { on := 10, ground := Ground.phase }, { on := 11, ground := Ground.phase }, { on := 12, ground := Ground.phase }, { on := 13, ground := Ground.phase }, { on := 14, ground := Ground.phase }, { on := 15, ground := Ground.phase }, { on := 16, ground := Ground.phase }, { on := 17, ground := Ground.phase }, { on := 18, ground := Ground.phase }, { on := 19, ground := Ground.phase }, { on := 20, ground := Ground.phase }], guard := none }) (v := ?vq21) rfl (by kernel_rfl) (by kernel_rfl) (by kernel_rfl) (by kernel_rfl) (by kernel_rfl) (fun _ _ _ h => h) (by rfl) ⟨c0, b0, b1, b2, b3, b4⟩ ?hyq21 ?restq21
        case hyq21 => (intro w2 hS2; (try dsimp only at hS2); go_simp; (try with_reducible rfl))
        (try simp only [Act.put, List.setIfInBounds_toArray, List.set_cons_zero, List.set_cons_succ])
        refine late_ready (rs := [23]) (by kernel_rfl) (by simp) (LateReady.cons (o := { dst := none, op := Op.store 27 (Operand.tmp 82) (Operand.tmp 80), type := 0, pos := "ref.go:33", after := #[{ on := 22, ground := Ground.data }, { on := 20, ground := Ground.data }, { on := 20, ground := Ground.chain }, { on := 0, ground := Ground.phase }, { on := 1, ground := Ground.phase }, { on := 2, ground := Ground.phase }, { on := 3, ground := Ground.phase }, { on := 4, ground := Ground.phase }, { on := 5, ground := Ground.phase }, { on := 6, ground := Ground.phase }, { on := 7, ground := Ground.phase }, { on := 8, ground := Ground.phase }, { on := 9, ground := Ground.phase }, { on := 10, ground := Ground.phase }, { on := 11, ground := Ground.phase }, { on := 12, ground := Ground.phase }, { on := 13, ground := Ground.phase }, { on := 14, ground := Ground.phase }, { on := 15, ground := Ground.phase }, { on := 16, ground := Ground.phase }, { on := 17, ground := Ground.phase }, { on := 18, ground := Ground.phase }, { on := 19, ground := Ground.phase }, { on := 20, ground := Ground.phase }], guard := none }) rfl (fun K' hK => ?_) LateReady.nil)
        go_simp
        refine hK.out _ _ (fun h => absurd rfl h) ?_
        refine late_done (by kernel_rfl) ?_ _
        go_wp2_with fail
        all_goals
          go_ret
          refine ⟨K, hK0.out, HL.out, .inr ⟨fun q hq => absurd (List.getElem?_eq_some_iff.1 hq).1 hlt, rfl, ⟨_, Rx.set_ ((hI.bel.block bi hbi).trans HX.out.head) ?_ HX.out.base, .inr fun k hk => by have := (World.ownsRow.lt hown3 k hk).1; omega⟩, (Turned.of_below hI.bel).trans (setCell_turned _ _ _) fun k hk => .inl hk⟩⟩
          rw [putR_len id a hK0.out, putR_items]
          exact hown3.mono (by omega)
-- END
end Go.Proofs.YtnbfkhcignjfoaaDoor
