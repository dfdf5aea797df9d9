/- The examples. -/
import Derived.Test.YtnbfkhcignjfoaaDoorInts
import Derived.Test.YtnbfkhcignjfoaaDoorTake
namespace Go.Proofs.YtnbfkhcignjfoaaDoor
open Go Go.RowKit Go.Maps

theorem asc_unique : ∀ {xs ys : List Int}, xs.Pairwise (· < ·) → ys.Pairwise (· < ·) → (∀ x, x ∈ xs ↔ x ∈ ys) → xs = ys
  | [], [], _, _, _ => rfl
  | [], y :: ys, _, _, h => absurd ((h y).2 (List.mem_cons_self ..)) (by simp)
  | x :: xs, [], _, _, h => absurd ((h x).1 (List.mem_cons_self ..)) (by simp)
  | x :: xs, y :: ys, hx, hy, h => by
    rw [List.pairwise_cons] at hx hy
    have h1 : x = y := by
      rcases List.mem_cons.1 ((h y).2 (List.mem_cons_self ..)) with e | e
      · exact e.symm
      · rcases List.mem_cons.1 ((h x).1 (List.mem_cons_self ..)) with e2 | e2
        · exact e2
        · have := hx.1 y e
          have := hy.1 x e2
          omega
    subst h1
    rw [asc_unique hx.2 hy.2 fun z => ⟨fun hz => ?_, fun hz => ?_⟩]
    · rcases List.mem_cons.1 ((h z).1 (List.mem_cons_of_mem _ hz)) with e | e
      · have := hx.1 z hz
        omega
      · exact e
    · rcases List.mem_cons.1 ((h z).2 (List.mem_cons_of_mem _ hz)) with e | e
      · have := hy.1 z hz
        omega
      · exact e
theorem Asked.unique {L : Ids} {q : Ar → Bool} {xs ys : List Int} (hx : Asked L q xs) (hy : Asked L q ys) : xs = ys := asc_unique hx.up hy.up fun x => (hx.mem x).trans (hy.mem x).symm
theorem Ix.low {w : World} {B bi N : Nat} {L : Ids} {T : Nat → Prop} (h : Ix w B bi L N T) : ∀ k, T k → B ≤ k ∧ k < w.heap.size := by
  obtain ⟨T1, ma, mb, f, c, g, h, rfl⟩ := h
  rintro k (hk | rfl)
  · exact h.lt k (.inl hk)
  · exact h.lt _ (.inr (.inl rfl))
theorem Errs.mono {w : World} {D B : Nat} {p q : Addr} (h : Errs w D p q) (hD : D ≤ B) (hB : B ≤ w.heap.size) : Errs w B p q :=
  ⟨h.g0, h.g1, h.ne, h.hp, h.hq, Nat.lt_of_lt_of_le h.bp hD, Nat.lt_of_lt_of_le h.bq hD, Nat.le_trans h.two hD, hB⟩
theorem StorePost.below {v : Value} {B bi N' N2 : Nat} {L L' : Ids} {T : Nat → Prop} {w w' : World} {e : Ending} (h : StorePost v B bi L' N2 T w e w') (hI : Ix w B bi L N' T) (hs : B ≤ w.heap.size) : Below B w w' := by
  obtain ⟨_, T', _, _, ht⟩ := h
  exact ht.below (fun k hk => (hI.low k hk).1) hs
/-- What a call leaves: the index stands, below B nothing has turned. -/
def Left (v : Value) (B bi : Nat) (L : Ids) (N : Nat) (w : World) (e : Ending) (w' : World) : Prop := e = .returned v ∧ (∃ T, Ix w' B bi L N T) ∧ Below B w w'
theorem put_left (B bi N : Nat) (L L' : Ids) (id z : Int) (a : Ar) (p q : Addr) (w : World) (hI : ∃ T, Ix w B bi L N T) (hE : Errs w B p q) (hN : N ≤ 90000) (hz : putE L id a = z) (hL : putL L id a = L') :
    Calls Tryd.prog 9 #[.pointer (some ⟨bi, 0, none⟩), .int .i64 id, a.v] w (Left (.int .i64 z) B bi L' (N + 200) w) := by
  obtain ⟨T, hI⟩ := hI
  have h := put_ix B bi N L T id a p q w hI hE hN
  rw [hz, hL] at h
  refine h.mono ?_
  intro e w' hp
  have hb := hp.below hI hE.le
  obtain ⟨he, T', hI', _⟩ := hp
  exact ⟨he, ⟨T', hI'⟩, hb⟩
theorem drop_left (B bi N : Nat) (L L' : Ids) (id : Int) (b : Bool) (w : World) (hI : ∃ T, Ix w B bi L N T) (hB : B ≤ w.heap.size) (hN : N ≤ 90000) (hid : i64R id) (hb : (areaAt L id).isSome = b) (hL : dropL L id = L') :
    Calls Tryd.prog 11 #[.pointer (some ⟨bi, 0, none⟩), .int .i64 id] w (Left (.bool b) B bi L' (N + 200) w) := by
  obtain ⟨T, hI⟩ := hI
  have h := drop_ix B bi N L T id w hI hN hid
  rw [hb, hL] at h
  refine h.mono ?_
  intro e w' hp
  have hb := hp.below hI hB
  obtain ⟨he, T', hI', _⟩ := hp
  exact ⟨he, ⟨T', hI'⟩, hb⟩
abbrev exL : Ids := [(3, ⟨0, 0, 0, 2, 2⟩), (1, ⟨0, 1, 1, 2, 2⟩)]
theorem exHits : Asked exL (hasB 0 1 1) [1, 3] := by
  refine ⟨by simp, fun x => ?_⟩
  constructor
  · intro h
    simp at h
    rcases h with rfl | rfl
    · exact ⟨⟨0, 1, 1, 2, 2⟩, by simp, by decide⟩
    · exact ⟨⟨0, 0, 0, 2, 2⟩, by simp, by decide⟩
  · rintro ⟨a, h, _⟩
    simp at h
    rcases h with ⟨rfl, _⟩ | ⟨rfl, _⟩ <;> simp
theorem exMeets : Asked exL (meetsB 0 0 2 9 1) [1] := by
  refine ⟨by simp, fun x => ?_⟩
  constructor
  · intro h
    simp at h
    subst h
    exact ⟨⟨0, 1, 1, 2, 2⟩, by simp, by decide⟩
  · rintro ⟨a, h, hq⟩
    simp at h
    rcases h with ⟨rfl, rfl⟩ | ⟨rfl, _⟩
    · revert hq
      decide
    · simp
/-- A row of numbers that no call of the index turns. -/
def Row (w : World) (B : Nat) (T : Nat → Prop) (v : Value) (zs : List Int) : Prop := w.ownsRow B 3 1 v zs.length (ints zs) ∧ ∀ k, v.ownBlock = some k → ¬ T k
theorem Row.turned {w w' : World} {B : Nat} {T T' : Nat → Prop} {v : Value} {zs : List Int} (h : Row w B T v zs) (ht : Turned T w w') (hT : ∀ k, T' k → T k ∨ w.heap.size ≤ k) : Row w' B T' v zs :=
  ⟨h.1.same fun k hk => ht.block k (World.ownsRow.lt h.1 k hk).2 (h.2 k hk), fun k hk hT' => (hT k hT').elim (h.2 k hk) fun h2 => by have := (World.ownsRow.lt h.1 k hk).2; omega⟩
theorem Row.below {w w' : World} {B : Nat} {T : Nat → Prop} {v : Value} {zs : List Int} (h : Row w B T v zs) (hB : Below w.heap.size w w') : Row w' B T v zs := ⟨h.1.below hB, h.2⟩
theorem Row.new {w w' : World} {B bi N : Nat} {L : Ids} {T : Nat → Prop} {v : Value} {zs : List Int} (hI : Ix w B bi L N T) (h : w'.ownsRow w.heap.size 3 1 v zs.length (ints zs)) (hB : B ≤ w.heap.size) : Row w' B T v zs :=
  ⟨h.mono hB, fun k hk hT => by have := (World.ownsRow.lt h k hk).1; have := (hI.low k hT).2; omega⟩
theorem owns_made (w : World) (B : Nat) (zs : List Int) (hB : B ≤ w.heap.size) (hl : zs.length ≤ maxLen) : (w.alloc (.cells (ints zs).toArray 3)).ownsRow B 3 1 (.slice (some ⟨w.heap.size, 0, none⟩) zs.length zs.length) zs.length (ints zs) :=
  ⟨by simp, .inr ⟨w.heap.size, zs.length, (ints zs).toArray, rfl, hB, (MapKept.heap_alloc w _).1, Nat.le_refl _, hl, by simp, List.take_of_length_le (by simp)⟩⟩
set_option maxRecDepth 100000 in
set_option maxHeartbeats 8000000 in
theorem shown_any (D : Nat) (p q : Addr) (w : World) (hE : Errs w D p q) :
    Calls Tryd.prog 7 #[] w fun e w' => e = .returned (.bool true) ∧ Below w.heap.size w w' := by
  have HE : ∀ w1, Below w.heap.size w w1 → Errs w1 w.heap.size p q := fun w1 hb => (hE.below (hb.mono hE.le)).mono hE.le hb.size
  have hE0 := Lib.hid HE
  obtain ⟨B, hB⟩ : ∃ B, B = w.heap.size := ⟨_, rfl⟩
  obtain ⟨bi, hbi⟩ : ∃ bi, bi = w.heap.size + 2 := ⟨_, rfl⟩
  have HN := Lib.hid (show Calls Tryd.prog 8 #[] w (Left (.pointer (some ⟨bi, 0, none⟩)) B bi [] 0 w) from (new_any w).mono fun e w' ⟨he, hw⟩ => by
    subst hw hB hbi
    obtain ⟨T, h1, _⟩ := new_ix w
    exact ⟨he, ⟨T, h1⟩, (((Below.refl w.heap.size w).alloc (Nat.le_refl _) _).alloc (by simp) _).alloc (by simp; omega) _⟩)
  have H1 := Lib.hid (show ∀ w1, Below B w w1 → (∃ T, Ix w1 B bi [] 0 T) → Calls Tryd.prog 9 #[.pointer (some ⟨bi, 0, none⟩), .int .i64 3, areaV 0 0 0 2 2] w1 (Left (.int .i64 0) B bi [(3, ⟨0, 0, 0, 2, 2⟩)] 200 w1) from fun w1 hb hI =>
    put_left B bi 0 [] _ 3 0 ⟨0, 0, 0, 2, 2⟩ p q w1 hI (by subst hB; exact HE w1 hb) (by omega) (by decide) (by decide))
  have H2 := Lib.hid (show ∀ w1, Below B w w1 → (∃ T, Ix w1 B bi [(3, ⟨0, 0, 0, 2, 2⟩)] 200 T) → Calls Tryd.prog 9 #[.pointer (some ⟨bi, 0, none⟩), .int .i64 1, areaV 0 1 1 2 2] w1 (Left (.int .i64 0) B bi exL 400 w1) from fun w1 hb hI =>
    put_left B bi 200 _ _ 1 0 ⟨0, 1, 1, 2, 2⟩ p q w1 hI (by subst hB; exact HE w1 hb) (by omega) (by decide) (by decide))
  have H3 := Lib.hid (show ∀ w1, Below B w w1 → (∃ T, Ix w1 B bi exL 400 T) → Calls Tryd.prog 9 #[.pointer (some ⟨bi, 0, none⟩), .int .i64 1, areaV 0 0 0 1 1] w1 (Left (.int .i64 110) B bi exL 600 w1) from fun w1 hb hI =>
    put_left B bi 400 _ _ 1 110 ⟨0, 0, 0, 1, 1⟩ p q w1 hI (by subst hB; exact HE w1 hb) (by omega) (by decide) (by decide))
  have H4 := Lib.hid (show ∀ w1, Below B w w1 → (∃ T, Ix w1 B bi exL 600 T) → Calls Tryd.prog 9 #[.pointer (some ⟨bi, 0, none⟩), .int .i64 (-1), areaV 0 0 0 1 1] w1 (Left (.int .i64 2) B bi exL 800 w1) from fun w1 hb hI =>
    put_left B bi 600 _ _ (-1) 2 ⟨0, 0, 0, 1, 1⟩ p q w1 hI (by subst hB; exact HE w1 hb) (by omega) (by decide) (by decide))
  have H5 := Lib.hid (show ∀ w1 T, Ix w1 B bi exL 800 T → Calls Tryd.prog 14 #[.pointer (some ⟨bi, 0, none⟩), atV 0 1 1] w1 (AskPost exL (hasB 0 1 1) w1) from fun w1 T hI => hits_any B bi 800 exL T 0 1 1 w1 hI (by unfold i64R; omega) (by unfold i64R; omega) (by omega))
  have H6 := Lib.hid (show ∀ w1 T, Ix w1 B bi exL 800 T → Calls Tryd.prog 16 #[.pointer (some ⟨bi, 0, none⟩), areaV 0 0 2 9 1] w1 (AskPost exL (meetsB 0 0 2 9 1) w1) from fun w1 T hI => meets_any B bi 800 exL T 0 0 2 9 1 w1 hI (by omega))
  have H7 := Lib.hid (show ∀ w1 T, Ix w1 B bi exL 800 T → Calls Tryd.prog 11 #[.pointer (some ⟨bi, 0, none⟩), .int .i64 3] w1 (StorePost (.bool true) B bi [(1, ⟨0, 1, 1, 2, 2⟩)] 1000 T w1) from fun w1 T hI => drop_ix B bi 800 exL T 3 w1 hI (by omega) (by unfold i64R; omega))
  have H8 := Lib.hid (show ∀ w1 T, Ix w1 B bi [(1, ⟨0, 1, 1, 2, 2⟩)] 1000 T → Calls Tryd.prog 11 #[.pointer (some ⟨bi, 0, none⟩), .int .i64 3] w1 (StorePost (.bool false) B bi [(1, ⟨0, 1, 1, 2, 2⟩)] 1200 T w1) from fun w1 T hI => drop_ix B bi 1000 _ T 3 w1 hI (by omega) (by unfold i64R; omega))
  have H9 := Lib.hid (show ∀ w1 T, Ix w1 B bi [(1, ⟨0, 1, 1, 2, 2⟩)] 1200 T → Calls Tryd.prog 18 #[.pointer (some ⟨bi, 0, none⟩)] w1 fun e w' => e = .returned (.int .i64 1) ∧ w' = w1 from fun w1 T hI => len_any B bi 1200 _ T w1 hI)
  have HS : B ≤ w.heap.size := by omega
  have HBl := Lib.hid hB
  clear HE hE0 hE hB hbi
  go_enter Tryd.func7, Tryd.ntmps7
  go_wp2_with (first
    | (go_at_call 8; refine HN.out.mono ?_; clear HN; rintro e w1 ⟨rfl, hI1, hB1⟩)
    | (go_at_call 9; refine (H1.out _ hB1 hI1).mono ?_; clear H1; rintro e w2 ⟨rfl, hI2, hB2⟩; have hB2 := hB1.trans hB2)
    | (go_at_call 9; refine (H2.out _ hB2 hI2).mono ?_; clear H2; rintro e w3 ⟨rfl, hI3, hB3⟩; have hB3 := hB2.trans hB3)
    | (go_at_call 9; refine (H3.out _ hB3 hI3).mono ?_; clear H3; rintro e w4 ⟨rfl, hI4, hB4⟩; have hB4 := hB3.trans hB4)
    | (go_at_call 9; refine (H4.out _ hB4 hI4).mono ?_; clear H4; rintro e w5 ⟨rfl, ⟨T, hI5⟩, hB5⟩; have hB5 := hB4.trans hB5)
    | (go_at_call 14; refine (H5.out _ T hI5).mono ?_; clear H5; rintro e w6 ⟨v6, zs6, rfl, ha6, hl6, hr6, hB6⟩; have hI6 := hI5.below hB6 (Nat.le_refl _))
    | (go_at_call 16; refine (H6.out _ T hI6).mono ?_; clear H6; rintro e w7 ⟨v7, zs7, rfl, ha7, hl7, hr7, hB7⟩; have hI7 := hI6.below hB7 (Nat.le_refl _))
    | (go_at_call 11; refine (H7.out _ T hI7).mono ?_; clear H7; rintro e w8 ⟨rfl, T8, hI8, hT8, ht8⟩)
    | (go_at_call 11; refine (H8.out _ T8 hI8).mono ?_; clear H8; rintro e w9 ⟨rfl, T9, hI9, hT9, ht9⟩; obtain rfl : zs6 = [1, 3] := ha6.unique exHits; obtain rfl : zs7 = [1] := ha7.unique exMeets; have hb56 := hB5.size; have hb67 := hB6.size; have hb78 := hB7.size; have hb89 := ht8.size; have hb9 := ht9.size; have R6 := (((Row.new hI5 hr6 (by omega)).below hB7).turned ht8 hT8).turned ht9 hT9; have R7 := ((Row.new hI6 hr7 (by omega)).turned ht8 hT8).turned ht9 hT9; have HB9 := Lib.hid (((hB5.trans (hB6.mono (by omega))).trans (hB7.mono (by omega))).trans ((ht8.below (fun k hk => (hI7.low k hk).1) (by omega)).trans (ht9.below (fun k hk => (hI8.low k hk).1) (by omega)))); have HX := Lib.hid (ints_eq [1, 3] B B v6 (.slice (some ⟨w9.heap.size, 0, none⟩) 2 2) _ (R6.below ((Below.refl w9.heap.size w9).alloc (Nat.le_refl _) _)).1 (owns_made w9 B [1, 3] (by omega) (by simp [maxLen])) (by simp)))
    | (go_at_call 13; refine HX.out.mono ?_; clear HX; rintro e wa ⟨rfl, hBa⟩; have hba := hBa.size; simp at hba; have HY := Lib.hid (ints_eq [1] B B v7 (.slice (some ⟨wa.heap.size, 0, none⟩) 1 1) _ ((R7.below (((Below.refl w9.heap.size w9).alloc (Nat.le_refl _) _).trans (hBa.mono (by simp)))).below ((Below.refl wa.heap.size wa).alloc (Nat.le_refl _) _)).1 (owns_made wa B [1] (by omega) (by simp [maxLen])) (by simp)))
    | (go_at_call 13; refine HY.out.mono ?_; clear HY; rintro e wb ⟨rfl, hBb⟩; have hbb := hBb.size; simp at hbb; have hI11 := hI9.below ((((Below.refl w9.heap.size w9).alloc (Nat.le_refl _) _).trans (hBa.mono (by simp))).trans (((Below.refl w9.heap.size wa).alloc (by omega) _).trans (hBb.mono (by simp; omega)))) (Nat.le_refl _))
    | (go_at_call 18; refine (H9.out _ T9 hI11).mono ?_; rintro e wc ⟨rfl, rfl⟩)
    | fail)
  go_ret
  have hz : Below B w w9 := HB9.out
  have hs9 := hz.size
  have h1 := (hz.trans ((Below.refl B w9).alloc (by omega) _)).trans (hBa.mono (by simp; omega))
  have h2 := (h1.trans ((Below.refl B wa).alloc (by omega) _)).trans (hBb.mono (by simp; omega))
  rw [HBl.out] at h2
  exact ⟨rfl, h2⟩
end Go.Proofs.YtnbfkhcignjfoaaDoor
