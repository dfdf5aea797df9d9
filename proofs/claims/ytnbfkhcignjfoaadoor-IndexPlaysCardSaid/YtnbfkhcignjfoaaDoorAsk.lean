/- Hits, Meets, Len. -/
import Derived.Test.YtnbfkhcignjfoaaDoorThose
namespace Go.Proofs.YtnbfkhcignjfoaaDoor
open Go Go.RowKit Go.Maps

abbrev atV (s r c : Int) : Value := .agg #[.int .i64 s, .int .i64 r, .int .i64 c]
def hasB (s r c : Int) (a : Ar) : Bool := meetB a.s a.r a.c a.n a.m s r c 1 1
def meetsB (s r c n m : Int) (a : Ar) : Bool := meetB s r c n m a.s a.r a.c a.n a.m
/-- Rising, and just the numbers whose areas are what is asked for. -/
structure Asked (L : Ids) (q : Ar → Bool) (zs : List Int) : Prop where
  up : zs.Pairwise (· < ·)
  mem : ∀ x, x ∈ zs ↔ ∃ a, (x, a) ∈ L ∧ q a = true
theorem Rises.asked {L : Ids} {s r : Int} {M : Nat} {q : Ar → Bool} {zs : List Int} (h : Rises L s r M q zs) (hn : ∀ a x, (x, a) ∈ L → q a = true → ∃ k : Nat, k < M ∧ a.on s (r + k) = true) : Asked L q zs :=
  ⟨h.up, fun x => (h.mem x).trans ⟨fun ⟨a, h1, _, h3⟩ => ⟨a, h1, h3⟩, fun ⟨a, h1, h3⟩ => ⟨a, h1, hn a x h1 h3, h3⟩⟩⟩
theorem near_of_meet {a : Ar} {s r c n m : Int} (h : meetsB s r c n m a = true) : ∃ k : Nat, k < n.toNat ∧ a.on s (r + k) = true := by
  unfold meetsB at h
  obtain ⟨h1, h2, h3, h4, h5, h6, h7⟩ := meetB_iff.1 h
  obtain ⟨p1, p2, p3, p4, p5, p6, p7, p8, p9, p10⟩ := rightB_iff.1 h1
  obtain ⟨q1, q2, q3, q4, q5, q6, q7, q8, q9, q10⟩ := rightB_iff.1 h2
  refine ⟨(a.r - r).toNat, by omega, ?_⟩
  unfold Ar.on
  rw [decide_eq_true_eq]
  omega
theorem near_of_has {a : Ar} {s r c : Int} (h : hasB s r c a = true) : ∃ k : Nat, k < 1 ∧ a.on s (r + k) = true := by
  unfold hasB at h
  obtain ⟨h1, h2, h3, h4, h5, h6, h7⟩ := meetB_iff.1 h
  obtain ⟨p1, p2, p3, p4, p5, p6, p7, p8, p9, p10⟩ := rightB_iff.1 h1
  refine ⟨0, by omega, ?_⟩
  unfold Ar.on
  rw [decide_eq_true_eq]
  omega
theorem World.cells3 (w : World) (t : TypeId) (a b c : Value) : (w.alloc (.cells #[a, b, c] t)).cell? ⟨w.heap.size, 0, none⟩ = some a ∧ (w.alloc (.cells #[a, b, c] t)).cell? ⟨w.heap.size, 1, none⟩ = some b ∧ (w.alloc (.cells #[a, b, c] t)).cell? ⟨w.heap.size, 2, none⟩ = some c := by
  have h := (MapKept.heap_alloc w (.cells #[a, b, c] t)).1
  exact ⟨(cell_of_row _ _ 0 _ _ _ h).trans rfl, (cell_of_row _ _ 1 _ _ _ h).trans rfl, (cell_of_row _ _ 2 _ _ _ h).trans rfl⟩
set_option maxHeartbeats 1000000 in
theorem has_any (a : Ar) (s r c : Int) (w : World) :
    Calls Tryd.prog 22 #[a.v, atV s r c] w fun e w' => e = .returned (.bool (hasB s r c a)) ∧ Below w.heap.size w w' := by
  go_enter Tryd.func22, Tryd.ntmps22
  go_wp2_with (go_at_call 23; refine (meet_any _ _ _ _ _ _ _ _ _ _ _).mono ?_; rintro e w1 ⟨⟨x1, x2, x3, x4, x5, rfl⟩, hB1⟩)
  all_goals
    go_ret
    have hb2 := (((Below.refl w.heap.size w).alloc (Nat.le_refl _) (.cells #[.int .i64 a.s, .int .i64 a.r, .int .i64 a.c, .int .i64 a.n, .int .i64 a.m] 31)).alloc (by simp) (.cells #[.int .i64 s, .int .i64 r, .int .i64 c] 33)).trans (hB1.mono (by simp; omega))
    exact ⟨rfl, hb2.alloc hb2.size _⟩
theorem isAt30 (bc : Nat) (s r c : Int) (w : World) (h0 : w.heap[bc]? = some (.cells #[.int .i64 s, .int .i64 r, .int .i64 c] 33 (0, 0))) : IsAt 30 bc (hasB s r c) w := fun W a hB => by
  have hlt := (Array.getElem?_eq_some_iff.1 h0).1
  have hlt2 : bc < W.heap.size := Nat.lt_of_lt_of_le hlt hB.size
  have h1 := (hB.block bc hlt).trans h0
  have c0 := (cell_of_row W bc 0 _ _ _ h1).trans rfl
  have c1 := (cell_of_row W bc 1 _ _ _ h1).trans rfl
  have c2 := (cell_of_row W bc 2 _ _ _ h1).trans rfl
  clear h1
  go_enter Tryd.func30, Tryd.ntmps30
  go_wp2_with (go_at_call 22; refine (has_any a s r c _).mono ?_; rintro e w1 ⟨rfl, hB1⟩)
  all_goals
    go_ret
    exact ⟨rfl, ((Below.refl W.heap.size W).alloc (Nat.le_refl _) _).trans (hB1.mono (by simp))⟩
theorem isAt32 (bc : Nat) (s r c n m : Int) (w : World) (h0 : World.area w bc s r c n m) : IsAt 32 bc (meetsB s r c n m) w := fun W a hB => by
  have hlt := h0.lt
  have hlt2 : bc < W.heap.size := Nat.lt_of_lt_of_le hlt hB.size
  have h1 := h0.below hB hlt
  have c0 := h1.cell 0 _ rfl
  have c1 := h1.cell 1 _ rfl
  have c2 := h1.cell 2 _ rfl
  have c3 := h1.cell 3 _ rfl
  have c4 := h1.cell 4 _ rfl
  clear h1
  go_enter Tryd.func32, Tryd.ntmps32
  go_wp2_with (go_at_call 23; refine (meet_any _ _ _ _ _ _ _ _ _ _ _).mono ?_; rintro e w1 ⟨⟨x1, x2, x3, x4, x5, rfl⟩, hB1⟩)
  all_goals
    go_ret
    have hb2 := ((Below.refl W.heap.size W).alloc (Nat.le_refl _) (.cells #[.int .i64 a.s, .int .i64 a.r, .int .i64 a.c, .int .i64 a.n, .int .i64 a.m] 31)).trans (hB1.mono (by simp))
    exact ⟨rfl, hb2.alloc hb2.size _⟩
def AskPost (L : Ids) (q : Ar → Bool) (w : World) (e : Ending) (w' : World) : Prop :=
  ∃ v zs, e = .returned v ∧ Asked L q zs ∧ zs.length ≤ 100000 ∧ w'.ownsRow w.heap.size 3 1 v zs.length (ints zs) ∧ Below w.heap.size w w'
set_option maxHeartbeats 1000000 in
theorem hits_any (B bi N : Nat) (L : Ids) (T : Nat → Prop) (s r c : Int) (w : World) (hI : Ix w B bi L N T) (hs : i64R s) (hr : i64R r) (hN : N ≤ 100000) :
    Calls Tryd.prog 14 #[.pointer (some ⟨bi, 0, none⟩), atV s r c] w (AskPost L (hasB s r c) w) := by
  have hb : (MapKept.heap_alloc w (.cells #[.int .i64 s, .int .i64 r, .int .i64 c] 33)).1 = (MapKept.heap_alloc w (.cells #[.int .i64 s, .int .i64 r, .int .i64 c] 33)).1 := rfl
  have HI := hI.below ((Below.refl w.heap.size w).alloc (Nat.le_refl _) (.cells #[.int .i64 s, .int .i64 r, .int .i64 c] 33)) (Nat.le_refl _)
  have HT := those30_any w.heap.size B bi N L T s r 0 1 1 (hasB s r c) _ HI (by simp) (isAt30 _ s r c _ (MapKept.heap_alloc w _).1) hs hr (by omega) (by have := hr.2; omega) hN
  have HH := Lib.hid HT
  clear HT hb
  go_enter Tryd.func14, Tryd.ntmps14
  go_wp2_with (go_at_call 29; refine HH.out.mono ?_; rintro e w1 ⟨v, zs, rfl, hri, hlen, hown, hB1⟩)
  all_goals
    go_ret
    refine ⟨v, zs, rfl, hri.asked fun a x _ h => near_of_has h, hlen, hown.mono (by simp), ((Below.refl w.heap.size w).alloc (Nat.le_refl _) _).trans (hB1.mono (by simp))⟩
set_option maxHeartbeats 1000000 in
theorem meets_bad (B bi N : Nat) (L : Ids) (T : Nat → Prop) (s r c n m : Int) (w : World) (_hI : Ix w B bi L N T) (hbad : rightB s r c n m = false) :
    Calls Tryd.prog 16 #[.pointer (some ⟨bi, 0, none⟩), areaV s r c n m] w (AskPost L (meetsB s r c n m) w) := by
  have HR := Lib.hid (isArea_any s r c n m)
  rw [hbad] at HR
  go_enter Tryd.func16, Tryd.ntmps16
  go_wp2_with (go_at_call 31; refine (HR.out _).mono ?_; rintro e w1 ⟨rfl, hB1⟩)
  all_goals
    go_ret
    refine ⟨nilS, [], rfl, ⟨List.Pairwise.nil, fun x => ⟨fun h => by simp at h, fun ⟨a, _, h⟩ => ?_⟩⟩, by simp, World.ownsRow_nil _ _ _ _, ((Below.refl w.heap.size w).alloc (Nat.le_refl _) _).trans (hB1.mono (by simp))⟩
    unfold meetsB at h
    have := (meetB_iff.1 h).1
    rw [hbad] at this
    cases this
set_option maxHeartbeats 1000000 in
theorem meets_good (B bi N : Nat) (L : Ids) (T : Nat → Prop) (s r c n m : Int) (w : World) (hI : Ix w B bi L N T) (hN : N ≤ 100000) (hgood : rightB s r c n m = true) :
    Calls Tryd.prog 16 #[.pointer (some ⟨bi, 0, none⟩), areaV s r c n m] w (AskPost L (meetsB s r c n m) w) := by
  obtain ⟨p1, p2, p3, p4, p5, p6, p7, p8, p9, p10⟩ := rightB_iff.1 hgood
  obtain ⟨M, rfl⟩ : ∃ M : Nat, n = M := ⟨n.toNat, by omega⟩
  have HR := Lib.hid (isArea_any s r c M m)
  rw [hgood] at HR
  have ha0 := World.area_new w s r c M m
  have HA := Lib.hid (show ∀ w1 : World, Below (w.alloc (.cells #[.int .i64 s, .int .i64 r, .int .i64 c, .int .i64 M, .int .i64 m] 31)).heap.size (w.alloc (.cells #[.int .i64 s, .int .i64 r, .int .i64 c, .int .i64 M, .int .i64 m] 31)) w1 → World.area w1 w.heap.size s r c M m ∧
      Calls Tryd.prog 29 #[.pointer (some ⟨bi, 0, none⟩), areaV s r c M m, .func (.func 32) #[] #[.pointer (some ⟨w.heap.size, 0, none⟩)]] w1 fun e w' => ∃ v zs, e = .returned v ∧ Rises L s r M (meetsB s r c M m) zs ∧ zs.length ≤ 100000 ∧ w'.ownsRow w1.heap.size 3 1 v zs.length (ints zs) ∧ Below w1.heap.size w1 w' from fun w1 hB1 => by
    have h1 := ha0.below hB1 ha0.lt
    have hb : Below w.heap.size w w1 := ((Below.refl w.heap.size w).alloc (Nat.le_refl _) _).trans (hB1.mono (by simp))
    exact ⟨h1, those32_any w.heap.size B bi N L T s r c m M (meetsB s r c M m) w1 (hI.below hb (Nat.le_refl _)) h1.lt (isAt32 _ _ _ _ _ _ _ h1) ⟨by omega, by omega⟩ ⟨by omega, by omega⟩ (by omega) (by omega) hN⟩)
  clear p1 p2 p3 p4 p5 p6 p7 p8 p9 p10 ha0
  go_enter Tryd.func16, Tryd.ntmps16
  go_wp2_with (first
    | (go_at_call 31; refine (HR.out _).mono ?_; rintro e w1 ⟨rfl, hB1⟩; have ha := (HA.out w1 hB1).1; have hT := Lib.hid (HA.out w1 hB1).2; have hal := ha.lt; have c0 := ha.cell 0 _ rfl; have c1 := ha.cell 1 _ rfl; have c2 := ha.cell 2 _ rfl; have c3 := ha.cell 3 _ rfl; have c4 := ha.cell 4 _ rfl)
    | (go_at_call 29; refine hT.out.mono ?_; rintro e w2 ⟨v, zs, rfl, hri, hlen, hown, hB2⟩)
    | fail)
  all_goals
    go_ret
    have hb : Below w.heap.size w w1 := ((Below.refl w.heap.size w).alloc (Nat.le_refl _) _).trans (hB1.mono (by simp))
    refine ⟨v, zs, rfl, hri.asked fun a x _ h => ?_, hlen, hown.mono hb.size, hb.trans (hB2.mono hb.size)⟩
    have := near_of_meet h
    simpa using this
theorem meets_any (B bi N : Nat) (L : Ids) (T : Nat → Prop) (s r c n m : Int) (w : World) (hI : Ix w B bi L N T) (hN : N ≤ 100000) :
    Calls Tryd.prog 16 #[.pointer (some ⟨bi, 0, none⟩), areaV s r c n m] w (AskPost L (meetsB s r c n m) w) := by
  cases h : rightB s r c n m with
  | false => exact meets_bad B bi N L T s r c n m w hI h
  | true => exact meets_good B bi N L T s r c n m w hI hN h
theorem len_any (B bi N : Nat) (L : Ids) (T : Nat → Prop) (w : World) (hI : Ix w B bi L N T) :
    Calls Tryd.prog 18 #[.pointer (some ⟨bi, 0, none⟩)] w fun e w' => e = .returned (.int .i64 (L.length : Int)) ∧ w' = w := by
  obtain ⟨T1, ma, mb, f, c, g, hI, rfl⟩ := hI
  have c1 := hI.c1
  have hlen := hI.areas.len Tryd.underlying56
  go_enter Tryd.func18, Tryd.ntmps18
  go_wp2
  all_goals
    go_ret
    exact ⟨rfl, rfl⟩
end Go.Proofs.YtnbfkhcignjfoaaDoor
