/- The index and the reference's index side by side. -/
import Derived.Test.YtnbfkhcignjfoaaDoorRins
import Derived.Test.YtnbfkhcignjfoaaDoorOrd
namespace Go.Proofs.YtnbfkhcignjfoaaDoor
open Go Go.RowKit Go.Maps

theorem Rx.turned {w w' : World} {B bi : Nat} {v : Value} {R : Ids} {T : Nat → Prop} (h : Rx w B bi v R) (ht : Turned T w w') (hn : ¬ T bi) (hu : ∀ k, v.ownBlock = some k → ¬ T k) : Rx w' B bi v R :=
  ⟨(ht.block bi h.lt hn).trans h.head, h.row.same fun k hk => ht.block k (World.ownsRow.lt h.row k hk).2 (hu k hk), h.base⟩
theorem Ix.turned {w w' : World} {B bi N : Nat} {L : Ids} {T X : Nat → Prop} (h : Ix w B bi L N T) (ht : Turned X w w') (hn : ¬ X bi) (hT : ∀ k, T k → ¬ X k) : Ix w' B bi L N T := by
  have hlow := h.low
  obtain ⟨T1, ma, mb, f, c, g, h, rfl⟩ := h
  refine ⟨T1, ma, mb, f, c, g, h.keep (fun k hk => ?_) ht.size, rfl⟩
  rcases hk with hk | hk | hk
  · exact ht.block k (hlow k (.inl hk)).2 (hT k (.inl hk))
  · exact ht.block k (hlow k (.inr hk)).2 (hT k (.inr hk))
  · subst hk
    exact ht.block k (Array.getElem?_eq_some_iff.1 h.head).1 hn

theorem rput_any {B bi : Nat} {v : Value} {L R : Ids} (id : Int) (a : Ar) (w : World) (h : Rx w B bi v R) (hBw : B ≤ w.heap.size) (ht : Twin L R) (hL : Good L) (hl : L.length ≤ 100000) :
    Calls Tryd.prog 10 #[.pointer (some ⟨bi, 0, none⟩), .int .i64 id, a.v] w fun e w' => ∃ R', Twin (putL L id a) R' ∧ RLeft (.int .i64 (putE L id a)) v B bi R' w e w' := by
  have hlen := ht.len hL
  by_cases hb : 0 ≤ id ∧ id < 10000 ∧ a.right = true
  · obtain ⟨h0, h1, h2⟩ := hb
    refine (rput_good id a w h hBw (by omega) h0 h1 h2).mono ?_
    rintro e w' ⟨k, hk, hlow, ⟨b, hkb, hp⟩ | ⟨hge, hp⟩⟩
    · obtain ⟨e1, e2⟩ := ht.has hL hkb h0 h1 h2
      rw [e1, e2]
      exact ⟨R, ht, hp⟩
    · obtain ⟨e1, e2⟩ := ht.put hlow hge h0 h1 h2
      rw [e1]
      exact ⟨_, e2, hp⟩
  · obtain ⟨e1, e2⟩ := put_bad_same (L := L) hb
    rw [e1, e2]
    exact (rput_bad id a w h hb).mono fun e w' hp => ⟨R, ht, hp⟩
theorem rdropped_any {B bi : Nat} {v : Value} {L R : Ids} (id : Int) (w : World) (h : Rx w B bi v R) (hBw : B ≤ w.heap.size) (ht : Twin L R) (hL : Good L) (hl : L.length ≤ 100000) :
    Calls Tryd.prog 12 #[.pointer (some ⟨bi, 0, none⟩), .int .i64 id] w fun e w' => ∃ R', Twin (dropL L id) R' ∧ RLeft (.bool (areaAt L id).isSome) v B bi R' w e w' := by
  have hlen := ht.len hL
  rw [ht.dropped hL id]
  exact (rdrop_any id w h hBw (by omega)).mono fun e w' hp => ⟨_, ht.drop id, hp⟩
theorem right_of {L R : Ids} (ht : Twin L R) (hL : Good L) : ∀ p ∈ R, p.2.right = true := fun p hp => (hL.right p ((ht.mem p).1 hp)).2.2
theorem rasked_hits {B bi : Nat} {v : Value} {L R : Ids} (s r c : Int) (w : World) (h : Rx w B bi v R) (ht : Twin L R) (hL : Good L) (hl : L.length ≤ 100000) :
    Calls Tryd.prog 15 #[.pointer (some ⟨bi, 0, none⟩), atV s r c] w (AskPost L (hasB s r c) w) := by
  have hlen := ht.len hL
  refine (rhits_any s r c w h (right_of ht hL) (by omega)).mono ?_
  rintro e w' ⟨v1, rfl, hown, hB⟩
  have hz : (hitsR R s r c).length ≤ R.length := by
    unfold hitsR
    split
    · exact near_len _ _
    · simp
  refine ⟨v1, _, rfl, ?_, by omega, hown, hB⟩
  rw [hasB_meets]
  unfold hitsR
  split
  · rename_i hr
    exact ht.near hL (b := ⟨s, r, c, 1, 1⟩) hr
  · rename_i hr
    exact asked_bad (by simpa using hr)
theorem rasked_meets {B bi : Nat} {v : Value} {L R : Ids} (b : Ar) (w : World) (h : Rx w B bi v R) (ht : Twin L R) (hL : Good L) (hl : L.length ≤ 100000) :
    Calls Tryd.prog 17 #[.pointer (some ⟨bi, 0, none⟩), b.v] w (AskPost L (meetsB b.s b.r b.c b.n b.m) w) := by
  have hlen := ht.len hL
  refine (rmeets_any b w h (right_of ht hL) (by omega)).mono ?_
  rintro e w' ⟨v1, rfl, hown, hB⟩
  have hz : (meetsR R b).length ≤ R.length := by
    unfold meetsR
    split
    · exact near_len _ _
    · simp
  refine ⟨v1, _, rfl, ?_, by omega, hown, hB⟩
  unfold meetsR
  split
  · rename_i hr
    exact ht.near hL hr
  · rename_i hr
    have hr2 : b.right = false := by simpa using hr
    exact asked_bad hr2

/-- The two indexes; a block gc beside them that no call turns. -/
structure PairAt (w0 : World) (D B x y gc N : Nat) (cs : Array Value) (Lx Ly : Ids) (T : Nat → Prop) (u : Value) (R : Ids) (w : World) : Prop where
  ix : Ix w B x Lx N T
  rx : Rx w B y u R
  tw : Twin Ly R
  ny : ¬ T y
  xy : x ≠ y
  nu : ∀ k, u.ownBlock = some k → ¬ T k
  ng : ¬ T gc
  gy : gc ≠ y
  g : w.heap[gc]? = some (.cells cs 35 (0, 0))
  bel : Below D w0 w
  dB : D ≤ B
  Bw : B ≤ w.heap.size
def Pair (w0 : World) (D B x y gc N : Nat) (cs : Array Value) (Lx Ly : Ids) (w : World) : Prop := ∃ T u R, PairAt w0 D B x y gc N cs Lx Ly T u R w
section
variable {w0 w w' : World} {D B x y gc N : Nat} {cs : Array Value} {Lx Ly : Ids}
theorem Pair.good (h : Pair w0 D B x y gc N cs Lx Ly w) : Good Lx := by
  obtain ⟨T, u, R, h⟩ := h
  exact h.ix.good
theorem Pair.cell (h : Pair w0 D B x y gc N cs Lx Ly w) (i : Nat) (v : Value) (hv : cs[i]? = some v) : w.cell? ⟨gc, i, none⟩ = some v := by
  obtain ⟨T, u, R, h⟩ := h
  rw [cell_of_row w gc i _ _ _ h.g]
  exact hv
theorem Pair.frozen (h : Pair w0 D B x y gc N cs Lx Ly w) (i : Nat) : w.frozen? ⟨gc, i, none⟩ = false := by
  obtain ⟨T, u, R, h⟩ := h
  simp [World.frozen?, h.g]
theorem Pair.bel (h : Pair w0 D B x y gc N cs Lx Ly w) : Below D w0 w := by
  obtain ⟨T, u, R, h⟩ := h
  exact h.bel
theorem Pair.glt (h : Pair w0 D B x y gc N cs Lx Ly w) : gc < w.heap.size := by
  obtain ⟨T, u, R, h⟩ := h
  exact (Array.getElem?_eq_some_iff.1 h.g).1
theorem Pair.drew (h : Pair w0 D B x y gc N cs Lx Ly w) : Pair w0 D B x y gc N cs Lx Ly w.drew := by
  obtain ⟨T, u, R, h⟩ := h
  exact ⟨T, u, R, h.ix.below ((Below.refl w.heap.size w).drew) (Nat.le_refl _), h.rx.drew, h.tw, h.ny, h.xy, h.nu, h.ng, h.gy, h.g, h.bel.drew, h.dB, h.Bw⟩
theorem Pair.below (h : Pair w0 D B x y gc N cs Lx Ly w) (hB : Below w.heap.size w w') : Pair w0 D B x y gc N cs Lx Ly w' := by
  obtain ⟨T, u, R, h⟩ := h
  have hD : D ≤ w.heap.size := Nat.le_trans h.dB h.Bw
  exact ⟨T, u, R, h.ix.below hB (Nat.le_refl _), h.rx.below hB (Nat.le_refl _), h.tw, h.ny, h.xy, h.nu, h.ng, h.gy, (hB.block gc (Array.getElem?_eq_some_iff.1 h.g).1).trans h.g, h.bel.trans (hB.mono hD), h.dB, Nat.le_trans h.Bw hB.size⟩
theorem PairAt.turn {T : Nat → Prop} {u : Value} {R : Ids} {M : Nat} {L : Ids} {T' : Nat → Prop} (h : PairAt w0 D B x y gc N cs Lx Ly T u R w) (hI : Ix w' B x L M T') (hT : ∀ k, T' k → T k ∨ w.heap.size ≤ k) (ht : Turned T w w') : PairAt w0 D B x y gc M cs L Ly T' u R w' := by
  have hg := (Array.getElem?_eq_some_iff.1 h.g).1
  have hy := h.rx.lt
  refine ⟨hI, h.rx.turned ht h.ny h.nu, h.tw, fun hk => (hT _ hk).elim h.ny fun h2 => by omega, h.xy, fun k hk hk' => (hT _ hk').elim (h.nu k hk) fun h2 => ?_, fun hk => (hT _ hk).elim h.ng fun h2 => by omega, h.gy, (ht.block gc hg h.ng).trans h.g, ?_, h.dB, Nat.le_trans h.Bw ht.size⟩
  · have := (World.ownsRow.lt h.rx.row k hk).2
    omega
  · exact h.bel.trans (ht.below (fun k hk => Nat.le_trans h.dB (h.ix.low k hk).1) (Nat.le_trans h.dB h.Bw))
theorem PairAt.rturn {T : Nat → Prop} {u v : Value} {R R' : Ids} {L : Ids} {e : Ending} (h : PairAt w0 D B x y gc N cs Lx Ly T u R w) (ht : Twin L R') (hp : RLeft v u B y R' w e w') : e = .returned v ∧ Pair w0 D B x y gc N cs Lx L w' := by
  have hg := (Array.getElem?_eq_some_iff.1 h.g).1
  obtain ⟨he, ⟨u', hr, hu⟩, htn⟩ := hp
  refine ⟨he, T, u', R', h.ix.turned htn h.xy (fun k hk e => h.ny (e ▸ hk)), hr, ht, h.ny, h.xy, fun k hk hk' => ?_, h.ng, h.gy, (htn.block gc hg h.gy).trans h.g, ?_, h.dB, Nat.le_trans h.Bw htn.size⟩
  · rcases hu with rfl | hu
    · exact h.nu k hk hk'
    · have h1 := hu k hk
      have h2 := (h.ix.low k hk').2
      omega
  · exact h.bel.trans (htn.below (fun k hk => by rw [hk]; exact Nat.le_trans h.dB h.rx.base) (Nat.le_trans h.dB h.Bw))
theorem pair_put (id : Int) (a : Ar) (p q : Addr) (h : Pair w0 D B x y gc N cs Lx Ly w) (hE : Errs w B p q) (hN : N ≤ 90000) :
    Calls Tryd.prog 9 #[.pointer (some ⟨x, 0, none⟩), .int .i64 id, a.v] w fun e w' => e = .returned (.int .i64 (putE Lx id a)) ∧ Pair w0 D B x y gc (N + 200) cs (putL Lx id a) Ly w' := by
  obtain ⟨T, u, R, h⟩ := h
  refine (put_ix B x N Lx T id a p q w h.ix hE hN).mono ?_
  rintro e w' ⟨he, T', hI, hT, ht⟩
  exact ⟨he, T', u, R, h.turn hI hT ht⟩
theorem pair_drop (id : Int) (h : Pair w0 D B x y gc N cs Lx Ly w) (hid : i64R id) (hN : N ≤ 90000) :
    Calls Tryd.prog 11 #[.pointer (some ⟨x, 0, none⟩), .int .i64 id] w fun e w' => e = .returned (.bool (areaAt Lx id).isSome) ∧ Pair w0 D B x y gc (N + 200) cs (dropL Lx id) Ly w' := by
  obtain ⟨T, u, R, h⟩ := h
  refine (drop_ix B x N Lx T id w h.ix hN hid).mono ?_
  rintro e w' ⟨he, T', hI, hT, ht⟩
  exact ⟨he, T', u, R, h.turn hI hT ht⟩
theorem pair_rput (id : Int) (a : Ar) (h : Pair w0 D B x y gc N cs Lx Ly w) (hL : Good Ly) (hl : Ly.length ≤ 100000) :
    Calls Tryd.prog 10 #[.pointer (some ⟨y, 0, none⟩), .int .i64 id, a.v] w fun e w' => e = .returned (.int .i64 (putE Ly id a)) ∧ Pair w0 D B x y gc N cs Lx (putL Ly id a) w' := by
  obtain ⟨T, u, R, h⟩ := h
  refine (rput_any id a w h.rx h.Bw h.tw hL hl).mono ?_
  rintro e w' ⟨R', ht, hp⟩
  exact h.rturn ht hp
theorem pair_rdrop (id : Int) (h : Pair w0 D B x y gc N cs Lx Ly w) (hL : Good Ly) (hl : Ly.length ≤ 100000) :
    Calls Tryd.prog 12 #[.pointer (some ⟨y, 0, none⟩), .int .i64 id] w fun e w' => e = .returned (.bool (areaAt Ly id).isSome) ∧ Pair w0 D B x y gc N cs Lx (dropL Ly id) w' := by
  obtain ⟨T, u, R, h⟩ := h
  refine (rdropped_any id w h.rx h.Bw h.tw hL hl).mono ?_
  rintro e w' ⟨R', ht, hp⟩
  exact h.rturn ht hp
theorem pair_hits (s r c : Int) (h : Pair w0 D B x y gc N cs Lx Ly w) (hs : i64R s) (hr : i64R r) (hN : N ≤ 100000) :
    Calls Tryd.prog 14 #[.pointer (some ⟨x, 0, none⟩), atV s r c] w (AskPost Lx (hasB s r c) w) := by
  obtain ⟨T, u, R, h⟩ := h
  exact hits_any B x N Lx T s r c w h.ix hs hr hN
theorem pair_meets (a : Ar) (h : Pair w0 D B x y gc N cs Lx Ly w) (hN : N ≤ 100000) :
    Calls Tryd.prog 16 #[.pointer (some ⟨x, 0, none⟩), a.v] w (AskPost Lx (meetsB a.s a.r a.c a.n a.m) w) := by
  obtain ⟨T, u, R, h⟩ := h
  exact meets_any B x N Lx T a.s a.r a.c a.n a.m w h.ix hN
theorem pair_rhits (s r c : Int) (h : Pair w0 D B x y gc N cs Lx Ly w) (hL : Good Ly) (hl : Ly.length ≤ 100000) :
    Calls Tryd.prog 15 #[.pointer (some ⟨y, 0, none⟩), atV s r c] w (AskPost Ly (hasB s r c) w) := by
  obtain ⟨T, u, R, h⟩ := h
  exact rasked_hits s r c w h.rx h.tw hL hl
theorem pair_rmeets (a : Ar) (h : Pair w0 D B x y gc N cs Lx Ly w) (hL : Good Ly) (hl : Ly.length ≤ 100000) :
    Calls Tryd.prog 17 #[.pointer (some ⟨y, 0, none⟩), a.v] w (AskPost Ly (meetsB a.s a.r a.c a.n a.m) w) := by
  obtain ⟨T, u, R, h⟩ := h
  exact rasked_meets a w h.rx h.tw hL hl
theorem pair_len (h : Pair w0 D B x y gc N cs Lx Ly w) :
    Calls Tryd.prog 18 #[.pointer (some ⟨x, 0, none⟩)] w fun e w' => e = .returned (.int .i64 (Lx.length : Int)) ∧ w' = w := by
  obtain ⟨T, u, R, h⟩ := h
  exact len_any B x N Lx T w h.ix
theorem pair_rlen (h : Pair w0 D B x y gc N cs Lx Ly w) (hL : Good Ly) :
    Calls Tryd.prog 19 #[.pointer (some ⟨y, 0, none⟩)] w fun e w' => e = .returned (.int .i64 (Ly.length : Int)) ∧ w' = w := by
  obtain ⟨T, u, R, h⟩ := h
  rw [← h.tw.len hL]
  exact rlen_any w h.rx
theorem Pair.len (h : Pair w0 D B x y gc N cs Lx Ly w) : Lx.length ≤ N := by
  obtain ⟨T, u, R, h⟩ := h
  obtain ⟨T1, ma, mb, f, c, g, hI, _⟩ := h.ix
  exact hI.len
end

/-- The two indexes alone. -/
def Duo (w0 : World) (D B x y N : Nat) (L : Ids) (w : World) : Prop := ∃ T u R, Ix w B x L N T ∧ Rx w B y u R ∧ Twin L R ∧ ¬ T y ∧ x ≠ y ∧ (∀ k, u.ownBlock = some k → ¬ T k) ∧ Below D w0 w ∧ D ≤ B ∧ B ≤ w.heap.size
section
variable {w0 w w' : World} {D B x y gc N : Nat} {cs : Array Value} {L : Ids}
theorem Pair.duo (h : Pair w0 D B x y gc N cs L L w) : Duo w0 D B x y N L w := by
  obtain ⟨T, u, R, h⟩ := h
  exact ⟨T, u, R, h.ix, h.rx, h.tw, h.ny, h.xy, h.nu, h.bel, h.dB, h.Bw⟩
theorem Duo.pair (h : Duo w0 D B x y N L w) (hB : Below w.heap.size w w') (hg : w'.heap[gc]? = some (.cells cs 35 (0, 0))) (hn : w.heap.size ≤ gc) : Pair w0 D B x y gc N cs L L w' := by
  obtain ⟨T, u, R, ix, rx, tw, ny, xy, nu, bel, dB, Bw⟩ := h
  have hy := rx.lt
  refine ⟨T, u, R, ix.below hB (Nat.le_refl _), rx.below hB (Nat.le_refl _), tw, ny, xy, nu, fun hk => ?_, by omega, hg, bel.trans (hB.mono (Nat.le_trans dB Bw)), dB, Nat.le_trans Bw hB.size⟩
  have := (ix.low _ hk).2
  omega
theorem Pair.Bw {Ly : Ids} (h : Pair w0 D B x y gc N cs L Ly w) : B ≤ w.heap.size := by
  obtain ⟨T, u, R, h⟩ := h
  exact h.Bw
theorem Duo.more {M : Nat} (h : Duo w0 D B x y N L w) (hN : N ≤ M) : Duo w0 D B x y M L w := by
  obtain ⟨T, u, R, ix, rest⟩ := h
  exact ⟨T, u, R, ix.more hN, rest⟩
theorem Duo.bel (h : Duo w0 D B x y N L w) : Below D w0 w := by
  obtain ⟨T, u, R, ix, rx, tw, ny, xy, nu, bel, dB, Bw⟩ := h
  exact bel
theorem Duo.size (h : Duo w0 D B x y N L w) : D ≤ w.heap.size := by
  obtain ⟨T, u, R, ix, rx, tw, ny, xy, nu, bel, dB, Bw⟩ := h
  omega
end
/-- A call of the law's list. -/
structure Cl where
  k : Int
  id : Int
  a : Ar
  s : Int
  r : Int
  c : Int
abbrev Cl.cells (x : Cl) : Array Value := #[.int .i64 x.k, .int .i64 x.id, .int .i64 x.a.s, .int .i64 x.a.r, .int .i64 x.a.c, .int .i64 x.a.n, .int .i64 x.a.m, .int .i64 x.s, .int .i64 x.r, .int .i64 x.c]
/-- A slice of calls in memory, below B. -/
def Cls (w : World) (B : Nat) (v : Value) (xs : List Cl) : Prop :=
  ∃ p cap, v = .slice p xs.length cap ∧ xs.length ≤ 9223372036854775807 ∧ ∀ i x, xs[i]? = some x → (i64R x.id ∧ i64R x.s ∧ i64R x.r) ∧ ∃ g off, p = some ⟨g, off, none⟩ ∧ g < B ∧ ∀ j u, x.cells[j]? = some u → w.cell? ⟨g, off + i * 10 + j, none⟩ = some u
theorem Cls.below {w w' : World} {B : Nat} {v : Value} {xs : List Cl} (h : Cls w B v xs) (hB : Below B w w') : Cls w' B v xs := by
  obtain ⟨p, cap, rfl, hl, h⟩ := h
  refine ⟨p, cap, rfl, hl, fun i a hi => ?_⟩
  obtain ⟨hr, g, off, e, hg, hc⟩ := h i a hi
  exact ⟨hr, g, off, e, hg, fun j u hj => (hB.cell (p := ⟨g, _, none⟩) hg).trans (hc j u hj)⟩
end Go.Proofs.YtnbfkhcignjfoaaDoor
