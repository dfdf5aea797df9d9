/- Put and Drop. -/
import Derived.Test.YtnbfkhcignjfoaaDoorCheck
namespace Go.Proofs.YtnbfkhcignjfoaaDoor
open Go Go.RowKit Go.Maps
open Go.ChangeMaps (setBlock)

theorem Ix.more {w : World} {B bi N N' : Nat} {L : Ids} {T : Nat → Prop} (h : Ix w B bi L N T) (hN : N ≤ N') : Ix w B bi L N' T := by
  obtain ⟨T1, ma, mb, f, c, g, h, rfl⟩ := h
  exact ⟨T1, ma, mb, f, c, g, ⟨h.head, h.base, h.free, ⟨h.lines.map, Nat.le_trans h.lines.count hN, h.lines.base, h.lines.own, h.lines.low, h.lines.row, h.lines.place, h.lines.apart⟩, h.areas, h.mbase, h.mfree, h.at_, h.good, Nat.le_trans h.len hN⟩, rfl⟩
def putE (L : Ids) (id : Int) (a : Ar) : Int := if fromB id 1 10000 = true ∧ a.right = true then (if (areaAt L id).isSome then 110 else 0) else 2
def putL (L : Ids) (id : Int) (a : Ar) : Ids := if fromB id 1 10000 = true ∧ a.right = true then (if (areaAt L id).isSome then L else L ++ [(id, a)]) else L
def StorePost (v : Value) (B bi : Nat) (L : Ids) (N : Nat) (T : Nat → Prop) (w : World) (e : Ending) (w' : World) : Prop :=
  e = .returned v ∧ ∃ T', Ix w' B bi L N T' ∧ (∀ k, T' k → T k ∨ w.heap.size ≤ k) ∧ Turned T w w'
theorem areaAt_put {L : Ids} {id : Int} {a : Ar} (h : areaAt L id = none) (x : Int) : areaAt (L ++ [(id, a)]) x = if x = id then some a else areaAt L x := by
  unfold areaAt at h ⊢
  rw [List.find?_append]
  by_cases e : x = id
  · subst e
    rw [if_pos rfl]
    rw [Option.map_eq_none_iff] at h
    rw [h]
    simp
  · rw [if_neg e]
    cases hf : L.find? fun p => p.1 == x with
    | some p => simp
    | none =>
      have : (id == x) = false := by rw [beq_eq_false_iff_ne]; exact fun e' => e e'.symm
      simp [this]
theorem areaAt_drop (L : Ids) (id x : Int) : areaAt (dropL L id) x = if x = id then none else areaAt L x := by
  unfold areaAt dropL
  by_cases e : x = id
  · subst e
    rw [if_pos rfl, Option.map_eq_none_iff, List.find?_eq_none]
    intro p hp
    rw [List.mem_filter] at hp
    simpa using hp.2
  · rw [if_neg e, List.find?_filter]
    congr 2
    funext p
    by_cases e2 : p.1 = x
    · have : p.1 ≠ id := fun e3 => e (e2.symm.trans e3)
      simp [e2, e]
    · simp [e2]
set_option maxRecDepth 100000 in
set_option maxHeartbeats 4000000 in
theorem put_bad (B bi N : Nat) (L : Ids) (T : Nat → Prop) (id : Int) (a : Ar) (p q r : Addr) (z : Int) (w : World) (hI : Ix w B bi L N T) (hE : Errs w B p q)
    (hy : whyV p q L id a = .iface 122 (.pointer (some r))) (hz : ∀ w, Errs w B p q → Calls Tryd.prog 27 #[.iface 122 (.pointer (some r))] w fun e w' => e = .returned (.int .i64 z) ∧ w' = w) :
    Calls Tryd.prog 9 #[.pointer (some ⟨bi, 0, none⟩), .int .i64 id, a.v] w (StorePost (.int .i64 z) B bi L N T w) := by
  have hble := hE.le
  have HC := Lib.hid (show ∀ w1, Below w.heap.size w w1 → Calls Tryd.prog 24 #[.pointer (some ⟨bi, 0, none⟩), .int .i64 id, a.v] w1 fun e w' => e = .returned (.iface 122 (.pointer (some r))) ∧ Below w1.heap.size w1 w' from fun w1 hb => by
    have := check_any B bi N L T id a p q w1 (hI.below hb (Nat.le_refl _)) (hE.below (hb.mono hble))
    rwa [hy] at this)
  have HZ := Lib.hid hz
  clear hz hy
  go_enter Tryd.func9, Tryd.ntmps9
  go_wp2_with (first
    | (go_at_call 24; refine (HC.out _ ((Below.refl w.heap.size w).alloc (Nat.le_refl _) _)).mono ?_; rintro e w1 ⟨rfl, hB1⟩)
    | (go_at_call 27; refine (HZ.out _ (hE.below ((((Below.refl w.heap.size w).alloc (Nat.le_refl _) _).trans (hB1.mono (by simp))).mono hble))).mono ?_; rintro e w2 ⟨rfl, rfl⟩)
    | fail)
  all_goals
    go_ret
    have hb := ((Below.refl w.heap.size w).alloc (Nat.le_refl _) (.cells #[.int .i64 a.s, .int .i64 a.r, .int .i64 a.c, .int .i64 a.n, .int .i64 a.m] 31)).trans (hB1.mono (by simp))
    exact ⟨rfl, T, hI.below hb (Nat.le_refl _), fun k hk => .inl hk, Turned.of_below hb⟩
set_option maxRecDepth 100000 in
set_option maxHeartbeats 4000000 in
theorem put_good (B bi N : Nat) (L : Ids) (T : Nat → Prop) (id : Int) (a : Ar) (p q : Addr) (w : World) (hI : Ix w B bi L N T) (hE : Errs w B p q) (hN : N ≤ 90000)
    (hf : fromB id 1 10000 = true) (ha : a.right = true) (hno : areaAt L id = none) :
    Calls Tryd.prog 9 #[.pointer (some ⟨bi, 0, none⟩), .int .i64 id, a.v] w (StorePost (.int .i64 0) B bi (L ++ [(id, a)]) (N + 200) T w) := by
  have hble := hE.le
  have HC := Lib.hid (show ∀ w1, Below w.heap.size w w1 → Calls Tryd.prog 24 #[.pointer (some ⟨bi, 0, none⟩), .int .i64 id, a.v] w1 fun e w' => e = .returned .nilIface ∧ Below w1.heap.size w1 w' from fun w1 hb => by
    have := check_any B bi N L T id a p q w1 (hI.below hb (Nat.le_refl _)) (hE.below (hb.mono hble))
    have hy : whyV p q L id a = .nilIface := by unfold whyV; rw [hf, ha, hno]; simp
    rwa [hy] at this)
  have HZ := Lib.hid (told_nil (B := B) (p := p) (q := q))
  obtain ⟨k1, k2, _, _⟩ := fromB_iff.1 hf
  have hk := key3 (x := id) ⟨by omega, by omega⟩
  obtain ⟨p1, p2, p3, p4, p5, p6, p7, p8, p9, p10⟩ := rightB_iff.1 (show rightB a.s a.r a.c a.n a.m = true from ha)
  obtain ⟨T1, ma, mb, f, c, g, hI, rfl⟩ := hI
  go_enter Tryd.func9, Tryd.ntmps9
  go_wp2_with (go_at_call 24; refine (HC.out _ ((Below.refl w.heap.size w).alloc (Nat.le_refl _) _)).mono ?_; rintro e w1 ⟨rfl, hB1⟩)
  have hb := ((Below.refl w.heap.size w).alloc (Nat.le_refl _) (.cells #[.int .i64 a.s, .int .i64 a.r, .int .i64 a.c, .int .i64 a.n, .int .i64 a.m] 31)).trans (hB1.mono (by simp))
  have hA1 := (World.area_new w a.s a.r a.c a.n a.m).below hB1 (by simp)
  have hI1 := hI.below hb (Nat.le_refl _)
  have hlt1 := hI1.lt
  obtain ⟨es', clock', hst, hmb2⟩ := (World.mp.drew hI1.areas).store keyed3 Tryd.underlying56 (by have := hI1.len; unfold maxLen; omega) hk a.v
  have c1 : w1.drew.cell? ⟨bi, 1, none⟩ = some (.map (some mb)) := hI1.c1
  have hA1d : World.area w1.drew w.heap.size a.s a.r a.c a.n a.m := hA1
  have a0 := hA1d.cell 0 _ rfl
  have a1 := hA1d.cell 1 _ rfl
  have a2 := hA1d.cell 2 _ rfl
  have a3 := hA1d.cell 3 _ rfl
  have a4 := hA1d.cell 4 _ rfl
  have hbim : some bi ≠ some mb := fun e => by
    have e := Option.some.inj e
    subst e
    have h1 := hI1.head
    obtain ⟨es, ck, h2⟩ := hI1.areas.isMap
    rw [h1] at h2
    cases h2
  have hwm : some w.heap.size ≠ some mb := fun e => by
    have e := Option.some.inj e
    have := (hI.lt mb (.inr (.inl rfl))).2
    omega
  go_region_held3 (fun w' => w'.cell? ⟨bi, 1, none⟩ = some (.map (some mb)) ∧ w'.cell? ⟨w.heap.size, 0, none⟩ = some (.int .i64 a.s) ∧ w'.cell? ⟨w.heap.size, 1, none⟩ = some (.int .i64 a.r) ∧ w'.cell? ⟨w.heap.size, 2, none⟩ = some (.int .i64 a.c) ∧ w'.cell? ⟨w.heap.size, 3, none⟩ = some (.int .i64 a.n) ∧ w'.cell? ⟨w.heap.size, 4, none⟩ = some (.int .i64 a.m))
    (first | exact ⟨c1, a0, a1, a2, a3, a4⟩ | exact ⟨(setBlock_grown _ _ _).cell c1 hbim, (setBlock_grown _ _ _).cell a0 hwm, (setBlock_grown _ _ _).cell a1 hwm, (setBlock_grown _ _ _).cell a2 hwm, (setBlock_grown _ _ _).cell a3 hwm, (setBlock_grown _ _ _).cell a4 hwm⟩ | fail)
    (first | fail)
  all_goals
    obtain ⟨w2, hw2⟩ : ∃ w2, w2 = setBlock w1.drew mb (.map es' clock') := ⟨_, rfl⟩
    rw [← hw2]
    rw [← hw2] at hmb2
    have hg2 : w1.drew.grownBy w2 (some mb) := by rw [hw2]; exact setBlock_grown _ _ _
    have hs2 : w2.heap.size = w1.heap.size := by rw [hw2]; simp [setBlock]
    clear hw2 hst c1 a0 a1 a2 a3 a4
    have hA2 : World.area w2 w.heap.size a.s a.r a.c a.n a.m := hA1d.kept hg2 hwm
    have hL2 : LnsAt w2 B ma (cov L) N T1 f c := hI1.lines.keep (fun k hk => hg2.block k (hI1.lines.low k hk).2 (fun e => hI1.mfree (Option.some.inj e ▸ hk))) (by omega)
    have hhead2 := (hg2.block bi (hlt1 bi (.inr (.inr rfl))).2 hbim).trans hI1.head
    have hE2 : Errs w2 B p q := by
      refine (hE.below (hb.mono hble)).below (w' := w2) ⟨hg2.os, hg2.tape, hg2.output, by omega, fun k hk => ?_⟩
      exact hg2.block k (by have := hb.size; show k < w1.heap.size; omega) (fun e => by have := hI.mbase; have := Option.some.inj e; omega)
    have hA2d : World.area w2.drew w.heap.size a.s a.r a.c a.n a.m := hA2
    have c0 : w2.drew.cell? ⟨bi, 0, none⟩ = some (.map (some ma)) := (cell_of_row w2 bi 0 _ _ _ hhead2).trans rfl
    have a0 := hA2d.cell 0 _ rfl
    have a1 := hA2d.cell 1 _ rfl
    have a2 := hA2d.cell 2 _ rfl
    have a3 := hA2d.cell 3 _ rfl
    have a4 := hA2d.cell 4 _ rfl
    have HOF := Lib.hid (of_any a.s a.r a.c a.n a.m w2.drew (by omega) (by omega) (by omega) (by omega))
    have HPUT := Lib.hid (show ∀ w3 lv, Below w2.heap.size w2 w3 → w3.ownsRow w2.heap.size 72 2 lv a.n.toNat (lns a.s a.r a.n.toNat) → Calls Tryd.prog 25 #[.agg #[.map (some ma)], .int .i64 id, lv] w3 (PutPost B ma (putC (cov L) id a.s a.r a.n.toNat) (N + a.n.toNat) T1 w3) from fun w3 lv h3 hlv =>
      put_any id a.s a.r a.n.toNat B ma N w2.heap.size (cov L) T1 lv w3 ⟨f, c, hL2.below h3 (fun k hk => (hL2.low k hk).2)⟩ hlv (fun k hk hT => by have := (World.ownsRow.lt hlv k hk).1; have := (hL2.low k hT).2; omega) (by omega) ⟨by omega, by omega⟩ (by omega) (by omega) (fun s r => by have := cov_len L s r; have := hI1.len; omega))
    have hbi2 : bi < w2.heap.size := by have := (hlt1 bi (.inr (.inr rfl))).2; omega
    have hwl : w.heap.size < w2.heap.size := hA2.lt
    have hnT : ¬ T1 w.heap.size := fun hT => Nat.lt_irrefl _ (hI.lines.low _ hT).2
    go_wp2_with fail
    go_region_held3 (fun w' => w'.cell? ⟨bi, 0, none⟩ = some (.map (some ma)) ∧ w'.cell? ⟨w.heap.size, 0, none⟩ = some (.int .i64 a.s) ∧ w'.cell? ⟨w.heap.size, 1, none⟩ = some (.int .i64 a.r) ∧ w'.cell? ⟨w.heap.size, 2, none⟩ = some (.int .i64 a.c) ∧ w'.cell? ⟨w.heap.size, 3, none⟩ = some (.int .i64 a.n) ∧ w'.cell? ⟨w.heap.size, 4, none⟩ = some (.int .i64 a.m))
      (first | exact ⟨c0, a0, a1, a2, a3, a4⟩ | fail)
      (first
        | (go_at_call 26; refine HOF.out.mono ?_; rintro e w3 ⟨lv, rfl, hlv, hB3⟩; have c0 := (hB3.cell (p := ⟨bi, 0, none⟩) hbi2).trans c0; have hA3 := hA2d.below hB3 hwl; have a0 := hA3.cell 0 _ rfl; have a1 := hA3.cell 1 _ rfl; have a2 := hA3.cell 2 _ rfl; have a3 := hA3.cell 3 _ rfl; have a4 := hA3.cell 4 _ rfl)
        | (go_at_call 25; refine (HPUT.out w3 lv ⟨hB3.os, hB3.tape, hB3.output, hB3.size, hB3.block⟩ hlv).mono ?_; rintro e w4 ⟨rfl, T1', hL4, hT4, hturn⟩; have htb : ∀ k o v, k < w2.heap.size → ¬ T1 k → w3.cell? ⟨k, o, none⟩ = some v → w4.cell? ⟨k, o, none⟩ = some v := fun k o v hk hn hc => (World.cell?_of_block (a := ⟨k, o, none⟩) (hturn.block k (Nat.lt_of_lt_of_le hk hB3.size) hn)).trans hc; have c0 := htb bi 0 _ hbi2 hI1.free c0; have a0 := htb w.heap.size 0 _ hwl hnT a0; have a1 := htb w.heap.size 1 _ hwl hnT a1; have a2 := htb w.heap.size 2 _ hwl hnT a2; have a3 := htb w.heap.size 3 _ hwl hnT a3; have a4 := htb w.heap.size 4 _ hwl hnT a4)
        | fail)
    all_goals
      have hB3' : Below w2.heap.size w2 w3 := ⟨hB3.os, hB3.tape, hB3.output, hB3.size, hB3.block⟩
      have hB2s : B ≤ w2.heap.size := by have := hb.size; omega
      have hE4 : Errs w4 B p q := (hE2.below (hB3'.mono hB2s)).below (hturn.below (fun k hk => (hL2.low k hk).1) (by have := hB3'.size; omega))
      clear c0 a0 a1 a2 a3 a4
      go_wp2_with (go_at_call 27; refine (HZ.out _ hE4).mono ?_; rintro e w5 ⟨rfl, rfl⟩)
      go_ret
      obtain ⟨f', c', hL4⟩ := hL4
      have hbl := hlt1 bi (.inr (.inr rfl))
      have hml := hlt1 mb (.inr (.inl rfl))
      have hgn : g (.int .i64 id) = none := by rw [hI1.at_ id, hno]; rfl
      rw [hgn] at hmb2
      have h3s := hB3'.size
      have hfr : ∀ k, k < w2.heap.size → ¬ T1 k → ¬ T1' k := fun k hk hn hT => (hT4 k hT).elim hn fun h => by omega
      have hsame : ∀ k, k < w2.heap.size → ¬ T1 k → w5.heap[k]? = w2.heap[k]? := fun k hk hn => (hturn.block k (by omega) hn).trans (hB3'.block k hk)
      refine ⟨rfl, _, ⟨T1', ma, mb, f', c', upd g (.int .i64 id) (some a.v), ⟨(hsame bi hbi2 hI1.free).trans hhead2, hI.base, hfr bi hbi2 hI1.free, ?_, ?_, hI.mbase, hfr mb (by omega) hI1.mfree, fun x => ?_, ?_, ?_⟩, rfl⟩, ?_, ?_⟩
      · rw [cov_put]
        exact ⟨hL4.map, by have := hL4.count; omega, hL4.base, hL4.own, hL4.low, hL4.row, hL4.place, hL4.apart⟩
      · have := hmb2.same (hsame mb (by omega) hI1.mfree)
        simpa using this
      · rw [areaAt_put hno]
        by_cases e : x = id
        · subst e
          rw [if_pos rfl, upd_same]; rfl
        · rw [if_neg e, upd_other g _ (fun e' => e (by simpa using e')), hI1.at_ x]
      · exact hI.good.put (areaAt_none.1 hno) k1 k2 ha
      · have := hI.len
        simp
        omega
      · rintro k (hk | rfl)
        · rcases hT4 k hk with h | h
          · exact .inl (.inl h)
          · exact .inr (by have := hb.size; omega)
        · exact .inl (.inr rfl)
      · refine ⟨hturn.os.trans (hB3'.os.trans (hg2.os.trans hb.os)), hturn.tape.trans (hB3'.tape.trans (hg2.tape.trans hb.drew.tape)), hturn.output.trans (hB3'.output.trans (hg2.output.trans hb.output)), by have := hturn.size; have := hb.size; omega, fun k hk hn => ?_⟩
        have hk1 : k < w1.heap.size := by have := hb.size; omega
        rw [hsame k (by omega) (fun h => hn (.inl h)), hg2.block k hk1 (fun e => hn (.inr (Option.some.inj e)))]
        exact hb.block k hk
theorem put_ix (B bi N : Nat) (L : Ids) (T : Nat → Prop) (id : Int) (a : Ar) (p q : Addr) (w : World) (hI : Ix w B bi L N T) (hE : Errs w B p q) (hN : N ≤ 90000) :
    Calls Tryd.prog 9 #[.pointer (some ⟨bi, 0, none⟩), .int .i64 id, a.v] w (StorePost (.int .i64 (putE L id a)) B bi (putL L id a) (N + 200) T w) := by
  by_cases h : fromB id 1 10000 = true ∧ a.right = true
  · cases hat : areaAt L id with
    | none =>
      have e1 : putE L id a = 0 := by unfold putE; rw [if_pos h, hat]; rfl
      have e2 : putL L id a = L ++ [(id, a)] := by unfold putL; rw [if_pos h, hat]; rfl
      rw [e1, e2]
      exact put_good B bi N L T id a p q w hI hE hN h.1 h.2 hat
    | some b =>
      have e1 : putE L id a = 110 := by unfold putE; rw [if_pos h, hat]; rfl
      have e2 : putL L id a = L := by unfold putL; rw [if_pos h, hat]; rfl
      rw [e1, e2]
      refine (put_bad B bi N L T id a p q q 110 w hI hE (by unfold whyV; rw [if_pos h, hat]; rfl) (fun w h => told_has w B p q h)).mono ?_
      rintro e w' ⟨rfl, T', hI', r⟩
      exact ⟨rfl, T', hI'.more (by omega), r⟩
  · have e1 : putE L id a = 2 := by unfold putE; rw [if_neg h]
    have e2 : putL L id a = L := by unfold putL; rw [if_neg h]
    rw [e1, e2]
    refine (put_bad B bi N L T id a p q p 2 w hI hE (by unfold whyV; rw [if_neg h]) (fun w h => told_arg w B p q h)).mono ?_
    rintro e w' ⟨rfl, T', hI', r⟩
    exact ⟨rfl, T', hI'.more (by omega), r⟩
end Go.Proofs.YtnbfkhcignjfoaaDoor
