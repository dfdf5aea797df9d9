/- Drop. -/
import Derived.Test.YtnbfkhcignjfoaaDoorStore
namespace Go.Proofs.YtnbfkhcignjfoaaDoor
open Go Go.RowKit Go.Maps
open Go.ChangeMaps (setBlock)

def noAr : Ar := ⟨0, 0, 0, 0, 0⟩
theorem dropL_len : ∀ {L : Ids}, (L.map Prod.fst).Nodup → ∀ (id : Int), (dropL L id).length = if (areaAt L id).isSome then L.length - 1 else L.length
  | [], _, id => rfl
  | x :: L, hn, id => by
    rw [List.map_cons, List.nodup_cons] at hn
    have ih := dropL_len hn.2 id
    unfold dropL areaAt at ih ⊢
    by_cases e : x.1 = id
    · have h1 : L.find? (fun p => p.1 == id) = none := by
        rw [List.find?_eq_none]
        intro p hp
        simp only [beq_iff_eq]
        intro e2
        exact hn.1 (by rw [e, ← e2]; exact List.mem_map.2 ⟨p, hp, rfl⟩)
      rw [h1] at ih
      simp only [Option.map_none, Option.isSome_none, Bool.false_eq_true, if_false] at ih
      have h2 : (!(x.1 == id)) = false := by simp [e]
      rw [List.filter_cons, if_neg (by rw [h2]; decide), ih, List.find?_cons, show (x.1 == id) = true by simp [e]]
      simp
    · have h2 : (!(x.1 == id)) = true := by simp [e]
      have h3 : (x.1 == id) = false := by simp [e]
      rw [List.filter_cons, if_pos h2, List.find?_cons, h3, List.length_cons, ih]
      cases hf : L.find? fun p => p.1 == id with
      | none => simp
      | some p =>
        have : 0 < L.length := List.length_pos_of_mem (List.mem_of_find?_eq_some hf)
        simp
        omega
theorem cov_dropped {L : Ids} (hL : Good L) (id : Int) : dropC (cov L) id ((areaAt L id).getD noAr).s ((areaAt L id).getD noAr).r ((areaAt L id).getD noAr).n.toNat = cov (dropL L id) := by
  cases h : areaAt L id with
  | some a => exact (cov_drop hL ((areaAt_some hL).1 h)).symm
  | none =>
    rw [cov_drop_none (areaAt_none.1 h)]
    exact dropC_zero _ _ _ _
set_option maxRecDepth 100000 in
set_option maxHeartbeats 4000000 in
theorem drop_ix (B bi N : Nat) (L : Ids) (T : Nat → Prop) (id : Int) (w : World) (hI : Ix w B bi L N T) (hN : N ≤ 90000) (hid : i64R id) :
    Calls Tryd.prog 11 #[.pointer (some ⟨bi, 0, none⟩), .int .i64 id] w (StorePost (.bool (areaAt L id).isSome) B bi (dropL L id) (N + 200) T w) := by
  have hk := key3 hid
  obtain ⟨T1, ma, mb, f, c, g, hI, rfl⟩ := hI
  have hcd := Lib.hid (cov_dropped hI.good id)
  have hdl := Lib.hid (dropL_len hI.good.nodup id)
  have had := Lib.hid (areaAt_drop L id)
  obtain ⟨a, ha⟩ : ∃ a, (areaAt L id).getD noAr = a := ⟨_, rfl⟩
  obtain ⟨ok, hok⟩ : ∃ ok, (areaAt L id).isSome = ok := ⟨_, rfl⟩
  rw [ha] at hcd
  rw [hok] at hdl ⊢
  have hlook : (Instr.lookup 56 (.map (some mb)) (.int .i64 id) true).run Tryd.prog w = .ok (.tuple #[a.v, .bool ok]) w := by
    have := hI.areas.look keyed3 Tryd.underlying56 (Tryd.zeroValue31 _) hk true
    rw [if_pos rfl, hI.at_ id] at this
    rw [this, ← ha, ← hok]
    cases areaAt L id <;> rfl
  have hrg : i64R a.s ∧ i64R a.r ∧ a.n ≤ 200 ∧ a.r + a.n ≤ 9223372036854775807 ∧ a.r + a.n.toNat ≤ 9223372036854775807 := by
    cases h : areaAt L id with
    | none =>
      rw [h] at ha
      subst ha
      refine ⟨⟨?_, ?_⟩, ⟨?_, ?_⟩, ?_, ?_, ?_⟩ <;> simp [noAr]
    | some b =>
      rw [h] at ha
      have ha : b = a := ha
      subst ha
      have := (hI.good.right _ ((areaAt_some hI.good).1 h)).2.2
      obtain ⟨p1, p2, p3, p4, p5, p6, p7, p8, p9, p10⟩ := rightB_iff.1 (show rightB b.s b.r b.c b.n b.m = true from this)
      refine ⟨⟨?_, ?_⟩, ⟨?_, ?_⟩, ?_, ?_, ?_⟩ <;> omega
  obtain ⟨hrs, hrr, hrn, hr1, hr2⟩ := hrg
  have hlt := hI.lt
  have hc1 := hI.c1
  have hbl := (hlt bi (.inr (.inr rfl))).2
  have hgi : (g (.int .i64 id)).isSome = ok := by rw [hI.at_ id, ← hok]; cases areaAt L id <;> rfl
  have HG := Lib.hid hgi
  clear hgi ha hok
  go_enter Tryd.func11, Tryd.ntmps11
  go_wp2_with fail
  obtain ⟨w2, hw2⟩ : ∃ w2, w2 = w.alloc (.cells #[.int .i64 a.s, .int .i64 a.r, .int .i64 a.c, .int .i64 a.n, .int .i64 a.m] 31) := ⟨_, rfl⟩
  rw [← hw2]
  have hb : Below w.heap.size w w2 := by rw [hw2]; exact (Below.refl _ _).alloc (Nat.le_refl _) _
  have hs2 : w2.heap.size = w.heap.size + 1 := by rw [hw2]; simp
  have hA2 : World.area w2 w.heap.size a.s a.r a.c a.n a.m := by rw [hw2]; exact World.area_new w _ _ _ _ _
  clear hw2 hlook
  have hI2 := hI.below hb (Nat.le_refl _)
  have hL2 := hI2.lines
  have hA2d : World.area w2.drew w.heap.size a.s a.r a.c a.n a.m := hA2
  have c0 : w2.drew.cell? ⟨bi, 0, none⟩ = some (.map (some ma)) := hI2.c0
  have a0 := hA2d.cell 0 _ rfl
  have a1 := hA2d.cell 1 _ rfl
  have a2 := hA2d.cell 2 _ rfl
  have a3 := hA2d.cell 3 _ rfl
  have a4 := hA2d.cell 4 _ rfl
  have HOF := Lib.hid (of_any a.s a.r a.c a.n a.m w2.drew (by omega) hrr.1 (by omega) hrr.2)
  have HDR := Lib.hid (show ∀ w3 lv, Below w2.heap.size w2 w3 → w3.ownsRow w2.heap.size 72 2 lv a.n.toNat (lns a.s a.r a.n.toNat) → Calls Tryd.prog 28 #[.agg #[.map (some ma)], .int .i64 id, lv] w3 (PutPost B ma (dropC (cov L) id a.s a.r a.n.toNat) (N + a.n.toNat) T1 w3) from fun w3 lv h3 hlv =>
    drop_any id a.s a.r a.n.toNat B ma N w2.heap.size (cov L) T1 lv w3 ⟨f, c, hL2.below h3 (fun k hk => (hL2.low k hk).2)⟩ hlv (fun k hk hT => by have := (World.ownsRow.lt hlv k hk).1; have := (hL2.low k hT).2; omega) (by omega) hrs hrr.1 hr2 (fun s r => by have := cov_len L s r; have := hI.len; omega))
  have hbi2 : bi < w2.heap.size := by omega
  have hwl : w.heap.size < w2.heap.size := hA2.lt
  have hnT : ¬ T1 w.heap.size := fun hT => Nat.lt_irrefl _ (hI.lines.low _ hT).2
  go_region_held3 (fun w' => w'.cell? ⟨bi, 0, none⟩ = some (.map (some ma)) ∧ w'.cell? ⟨w.heap.size, 0, none⟩ = some (.int .i64 a.s) ∧ w'.cell? ⟨w.heap.size, 1, none⟩ = some (.int .i64 a.r) ∧ w'.cell? ⟨w.heap.size, 2, none⟩ = some (.int .i64 a.c) ∧ w'.cell? ⟨w.heap.size, 3, none⟩ = some (.int .i64 a.n) ∧ w'.cell? ⟨w.heap.size, 4, none⟩ = some (.int .i64 a.m))
    (first | exact ⟨c0, a0, a1, a2, a3, a4⟩ | fail)
    (first
      | (go_at_call 26; refine HOF.out.mono ?_; rintro e w3 ⟨lv, rfl, hlv, hB3⟩; have c0 := (hB3.cell (p := ⟨bi, 0, none⟩) hbi2).trans c0; have hA3 := hA2d.below hB3 hwl; have a0 := hA3.cell 0 _ rfl; have a1 := hA3.cell 1 _ rfl; have a2 := hA3.cell 2 _ rfl; have a3 := hA3.cell 3 _ rfl; have a4 := hA3.cell 4 _ rfl)
      | (go_at_call 28; refine (HDR.out w3 lv ⟨hB3.os, hB3.tape, hB3.output, hB3.size, hB3.block⟩ hlv).mono ?_; rintro e w4 ⟨rfl, T1', hL4, hT4, hturn⟩; have htb : ∀ k o v, k < w2.heap.size → ¬ T1 k → w3.cell? ⟨k, o, none⟩ = some v → w4.cell? ⟨k, o, none⟩ = some v := fun k o v hk hn hc => (World.cell?_of_block (a := ⟨k, o, none⟩) (hturn.block k (Nat.lt_of_lt_of_le hk hB3.size) hn)).trans hc; have c0 := htb bi 0 _ hbi2 hI.free c0; have a0 := htb w.heap.size 0 _ hwl hnT a0; have a1 := htb w.heap.size 1 _ hwl hnT a1; have a2 := htb w.heap.size 2 _ hwl hnT a2; have a3 := htb w.heap.size 3 _ hwl hnT a3; have a4 := htb w.heap.size 4 _ hwl hnT a4)
      | fail)
  all_goals
    have hB3' : Below w2.heap.size w2 w3 := ⟨hB3.os, hB3.tape, hB3.output, hB3.size, hB3.block⟩
    clear c0 a0 a1 a2 a3 a4
    have hml := (hlt mb (.inr (.inl rfl))).2
    have h3s := hB3'.size
    have h4s := hturn.size
    have hfr : ∀ k, k < w2.heap.size → ¬ T1 k → ¬ T1' k := fun k hk hn hT => (hT4 k hT).elim hn fun h => by omega
    have hsame : ∀ k, k < w2.heap.size → ¬ T1 k → w4.heap[k]? = w2.heap[k]? := fun k hk hn => (hturn.block k (by omega) hn).trans (hB3'.block k hk)
    have hhead4 := (hsame bi hbi2 hI.free).trans hI2.head
    have d1 : w4.cell? ⟨bi, 1, none⟩ = some (.map (some mb)) := (cell_of_row w4 bi 1 _ _ _ hhead4).trans rfl
    have hbl4 : bi < w4.heap.size := by omega
    have hm4 := hI2.areas.same (hsame mb (by omega) hI.mfree)
    obtain ⟨es', clock', hdel, hm5⟩ := hm4.drop keyed3 Tryd.underlying56 hk 0
    obtain ⟨w5, hw5⟩ : ∃ w5, w5 = setBlock w4 mb (.map es' clock') := ⟨_, rfl⟩
    rw [← hw5] at hdel hm5
    have hg5 : w4.grownBy w5 (some mb) := by rw [hw5]; exact setBlock_grown _ _ _
    have hs5 : w5.heap.size = w4.heap.size := by rw [hw5]; simp [setBlock]
    clear hw5
    go_wp2_with fail
    go_ret
    obtain ⟨f', c', hL4⟩ := hL4
    have hbim : bi ≠ mb := fun e => by
      subst e
      obtain ⟨es, ck, h2⟩ := hI2.areas.isMap
      have h1 := hI2.head
      rw [h1] at h2
      cases h2
    have hsame5 : ∀ k, k < w2.heap.size → ¬ T1 k → k ≠ mb → w5.heap[k]? = w2.heap[k]? := fun k hk hn hm => (hg5.block k (by omega) (by simpa using hm)).trans (hsame k hk hn)
    refine ⟨rfl, _, ⟨T1', ma, mb, f', c', upd g (.int .i64 id) none, ⟨(hsame5 bi hbi2 hI.free hbim).trans hI2.head, hI.base, hfr bi hbi2 hI.free, ?_, ?_, hI.mbase, hfr mb (by omega) hI.mfree, fun x => ?_, hI.good.drop id, ?_⟩, rfl⟩, ?_, ?_⟩
    · have h5 : LnsAt w5 B ma (dropC (cov L) id a.s a.r a.n.toNat) (N + a.n.toNat) T1' f' c' := hL4.keep (fun k hk => hg5.block k (hL4.low k hk).2 (fun e => hfr mb (by omega) hI.mfree (Option.some.inj e ▸ hk))) (by omega)
      rw [hcd.out] at h5
      exact ⟨h5.map, by have := h5.count; omega, h5.base, h5.own, h5.low, h5.row, h5.place, h5.apart⟩
    · rw [hdl.out]
      rw [HG.out] at hm5
      exact hm5
    · rw [had.out x]
      by_cases e : x = id
      · subst e
        rw [if_pos rfl, upd_same]; rfl
      · rw [if_neg e, upd_other g _ (fun e' => e (by simpa using e')), hI.at_ x]
    · have := hI.len
      rw [hdl.out]
      split <;> omega
    · rintro k (hk | rfl)
      · rcases hT4 k hk with h | h
        · exact .inl (.inl h)
        · exact .inr (by omega)
      · exact .inl (.inr rfl)
    · refine ⟨hg5.os.trans (hturn.os.trans (hB3'.os.trans hb.os)), hg5.tape.trans (hturn.tape.trans (hB3'.tape.trans hb.tape)), hg5.output.trans (hturn.output.trans (hB3'.output.trans hb.output)), by omega, fun k hk hn => ?_⟩
      rw [hsame5 k (by omega) (fun h => hn (.inl h)) (fun e => hn (.inr e))]
      exact hb.block k hk
end Go.Proofs.YtnbfkhcignjfoaaDoor
