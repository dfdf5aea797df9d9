/- The law ValReads, walked: it tells true. (By genReads.py.) -/
import Derived.Test.YtkhohjdakcchdaaGreatDoorBr
import Derived.Test.YtkhohjdakcchdaaGreatDoorBs
import Derived.Test.YtkhohjdakcchdaaGreatDoorRrv
import Derived.Test.YtkhohjdakcchdaaGreatDoorThr
import Derived.Deep.DeepCutAuto
namespace Go.Proofs.YtkhohjdakcchdaaGreatDoor
open Go Go.RowKit Go.Shelf
theorem rsame21 {x y : Vl} {C D : Array Value} {w : World} (h : At x C w) (h' : At y D w) (e : x = y) : Calls Tryz.prog 21 #[.agg C, .agg D] w (Gives (.bool true) w) := by
  refine (rsame_any 3 x y _ _ w h.1 h'.1).mono ?_
  rintro _ w' ⟨b, rfl, hb, hB⟩
  rw [hb.2 e]; exact ⟨rfl, hB⟩
theorem readV_plain (l : List UInt8) : plainV (readV l).1 = true := by
  rcases readV_two l with h | h
  · exact h.2
  · rw [h]; exact plain_zero
theorem readV_err (l : List UInt8) : 0 ≤ (readV l).2 ∧ (readV l).2 ≤ 30 := by
  rcases readV_two l with h | h
  · omega
  · rw [h]; decide
/-- What Make hands back, as a value and a number. -/
def HandsP (x : Vl) (q : Int) (w : World) (e : Ending) (w' : World) : Prop := ∃ C, e = .returned (.tuple #[.agg C, .int .i64 q]) ∧ At x C w' ∧ Below w.heap.size w w'
theorem handsP_made {r c : Int} {l : List Vl} {w : World} {e : Ending} {w' : World} (h : HandsM r c l w e w') : HandsP (makeV r c l).1 (makeV r c l).2 w e w' := by
  unfold HandsM at h
  unfold makeV
  split at h
  · rename_i hr
    rw [if_pos hr]
    obtain ⟨L, he, hv, hB⟩ := h
    exact ⟨_, he, ⟨rp_of_vr hv hr (Nat.le_refl _), vr_one hv, .inr ⟨rfl, hr⟩⟩, hB⟩
  · rename_i hr
    rw [if_neg hr]
    obtain ⟨he, hB⟩ := h
    exact ⟨_, he, at_plain plain_zero, hB⟩
theorem handsP_read {s : List UInt8} {w : World} {e : Ending} {w' : World} (h : ReadPost (readV s) w e w') : HandsP (readV s).1 (readV s).2 w e w' := ⟨_, h.1, at_plain (readV_plain s), h.2⟩
theorem wpList_load25at {ops : Array Oper} {rest : List Oper} {o : Oper} {a : Act} {w : World} {Q : Exit → Act → World → Prop} {x : Operand} {g off : Nat} {cs : Array Value} (hgd : o.guard = none) (ho : o.op = .load 25 x) (hx : a.eval x = .pointer (some ⟨g, off, none⟩)) (hs : cs.size = 5)
    (hc : ∀ j u, cs[j]? = some u → w.cell? ⟨g, off + j, none⟩ = some u) (h : wpList Tryz.prog ops Q rest (a.put o.dst (.agg cs)) w) : wpList Tryz.prog ops Q (o :: rest) a w :=
  wpList_plain hgd fun K hK => by
    have := run_load_at w g off 25 cs _ hc Tryz.underlying25 rfl (by rw [hs]; exact info25)
    unfold Oper.wp execOp
    simp only [ho, hx, Instr.loadAt, Instr.sureAddr, Sem.run_bind, Sem.run_pure, Result.andThen_ok, this]
    exact hK _ _ h
theorem take_map {zs : List Rw} {K : Nat} {z : Rw} (h : zs[K]? = some z) : (zs.take (K + 1)).map Rw.v = (zs.take K).map Rw.v ++ [z.v] := by
  rw [List.take_add_one, h]; simp
set_option maxRecDepth 100000 in
set_option maxHeartbeats 16000000 in
theorem law_reads (s : ByteArray) (r c : Int) (v : Value) (zs : List Rw) (m n : Int) (w : World) (hs : s.size ≤ 9223372036854775807) (hr0 : i64R r) (hc0 : i64R c) (hm0 : i64R m) (hn0 : i64R n) (hr : RawsAt w w.heap.size v zs) (hS : Shp w) (hT : Lib.Utf8Tabs 0 1 w) :
    Calls Tryz.prog 4 #[.string s, .int .i64 r, .int .i64 c, v, .agg #[.int .i64 m, .int .i64 n]] w (Gives (.bool true) w) := by
  have HE := Lib.hid (show ∀ W, Below w.heap.size w W → Env W from fun W hW => ⟨tabs_below hT hW, hS.below hW⟩)
  have HR := Lib.hid (show ∀ W, Below w.heap.size w W → RawsAt W w.heap.size v zs from fun W hW => hr.below hW)
  have hlen := len_raws hr
  have HB0 : Below w.heap.size w (w.alloc (.cells #[.int .i64 m, .int .i64 n] 41)) := (Below.refl _ w).alloc (Nat.le_refl _) _
  have r9 : World.blk (w.alloc (.cells #[.int .i64 m, .int .i64 n] 41)) w.heap.size 41 #[.int .i64 m, .int .i64 n] := blk_new _ _ _
  by_cases hls : 300 < s.size
  · have hlI : (300 : Int) < (s.size : Int) := by omega
    clear hS hT hr r9
    go_enter Tryz.func4, Tryz.ntmps4
    go_wp2_with fail
    refine (awk11 (HE.out _ HB0)).mono ?_
    rintro e1 w1 ⟨rfl, hB1⟩
    have hB := HB0.trans (hB1.mono HB0.size)
    clear hB1
    go_wp2_with fail
    go_ret
    exact ⟨rfl, hB⟩
  have hlI : ¬ (300 : Int) < (s.size : Int) := by omega
  by_cases hlz : 500 < zs.length
  · have hlJ : (500 : Int) < (zs.length : Int) := by omega
    clear hS hT hr r9
    go_enter Tryz.func4, Tryz.ntmps4
    go_wp2_with fail
    refine (awk11 (HE.out _ HB0)).mono ?_
    rintro e1 w1 ⟨rfl, hB1⟩
    have hB := HB0.trans (hB1.mono HB0.size)
    clear hB1
    go_wp2_with fail
    go_ret
    exact ⟨rfl, hB⟩
  have hlJ : ¬ (500 : Int) < (zs.length : Int) := by omega
  have HR17 := Lib.hid (show ∀ W, Below w.heap.size w W → Calls Tryz.prog 17 #[.string s] W (HandsP (readV s.data.toList).1 (readV s.data.toList).2 W) from fun W hW => (vread_any s W (by omega) (hS.below hW) (tabs_below hT hW)).mono fun _ _ h => handsP_read h)
  have HR18 := Lib.hid (show ∀ W, Calls Tryz.prog 18 #[.string s] W (HandsP (readV s.data.toList).1 (readV s.data.toList).2 W) from fun W => (rvread_any s W (by omega)).mono fun _ _ h => handsP_read h)
  generalize (readV s.data.toList).1 = rv at HR17 HR18
  generalize (readV s.data.toList).2 = re at HR17 HR18
  have HM19 := Lib.hid (show ∀ W l L D, Below w.heap.size w W → (∀ x ∈ l, plainV x = true) → l.length ≤ 1000 → World.vr W D L l → (l = [] → L = nilS) → Calls Tryz.prog 19 #[.int .i64 r, .int .i64 c, L] W (HandsP (makeV r c l).1 (makeV r c l).2 W) from fun W l L D hW hp h1000 hv hne => (make_any 0 r c l L W hp (hv.vsAt hp h1000 (Nat.le_refl _) hne) hr0 hc0 (tabs_below hT hW)).mono fun _ _ h => handsP_made h)
  have HM20 := Lib.hid (show ∀ W l L D, (∀ x ∈ l, plainV x = true) → l.length ≤ 1000 → World.vr W D L l → (l = [] → L = nilS) → Calls Tryz.prog 20 #[.int .i64 r, .int .i64 c, L] W (HandsP (makeV r c l).1 (makeV r c l).2 W) from fun W l L D hp h1000 hv hne => (rmake_any 0 r c l L W hp (hv.vsAt hp h1000 (Nat.le_refl _) hne) hr0 hc0).mono fun _ _ h => handsP_made h)
  have HA13 := Lib.hid (show ∀ W, Below w.heap.size w W → Calls Tryz.prog 13 #[.int .i64 r, .int .i64 c, v] W (HandsV (arrOf r c zs) W) from fun W hW => arr13 hr0 hc0 ((HR.out w (Below.refl _ w)).at hW hW.size))
  generalize arrOf r c zs = xa at HA13
  have HPM := Lib.hid (show ∀ W, Calls Tryz.prog 24 #[.int .i64 m, .int .i64 6] W (fun e w' => e = .returned (.int .i64 (pickI m 6)) ∧ w' = W) from fun W => pick_any m 6 W hm0.1 hm0.2 (by decide) (by decide))
  have HPN := Lib.hid (show ∀ W, Calls Tryz.prog 24 #[.int .i64 n, .int .i64 6] W (fun e w' => e = .returned (.int .i64 (pickI n 6)) ∧ w' = W) from fun W => pick_any n 6 W hn0.1 hn0.2 (by decide) (by decide))
  generalize pickI m 6 = pm at HPM
  generalize pickI n 6 = pn at HPN
  have hzl : zs.length ≤ 500 := by omega
  clear hS hT hr hls hlz hs hr0 hc0 hm0 hn0
  have hB := HB0
  go_enter Tryz.func4, Tryz.ntmps4
  go_wp2_with fail
  refine (awk11 (HE.out _ hB)).mono ?_
  rintro e1 w1 ⟨rfl, hB1⟩
  have r9 := r9.below hB1 r9.lt
  have hB := hB.trans (hB1.mono hB.size)
  clear hB1 HB0
  go_wp2_with fail
  refine (HR17.out _ hB).mono ?_
  rintro e2 w2 ⟨C12, rfl, hx12, hB2⟩
  have r9 := r9.below hB2 r9.lt
  have hB := hB.trans (hB2.mono hB.size)
  clear hB2
  have hSz3 := hB.size
  obtain ⟨b12, hb12⟩ : ∃ b, b = w2.heap.size := ⟨_, rfl⟩
  go_wp2_with (first | refine wpList_alloc34 rfl rfl ?_ | (refine wpList_store34 rfl rfl rfl rfl (World.vb_new w2 vz) (by rfl) hx12.one ?_; intro w3 hn12 hg3 hz3; have hB3 := vb_made hg3; have r9 := r9.below hB3 r9.lt; have hx12 := hx12.below hB3; have hB := hB.trans (hB3.mono hB.size)))
  rw [← hb12] at hn12 ⊢
  have hlb12 : w.heap.size ≤ b12 := by rw [hb12]; exact hSz3
  clear hb12 hg3 hz3 hB3 hSz3
  refine (HR18.out _).mono ?_
  rintro e4 w4 ⟨C14, rfl, hx14, hB4⟩
  have r9 := r9.below hB4 r9.lt
  have hx12 := hx12.below hB4
  have hn12 := hn12.below hB4 hn12.lt
  have hB := hB.trans (hB4.mono hB.size)
  clear hB4
  have hSz5 := hB.size
  obtain ⟨b14, hb14⟩ : ∃ b, b = w4.heap.size := ⟨_, rfl⟩
  go_wp2_with (first | refine wpList_alloc34 rfl rfl ?_ | (refine wpList_store34 rfl rfl rfl rfl (World.vb_new w4 vz) (by rfl) hx14.one ?_; intro w5 hn14 hg5 hz5; have hB5 := vb_made hg5; have r9 := r9.below hB5 r9.lt; have hx12 := hx12.below hB5; have hx14 := hx14.below hB5; have hn12 := hn12.below hB5 hn12.lt; have hB := hB.trans (hB5.mono hB.size)))
  rw [← hb14] at hn14 ⊢
  have hlb14 : w.heap.size ≤ b14 := by rw [hb14]; exact hSz5
  clear hb14 hg5 hz5 hB5 hSz5
  obtain ⟨BB, hBB⟩ : ∃ B, B = w5.heap.size := ⟨_, rfl⟩
  have hb12 : b12 < BB := by rw [hBB]; exact hn12.lt
  have hb14 : b14 < BB := by rw [hBB]; exact hn14.lt
  have hb9 : w.heap.size < BB := by rw [hBB]; exact r9.lt
  have hBZ : Below BB w5 w5 := Below.refl _ _
  have hBL : BB ≤ w5.heap.size := by rw [hBB]; exact Nat.le_refl _
  obtain ⟨w0, hw0⟩ : ∃ w0, w0 = w5 := ⟨_, rfl⟩
  go_loopw [17, 16] (fun i sv wr => ∃ K : Nat, K ≤ zs.length ∧ i = .int .i64 (K : Int) ∧ World.vr wr BB sv ((zs.take K).map Rw.v) ∧ (K = 0 → sv = nilS) ∧ Below BB w0 wr) (fun i _ _ => zs.length - (intOf i).toNat)
  case atStart => exact ⟨0, Nat.zero_le _, rfl, World.vr_nil, fun _ => rfl, by rw [hw0]; exact hBZ⟩
  case round =>
    subst hBB hw0
    obtain ⟨K, hK, rfl, hown, hnil, hBr⟩ := hrel
    have hn12 := hn12.below hBr hb12
    have hn14 := hn14.below hBr hb14
    have r9 := r9.below hBr hb9
    have hx12 := hx12.below hBr
    have hx14 := hx14.below hBr
    have hB := hB.trans (hBr.mono hB.size)
    have hsr := hBr.size
    by_cases hlt : K < zs.length
    · have hKI : (K : Int) < (zs.length : Int) := by omega
      obtain ⟨z, hz⟩ : ∃ z, zs[K]? = some z := ⟨_, List.getElem?_eq_getElem hlt⟩
      obtain ⟨p, cp, hv, _, H⟩ := HR.out w (Below.refl _ w)
      obtain ⟨hok, g0, off, hp, hg0, hcz⟩ := H K z hz
      subst hp
      have HSRC := Lib.hid (show ∀ W, Below w.heap.size w W → ∀ j u, z.c[j]? = some u → W.cell? ⟨g0, off + K * 5 + j, none⟩ = some u from fun W hW j u hj => (hW.cell (p := ⟨g0, _, none⟩) hg0).trans (hcz j u hj))
      have HTK := Lib.hid (take_map hz)
      have HVL := Lib.hid (show ∀ W, Calls Tryz.prog 12 #[.agg z.c] W (Gives (.agg (pcs z.v)) W) from fun W => val12p hok)
      have HLn : Hid (((zs.take K).map Rw.v).length ≤ 2000) := Lib.hid (by rw [List.length_map, List.length_take]; omega)
      obtain ⟨RC, hRC⟩ : ∃ RC, z.c = RC := ⟨_, rfl⟩
      have HR5 : Hid (RC.size = 5) := Lib.hid (by rw [← hRC]; rfl)
      rw [hRC] at HSRC HVL
      obtain ⟨y, hy⟩ : ∃ y, z.v = y := ⟨_, rfl⟩
      rw [hy] at HVL HTK
      clear hz H hok hcz hRC hy
      subst hv
      clear hlen
      go_wp2_with (refine wpList_load25at rfl rfl rfl HR5.out (HSRC.out _ hB) ?_)
      refine (HVL.out _).mono ?_
      rintro e5 w5 ⟨rfl, hB5⟩
      have hown := hown.below hB5
      have hBr := hBr.trans (hB5.mono hsr)
      have hs5 := hB5.size
      clear hB5
      obtain ⟨w6, hw6⟩ : ∃ w6, w6 = w5.alloc (.cells (pcs y) 34) := ⟨_, rfl⟩
      have hvn : World.vb w6 w5.heap.size (pcs y) := by rw [hw6]; exact World.vb_new _ _
      have hown := hown.alloc (.cells (pcs y) 34)
      have hBr := hBr.alloc (Nat.le_trans hsr hs5) (.cells (pcs y) 34)
      have hs6 : w6.heap.size = w5.heap.size + 1 := by rw [hw6]; simp
      rw [← hw6] at hown hBr
      have HS : Hid (∀ k, Value.ownBlock u16 = some k → w0.heap.size ≤ k ∧ k < w6.heap.size) := Lib.hid fun k hk => World.ownsRow.lt hown k hk
      go_wp2_with (first | (refine wpList_bslice34 (y := y) rfl rfl rfl ?_; rw [← hw6]; clear hw6) | (at_builtin; refine wpList_pushv rfl _ _ rfl w0.heap.size u16 _ y w5.heap.size hown HLn.out rfl rfl hvn (by omega) ?_; intro v7 w7 hown7 hg7))
      have hBr := hBr.grown hg7 (by omega) (fun k9 hk9 => (HS.out k9 hk9).1)
      rw [← HTK.out] at hown7
      clear hg7 hvn
      go_roundw
      case rel => exact ⟨K + 1, by omega, by go_num, hown7, fun h => absurd h (by omega), hBr⟩
      case measure => simp [intOf]; omega
    · obtain rfl : K = zs.length := by omega
      have hKI : ¬ ((zs.length : Nat) : Int) < (zs.length : Int) := by omega
      rw [List.take_length] at hown
      have HNE : Hid (zs.map Rw.v = [] → u16 = nilS) := Lib.hid fun e => hnil (by
        have := congrArg List.length e
        simpa using this)
      have HPL : Hid (∀ x ∈ zs.map Rw.v, plainV x = true) := Lib.hid fun x hx => by
        obtain ⟨z, _, rfl⟩ := List.mem_map.1 hx
        exact valP_plain _ _ _ _ _
      have HLN : Hid ((zs.map Rw.v).length ≤ 1000) := Lib.hid (by rw [List.length_map]; omega)
      generalize zs.map Rw.v = vals at hown HNE HPL HLN
      clear hnil hBr hsr hlt
      obtain ⟨D, hD⟩ : ∃ D, w0.heap.size = D := ⟨_, rfl⟩
      rw [hD] at hown
      clear hD
      go_wp2_with fail
      refine (HM19.out _ vals u16 D hB HPL.out HLN.out hown HNE.out).mono ?_
      rintro e21 w21 ⟨C18, rfl, hx18, hB21⟩
      have r9 := r9.below hB21 r9.lt
      have hx12 := hx12.below hB21
      have hx14 := hx14.below hB21
      have hn12 := hn12.below hB21 hn12.lt
      have hn14 := hn14.below hB21 hn14.lt
      have hown := hown.below hB21
      have hB := hB.trans (hB21.mono hB.size)
      clear hB21
      have hSz22 := hB.size
      obtain ⟨b18, hb18⟩ : ∃ b, b = w21.heap.size := ⟨_, rfl⟩
      go_wp2_with (first | refine wpList_alloc34 rfl rfl ?_ | (refine wpList_store34 rfl rfl rfl rfl (World.vb_new w21 vz) (by rfl) hx18.one ?_; intro w22 hn18 hg22 hz22; have hB22 := vb_made hg22; have r9 := r9.below hB22 r9.lt; have hx12 := hx12.below hB22; have hx14 := hx14.below hB22; have hx18 := hx18.below hB22; have hn12 := hn12.below hB22 hn12.lt; have hn14 := hn14.below hB22 hn14.lt; have hown := hown.below hB22; have hB := hB.trans (hB22.mono hB.size)))
      rw [← hb18] at hn18 ⊢
      have hlb18 : w.heap.size ≤ b18 := by rw [hb18]; exact hSz22
      clear hb18 hg22 hz22 hB22 hSz22
      refine (HM20.out _ vals u16 D HPL.out HLN.out hown HNE.out).mono ?_
      rintro e23 w23 ⟨C20, rfl, hx20, hB23⟩
      have r9 := r9.below hB23 r9.lt
      have hx12 := hx12.below hB23
      have hx14 := hx14.below hB23
      have hx18 := hx18.below hB23
      have hn12 := hn12.below hB23 hn12.lt
      have hn14 := hn14.below hB23 hn14.lt
      have hn18 := hn18.below hB23 hn18.lt
      have hown := hown.below hB23
      have hB := hB.trans (hB23.mono hB.size)
      clear hB23
      have hSz24 := hB.size
      obtain ⟨b20, hb20⟩ : ∃ b, b = w23.heap.size := ⟨_, rfl⟩
      go_wp2_with (first | refine wpList_alloc34 rfl rfl ?_ | (refine wpList_store34 rfl rfl rfl rfl (World.vb_new w23 vz) (by rfl) hx20.one ?_; intro w24 hn20 hg24 hz24; have hB24 := vb_made hg24; have r9 := r9.below hB24 r9.lt; have hx12 := hx12.below hB24; have hx14 := hx14.below hB24; have hx18 := hx18.below hB24; have hx20 := hx20.below hB24; have hn12 := hn12.below hB24 hn12.lt; have hn14 := hn14.below hB24 hn14.lt; have hn18 := hn18.below hB24 hn18.lt; have hB := hB.trans (hB24.mono hB.size)))
      rw [← hb20] at hn20 ⊢
      have hlb20 : w.heap.size ≤ b20 := by rw [hb20]; exact hSz24
      clear hb20 hg24 hz24 hB24 hSz24
      refine (HA13.out _ hB).mono ?_
      rintro e25 w25 ⟨C22, rfl, hx22, hB25⟩
      have r9 := r9.below hB25 r9.lt
      have hx12 := hx12.below hB25
      have hx14 := hx14.below hB25
      have hx18 := hx18.below hB25
      have hx20 := hx20.below hB25
      have hn12 := hn12.below hB25 hn12.lt
      have hn14 := hn14.below hB25 hn14.lt
      have hn18 := hn18.below hB25 hn18.lt
      have hn20 := hn20.below hB25 hn20.lt
      have hB := hB.trans (hB25.mono hB.size)
      clear hB25
      have hSz26 := hB.size
      obtain ⟨b22, hb22⟩ : ∃ b, b = w25.heap.size := ⟨_, rfl⟩
      go_wp2_with (first | refine wpList_alloc34 rfl rfl ?_ | (refine wpList_store34 rfl rfl rfl rfl (World.vb_new w25 vz) (by rfl) hx22.one ?_; intro w26 hn22 hg26 hz26; have hB26 := vb_made hg26; have r9 := r9.below hB26 r9.lt; have hx12 := hx12.below hB26; have hx14 := hx14.below hB26; have hx18 := hx18.below hB26; have hx20 := hx20.below hB26; have hx22 := hx22.below hB26; have hn12 := hn12.below hB26 hn12.lt; have hn14 := hn14.below hB26 hn14.lt; have hn18 := hn18.below hB26 hn18.lt; have hn20 := hn20.below hB26 hn20.lt; have hB := hB.trans (hB26.mono hB.size)))
      rw [← hb22] at hn22 ⊢
      have hlb22 : w.heap.size ≤ b22 := by rw [hb22]; exact hSz26
      clear hb22 hg26 hz26 hB26 hSz26
      go_upto_region 14 with fail
      refine wp_region_held_drew (S := (fun w9 => World.vb w9 b22 C22 ∧ World.vb w9 b12 C12 ∧ World.vb w9 b14 C14 ∧ World.blk w9 w.heap.size 41 #[.int .i64 m, .int .i64 n])) (by kernel_rfl) ⟨hn22, hn12, hn14, r9⟩ (fun hHeld => ?_)
      have hBd := World.drew_below w26
      have r9 := r9.below hBd r9.lt
      have hx12 := hx12.below hBd
      have hx14 := hx14.below hBd
      have hx18 := hx18.below hBd
      have hx20 := hx20.below hBd
      have hx22 := hx22.below hBd
      have hn12 := hn12.below hBd hn12.lt
      have hn14 := hn14.below hBd hn14.lt
      have hn18 := hn18.below hBd hn18.lt
      have hn20 := hn20.below hBd hn20.lt
      have hn22 := hn22.below hBd hn22.lt
      have hB := hB.trans (hBd.mono hB.size)
      clear hBd
      refine wpAnyH_take (i := 0) (oi := ⟨some 76, _, _, _, _, _⟩) (v := ?_) rfl (by kernel_rfl) (by kernel_rfl) (by kernel_rfl) (fun _ _ _ h => h) (Or.inl ⟨by rfl, ?_⟩) hHeld ?_
      rotate_left
      · (intro w9 hSw; refine yields34 (x := .tmp 22) (g := b22) (cs := C22) ?_ ?_ hx22.one.1 hSw.1 <;> rfl)
      try simp only [Act.put, List.setIfInBounds_toArray, List.set_cons_zero, List.set_cons_succ]
      refine wpAnyH_take (i := 1) (oi := ⟨some 77, _, _, _, _, _⟩) (v := ?_) rfl (by kernel_rfl) (by kernel_rfl) (by kernel_rfl) (fun _ _ _ h => h) (Or.inl ⟨by rfl, ?_⟩) hHeld ?_
      rotate_left
      · (intro w9 hSw; (try dsimp only at hSw); go_simp)
        all_goals with_reducible rfl
      try simp only [Act.put, List.setIfInBounds_toArray, List.set_cons_zero, List.set_cons_succ]
      refine wpAnyH_take (i := 2) (oi := ⟨some 78, _, _, _, _, _⟩) (v := ?_) rfl (by kernel_rfl) (by kernel_rfl) (by kernel_rfl) (fun _ _ _ h => h) (Or.inl ⟨by rfl, ?_⟩) hHeld ?_
      rotate_left
      · (intro w9 hSw; have d0 := hSw.2.2.2.cell (j := 0) rfl; have d1 := hSw.2.2.2.cell (j := 1) rfl; clear hSw; go_simp)
        all_goals with_reducible rfl
      try simp only [Act.put, List.setIfInBounds_toArray, List.set_cons_zero, List.set_cons_succ]
      refine wpAnyH_take (i := 3) (oi := ⟨some 79, _, _, _, _, _⟩) (v := ?_) rfl (by kernel_rfl) (by kernel_rfl) (by kernel_rfl) (fun _ _ _ h => h) (Or.inl ⟨by rfl, ?_⟩) hHeld ?_
      rotate_left
      · (intro w9 hSw; (try dsimp only at hSw); go_simp)
        all_goals with_reducible rfl
      try simp only [Act.put, List.setIfInBounds_toArray, List.set_cons_zero, List.set_cons_succ]
      refine wpAnyH_take (i := 4) (oi := ⟨some 80, _, _, _, _, _⟩) (v := ?_) rfl (by kernel_rfl) (by kernel_rfl) (by kernel_rfl) (fun _ _ _ h => h) (Or.inl ⟨by rfl, ?_⟩) hHeld ?_
      rotate_left
      · (intro w9 hSw; have d0 := hSw.2.2.2.cell (j := 0) rfl; have d1 := hSw.2.2.2.cell (j := 1) rfl; clear hSw; go_simp)
        all_goals with_reducible rfl
      try simp only [Act.put, List.setIfInBounds_toArray, List.set_cons_zero, List.set_cons_succ]
      refine wpAnyH_take (i := 6) (oi := ⟨some 82, _, _, _, _, _⟩) (v := ?_) rfl (by kernel_rfl) (by kernel_rfl) (by kernel_rfl) (fun _ _ _ h => h) (Or.inl ⟨by rfl, ?_⟩) hHeld ?_
      rotate_left
      · (intro w9 hSw; refine yields34 (x := .tmp 22) (g := b22) (cs := C22) ?_ ?_ hx22.one.1 hSw.1 <;> rfl)
      try simp only [Act.put, List.setIfInBounds_toArray, List.set_cons_zero, List.set_cons_succ]
      refine wpAnyH_take (i := 7) (oi := ⟨some 83, _, _, _, _, _⟩) (v := ?_) rfl (by kernel_rfl) (by kernel_rfl) (by kernel_rfl) (fun _ _ _ h => h) (Or.inl ⟨by rfl, ?_⟩) hHeld ?_
      rotate_left
      · (intro w9 hSw; (try dsimp only at hSw); go_simp)
        all_goals with_reducible rfl
      try simp only [Act.put, List.setIfInBounds_toArray, List.set_cons_zero, List.set_cons_succ]
      refine wpAnyH_take (i := 8) (oi := ⟨some 84, _, _, _, _, _⟩) (v := ?_) rfl (by kernel_rfl) (by kernel_rfl) (by kernel_rfl) (fun _ _ _ h => h) (Or.inl ⟨by rfl, ?_⟩) hHeld ?_
      rotate_left
      · (intro w9 hSw; have d0 := hSw.2.2.2.cell (j := 0) rfl; have d1 := hSw.2.2.2.cell (j := 1) rfl; clear hSw; go_simp)
        all_goals with_reducible rfl
      try simp only [Act.put, List.setIfInBounds_toArray, List.set_cons_zero, List.set_cons_succ]
      refine wpAnyH_take (i := 9) (oi := ⟨some 85, _, _, _, _, _⟩) (v := ?_) rfl (by kernel_rfl) (by kernel_rfl) (by kernel_rfl) (fun _ _ _ h => h) (Or.inl ⟨by rfl, ?_⟩) hHeld ?_
      rotate_left
      · (intro w9 hSw; (try dsimp only at hSw); go_simp)
        all_goals with_reducible rfl
      try simp only [Act.put, List.setIfInBounds_toArray, List.set_cons_zero, List.set_cons_succ]
      refine wpAnyH_take (i := 10) (oi := ⟨some 86, _, _, _, _, _⟩) (v := ?_) rfl (by kernel_rfl) (by kernel_rfl) (by kernel_rfl) (fun _ _ _ h => h) (Or.inl ⟨by rfl, ?_⟩) hHeld ?_
      rotate_left
      · (intro w9 hSw; have d0 := hSw.2.2.2.cell (j := 0) rfl; have d1 := hSw.2.2.2.cell (j := 1) rfl; clear hSw; go_simp)
        all_goals with_reducible rfl
      try simp only [Act.put, List.setIfInBounds_toArray, List.set_cons_zero, List.set_cons_succ]
      refine wpAnyH_ready (rs := [5]) (by kernel_rfl) (by simp) ?_
      refine (AllReadyH.cons (o := ⟨some 81, _, _, _, _, _⟩) rfl (fun KK hK => ?_) AllReadyH.nil)
      · (try rw [if_pos (by rfl)])
        go_simp
        refine (get22_all xa C22 m n _ hx22 (HE.out _ hB)).mono ?_
        rintro e41 w41 ⟨C81, rfl, hg81, hB41⟩
        have r9 := r9.below hB41 r9.lt
        have hx12 := hx12.below hB41
        have hx14 := hx14.below hB41
        have hx18 := hx18.below hB41
        have hx20 := hx20.below hB41
        have hx22 := hx22.below hB41
        have hn12 := hn12.below hB41 hn12.lt
        have hn14 := hn14.below hB41 hn14.lt
        have hn18 := hn18.below hB41 hn18.lt
        have hn20 := hn20.below hB41 hn20.lt
        have hn22 := hn22.below hB41 hn22.lt
        have hB := hB.trans (hB41.mono hB.size)
        clear hB41
        refine hK.out _ _ ⟨hn22, hn12, hn14, r9⟩ ?_
        clear hK KK hHeld
        intro hHeld
        try simp only [Act.put, List.setIfInBounds_toArray, List.set_cons_zero, List.set_cons_succ]
        refine wpAnyH_ready (rs := [11]) (by kernel_rfl) (by simp) ?_
        refine (AllReadyH.cons (o := ⟨some 87, _, _, _, _, _⟩) rfl (fun KK hK => ?_) AllReadyH.nil)
        · (try rw [if_pos (by rfl)])
          go_simp
          refine (get23_all xa C22 m n _ hx22 (HE.out _ hB)).mono ?_
          rintro e42 w42 ⟨C87, rfl, hg87, hB42⟩
          have hg81 := hg81.below hB42
          have r9 := r9.below hB42 r9.lt
          have hx12 := hx12.below hB42
          have hx14 := hx14.below hB42
          have hx18 := hx18.below hB42
          have hx20 := hx20.below hB42
          have hx22 := hx22.below hB42
          have hn12 := hn12.below hB42 hn12.lt
          have hn14 := hn14.below hB42 hn14.lt
          have hn18 := hn18.below hB42 hn18.lt
          have hn20 := hn20.below hB42 hn20.lt
          have hn22 := hn22.below hB42 hn22.lt
          have hB := hB.trans (hB42.mono hB.size)
          clear hB42
          refine hK.out _ _ ⟨hn22, hn12, hn14, r9⟩ ?_
          clear hK KK hHeld
          intro hHeld
          try simp only [Act.put, List.setIfInBounds_toArray, List.set_cons_zero, List.set_cons_succ]
          refine wpAnyH_ready (rs := [12]) (by kernel_rfl) (by simp) ?_
          refine (AllReadyH.cons (o := ⟨some 88, _, _, _, _, _⟩) rfl (fun KK hK => ?_) AllReadyH.nil)
          · (try rw [if_pos (by rfl)])
            go_simp
            refine (rsame21 hg81 hg87 rfl).mono ?_
            rintro e43 w43 ⟨rfl, hB43⟩
            clear hg81 hg87
            have r9 := r9.below hB43 r9.lt
            have hx12 := hx12.below hB43
            have hx14 := hx14.below hB43
            have hx18 := hx18.below hB43
            have hx20 := hx20.below hB43
            have hx22 := hx22.below hB43
            have hn12 := hn12.below hB43 hn12.lt
            have hn14 := hn14.below hB43 hn14.lt
            have hn18 := hn18.below hB43 hn18.lt
            have hn20 := hn20.below hB43 hn20.lt
            have hn22 := hn22.below hB43 hn22.lt
            have hB := hB.trans (hB43.mono hB.size)
            clear hB43
            refine hK.out _ _ ⟨hn22, hn12, hn14, r9⟩ ?_
            clear hK KK hHeld
            intro hHeld
            try simp only [Act.put, List.setIfInBounds_toArray, List.set_cons_zero, List.set_cons_succ]
            refine wpAnyH_take (i := 13) (oi := ⟨some 89, _, _, _, _, _⟩) (v := ?_) rfl (by kernel_rfl) (by kernel_rfl) (by kernel_rfl) (fun _ _ _ h => h) (Or.inl ⟨by rfl, ?_⟩) hHeld ?_
            rotate_left
            · (intro w9 hSw; (try dsimp only at hSw); go_simp)
              all_goals with_reducible rfl
            try simp only [Act.put, List.setIfInBounds_toArray, List.set_cons_zero, List.set_cons_succ]
            refine wpAnyH_take (i := 14) (oi := ⟨some 90, _, _, _, _, _⟩) (v := ?_) rfl (by kernel_rfl) (by kernel_rfl) (by kernel_rfl) (fun _ _ _ h => h) (Or.inl ⟨by rfl, ?_⟩) hHeld ?_
            rotate_left
            · (intro w9 hSw; refine yields34 (x := .tmp 12) (g := b12) (cs := C12) ?_ ?_ hx12.one.1 hSw.2.1 <;> rfl)
            try simp only [Act.put, List.setIfInBounds_toArray, List.set_cons_zero, List.set_cons_succ]
            refine wpAnyH_take (i := 15) (oi := ⟨some 91, _, _, _, _, _⟩) (v := ?_) rfl (by kernel_rfl) (by kernel_rfl) (by kernel_rfl) (fun _ _ _ h => h) (Or.inl ⟨by rfl, ?_⟩) hHeld ?_
            rotate_left
            · (intro w9 hSw; (try dsimp only at hSw); go_simp)
              all_goals with_reducible rfl
            try simp only [Act.put, List.setIfInBounds_toArray, List.set_cons_zero, List.set_cons_succ]
            refine wpAnyH_take (i := 16) (oi := ⟨some 92, _, _, _, _, _⟩) (v := ?_) rfl (by kernel_rfl) (by kernel_rfl) (by kernel_rfl) (fun _ _ _ h => h) (Or.inl ⟨by rfl, ?_⟩) hHeld ?_
            rotate_left
            · (intro w9 hSw; have d0 := hSw.2.2.2.cell (j := 0) rfl; have d1 := hSw.2.2.2.cell (j := 1) rfl; clear hSw; go_simp)
              all_goals with_reducible rfl
            try simp only [Act.put, List.setIfInBounds_toArray, List.set_cons_zero, List.set_cons_succ]
            refine wpAnyH_take (i := 17) (oi := ⟨some 93, _, _, _, _, _⟩) (v := ?_) rfl (by kernel_rfl) (by kernel_rfl) (by kernel_rfl) (fun _ _ _ h => h) (Or.inl ⟨by rfl, ?_⟩) hHeld ?_
            rotate_left
            · (intro w9 hSw; (try dsimp only at hSw); go_simp)
              all_goals with_reducible rfl
            try simp only [Act.put, List.setIfInBounds_toArray, List.set_cons_zero, List.set_cons_succ]
            refine wpAnyH_take (i := 18) (oi := ⟨some 94, _, _, _, _, _⟩) (v := ?_) rfl (by kernel_rfl) (by kernel_rfl) (by kernel_rfl) (fun _ _ _ h => h) (Or.inl ⟨by rfl, ?_⟩) hHeld ?_
            rotate_left
            · (intro w9 hSw; have d0 := hSw.2.2.2.cell (j := 0) rfl; have d1 := hSw.2.2.2.cell (j := 1) rfl; clear hSw; go_simp)
              all_goals with_reducible rfl
            try simp only [Act.put, List.setIfInBounds_toArray, List.set_cons_zero, List.set_cons_succ]
            refine wpAnyH_take (i := 20) (oi := ⟨some 96, _, _, _, _, _⟩) (v := ?_) rfl (by kernel_rfl) (by kernel_rfl) (by kernel_rfl) (fun _ _ _ h => h) (Or.inl ⟨by rfl, ?_⟩) hHeld ?_
            rotate_left
            · (intro w9 hSw; refine yields34 (x := .tmp 14) (g := b14) (cs := C14) ?_ ?_ hx14.one.1 hSw.2.2.1 <;> rfl)
            try simp only [Act.put, List.setIfInBounds_toArray, List.set_cons_zero, List.set_cons_succ]
            refine wpAnyH_take (i := 21) (oi := ⟨some 97, _, _, _, _, _⟩) (v := ?_) rfl (by kernel_rfl) (by kernel_rfl) (by kernel_rfl) (fun _ _ _ h => h) (Or.inl ⟨by rfl, ?_⟩) hHeld ?_
            rotate_left
            · (intro w9 hSw; (try dsimp only at hSw); go_simp)
              all_goals with_reducible rfl
            try simp only [Act.put, List.setIfInBounds_toArray, List.set_cons_zero, List.set_cons_succ]
            refine wpAnyH_take (i := 22) (oi := ⟨some 98, _, _, _, _, _⟩) (v := ?_) rfl (by kernel_rfl) (by kernel_rfl) (by kernel_rfl) (fun _ _ _ h => h) (Or.inl ⟨by rfl, ?_⟩) hHeld ?_
            rotate_left
            · (intro w9 hSw; have d0 := hSw.2.2.2.cell (j := 0) rfl; have d1 := hSw.2.2.2.cell (j := 1) rfl; clear hSw; go_simp)
              all_goals with_reducible rfl
            try simp only [Act.put, List.setIfInBounds_toArray, List.set_cons_zero, List.set_cons_succ]
            refine wpAnyH_take (i := 23) (oi := ⟨some 99, _, _, _, _, _⟩) (v := ?_) rfl (by kernel_rfl) (by kernel_rfl) (by kernel_rfl) (fun _ _ _ h => h) (Or.inl ⟨by rfl, ?_⟩) hHeld ?_
            rotate_left
            · (intro w9 hSw; (try dsimp only at hSw); go_simp)
              all_goals with_reducible rfl
            try simp only [Act.put, List.setIfInBounds_toArray, List.set_cons_zero, List.set_cons_succ]
            refine wpAnyH_take (i := 24) (oi := ⟨some 100, _, _, _, _, _⟩) (v := ?_) rfl (by kernel_rfl) (by kernel_rfl) (by kernel_rfl) (fun _ _ _ h => h) (Or.inl ⟨by rfl, ?_⟩) hHeld ?_
            rotate_left
            · (intro w9 hSw; have d0 := hSw.2.2.2.cell (j := 0) rfl; have d1 := hSw.2.2.2.cell (j := 1) rfl; clear hSw; go_simp)
              all_goals with_reducible rfl
            try simp only [Act.put, List.setIfInBounds_toArray, List.set_cons_zero, List.set_cons_succ]
            refine wpAnyH_ready (rs := [19]) (by kernel_rfl) (by simp) ?_
            refine (AllReadyH.cons (o := ⟨some 95, _, _, _, _, _⟩) rfl (fun KK hK => ?_) AllReadyH.nil)
            · (try rw [if_pos (by rfl)])
              go_simp
              refine (get22_all rv C12 m n _ hx12 (HE.out _ hB)).mono ?_
              rintro e44 w44 ⟨C95, rfl, hg95, hB44⟩
              have r9 := r9.below hB44 r9.lt
              have hx12 := hx12.below hB44
              have hx14 := hx14.below hB44
              have hx18 := hx18.below hB44
              have hx20 := hx20.below hB44
              have hx22 := hx22.below hB44
              have hn12 := hn12.below hB44 hn12.lt
              have hn14 := hn14.below hB44 hn14.lt
              have hn18 := hn18.below hB44 hn18.lt
              have hn20 := hn20.below hB44 hn20.lt
              have hn22 := hn22.below hB44 hn22.lt
              have hB := hB.trans (hB44.mono hB.size)
              clear hB44
              refine hK.out _ _ ⟨hn22, hn12, hn14, r9⟩ ?_
              clear hK KK hHeld
              intro hHeld
              try simp only [Act.put, List.setIfInBounds_toArray, List.set_cons_zero, List.set_cons_succ]
              refine wpAnyH_ready (rs := [25]) (by kernel_rfl) (by simp) ?_
              refine (AllReadyH.cons (o := ⟨some 101, _, _, _, _, _⟩) rfl (fun KK hK => ?_) AllReadyH.nil)
              · (try rw [if_pos (by rfl)])
                go_simp
                refine (get23_all rv C14 m n _ hx14 (HE.out _ hB)).mono ?_
                rintro e45 w45 ⟨C101, rfl, hg101, hB45⟩
                have hg95 := hg95.below hB45
                have r9 := r9.below hB45 r9.lt
                have hx12 := hx12.below hB45
                have hx14 := hx14.below hB45
                have hx18 := hx18.below hB45
                have hx20 := hx20.below hB45
                have hx22 := hx22.below hB45
                have hn12 := hn12.below hB45 hn12.lt
                have hn14 := hn14.below hB45 hn14.lt
                have hn18 := hn18.below hB45 hn18.lt
                have hn20 := hn20.below hB45 hn20.lt
                have hn22 := hn22.below hB45 hn22.lt
                have hB := hB.trans (hB45.mono hB.size)
                clear hB45
                refine hK.out _ _ ⟨hn22, hn12, hn14, r9⟩ ?_
                clear hK KK hHeld
                intro hHeld
                try simp only [Act.put, List.setIfInBounds_toArray, List.set_cons_zero, List.set_cons_succ]
                refine wpAnyH_ready (rs := [26]) (by kernel_rfl) (by simp) ?_
                refine (AllReadyH.cons (o := ⟨some 102, _, _, _, _, _⟩) rfl (fun KK hK => ?_) AllReadyH.nil)
                · (try rw [if_pos (by rfl)])
                  go_simp
                  refine (rsame21 hg95 hg101 rfl).mono ?_
                  rintro e46 w46 ⟨rfl, hB46⟩
                  clear hg95 hg101
                  have r9 := r9.below hB46 r9.lt
                  have hx12 := hx12.below hB46
                  have hx14 := hx14.below hB46
                  have hx18 := hx18.below hB46
                  have hx20 := hx20.below hB46
                  have hx22 := hx22.below hB46
                  have hn12 := hn12.below hB46 hn12.lt
                  have hn14 := hn14.below hB46 hn14.lt
                  have hn18 := hn18.below hB46 hn18.lt
                  have hn20 := hn20.below hB46 hn20.lt
                  have hn22 := hn22.below hB46 hn22.lt
                  have hB := hB.trans (hB46.mono hB.size)
                  clear hB46
                  refine hK.out _ _ ⟨hn22, hn12, hn14, r9⟩ ?_
                  clear hK KK hHeld
                  intro hHeld
                  try simp only [Act.put, List.setIfInBounds_toArray, List.set_cons_zero, List.set_cons_succ]
                  refine wpAnyH_take (i := 27) (oi := ⟨some 103, _, _, _, _, _⟩) (v := ?_) rfl (by kernel_rfl) (by kernel_rfl) (by kernel_rfl) (fun _ _ _ h => h) (Or.inl ⟨by rfl, ?_⟩) hHeld ?_
                  rotate_left
                  · (intro w9 hSw; (try dsimp only at hSw); go_simp)
                    all_goals with_reducible rfl
                  try simp only [Act.put, List.setIfInBounds_toArray, List.set_cons_zero, List.set_cons_succ]
                  refine wpAnyH_take (i := 28) (oi := ⟨some 104, _, _, _, _, _⟩) (v := ?_) rfl (by kernel_rfl) (by kernel_rfl) (by kernel_rfl) (fun _ _ _ h => h) (Or.inl ⟨by rfl, ?_⟩) hHeld ?_
                  rotate_left
                  · (intro w9 hSw; (try dsimp only at hSw); go_simp)
                    all_goals with_reducible rfl
                  try simp only [Act.put, List.setIfInBounds_toArray, List.set_cons_zero, List.set_cons_succ]
                  refine wpAnyH_take (i := 29) (oi := ⟨some 105, _, _, _, _, _⟩) (v := ?_) rfl (by kernel_rfl) (by kernel_rfl) (by kernel_rfl) (fun _ _ _ h => h) (Or.inl ⟨by rfl, ?_⟩) hHeld ?_
                  rotate_left
                  · (intro w9 hSw; refine yields34 (x := .tmp 22) (g := b22) (cs := C22) ?_ ?_ hx22.one.1 hSw.1 <;> rfl)
                  try simp only [Act.put, List.setIfInBounds_toArray, List.set_cons_zero, List.set_cons_succ]
                  refine wpAnyH_take (i := 30) (oi := ⟨some 106, _, _, _, _, _⟩) (v := ?_) rfl (by kernel_rfl) (by kernel_rfl) (by kernel_rfl) (fun _ _ _ h => h) (Or.inl ⟨by rfl, ?_⟩) hHeld ?_
                  rotate_left
                  · (intro w9 hSw; (try dsimp only at hSw); go_simp)
                    all_goals with_reducible rfl
                  try simp only [Act.put, List.setIfInBounds_toArray, List.set_cons_zero, List.set_cons_succ]
                  refine wpAnyH_take (i := 31) (oi := ⟨some 107, _, _, _, _, _⟩) (v := ?_) rfl (by kernel_rfl) (by kernel_rfl) (by kernel_rfl) (fun _ _ _ h => h) (Or.inl ⟨by rfl, ?_⟩) hHeld ?_
                  rotate_left
                  · (intro w9 hSw; have d0 := hSw.2.2.2.cell (j := 0) rfl; have d1 := hSw.2.2.2.cell (j := 1) rfl; clear hSw; go_simp)
                    all_goals with_reducible rfl
                  try simp only [Act.put, List.setIfInBounds_toArray, List.set_cons_zero, List.set_cons_succ]
                  refine wpAnyH_take (i := 33) (oi := ⟨some 109, _, _, _, _, _⟩) (v := ?_) rfl (by kernel_rfl) (by kernel_rfl) (by kernel_rfl) (fun _ _ _ h => h) (Or.inl ⟨by rfl, ?_⟩) hHeld ?_
                  rotate_left
                  · (intro w9 hSw; (try dsimp only at hSw); go_simp)
                    all_goals with_reducible rfl
                  try simp only [Act.put, List.setIfInBounds_toArray, List.set_cons_zero, List.set_cons_succ]
                  refine wpAnyH_take (i := 34) (oi := ⟨some 110, _, _, _, _, _⟩) (v := ?_) rfl (by kernel_rfl) (by kernel_rfl) (by kernel_rfl) (fun _ _ _ h => h) (Or.inl ⟨by rfl, ?_⟩) hHeld ?_
                  rotate_left
                  · (intro w9 hSw; have d0 := hSw.2.2.2.cell (j := 0) rfl; have d1 := hSw.2.2.2.cell (j := 1) rfl; clear hSw; go_simp)
                    all_goals with_reducible rfl
                  try simp only [Act.put, List.setIfInBounds_toArray, List.set_cons_zero, List.set_cons_succ]
                  refine wpAnyH_take (i := 37) (oi := ⟨some 113, _, _, _, _, _⟩) (v := ?_) rfl (by kernel_rfl) (by kernel_rfl) (by kernel_rfl) (fun _ _ _ h => h) (Or.inl ⟨by rfl, ?_⟩) hHeld ?_
                  rotate_left
                  · (intro w9 hSw; refine yields34 (x := .tmp 22) (g := b22) (cs := C22) ?_ ?_ hx22.one.1 hSw.1 <;> rfl)
                  try simp only [Act.put, List.setIfInBounds_toArray, List.set_cons_zero, List.set_cons_succ]
                  refine wpAnyH_take (i := 38) (oi := ⟨some 114, _, _, _, _, _⟩) (v := ?_) rfl (by kernel_rfl) (by kernel_rfl) (by kernel_rfl) (fun _ _ _ h => h) (Or.inl ⟨by rfl, ?_⟩) hHeld ?_
                  rotate_left
                  · (intro w9 hSw; (try dsimp only at hSw); go_simp)
                    all_goals with_reducible rfl
                  try simp only [Act.put, List.setIfInBounds_toArray, List.set_cons_zero, List.set_cons_succ]
                  refine wpAnyH_take (i := 39) (oi := ⟨some 115, _, _, _, _, _⟩) (v := ?_) rfl (by kernel_rfl) (by kernel_rfl) (by kernel_rfl) (fun _ _ _ h => h) (Or.inl ⟨by rfl, ?_⟩) hHeld ?_
                  rotate_left
                  · (intro w9 hSw; have d0 := hSw.2.2.2.cell (j := 0) rfl; have d1 := hSw.2.2.2.cell (j := 1) rfl; clear hSw; go_simp)
                    all_goals with_reducible rfl
                  try simp only [Act.put, List.setIfInBounds_toArray, List.set_cons_zero, List.set_cons_succ]
                  refine wpAnyH_take (i := 41) (oi := ⟨some 117, _, _, _, _, _⟩) (v := ?_) rfl (by kernel_rfl) (by kernel_rfl) (by kernel_rfl) (fun _ _ _ h => h) (Or.inl ⟨by rfl, ?_⟩) hHeld ?_
                  rotate_left
                  · (intro w9 hSw; (try dsimp only at hSw); go_simp)
                    all_goals with_reducible rfl
                  try simp only [Act.put, List.setIfInBounds_toArray, List.set_cons_zero, List.set_cons_succ]
                  refine wpAnyH_take (i := 42) (oi := ⟨some 118, _, _, _, _, _⟩) (v := ?_) rfl (by kernel_rfl) (by kernel_rfl) (by kernel_rfl) (fun _ _ _ h => h) (Or.inl ⟨by rfl, ?_⟩) hHeld ?_
                  rotate_left
                  · (intro w9 hSw; have d0 := hSw.2.2.2.cell (j := 0) rfl; have d1 := hSw.2.2.2.cell (j := 1) rfl; clear hSw; go_simp)
                    all_goals with_reducible rfl
                  try simp only [Act.put, List.setIfInBounds_toArray, List.set_cons_zero, List.set_cons_succ]
                  refine wpAnyH_ready (rs := [32]) (by kernel_rfl) (by simp) ?_
                  refine (AllReadyH.cons (o := ⟨some 108, _, _, _, _, _⟩) rfl (fun KK hK => ?_) AllReadyH.nil)
                  · (try rw [if_pos (by rfl)])
                    go_simp
                    refine (HPM.out _).mono ?_
                    rintro e47 w47 ⟨rfl, rfl⟩
                    refine hK.out _ _ ⟨hn22, hn12, hn14, r9⟩ ?_
                    clear hK KK hHeld
                    intro hHeld
                    try simp only [Act.put, List.setIfInBounds_toArray, List.set_cons_zero, List.set_cons_succ]
                    refine wpAnyH_ready (rs := [35]) (by kernel_rfl) (by simp) ?_
                    refine (AllReadyH.cons (o := ⟨some 111, _, _, _, _, _⟩) rfl (fun KK hK => ?_) AllReadyH.nil)
                    · (try rw [if_pos (by rfl)])
                      go_simp
                      refine (HPN.out _).mono ?_
                      rintro e48 w48 ⟨rfl, rfl⟩
                      refine hK.out _ _ ⟨hn22, hn12, hn14, r9⟩ ?_
                      clear hK KK hHeld
                      intro hHeld
                      try simp only [Act.put, List.setIfInBounds_toArray, List.set_cons_zero, List.set_cons_succ]
                      refine wpAnyH_ready (rs := [36]) (by kernel_rfl) (by simp) ?_
                      refine (AllReadyH.cons (o := ⟨some 112, _, _, _, _, _⟩) rfl (fun KK hK => ?_) AllReadyH.nil)
                      · (try rw [if_pos (by rfl)])
                        go_simp
                        refine (get22_all xa C22 pm pn _ hx22 (HE.out _ hB)).mono ?_
                        rintro e49 w49 ⟨C112, rfl, hg112, hB49⟩
                        have r9 := r9.below hB49 r9.lt
                        have hx12 := hx12.below hB49
                        have hx14 := hx14.below hB49
                        have hx18 := hx18.below hB49
                        have hx20 := hx20.below hB49
                        have hx22 := hx22.below hB49
                        have hn12 := hn12.below hB49 hn12.lt
                        have hn14 := hn14.below hB49 hn14.lt
                        have hn18 := hn18.below hB49 hn18.lt
                        have hn20 := hn20.below hB49 hn20.lt
                        have hn22 := hn22.below hB49 hn22.lt
                        have hB := hB.trans (hB49.mono hB.size)
                        clear hB49
                        refine hK.out _ _ ⟨hn22, hn12, hn14, r9⟩ ?_
                        clear hK KK hHeld
                        intro hHeld
                        try simp only [Act.put, List.setIfInBounds_toArray, List.set_cons_zero, List.set_cons_succ]
                        refine wpAnyH_ready (rs := [40]) (by kernel_rfl) (by simp) ?_
                        refine (AllReadyH.cons (o := ⟨some 116, _, _, _, _, _⟩) rfl (fun KK hK => ?_) AllReadyH.nil)
                        · (try rw [if_pos (by rfl)])
                          go_simp
                          refine (HPM.out _).mono ?_
                          rintro e50 w50 ⟨rfl, rfl⟩
                          refine hK.out _ _ ⟨hn22, hn12, hn14, r9⟩ ?_
                          clear hK KK hHeld
                          intro hHeld
                          try simp only [Act.put, List.setIfInBounds_toArray, List.set_cons_zero, List.set_cons_succ]
                          refine wpAnyH_ready (rs := [43]) (by kernel_rfl) (by simp) ?_
                          refine (AllReadyH.cons (o := ⟨some 119, _, _, _, _, _⟩) rfl (fun KK hK => ?_) AllReadyH.nil)
                          · (try rw [if_pos (by rfl)])
                            go_simp
                            refine (HPN.out _).mono ?_
                            rintro e51 w51 ⟨rfl, rfl⟩
                            refine hK.out _ _ ⟨hn22, hn12, hn14, r9⟩ ?_
                            clear hK KK hHeld
                            intro hHeld
                            try simp only [Act.put, List.setIfInBounds_toArray, List.set_cons_zero, List.set_cons_succ]
                            refine wpAnyH_ready (rs := [44]) (by kernel_rfl) (by simp) ?_
                            refine (AllReadyH.cons (o := ⟨some 120, _, _, _, _, _⟩) rfl (fun KK hK => ?_) AllReadyH.nil)
                            · (try rw [if_pos (by rfl)])
                              go_simp
                              refine (get23_all xa C22 pm pn _ hx22 (HE.out _ hB)).mono ?_
                              rintro e52 w52 ⟨C120, rfl, hg120, hB52⟩
                              have hg112 := hg112.below hB52
                              have r9 := r9.below hB52 r9.lt
                              have hx12 := hx12.below hB52
                              have hx14 := hx14.below hB52
                              have hx18 := hx18.below hB52
                              have hx20 := hx20.below hB52
                              have hx22 := hx22.below hB52
                              have hn12 := hn12.below hB52 hn12.lt
                              have hn14 := hn14.below hB52 hn14.lt
                              have hn18 := hn18.below hB52 hn18.lt
                              have hn20 := hn20.below hB52 hn20.lt
                              have hn22 := hn22.below hB52 hn22.lt
                              have hB := hB.trans (hB52.mono hB.size)
                              clear hB52
                              refine hK.out _ _ ⟨hn22, hn12, hn14, r9⟩ ?_
                              clear hK KK hHeld
                              intro hHeld
                              try simp only [Act.put, List.setIfInBounds_toArray, List.set_cons_zero, List.set_cons_succ]
                              refine wpAnyH_ready (rs := [45]) (by kernel_rfl) (by simp) ?_
                              refine (AllReadyH.cons (o := ⟨some 121, _, _, _, _, _⟩) rfl (fun KK hK => ?_) AllReadyH.nil)
                              · (try rw [if_pos (by rfl)])
                                go_simp
                                refine (rsame21 hg112 hg120 rfl).mono ?_
                                rintro e53 w53 ⟨rfl, hB53⟩
                                clear hg112 hg120
                                have r9 := r9.below hB53 r9.lt
                                have hx12 := hx12.below hB53
                                have hx14 := hx14.below hB53
                                have hx18 := hx18.below hB53
                                have hx20 := hx20.below hB53
                                have hx22 := hx22.below hB53
                                have hn12 := hn12.below hB53 hn12.lt
                                have hn14 := hn14.below hB53 hn14.lt
                                have hn18 := hn18.below hB53 hn18.lt
                                have hn20 := hn20.below hB53 hn20.lt
                                have hn22 := hn22.below hB53 hn22.lt
                                have hB := hB.trans (hB53.mono hB.size)
                                clear hB53
                                refine hK.out _ _ ⟨hn22, hn12, hn14, r9⟩ ?_
                                clear hK KK hHeld
                                intro hHeld
                                try simp only [Act.put, List.setIfInBounds_toArray, List.set_cons_zero, List.set_cons_succ]
                                refine wpAnyH_take (i := 46) (oi := ⟨some 122, _, _, _, _, _⟩) (v := ?_) rfl (by kernel_rfl) (by kernel_rfl) (by kernel_rfl) (fun _ _ _ h => h) (Or.inl ⟨by rfl, ?_⟩) hHeld ?_
                                rotate_left
                                · (intro w9 hSw; (try dsimp only at hSw); go_simp)
                                  all_goals with_reducible rfl
                                try simp only [Act.put, List.setIfInBounds_toArray, List.set_cons_zero, List.set_cons_succ]
                                refine wpAnyH_take (i := 47) (oi := ⟨some 23, _, _, _, _, _⟩) (v := ?_) rfl (by kernel_rfl) (by kernel_rfl) (by kernel_rfl) (fun _ _ _ h => h) (Or.inl ⟨by rfl, ?_⟩) hHeld ?_
                                rotate_left
                                · (intro w9 hSw; (try dsimp only at hSw); go_simp)
                                  all_goals with_reducible rfl
                                try simp only [Act.put, List.setIfInBounds_toArray, List.set_cons_zero, List.set_cons_succ]
                                refine wpAnyH_done (by kernel_rfl) ?_ _
                                try simp only [Act.put, List.setIfInBounds_toArray, List.set_cons_zero, List.set_cons_succ]
                                go_wp2_with (first | refine wpList_load34g rfl rfl rfl hn12 hx12.one.1 ?_ | refine wpList_load34g rfl rfl rfl hn14 hx14.one.1 ?_)
                                refine (rsame21 hx12 hx14 rfl).mono ?_
                                rintro e54 w54 ⟨rfl, hB54⟩
                                have r9 := r9.below hB54 r9.lt
                                have hx12 := hx12.below hB54
                                have hx14 := hx14.below hB54
                                have hx18 := hx18.below hB54
                                have hx20 := hx20.below hB54
                                have hx22 := hx22.below hB54
                                have hn12 := hn12.below hB54 hn12.lt
                                have hn14 := hn14.below hB54 hn14.lt
                                have hn18 := hn18.below hB54 hn18.lt
                                have hn20 := hn20.below hB54 hn20.lt
                                have hn22 := hn22.below hB54 hn22.lt
                                have hB := hB.trans (hB54.mono hB.size)
                                clear hB54
                                go_wp2_with (first | refine wpList_load34g rfl rfl rfl hn18 hx18.one.1 ?_ | refine wpList_load34g rfl rfl rfl hn20 hx20.one.1 ?_)
                                refine (rsame21 hx18 hx20 rfl).mono ?_
                                rintro e55 w55 ⟨rfl, hB55⟩
                                have r9 := r9.below hB55 r9.lt
                                have hx12 := hx12.below hB55
                                have hx14 := hx14.below hB55
                                have hx18 := hx18.below hB55
                                have hx20 := hx20.below hB55
                                have hx22 := hx22.below hB55
                                have hn12 := hn12.below hB55 hn12.lt
                                have hn14 := hn14.below hB55 hn14.lt
                                have hn18 := hn18.below hB55 hn18.lt
                                have hn20 := hn20.below hB55 hn20.lt
                                have hn22 := hn22.below hB55 hn22.lt
                                have hB := hB.trans (hB55.mono hB.size)
                                clear hB55
                                clear hn12 hn14 hn18 hn20 hn22 hx12 hx14 hx18 hx20 hx22 r9
                                go_wp2_with fail
                                go_ret
                                exact ⟨rfl, hB⟩
end Go.Proofs.YtkhohjdakcchdaaGreatDoor
