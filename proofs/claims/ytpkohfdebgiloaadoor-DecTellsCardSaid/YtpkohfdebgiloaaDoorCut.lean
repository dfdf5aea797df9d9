/- number.cut. -/
import Derived.Test.YtpkohfdebgiloaaDoorRest
import Derived.Lib.SliceRun
namespace Go.Proofs.YtpkohfdebgiloaaDoor
open Go.RowKit
theorem num_setCells (b : Nat) (s : Bool) (m : Bool) : ∀ (n k : Nat) (f : Nat → Int) (w : World), World.num w b s f m → k + n ≤ 96 →
    World.num (w.setCells b (1 + k) (List.replicate n (.int .i8 0))) b s (fun i => if k ≤ i ∧ i < k + n then 0 else f i) m
  | 0, k, f, w, h, _ => World.num.congr h (fun i _ => by rw [if_neg (by omega)])
  | n + 1, k, f, w, h, hk => by
    have := num_setCells b s m n (k + 1) _ _ (World.num.set h (by omega : k < 96) 0) (by omega)
    rw [List.replicate_succ]
    show World.num ((w.setCell ⟨b, 1 + k, none⟩ (.int .i8 0)).setCells b (1 + k + 1) _) b s _ m
    rw [Nat.add_assoc]
    refine World.num.congr this (fun i _ => ?_)
    by_cases h1 : i = k
    · subst h1; rw [if_neg (by omega), if_pos rfl, if_pos (by omega)]
    · by_cases h2 : k + 1 ≤ i ∧ i < k + 1 + n
      · rw [if_pos h2, if_pos (by omega)]
      · rw [if_neg h2, if_neg h1, if_neg (by omega)]
theorem setCells_grownBy (b : Nat) : ∀ (vs : List Value) (o : Nat) (w : World), w.grownBy (w.setCells b o vs) (some b) ∧ (w.setCells b o vs).heap.size = w.heap.size
  | [], _, w => ⟨⟨rfl, rfl, rfl, Nat.le_refl _, fun _ _ _ => rfl⟩, rfl⟩
  | v :: r, o, w => by
    obtain ⟨h1, h2⟩ := setCells_grownBy b r (o + 1) (w.setCell ⟨b, o, none⟩ v)
    have h0 : w.grownBy (w.setCell ⟨b, o, none⟩ v) (some b) := ⟨rfl, rfl, rfl, by simp, fun k _ hk => heap_setCell_other w _ k v (fun e => hk (by rw [e]))⟩
    exact ⟨⟨h1.os.trans h0.os, h1.tape.trans h0.tape, h1.output.trans h0.output, Nat.le_trans h0.size h1.size, fun k hk hne => (h1.block k (by simpa using hk) hne).trans (h0.block k hk hne)⟩, h2.trans (by simp)⟩

theorem len54 : Tryd.prog.arrayLen 54 = 96 := by kernel_rfl
theorem und54 : Tryd.prog.underlying 54 = some (.array (Tryd.prog.arrayLen 54) (Tryd.prog.elem 54)) := by kernel_rfl
theorem sizeE54 (w : World) : (sizeOf (Tryd.prog.elem 54)).run Tryd.prog w = .ok 1 w := by kernel_rfl
theorem run_slice54 (w : World) (b k : Nat) (hk : k ≤ 96) : (Instr.sliceAt 54 (.pointer (some ⟨b, 1, none⟩)) none (some (.int .i64 k)) none).run Tryd.prog w = .ok (.slice (some ⟨b, 1, none⟩) k 96) w := by
  rw [run_sliceAt_array_h w 54 ⟨b, 1, none⟩ und54 .i64 k (by omega) (by rw [len54]; omega), sizeE54, len54]
  simp [Result.andThen, slicedAt, Addr.add]
section
variable {ops : Array Oper} {rest : List Oper} {o : Oper} {a : Act} {w : World} {Q : Exit → Act → World → Prop}
theorem wpList_slice54 {x h : Operand} {b k : Nat} (hgd : o.guard = none) (ho : o.op = .slice 54 x none (some h) none) (hx : a.eval x = .pointer (some ⟨b, 1, none⟩)) (hh : a.eval h = .int .i64 k) (hk : k ≤ 96)
    (hK : wpList Tryd.prog ops Q rest (a.put o.dst (.slice (some ⟨b, 1, none⟩) k 96)) w) : wpList Tryd.prog ops Q (o :: rest) a w :=
  wpList_plain hgd fun K hK' => by
    have hz := run_slice54 w b k hk
    unfold Oper.wp execOp
    simp only [ho, Option.map_some, Option.map_none, hx, hh, Sem.run_bind, hz, Sem.run_pure, Result.andThen_ok]
    exact hK' _ _ hK
theorem wpList_clear56 {x : Operand} {b k c : Nat} {s : Bool} {f : Nat → Int} {m : Bool} (hgd : o.guard = none) (ho : o.op = .call { callee := .builtin .clear, args := #[x], argTypes := #[95] }) (hx : a.eval x = .slice (some ⟨b, 1, none⟩) k c) (hk0 : 1 ≤ k) (hk : k ≤ 96)
    (hn : World.num w b s f m) (hK : ∀ w1, World.num w1 b s (fun i => if i < k then 0 else f i) m → w.grownBy w1 (some b) → w1.heap.size = w.heap.size → wpList Tryd.prog ops Q rest (a.put o.dst (.tuple #[])) w1) : wpList Tryd.prog ops Q (o :: rest) a w :=
  wpList_plain hgd fun K hK' => by
    have hr := Lib.run_clear_slice (P := Tryd.prog) w 95 53 o.type (.int .i8 0) Tryd.underlying95 Tryd.zeroValue53 rfl rfl b 1 k c hk0 (fun j hj => by rw [(World.num.at hn j (by omega)).1]; rfl) (fun j hj => (World.num.at hn j (by omega)).2)
    unfold Oper.wp execOp
    simp only [ho, resolve, invoke, builtin, Sem.run_bind, Sem.run_pure, Result.andThen_ok, List.map_toArray, List.map_cons, List.map_nil, hx, hr]
    refine hK' _ _ (hK _ ?_ (setCells_grownBy _ _ _ _).1 (setCells_grownBy _ _ _ _).2)
    have := num_setCells b s m k 0 f w hn (by omega)
    exact World.num.congr this (fun i _ => by simp)
end

theorem below_grown {B : Nat} {a w w' : World} {b : Nat} (h : Below B a w) (hg : w.grownBy w' (some b)) (hB : B ≤ b) (hz : B ≤ w.heap.size) : Below B a w' := h.grown hg hz (fun k e => by cases e; exact hB)

/-- What cut leaves. -/
def CutPost (b : Nat) (s : Bool) (D : Nat) (w : World) (e : Ending) (w' : World) : Prop := e = .returned (.tuple #[]) ∧ World.num w' b s (dg D) false ∧ w.grownBy w' (some b)

set_option maxRecDepth 100000 in
set_option maxHeartbeats 1000000 in
theorem cut_f (b : Nat) (s m : Bool) (D k : Nat) (w : World) (hx : World.num w b s (dg D) m) (k0 : 1 ≤ k) (k1 : k ≤ 96) :
    Calls Tryd.prog 61 #[.pointer (some ⟨b, 0, none⟩), .int .i64 k, .bool false] w (CutPost b s (D / 10 ^ k * 10 ^ k) w) := by
  go_enter Tryd.func61, Tryd.ntmps61
  go_wp2_with (first | refine wpList_slice54 rfl rfl rfl rfl k1 ?_ | (refine wpList_clear56 rfl rfl rfl k0 k1 hx ?_; intro w1 hx1 hg1 hz1; have hc1 := hx1.more; have hf1 := hx1.frozen 97))
  refine wp_loop_once ?_
  go_wp2
  go_end0
  refine ⟨rfl, World.num.congr (World.num.setMore hx1 false) (fun i _ => ?_), ?_⟩
  · rw [dg_cut]; rfl
  · exact ⟨hg1.os, hg1.tape, hg1.output, by simp [hz1], fun j hj hne => (heap_setCell_other _ _ j _ (fun e => hne (by rw [e]))).trans (hg1.block j hj hne)⟩

set_option maxRecDepth 100000 in
set_option maxHeartbeats 1000000 in
theorem cut_t (b : Nat) (s m : Bool) (D k : Nat) (w : World) (hx : World.num w b s (dg D) m) (k0 : 1 ≤ k) (k1 : k ≤ 96) (hb : Hid ((D / 10 ^ k + 1) * 10 ^ k < 10 ^ 96)) :
    Calls Tryd.prog 61 #[.pointer (some ⟨b, 0, none⟩), .int .i64 k, .bool true] w (CutPost b s ((D / 10 ^ k + 1) * 10 ^ k) w) := by
  go_enter Tryd.func61, Tryd.ntmps61
  go_wp2_with (first | refine wpList_slice54 rfl rfl rfl rfl k1 ?_ | (refine wpList_clear56 rfl rfl rfl k0 k1 hx ?_; intro w1 hx1 hg1 hz1; have hc1 := hx1.more; have hf1 := hx1.frozen 97))
  have hx2 := World.num.setMore hx1 false
  have hg2 : w.grownBy (w1.setCell ⟨b, 97, none⟩ (.bool false)) (some b) := ⟨hg1.os, hg1.tape, hg1.output, by simp [hz1], fun j hj hne => (heap_setCell_other _ _ j _ (fun e => hne (by rw [e]))).trans (hg1.block j hj hne)⟩
  clear hx1 hg1 hz1 hc1 hf1 hx
  go_loopw [6] (fun i wr => ∃ K : Nat, i = .int .i64 K ∧ k ≤ K ∧ K ≤ 96 ∧ Hid ((D / 10 ^ k + 1) * 10 ^ k = (D / 10 ^ K + 1) * 10 ^ K) ∧ World.num wr b s (cutTo (dg D) K) false ∧ w.grownBy wr (some b)) (fun i _ => 96 - (intOf i).toNat)
  case atStart => exact ⟨k, rfl, Nat.le_refl _, k1, rfl, hx2, hg2⟩
  case round =>
    obtain ⟨K, rfl, j0, j1, HK, hn, hg⟩ := hrel
    clear hx2 hg2
    have hlt : K < 96 := carry_lt (D := D) (by rw [← HK.out]; exact hb.out)
    obtain ⟨hc, hf⟩ := World.num.at hn K hlt
    rw [show cutTo (dg D) K K = dg D K by unfold cutTo; rw [if_neg (by omega)]] at hc
    have d0 := dg_nonneg D K
    have d1 := dg_le D K
    go_wp2
    have hltI : (K : Int) < 96 := by omega
    refine wp_region_still_tail 10 (by kernel_rfl) (by kernel_rfl) ?_
    change wpStill _ _ wr.drew _ _ _
    simp only [List.take_succ_cons, List.take_zero, List.drop_succ_cons, List.drop_zero]
    iterate 10 still_step
    refine wpStill_nil ?_
    change wpList _ _ _ _ _ wr.drew
    have hS : World.num (wr.setCell ⟨b, 1 + K, none⟩ (.int .i8 (dg D K + 1))) b s (fun j => if j = K then dg D K + 1 else cutTo (dg D) K j) false := World.num.set hn hlt _
    have hcS : (wr.setCell ⟨b, 1 + K, none⟩ (.int .i8 (dg D K + 1))).cell? ⟨b, 1 + K, none⟩ = some (.int .i8 (dg D K + 1)) := by rw [World.num.dig hS hlt, if_pos rfl]
    have hfS := hS.frozen (1 + K)
    by_cases h9 : dg D K = 9
    · have c1 : ¬ dg D K + 1 < 10 := by omega
      have hk9 := Lib.hid h9
      go_wp2_with fail
      go_roundw
      case rel =>
        refine ⟨K + 1, by go_num, by omega, by omega, ?_, ?_, ?_⟩
        · show _ = _; rw [HK.out, carry_nine D K hk9.out]
        · refine World.num.drew (World.num.congr (World.num.set (World.num.set hn hlt 10) hlt 0) (fun i _ => ?_))
          unfold cutTo
          by_cases e : i = K
          · rw [if_pos e, if_pos (by omega)]
          · rw [if_neg e, if_neg e]
            by_cases e2 : i < K
            · rw [if_pos e2, if_pos (by omega)]
            · rw [if_neg e2, if_neg (by omega)]
        · exact ⟨hg.os, hg.tape, hg.output, by simp; exact hg.size, fun j hj hne => ((heap_setCell_other _ _ j _ (fun e => hne (by rw [e]))).trans (heap_setCell_other _ _ j _ (fun e => hne (by rw [e])))).trans (hg.block j hj hne)⟩
      case measure => first | (simp [intOf]; done) | (simp [intOf]; omega)
    · have c1 : dg D K + 1 < 10 := by omega
      have h9 := Lib.hid h9
      go_wp2_with fail
      refine bodyPost_ret (results_none rfl _ _ _) rfl ?_
      refine ⟨rfl, World.num.drew (World.num.congr hS (fun i _ => ?_)), ?_⟩
      · rw [HK.out, dg_carry D K i h9.out]
      · exact ⟨hg.os, hg.tape, hg.output, by simp; exact hg.size, fun j hj hne => (heap_setCell_other _ _ j _ (fun e => hne (by rw [e]))).trans (hg.block j hj hne)⟩
end Go.Proofs.YtpkohfdebgiloaaDoor
