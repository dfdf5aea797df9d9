/- Three values side by side in one block: made, laid, loaded and stored one by one. -/
import Derived.Test.YtkhohjdakcchdaaGreatDoorUni
import Derived.Laws.CopyRow
namespace Go.Proofs.YtkhohjdakcchdaaGreatDoor
open Go Go.RowKit Go.Shelf

theorem info54v : (Tryz.prog.info? 54).map (·.size) = some 36 := by kernel_rfl
def vz3 : Array Value := (vz ++ vz ++ vz)
theorem zero54 (w : World) : (zeroValue 54).run Tryz.prog w = .ok (.agg vz3) w := by kernel_rfl
theorem list12 {cs : List Value} (h : cs.length = 12) : ∃ a b c d e f g i j k l m, cs = [a, b, c, d, e, f, g, i, j, k, l, m] := by
  match cs, h with
  | [a, b, c, d, e, f, g, i, j, k, l, m], _ => exact ⟨a, b, c, d, e, f, g, i, j, k, l, m, rfl⟩
theorem arr12 {C : Array Value} (h : C.size = 12) : ∃ a b c d e f g i j k l m, C = #[a, b, c, d, e, f, g, i, j, k, l, m] := by
  obtain ⟨l⟩ := C
  obtain ⟨a, b, c, d, e, f, g, i, j, k, l, m, rfl⟩ := list12 (cs := l) h
  exact ⟨a, b, c, d, e, f, g, i, j, k, l, m, rfl⟩
theorem World.blk.alloc {w : World} {g t : Nat} {cs : Array Value} (h : World.blk w g t cs) (o : Obj) : World.blk (w.alloc o) g t cs := by unfold World.blk; rw [heap_alloc_old w o h.lt]; exact h
theorem World.blk.grown {w w' : World} {g t : Nat} {cs : Array Value} {row : Option Nat} (h : World.blk w g t cs) (hg : w.grownBy w' row) (hne : some g ≠ row) : World.blk w' g t cs := by unfold World.blk; rw [hg.block g h.lt hne]; exact h
theorem World.blk.drew {w : World} {g t : Nat} {cs : Array Value} (h : World.blk w g t cs) : World.blk w.drew g t cs := h
theorem World.blk.cell0 {w : World} {g t : Nat} {cs : Array Value} (h : World.blk w g t cs) : ∀ j u, cs[j]? = some u → w.cell? ⟨g, 0 + j, none⟩ = some u := fun j u hj => by rw [Nat.zero_add]; exact h.cell hj
/-- Three values' cells. -/
def tri3 (C : Nat → Array Value) : Array Value := C 0 ++ C 1 ++ C 2
set_option maxRecDepth 100000 in
theorem build54 {C : Nat → Array Value} (h0 : (C 0).size = 12) (h1 : (C 1).size = 12) (h2 : (C 2).size = 12) (w : World) :
    (Instr.build 54 #[(0, .agg (C 0)), (1, .agg (C 1)), (2, .agg (C 2))]).run Tryz.prog w = .ok (.agg (tri3 C)) w := by
  unfold tri3
  obtain ⟨a, b, c, d, e, f, g, i, j, k, l, m, e0⟩ := arr12 h0
  obtain ⟨a', b', c', d', e', f', g', i', j', k', l', m', e1⟩ := arr12 h1
  obtain ⟨a2, b2, c2, d2, e2, f2, g2, i2, j2, k2, l2, m2, e3⟩ := arr12 h2
  rw [e0, e1, e3]
  kernel_rfl
theorem tri3_size {C : Nat → Array Value} (h : ∀ K, K < 3 → (C K).size = 12) : (tri3 C).size = 36 := by
  unfold tri3
  rw [Array.size_append, Array.size_append, h 0 (by decide), h 1 (by decide), h 2 (by decide)]
theorem tri3_at {C : Nat → Array Value} (h : ∀ K, K < 3 → (C K).size = 12) {K j : Nat} {u : Value} (hK : K < 3) (hj : (C K)[j]? = some u) : (tri3 C)[K * 12 + j]? = some u := by
  have hlt : j < 12 := by rw [← h K hK]; exact (Array.getElem?_eq_some_iff.1 hj).1
  have a0 := h 0 (by decide)
  have a1 := h 1 (by decide)
  unfold tri3
  rw [Array.getElem?_append, Array.getElem?_append, Array.size_append, a0, a1]
  match K, hK with
  | 0, _ => rw [if_pos (by omega), if_pos (by omega), Nat.zero_mul, Nat.zero_add]; exact hj
  | 1, _ => rw [if_pos (by omega), if_neg (by omega), show 1 * 12 + j - 12 = j by omega]; exact hj
  | 2, _ => rw [if_neg (by omega), show 2 * 12 + j - (12 + 12) = j by omega]; exact hj
/-- The K-th turned into another one. -/
def upd (C : Nat → Array Value) (K : Nat) (c : Array Value) : Nat → Array Value := fun i => if i = K then c else C i
theorem upd_size {C : Nat → Array Value} (h : ∀ K, K < 3 → (C K).size = 12) {K : Nat} {c : Array Value} (hc : c.size = 12) : ∀ i, i < 3 → (upd C K c i).size = 12 := fun i hi => by
  unfold upd; split
  · exact hc
  · exact h i hi
theorem tri3_upd {C : Nat → Array Value} (h : ∀ K, K < 3 → (C K).size = 12) {K : Nat} (hK : K < 3) {c : Array Value} (hc : c.size = 12) :
    ((tri3 C).toList.take (K * 12) ++ c.toList ++ (tri3 C).toList.drop (K * 12 + c.toList.length)).toArray = tri3 (upd C K c) := by
  have a0 := h 0 (by decide)
  have a1 := h 1 (by decide)
  have a2 := h 2 (by decide)
  unfold tri3 upd
  apply Array.toList_inj.1
  have e0 : (C 0).toList.length = 12 := a0
  have e1 : (C 1).toList.length = 12 := a1
  have e2 : (C 2).toList.length = 12 := a2
  have ec : c.toList.length = 12 := hc
  simp only [Array.toList_append, ec]
  obtain ⟨l0, g0⟩ : ∃ l, (C 0).toList = l := ⟨_, rfl⟩
  obtain ⟨l1, g1⟩ : ∃ l, (C 1).toList = l := ⟨_, rfl⟩
  obtain ⟨l2, g2⟩ : ∃ l, (C 2).toList = l := ⟨_, rfl⟩
  rw [g0] at e0
  rw [g1] at e1
  rw [g2] at e2
  rw [g0, g1, g2]
  match K, hK with
  | 0, _ =>
    have : List.drop (0 * 12 + 12) (l0 ++ l1 ++ l2) = l1 ++ l2 := by
      rw [List.append_assoc, List.drop_append_of_le_length (by omega), List.drop_of_length_le (by omega), List.nil_append]
    rw [this, Nat.zero_mul, List.take_zero]
    simp [g1, g2]
  | 1, _ =>
    have : List.drop (1 * 12 + 12) (l0 ++ l1 ++ l2) = l2 := by
      rw [List.drop_append, List.drop_of_length_le (by simp; omega), List.length_append, show 1 * 12 + 12 - (l0.length + l1.length) = 0 by omega]; rfl
    have t : List.take (1 * 12) (l0 ++ l1 ++ l2) = l0 := by
      rw [List.append_assoc, List.take_append_of_le_length (by omega), List.take_of_length_le (by omega)]
    rw [this, t]
    simp [g0, g2]
  | 2, _ =>
    have : List.drop (2 * 12 + 12) (l0 ++ l1 ++ l2) = [] := List.drop_of_length_le (by simp; omega)
    have t : List.take (2 * 12) (l0 ++ l1 ++ l2) = l0 ++ l1 := by
      rw [List.take_append_of_le_length (by simp; omega), List.take_of_length_le (by simp; omega)]
    rw [this, t]
    simp [g0, g1]
theorem tri3_one {C : Nat → Array Value} (h : ∀ K, K < 3 → OneC (C K)) : (tri3 C).all (·.oneCell') = true := by
  unfold tri3
  rw [Array.all_append, Array.all_append, (h 0 (by decide)).2, (h 1 (by decide)).2, (h 2 (by decide)).2]; rfl
section
variable {ops : Array Oper} {rest : List Oper} {o : Oper} {a : Act} {w : World} {K : Act → World → Prop} {Q : Exit → Act → World → Prop}
theorem op_alloc54 (ho : o.op = .alloc 54) (h : ∀ w1, World.blk w1 w.heap.size 54 vz3 → Below w.heap.size w w1 → w1.heap.size = w.heap.size + 1 → K (a.put o.dst (.pointer (some ⟨w.heap.size, 0, none⟩))) w1) : o.wp Tryz.prog a w K Q := by
  have hz := zero54 w
  unfold Oper.wp execOp
  simp [ho, Instr.alloc, Sem.run_bind, hz, newVar, newRow, newObj, Value.cells]
  exact h _ (blk_new _ _ _) ((Below.refl _ w).alloc (Nat.le_refl _) _) (by simp)
theorem op_store54 {x y : Operand} {g : Nat} {cs cs' : Array Value} (ho : o.op = .store 54 x y) (hx : a.eval x = .pointer (some ⟨g, 0, none⟩)) (hy : a.eval y = .agg cs')
    (hn : World.blk w g 54 cs) (hs : cs.size = 36) (hs' : cs'.size = 36) (h1 : cs'.all (·.oneCell') = true) (h : ∀ w1, World.blk w1 g 54 cs' → w.grownBy w1 (some g) → w1.heap.size = w.heap.size → K (a.put o.dst undef) w1) : o.wp Tryz.prog a w K Q :=
  wp_store_row 54 x y ho g _ hx hy 54 _ hn (by rw [hs']; exact info54v) (by rw [hs, hs']) h1 (h _ (setRow_heap w g _ _ 54 _ hn) (setRow_grownBy _ _ _) (by simp))
theorem op_build54 {x y z : Operand} {C : Nat → Array Value} (ho : o.op = .build 54 #[(0, x), (1, y), (2, z)]) (hx : a.eval x = .agg (C 0)) (hy : a.eval y = .agg (C 1)) (hz : a.eval z = .agg (C 2)) (hC : ∀ K, K < 3 → (C K).size = 12)
    (h : K (a.put o.dst (.agg (tri3 C))) w) : o.wp Tryz.prog a w K Q := by
  have hb := build54 (hC 0 (by decide)) (hC 1 (by decide)) (hC 2 (by decide)) w
  unfold Oper.wp execOp
  simp [ho, hx, hy, hz, hb]
  exact h
theorem run_store3 (w : World) (g : Nat) (C : Nat → Array Value) (k : Nat) (c : Array Value) (hk : k < 3) (hn : World.blk w g 54 (tri3 C)) (hC : ∀ K, K < 3 → (C K).size = 12) (h1 : OneC c) :
    (storeVar 34 ⟨g, k * 12, none⟩ (.agg c)).run Tryz.prog w = .ok () (w.setRow g (tri3 (upd C k c))) := by
  have := run_storeCells_at Tryz.prog g (k * 12) 54 c.toList 0 (tri3 C) w hn (by rw [tri3_size hC, Array.length_toList, h1.1]; omega) (fun v hv => (Array.all_eq_true_iff_forall_mem.1 h1.2) v (by simpa using hv))
  rw [Nat.add_zero, tri3_upd hC hk h1.1] at this
  have hi := info34
  cases hq : Tryz.prog.info? 34 with
  | none => simp [hq] at hi
  | some i =>
    have hs : c.size = i.size := by simp [hq] at hi; rw [h1.1]; omega
    simp [storeVar, sizeOf, typeInfo, hq, Value.cells, hs, this]
theorem op_store3 {x y : Operand} {g k : Nat} {C : Nat → Array Value} {c : Array Value} (ho : o.op = .store 34 x y) (hx : a.eval x = .pointer (some ⟨g, k * 12, none⟩)) (hy : a.eval y = .agg c) (hk : k < 3)
    (hn : World.blk w g 54 (tri3 C)) (hC : ∀ K, K < 3 → (C K).size = 12) (h1 : OneC c) (h : ∀ w1, World.blk w1 g 54 (tri3 (upd C k c)) → w.grownBy w1 (some g) → w1.heap.size = w.heap.size → K (a.put o.dst undef) w1) : o.wp Tryz.prog a w K Q := by
  unfold Oper.wp execOp
  simp only [ho, hx, hy, Instr.storeAt, Instr.sureAddr, Sem.run_bind, Sem.run_pure, Result.andThen_ok, run_store3 w g C k c hk hn hC h1]
  exact h _ (setRow_heap w g _ _ 54 _ hn) (setRow_grownBy _ _ _) (by simp)
theorem wpList_load34atg {x : Operand} {g off : Nat} {cs : Array Value} (hw : Region.wanted o (yielded ops a.tmps) = true) (ho : o.op = .load 34 x) (hx : a.eval x = .pointer (some ⟨g, off, none⟩)) (hs : cs.size = 12)
    (hc : ∀ j u, cs[j]? = some u → w.cell? ⟨g, off + j, none⟩ = some u) (h : wpList Tryz.prog ops Q rest (a.put o.dst (.agg cs)) w) : wpList Tryz.prog ops Q (o :: rest) a w :=
  wpList_on hw fun _ hK => op_load34at ho hx hs hc (hK _ _ h)
end
theorem World.blk.el {w : World} {g : Nat} {C : Nat → Array Value} (h : World.blk w g 54 (tri3 C)) (hC : ∀ K, K < 3 → (C K).size = 12) {k : Nat} (hk : k < 3) {j : Nat} {u : Value} (hj : (C k)[j]? = some u) : w.cell? ⟨g, k * 12 + j, none⟩ = some u := h.cell (tri3_at hC hk hj)
/-- A plain value, or an array with its own cells, all in blocks from base on. -/
def In3 (w : World) (base : Nat) (x : Vl) (C : Array Value) : Prop :=
  (plainV x = true ∧ C = pcs x) ∨ ∃ r c l L, x = arrV r c l ∧ rightV 1 (arrV r c l) = true ∧ C = vcs (arrV r c l) L nilS nilS ∧ World.vr w base L l
theorem In3.below {w W : World} {base : Nat} {x : Vl} {C : Array Value} (h : In3 w base x C) (hb : Below w.heap.size w W) : In3 W base x C := by
  rcases h with h | ⟨r, c, l, L, h1, h2, h3, h4⟩
  · exact .inl h
  · exact .inr ⟨r, c, l, L, h1, h2, h3, h4.below hb⟩
theorem In3.grown {w W : World} {base g : Nat} {x : Vl} {C : Array Value} (h : In3 w base x C) (hg : w.grownBy W (some g)) (hlt : g < base) : In3 W base x C := by
  rcases h with h | ⟨r, c, l, L, h1, h2, h3, h4⟩
  · exact .inl h
  · exact .inr ⟨r, c, l, L, h1, h2, h3, h4.grown hg hlt⟩
theorem In3.at {w : World} {base : Nat} {x : Vl} {C : Array Value} (h : In3 w base x C) : At x C w := by
  rcases h with ⟨h, rfl⟩ | ⟨r, c, l, L, rfl, h2, rfl, h4⟩
  · exact at_plain h
  · exact ⟨rp_of_vr h4 h2 (Nat.le_refl _), vr_one h4, .inr ⟨rfl, h2⟩⟩
theorem In3.one {w : World} {base : Nat} {x : Vl} {C : Array Value} (h : In3 w base x C) : OneC C := h.at.one
theorem In3.arrP {w : World} {base : Nat} {x : Vl} {C : Array Value} (h : In3 w base x C) : ArrP x := h.at.2.2
theorem In3.hands {w w' : World} {base : Nat} {r c : Int} {l : List Vl} {e : Ending} (hb : base ≤ w.heap.size) (hr : rightV 1 (arrV r c l) = true) (h : HandsA r c l w e w') : ∃ C, e = .returned (.agg C) ∧ In3 w' base (arrV r c l) C ∧ Below w.heap.size w w' := by
  obtain ⟨L, he, hv, hB⟩ := h
  exact ⟨_, he, .inr ⟨r, c, l, L, rfl, hr, rfl, hv.mono hb⟩, hB⟩
theorem tri_ex (x0 x1 x2 : Vl) (P0 : plainV x0 = true) (P1 : plainV x1 = true) (P2 : plainV x2 = true) : ∃ (C : Nat → Array Value) (X : Nat → Vl), pcs x0 = C 0 ∧ pcs x1 = C 1 ∧ pcs x2 = C 2 ∧ (∀ K, plainV (X K) = true ∧ C K = pcs (X K)) := by
  refine ⟨fun i => if i = 0 then pcs x0 else if i = 1 then pcs x1 else pcs x2, fun i => if i = 0 then x0 else if i = 1 then x1 else x2, rfl, rfl, rfl, fun K => ?_⟩
  dsimp only
  split
  · exact ⟨P0, rfl⟩
  split
  · exact ⟨P1, rfl⟩
  · exact ⟨P2, rfl⟩
theorem plain_kr {x : Vl} (h : plainV x = true) : 0 ≤ x.k ∧ x.k ≤ 4 := by
  rcases plain_cases h with e | ⟨p, e, hr⟩ | ⟨s, e, hs⟩ | ⟨b, e⟩ | ⟨n, e, _⟩ <;> subst e
  · exact ⟨Int.le_refl _, by decide⟩
  · show (0 : Int) ≤ 1 ∧ (1 : Int) ≤ 4
    decide
  · show (0 : Int) ≤ 2 ∧ (2 : Int) ≤ 4
    decide
  · show (0 : Int) ≤ 3 ∧ (3 : Int) ≤ 4
    decide
  · show (0 : Int) ≤ 4 ∧ (4 : Int) ≤ 4
    decide
theorem plain_er {x : Vl} (h : plainV x = true) : 0 ≤ x.err ∧ x.err ≤ 9 := by
  rcases plain_cases h with e | ⟨p, e, hr⟩ | ⟨s, e, hs⟩ | ⟨b, e⟩ | ⟨n, e, hn⟩ <;> subst e
  · show (0 : Int) ≤ 0 ∧ (0 : Int) ≤ 9
    decide
  · show (0 : Int) ≤ 0 ∧ (0 : Int) ≤ 9
    decide
  · show (0 : Int) ≤ 0 ∧ (0 : Int) ≤ 9
    decide
  · show (0 : Int) ≤ 0 ∧ (0 : Int) ≤ 9
    decide
  · show 0 ≤ n ∧ n ≤ 9
    omega
theorem val12p {z : Rw} {w : World} (hz : RwOk z) : Calls Tryz.prog 12 #[.agg z.c] w (Gives (.agg (pcs z.v)) w) := val_any z.k z.m z.e z.s z.b w hz.k hz.m hz.e hz.s
theorem RawsAt.drop {w : World} {B : Nat} {p : Option Addr} {n c : Nat} {zs : List Rw} (h : RawsAt w B (.slice p n c) zs) (d : Nat) (hd : d ≤ zs.length) {p' : Option Addr} {n' c' : Nat}
    (hp : d < zs.length → ∀ g off, p = some ⟨g, off, none⟩ → p' = some ⟨g, off + d * 5, none⟩) (hn : n' = zs.length - d) : RawsAt w B (.slice p' n' c') (zs.drop d) := by
  obtain ⟨q, k, e, hl, H⟩ := h
  injection e with e1 e2 e3
  subst e1
  refine ⟨p', c', by rw [List.length_drop, hn], by rw [List.length_drop]; omega, fun i z hz => ?_⟩
  have hlt : i < (zs.drop d).length := (List.getElem?_eq_some_iff.1 hz).1
  rw [List.length_drop] at hlt
  rw [List.getElem?_drop] at hz
  obtain ⟨hok, g, off, e, hg, hc⟩ := H (d + i) z hz
  refine ⟨hok, g, off + d * 5, hp (by omega) g off e, hg, fun j u hj => ?_⟩
  have := hc j u hj
  rw [← this]
  congr 2
  omega
theorem slice_raws {B : Nat} {v : Value} {zs : List Rw} {W0 : World} (hR : RawsAt W0 B v zs) (hcap : ∀ p n c, v = .slice p n c → n ≤ c) (d : Nat) (hd : d ≤ zs.length) :
    ∃ v', (∀ W, (Instr.slice 26 v (some (.int .i64 (d : Int))) none none).run Tryz.prog W = .ok v' W) ∧ ∀ W, RawsAt W B v zs → RawsAt W B v' (zs.drop d) := by
  obtain ⟨p, c, rfl, hl, _⟩ := hR
  have hc := hcap _ _ _ rfl
  refine ⟨.slice (if c = d then p else p.map (·.add (d * 5))) (zs.length - d) (c - d), fun W => ?_, fun W h => h.drop d hd (fun hlt g off e => ?_) rfl⟩
  · have h1 := run_slice_l (P := Tryz.prog) (w := W) 26 p zs.length c (by kernel_rfl) .i64 (d : Int) (by omega) (by omega)
    have h2 : (sizeOf (Tryz.prog.elem 26)).run Tryz.prog W = .ok 5 W := by kernel_rfl
    rw [h1, h2]
    rfl
  · rw [if_neg (by omega), e]
    show some (Addr.add _ _) = _
    rw [add_at]
theorem min_nat (K n : Nat) : min (K : Int) (n : Int) = ((min K n : Nat) : Int) := by omega
theorem len_raws {B : Nat} {v : Value} {zs : List Rw} {W0 : World} (hR : RawsAt W0 B v zs) (W : World) : (Builtin.len_ #[26] 3 #[v]).run Tryz.prog W = .ok (.int .i64 (zs.length : Int)) W := by
  obtain ⟨p, c, rfl, _, _⟩ := hR
  kernel_rfl
end Go.Proofs.YtkhohjdakcchdaaGreatDoor
