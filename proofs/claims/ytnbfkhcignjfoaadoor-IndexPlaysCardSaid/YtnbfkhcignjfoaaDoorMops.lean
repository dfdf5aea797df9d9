/- The map's operations, at the walk's operations. -/
import Derived.Test.YtnbfkhcignjfoaaDoorMp
namespace Go.Proofs.YtnbfkhcignjfoaaDoor
open Go Go.Maps Go.WideElems Go.MapKept Go.RowKit
open Go.ChangeMaps (setBlock)

section
variable {P : Program} (w : World) {ops : Array Oper} {rest : List Oper} {o : Oper} {a : Act} {Q : Exit → Act → World → Prop}
theorem wpList_mp_look (hg : o.guard = none) (m x : Operand) (t : TypeId) (hop : o.op = Op.lookup t m x false)
    (k e : TypeId) (K : Keyed P k) (ht : P.underlying t = some (.map k e)) (z : Value) (hz : (zeroValue e).run P w = .ok z w) (b c : Nat) (f : Value → Option Value)
    (hm : a.eval m = .map (some b)) (hown : World.mp w P k b f c) (key : Value) (kl : Lit) (hx : a.eval x = key) (hkey : keyOf P k key = some kl)
    (hK : wpList P ops Q rest (a.put o.dst ((f key).getD z)) w) : wpList P ops Q (o :: rest) a w := by
  refine wpList_plain hg fun K' hK' => ?_
  have hrun := hown.look K ht hz hkey false
  unfold Oper.wp
  simp [execOp, hop, hm, hx, hrun, Result.andThen]
  exact hK' _ _ hK
theorem wpList_mp_look_ok (hg : o.guard = none) (m x : Operand) (t : TypeId) (hop : o.op = Op.lookup t m x true)
    (k e : TypeId) (K : Keyed P k) (ht : P.underlying t = some (.map k e)) (z : Value) (hz : (zeroValue e).run P w = .ok z w) (b c : Nat) (f : Value → Option Value)
    (hm : a.eval m = .map (some b)) (hown : World.mp w P k b f c) (key : Value) (kl : Lit) (hx : a.eval x = key) (hkey : keyOf P k key = some kl)
    (hK : wpList P ops Q rest (a.put o.dst (.tuple #[(f key).getD z, .bool (f key).isSome])) w) : wpList P ops Q (o :: rest) a w := by
  refine wpList_plain hg fun K' hK' => ?_
  have hrun := hown.look K ht hz hkey true
  unfold Oper.wp
  simp [execOp, hop, hm, hx, hrun, Result.andThen]
  exact hK' _ _ hK
theorem wpList_mp_store (hg : o.guard = none) (m x v : Operand) (t : TypeId) (hop : o.op = Op.mapUpdate t m x v)
    (k e : TypeId) (K : Keyed P k) (ht : P.underlying t = some (.map k e)) (b c : Nat) (f : Value → Option Value)
    (hm : a.eval m = .map (some b)) (hown : World.mp w P k b f c) (hc : c < maxLen) (key val : Value) (kl : Lit) (hx : a.eval x = key) (hv : a.eval v = val) (hkey : keyOf P k key = some kl)
    (hK : ∀ w', World.mp w' P k b (upd f key (some val)) (if (f key).isSome then c else c + 1) → w.grownBy w' (some b) → w.heap.size = w'.heap.size → wpList P ops Q rest (a.put o.dst undef) w') : wpList P ops Q (o :: rest) a w := by
  refine wpList_plain hg fun K' hK' => ?_
  obtain ⟨es', clock', hrun, r1⟩ := hown.store K ht hc hkey val
  unfold Oper.wp
  simp [execOp, hop, hm, hx, hv, hrun, Result.andThen]
  exact hK' _ _ (hK _ r1 (setBlock_grown _ _ _) (by simp [setBlock]))
theorem wpList_mp_drop (hg : o.guard = none) (m x : Operand) (t k : TypeId) (hop : o.op = Op.call { callee := Callee.builtin Builtin.delete, args := #[m, x], argTypes := #[t, k] })
    (e : TypeId) (K : Keyed P k) (ht : P.underlying t = some (.map k e)) (b c : Nat) (f : Value → Option Value)
    (hm : a.eval m = .map (some b)) (hown : World.mp w P k b f c) (key : Value) (kl : Lit) (hx : a.eval x = key) (hkey : keyOf P k key = some kl)
    (hK : ∀ w', World.mp w' P k b (upd f key none) (if (f key).isSome then c - 1 else c) → w.grownBy w' (some b) → w.heap.size = w'.heap.size → wpList P ops Q rest (a.put o.dst (.tuple #[])) w') : wpList P ops Q (o :: rest) a w := by
  refine wpList_plain hg fun K' hK' => ?_
  obtain ⟨es', clock', hrun, r1⟩ := hown.drop K ht hkey o.type
  unfold Oper.wp
  simp [execOp, hop, resolve, invoke, builtin, hm, hx, hrun, Result.andThen]
  exact hK' _ _ (hK _ r1 (setBlock_grown _ _ _) (by simp [setBlock]))
theorem wpList_mp_len (hg : o.guard = none) (m : Operand) (t : TypeId) (hop : o.op = Op.call { callee := Callee.builtin Builtin.len, args := #[m], argTypes := #[t] })
    (k e : TypeId) (ht : P.underlying t = some (.map k e)) (b c : Nat) (f : Value → Option Value) (hm : a.eval m = .map (some b)) (hown : World.mp w P k b f c)
    (hK : wpList P ops Q rest (a.put o.dst (.int .i64 (c : Int))) w) : wpList P ops Q (o :: rest) a w := by
  refine wpList_plain hg fun K' hK' => ?_
  unfold Oper.wp
  simp [execOp, hop, resolve, invoke, builtin, hm, hown.len ht o.type, Result.andThen]
  exact hK' _ _ hK
/-- The map's block as the entry left it. -/
def MidMap (P : Program) (t k : TypeId) (b : Nat) (f : Value → Option Value) (c : Nat) (key : Value) (st : Nat) (o : Obj) : Prop :=
  ∀ (w2 : World) (val : Value), w2.heap[b]? = some o → ∃ es' clock', (Instr.entryStore t (.map (some b)) (goInt st) val).run P w2 = .ok () (setBlock w2 b (.map es' clock')) ∧ World.mp (setBlock w2 b (.map es' clock')) P k b (upd f key (some val)) (if (f key).isSome then c else c + 1)
theorem wpList_mp_entry (hg : o.guard = none) (m x : Operand) (t : TypeId) (hop : o.op = Op.mapEntry t m x)
    (k e : TypeId) (K : WideMaps.KeyLaw P k) (ht : P.underlying t = some (.map k e)) (z : Value) (hz : ∀ u : World, (zeroValue e).run P u = .ok z u) (b c : Nat) (f : Value → Option Value)
    (hm : a.eval m = .map (some b)) (hown : World.mp w P k b f c) (hc : c < maxLen) (key : Value) (kl : Lit) (hx : a.eval x = key) (hkey : keyOf P k key = some kl)
    (hK : ∀ st o' w', MidMap P t k b f c key st o' → w'.heap[b]? = some o' → w.grownBy w' (some b) → w.heap.size = w'.heap.size → wpList P ops Q rest (a.put o.dst (.tuple #[(f key).getD z, goInt st])) w') : wpList P ops Q (o :: rest) a w := by
  refine wpList_plain hg fun K' hK' => ?_
  obtain ⟨st, es1, clock1, hrun, hst⟩ := hown.entry K ht hc hz hkey
  unfold Oper.wp
  simp [execOp, hop, hm, hx, hrun, Result.andThen]
  exact hK' _ _ (hK st _ _ hst (setBlock_same hown.lt _) (setBlock_grown _ _ _) (by simp [setBlock]))
theorem wpList_mp_entryStore (hg : o.guard = none) (m x v : Operand) (t : TypeId) (hop : o.op = Op.entryStore t m x v)
    (k : TypeId) (b c : Nat) (f : Value → Option Value) (key : Value) (st : Nat) (ob : Obj) (hmid : MidMap P t k b f c key st ob)
    (hm : a.eval m = .map (some b)) (hx : a.eval x = goInt st) (val : Value) (hv : a.eval v = val) (hb : w.heap[b]? = some ob)
    (hK : ∀ w', World.mp w' P k b (upd f key (some val)) (if (f key).isSome then c else c + 1) → w.grownBy w' (some b) → w.heap.size = w'.heap.size → wpList P ops Q rest (a.put o.dst undef) w') : wpList P ops Q (o :: rest) a w := by
  refine wpList_plain hg fun K' hK' => ?_
  obtain ⟨es', clock', hrun, r1⟩ := hmid w val hb
  unfold Oper.wp
  simp [execOp, hop, hm, hx, hv, hrun, Result.andThen]
  exact hK' _ _ (hK _ r1 (setBlock_grown _ _ _) (by simp [setBlock]))
end
section
variable {F : Fence} {nF : Nat} {P : Program} (w : World) {ops : Array Oper} {rest : List Oper} {o : Oper} {a : Act} {Q : Exit → Act → World → Prop}
theorem wpListIn_mp_look (hg : o.guard = none) (m x : Operand) (t : TypeId) (hop : o.op = Op.lookup t m x false)
    (k e : TypeId) (K : Keyed P k) (ht : P.underlying t = some (.map k e)) (z : Value) (hz : (zeroValue e).run P w = .ok z w) (b c : Nat) (f : Value → Option Value)
    (hm : a.eval m = .map (some b)) (hown : World.mp w P k b f c) (key : Value) (kl : Lit) (hx : a.eval x = key) (hkey : keyOf P k key = some kl)
    (hK : wpListIn F nF P ops Q rest (a.put o.dst ((f key).getD z)) w) : wpListIn F nF P ops Q (o :: rest) a w := by
  refine wpListIn_plain hg fun K' hK' => ?_
  have hrun := hown.look K ht hz hkey false
  unfold Oper.wpIn
  refine ⟨by simp [Oper.about, hop], ?_⟩
  rw [Oper.semAt_plain F _ _ (by rw [hop]; intro c hc'; cases hc')]
  simp [execOp, hop, hm, hx, hrun, Result.andThen]
  exact hK' _ _ hK
theorem wpListIn_mp_store (hg : o.guard = none) (m x v : Operand) (t : TypeId) (hop : o.op = Op.mapUpdate t m x v)
    (k e : TypeId) (K : Keyed P k) (ht : P.underlying t = some (.map k e)) (b c : Nat) (f : Value → Option Value)
    (hm : a.eval m = .map (some b)) (hown : World.mp w P k b f c) (hc : c < maxLen) (key val : Value) (kl : Lit) (hx : a.eval x = key) (hv : a.eval v = val) (hkey : keyOf P k key = some kl)
    (hK : ∀ w', World.mp w' P k b (upd f key (some val)) (if (f key).isSome then c else c + 1) → w.grownBy w' (some b) → w.heap.size = w'.heap.size → wpListIn F nF P ops Q rest (a.put o.dst undef) w') : wpListIn F nF P ops Q (o :: rest) a w := by
  refine wpListIn_plain hg fun K' hK' => ?_
  obtain ⟨es', clock', hrun, r1⟩ := hown.store K ht hc hkey val
  unfold Oper.wpIn
  refine ⟨by simp [Oper.about, hop], ?_⟩
  rw [Oper.semAt_plain F _ _ (by rw [hop]; intro c hc'; cases hc')]
  simp [execOp, hop, hm, hx, hv, hrun, Result.andThen]
  exact hK' _ _ (hK _ r1 (setBlock_grown _ _ _) (by simp [setBlock]))
end
end Go.Proofs.YtnbfkhcignjfoaaDoor
