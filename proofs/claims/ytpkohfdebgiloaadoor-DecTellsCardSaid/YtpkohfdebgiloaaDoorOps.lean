/- Laws for single operations: an alloc and a store of a number. -/
import Derived.Test.YtpkohfdebgiloaaDoorFloor
import Derived.Deep.RegionHeld3
namespace Go.Proofs.YtpkohfdebgiloaaDoor
open Go.RowKit Go.Shelf
section
variable {o : Oper} {a : Act} {w : World} {K : Act → World → Prop} {Q : Exit → Act → World → Prop}
theorem op_alloc56 (ho : o.op = .alloc 56) (h : K (a.put o.dst (.pointer (some ⟨w.heap.size, 0, none⟩))) (w.alloc (.cells (numF false z96 false) 56))) : o.wp Tryd.prog a w K Q := by
  have hz := zero56 w
  unfold Oper.wp execOp
  simp [ho, Instr.alloc, Sem.run_bind, hz, newVar, newRow, newObj, Value.cells]
  exact h
theorem op_store56 {x y : Operand} {g : Nat} {s s' : Bool} {f f' : Nat → Int} {m m' : Bool} (ho : o.op = .store 56 x y) (hx : a.eval x = .pointer (some ⟨g, 0, none⟩)) (hy : a.eval y = .agg (numF s' f' m'))
    (hn : World.num w g s f m) (h : ∀ w1, World.num w1 g s' f' m' → w.grownBy w1 (some g) → w1.heap.size = w.heap.size → K (a.put o.dst undef) w1) : o.wp Tryd.prog a w K Q :=
  wp_store_row 56 x y ho g _ hx hy 56 _ hn (info56' s' f' m') (by rw [numF_size, numF_size]) (numF_one _ _ _) (h _ (World.num.setRow hn _ _) (setRow_grownBy _ _ _) (by simp))
end
end Go.Proofs.YtpkohfdebgiloaaDoor
