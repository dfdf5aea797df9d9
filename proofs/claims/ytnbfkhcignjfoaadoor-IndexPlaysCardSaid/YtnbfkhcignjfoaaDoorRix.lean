/- The reference's index in memory: a row of items. -/
import Derived.Test.YtnbfkhcignjfoaaDoorTwin
import Derived.Laws.OwnMore
import Derived.Deep.AppendLies
import Derived.Deep.Draws
import Derived.RegionTactic
import Derived.OwnWalk
import Derived.Maps.AppendAt
namespace Go.Proofs.YtnbfkhcignjfoaaDoor
open Go Go.RowKit Go.Maps

theorem block_of_add (a : Addr) (n : Nat) : (a.add n).block = a.block := by unfold Addr.add; split <;> rfl
theorem add_of_add (a : Addr) (i j : Nat) : (a.add i).add j = a.add (i + j) := by
  unfold Addr.add
  by_cases hi : i = 0 <;> by_cases hj : j = 0 <;> simp [hi, hj, Nat.add_assoc]

def Reads (w : World) (B size : Nat) (A : Option Addr) (n : Nat) (xs : List Value) : Prop :=
  xs.length = n * size ∧ (0 < n → ∃ ad, A = some ad ∧ ad.block < B ∧ ∀ j u, xs[j]? = some u → w.cell? (ad.add j) = some u)

section
variable {w w' : World} {B B' size n : Nat} {A : Option Addr} {xs : List Value}
theorem Reads.none_ : Reads w B size A 0 [] := ⟨by simp, fun h => absurd h (by omega)⟩
theorem Reads.at_ {k : Nat} (h : Reads w B 1 A n xs) (hk : k < n) : ∃ ad u, A = some ad ∧ ad.block < B ∧ xs[k]? = some u ∧ w.cell? (ad.add k) = some u := by
  obtain ⟨ad, e, hb, hc⟩ := h.2 (by omega)
  have hl : k < xs.length := by have := h.1; omega
  exact ⟨ad, xs[k], e, hb, List.getElem?_eq_getElem hl, hc k _ (List.getElem?_eq_getElem hl)⟩
theorem Reads.keep (h : Reads w B size A n xs) (hk : ∀ p : Addr, p.block < B → w'.cell? p = w.cell? p) : Reads w' B size A n xs :=
  ⟨h.1, fun hn => by
    obtain ⟨ad, e, hb, hc⟩ := h.2 hn
    exact ⟨ad, e, hb, fun j u hu => (hk _ (by rw [block_of_add]; exact hb)).trans (hc j u hu)⟩⟩
theorem Reads.more (h : Reads w B size A n xs) (hB : B ≤ B') : Reads w B' size A n xs :=
  ⟨h.1, fun hn => by
    obtain ⟨ad, e, hb, hc⟩ := h.2 hn
    exact ⟨ad, e, by omega, hc⟩⟩
theorem Reads.below (h : Reads w B size A n xs) (hb : Below B w w') : Reads w' B size A n xs := h.keep fun _ hp => hb.cell hp
theorem Reads.drew (h : Reads w B size A n xs) : Reads w.drew B size A n xs := h
theorem Reads.drewN (h : Reads w B size A n xs) (k : Nat) : Reads (w.drewN k) B size A n xs := h
theorem Reads.alloc (h : Reads w B size A n xs) (hB : B ≤ w.heap.size) (o : Obj) : Reads (w.alloc o) B size A n xs := h.keep fun p hp => World.cell?_alloc_lt w o p (by omega)
theorem Reads.setCell (h : Reads w B size A n xs) {p : Addr} (hB : B ≤ p.block) (u : Value) : Reads (w.setCell p u) B size A n xs :=
  h.keep fun q hq => World.cell?_setCell_other w p q u (fun e => by subst e; omega)
theorem Reads.grown (h : Reads w B size A n xs) {row : Option Nat} (hg : w.grownBy w' row) (hB : B ≤ w.heap.size) (hr : ∀ g, row = some g → B ≤ g) : Reads w' B size A n xs :=
  h.keep fun p hp => World.cell?_of_block (hg.block p.block (by omega) (fun e => by have := hr _ e.symm; omega))
theorem Reads.cut (h : Reads w B size A n xs) {k cap : Nat} (hk : k ≤ n) (hc : n ≤ cap) :
    Reads w B size (if cap = k then A else A.map (·.add (k * size))) (n - k) (xs.drop (k * size)) := by
  refine ⟨by rw [List.length_drop, h.1, Nat.sub_mul], fun hn => ?_⟩
  obtain ⟨ad, rfl, hb, hcell⟩ := h.2 (by omega)
  rw [if_neg (by omega)]
  refine ⟨ad.add (k * size), rfl, by rw [block_of_add]; exact hb, fun j u hu => ?_⟩
  rw [add_of_add]
  exact hcell _ u (by rw [← hu, List.getElem?_drop])
theorem Reads.of_own {base : Nat} {e : TypeId} {c : Nat} (h : w.ownsRow base e size (.slice A n c) n xs) : Reads w w.heap.size size A n xs := by
  refine ⟨h.1, fun hn => ?_⟩
  obtain ⟨g, cap, hv, _, hlt⟩ := h.form hn
  have hA : A = some ⟨g, 0, none⟩ := by injection hv
  subst hA
  exact ⟨_, rfl, hlt, h.cells (g := g) rfl⟩
end

section
variable {P : Program} (w : World)

theorem run_append_of_nil (base : Nat) (t ty e : TypeId) (i : TypeInfo) (size : Nat) (ht : P.underlying t = some (.slice e)) (hi : P.info? e = some i)
    (v : Value) (n : Nat) (xs : List Value) (hown : w.ownsRow base e size v n xs) (c : Nat) : (Builtin.append_ #[t, t] ty #[v, .slice none 0 c]).run P w = .ok v w := by
  rcases hown.2 with ⟨rfl, rfl⟩ | ⟨g, cap, cur, rfl, _, _, hnc, _⟩
  · simp [Builtin.append_, run_underlying ht, sizeOf, typeInfo, hi, Builtin.lenOf, Builtin.firstCells]
  · simp [Builtin.append_, run_underlying ht, sizeOf, typeInfo, hi, Builtin.lenOf, Builtin.firstCells, hnc, storeCells]

theorem run_append_any (base : Nat) (t ty e : TypeId) (i : TypeInfo) (z : Value) (size bytes : Nat) (ht : P.underlying t = some (.slice e)) (hi : P.info? e = some i) (hz : i.zero = some z)
    (hsize : i.size = size) (hby : i.bytes = bytes) (hzs : z.cells.size = size) (hsz : 0 < size)
    (v : Value) (n : Nat) (xs : List Value) (hown : w.ownsRow base e size v n xs)
    (B : Nat) (A : Option Addr) (m c : Nat) (news : List Value) (hr : Reads w B size A m news) (h1 : ∀ u ∈ news, u.oneCell' = true)
    (h63 : n + m ≤ maxLen) (hbytes : (n + m) * bytes ≤ 140737488355328) (hbase : base ≤ w.heap.size) :
    ∃ v' w', (Builtin.append_ #[t, t] ty #[v, .slice A m c]).run P w = .ok v' w' ∧ w'.ownsRow base e size v' (n + m) (xs ++ news) ∧ w.grownBy w' v.ownBlock ∧
      (v'.ownBlock = v.ownBlock ∨ v'.ownBlock = some w.heap.size) := by
  rcases A with _ | ad
  · have hm : m = 0 := by
      rcases Nat.eq_zero_or_pos m with h0 | h0
      · exact h0
      · obtain ⟨ad, h, _⟩ := hr.2 h0
        cases h
    subst hm
    have hn : news = [] := List.eq_nil_of_length_eq_zero (by simpa using hr.1)
    subst hn
    exact ⟨v, w, run_append_of_nil w base t ty e i size ht hi v n xs hown c, by simpa using hown, World.grownBy.refl w _, .inl rfl⟩
  · have hcells : ∀ j u, news[j]? = some u → w.cell? (ad.add j) = some u := by
      intro j u hu
      rcases Nat.eq_zero_or_pos m with h0 | h0
      · subst h0
        have hn : news = [] := List.eq_nil_of_length_eq_zero (by simpa using hr.1)
        subst hn
        simp at hu
      · obtain ⟨ad', h, _, hc⟩ := hr.2 h0
        injection h with h
        subst h
        exact hc j u hu
    obtain ⟨v', w', hrun, h2, h3, _, h5⟩ := run_append_own_at (P := P) w base t ty e i z size bytes ht hi hz hsize hby hzs hsz v n xs hown ad m c news hr.1 hcells h1 h63 hbytes hbase
    exact ⟨v', w', hrun, h2, h3, h5⟩

theorem wp_append_any {o : Oper} {a : Act} {K : Act → World → Prop} {Q : Exit → Act → World → Prop} (s x : Operand) (t : TypeId)
    (ho : o.op = .call { callee := .builtin .append, args := #[s, x], argTypes := #[t, t] })
    (base : Nat) (e : TypeId) (i : TypeInfo) (z : Value) (size bytes : Nat) (ht : P.underlying t = some (.slice e)) (hi : P.info? e = some i) (hz : i.zero = some z)
    (hsize : i.size = size) (hby : i.bytes = bytes) (hzs : z.cells.size = size) (hsz : 0 < size)
    (v : Value) (n : Nat) (xs : List Value) (hs : a.eval s = v) (hown : w.ownsRow base e size v n xs)
    (B : Nat) (A : Option Addr) (m c : Nat) (news : List Value) (hx : a.eval x = .slice A m c) (hr : Reads w B size A m news) (h1 : ∀ u ∈ news, u.oneCell' = true)
    (h63 : n + m ≤ maxLen) (hbytes : (n + m) * bytes ≤ 140737488355328) (hbase : base ≤ w.heap.size)
    (h : ∀ v' w', w'.ownsRow base e size v' (n + m) (xs ++ news) → w.grownBy w' v.ownBlock → (v'.ownBlock = v.ownBlock ∨ v'.ownBlock = some w.heap.size) → K (a.put o.dst v') w') : o.wp P a w K Q := by
  obtain ⟨v', w', hrun, h2, h3, h4⟩ := run_append_any (P := P) w base t o.type e i z size bytes ht hi hz hsize hby hzs hsz v n xs hown B A m c news hr h1 h63 hbytes hbase
  unfold Oper.wp execOp
  simp only [ho, resolve, invoke, builtin, Sem.run_bind, Sem.run_pure, Result.andThen_ok, List.map_toArray, List.map_cons, List.map_nil, hs, hx, hrun]
  exact h v' w' h2 h3 h4

theorem wpList_append_any {ops : Array Oper} {rest : List Oper} {o : Oper} {a : Act} {Q : Exit → Act → World → Prop} (hgd : o.guard = none) (s x : Operand) (t : TypeId)
    (ho : o.op = .call { callee := .builtin .append, args := #[s, x], argTypes := #[t, t] })
    (base : Nat) (e : TypeId) (i : TypeInfo) (z : Value) (size bytes : Nat) (ht : P.underlying t = some (.slice e)) (hi : P.info? e = some i) (hz : i.zero = some z)
    (hsize : i.size = size) (hby : i.bytes = bytes) (hzs : z.cells.size = size) (hsz : 0 < size)
    (v : Value) (n : Nat) (xs : List Value) (hs : a.eval s = v) (hown : w.ownsRow base e size v n xs)
    (B : Nat) (A : Option Addr) (m c : Nat) (news : List Value) (hx : a.eval x = .slice A m c) (hr : Reads w B size A m news) (h1 : ∀ u ∈ news, u.oneCell' = true)
    (h63 : n + m ≤ maxLen) (hbytes : (n + m) * bytes ≤ 140737488355328) (hbase : base ≤ w.heap.size)
    (h : ∀ v' w', w'.ownsRow base e size v' (n + m) (xs ++ news) → w.grownBy w' v.ownBlock → (v'.ownBlock = v.ownBlock ∨ v'.ownBlock = some w.heap.size) → wpList P ops Q rest (a.put o.dst v') w') : wpList P ops Q (o :: rest) a w :=
  wpList_plain hgd fun _ hK => wp_append_any w s x t ho base e i z size bytes ht hi hz hsize hby hzs hsz v n xs hs hown B A m c news hx hr h1 h63 hbytes hbase fun v' w' h2 h3 h4 => hK _ _ (h v' w' h2 h3 h4)

theorem step_append_any {ops : Array Oper} {o : Oper} {a : Act} {K : Act → World → Prop} {Q : Exit → Act → World → Prop} {E : Prop} (hgd : o.guard = none) (s x : Operand) (t : TypeId)
    (ho : o.op = .call { callee := .builtin .append, args := #[s, x], argTypes := #[t, t] })
    (base : Nat) (e : TypeId) (i : TypeInfo) (z : Value) (size bytes : Nat) (ht : P.underlying t = some (.slice e)) (hi : P.info? e = some i) (hz : i.zero = some z)
    (hsize : i.size = size) (hby : i.bytes = bytes) (hzs : z.cells.size = size) (hsz : 0 < size)
    (v : Value) (n : Nat) (xs : List Value) (hs : a.eval s = v) (hown : w.ownsRow base e size v n xs)
    (B : Nat) (A : Option Addr) (m c : Nat) (news : List Value) (hx : a.eval x = .slice A m c) (hr : Reads w B size A m news) (h1 : ∀ u ∈ news, u.oneCell' = true)
    (h63 : n + m ≤ maxLen) (hbytes : (n + m) * bytes ≤ 140737488355328) (hbase : base ≤ w.heap.size)
    (h : ∀ v' w', w'.ownsRow base e size v' (n + m) (xs ++ news) → w.grownBy w' v.ownBlock → (v'.ownBlock = v.ownBlock ∨ v'.ownBlock = some w.heap.size) → K (a.put o.dst v') w') :
    if Region.wanted o (yielded ops a.tmps) = true then Oper.wp P o a w K Q else E := by
  have hw : Region.wanted o (yielded ops a.tmps) = true := by simp [Region.wanted, hgd]
  rw [if_pos hw]
  exact wp_append_any w s x t ho base e i z size bytes ht hi hz hsize hby hzs hsz v n xs hs hown B A m c news hx hr h1 h63 hbytes hbase h
end

theorem one_cells (w : World) (ty : TypeId) (cs : Array Value) (j : Nat) (u : Value) (h : cs.toList[j]? = some u) : (w.alloc (.cells cs ty)).cell? ((⟨w.heap.size, 0, none⟩ : Addr).add j) = some u := by
  have : (⟨w.heap.size, 0, none⟩ : Addr).add j = ⟨w.heap.size, j, none⟩ := by
    unfold Addr.add
    by_cases hj : j = 0 <;> simp [hj]
  rw [this, cell_of_row _ _ j cs ty (0, 0) (heap_alloc_new w _)]
  simpa using h
theorem reads_one (w : World) (ty : TypeId) (cs : Array Value) (size : Nat) (h : cs.size = size) : Reads (w.alloc (.cells cs ty)) (w.heap.size + 1) size (some ⟨w.heap.size, 0, none⟩) 1 cs.toList :=
  ⟨by simp [h], fun _ => ⟨_, rfl, by simp, fun j u hu => one_cells w ty cs j u hu⟩⟩

def itemC (p : Int × Ar) : List Value := [.int .i64 p.1, .int .i64 p.2.s, .int .i64 p.2.r, .int .i64 p.2.c, .int .i64 p.2.n, .int .i64 p.2.m]
def items : Ids → List Value
  | [] => []
  | p :: R => itemC p ++ items R
theorem items_app : ∀ (R S : Ids), items (R ++ S) = items R ++ items S
  | [], S => rfl
  | p :: R, S => by
    show itemC p ++ items (R ++ S) = itemC p ++ items R ++ items S
    rw [items_app R S, List.append_assoc]
theorem items_len : ∀ (R : Ids), (items R).length = R.length * 6
  | [] => rfl
  | p :: R => by
    show (itemC p ++ items R).length = (R.length + 1) * 6
    rw [List.length_append, items_len R]
    show 6 + _ = _
    omega
theorem items_take (R : Ids) (k : Nat) : items (R.take k) = (items R).take (k * 6) := by
  rcases Nat.lt_or_ge k R.length with h | h
  · conv => rhs; rw [← List.take_append_drop k R, items_app]
    rw [List.take_left' (by rw [items_len, List.length_take]; omega)]
  · rw [List.take_of_length_le h, List.take_of_length_le (by rw [items_len]; omega)]
theorem items_drop (R : Ids) (k : Nat) : items (R.drop k) = (items R).drop (k * 6) := by
  rcases Nat.lt_or_ge k R.length with h | h
  · conv => rhs; rw [← List.take_append_drop k R, items_app]
    rw [List.drop_left' (by rw [items_len, List.length_take]; omega)]
  · rw [List.drop_of_length_le h, List.drop_of_length_le (by rw [items_len]; omega)]
    rfl
theorem items_at {p : Int × Ar} : ∀ {R : Ids} {i : Nat}, R[i]? = some p → ∀ j, j < 6 → (items R)[i * 6 + j]? = (itemC p)[j]?
  | [], i, h, _, _ => by simp at h
  | q :: R, 0, h, j, hj => by
    injection h with h
    subst h
    show (itemC q ++ items R)[0 * 6 + j]? = _
    rw [List.getElem?_append_left (by show 0 * 6 + j < 6; omega)]
    congr 1
    omega
  | q :: R, i + 1, h, j, hj => by
    show (itemC q ++ items R)[(i + 1) * 6 + j]? = _
    rw [List.getElem?_append_right (by show 6 ≤ _; omega)]
    have he : (i + 1) * 6 + j - (itemC q).length = i * 6 + j := by
      show (i + 1) * 6 + j - 6 = _
      omega
    rw [he]
    exact items_at (by simpa using h) j hj
theorem items_one : ∀ (R : Ids), ∀ u ∈ items R, u.oneCell' = true
  | [], u, h => by cases h
  | p :: R, u, h => by
    rcases List.mem_append.1 h with h | h
    · simp only [itemC, List.mem_cons, List.not_mem_nil, or_false] at h
      rcases h with rfl | rfl | rfl | rfl | rfl | rfl <;> rfl
    · exact items_one R u h

/-- The reference's index: its own block, and its items in a row of their own. -/
structure Rx (w : World) (B bi : Nat) (v : Value) (R : Ids) : Prop where
  head : w.heap[bi]? = some (.cells #[v] 29 (0, 0))
  row : w.ownsRow B 67 6 v R.length (items R)
  base : B ≤ bi
section
variable {w w' : World} {B bi : Nat} {v : Value} {R : Ids}
theorem Rx.lt (h : Rx w B bi v R) : bi < w.heap.size := by
  rcases Nat.lt_or_ge bi w.heap.size with hlt | hge
  · exact hlt
  · have := h.head
    rw [Array.getElem?_eq_none hge] at this
    cases this
theorem Rx.below {D : Nat} (h : Rx w B bi v R) (hB : Below D w w') (hD : w.heap.size ≤ D) : Rx w' B bi v R :=
  ⟨(hB.block bi (by have := h.lt; omega)).trans h.head, h.row.below ⟨hB.os, hB.tape, hB.output, hB.size, fun k hk => hB.block k (by omega)⟩, h.base⟩
theorem Rx.drew (h : Rx w B bi v R) : Rx w.drew B bi v R := ⟨h.head, h.row, h.base⟩
theorem Rx.c0 (h : Rx w B bi v R) : w.cell? ⟨bi, 0, none⟩ = some v := by rw [cell_of_row w bi 0 _ _ _ h.head]; rfl
theorem Rx.z0 (h : Rx w B bi v R) : w.frozen? ⟨bi, 0, none⟩ = false := by simp [World.frozen?, h.head]
theorem Rx.apart (h : Rx w B bi v R) : v.ownBlock ≠ some bi := by
  rcases h.row.2 with ⟨rfl, _⟩ | ⟨g, cap, cur, rfl, _, hh, _⟩
  · simp [Value.ownBlock]
  · intro he
    have : g = bi := by simpa [Value.ownBlock] using he
    subst this
    rw [h.head] at hh
    injection hh with hh
    injection hh with _ ht
    cases ht
theorem Rx.shape (h : Rx w B bi v R) : ∃ A cap, v = .slice A R.length cap ∧ R.length ≤ cap ∧ Reads w w.heap.size 6 A R.length (items R) ∧
    ∀ i p, R[i]? = some p → ∃ g, A = some ⟨g, 0, none⟩ ∧ g < w.heap.size ∧ ∀ j u, j < 6 → (itemC p)[j]? = some u → w.cell? ⟨g, i * 6 + j, none⟩ = some u := by
  obtain ⟨hd, hrow, hbs⟩ := h
  rcases hrow.2 with ⟨rfl, hn⟩ | ⟨g, cap, cur, rfl, hg, hb, hcap, h2, h3, h4⟩
  · have : R = [] := List.eq_nil_of_length_eq_zero hn
    subst this
    exact ⟨none, 0, rfl, Nat.le_refl _, Reads.none_, fun i p hp => by simp at hp⟩
  · refine ⟨_, cap, rfl, hcap, .of_own hrow, fun i p hp => ⟨g, rfl, (Array.getElem?_eq_some_iff.1 hb).1, fun j u hj hu => ?_⟩⟩
    have := hrow.cells (g := g) rfl (i * 6 + j) u (by rw [items_at hp j hj]; exact hu)
    unfold Addr.add at this
    split at this
    · rename_i h0
      rw [h0]; exact this
    · simpa using this
end

end Go.Proofs.YtnbfkhcignjfoaaDoor
