/- Maps in memory told by a plain function of the key: look-up, store, delete, length, and 'm[k] = append(m[k], ..)''s two steps, at any program. -/
import Derived.Maps.OwnIn
import Derived.Maps.OwnSet
import Derived.WideKeyEntry
namespace Go.Proofs.YtnbfkhcignjfoaaDoor
open Go Go.Maps Go.WideElems Go.MapKept Go.RowKit
open Go.ChangeMaps (setBlock heap_setBlock_same heap_setBlock_other modify_eq_set)

/-- Nothing is read of an element. -/
def R0 : Value → Option (DataW Unit × List MemPlace) := fun _ => some (.nil, [])
open Classical in
noncomputable def upd (m : Value → Option Value) (key : Value) (v : Option Value) : Value → Option Value := fun x => if x = key then v else m x
theorem upd_same (m : Value → Option Value) (key : Value) (v : Option Value) : upd m key v key = v := by unfold upd; rw [if_pos rfl]
theorem upd_other (m : Value → Option Value) {key x : Value} (v : Option Value) (h : x ≠ key) : upd m key v x = m x := by unfold upd; rw [if_neg h]
/-- Block b is a map of c entries; it holds m's values at its keys. -/
def World.mp (w : World) (P : Program) (k : TypeId) (b : Nat) (m : Value → Option Value) (c : Nat) : Prop :=
  ∃ es clock, w.heap[b]? = some (.map es clock) ∧ Fit P k R0 es clock ∧ es.size = c ∧ (∀ x ∈ es.toList, m x.key = some x.val) ∧ (∀ key v, m key = some v → ∃ x ∈ es.toList, x.key = key ∧ x.val = v)
section
variable {P : Program} {w w' : World} {k e t : TypeId} {b c : Nat} {m : Value → Option Value}
theorem World.mp.lt (h : World.mp w P k b m c) : b < w.heap.size := by
  obtain ⟨es, clock, hb, _⟩ := h
  exact (Array.getElem?_eq_some_iff.1 hb).1
theorem World.mp.same (h : World.mp w P k b m c) (e : w'.heap[b]? = w.heap[b]?) : World.mp w' P k b m c := by
  obtain ⟨es, clock, hb, r⟩ := h
  exact ⟨es, clock, e.trans hb, r⟩
theorem World.mp.below {B : Nat} (h : World.mp w P k b m c) (hB : Below B w w') (hb : b < B) : World.mp w' P k b m c := h.same (hB.block b hb)
theorem World.mp.kept {row : Option Nat} (h : World.mp w P k b m c) (hg : w.grownBy w' row) (hne : some b ≠ row) : World.mp w' P k b m c := h.same (hg.block b h.lt hne)
theorem World.mp.alloc (h : World.mp w P k b m c) (o : Obj) : World.mp (w.alloc o) P k b m c := h.kept (World.grownBy_alloc w o none) (by simp)
theorem World.mp.drew (h : World.mp w P k b m c) : World.mp w.drew P k b m c := h
theorem World.mp.isMap (h : World.mp w P k b m c) : ∃ es clock, w.heap[b]? = some (.map es clock) := by
  obtain ⟨es, clock, hb, _⟩ := h
  exact ⟨es, clock, hb⟩
theorem World.mp_made (w : World) (P : Program) (k : TypeId) : World.mp (w.alloc (.map #[] 0)) P k w.heap.size (fun _ => none) 0 := by
  refine ⟨#[], 0, (MapKept.heap_alloc w _).1, ⟨by simp [maxLen], ⟨by simp, by simp, by simp⟩, by simp⟩, rfl, by simp, by simp⟩
theorem World.mp.look (h : World.mp w P k b m c) (K : Keyed P k) (ht : P.underlying t = some (.map k e)) {z : Value} (hz : (zeroValue e).run P w = .ok z w) {key : Value} {kl : Lit} (hkey : keyOf P k key = some kl) (cc : Bool) :
    (Instr.lookup t (.map (some b)) key cc).run P w = .ok (if cc then .tuple #[(m key).getD z, .bool (m key).isSome] else (m key).getD z) w := by
  obtain ⟨es, clock, hb, F, _, h1, h2⟩ := h
  rcases fit_look cc K ht hz hb F hkey with ⟨hrun, hno, _⟩ | ⟨e0, y, hm0, he0, hrun, _⟩
  · have : m key = none := by
      cases hv : m key with
      | none => rfl
      | some v =>
        obtain ⟨x, hx, hk, _⟩ := h2 key v hv
        exact absurd hk (hno x hx)
    rw [hrun, this]; rfl
  · have : m key = some e0.val := by rw [← he0]; exact h1 e0 hm0
    rw [hrun, this]; rfl
theorem World.mp.len (h : World.mp w P k b m c) (ht : P.underlying t = some (.map k e)) (ty : TypeId) : (Builtin.len_ #[t] ty #[.map (some b)]).run P w = .ok (.int .i64 (c : Int)) w := by
  obtain ⟨es, clock, hb, F, rfl, _⟩ := h
  simp [Builtin.len_, run_underlying ht, MapKept.run_getObj_map hb, goInt, Result.andThen]
theorem setBlock_grown (w : World) (b : Nat) (o : Obj) : w.grownBy (setBlock w b o) (some b) :=
  ⟨rfl, rfl, rfl, by simp [setBlock], fun i _ hne => by
    unfold setBlock
    simp only [Array.getElem?_setIfInBounds]
    rw [if_neg (fun e => hne (by rw [e]))]⟩
theorem setBlock_same (hb : b < w.heap.size) (o : Obj) : (setBlock w b o).heap[b]? = some o := by
  unfold setBlock
  simp [hb]
theorem keys_inj {es : Array MapEntry} {clock : Nat} (F : Fit P k R0 es clock) {x y : MapEntry} (hx : x ∈ es.toList) (hy : y ∈ es.toList) (h : x.key = y.key) : x = y := by
  obtain ⟨i, hi, rfl⟩ := List.getElem_of_mem hx
  obtain ⟨j, hj, rfl⟩ := List.getElem_of_mem hy
  by_cases e : i = j
  · subst e; rfl
  · exact absurd h (other_key F (List.getElem?_eq_getElem hj) (List.getElem?_eq_getElem hi) e)
theorem World.mp.store (h : World.mp w P k b m c) (K : Keyed P k) (ht : P.underlying t = some (.map k e)) (hc : c < maxLen) {key : Value} {kl : Lit} (hkey : keyOf P k key = some kl) (val : Value) :
    ∃ es' clock', (Instr.mapUpdate t (.map (some b)) key val).run P w = .ok () (setBlock w b (.map es' clock')) ∧ World.mp (setBlock w b (.map es' clock')) P k b (upd m key (some val)) (if (m key).isSome then c else c + 1) := by
  have hlt := h.lt
  obtain ⟨es, clock, hb, F, hsz, h1, h2⟩ := h
  rcases K.find w hkey es.toList F.keys with ⟨f1, f2⟩ | ⟨j, e0, f1, f2, f3⟩
  · have hn : m key = none := by
      cases hv : m key with
      | none => rfl
      | some v =>
        obtain ⟨x, hx, hk, _⟩ := h2 key v hv
        exact absurd hk (f2 x hx)
    refine ⟨es.push ⟨key, val, clock⟩, clock + 1, ?_, es.push ⟨key, val, clock⟩, clock + 1, setBlock_same hlt _, ⟨by simp; omega, stamped_push F.stamped f2, ?_⟩, ?_, ?_, ?_⟩
    · simp [Instr.mapUpdate, run_underlying ht, MapKept.run_getObj_map hb, K.check w false hkey, f1, MapKept.run_setObj_map _ hb, Result.andThen, setBlock]
    · intro x hx
      simp only [Array.toList_push, List.mem_append, List.mem_singleton] at hx
      rcases hx with hx | rfl
      · exact F.reads x hx
      · exact ⟨_, rd_mk hkey rfl⟩
    · rw [hn]; simp [hsz]
    · intro x hx
      simp only [Array.toList_push, List.mem_append, List.mem_singleton] at hx
      rcases hx with hx | rfl
      · rw [upd_other m _ (f2 x hx)]; exact h1 x hx
      · exact upd_same _ _ _
    · intro key' v hv
      by_cases e : key' = key
      · subst e
        rw [upd_same] at hv
        exact ⟨⟨key', val, clock⟩, by simp, rfl, Option.some.inj hv⟩
      · rw [upd_other m _ e] at hv
        obtain ⟨x, hx, hk⟩ := h2 key' v hv
        exact ⟨x, by simp only [Array.toList_push, List.mem_append]; exact .inl hx, hk⟩
  · have hj : es[j]? = some e0 := by simpa using f2
    have hjl : j < es.toList.length := (List.getElem?_eq_some_iff.1 f2).1
    have hm0 : m key = some e0.val := by rw [← f3]; exact h1 e0 (List.mem_of_getElem? f2)
    have hlist : (es.modify j (fun e' => { e' with key := key, val := val })).toList = es.toList.set j { e0 with key := key, val := val } := by rw [Array.toList_modify, modify_eq_set _ _ _ _ f2]
    have who : ∀ x ∈ es.toList.set j { e0 with key := key, val := val }, x = { e0 with key := key, val := val } ∨ (x ∈ es.toList ∧ x.key ≠ key) := by
      intro x hx
      obtain ⟨i, hi, ex⟩ := List.getElem_of_mem hx
      rw [List.getElem_set] at ex
      split at ex
      · exact Or.inl ex.symm
      · rename_i hne
        have hi' : i < es.toList.length := by simpa using hi
        refine Or.inr ⟨ex ▸ List.getElem_mem hi', ?_⟩
        rw [← f3]
        exact other_key F f2 (by rw [List.getElem?_eq_getElem hi', ex]) (fun e1 => hne e1.symm)
    have hnew : ({ e0 with key := key, val := val } : MapEntry) ∈ es.toList.set j { e0 with key := key, val := val } := List.mem_iff_getElem.2 ⟨j, by simpa using hjl, by simp⟩
    refine ⟨es.modify j (fun e' => { e' with key := key, val := val }), clock, ?_, es.modify j (fun e' => { e' with key := key, val := val }), clock, setBlock_same hlt _, ⟨by simpa using F.size, stamped_modify F.stamped _ _ (fun _ _ => rfl) (fun e' _ he' => by rw [hj] at he'; cases he'; exact f3.symm), ?_⟩, ?_, ?_, ?_⟩
    · simp [Instr.mapUpdate, run_underlying ht, MapKept.run_getObj_map hb, K.check w false hkey, f1, hj, f3, K.stays w hkey, MapKept.run_setObj_map _ hb, Result.andThen, setBlock]
    · intro x hx
      rw [hlist] at hx
      rcases who x hx with rfl | ⟨hx', _⟩
      · exact ⟨_, rd_mk hkey rfl⟩
      · exact F.reads x hx'
    · rw [hm0]; simp [hsz]
    · intro x hx
      rw [hlist] at hx
      rcases who x hx with rfl | ⟨hx', hne⟩
      · exact upd_same _ _ _
      · rw [upd_other m _ hne]; exact h1 x hx'
    · intro key' v hv
      rw [hlist]
      by_cases e : key' = key
      · subst e
        rw [upd_same] at hv
        exact ⟨_, hnew, rfl, Option.some.inj hv⟩
      · rw [upd_other m _ e] at hv
        obtain ⟨x, hx, hk, hv'⟩ := h2 key' v hv
        obtain ⟨i, hi, rfl⟩ := List.getElem_of_mem hx
        have hij : j ≠ i := by
          rintro rfl
          have : es.toList[j] = e0 := by rw [List.getElem?_eq_getElem hi] at f2; exact Option.some.inj f2
          rw [this] at hk
          exact e (hk.symm.trans f3)
        exact ⟨es.toList[i], List.mem_iff_getElem.2 ⟨i, by simpa using hi, by rw [List.getElem_set_ne hij]⟩, hk, hv'⟩
theorem World.mp.drop (h : World.mp w P k b m c) (K : Keyed P k) (ht : P.underlying t = some (.map k e)) {key : Value} {kl : Lit} (hkey : keyOf P k key = some kl) (ty : TypeId) :
    ∃ es' clock', (Builtin.delete_ #[t, k] ty #[.map (some b), key]).run P w = .ok (.tuple #[]) (setBlock w b (.map es' clock')) ∧ World.mp (setBlock w b (.map es' clock')) P k b (upd m key none) (if (m key).isSome then c - 1 else c) := by
  have hlt := h.lt
  obtain ⟨es, clock, hb, F, hsz, h1, h2⟩ := h
  rcases K.find w hkey es.toList F.keys with ⟨f1, f2⟩ | ⟨j, e0, f1, f2, f3⟩
  · have hn : m key = none := by
      cases hv : m key with
      | none => rfl
      | some v =>
        obtain ⟨x, hx, hk, _⟩ := h2 key v hv
        exact absurd hk (f2 x hx)
    refine ⟨es, clock, ?_, es, clock, setBlock_same hlt _, F, by rw [hn]; exact hsz, ?_, ?_⟩
    · simp [Builtin.delete_, run_underlying ht, MapKept.run_getObj_map hb, K.check w _ hkey, f1, MapKept.run_setObj_map _ hb, Result.andThen, setBlock]
    · intro x hx
      rw [upd_other m _ (f2 x hx)]; exact h1 x hx
    · intro key' v hv
      by_cases e : key' = key
      · subst e; rw [upd_same] at hv; cases hv
      · rw [upd_other m _ e] at hv; exact h2 key' v hv
  · have hjl : j < es.toList.length := (List.getElem?_eq_some_iff.1 f2).1
    have hjs : j < es.size := by simpa using hjl
    have hm0 : m key = some e0.val := by rw [← f3]; exact h1 e0 (List.mem_of_getElem? f2)
    have hsub : (es.eraseIdxIfInBounds j).toList = es.toList.eraseIdx j := by
      unfold Array.eraseIdxIfInBounds
      rw [dif_pos hjs]
      simp
    have hmem : ∀ x, x ∈ es.toList.eraseIdx j ↔ x ∈ es.toList ∧ x.key ≠ key := by
      intro x
      rw [List.mem_eraseIdx_iff_getElem?]
      constructor
      · rintro ⟨i, hne, hi⟩
        refine ⟨List.mem_of_getElem? hi, ?_⟩
        rw [← f3]; exact other_key F f2 hi hne
      · rintro ⟨hx, hk⟩
        obtain ⟨i, hi, rfl⟩ := List.getElem_of_mem hx
        refine ⟨i, ?_, List.getElem?_eq_getElem hi⟩
        rintro rfl
        have : es.toList[i] = e0 := by rw [List.getElem?_eq_getElem hi] at f2; exact Option.some.inj f2
        rw [this] at hk
        exact hk f3
    refine ⟨es.eraseIdxIfInBounds j, clock, ?_, es.eraseIdxIfInBounds j, clock, setBlock_same hlt _, ⟨Nat.le_trans (MapFrom.size_erase es j) F.size, stamped_erase F.stamped j, ?_⟩, ?_, ?_, ?_⟩
    · simp [Builtin.delete_, run_underlying ht, MapKept.run_getObj_map hb, K.check w _ hkey, f1, MapKept.run_setObj_map _ hb, Result.andThen, setBlock]
    · intro x hx
      rw [hsub, hmem] at hx
      exact F.reads x hx.1
    · rw [hm0]
      have : (es.eraseIdxIfInBounds j).toList.length = es.toList.length - 1 := by rw [hsub, List.length_eraseIdx, if_pos hjl]
      simp only [Array.length_toList] at this
      rw [this, hsz]; rfl
    · intro x hx
      rw [hsub, hmem] at hx
      rw [upd_other m _ hx.2]; exact h1 x hx.1
    · intro key' v hv
      rw [hsub]
      by_cases e : key' = key
      · subst e; rw [upd_same] at hv; cases hv
      · rw [upd_other m _ e] at hv
        obtain ⟨x, hx, hk, hv'⟩ := h2 key' v hv
        exact ⟨x, (hmem x).2 ⟨hx, by rw [hk]; exact e⟩, hk, hv'⟩
/-- 'm[k] = append(m[k], ..)': the entry, and the store behind whatever left the map's block alone. -/
theorem World.mp.entry (h : World.mp w P k b m c) (K : WideMaps.KeyLaw P k) (ht : P.underlying t = some (.map k e)) (hc : c < maxLen) {z : Value} (hz : ∀ u : World, (zeroValue e).run P u = .ok z u) {key : Value} {kl : Lit} (hkey : keyOf P k key = some kl) :
    ∃ (st : Nat) (es1 : Array MapEntry) (clock1 : Nat), (Instr.mapEntry t (.map (some b)) key).run P w = .ok (.tuple #[(m key).getD z, goInt st]) (setBlock w b (.map es1 clock1)) ∧
      ∀ (w2 : World) (val : Value), w2.heap[b]? = some (.map es1 clock1) → ∃ es' clock', (Instr.entryStore t (.map (some b)) (goInt st) val).run P w2 = .ok () (setBlock w2 b (.map es' clock')) ∧ World.mp (setBlock w2 b (.map es' clock')) P k b (upd m key (some val)) (if (m key).isSome then c else c + 1) := by
  have h0 := h
  obtain ⟨es, clock, hb, F, hsz, h1, h2⟩ := h
  obtain ⟨v0, st, es1, clock1, hrun, hv0, hst⟩ := entry_then_store K ht hz hb F hkey
  have hval : v0 = (m key).getD z := by
    rcases hv0 with ⟨e0, hm, hk, rfl⟩ | ⟨hno, rfl⟩
    · rw [← hk, h1 e0 hm]; rfl
    · cases hv : m key with
      | none => rfl
      | some v =>
        obtain ⟨x, hx, hk, _⟩ := h2 key v hv
        exact absurd hk (hno x hx)
  subst hval
  refine ⟨st, es1, clock1, hrun, fun w2 val hw2 => ?_⟩
  obtain ⟨es', clock', hs1, hs2⟩ := hst w2 val hw2
  obtain ⟨es'', clock'', hs3, hs4⟩ := h0.store (Keyed.of_law K) ht hc hkey val
  refine ⟨es', clock', hs1, ?_⟩
  have e1 : setBlock w b (.map es' clock') = setBlock w b (.map es'' clock'') := by
    rw [hs2] at hs3
    simpa using hs3
  have hlt2 : b < w2.heap.size := (Array.getElem?_eq_some_iff.1 hw2).1
  refine hs4.same ?_
  rw [← e1, setBlock_same hlt2, setBlock_same h0.lt]
end
end Go.Proofs.YtnbfkhcignjfoaaDoor
