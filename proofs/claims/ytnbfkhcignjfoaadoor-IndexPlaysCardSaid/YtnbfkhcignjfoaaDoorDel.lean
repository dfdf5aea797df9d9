/- slices.DeleteFunc and slices.Sort on a slice of ints that owns its row. -/
import Derived.Test.YtnbfkhcignjfoaaDoorShelf
import Derived.Test.YtnbfkhcignjfoaaDoorOf
import Derived.Sort.OwnSortedInts
namespace Go.Proofs.YtnbfkhcignjfoaaDoor
open Go.RowKit Go.Shelf Go.Sort Go.Lib

abbrev ints (zs : List Int) : List Value := zs.map (Value.int .i64)
theorem gives38 (id x : Int) (B : Nat) (W : World) (hc : W.cell? ⟨B, 0, none⟩ = some (.int .i64 id)) :
    FnGives Tryd.prog 38 #[.pointer (some ⟨B, 0, none⟩)] #[.int .i64 x] (.bool (x == id)) W := by
  show Calls Tryd.prog 38 #[.int .i64 x, .pointer (some ⟨B, 0, none⟩)] W _
  go_enter Tryd.func38, Tryd.ntmps38
  go_wp2
  all_goals (go_ret; exact ⟨rfl, 0, rfl⟩)
theorem pred38 (id : Int) (B : Nat) (w : World) (hB : B < w.heap.size) (hcell : w.cell? ⟨B, 0, none⟩ = some (.int .i64 id)) :
    PredAt Tryd.prog 38 #[.pointer (some ⟨B, 0, none⟩)] (Value.int .i64) (fun x => x == id) w :=
  fun W x hb => gives38 id x B W ((hb.cell (p := ⟨B, 0, none⟩) hB).trans hcell)
theorem over38 (id : Int) (B blk off size : Nat) (w : World) (hB : B < w.heap.size) (hne : B ≠ blk) (hcell : w.cell? ⟨B, 0, none⟩ = some (.int .i64 id)) :
    PredOver Tryd.prog 38 #[.pointer (some ⟨B, 0, none⟩)] (Value.int .i64) (fun x => x == id) blk off size w :=
  fun n os dk x _ => gives38 id x B _ (by
    unfold sortWorld
    rw [cell?_grow _ _ _ (by show B < (putRow _ _ _ _ _).heap.size; rw [size_putRow]; exact hB), cell?_putRow_other _ _ blk off _ _ (Or.inl hne)]
    exact hcell)
theorem eg38 : ∀ args w, (callFunc 38 args).run Tryd.prog w = .ok (.enter 38 args) w := enters_of Tryd.func38 (by kernel_rfl) rfl
set_option maxRecDepth 100000 in
theorem index_nil (fv : Value) (w : World) : Calls Tryd.prog 43 #[.slice none 0 0, fv] w fun e w' => e = .returned (.int .i64 (-1)) ∧ w' = w := by
  go_enter Tryd.func43, Tryd.ntmps43
  go_wp2_with fail
  go_loopw [8] (fun i wr => i = .int .i64 0 ∧ wr = w) (fun _ _ => 0)
  case atStart => exact ⟨rfl, rfl⟩
  case round =>
    obtain ⟨rfl, rfl⟩ := hrel
    go_wp2_with fail
    go_ret
    exact ⟨rfl, rfl⟩
theorem del_nil (fv : Value) (w : World) : Calls Tryd.prog 37 #[.slice none 0 0, fv] w fun e w' => e = .returned (.slice none 0 0) ∧ w' = w := by
  go_enter Tryd.func37, Tryd.ntmps37
  go_wp2_with fail
  refine (index_nil _ _).mono ?_
  rintro e w1 ⟨rfl, rfl⟩
  go_wp2_with fail
  go_ret
  exact ⟨rfl, rfl⟩
/-- What DeleteFunc leaves. -/
def DelPost (base : Nat) (v : Value) (zs : List Int) (w : World) (e : Ending) (w' : World) : Prop :=
  ∃ v', e = .returned v' ∧ w'.ownsRow base 3 1 v' zs.length (ints zs) ∧ w.grownBy w' v.ownBlock ∧ v'.ownBlock = v.ownBlock ∧ w'.heap.size = w.heap.size
theorem del_any (id : Int) (B base : Nat) (v : Value) (zs : List Int) (w : World) (hB : B < w.heap.size) (hcell : w.cell? ⟨B, 0, none⟩ = some (.int .i64 id)) (hown : w.ownsRow base 3 1 v zs.length (ints zs)) (hne : v.ownBlock ≠ some B) :
    Calls Tryd.prog 37 #[v, .func (.func 38) #[] #[.pointer (some ⟨B, 0, none⟩)]] w (DelPost base v (zs.filter fun x => !(x == id)) w) := by
  rcases hown.2 with ⟨rfl, h0⟩ | ⟨g, cap, cur, rfl, hbase, hb, h1, h2, h3, h4⟩
  · refine (del_nil _ w).mono ?_
    rintro e w' ⟨rfl, rfl⟩
    have : zs = [] := List.eq_nil_of_length_eq_zero h0
    subst this
    exact ⟨_, rfl, World.ownsRow_nil _ _ _ _, ⟨rfl, rfl, rfl, Nat.le_refl _, fun _ _ _ => rfl⟩, rfl, rfl⟩
  · have hg : g < w.heap.size := (Array.getElem?_eq_some_iff.1 hb).1
    have hneg : B ≠ g := fun e => hne (by rw [e]; rfl)
    have hH : Holds (Value.int .i64) w g 0 zs.toArray := holds_of_blockI hb (by simpa using h4)
    have hcon := AnyE.slices_DeleteFunc Tryd.laysDF (Value.int .i64) (fun _ => rfl) (fun x => x == id) 38 #[.pointer (some ⟨B, 0, none⟩)] eg38 0 Tryd.zeroValue3 g 0 cap zs.toArray w (pred38 id B w hB hcell) (over38 id B g 0 _ w hB hneg hcell) hH (by simp; unfold maxLen at h2; omega) (by simpa using h1)
    change Calls Tryd.prog 37 _ _ _ at hcon
    simp only [List.size_toArray] at hcon
    refine hcon.mono ?_
    rintro e w' ⟨rfl, q, rfl⟩
    obtain ⟨F, hF⟩ : ∃ F, zs.filter (fun x => !(x == id)) = F := ⟨_, rfl⟩
    have hle : F.length ≤ zs.length := by rw [← hF]; exact List.length_filter_le _ _
    rw [hF]
    have hcs : zs.length ≤ cur.size := by omega
    obtain ⟨d, hd⟩ : ∃ d, F ++ List.replicate (zs.length - F.length) 0 = d := ⟨_, rfl⟩
    have hdl : d.length = zs.length := by rw [← hd, List.length_append, List.length_replicate]; omega
    rw [hd]
    have hheap : (putRow (Value.int .i64) (Sort.ahead w q) g 0 d.toArray).heap[g]? = some (.cells (putCells (Value.int .i64) 0 d.toArray cur) 3 (0, 0)) := by
      simp [putRow, mapBlock, Sort.ahead, Array.getElem?_modify, hb, onCells]
    have htake : (putCells (Value.int .i64) 0 d.toArray cur).toList.take F.length = ints F := by
      have := take_putCellsI cur d (by omega)
      have h5 : (List.take d.length (putCells (Value.int .i64) 0 d.toArray cur).toList).take F.length = (d.map (Value.int .i64)).take F.length := by rw [this]
      rw [List.take_take, Nat.min_eq_left (by omega), ← List.map_take] at h5
      rw [h5, ← hd, List.take_append_of_le_length (Nat.le_refl _), List.take_length]
    refine ⟨_, rfl, ⟨by simp, .inr ⟨g, cap, _, rfl, hbase, hheap, by omega, h2, by simp [putCells, h3], by rw [Nat.mul_one]; exact htake⟩⟩, ⟨rfl, rfl, rfl, by simp, fun k hk hne => ?_⟩, rfl, by simp⟩
    have : g ≠ k := fun e => hne (by rw [e]; rfl)
    simp [putRow, mapBlock, Sort.ahead, Array.getElem?_modify, this]
/-- What Sort leaves. -/
theorem sort_any (base : Nat) (v : Value) (zs : List Int) (w : World) (hown : w.ownsRow base 3 1 v zs.length (ints zs)) (hl : zs.length ≤ 100000) :
    Calls Tryd.prog 40 #[v] w fun e w' => e = .returned (.tuple #[]) ∧ w'.ownsRow base 3 1 v zs.length (ints (zs.mergeSort fun x y => decide (x ≤ y))) ∧ w.grownBy w' v.ownBlock := by
  rcases hown.2 with ⟨rfl, h0⟩ | ⟨g, cap, cur, rfl, hbase, hb, h1, h2, h3, h4⟩
  · refine (Tryd.slices_Sort_int_none none 0 w).mono ?_
    rintro e w' ⟨rfl, rfl⟩
    have : zs = [] := List.eq_nil_of_length_eq_zero h0
    subst this
    exact ⟨rfl, by simp only [List.mergeSort_nil]; exact World.ownsRow_nil _ _ _ _, ⟨rfl, rfl, rfl, Nat.le_refl _, fun _ _ _ => rfl⟩⟩
  · have hg : g < w.heap.size := (Array.getElem?_eq_some_iff.1 hb).1
    have hH : Holds (Value.int .i64) w g 0 zs.toArray := holds_of_blockI hb (by simpa using h4)
    refine (Tryd.slices_Sort_int g 0 cap zs w hH hg (by omega)).mono ?_
    rintro e w' ⟨rfl, n, os, rfl⟩
    exact ⟨rfl, ownsRow_sortedI (by simp) hbase hb h1 h2 h3, grownBy_sortedI _⟩
end Go.Proofs.YtnbfkhcignjfoaaDoor
