/- The lines of an area. -/
import Derived.Test.YtnbfkhcignjfoaaDoorPure
import Derived.Test.YtnbfkhcignjfoaaDoorMops
import Derived.OwnWalk
import Derived.Laws.AppendOwn
import Derived.Laws.AppendOwnNone
import Derived.Laws.Tables
import Derived.Laws.ResultCell
import Derived.Lib.Hide
namespace Go.Proofs.YtnbfkhcignjfoaaDoor
open Go.RowKit

theorem info72 : (Tryd.prog.info? 72).map (fun i => (i.zero, i.size, i.bytes)) = some (some (.agg #[.int .i64 0, .int .i64 0]), 2, 16) := by kernel_rfl
theorem info3 : (Tryd.prog.info? 3).map (fun i => (i.zero, i.size, i.bytes)) = some (some (.int .i64 0), 1, 8) := by kernel_rfl
abbrev lineV (s r : Int) : Value := .agg #[.int .i64 s, .int .i64 r]
/-- The cells of n lines of a sheet from a row on. -/
def lns (s r : Int) : Nat → List Value
  | 0 => []
  | n + 1 => lns s r n ++ [.int .i64 s, .int .i64 (r + n)]
theorem lns_len (s r : Int) : ∀ n, (lns s r n).length = n * 2
  | 0 => rfl
  | n + 1 => by rw [lns, List.length_append, lns_len s r n]; simp; omega
theorem lns_at (s r : Int) : ∀ (n i : Nat), i < n → (lns s r n)[i * 2]? = some (.int .i64 s) ∧ (lns s r n)[i * 2 + 1]? = some (.int .i64 (r + i))
  | 0, i, h => absurd h (by omega)
  | n + 1, i, h => by
    rw [lns]
    by_cases e : i = n
    · subst e
      rw [List.getElem?_append_right (by rw [lns_len]; exact Nat.le_refl _), List.getElem?_append_right (by rw [lns_len]; omega), lns_len]
      simp
    · obtain ⟨a, b⟩ := lns_at s r n i (by omega)
      rw [List.getElem?_append_left (by rw [lns_len]; omega), List.getElem?_append_left (by rw [lns_len]; omega)]
      exact ⟨a, b⟩
theorem _root_.Go.World.ownsRow.mono {w : World} {b b' : Nat} {e : TypeId} {size : Nat} {v : Value} {n : Nat} {xs : List Value} (h : w.ownsRow b e size v n xs) (hb : b' ≤ b) : w.ownsRow b' e size v n xs := by
  refine ⟨h.1, ?_⟩
  rcases h.2 with hn | ⟨g, cap, cur, rfl, hg, rest⟩
  · exact .inl hn
  · exact .inr ⟨g, cap, cur, rfl, by omega, rest⟩
theorem _root_.Go.World.ownsRow.below {w w' : World} {b : Nat} {e : TypeId} {size : Nat} {v : Value} {n : Nat} {xs : List Value} (h : w.ownsRow b e size v n xs) (hB : Below w.heap.size w w') : w'.ownsRow b e size v n xs := by
  refine ⟨h.1, ?_⟩
  rcases h.2 with hn | ⟨g, cap, cur, rfl, hg, hc, rest⟩
  · exact .inl hn
  · exact .inr ⟨g, cap, cur, rfl, hg, (hB.block g (Array.getElem?_eq_some_iff.1 hc).1).trans hc, rest⟩
/-- A slice of lines, in new memory. -/
def OfPost (s r : Int) (n : Nat) (w : World) (e : Ending) (w' : World) : Prop := ∃ v, e = .returned v ∧ w'.ownsRow w.heap.size 72 2 v n (lns s r n) ∧ Below w.heap.size w w'
def World.area (w : World) (b : Nat) (s r c n m : Int) : Prop := w.heap[b]? = some (.cells #[.int .i64 s, .int .i64 r, .int .i64 c, .int .i64 n, .int .i64 m] 31 (0, 0))
section
variable {w w' : World} {b : Nat} {s r c n m : Int}
theorem World.area.lt (h : World.area w b s r c n m) : b < w.heap.size := (Array.getElem?_eq_some_iff.1 h).1
theorem World.area.below {B : Nat} (h : World.area w b s r c n m) (hb : Below B w w') (hlt : b < B) : World.area w' b s r c n m := by unfold World.area; rw [hb.block b hlt]; exact h
theorem World.area_new (w : World) (s r c n m : Int) : World.area (w.alloc (.cells #[.int .i64 s, .int .i64 r, .int .i64 c, .int .i64 n, .int .i64 m] 31)) w.heap.size s r c n m := (MapKept.heap_alloc w _).1
theorem World.area.alloc (h : World.area w b s r c n m) (o : Obj) : World.area (w.alloc o) b s r c n m := h.below ((Below.refl w.heap.size w).alloc (Nat.le_refl _) o) h.lt
theorem World.area.drew (h : World.area w b s r c n m) : World.area w.drew b s r c n m := h
theorem World.area.kept {row : Option Nat} (h : World.area w b s r c n m) (hg : w.grownBy w' row) (hne : some b ≠ row) : World.area w' b s r c n m := by unfold World.area; rw [hg.block b h.lt hne]; exact h
theorem World.area.cell (h : World.area w b s r c n m) (i : Nat) (v : Value) (hv : (#[.int .i64 s, .int .i64 r, .int .i64 c, .int .i64 n, .int .i64 m] : Array Value)[i]? = some v) : w.cell? ⟨b, i, none⟩ = some v := by rw [cell_of_row w b i _ _ _ h, hv]
end
set_option maxRecDepth 100000 in
set_option maxHeartbeats 2000000 in
theorem of_any (s r c n m : Int) (w : World) (hn : n ≤ 200) (hr0 : -9223372036854775808 ≤ r) (hr1 : r + n ≤ 9223372036854775808) (hr2 : r ≤ 9223372036854775807) :
    Calls Tryd.prog 26 #[areaV s r c n m] w (OfPost s r n.toNat w) := by
  obtain ⟨i0, hi, hz0, hz1, hz2⟩ := info_parts info72
  have HI := Lib.hid hi
  have HZ0 := Lib.hid hz0
  have HZ1 := Lib.hid hz1
  have HZ2 := Lib.hid hz2
  clear hi hz0 hz1 hz2
  go_enter Tryd.func26, Tryd.ntmps26
  go_wp2_with fail
  obtain ⟨W, hW⟩ : ∃ W, W = w.alloc (.cells #[.int .i64 s, .int .i64 r, .int .i64 c, .int .i64 n, .int .i64 m] 31) := ⟨_, rfl⟩
  rw [← hW]
  have d : World.area W w.heap.size s r c n m := by rw [hW]; exact World.area_new w s r c n m
  have hB : Below w.heap.size w W := by rw [hW]; exact (Below.refl _ w).alloc (Nat.le_refl _) _
  have hw1 : w.heap.size + 1 ≤ W.heap.size := d.lt
  clear hW
  go_loopw [3, 7] (fun v i wr => ∃ K : Nat, i = .int .i64 (K : Int) ∧ K ≤ n.toNat ∧ wr.ownsRow (w.heap.size + 1) 72 2 v K (lns s r K) ∧ World.area wr w.heap.size s r c n m ∧ Below w.heap.size w wr) (fun _ i _ => (n - intOf i).toNat)
  case atStart => exact ⟨0, rfl, Nat.zero_le _, World.ownsRow_nil _ _ _ _, d, hB⟩
  case round =>
    clear d hB hw1
    obtain ⟨K, rfl, hK, hown, d, hB⟩ := hrel
    have hsz := hB.size
    have c0 := d.cell 0 _ rfl
    have c1 := d.cell 1 _ rfl
    by_cases hlt : (K : Int) < n
    · have hw : IntKind.i64.wrap (r + (K : Int)) = r + (K : Int) := IntWalk.i64_in _ (by omega)
      have ld := d.lt
      go_wp2_with (at_builtin; refine wpList_append_own _ rfl _ _ 63 rfl (w.heap.size + 1) 72 i0 (.agg #[.int .i64 0, .int .i64 0]) 2 16 Tryd.underlying63 HI.out HZ0.out HZ1.out HZ2.out rfl (by decide) _ K _ rfl (hown.alloc _) ⟨wr.heap.size, 0, none⟩ 1 1 [.int .i64 s, .int .i64 (r + (K : Int))] rfl rfl ?_ (by simp [Value.oneCell']) (by unfold maxLen; omega) (by omega) (by simp; omega) ?_; (intro j u hj; match j, hj with | 0, hj => (simp at hj; subst hj; simp [Addr.add]) | 1, hj => (simp at hj; subst hj; simp [Addr.add])); intro v' w2 hown2 hgrow hnil)
      go_roundw
      case rel =>
        refine ⟨K + 1, by go_num, by omega, hown2, ?_, (hB.alloc hsz _).grown hgrow (by simp; omega) (fun k hk => by have := (World.ownsRow.lt hown k hk).1; omega)⟩
        exact (d.alloc _).kept hgrow (fun e => by have := (World.ownsRow.lt hown _ e.symm).1; omega)
      case measure => first | (simp [intOf]; done) | (simp [intOf]; omega)
    · obtain rfl : K = n.toNat := by omega
      go_wp2_with fail
      go_ret
      exact ⟨_, rfl, hown.mono (by omega), hB⟩
end Go.Proofs.YtnbfkhcignjfoaaDoor
