/- The law FunNames, walked. (By gennm4.py.) -/
import Derived.Test.YtmhfioimgllgeaaGreatDoorW49
import Derived.Test.YtmhfioimgllgeaaGreatDoorW51
namespace Go.Proofs.YtmhfioimgllgeaaGreatDoor
open Go Go.RowKit Go.Shelf
def bothB (x : List UInt8) : Bool := match look (tabAll 0 0) (upL x), look (tabAll 0 0) (upL (lowL x)) with
  | some e, some f => e.least == f.least && (e.most == f.most && (decide (e.least ≤ e.most) && decide (x.length ≤ 100)))
  | _, _ => false
set_option maxRecDepth 100000 in
theorem both_all : NL.all bothB = true := by kernel_rfl
theorem both_is {x : List UInt8} (h : x ∈ NL) : ∃ a b, a ≤ b ∧ x.length ≤ 100 ∧ (∀ w, Calls Tryz.prog 15 #[.string (mk x)] w (Gives (.tuple #[.int .i64 a, .int .i64 b, .bool true]) w)) ∧ (∀ w, Calls Tryz.prog 15 #[.string (foldS (mk x))] w (Gives (.tuple #[.int .i64 a, .int .i64 b, .bool true]) w)) := by
  have h1 := List.all_eq_true.1 both_all x h
  unfold bothB at h1
  split at h1
  · rename_i e f he hf
    simp only [Bool.and_eq_true, beq_iff_eq, decide_eq_true_eq] at h1
    obtain ⟨e1, e2, e3, e4⟩ := h1
    have hs1 : (mk x).size ≤ 1000 := by show (mk x).data.size ≤ 1000; unfold mk; simp; omega
    have hs2 : (foldS (mk x)).size ≤ 1000 := by show (foldS (mk x)).data.size ≤ 1000; unfold foldS mk lowL; simp; omega
    refine ⟨e.least, e.most, e3, e4, fun w => ?_, fun w => ?_⟩
    · have := known_any (mk x) hs1 w
      have hx : (mk x).data.toList = x := by simp [mk]
      rw [hx, he] at this
      exact this
    · have := known_any (foldS (mk x)) hs2 w
      have hx : (foldS (mk x)).data.toList = lowL x := by simp [foldS, mk]
      rw [hx, hf] at this
      rw [e1, e2]
      exact this
  · cases h1
set_option maxRecDepth 100000 in
set_option maxHeartbeats 8000000 in
theorem law_names (n : Int) (h0 : -9223372036854775808 ≤ n) (h1 : n ≤ 9223372036854775807) (w : World) (hE : Env w) : Calls Tryz.prog 3 #[.int .i64 n] w (Gives (.bool true) w) := by
  have HEX := Lib.hid (examples_any w hE)
  have HP := Lib.hid (fun W => pick14 n 69 W h0 h1 (by decide) (by decide))
  have hpb := pickI_bd n (n := 69) (by decide)
  have HNL := Lib.hid nl_len
  have HBO : Hid (∀ x, x ∈ NL → ∃ a b, a ≤ b ∧ x.length ≤ 100 ∧ (∀ w, Calls Tryz.prog 15 #[.string (mk x)] w (Gives (.tuple #[.int .i64 a, .int .i64 b, .bool true]) w)) ∧ (∀ w, Calls Tryz.prog 15 #[.string (foldS (mk x))] w (Gives (.tuple #[.int .i64 a, .int .i64 b, .bool true]) w))) := Lib.hid fun x h => both_is h
  obtain ⟨T, hT⟩ : ∃ T, T = NL := ⟨_, rfl⟩
  have HN12 := Lib.hid names12
  have HN13 := Lib.hid names13
  have HTT := Lib.hid hT
  rw [← hT] at HNL HN12 HN13
  obtain ⟨k, hk⟩ : ∃ k : Nat, pickI n 69 = (k : Int) := ⟨(pickI n 69).toNat, by omega⟩
  rw [hk] at HP hpb
  clear hT hk h0 h1 hE
  go_enter Tryz.func3, Tryz.ntmps3
  go_wp2_with fail
  refine HEX.out.mono ?_
  rintro e w1 ⟨rfl, hB⟩
  go_wp2_with fail
  refine (HN12.out _).mono ?_
  rintro e w2 ⟨va, rfl, hra, hB2⟩
  have hB := hB.trans (hB2.mono hB.size)
  obtain ⟨pa, ca, rfl, hca, hpa⟩ := hra.slice
  rw [List.length_map, HNL.out] at hca ⊢
  obtain ⟨ga, rfl, hga, hcea⟩ := hpa (by intro e; have := congrArg List.length e; rw [List.length_map, HNL.out] at this; simp at this)
  clear hB2 hra hpa
  go_wp2_with fail
  refine (HN13.out _).mono ?_
  rintro e w3 ⟨vb, rfl, hrb, hB3⟩
  have hB := hB.trans (hB3.mono hB.size)
  obtain ⟨pb, cb, rfl, hcb, hpb2⟩ := hrb.slice
  rw [List.length_map, HNL.out] at hcb ⊢
  obtain ⟨gb, rfl, hgb, hceb⟩ := hpb2 (by intro e; have := congrArg List.length e; rw [List.length_map, HNL.out] at this; simp at this)
  have HCA := Lib.hid (show ∀ W, Below w3.heap.size w3 W → ∀ (K : Nat) (x : List UInt8), T[K]? = some x → W.cell? ⟨ga, K, none⟩ = some (.string (mk x)) from fun W hW K x h => ((hB3.trans (hW.mono hB3.size)).cell (p := ⟨ga, K, none⟩) hga).trans (hcea K (mk x) (by rw [List.getElem?_map, h]; rfl)))
  have HCB := Lib.hid (show ∀ W, Below w3.heap.size w3 W → ∀ (K : Nat) (x : List UInt8), T[K]? = some x → W.cell? ⟨gb, K, none⟩ = some (.string (mk x)) from fun W hW K x h => (hW.cell (p := ⟨gb, K, none⟩) hgb).trans (hceb K (mk x) (by rw [List.getElem?_map, h]; rfl)))
  clear hB3 hrb hpb2 hcea hceb hga hgb HEX HN12 HN13
  go_wp2_with fail
  go_loopw [6] (fun i wr => ∃ K : Nat, i = .int .i64 (K : Int) ∧ K ≤ 69 ∧ Hid (Below w3.heap.size w3 wr)) (fun i _ => 69 - (intOf i).toNat)
  case atStart => exact ⟨0, rfl, by omega, Below.refl _ _⟩
  case round =>
    obtain ⟨K, rfl, hK, HW⟩ := hrel
    by_cases hlt : K < 69
    · have hKI : (K : Int) < 69 := by omega
      obtain ⟨x, hx⟩ : ∃ x, T[K]? = some x := ⟨_, List.getElem?_eq_getElem (by rw [HNL.out]; exact hlt)⟩
      have ka := HCA.out wr HW.out K x hx
      have kb := HCB.out wr HW.out K x hx
      clear hx
      go_upto_region 11 with fail
      go_quiet (fail)
      go_wp2_with fail
      go_roundw
      case rel => exact ⟨K + 1, by go_num, by omega, ⟨HW.out.os, HW.out.tape, HW.out.output, HW.out.size, HW.out.block⟩⟩
      case measure => simp [intOf]; omega
    · obtain rfl : K = 69 := by omega
      have hlt2 : k < T.length := by rw [HNL.out]; omega
      obtain ⟨x, hx⟩ : ∃ x, T[k]? = some x := ⟨_, List.getElem?_eq_getElem hlt2⟩
      obtain ⟨a, b, hab, hxl, h15, h15f⟩ := HBO.out x (by rw [← HTT.out]; exact List.mem_of_getElem? hx)
      have ka := HCA.out wr HW.out k x hx
      have HF := Lib.hid (fun W => rfold16 (mk x) W (by show (mk x).data.size ≤ _; unfold mk; simp; omega))
      have H15 := Lib.hid h15
      have H15F := Lib.hid h15f
      have hBw := hB.trans (HW.out.mono hB.size)
      obtain ⟨hp0, hp1⟩ := hpb
      clear hx hxl h15 h15f hlt2 HW hlt hB
      go_upto_region 14 with (go_at_call 14; refine (HP.out _).mono ?_; rintro e z ⟨rfl, rfl⟩)
      go_upto_region 15 with (go_at_call 15; refine (H15.out _).mono ?_; rintro e z1 ⟨rfl, hb⟩; have hBw := hBw.trans (hb.mono hBw.size))
      go_upto_region 16 with (first | (go_at_call 16; refine (HF.out _).mono ?_; rintro e z2 ⟨rfl, hb⟩; have hBw := hBw.trans (hb.mono hBw.size)) | (go_at_call 15; refine (H15F.out _).mono ?_; rintro e z3 ⟨rfl, hb⟩; have hBw := hBw.trans (hb.mono hBw.size)))
      clear ka H15 H15F HF HCA HCB HBO HP
      go_wp2_with fail
      go_ret
      exact ⟨by simp, hBw⟩
end Go.Proofs.YtmhfioimgllgeaaGreatDoor
