/- dec.Text. -/
import Derived.Test.YtpkohfdebgiloaaDoorByte
import Derived.Deep.DeepCutAuto
namespace Go.Proofs.YtpkohfdebgiloaaDoor
open Go.RowKit Go.Shelf

/-- The lowest place below the point that is not nought, of those below K; else the point. -/
def lowK (D : Nat) : Nat → Nat
  | 0 => 48
  | K + 1 => if dg D K = 0 then lowK D K else min (lowK D K) K
theorem lowK_le (D : Nat) : ∀ K, lowK D K ≤ 48
  | 0 => Nat.le_refl _
  | K + 1 => by rw [lowK]; have := lowK_le D K; split <;> omega
/-- What is written of one place. -/
def chunk (D k : Nat) : List UInt8 := (if k = 47 then [46] else []) ++ [UInt8.ofNat (48 + D / 10 ^ k % 10)]
/-- So many places from one down. -/
def wrt (D hi : Nat) : Nat → List UInt8
  | 0 => []
  | n + 1 => wrt D hi n ++ chunk D (hi - n)
theorem chunk_len (D k : Nat) : (chunk D k).length ≤ 2 := by unfold chunk; split <;> simp
theorem wrt_len (D hi : Nat) : ∀ n, (wrt D hi n).length ≤ 2 * n
  | 0 => Nat.zero_le _
  | n + 1 => by rw [wrt, List.length_append]; have h1 := wrt_len D hi n; have h2 := chunk_len D (hi - n); omega
def topF (D : Nat) : Nat → Int
  | 0 => -1
  | n + 1 => if dg D n = 0 then topF D n else n
theorem topF_spec (D : Nat) : ∀ n, -1 ≤ topF D n ∧ topF D n < n ∧ (∀ k : Nat, k < n → topF D n < (k : Int) → dg D k = 0) ∧ (∀ k : Nat, (k : Int) = topF D n → dg D k ≠ 0)
  | 0 => ⟨by simp [topF], by simp [topF], fun k hk => absurd hk (by omega), fun k hk => by simp [topF] at hk⟩
  | n + 1 => by
    obtain ⟨h1, h2, h3, h4⟩ := topF_spec D n
    rw [topF]
    by_cases c : dg D n = 0
    · rw [if_pos c]
      refine ⟨h1, by omega, fun k hk hl => ?_, h4⟩
      by_cases e : k = n
      · rw [e]; exact c
      · exact h3 k (by omega) hl
    · rw [if_neg c]
      exact ⟨by omega, by omega, fun k hk hl => absurd hl (by omega), fun k hk => by rw [show k = n by omega]; exact c⟩
def hiOf (D : Nat) : Nat := (max (topF D 96) 48).toNat
def lowOf (D : Nat) : Nat := lowK D 48
def signL (M : Int) : List UInt8 := if M < 0 then [45] else []
/-- A right decimal's text. -/
def textR (M E : Int) : List UInt8 := signL M ++ wrt (layD M E) (hiOf (layD M E)) (hiOf (layD M E) + 1 - lowOf (layD M E))
def textD (M E : Int) : List UInt8 × Int := if rightB M E = true then (textR M E, 0) else ([], 10)
def TextPost (r : List UInt8 × Int) (w : World) (e : Ending) (w' : World) : Prop := e = .returned (.tuple #[.string ⟨r.1.toArray⟩, .int .i64 r.2]) ∧ Below w.heap.size w w'

theorem hiOf_eq (D : Nat) : ((hiOf D : Nat) : Int) = max (topF D 96) 48 ∧ hiOf D ≤ 95 ∧ 48 ≤ hiOf D := by
  obtain ⟨h1, h2, _⟩ := topF_spec D 96
  unfold hiOf
  omega
theorem bytes_one (l : List UInt8) (c : UInt8) (v : Int) (h : v = (c.toNat : Int)) : Lib.byteCells l ++ [.int .u8 v] = Lib.byteCells (l ++ [c]) := by subst h; simp [Lib.byteCells]
theorem digit_byte (D k : Nat) : (48 + dg D k : Int) = ((UInt8.ofNat (48 + D / 10 ^ k % 10)).toNat : Int) := by
  have := Nat.mod_lt (D / 10 ^ k) (show 0 < 10 by decide)
  unfold dg
  rw [UInt8.toNat_ofNat_of_lt' (by rw [show UInt8.size = 256 from rfl]; omega)]
  omega
set_option maxRecDepth 100000 in
set_option maxHeartbeats 4000000 in
theorem text_ok (M E : Int) (w : World) (h0 : -9223372036854775808 ≤ M) (h1 : M ≤ 9223372036854775807) (hr : rightB M E = true) :
    Calls Tryd.prog 29 #[.agg #[.int .i64 M, .int .i64 E]] w (TextPost (textR M E, 0) w) := by
  obtain ⟨r1, r2, r3, r4, _⟩ := rightB_iff.1 hr
  go_enter Tryd.func29, Tryd.ntmps29
  go_wp2_with fail
  obtain ⟨W, hW⟩ : ∃ W, W = w.alloc (.cells #[.int .i64 M, .int .i64 E] 23) := ⟨_, rfl⟩
  rw [← hW]
  have d0 : World.dec W w.heap.size M E := by rw [hW]; exact World.dec_new w M E _ rfl
  have hB : Below w.heap.size w W := by rw [hW]; exact (Below.refl _ w).alloc (Nat.le_refl _) _
  clear hW
  refine (right_any M E _ h0 h1).mono ?_
  rintro e w1 ⟨rfl, hB1⟩
  have d0 := d0.below hB1 d0.lt
  have hB := hB.trans (hB1.mono hB.size)
  clear hB1
  have a0 := d0.c0
  have a1 := d0.c1
  go_wp2_with fail
  refine (lay_any M E _ r1 r2 r3 r4).mono ?_
  rintro e w2 ⟨rfl, hB1⟩
  have hB := hB.trans (hB1.mono hB.size)
  clear hB1 a0 a1 d0
  go_wp2_with (first
        | refine wpList_alloc56 rfl rfl ?_
        | (refine wpList_store56 rfl rfl rfl rfl (World.num_new _ _ _ _) ?_; intro w3 hn3 hg3 hz3))
  have hB : Below w.heap.size w w3 := (hB.alloc hB.size _).grown hg3 (by have := hB.size; simp; omega) (fun k hk => by cases hk; exact hB.size)
  obtain ⟨g, hg⟩ : ∃ g, g = w2.heap.size := ⟨_, rfl⟩
  rw [← hg] at hn3 ⊢
  obtain ⟨D, hD⟩ : ∃ D, D = layD M E := ⟨_, rfl⟩
  rw [← hD] at hn3
  have HD := Lib.hid hD
  clear hg3 hz3 hg hD
  go_loop [5, 14] (fun l k => ∃ K : Nat, k = .int .i64 K ∧ K ≤ 48 ∧ l = .int .i64 (lowK D K)) (fun _ k => 48 - (intOf k).toNat)
  case atStart => exact ⟨0, rfl, by omega, rfl⟩
  case round =>
    obtain ⟨K, rfl, k0, rfl⟩ := hrel
    have hl := lowK_le D K
    by_cases c : K < 48
    · obtain ⟨hc, hf⟩ := World.num.at hn3 K (by omega)
      have hK96 : (K : Int) < 96 := by omega
      by_cases z : dg D K = 0
      · have hz : (dg D K != 0) = false := by simp [z]
        have HL : Hid (lowK D (K + 1) = lowK D K) := by show _ = _; rw [lowK, if_pos z]
        clear z
        go_wp2
        go_round
        case rel => exact ⟨K + 1, by go_num, by omega, by rw [HL.out]⟩
        case measure => first | (simp [intOf]; done) | (simp [intOf]; omega)
      · have hz : (dg D K != 0) = true := by simpa using z
        have HL : Hid (lowK D (K + 1) = min (lowK D K) K) := by show _ = _; rw [lowK, if_neg z]
        clear z
        go_wp2
        go_round
        case rel => exact ⟨K + 1, by go_num, by omega, by rw [HL.out]; congr 1; omega⟩
        case measure => first | (simp [intOf]; done) | (simp [intOf]; omega)
    · obtain rfl : K = 48 := by omega
      have cs := hn3.sign
      have lt3 := hn3.lt
      have hL : lowK D 48 ≤ 48 := lowK_le D 48
      go_upto_if 27 with fail
      obtain ⟨W4, hW⟩ : ∃ W, W = w3.alloc (.cells #[.pointer none, .slice none 0 0] 81) := ⟨_, rfl⟩
      rw [← hW]
      obtain ⟨b0, hb0⟩ : ∃ b, b = w3.heap.size := ⟨_, rfl⟩
      rw [← hb0] at lt3 ⊢
      have hbd : Lib.IsBuilder 81 5 b0 b0 (Lib.byteCells []) W4 := by rw [hW, hb0]; exact Lib.fresh_isBuilder 81 5 w3
      have hn4 : World.num W4 g (decide (M < 0)) (dg D) false := by rw [hW]; exact hn3.alloc _
      have hB4 : Below w.heap.size w W4 := by rw [hW]; exact hB.alloc hB.size _
      have hz4 : b0 < W4.heap.size := by rw [hW, hb0]; simp
      have hwb : w.heap.size ≤ b0 := by rw [hb0]; exact hB.size
      clear hW hb0 cs
      have cs := hn4.sign
      go_cut [] (fun wx => Lib.IsBuilder 81 5 b0 b0 (Lib.byteCells (signL M)) wx ∧ Below b0 W4 wx)
      case first =>
        by_cases hs : M < 0
        · have hsb : decide (M < 0) = true := by simpa using hs
          go_wp2_with (go_at_call 65; refine (byte_any b0 b0 _ 45 _ hbd (by simp [Lib.byteCells]) (by omega)).mono ?_; rintro e w5 ⟨rfl, hbd5, hB5⟩)
          go_meet
          case rel => exact ⟨by rw [signL, if_pos hs]; exact hbd5, hB5⟩
        · have hsb : decide (M < 0) = false := by simpa using hs
          go_wp2_with fail
          go_meet
          case rel => exact ⟨by rw [signL, if_neg (by omega)]; exact hbd, Below.refl _ _⟩
      case rest =>
      obtain ⟨hbd5, hB5⟩ := hcut
      clear cs
      have hn5 := hn4.below hB5 lt3
      obtain ⟨t0, t1, t2, t3⟩ := topF_spec D 96
      have T2 := Lib.hid t2
      have T3 := Lib.hid t3
      clear t2 t3
      go_wp2_with fail
      refine (top_any g _ _ false (topF D 96) _ hn5 t0 (by omega) T2.out T3.out).mono ?_
      rintro e w6 ⟨rfl, rfl⟩
      go_wp2_with fail
      obtain ⟨hh, hh1, hh2⟩ := hiOf_eq D
      rw [← hh]
      obtain ⟨hi, hhi⟩ : ∃ hi, hi = hiOf D := ⟨_, rfl⟩
      rw [← hhi] at hh1 hh2 ⊢
      obtain ⟨L, hLe⟩ : ∃ L, L = lowK D 48 := ⟨_, rfl⟩
      rw [← hLe] at hL ⊢
      have HHI := Lib.hid hhi
      have HLE := Lib.hid hLe
      clear hh hhi hLe t0 t1 T2 T3
      have hsl : (signL M).length ≤ 1 := by unfold signL; split <;> simp
      go_loopw [8] (fun k wr => ∃ n : Nat, k = .int .i64 ((hi : Int) - n) ∧ n ≤ hi + 1 - L ∧ Lib.IsBuilder 81 5 b0 b0 (Lib.byteCells (signL M ++ wrt D hi n)) wr ∧ Below b0 W4 wr) (fun k _ => (intOf k + 1).toNat)
      case atStart => exact ⟨0, by simp, by omega, by rw [wrt, List.append_nil]; exact hbd5, hB5⟩
      case round =>
        obtain ⟨n, rfl, n0, hbdr, hBr⟩ := hrel
        clear hbd5 hB5 hn5
        have hwl := wrt_len D hi n
        have hz5 := hBr.size
        have hlen0 : (Lib.byteCells (signL M ++ wrt D hi n)).length ≤ 1 + 2 * n := by rw [Lib.byteCells_length, List.length_append]; omega
        have hn6 := hn4.below hBr lt3
        by_cases c : n < hi + 1 - L
        · obtain ⟨k, hk⟩ : ∃ k, k = hi - n := ⟨_, rfl⟩
          rw [show ((hi : Int) - (n : Int)) = (k : Int) by omega]
          have hkL : (L : Int) ≤ (k : Int) := by omega
          have hk96 : (k : Int) < 96 := by omega
          have hn1 : n + 1 ≤ hi + 1 - L := by omega
          have HK := Lib.hid hk
          clear hk
          obtain ⟨hc, hf⟩ := World.num.at hn6 k (by omega)
          have q0 := dg_nonneg D k
          have q9 := dg_le D k
          by_cases p : k = 47
          · have hpb : ((k : Int) == 47) = true := by simp; omega
            have HC : Hid (chunk D k = [46, UInt8.ofNat (48 + D / 10 ^ k % 10)]) := by show _ = _; rw [chunk, if_pos p]; rfl
            clear p
            go_wp2_with fail
            refine (byte_any b0 b0 _ 46 _ hbdr (by omega) (by omega)).mono ?_
            rintro e w7 ⟨rfl, hbd7, hB7⟩
            rw [bytes_one _ 46 46 rfl] at hbd7
            have hB8 := hBr.trans hB7
            have hz7 := hB8.size
            obtain ⟨hc, hf⟩ := World.num.at (hn4.below hB8 lt3) k (by omega)
            go_wp2_with fail
            refine (byte_any b0 b0 _ (48 + dg D k) _ hbd7 (by rw [Lib.byteCells_length] at hlen0 ⊢; rw [List.length_append, List.length_singleton]; omega) (by omega)).mono ?_
            rintro e w8 ⟨rfl, hbd8, hB9⟩
            rw [bytes_one _ _ _ (digit_byte D k)] at hbd8
            go_wp2_with fail
            go_roundw
            case rel => exact ⟨n + 1, by have := HK.out; congr 1; omega, hn1, by rw [wrt, ← HK.out, HC.out, ← List.append_assoc]; simpa using hbd8, hB8.trans hB9⟩
            case measure => first | (simp [intOf]; done) | (simp [intOf]; omega)
          · have hpb : ((k : Int) == 47) = false := by simp; omega
            have HC : Hid (chunk D k = [UInt8.ofNat (48 + D / 10 ^ k % 10)]) := by show _ = _; rw [chunk, if_neg p]; rfl
            clear p
            go_wp2_with fail
            refine (byte_any b0 b0 _ (48 + dg D k) _ hbdr (by omega) (by omega)).mono ?_
            rintro e w8 ⟨rfl, hbd8, hB9⟩
            rw [bytes_one _ _ _ (digit_byte D k)] at hbd8
            go_wp2_with fail
            go_roundw
            case rel => exact ⟨n + 1, by have := HK.out; congr 1; omega, hn1, by rw [wrt, ← HK.out, HC.out, ← List.append_assoc]; exact hbd8, hBr.trans hB9⟩
            case measure => first | (simp [intOf]; done) | (simp [intOf]; omega)
        · obtain rfl : n = hi + 1 - L := by omega
          rw [show ((hi : Int) - ((hi + 1 - L : Nat) : Int)) = (L : Int) - 1 by omega]
          go_wp2_with fail
          refine (Tryd.Builder_String_any b0 b0 _ _ hbdr (by omega)).mono ?_
          rintro e w8 ⟨rfl, hB9⟩
          go_wp2_with fail
          refine bodyPost_ret (results_tmp2 rfl _ _ _) rfl ?_
          refine ⟨?_, hB4.trans ((hBr.trans hB9).mono hwb)⟩
          rw [textR, ← HD.out, ← HHI.out, lowOf, ← HLE.out]; rfl

set_option maxRecDepth 100000 in
set_option maxHeartbeats 4000000 in
theorem text_no (M E : Int) (w : World) (h0 : -9223372036854775808 ≤ M) (h1 : M ≤ 9223372036854775807) (hr : rightB M E = false) :
    Calls Tryd.prog 29 #[.agg #[.int .i64 M, .int .i64 E]] w (TextPost ([], 10) w) := by
  go_enter Tryd.func29, Tryd.ntmps29
  go_wp2_with fail
  obtain ⟨W, hW⟩ : ∃ W, W = w.alloc (.cells #[.int .i64 M, .int .i64 E] 23) := ⟨_, rfl⟩
  rw [← hW]
  have hB : Below w.heap.size w W := by rw [hW]; exact (Below.refl _ w).alloc (Nat.le_refl _) _
  clear hW
  refine (right_any M E _ h0 h1).mono ?_
  rintro e w1 ⟨rfl, hB1⟩
  have hB := hB.trans (hB1.mono hB.size)
  go_wp2_with fail
  refine bodyPost_ret (results_tmp2 rfl _ _ _) rfl ?_
  exact ⟨rfl, hB⟩
theorem text_any (M E : Int) (w : World) (h0 : -9223372036854775808 ≤ M) (h1 : M ≤ 9223372036854775807) :
    Calls Tryd.prog 29 #[.agg #[.int .i64 M, .int .i64 E]] w (TextPost (textD M E) w) := by
  unfold textD
  by_cases hr : rightB M E = true
  · rw [if_pos hr]; exact text_ok M E w h0 h1 hr
  · rw [if_neg hr]; exact text_no M E w h0 h1 (by simpa using hr)
end Go.Proofs.YtpkohfdebgiloaaDoor
