/- DecTells: the law's function returns true for every input, and each argument reads afterwards as it read before; the package-level variables that the row lists read as the program's text lays them. -/
import Derived.Test.YtpkohfdebgiloaaDoorTell
import Derived.Test.YtpkohfdebgiloaaDoorCards
import Derived.Test.YtpkohfdebgiloaaDoorTie
import Derived.ProofKit
import Derived.Lay
import Derived.Deep.DeepHandedRow
import Derived.Lib.SmallJoins
import Derived.ChangeSame
import Derived.JoinedOf
import Derived.JoinedAt
import Derived.RowKit3
import Derived.ChangeMaps5
namespace Go.Proofs.YtpkohfdebgiloaaDoor.decTells
open Go.ChangeMaps Go.ChangeShapes Go.WideShapes Go.ChangeAt Go.RowKit Go.Joins

theorem own : ownKnob Tryd.prog.godebug = none := by kernel_rfl
theorem cells23 : Tryd.prog.cellsOf 23 = 2 := by kernel_rfl
theorem i64bd {a : Int} (h : (Lit.int .i64 a).wf = true) : -9223372036854775808 ≤ a ∧ a ≤ 9223372036854775807 := by
  simpa [Lit.wf, IntKind.min, IntKind.max, IntKind.signed, IntKind.bits] using h
set_option maxRecDepth 100000 in
theorem laid_met (os : Os) : laidMet Tryd.prog Rows.decTellsRow.laid ((World.laidAll Tryd.prog os Rows.decTellsRow.laid).forCall (fun _ _ => 0) ⟨#[], #[.agg #[.int .i64 0, .int .i64 0], .agg #[.int .i64 0, .int .i64 0], .int .i64 0, .string ⟨#[]⟩], []⟩).memory :=
  laidMet_laidAll _ (by kernel_rfl) (by kernel_rfl)
theorem reads (os : Os) {H : Type} (enc : TypeId × Value → H) : ∃ places, DataW.whole enc Tryd.prog ((World.laidAll Tryd.prog os Rows.decTellsRow.laid).forCall (fun _ _ => 0) ⟨#[], #[.agg #[.int .i64 0, .int .i64 0], .agg #[.int .i64 0, .int .i64 0], .int .i64 0, .string ⟨#[]⟩], []⟩).memory Tryd.f3.params.toList Rows.decTellsSpec.vars false (#[.agg #[.int .i64 0, .int .i64 0], .agg #[.int .i64 0, .int .i64 0], .int .i64 0, .string ⟨#[]⟩] : Array Value).toList 8 = some ([.agg [.lit (.int .i64 0), .lit (.int .i64 0)], .agg [.lit (.int .i64 0), .lit (.int .i64 0)], .lit (.int .i64 0), .lit (.string [])], [], places) :=
  ⟨[], by kernel_rfl⟩

set_option maxRecDepth 100000 in
set_option maxHeartbeats 2000000 in
theorem lifted (os : Os) (started : os.Started) (H : Type) (enc : TypeId × Value → H) (F : Stop.Interp) :
    ReturnsInHanded {} Tryd.checked os 3 .any ((OpenSpec.ofChange Rows.decTellsSpec).preRow enc Tryd.prog Tryd.f3 Rows.decTellsRow.domain false Rows.decTellsRow.laid) (((OpenSpec.ofChange Rows.decTellsSpec).at F).post enc Tryd.prog Tryd.f3 false true false false) := by
  obtain ⟨places, hx⟩ := reads os enc
  refine returnsInHanded_of_row (C := Tryd.checked) (s := OpenSpec.ofChange Rows.decTellsSpec) own started (by kernel_rfl) Tryd.func3
    (witness_row_at (enc := enc) (C := Tryd.checked) false (World.laidAll Tryd.prog os Rows.decTellsRow.laid) #[.agg #[.int .i64 0, .int .i64 0], .agg #[.int .i64 0, .int .i64 0], .int .i64 0, .string ⟨#[]⟩] (World.laidAll_os _ _ _) (by kernel_rfl) (by kernel_rfl) (by kernel_rfl)
      (OpenSpec.preRow_of_cond 8 hx (by kernel_rfl) (fun k hk => by cases hk) (by kernel_rfl) (laid_met os))) ?_
  intro W base args ds gs before hval0 hW _ _ _ _ hsh _
  have hval : ∀ (j : Nat) t v, Tryd.f3.params[j]? = some t → args[j]? = some v → Value.okWide Tryd.prog W .any base t v := hval0
  have hW' := hW
  obtain ⟨p, q, hA0, hV, rfl, _, _⟩ := hW
  have hA : DataW.TrodAll enc Tryd.prog W 0 (fun _ => true) true Tryd.f3.params.toList args.toList ds p := hA0
  rw [Tryd.params3] at hA hval
  obtain ⟨v0, vs0, d0, ds0, p0, q0, hargs0, hds0, hps0, t0, r0⟩ := trodAll_cons hA
  obtain ⟨v1, vs1, d1, ds1, p1, q1, hargs1, hds1, hps1, t1, r1⟩ := trodAll_cons r0
  obtain ⟨v2, vs2, d2, ds2, p2, q2, hargs2, hds2, hps2, t2, r2⟩ := trodAll_cons r1
  obtain ⟨v3, vs3, d3, ds3, p3, q3, hargs3, hds3, hps3, t3, r3⟩ := trodAll_cons r2
  obtain ⟨hn1, hn2, hn3⟩ := trodAll_nil r3
  subst hn1 hn2 hn3
  subst hds3 hps3
  subst hds2 hps2
  subst hds1 hps1
  subst hds0 hps0
  have hargs : args = #[v0, v1, v2, v3] := by
    have : args.toList = [v0, v1, v2, v3] := by rw [hargs0, hargs1, hargs2, hargs3]
    cases args; simp_all
  subst hargs
  obtain ⟨rfl, rfl⟩ := trodVars_none hV
  obtain ⟨c00, c01, y00, y01, m0, rfl, rfl, rfl, hy00, hy01⟩ := open_agg2 Tryd.underlying23 (by kernel_rfl) cells23 (hval 0 23 v0 rfl rfl) t0
  obtain ⟨a0, e00, rfl, wa0⟩ := DataW.trod_int Tryd.underlying3 hy00
  obtain ⟨b0, e01, rfl, wb0⟩ := DataW.trod_int Tryd.underlying3 hy01
  simp at e00 e01
  subst e00 e01
  obtain ⟨ba00, ba01⟩ := i64bd wa0
  obtain ⟨bb00, bb01⟩ := i64bd wb0
  obtain ⟨c10, c11, y10, y11, m1, rfl, rfl, rfl, hy10, hy11⟩ := open_agg2 Tryd.underlying23 (by kernel_rfl) cells23 (hval 1 23 v1 rfl rfl) t1
  obtain ⟨a1, e10, rfl, wa1⟩ := DataW.trod_int Tryd.underlying3 hy10
  obtain ⟨b1, e11, rfl, wb1⟩ := DataW.trod_int Tryd.underlying3 hy11
  simp at e10 e11
  subst e10 e11
  obtain ⟨ba10, ba11⟩ := i64bd wa1
  obtain ⟨bb10, bb11⟩ := i64bd wb1
  obtain ⟨a2, rfl, rfl, rfl, wa2⟩ := open_int Tryd.underlying3 (hval 2 3 v2 rfl rfl) t2
  obtain ⟨ba20, ba21⟩ := i64bd wa2
  obtain ⟨s3, rfl, rfl, rfl, ws3⟩ := open_string Tryd.underlying9 (hval 3 9 v3 rfl rfl) t3
  clear hA0 hval0
  simp only [List.append_nil] at hW'
  have read0 : ∀ (W' : World) (sp : Nat → Bool), DataW.Trod enc Tryd.prog W' 0 sp true 23 (.agg #[.int .i64 a0, .int .i64 b0]) (.agg [.lit (.int .i64 a0), .lit (.int .i64 b0)]) [] := fun W' sp =>
    shut_agg2 (y0 := (.lit (.int .i64 a0), [])) (y1 := (.lit (.int .i64 b0), [])) Tryd.underlying23 (by kernel_rfl) cells23 ⟨1, by simp [DataW.trod, Tryd.underlying3, wa0]⟩ ⟨1, by simp [DataW.trod, Tryd.underlying3, wb0]⟩
  have read1 : ∀ (W' : World) (sp : Nat → Bool), DataW.Trod enc Tryd.prog W' 0 sp true 23 (.agg #[.int .i64 a1, .int .i64 b1]) (.agg [.lit (.int .i64 a1), .lit (.int .i64 b1)]) [] := fun W' sp =>
    shut_agg2 (y0 := (.lit (.int .i64 a1), [])) (y1 := (.lit (.int .i64 b1), [])) Tryd.underlying23 (by kernel_rfl) cells23 ⟨1, by simp [DataW.trod, Tryd.underlying3, wa1]⟩ ⟨1, by simp [DataW.trod, Tryd.underlying3, wb1]⟩
  refine (tells_walk a0 b0 a1 b1 a2 s3 W (Tryd.laysM145.s1_3 W hsh) ba00 ba01 bb00 bb01 ba10 ba11 bb10 bb11 ba20 ba21 (by have := ws3; unfold maxLen at this; omega)).mono fun e W' ⟨he, hb⟩ => ?_
  subst he
  exact ⟨_, rfl, _, _, _, [], [], [], hW', trodAll_mk1 (shut_bool Tryd.underlying4 _), (trodAll_cons_mk (read0 _ _) (trodAll_cons_mk (read1 _ _) (trodAll_cons_mk (shut_int Tryd.underlying3 wa2) (trodAll_cons_mk (shut_string Tryd.underlying9 ws3) trodAll_mk0)))), rfl, hb.frame _, fun h => by cases h⟩

theorem said : Rows.DecTellsSaid :=
  OpenClaim.holds_of_cond 3 Tryd.f3 rfl rfl rfl rfl rfl rfl rfl ⟨rfl, rfl, rfl, rfl, rfl⟩ rfl rfl rfl rfl rfl (by kernel_rfl) Tryd.func3 (by kernel_rfl)
    (of_decide_eq_true (by kernel_rfl)) (by unfold Func.isWrapper; first | (rw [if_pos (by decide +kernel)]; kernel_rfl) | (rw [if_neg (by decide +kernel)]; exact ⟨rfl, rfl⟩))
    (fun os started H enc _ F => by rw [OpenClaim.pre_eq_preRow]; exact lifted os started H enc F)

theorem plain (f : FuncId) (fn : Func) (hf : Tryd.pinned.checked.prog.funcNamed "tabula/tabulalaw01.DecTells" = some f) (hfn : Tryd.pinned.checked.prog.funcs[f]? = some fn) :
    false = Tryd.pinned.checked.prog.looks [] ∧ ∀ (j : Nat) t, fn.params[j]? = some t → Tryd.pinned.checked.prog.wantsStandIn t = false := by
  obtain rfl : f = 3 := Option.some.inj ((show Tryd.prog.funcNamed "tabula/tabulalaw01.DecTells" = some 3 by kernel_rfl).symm.trans hf) |>.symm
  obtain rfl : fn = Tryd.f3 := (Option.some.inj (Tryd.func3.symm.trans hfn)).symm
  refine ⟨by kernel_rfl, fun j t ht => ?_⟩
  rw [Tryd.params3] at ht
  have hm : t ∈ [23, 23, 3, 9] := by simpa using Array.mem_of_getElem? ht
  have hall : ([23, 23, 3, 9].all fun u => !Tryd.prog.wantsStandIn u) = true := by kernel_rfl
  exact (show Tryd.prog.wantsStandIn t = false by simpa using List.all_eq_true.1 hall t hm)

theorem card : Rows.DecTellsCardSaid :=
  Claim7.holds_tied_plain_at .later [] _ _ _ _ said (fun _ h => by cases h) (by kernel_rfl) (fun _ h => by cases h) decTells_row_tie rfl ⟨rfl, rfl⟩ (by kernel_rfl) rfl plain (by kernel_rfl)
end Go.Proofs.YtpkohfdebgiloaaDoor.decTells
