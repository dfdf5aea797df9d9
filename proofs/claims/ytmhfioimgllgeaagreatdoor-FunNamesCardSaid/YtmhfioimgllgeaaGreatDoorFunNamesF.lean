/- FunNames: the row's closed facts, one by one. (By genframe07.py.) -/
import Derived.Test.YtmhfioimgllgeaaGreatDoorCards
import Derived.JoinedOf
import Derived.KernelRfl
namespace Go.Proofs.YtmhfioimgllgeaaGreatDoor.funNames
open Go
theorem fact0 : (Rows.funNamesRow.wf (OpenSpec.ofChange (OpenSpec.ofChange Rows.funNamesSpec).bare) : Bool) = true := by kernel_rfl
theorem fact1 : (laidOutB Tryz.prog : Bool) = true := by kernel_rfl
theorem fact2 : (mapsRowed Tryz.prog : Bool) = true := by kernel_rfl
theorem fact3 : (Tryz.f3.params.all (Tryz.prog.readableRec ·) : Bool) = true := by kernel_rfl
theorem fact4 : (namedTie Tryz.prog Rows.funNamesRow.named (OpenSpec.ofChange Rows.funNamesSpec).bare.vars : Bool) = true := by kernel_rfl
theorem fact5 : ((Rows.funNamesRow.stops == []) : Bool) = true := by kernel_rfl
theorem fact6 : ((Tryz.prog.stops == []) : Bool) = true := by kernel_rfl
theorem fact7 : ((Rows.funNamesRow.knobs == []) : Bool) = true := by kernel_rfl
theorem fact8 : ((Tryz.prog.stopKnobs == []) : Bool) = true := by kernel_rfl
theorem fact9 : ((Rows.funNamesRow.inPlace == Tryz.prog.inPlace 3) : Bool) = true := by kernel_rfl
theorem fact10 : ((Rows.funNamesRow.unfollowed == Tryz.prog.unfollowed 3) : Bool) = true := by kernel_rfl
theorem fact11 : ((Rows.funNamesRow.recurses == Tryz.prog.recurses 3) : Bool) = true := by kernel_rfl
theorem fact12 : ((Rows.funNamesRow.named == Tryz.prog.varsNamed 3) : Bool) = true := by kernel_rfl
theorem fact13 : ((Rows.funNamesRow.maps == (Tryz.f3.params.toList ++ (OpenSpec.ofChange Rows.funNamesSpec).bare.plain.varTypes Tryz.prog).any (Tryz.prog.mapsRec ·)) : Bool) = true := by kernel_rfl
theorem fact14 : ((Rows.funNamesRow.ifaces == (Tryz.f3.params.toList ++ (OpenSpec.ofChange Rows.funNamesSpec).bare.plain.varTypes Tryz.prog).any (Tryz.prog.ifacesRec ·)) : Bool) = true := by kernel_rfl
theorem fact15 : ((Rows.funNamesRow.mapsOut == Tryz.prog.mapsAmong Tryz.f3.resultTypes.toList) : Bool) = true := by kernel_rfl
theorem fact16 : ((Rows.funNamesRow.loops == (Tryz.f3.params.toList ++ (OpenSpec.ofChange Rows.funNamesSpec).bare.plain.varTypes Tryz.prog).any (Tryz.prog.loopsFrom ·)) : Bool) = true := by kernel_rfl
theorem fact17 : ((Rows.funNamesRow.wideKeys == (Tryz.f3.params.toList ++ (OpenSpec.ofChange Rows.funNamesSpec).bare.plain.varTypes Tryz.prog ++ Tryz.f3.resultTypes.toList).any (Tryz.prog.wideKeysFrom ·)) : Bool) = true := by kernel_rfl
theorem fact18 : ((OpenSpec.ofChange Rows.funNamesSpec).bare.vars.all (Tryz.prog.varReadable ·) : Bool) = true := by kernel_rfl
theorem fact19 : (Tryz.f3.resultTypes.all (fun t => Tryz.prog.readableRec t && decide (t < Tryz.prog.types.size)) : Bool) = true := by kernel_rfl
theorem fact20 : ((Rows.funNamesRow.ifacesOut == Tryz.f3.resultTypes.toList.any (Tryz.prog.ifacesRec ·)) : Bool) = true := by kernel_rfl
theorem fact21 : ((Rows.funNamesRow.loopsOut == Tryz.f3.resultTypes.toList.any (Tryz.prog.loopsFrom ·)) : Bool) = true := by kernel_rfl
theorem fact22 : ((Rows.funNamesRow.plainKeys == Tryz.prog.plainKeys) : Bool) = true := by kernel_rfl
theorem fact23 : (Rows.funNamesRow.shortTexts.isNone : Bool) = true := by kernel_rfl
theorem fact24 : (Tryz.prog.stopsHeard : Bool) = true := by kernel_rfl
theorem fact25 : (Tryz.prog.mayEnter : Bool) = true := by kernel_rfl
theorem fact26 : ((Rows.funNamesRow.lifted == Tryz.prog.liftsFinal) : Bool) = true := by kernel_rfl
theorem fact27 : ((Tryz.prog.make == some Rows.funNamesRow.make) : Bool) = true := by kernel_rfl
theorem fact28 : ((Rows.funNamesRow.kinds == (if Rows.funNamesRow.domain.isEmpty then [] else Tryz.f3.params.toList.map fun t => match Tryz.prog.underlying t with | some (.int k) => some k | _ => none)) : Bool) = true := by kernel_rfl
theorem fact29 : ((Rows.funNamesRow.pinned == Rows.funNamesRow.pinnedBy) : Bool) = true := by kernel_rfl
theorem fact30 : ((Rows.funNamesRow.veiled == (Tryz.f3.params.toList ++ (OpenSpec.ofChange Rows.funNamesSpec).bare.plain.varTypes Tryz.prog ++ Tryz.f3.resultTypes.toList).any (Tryz.prog.veiledRec ·)) : Bool) = true := by kernel_rfl
theorem fact31 : (Rows.funNamesRow.veiledFits Tryz.prog Tryz.f3.params.toList (Tryz.f3.params.toList ++ (OpenSpec.ofChange Rows.funNamesSpec).bare.plain.varTypes Tryz.prog ++ Tryz.f3.resultTypes.toList) : Bool) = true := by kernel_rfl
theorem andT {a b : Bool} (ha : a = true) (hb : b = true) : (a && b) = true := by rw [ha, hb]; rfl
set_option maxRecDepth 100000 in
theorem closed : joinedFacts Tryz.prog 3 Tryz.f3 (OpenSpec.ofChange Rows.funNamesSpec).bare Rows.funNamesRow = true := (andT (andT (andT (andT (andT (andT (andT (andT (andT (andT (andT (andT (andT (andT (andT (andT (andT (andT (andT (andT (andT (andT (andT (andT (andT (andT (andT (andT (andT (andT (andT fact0 fact1) fact2) fact3) fact4) fact5) fact6) fact7) fact8) fact9) fact10) fact11) fact12) fact13) fact14) fact15) fact16) fact17) fact18) fact19) fact20) fact21) fact22) fact23) fact24) fact25) fact26) fact27) fact28) fact29) fact30) fact31)
end Go.Proofs.YtmhfioimgllgeaaGreatDoor.funNames
