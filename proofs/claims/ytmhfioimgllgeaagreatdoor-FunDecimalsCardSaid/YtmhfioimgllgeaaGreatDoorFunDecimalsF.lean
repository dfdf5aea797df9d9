/- FunDecimals: the row's closed facts, one by one. (By genframe07.py.) -/
import Derived.Test.YtmhfioimgllgeaaGreatDoorCards
import Derived.JoinedOf
import Derived.KernelRfl
namespace Go.Proofs.YtmhfioimgllgeaaGreatDoor.funDecimals
open Go
theorem fact0 :(Rows.funDecimalsRow.wf (OpenSpec.ofChange (OpenSpec.ofChange Rows.funDecimalsSpec).bare):Bool)=true:=by kernel_rfl
theorem fact1 :(laidOutB Tryz.prog:Bool)=true:=by kernel_rfl
theorem fact2 :(mapsRowed Tryz.prog:Bool)=true:=by kernel_rfl
theorem fact3 :(Tryz.f10.params.all (Tryz.prog.readableRec ·):Bool)=true:=by kernel_rfl
theorem fact4 :(namedTie Tryz.prog Rows.funDecimalsRow.named (OpenSpec.ofChange Rows.funDecimalsSpec).bare.vars:Bool)=true:=by kernel_rfl
theorem fact5 :((Rows.funDecimalsRow.stops== []):Bool)=true:=by kernel_rfl
theorem fact6 :((Tryz.prog.stops== []):Bool)=true:=by kernel_rfl
theorem fact7 :((Rows.funDecimalsRow.knobs== []):Bool)=true:=by kernel_rfl
theorem fact8 :((Tryz.prog.stopKnobs== []):Bool)=true:=by kernel_rfl
theorem fact9 :((Rows.funDecimalsRow.inPlace==Tryz.prog.inPlace 10):Bool)=true:=by kernel_rfl
theorem fact10 :((Rows.funDecimalsRow.unfollowed==Tryz.prog.unfollowed 10):Bool)=true:=by kernel_rfl
theorem fact11 :((Rows.funDecimalsRow.recurses==Tryz.prog.recurses 10):Bool)=true:=by kernel_rfl
theorem fact12 :((Rows.funDecimalsRow.named==Tryz.prog.varsNamed 10):Bool)=true:=by kernel_rfl
theorem fact13 :((Rows.funDecimalsRow.maps==(Tryz.f10.params.toList++(OpenSpec.ofChange Rows.funDecimalsSpec).bare.plain.varTypes Tryz.prog).any (Tryz.prog.mapsRec ·)):Bool)=true:=by kernel_rfl
theorem fact14 :((Rows.funDecimalsRow.ifaces==(Tryz.f10.params.toList++(OpenSpec.ofChange Rows.funDecimalsSpec).bare.plain.varTypes Tryz.prog).any (Tryz.prog.ifacesRec ·)):Bool)=true:=by kernel_rfl
theorem fact15 :((Rows.funDecimalsRow.mapsOut==Tryz.prog.mapsAmong Tryz.f10.resultTypes.toList):Bool)=true:=by kernel_rfl
theorem fact16 :((Rows.funDecimalsRow.loops==(Tryz.f10.params.toList++(OpenSpec.ofChange Rows.funDecimalsSpec).bare.plain.varTypes Tryz.prog).any (Tryz.prog.loopsFrom ·)):Bool)=true:=by kernel_rfl
theorem fact17 :((Rows.funDecimalsRow.wideKeys==(Tryz.f10.params.toList++(OpenSpec.ofChange Rows.funDecimalsSpec).bare.plain.varTypes Tryz.prog++Tryz.f10.resultTypes.toList).any (Tryz.prog.wideKeysFrom ·)):Bool)=true:=by kernel_rfl
theorem fact18 :((OpenSpec.ofChange Rows.funDecimalsSpec).bare.vars.all (Tryz.prog.varReadable ·):Bool)=true:=by kernel_rfl
theorem fact19 :(Tryz.f10.resultTypes.all (fun t=>Tryz.prog.readableRec t&&decide (t<Tryz.prog.types.size)):Bool)=true:=by kernel_rfl
theorem fact20 :((Rows.funDecimalsRow.ifacesOut==Tryz.f10.resultTypes.toList.any (Tryz.prog.ifacesRec ·)):Bool)=true:=by kernel_rfl
theorem fact21 :((Rows.funDecimalsRow.loopsOut==Tryz.f10.resultTypes.toList.any (Tryz.prog.loopsFrom ·)):Bool)=true:=by kernel_rfl
theorem fact22 :((Rows.funDecimalsRow.plainKeys==Tryz.prog.plainKeys):Bool)=true:=by kernel_rfl
theorem fact23 :(Rows.funDecimalsRow.shortTexts.isNone:Bool)=true:=by kernel_rfl
theorem fact24 :(Tryz.prog.stopsHeard:Bool)=true:=by kernel_rfl
theorem fact25 :(Tryz.prog.mayEnter:Bool)=true:=by kernel_rfl
theorem fact26 :((Rows.funDecimalsRow.lifted==Tryz.prog.liftsFinal):Bool)=true:=by kernel_rfl
theorem fact27 :((Tryz.prog.make==some Rows.funDecimalsRow.make):Bool)=true:=by kernel_rfl
theorem fact28 :((Rows.funDecimalsRow.kinds==(if Rows.funDecimalsRow.domain.isEmpty then []else Tryz.f10.params.toList.map fun t=>match Tryz.prog.underlying t with|some (.int k)=>some k|_=>none)):Bool)=true:=by kernel_rfl
theorem fact29 :((Rows.funDecimalsRow.pinned==Rows.funDecimalsRow.pinnedBy):Bool)=true:=by kernel_rfl
theorem fact30 :((Rows.funDecimalsRow.veiled==(Tryz.f10.params.toList++(OpenSpec.ofChange Rows.funDecimalsSpec).bare.plain.varTypes Tryz.prog++Tryz.f10.resultTypes.toList).any (Tryz.prog.veiledRec ·)):Bool)=true:=by kernel_rfl
theorem fact31 :(Rows.funDecimalsRow.veiledFits Tryz.prog Tryz.f10.params.toList (Tryz.f10.params.toList++(OpenSpec.ofChange Rows.funDecimalsSpec).bare.plain.varTypes Tryz.prog++Tryz.f10.resultTypes.toList):Bool)=true:=by kernel_rfl
theorem andT {a b:Bool} (ha:a=true) (hb:b=true):(a&&b)=true:=by rw[ha,hb];rfl
set_option maxRecDepth 100000 in
theorem closed :joinedFacts Tryz.prog 10 Tryz.f10 (OpenSpec.ofChange Rows.funDecimalsSpec).bare Rows.funDecimalsRow=true:=(andT (andT (andT (andT (andT (andT (andT (andT (andT (andT (andT (andT (andT (andT (andT (andT (andT (andT (andT (andT (andT (andT (andT (andT (andT (andT (andT (andT (andT (andT (andT fact0 fact1) fact2) fact3) fact4) fact5) fact6) fact7) fact8) fact9) fact10) fact11) fact12) fact13) fact14) fact15) fact16) fact17) fact18) fact19) fact20) fact21) fact22) fact23) fact24) fact25) fact26) fact27) fact28) fact29) fact30) fact31)
end Go.Proofs.YtmhfioimgllgeaaGreatDoor.funDecimals
