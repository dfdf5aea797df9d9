/- FunFaults: the row's closed facts, one by one. (By genframe07.py.) -/
import Derived.Test.YtmhfioimgllgeaaGreatDoorCards
import Derived.JoinedOf
import Derived.KernelRfl
namespace Go.Proofs.YtmhfioimgllgeaaGreatDoor.funFaults
open Go
theorem fact0 :(Rows.funFaultsRow.wf (OpenSpec.ofChange (OpenSpec.ofChange Rows.funFaultsSpec).bare):Bool)=true:=by kernel_rfl
theorem fact1 :(laidOutB Tryz.prog:Bool)=true:=by kernel_rfl
theorem fact2 :(mapsRowed Tryz.prog:Bool)=true:=by kernel_rfl
theorem fact3 :(Tryz.f9.params.all (Tryz.prog.readableRec ·):Bool)=true:=by kernel_rfl
theorem fact4 :(namedTie Tryz.prog Rows.funFaultsRow.named (OpenSpec.ofChange Rows.funFaultsSpec).bare.vars:Bool)=true:=by kernel_rfl
theorem fact5 :((Rows.funFaultsRow.stops== []):Bool)=true:=by kernel_rfl
theorem fact6 :((Tryz.prog.stops== []):Bool)=true:=by kernel_rfl
theorem fact7 :((Rows.funFaultsRow.knobs== []):Bool)=true:=by kernel_rfl
theorem fact8 :((Tryz.prog.stopKnobs== []):Bool)=true:=by kernel_rfl
theorem fact9 :((Rows.funFaultsRow.inPlace==Tryz.prog.inPlace 9):Bool)=true:=by kernel_rfl
theorem fact10 :((Rows.funFaultsRow.unfollowed==Tryz.prog.unfollowed 9):Bool)=true:=by kernel_rfl
theorem fact11 :((Rows.funFaultsRow.recurses==Tryz.prog.recurses 9):Bool)=true:=by kernel_rfl
theorem fact12 :((Rows.funFaultsRow.named==Tryz.prog.varsNamed 9):Bool)=true:=by kernel_rfl
theorem fact13 :((Rows.funFaultsRow.maps==(Tryz.f9.params.toList++(OpenSpec.ofChange Rows.funFaultsSpec).bare.plain.varTypes Tryz.prog).any (Tryz.prog.mapsRec ·)):Bool)=true:=by kernel_rfl
theorem fact14 :((Rows.funFaultsRow.ifaces==(Tryz.f9.params.toList++(OpenSpec.ofChange Rows.funFaultsSpec).bare.plain.varTypes Tryz.prog).any (Tryz.prog.ifacesRec ·)):Bool)=true:=by kernel_rfl
theorem fact15 :((Rows.funFaultsRow.mapsOut==Tryz.prog.mapsAmong Tryz.f9.resultTypes.toList):Bool)=true:=by kernel_rfl
theorem fact16 :((Rows.funFaultsRow.loops==(Tryz.f9.params.toList++(OpenSpec.ofChange Rows.funFaultsSpec).bare.plain.varTypes Tryz.prog).any (Tryz.prog.loopsFrom ·)):Bool)=true:=by kernel_rfl
theorem fact17 :((Rows.funFaultsRow.wideKeys==(Tryz.f9.params.toList++(OpenSpec.ofChange Rows.funFaultsSpec).bare.plain.varTypes Tryz.prog++Tryz.f9.resultTypes.toList).any (Tryz.prog.wideKeysFrom ·)):Bool)=true:=by kernel_rfl
theorem fact18 :((OpenSpec.ofChange Rows.funFaultsSpec).bare.vars.all (Tryz.prog.varReadable ·):Bool)=true:=by kernel_rfl
theorem fact19 :(Tryz.f9.resultTypes.all (fun t=>Tryz.prog.readableRec t&&decide (t<Tryz.prog.types.size)):Bool)=true:=by kernel_rfl
theorem fact20 :((Rows.funFaultsRow.ifacesOut==Tryz.f9.resultTypes.toList.any (Tryz.prog.ifacesRec ·)):Bool)=true:=by kernel_rfl
theorem fact21 :((Rows.funFaultsRow.loopsOut==Tryz.f9.resultTypes.toList.any (Tryz.prog.loopsFrom ·)):Bool)=true:=by kernel_rfl
theorem fact22 :((Rows.funFaultsRow.plainKeys==Tryz.prog.plainKeys):Bool)=true:=by kernel_rfl
theorem fact23 :(Rows.funFaultsRow.shortTexts.isNone:Bool)=true:=by kernel_rfl
theorem fact24 :(Tryz.prog.stopsHeard:Bool)=true:=by kernel_rfl
theorem fact25 :(Tryz.prog.mayEnter:Bool)=true:=by kernel_rfl
theorem fact26 :((Rows.funFaultsRow.lifted==Tryz.prog.liftsFinal):Bool)=true:=by kernel_rfl
theorem fact27 :((Tryz.prog.make==some Rows.funFaultsRow.make):Bool)=true:=by kernel_rfl
theorem fact28 :((Rows.funFaultsRow.kinds==(if Rows.funFaultsRow.domain.isEmpty then []else Tryz.f9.params.toList.map fun t=>match Tryz.prog.underlying t with|some (.int k)=>some k|_=>none)):Bool)=true:=by kernel_rfl
theorem fact29 :((Rows.funFaultsRow.pinned==Rows.funFaultsRow.pinnedBy):Bool)=true:=by kernel_rfl
theorem fact30 :((Rows.funFaultsRow.veiled==(Tryz.f9.params.toList++(OpenSpec.ofChange Rows.funFaultsSpec).bare.plain.varTypes Tryz.prog++Tryz.f9.resultTypes.toList).any (Tryz.prog.veiledRec ·)):Bool)=true:=by kernel_rfl
theorem fact31 :(Rows.funFaultsRow.veiledFits Tryz.prog Tryz.f9.params.toList (Tryz.f9.params.toList++(OpenSpec.ofChange Rows.funFaultsSpec).bare.plain.varTypes Tryz.prog++Tryz.f9.resultTypes.toList):Bool)=true:=by kernel_rfl
theorem andT {a b:Bool} (ha:a=true) (hb:b=true):(a&&b)=true:=by rw[ha,hb];rfl
set_option maxRecDepth 100000 in
theorem closed :joinedFacts Tryz.prog 9 Tryz.f9 (OpenSpec.ofChange Rows.funFaultsSpec).bare Rows.funFaultsRow=true:=(andT (andT (andT (andT (andT (andT (andT (andT (andT (andT (andT (andT (andT (andT (andT (andT (andT (andT (andT (andT (andT (andT (andT (andT (andT (andT (andT (andT (andT (andT (andT fact0 fact1) fact2) fact3) fact4) fact5) fact6) fact7) fact8) fact9) fact10) fact11) fact12) fact13) fact14) fact15) fact16) fact17) fact18) fact19) fact20) fact21) fact22) fact23) fact24) fact25) fact26) fact27) fact28) fact29) fact30) fact31)
end Go.Proofs.YtmhfioimgllgeaaGreatDoor.funFaults
