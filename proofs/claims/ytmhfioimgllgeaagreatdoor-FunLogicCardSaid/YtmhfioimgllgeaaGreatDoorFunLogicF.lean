/- FunLogic: the row's closed facts, one by one. (By genframe07.py.) -/
import Derived.Test.YtmhfioimgllgeaaGreatDoorCards
import Derived.JoinedOf
import Derived.KernelRfl
namespace Go.Proofs.YtmhfioimgllgeaaGreatDoor.funLogic
open Go
theorem fact0 :(Rows.funLogicRow.wf (OpenSpec.ofChange (OpenSpec.ofChange Rows.funLogicSpec).bare):Bool)=true:=by kernel_rfl
theorem fact1 :(laidOutB Tryz.prog:Bool)=true:=by kernel_rfl
theorem fact2 :(mapsRowed Tryz.prog:Bool)=true:=by kernel_rfl
theorem fact3 :(Tryz.f8.params.all (Tryz.prog.readableRec ·):Bool)=true:=by kernel_rfl
theorem fact4 :(namedTie Tryz.prog Rows.funLogicRow.named (OpenSpec.ofChange Rows.funLogicSpec).bare.vars:Bool)=true:=by kernel_rfl
theorem fact5 :((Rows.funLogicRow.stops== []):Bool)=true:=by kernel_rfl
theorem fact6 :((Tryz.prog.stops== []):Bool)=true:=by kernel_rfl
theorem fact7 :((Rows.funLogicRow.knobs== []):Bool)=true:=by kernel_rfl
theorem fact8 :((Tryz.prog.stopKnobs== []):Bool)=true:=by kernel_rfl
theorem fact9 :((Rows.funLogicRow.inPlace==Tryz.prog.inPlace 8):Bool)=true:=by kernel_rfl
theorem fact10 :((Rows.funLogicRow.unfollowed==Tryz.prog.unfollowed 8):Bool)=true:=by kernel_rfl
theorem fact11 :((Rows.funLogicRow.recurses==Tryz.prog.recurses 8):Bool)=true:=by kernel_rfl
theorem fact12 :((Rows.funLogicRow.named==Tryz.prog.varsNamed 8):Bool)=true:=by kernel_rfl
theorem fact13 :((Rows.funLogicRow.maps==(Tryz.f8.params.toList++(OpenSpec.ofChange Rows.funLogicSpec).bare.plain.varTypes Tryz.prog).any (Tryz.prog.mapsRec ·)):Bool)=true:=by kernel_rfl
theorem fact14 :((Rows.funLogicRow.ifaces==(Tryz.f8.params.toList++(OpenSpec.ofChange Rows.funLogicSpec).bare.plain.varTypes Tryz.prog).any (Tryz.prog.ifacesRec ·)):Bool)=true:=by kernel_rfl
theorem fact15 :((Rows.funLogicRow.mapsOut==Tryz.prog.mapsAmong Tryz.f8.resultTypes.toList):Bool)=true:=by kernel_rfl
theorem fact16 :((Rows.funLogicRow.loops==(Tryz.f8.params.toList++(OpenSpec.ofChange Rows.funLogicSpec).bare.plain.varTypes Tryz.prog).any (Tryz.prog.loopsFrom ·)):Bool)=true:=by kernel_rfl
theorem fact17 :((Rows.funLogicRow.wideKeys==(Tryz.f8.params.toList++(OpenSpec.ofChange Rows.funLogicSpec).bare.plain.varTypes Tryz.prog++Tryz.f8.resultTypes.toList).any (Tryz.prog.wideKeysFrom ·)):Bool)=true:=by kernel_rfl
theorem fact18 :((OpenSpec.ofChange Rows.funLogicSpec).bare.vars.all (Tryz.prog.varReadable ·):Bool)=true:=by kernel_rfl
theorem fact19 :(Tryz.f8.resultTypes.all (fun t=>Tryz.prog.readableRec t&&decide (t<Tryz.prog.types.size)):Bool)=true:=by kernel_rfl
theorem fact20 :((Rows.funLogicRow.ifacesOut==Tryz.f8.resultTypes.toList.any (Tryz.prog.ifacesRec ·)):Bool)=true:=by kernel_rfl
theorem fact21 :((Rows.funLogicRow.loopsOut==Tryz.f8.resultTypes.toList.any (Tryz.prog.loopsFrom ·)):Bool)=true:=by kernel_rfl
theorem fact22 :((Rows.funLogicRow.plainKeys==Tryz.prog.plainKeys):Bool)=true:=by kernel_rfl
theorem fact23 :(Rows.funLogicRow.shortTexts.isNone:Bool)=true:=by kernel_rfl
theorem fact24 :(Tryz.prog.stopsHeard:Bool)=true:=by kernel_rfl
theorem fact25 :(Tryz.prog.mayEnter:Bool)=true:=by kernel_rfl
theorem fact26 :((Rows.funLogicRow.lifted==Tryz.prog.liftsFinal):Bool)=true:=by kernel_rfl
theorem fact27 :((Tryz.prog.make==some Rows.funLogicRow.make):Bool)=true:=by kernel_rfl
theorem fact28 :((Rows.funLogicRow.kinds==(if Rows.funLogicRow.domain.isEmpty then []else Tryz.f8.params.toList.map fun t=>match Tryz.prog.underlying t with|some (.int k)=>some k|_=>none)):Bool)=true:=by kernel_rfl
theorem fact29 :((Rows.funLogicRow.pinned==Rows.funLogicRow.pinnedBy):Bool)=true:=by kernel_rfl
theorem fact30 :((Rows.funLogicRow.veiled==(Tryz.f8.params.toList++(OpenSpec.ofChange Rows.funLogicSpec).bare.plain.varTypes Tryz.prog++Tryz.f8.resultTypes.toList).any (Tryz.prog.veiledRec ·)):Bool)=true:=by kernel_rfl
theorem fact31 :(Rows.funLogicRow.veiledFits Tryz.prog Tryz.f8.params.toList (Tryz.f8.params.toList++(OpenSpec.ofChange Rows.funLogicSpec).bare.plain.varTypes Tryz.prog++Tryz.f8.resultTypes.toList):Bool)=true:=by kernel_rfl
theorem andT {a b:Bool} (ha:a=true) (hb:b=true):(a&&b)=true:=by rw[ha,hb];rfl
set_option maxRecDepth 100000 in
theorem closed :joinedFacts Tryz.prog 8 Tryz.f8 (OpenSpec.ofChange Rows.funLogicSpec).bare Rows.funLogicRow=true:=(andT (andT (andT (andT (andT (andT (andT (andT (andT (andT (andT (andT (andT (andT (andT (andT (andT (andT (andT (andT (andT (andT (andT (andT (andT (andT (andT (andT (andT (andT (andT fact0 fact1) fact2) fact3) fact4) fact5) fact6) fact7) fact8) fact9) fact10) fact11) fact12) fact13) fact14) fact15) fact16) fact17) fact18) fact19) fact20) fact21) fact22) fact23) fact24) fact25) fact26) fact27) fact28) fact29) fact30) fact31)
end Go.Proofs.YtmhfioimgllgeaaGreatDoor.funLogic
