/- FunTexts: the row's closed facts, one by one. (By genframe07.py.) -/
import Derived.Test.YtmhfioimgllgeaaGreatDoorCards
import Derived.JoinedOf
import Derived.KernelRfl
namespace Go.Proofs.YtmhfioimgllgeaaGreatDoor.funTexts
open Go
theorem fact0 :(Rows.funTextsRow.wf (OpenSpec.ofChange (OpenSpec.ofChange Rows.funTextsSpec).bare):Bool)=true:=by kernel_rfl
theorem fact1 :(laidOutB Tryz.prog:Bool)=true:=by kernel_rfl
theorem fact2 :(mapsRowed Tryz.prog:Bool)=true:=by kernel_rfl
theorem fact3 :(Tryz.f6.params.all (Tryz.prog.readableRec ·):Bool)=true:=by kernel_rfl
theorem fact4 :(namedTie Tryz.prog Rows.funTextsRow.named (OpenSpec.ofChange Rows.funTextsSpec).bare.vars:Bool)=true:=by kernel_rfl
theorem fact5 :((Rows.funTextsRow.stops== []):Bool)=true:=by kernel_rfl
theorem fact6 :((Tryz.prog.stops== []):Bool)=true:=by kernel_rfl
theorem fact7 :((Rows.funTextsRow.knobs== []):Bool)=true:=by kernel_rfl
theorem fact8 :((Tryz.prog.stopKnobs== []):Bool)=true:=by kernel_rfl
theorem fact9 :((Rows.funTextsRow.inPlace==Tryz.prog.inPlace 6):Bool)=true:=by kernel_rfl
theorem fact10 :((Rows.funTextsRow.unfollowed==Tryz.prog.unfollowed 6):Bool)=true:=by kernel_rfl
theorem fact11 :((Rows.funTextsRow.recurses==Tryz.prog.recurses 6):Bool)=true:=by kernel_rfl
theorem fact12 :((Rows.funTextsRow.named==Tryz.prog.varsNamed 6):Bool)=true:=by kernel_rfl
theorem fact13 :((Rows.funTextsRow.maps==(Tryz.f6.params.toList++(OpenSpec.ofChange Rows.funTextsSpec).bare.plain.varTypes Tryz.prog).any (Tryz.prog.mapsRec ·)):Bool)=true:=by kernel_rfl
theorem fact14 :((Rows.funTextsRow.ifaces==(Tryz.f6.params.toList++(OpenSpec.ofChange Rows.funTextsSpec).bare.plain.varTypes Tryz.prog).any (Tryz.prog.ifacesRec ·)):Bool)=true:=by kernel_rfl
theorem fact15 :((Rows.funTextsRow.mapsOut==Tryz.prog.mapsAmong Tryz.f6.resultTypes.toList):Bool)=true:=by kernel_rfl
theorem fact16 :((Rows.funTextsRow.loops==(Tryz.f6.params.toList++(OpenSpec.ofChange Rows.funTextsSpec).bare.plain.varTypes Tryz.prog).any (Tryz.prog.loopsFrom ·)):Bool)=true:=by kernel_rfl
theorem fact17 :((Rows.funTextsRow.wideKeys==(Tryz.f6.params.toList++(OpenSpec.ofChange Rows.funTextsSpec).bare.plain.varTypes Tryz.prog++Tryz.f6.resultTypes.toList).any (Tryz.prog.wideKeysFrom ·)):Bool)=true:=by kernel_rfl
theorem fact18 :((OpenSpec.ofChange Rows.funTextsSpec).bare.vars.all (Tryz.prog.varReadable ·):Bool)=true:=by kernel_rfl
theorem fact19 :(Tryz.f6.resultTypes.all (fun t=>Tryz.prog.readableRec t&&decide (t<Tryz.prog.types.size)):Bool)=true:=by kernel_rfl
theorem fact20 :((Rows.funTextsRow.ifacesOut==Tryz.f6.resultTypes.toList.any (Tryz.prog.ifacesRec ·)):Bool)=true:=by kernel_rfl
theorem fact21 :((Rows.funTextsRow.loopsOut==Tryz.f6.resultTypes.toList.any (Tryz.prog.loopsFrom ·)):Bool)=true:=by kernel_rfl
theorem fact22 :((Rows.funTextsRow.plainKeys==Tryz.prog.plainKeys):Bool)=true:=by kernel_rfl
theorem fact23 :(Rows.funTextsRow.shortTexts.isNone:Bool)=true:=by kernel_rfl
theorem fact24 :(Tryz.prog.stopsHeard:Bool)=true:=by kernel_rfl
theorem fact25 :(Tryz.prog.mayEnter:Bool)=true:=by kernel_rfl
theorem fact26 :((Rows.funTextsRow.lifted==Tryz.prog.liftsFinal):Bool)=true:=by kernel_rfl
theorem fact27 :((Tryz.prog.make==some Rows.funTextsRow.make):Bool)=true:=by kernel_rfl
theorem fact28 :((Rows.funTextsRow.kinds==(if Rows.funTextsRow.domain.isEmpty then []else Tryz.f6.params.toList.map fun t=>match Tryz.prog.underlying t with|some (.int k)=>some k|_=>none)):Bool)=true:=by kernel_rfl
theorem fact29 :((Rows.funTextsRow.pinned==Rows.funTextsRow.pinnedBy):Bool)=true:=by kernel_rfl
theorem fact30 :((Rows.funTextsRow.veiled==(Tryz.f6.params.toList++(OpenSpec.ofChange Rows.funTextsSpec).bare.plain.varTypes Tryz.prog++Tryz.f6.resultTypes.toList).any (Tryz.prog.veiledRec ·)):Bool)=true:=by kernel_rfl
theorem fact31 :(Rows.funTextsRow.veiledFits Tryz.prog Tryz.f6.params.toList (Tryz.f6.params.toList++(OpenSpec.ofChange Rows.funTextsSpec).bare.plain.varTypes Tryz.prog++Tryz.f6.resultTypes.toList):Bool)=true:=by kernel_rfl
theorem andT {a b:Bool} (ha:a=true) (hb:b=true):(a&&b)=true:=by rw[ha,hb];rfl
set_option maxRecDepth 100000 in
theorem closed :joinedFacts Tryz.prog 6 Tryz.f6 (OpenSpec.ofChange Rows.funTextsSpec).bare Rows.funTextsRow=true:=(andT (andT (andT (andT (andT (andT (andT (andT (andT (andT (andT (andT (andT (andT (andT (andT (andT (andT (andT (andT (andT (andT (andT (andT (andT (andT (andT (andT (andT (andT (andT fact0 fact1) fact2) fact3) fact4) fact5) fact6) fact7) fact8) fact9) fact10) fact11) fact12) fact13) fact14) fact15) fact16) fact17) fact18) fact19) fact20) fact21) fact22) fact23) fact24) fact25) fact26) fact27) fact28) fact29) fact30) fact31)
end Go.Proofs.YtmhfioimgllgeaaGreatDoor.funTexts
