/- Part Bo of a proof. -/
import Derived.Test.YtjcljkgafcdbgaaGreatDoorFrBg
import Derived.Test.YtjcljkgafcdbgaaGreatDoorFrC
import Derived.Test.YtjcljkgafcdbgaaGreatDoorFrA
set_option linter.unusedVariables false
set_option linter.unusedSimpArgs false
set_option linter.unusedSectionVars false
set_option linter.constructorNameAsVariable false
set_option linter.unnecessarySimpa false
set_option maxRecDepth 100000
namespace Go.Proofs.YtjcljkgafcdbgaaGreatDoor.FlowRules
open Go Go.Proofs
theorem fact14:((cE.maps==(Tryz.f3.params.toList++sE.plain.varTypes Tryz.prog).any (Tryz.prog.mapsRec ·)))=true:=kR
theorem fact15:((cE.ifaces==(Tryz.f3.params.toList++sE.plain.varTypes Tryz.prog).any (Tryz.prog.ifacesRec ·)))=true:=kR
theorem fact16:((cE.mapsOut==Tryz.prog.mapsAmong Tryz.f3.resultTypes.toList))=true:=kR
theorem fact17:((cE.loops==(Tryz.f3.params.toList++sE.plain.varTypes Tryz.prog).any (Tryz.prog.loopsFrom ·)))=true:=kR
theorem fact18:((cE.wideKeys==(Tryz.f3.params.toList++sE.plain.varTypes Tryz.prog++Tryz.f3.resultTypes.toList).any (Tryz.prog.wideKeysFrom ·)))=true:=kR
theorem fact19:(sE.vars.all (Tryz.prog.varReadable ·))=true:=kR
theorem fact20:(Tryz.f3.resultTypes.all (fun t=>Tryz.prog.readableRec t&&decide (t<Tryz.prog.types.size)))=true:=kR
theorem fact21:((cE.ifacesOut==Tryz.f3.resultTypes.toList.any (Tryz.prog.ifacesRec ·)))=true:=kR
theorem fact22:((cE.loopsOut==Tryz.f3.resultTypes.toList.any (Tryz.prog.loopsFrom ·)))=true:=kR
theorem fact23:((cE.plainKeys==Tryz.prog.plainKeys))=true:=kR
theorem fact24:(cE.shortTexts.isNone)=true:=kR
theorem fact25:(Tryz.prog.stopsHeard)=true:=kR
theorem fact26:(Tryz.prog.mayEnter)=true:=kR
theorem fact27:((cE.lifted==Tryz.prog.liftsFinal))=true:=kR
theorem fact28:((Tryz.prog.make==some cE.make))=true:=kR
theorem fact29:((cE.kinds==(if cE.domain.isEmpty then[]else Tryz.f3.params.toList.map fun t=>match Tryz.prog.underlying t with|some (.int k)=>some k|_=>none)))=true:=kR
theorem fact30:((cE.pinned==cE.pinnedBy))=true:=kR
theorem fact31:((cE.veiled==(Tryz.f3.params.toList++sE.plain.varTypes Tryz.prog++Tryz.f3.resultTypes.toList).any (Tryz.prog.veiledRec ·)))=true:=kR
theorem fact32:(cE.veiledFits Tryz.prog Tryz.f3.params.toList (Tryz.f3.params.toList++sE.plain.varTypes Tryz.prog++Tryz.f3.resultTypes.toList))=true:=kR
end Go.Proofs.YtjcljkgafcdbgaaGreatDoor.FlowRules
