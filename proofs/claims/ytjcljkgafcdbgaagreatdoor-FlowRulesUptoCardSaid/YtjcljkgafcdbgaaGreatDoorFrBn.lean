/- Part Bn of a proof. -/
import Derived.Test.YtjcljkgafcdbgaaGreatDoorFrBg
import Derived.Test.YtjcljkgafcdbgaaGreatDoorFrC
import Derived.Test.YtjcljkgafcdbgaaGreatDoorFrA
set_option linter.unusedVariables false
set_option linter.unusedSimpArgs false
set_option linter.unusedSectionVars false
set_option linter.constructorNameAsVariable false
set_option linter.unnecessarySimpa false
set_option maxRecDepth 100000
namespace Go.Proofs.YtjcljkgafcdbgaaGreatDoor.FlowRules
open Go Go.Proofs
theorem fact1:(cE.wf (OpenSpec.ofChange sE))=true:=kR
theorem fact2:(laidOutB Tryz.prog)=true:=kR
theorem fact3:(mapsRowed Tryz.prog)=true:=kR
theorem fact4:(Tryz.f3.params.all (Tryz.prog.readableRec ·))=true:=kR
theorem fact5:(namedTie Tryz.prog cE.named sE.vars)=true:=kR
theorem fact6:((cE.stops==[]))=true:=kR
theorem fact7:((Tryz.prog.stops==[]))=true:=kR
theorem fact8:((cE.knobs==[]))=true:=kR
theorem fact9:((Tryz.prog.stopKnobs==[]))=true:=kR
end Go.Proofs.YtjcljkgafcdbgaaGreatDoor.FlowRules
