/- Part Bl of a proof. -/
import Derived.Test.YtjcljkgafcdbgaaGreatDoorFrBk
import Derived.Test.YtjcljkgafcdbgaaGreatDoorFrC
import Derived.Test.YtjcljkgafcdbgaaGreatDoorFrA
set_option linter.unusedVariables false
set_option linter.unusedSimpArgs false
set_option linter.unusedSectionVars false
set_option linter.constructorNameAsVariable false
set_option linter.unnecessarySimpa false
set_option maxRecDepth 100000
namespace Go.Proofs.YtjcljkgafcdbgaaGreatDoor.FlowRules
open Go Go.Proofs
theorem fact10:((cE.inPlace==Tryz.prog.inPlace 3))=true:=by
 unfold Program.inPlace;rw[clo]
 kernel_rfl
end Go.Proofs.YtjcljkgafcdbgaaGreatDoor.FlowRules
