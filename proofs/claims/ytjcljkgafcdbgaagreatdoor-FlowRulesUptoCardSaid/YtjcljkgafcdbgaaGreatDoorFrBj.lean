/- Part Bj of a proof. -/
import Derived.Test.YtjcljkgafcdbgaaGreatDoorFrBg
import Derived.Test.YtjcljkgafcdbgaaGreatDoorFrC
import Derived.Test.YtjcljkgafcdbgaaGreatDoorFrA
set_option linter.unusedVariables false
set_option linter.unusedSimpArgs false
set_option linter.unusedSectionVars false
set_option linter.constructorNameAsVariable false
set_option linter.unnecessarySimpa false
set_option maxRecDepth 100000
namespace Go.Proofs.YtjcljkgafcdbgaaGreatDoor.FlowRules
open Go Go.Proofs
theorem ld3:ldB 436 216=true:=kR
end Go.Proofs.YtjcljkgafcdbgaaGreatDoor.FlowRules
