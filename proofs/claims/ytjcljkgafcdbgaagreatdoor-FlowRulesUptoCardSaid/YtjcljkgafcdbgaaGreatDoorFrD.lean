/- Part D of a proof. -/
import Derived.Test.YtjcljkgafcdbgaaGreatDoorFrC
import Derived.Test.YtjcljkgafcdbgaaGreatDoorFrA
set_option linter.unusedVariables false
set_option linter.unusedSimpArgs false
set_option linter.unusedSectionVars false
set_option linter.constructorNameAsVariable false
set_option linter.unnecessarySimpa false
set_option maxRecDepth 10000
namespace Go.Proofs.YtjcljkgafcdbgaaGreatDoor
open Go
theorem tie1:Tryz.prog.worded (varsWordLater true)=true:=kR
end Go.Proofs.YtjcljkgafcdbgaaGreatDoor
