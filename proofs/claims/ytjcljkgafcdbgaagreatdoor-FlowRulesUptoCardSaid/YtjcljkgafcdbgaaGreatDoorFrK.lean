/- Part K of a proof. -/
import Derived.Test.YtjcljkgafcdbgaaGreatDoorFrC
import Derived.Test.YtjcljkgafcdbgaaGreatDoorFrA
set_option linter.unusedVariables false
set_option linter.unusedSimpArgs false
set_option linter.unusedSectionVars false
set_option linter.constructorNameAsVariable false
set_option linter.unnecessarySimpa false
set_option maxRecDepth 10000
namespace Go.Proofs.YtjcljkgafcdbgaaGreatDoor
open Go
theorem tie8(os:Os)(tape:Tape):(DataW.laidRun Tryz.prog (varsWorld Tryz.prog 400 (varsId Tryz.prog) os tape).memory 8 (JMJ.map (·.1))).map (·.1)=some JMJ:=kR
end Go.Proofs.YtjcljkgafcdbgaaGreatDoor
