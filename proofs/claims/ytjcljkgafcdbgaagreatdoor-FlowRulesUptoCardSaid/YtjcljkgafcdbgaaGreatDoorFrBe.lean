/- Part Be of a proof. -/
import Derived.Test.YtjcljkgafcdbgaaGreatDoorFrBd
import Derived.Test.YtjcljkgafcdbgaaGreatDoorFrC
import Derived.Test.YtjcljkgafcdbgaaGreatDoorFrA
set_option linter.unusedVariables false
set_option linter.unusedSimpArgs false
set_option linter.unusedSectionVars false
set_option linter.constructorNameAsVariable false
set_option linter.unnecessarySimpa false
set_option maxRecDepth 100000
namespace Go.Proofs
open Go Av
theorem k4:entK Tryz.prog w4X68 K6 4 [] (.d (.bool true))=true:=kR
theorem walk4:PT 4 [] (.d (.bool true)):=(JLi (K:=K6) JR7 k4).1
end Go.Proofs
