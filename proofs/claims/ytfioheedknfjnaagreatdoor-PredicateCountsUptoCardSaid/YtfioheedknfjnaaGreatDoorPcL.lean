/- Part L of a proof. -/
import Derived.Test.YtfioheedknfjnaaGreatDoorPcK
import Derived.Test.YtfioheedknfjnaaGreatDoorPcC
import Derived.Test.YtfioheedknfjnaaGreatDoorPcA
set_option linter.unusedVariables false
set_option linter.unusedSimpArgs false
set_option linter.unusedSectionVars false
set_option linter.constructorNameAsVariable false
set_option linter.unnecessarySimpa false
set_option maxRecDepth 100000
namespace Go.Proofs
open Go Av
theorem k6:JRe Tryz.prog w6X11 K6 6 [] (.d (.bool true))=true:=kR
theorem walk6:PT 6 [] (.d (.bool true)):=(JLP (K:=K6) JO3 k6).1
end Go.Proofs
