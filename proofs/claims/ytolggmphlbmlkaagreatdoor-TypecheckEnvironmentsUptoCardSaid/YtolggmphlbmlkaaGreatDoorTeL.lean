/- Part L of a proof. -/
import Derived.Test.YtolggmphlbmlkaaGreatDoorTeK
import Derived.Test.YtolggmphlbmlkaaGreatDoorTeD
import Derived.Test.YtolggmphlbmlkaaGreatDoorTeA
set_option linter.unusedVariables false
set_option linter.unusedSimpArgs false
set_option linter.unusedSectionVars false
set_option linter.constructorNameAsVariable false
set_option linter.unnecessarySimpa false
set_option maxRecDepth 100000
namespace Go.Proofs
open Go Av
theorem k16 : entK Tryz.prog w24X7 K24 16 [] (.d (.bool true)) = true := kR
theorem walk16 : PT 16 [] (.d (.bool true)) := (entK_ok (K := K24) w24X7_ok k16).1
end Go.Proofs
