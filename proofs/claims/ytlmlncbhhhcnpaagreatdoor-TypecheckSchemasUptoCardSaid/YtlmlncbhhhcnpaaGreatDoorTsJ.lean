/- Part J of a proof. -/
import Derived.Test.YtlmlncbhhhcnpaaGreatDoorTsI
import Derived.Test.YtlmlncbhhhcnpaaGreatDoorTsC
import Derived.Test.YtlmlncbhhhcnpaaGreatDoorTsA
set_option linter.unusedVariables false
set_option linter.unusedSimpArgs false
set_option linter.unusedSectionVars false
set_option linter.constructorNameAsVariable false
set_option linter.unnecessarySimpa false
set_option maxRecDepth 100000
namespace Go.Proofs
open Go Av
theorem k16:entK Tryz.prog w24X7 K24 7 [] (.d (.bool true))=true:=kR
theorem walk7:PT 7 [] (.d (.bool true)):=(entK_ok (K:=K24) w24X7_ok k16).1
end Go.Proofs
