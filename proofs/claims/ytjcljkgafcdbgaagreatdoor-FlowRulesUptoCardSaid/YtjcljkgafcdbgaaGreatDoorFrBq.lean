/- Part Bq of a proof. -/
import Derived.Test.YtjcljkgafcdbgaaGreatDoorFrBl
import Derived.Test.YtjcljkgafcdbgaaGreatDoorFrBm
import Derived.Test.YtjcljkgafcdbgaaGreatDoorFrBn
import Derived.Test.YtjcljkgafcdbgaaGreatDoorFrBo
import Derived.Test.YtjcljkgafcdbgaaGreatDoorFrBp
import Derived.Test.YtjcljkgafcdbgaaGreatDoorFrC
import Derived.Test.YtjcljkgafcdbgaaGreatDoorFrA
set_option linter.unusedVariables false
set_option linter.unusedSimpArgs false
set_option linter.unusedSectionVars false
set_option linter.constructorNameAsVariable false
set_option linter.unnecessarySimpa false
set_option maxRecDepth 100000
namespace Go.Proofs.YtjcljkgafcdbgaaGreatDoor.FlowRules
open Go Go.Proofs
theorem facts:joinedFacts Tryz.prog 3 Tryz.f3 sE cE=true:=by
 unfold joinedFacts;exact(XX (XX (XX (XX (XX (XX (XX (XX (XX (XX (XX (XX (XX (XX (XX (XX (XX (XX (XX (XX (XX (XX (XX (XX (XX (XX (XX (XX (XX (XX (XX fact1 fact2) fact3) fact4) fact5) fact6) fact7) fact8) fact9) fact10) fact11) fact12) fact13) fact14) fact15) fact16) fact17) fact18) fact19) fact20) fact21) fact22) fact23) fact24) fact25) fact26) fact27) fact28) fact29) fact30) fact31) fact32)
end Go.Proofs.YtjcljkgafcdbgaaGreatDoor.FlowRules
