/- Part Bm of a proof. -/
import Derived.Test.YtjcljkgafcdbgaaGreatDoorFrBk
import Derived.Test.YtjcljkgafcdbgaaGreatDoorFrC
import Derived.Test.YtjcljkgafcdbgaaGreatDoorFrA
set_option linter.unusedVariables false
set_option linter.unusedSimpArgs false
set_option linter.unusedSectionVars false
set_option linter.constructorNameAsVariable false
set_option linter.unnecessarySimpa false
set_option maxRecDepth 100000
namespace Go.Proofs.YtjcljkgafcdbgaaGreatDoor.FlowRules
open Go Go.Proofs
theorem unf:Tryz.prog.unfollowed 3=true:=by
 unfold Program.unfollowed;rw[clo]
 kernel_rfl
theorem fact11:((cE.unfollowed==Tryz.prog.unfollowed 3))=true:=by
 rw[unf]
 kernel_rfl
theorem fact12:((cE.recurses==Tryz.prog.recurses 3))=true:=by
 unfold Program.recurses;rw[unf,Bool.true_or]
 kernel_rfl
end Go.Proofs.YtjcljkgafcdbgaaGreatDoor.FlowRules
