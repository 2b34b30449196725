/- Part Br of a proof. -/
import Derived.Test.YtjcljkgafcdbgaaGreatDoorFrBq
import Derived.SevenTiedAt
import Derived.Test.YtjcljkgafcdbgaaGreatDoorFrC
import Derived.Test.YtjcljkgafcdbgaaGreatDoorFrA
set_option linter.unusedVariables false
set_option linter.unusedSimpArgs false
set_option linter.unusedSectionVars false
set_option linter.constructorNameAsVariable false
set_option linter.unnecessarySimpa false
set_option maxRecDepth 100000
namespace Go.Proofs.YtjcljkgafcdbgaaGreatDoor.FlowRules
open Go Go.Proofs
theorem noInit:Tryz.checked.prog.inits.idxOf? 3=none:=kR
theorem JSB:Tryz.prog.funcNamed "manifold/manifoldlaw25.FlowRules" =some 3:=kR
theorem isInst:Tryz.f3.isInstance Tryz.prog Rows.flowRulesUptoRow.origin Rows.flowRulesUptoRow.targs:=of_decide_eq_true (by as_aux_lemma=>kernel_rfl)
theorem isWrap:Tryz.f3.isWrapper Tryz.prog Rows.flowRulesUptoRow.wrapper Rows.flowRulesUptoRow.mainSum:=by
 unfold Func.isWrapper
 first|(rw[if_pos (by decide+kernel)];kernel_rfl)|(rw[if_neg (by decide+kernel)];exact⟨rfl,rfl⟩)
theorem looksOn:true=Tryz.prog.looks []:=kR
theorem JSC:Tryz.prog.wantsStandIn 24=false:=kR
theorem JSD:Tryz.prog.wantsStandIn 5=false:=kR
theorem wfText:Rows.flowRulesUptoRow.wfByText (Rows.OpenSpec.upto Rows.flowRulesSpec)=true:=kR
theorem mainIs:Tryz.prog.mainIs=some (true, "9da64dfb3f8d821fbde81e46e16818119be5741cea6594d676b2d4fb8038a6ef".toList):=kR
end Go.Proofs.YtjcljkgafcdbgaaGreatDoor.FlowRules
