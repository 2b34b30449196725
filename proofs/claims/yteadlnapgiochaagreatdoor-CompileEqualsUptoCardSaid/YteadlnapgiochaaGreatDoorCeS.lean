/- Part S of a proof. -/
import Derived.Test.YteadlnapgiochaaGreatDoorCeR
import Derived.SevenTiedAt
import Derived.Test.YteadlnapgiochaaGreatDoorCeC
import Derived.Test.YteadlnapgiochaaGreatDoorCeA
set_option linter.unusedVariables false
set_option linter.unusedSimpArgs false
set_option linter.unusedSectionVars false
set_option linter.constructorNameAsVariable false
set_option linter.unnecessarySimpa false
set_option maxRecDepth 100000
namespace Go.Proofs.YteadlnapgiochaaGreatDoor.CompileEquals
open Go Go.Proofs
theorem noInit:Tryz.checked.prog.inits.idxOf? 3=none:=kR
theorem JP6:Tryz.prog.funcNamed "manifold/manifoldlaw27.CompileEquals" =some 3:=kR
theorem isInst:Tryz.f3.isInstance Tryz.prog Rows.compileEqualsUptoRow.origin Rows.compileEqualsUptoRow.targs:=of_decide_eq_true (by as_aux_lemma=>kernel_rfl)
theorem isWrap:Tryz.f3.isWrapper Tryz.prog Rows.compileEqualsUptoRow.wrapper Rows.compileEqualsUptoRow.mainSum:=by
 unfold Func.isWrapper
 first|(rw[if_pos (by decide+kernel)];kernel_rfl)|(rw[if_neg (by decide+kernel)];exact⟨rfl,rfl⟩)
theorem JRv:true=Tryz.prog.looks []:=kR
theorem JP7:Tryz.prog.wantsStandIn 25=false:=kR
theorem JIs:Tryz.prog.wantsStandIn 26=false:=kR
theorem wfText:Rows.compileEqualsUptoRow.wfByText (Rows.OpenSpec.upto Rows.compileEqualsSpec)=true:=kR
theorem mainIs:Tryz.prog.mainIs=some (true, "352cd07af188ab22bb5fe2985fce6caf475dd7db1141746f11b2610d9dc2c84a".toList):=kR
end Go.Proofs.YteadlnapgiochaaGreatDoor.CompileEquals
