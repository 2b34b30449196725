/- Part R of a proof. -/
import Derived.Test.YteegbpaakjlodaaGreatDoorCbQ
import Derived.SevenTiedAt
import Derived.Test.YteegbpaakjlodaaGreatDoorCbC
import Derived.Test.YteegbpaakjlodaaGreatDoorCbA
set_option linter.unusedVariables false
set_option linter.unusedSimpArgs false
set_option linter.unusedSectionVars false
set_option linter.constructorNameAsVariable false
set_option linter.unnecessarySimpa false
set_option maxRecDepth 100000
namespace Go.Proofs.YteegbpaakjlodaaGreatDoor.CompileChecks
open Go Go.Proofs
theorem noInit:Tryz.checked.prog.inits.idxOf? 4=none:=kR
theorem JO0:Tryz.prog.funcNamed "manifold/manifoldlaw27.CompileChecks" =some 4:=kR
theorem isInst:Tryz.f4.isInstance Tryz.prog Rows.compileChecksUptoRow.origin Rows.compileChecksUptoRow.targs:=of_decide_eq_true (by as_aux_lemma=>kernel_rfl)
theorem isWrap:Tryz.f4.isWrapper Tryz.prog Rows.compileChecksUptoRow.wrapper Rows.compileChecksUptoRow.mainSum:=by
 unfold Func.isWrapper
 first|(rw[if_pos (by decide+kernel)];kernel_rfl)|(rw[if_neg (by decide+kernel)];exact⟨rfl,rfl⟩)
theorem JQc:true=Tryz.prog.looks []:=kR
theorem JO1:Tryz.prog.wantsStandIn 25=false:=kR
theorem JO2:Tryz.prog.wantsStandIn 26=false:=kR
theorem wfText:Rows.compileChecksUptoRow.wfByText (Rows.OpenSpec.upto Rows.compileChecksSpec)=true:=kR
theorem mainIs:Tryz.prog.mainIs=some (true, "6a03f898325378b482ba44731f782f951659c365787d45fbdabfedd403ba2fd1".toList):=kR
end Go.Proofs.YteegbpaakjlodaaGreatDoor.CompileChecks
