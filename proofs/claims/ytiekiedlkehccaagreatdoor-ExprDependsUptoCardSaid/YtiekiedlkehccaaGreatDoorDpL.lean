/- Part L of a proof. -/
import Derived.Test.YtiekiedlkehccaaGreatDoorDpK
import Derived.SevenTiedAt
import Derived.Test.YtiekiedlkehccaaGreatDoorDpC
import Derived.Test.YtiekiedlkehccaaGreatDoorDpA
set_option linter.unusedVariables false
set_option linter.unusedSimpArgs false
set_option linter.unusedSectionVars false
set_option maxRecDepth 100000
namespace Go.Proofs.YtiekiedlkehccaaGreatDoor.ExprDepends
open Go Go.Proofs
theorem noInit : Tryz.checked.prog.inits.idxOf? 5 = none := kR
theorem named5 : Tryz.prog.funcNamed "manifold/manifoldlaw16.ExprDepends" = some 5 := kR
theorem isInst : Tryz.f5.isInstance Tryz.prog Rows.exprDependsUptoRow.origin Rows.exprDependsUptoRow.targs := of_decide_eq_true (by as_aux_lemma => kernel_rfl)
theorem isWrap : Tryz.f5.isWrapper Tryz.prog Rows.exprDependsUptoRow.wrapper Rows.exprDependsUptoRow.mainSum := by
 unfold Func.isWrapper
 first | (rw [if_pos (by decide +kernel)]; kernel_rfl) | (rw [if_neg (by decide +kernel)]; exact ⟨rfl, rfl⟩)
theorem looksOn : true = Tryz.prog.looks [] := kR
theorem noStand : (Tryz.prog.wantsStandIn 73 || Tryz.prog.wantsStandIn 30 || Tryz.prog.wantsStandIn 79) = false := kR
theorem wfText : Rows.exprDependsUptoRow.wfByText (Rows.OpenSpec.upto Rows.exprDependsSpec) = true := kR
theorem mainIs : Tryz.prog.mainIs = some (true, "9661ca46eda2c0f32ac96ea4d5970d0f4ffb0a15529927b0ed1d7f4e66f2116f".toList) := kR
end Go.Proofs.YtiekiedlkehccaaGreatDoor.ExprDepends
