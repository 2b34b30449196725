/- Part O of a proof. -/
import Derived.Test.YtolggmphlbmlkaaGreatDoorTeN
import Derived.SevenTiedAt
import Derived.Test.YtolggmphlbmlkaaGreatDoorTeD
import Derived.Test.YtolggmphlbmlkaaGreatDoorTeA
set_option linter.unusedVariables false
set_option linter.unusedSimpArgs false
set_option linter.unusedSectionVars false
set_option linter.constructorNameAsVariable false
set_option linter.unnecessarySimpa false
set_option maxRecDepth 100000
namespace Go.Proofs.YtolggmphlbmlkaaGreatDoor.TypecheckEnvironments
open Go Go.Proofs
theorem noInit : Tryz.checked.prog.inits.idxOf? 3 = none := kR
theorem named3 : Tryz.prog.funcNamed "manifold/manifoldlaw24.TypecheckEnvironments" = some 3 := kR
theorem isInst : Tryz.f3.isInstance Tryz.prog Rows.typecheckEnvironmentsUptoRow.origin Rows.typecheckEnvironmentsUptoRow.targs := of_decide_eq_true (by as_aux_lemma => kernel_rfl)
theorem isWrap : Tryz.f3.isWrapper Tryz.prog Rows.typecheckEnvironmentsUptoRow.wrapper Rows.typecheckEnvironmentsUptoRow.mainSum := by
 unfold Func.isWrapper
 first | (rw [if_pos (by decide +kernel)]; kernel_rfl) | (rw [if_neg (by decide +kernel)]; exact ⟨rfl, rfl⟩)
theorem looksOn : true = Tryz.prog.looks [] := kR
theorem noStand : Tryz.prog.wantsStandIn 26 = false := kR
theorem wfText : Rows.typecheckEnvironmentsUptoRow.wfByText (Rows.OpenSpec.upto Rows.typecheckEnvironmentsSpec) = true := kR
theorem mainIs : Tryz.prog.mainIs = some (true, "8b1a823893295cac4fa1660f42007b068bf3eca7bc95b93ed6da47b119c32d2f".toList) := kR
end Go.Proofs.YtolggmphlbmlkaaGreatDoor.TypecheckEnvironments
