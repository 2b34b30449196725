/- Part M of a proof. -/
import Derived.Test.YtokdogomolegnaaGreatDoorZL
import Derived.SevenTiedAt
set_option linter.unusedVariables false
set_option linter.unusedSimpArgs false
set_option linter.unusedSectionVars false
set_option linter.constructorNameAsVariable false
set_option linter.unnecessarySimpa false
set_option maxRecDepth 100000
namespace Go.Proofs.YtokdogomolegnaaGreatDoor.CompileLimit
open Go Go.Proofs

theorem noInit : Tryz.checked.prog.inits.idxOf? 3 = none := by kernel_rfl
theorem named3 : Tryz.prog.funcNamed "manifold/manifoldlaw27.CompileLimit" = some 3 := by kernel_rfl
theorem isInst : Tryz.f3.isInstance Tryz.prog Rows.compileLimitRow.origin Rows.compileLimitRow.targs := of_decide_eq_true (by as_aux_lemma => kernel_rfl)
theorem isWrap : Tryz.f3.isWrapper Tryz.prog Rows.compileLimitRow.wrapper Rows.compileLimitRow.mainSum := by
  unfold Func.isWrapper
  first | (rw [if_pos (by decide +kernel)]; kernel_rfl) | (rw [if_neg (by decide +kernel)]; exact ⟨rfl, rfl⟩)
theorem looksOn : true = Tryz.prog.looks [] := by kernel_rfl
theorem noStand : Tryz.prog.wantsStandIn 5 = false := by kernel_rfl
theorem wfText : Rows.compileLimitRow.wfByText (OpenSpec.ofChange Rows.compileLimitSpec) = true := by kernel_rfl
theorem mainIs : Tryz.prog.mainIs = some (true, "803e12768e13213217bfa7c5a89b24bf07ee77f468667ed60f3e0e4b148bda0f".toList) := by kernel_rfl
end Go.Proofs.YtokdogomolegnaaGreatDoor.CompileLimit
