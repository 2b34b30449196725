/- Part K of a proof. -/
import Derived.Test.YtiekiedlkehccaaGreatDoorEqJ
import Derived.SevenTiedAt
set_option linter.unusedVariables false
set_option linter.unusedSimpArgs false
set_option linter.unusedSectionVars false
set_option maxRecDepth 100000
namespace Go.Proofs.YtiekiedlkehccaaGreatDoor.ExprEquals
open Go Go.Proofs

theorem noInit : Tryz.checked.prog.inits.idxOf? 4 = none := by kernel_rfl
theorem named4 : Tryz.prog.funcNamed "manifold/manifoldlaw16.ExprEquals" = some 4 := by kernel_rfl
theorem isInst : Tryz.f4.isInstance Tryz.prog Rows.exprEqualsUptoRow.origin Rows.exprEqualsUptoRow.targs := of_decide_eq_true (by as_aux_lemma => kernel_rfl)
theorem isWrap : Tryz.f4.isWrapper Tryz.prog Rows.exprEqualsUptoRow.wrapper Rows.exprEqualsUptoRow.mainSum := by
  unfold Func.isWrapper
  first | (rw [if_pos (by decide +kernel)]; kernel_rfl) | (rw [if_neg (by decide +kernel)]; exact ⟨rfl, rfl⟩)
theorem looksOn : true = Tryz.prog.looks [] := by kernel_rfl
theorem noStand : Tryz.prog.wantsStandIn 73 = false := by kernel_rfl
theorem wfText : Rows.exprEqualsUptoRow.wfByText (Rows.OpenSpec.upto Rows.exprEqualsSpec) = true := by kernel_rfl
theorem mainIs : Tryz.prog.mainIs = some (true, "9661ca46eda2c0f32ac96ea4d5970d0f4ffb0a15529927b0ed1d7f4e66f2116f".toList) := by kernel_rfl
end Go.Proofs.YtiekiedlkehccaaGreatDoor.ExprEquals
