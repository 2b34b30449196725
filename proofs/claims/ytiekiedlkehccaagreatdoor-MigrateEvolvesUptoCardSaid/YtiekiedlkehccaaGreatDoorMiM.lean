/- Part M of a proof. -/
import Derived.Test.YtiekiedlkehccaaGreatDoorMiL
import Derived.SevenTiedAt
import Derived.Test.YtiekiedlkehccaaGreatDoorMiD
import Derived.Test.YtiekiedlkehccaaGreatDoorMiA
set_option linter.unusedVariables false
set_option linter.unusedSimpArgs false
set_option linter.unusedSectionVars false
set_option linter.constructorNameAsVariable false
set_option linter.unnecessarySimpa false
set_option maxRecDepth 100000
namespace Go.Proofs.YtiekiedlkehccaaGreatDoor.MigrateEvolves
open Go Go.Proofs
theorem noInit : Tryz.checked.prog.inits.idxOf? 3 = none := kR
theorem named3 : Tryz.prog.funcNamed "manifold/manifoldlaw40.MigrateEvolves" = some 3 := kR
theorem isInst : Tryz.f3.isInstance Tryz.prog Rows.migrateEvolvesUptoRow.origin Rows.migrateEvolvesUptoRow.targs := of_decide_eq_true (by as_aux_lemma => kernel_rfl)
theorem isWrap : Tryz.f3.isWrapper Tryz.prog Rows.migrateEvolvesUptoRow.wrapper Rows.migrateEvolvesUptoRow.mainSum := by
 unfold Func.isWrapper
 first | (rw [if_pos (by decide +kernel)]; kernel_rfl) | (rw [if_neg (by decide +kernel)]; exact ⟨rfl, rfl⟩)
theorem looksOn : true = Tryz.prog.looks [] := kR
theorem noStand : Tryz.prog.wantsStandIn 26 = false ∧ Tryz.prog.wantsStandIn 30 = false := ⟨kR, kR⟩
theorem wfText : Rows.migrateEvolvesUptoRow.wfByText (Rows.OpenSpec.upto Rows.migrateEvolvesSpec) = true := kR
theorem mainIs : Tryz.prog.mainIs = some (true, "9661ca46eda2c0f32ac96ea4d5970d0f4ffb0a15529927b0ed1d7f4e66f2116f".toList) := kR
end Go.Proofs.YtiekiedlkehccaaGreatDoor.MigrateEvolves
