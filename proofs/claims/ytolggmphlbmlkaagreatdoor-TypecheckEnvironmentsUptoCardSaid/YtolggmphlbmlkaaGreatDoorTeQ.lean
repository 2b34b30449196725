/- The law TypecheckEnvironments of manifoldlaw24 returns true at every two types whose values and letters together with the listed package variables are at most 1048576, and the arguments read afterwards as before.
   Conditions: the bound on the bulk (the second form); the listed package-level variables start as the program's text lays them (tied by the given tie); no more. -/
import Derived.Test.YtolggmphlbmlkaaGreatDoorTeH
import Derived.Test.YtolggmphlbmlkaaGreatDoorTeM
import Derived.Test.YtolggmphlbmlkaaGreatDoorTeO
import Derived.Test.YtolggmphlbmlkaaGreatDoorTeP
import Derived.SevenTiedAt
import Derived.Test.YtolggmphlbmlkaaGreatDoorTeD
import Derived.Test.YtolggmphlbmlkaaGreatDoorTeA
set_option linter.unusedVariables false
set_option linter.unusedSimpArgs false
set_option linter.unusedSectionVars false
set_option linter.constructorNameAsVariable false
set_option linter.unnecessarySimpa false
set_option maxRecDepth 100000
namespace Go.Proofs.YtolggmphlbmlkaaGreatDoor.TypecheckEnvironments
open Go Go.Proofs Av Go.ChangeShapes Go.WideShapes Go.ChangeAt Go.RowKit
theorem liftedUpto (os : Os) (started : os.Started) (H : Type) (enc : TypeId × Value → H) (F : Stop.Interp) :
  ReturnsInHanded {} Tryz.checked os 3 .any ((Rows.OpenSpec.upto Rows.typecheckEnvironmentsSpec).preRow enc Tryz.prog Tryz.f3 Rows.typecheckEnvironmentsUptoRow.domain false Rows.typecheckEnvironmentsUptoRow.laid) (((Rows.OpenSpec.upto Rows.typecheckEnvironmentsSpec).at F).post enc Tryz.prog Tryz.f3 false true false false) := by
 refine returnsInHanded_of_row (C := Tryz.checked) (s := Rows.OpenSpec.upto Rows.typecheckEnvironmentsSpec) own started noInit Tryz.func3
  (witness_row_atRef (enc := enc) (C := Tryz.checked) false (laidWorld os) pathArgs rfl (w_vars os) (w_rest os) (w_ok os)
   (OpenSpec.preRow_of_cond 6 (reads os enc) (by as_aux_lemma => kernel_rfl) (fun k hk => by cases hk; kernel_rfl) (by as_aux_lemma => kernel_rfl) (laid_met os pathArgs))) ?_
 intro W base args ds gs before hval hW _ hcond _ hL _ _;exact contractX H enc W base args ds gs before hval hW (hcond _ rfl) hL
theorem saidUpto : Rows.TypecheckEnvironmentsUptoSaid :=
 OpenClaim.holds_of_cond 3 Tryz.f3 rfl rfl rfl rfl rfl rfl rfl ⟨rfl, rfl, rfl, rfl, rfl⟩ rfl rfl rfl rfl rfl named3 Tryz.func3 facts isInst isWrap
  (fun os started H enc _ F => by rw [OpenClaim.pre_eq_preRow]; exact liftedUpto os started H enc F)
theorem plain (f : FuncId) (fn : Func) (hf : Tryz.pinned.checked.prog.funcNamed "manifold/manifoldlaw24.TypecheckEnvironments" = some f) (hfn : Tryz.pinned.checked.prog.funcs[f]? = some fn) :
  true = Tryz.pinned.checked.prog.looks [] ∧ ∀ (j : Nat) t, fn.params[j]? = some t → Tryz.pinned.checked.prog.wantsStandIn t = false := by
 obtain rfl : f = 3 := Option.some.inj (named3.symm.trans hf) |>.symm;obtain rfl : fn = Tryz.f3 := (Option.some.inj (Tryz.func3.symm.trans hfn)).symm;refine ⟨looksOn, fun j t ht => ?_⟩;rw [Tryz.params3] at ht;obtain rfl : t = 26 := by simpa using Array.mem_of_getElem? ht
 exact noStand
theorem holds : Rows.TypecheckEnvironmentsUptoCardSaid :=
 Claim7.holds_tied_plain_at .later [] _ _ (true, "8b1a823893295cac4fa1660f42007b068bf3eca7bc95b93ed6da47b119c32d2f") true saidUpto (fun _ h => by cases h) wfText (fun _ h => by cases h) typecheckEnvironmentsUpto_row_tie rfl ⟨rfl, rfl⟩ mainIs rfl plain goesNot
end Go.Proofs.YtolggmphlbmlkaaGreatDoor.TypecheckEnvironments
