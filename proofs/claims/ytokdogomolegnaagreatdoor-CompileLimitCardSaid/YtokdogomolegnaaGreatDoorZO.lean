/- The law CompileLimit of manifoldlaw27 returns true at every number, and the argument reads afterwards as before.
   Conditions: the listed package-level variables start as the program's text lays them (tied by the given tie); no more. -/
import Derived.Test.YtokdogomolegnaaGreatDoorZK
import Derived.Test.YtokdogomolegnaaGreatDoorZJ
import Derived.Test.YtokdogomolegnaaGreatDoorZM
import Derived.Test.YtokdogomolegnaaGreatDoorZN
import Derived.SevenTiedAt
set_option linter.unusedVariables false
set_option linter.unusedSimpArgs false
set_option linter.unusedSectionVars false
set_option linter.constructorNameAsVariable false
set_option linter.unnecessarySimpa false
set_option maxRecDepth 100000
namespace Go.Proofs.YtokdogomolegnaaGreatDoor.CompileLimit
open Go Go.Proofs Av Go.ChangeShapes Go.WideShapes Go.ChangeAt Go.RowKit


theorem lifted (os : Os) (started : os.Started) (H : Type) (enc : TypeId × Value → H) (F : Stop.Interp) :
    ReturnsInHanded {} Tryz.checked os 3 .any ((OpenSpec.ofChange Rows.compileLimitSpec).preRow enc Tryz.prog Tryz.f3 Rows.compileLimitRow.domain false Rows.compileLimitRow.laid) (((OpenSpec.ofChange Rows.compileLimitSpec).at F).post enc Tryz.prog Tryz.f3 false true false false) := by
  refine returnsInHanded_of_row (C := Tryz.checked) (s := OpenSpec.ofChange Rows.compileLimitSpec) own started noInit Tryz.func3
    (witness_row_atRef (enc := enc) (C := Tryz.checked) false (laidWorld os) pathArgs rfl (w_vars os) (w_rest os) (w_ok os)
      (OpenSpec.preRow_of_cond 6 (reads os enc) (by as_aux_lemma => kernel_rfl) (fun k hk => by cases hk) (by as_aux_lemma => kernel_rfl) (laid_met os pathArgs))) ?_
  intro W base args ds gs before hval hW _ hcond _ hL _ _
  exact contractX H enc W base args ds gs before hval hW


theorem said : Rows.CompileLimitSaid :=
  OpenClaim.holds_of_cond 3 Tryz.f3 rfl rfl rfl rfl rfl rfl rfl ⟨rfl, rfl, rfl, rfl, rfl⟩ rfl rfl rfl rfl rfl named3 Tryz.func3 facts isInst isWrap
    (fun os started H enc _ F => by rw [OpenClaim.pre_eq_preRow]; exact lifted os started H enc F)

theorem plain (f : FuncId) (fn : Func) (hf : Tryz.pinned.checked.prog.funcNamed "manifold/manifoldlaw27.CompileLimit" = some f) (hfn : Tryz.pinned.checked.prog.funcs[f]? = some fn) :
    true = Tryz.pinned.checked.prog.looks [] ∧ ∀ (j : Nat) t, fn.params[j]? = some t → Tryz.pinned.checked.prog.wantsStandIn t = false := by
  obtain rfl : f = 3 := Option.some.inj (named3.symm.trans hf) |>.symm
  obtain rfl : fn = Tryz.f3 := (Option.some.inj (Tryz.func3.symm.trans hfn)).symm
  refine ⟨looksOn, fun j t ht => ?_⟩
  rw [Tryz.params3] at ht
  obtain rfl : t = 5 := by simpa using Array.mem_of_getElem? ht
  exact noStand

theorem holds : Rows.CompileLimitCardSaid :=
  Claim7.holds_tied_plain_at .later [] _ _ (true, "803e12768e13213217bfa7c5a89b24bf07ee77f468667ed60f3e0e4b148bda0f") true said (fun _ h => by cases h) wfText (fun _ h => by cases h) compileLimit_row_tie rfl ⟨rfl, rfl⟩ mainIs rfl plain goesNot
end Go.Proofs.YtokdogomolegnaaGreatDoor.CompileLimit
