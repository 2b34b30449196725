/- The law ExprPaths of manifoldlaw16 returns true at every expression whose values and letters together with the listed package variables are at most 1048576, and the argument reads afterwards as before.
   Conditions: the bound on the bulk (the second form); the listed package-level variables start as the program's text lays them (tied by the given tie); no more. -/
import Derived.Test.YtholoaojlcnacaaGreatDoorExW
import Derived.Test.YtholoaojlcnacaaGreatDoorExC
import Derived.Test.YtholoaojlcnacaaGreatDoorExFacts
import Derived.Test.YtholoaojlcnacaaGreatDoorKernD
import Derived.SevenTiedAt
set_option linter.unusedVariables false
set_option linter.unusedSimpArgs false
set_option linter.unusedSectionVars false
set_option linter.unusedSimpArgs false
set_option maxRecDepth 100000
namespace Go.Proofs.YtholoaojlcnacaaGreatDoor.ExprPaths
open Go Go.Proofs Av Go.ChangeShapes Go.WideShapes Go.ChangeAt Go.RowKit

theorem noInit : Tryz.checked.prog.inits.idxOf? 6 = none := by kernel_rfl
theorem named6 : Tryz.prog.funcNamed "manifold/manifoldlaw16.ExprPaths" = some 6 := by kernel_rfl

theorem liftedUpto (os : Os) (started : os.Started) (H : Type) (enc : TypeId × Value → H) (F : Stop.Interp) :
    ReturnsInHanded {} Tryz.checked os 6 .any ((Rows.OpenSpec.upto Rows.exprPathsSpec).preRow enc Tryz.prog Tryz.f6 Rows.exprPathsUptoRow.domain false Rows.exprPathsUptoRow.laid) (((Rows.OpenSpec.upto Rows.exprPathsSpec).at F).post enc Tryz.prog Tryz.f6 false true false false) := by
  refine returnsInHanded_of_row (C := Tryz.checked) (s := Rows.OpenSpec.upto Rows.exprPathsSpec) own started noInit Tryz.func6
    (witness_row_atRef (enc := enc) (C := Tryz.checked) false (laidWorld os) pathArgs rfl (w_vars os) (w_rest os) (w_ok os)
      (OpenSpec.preRow_of_cond 6 (reads os enc) (by as_aux_lemma => kernel_rfl) (fun k hk => by cases hk; kernel_rfl) (by as_aux_lemma => kernel_rfl) (laid_met os pathArgs))) ?_
  intro W base args ds gs before hval hW _ hcond _ hL _ _
  exact contractX walk20 H enc W base args ds gs before hval hW (hcond _ rfl) hL

theorem isInst : Tryz.f6.isInstance Tryz.prog Rows.exprPathsUptoRow.origin Rows.exprPathsUptoRow.targs := of_decide_eq_true (by as_aux_lemma => kernel_rfl)
theorem isWrap : Tryz.f6.isWrapper Tryz.prog Rows.exprPathsUptoRow.wrapper Rows.exprPathsUptoRow.mainSum := by
  unfold Func.isWrapper
  first | (rw [if_pos (by decide +kernel)]; kernel_rfl) | (rw [if_neg (by decide +kernel)]; exact ⟨rfl, rfl⟩)

theorem saidUpto : Rows.ExprPathsUptoSaid :=
  OpenClaim.holds_of_cond 6 Tryz.f6 rfl rfl rfl rfl rfl rfl rfl ⟨rfl, rfl, rfl, rfl, rfl⟩ rfl rfl rfl rfl rfl named6 Tryz.func6 facts isInst isWrap
    (fun os started H enc _ F => by rw [OpenClaim.pre_eq_preRow]; exact liftedUpto os started H enc F)

theorem looksOn : true = Tryz.prog.looks [] := by kernel_rfl
theorem noStand : Tryz.prog.wantsStandIn 46 = false := by kernel_rfl
theorem plain (f : FuncId) (fn : Func) (hf : Tryz.pinned.checked.prog.funcNamed "manifold/manifoldlaw16.ExprPaths" = some f) (hfn : Tryz.pinned.checked.prog.funcs[f]? = some fn) :
    true = Tryz.pinned.checked.prog.looks [] ∧ ∀ (j : Nat) t, fn.params[j]? = some t → Tryz.pinned.checked.prog.wantsStandIn t = false := by
  obtain rfl : f = 6 := Option.some.inj (named6.symm.trans hf) |>.symm
  obtain rfl : fn = Tryz.f6 := (Option.some.inj (Tryz.func6.symm.trans hfn)).symm
  refine ⟨looksOn, fun j t ht => ?_⟩
  rw [Tryz.params6] at ht
  have h : t = 46 := by simpa using Array.mem_of_getElem? ht
  subst h
  exact noStand

theorem wfText : Rows.exprPathsUptoRow.wfByText (Rows.OpenSpec.upto Rows.exprPathsSpec) = true := by kernel_rfl
theorem mainIs : Tryz.prog.mainIs = some (true, "517006c0a998290daf19b29944b866339bccd2437607a642acda341813212328".toList) := by kernel_rfl
theorem goesNot : false = Rows.exprPathsUptoRow.goesBy Tryz.prog := by kernel_rfl
theorem holds : Rows.ExprPathsUptoCardSaid :=
  Claim7.holds_tied_plain_at .later [] _ _ (true, "517006c0a998290daf19b29944b866339bccd2437607a642acda341813212328") true saidUpto (fun _ h => by cases h) wfText (fun _ h => by cases h) exprPathsUpto_row_tie rfl ⟨rfl, rfl⟩ mainIs rfl plain goesNot
end Go.Proofs.YtholoaojlcnacaaGreatDoor.ExprPaths
