/- The law ExprCalculates of manifoldlaw16 returns true at any two numbers and any scale, and the arguments read afterwards as before.
   Conditions: the listed package-level variables start as the program's text lays them (tied by the given tie); the second form's bound on the bulk is not used. -/
import Derived.Test.YtholoaojlcnacaaGreatDoorCaW
import Derived.Test.YtholoaojlcnacaaGreatDoorCaE
import Derived.Test.YtholoaojlcnacaaGreatDoorCaFacts
import Derived.Test.YtholoaojlcnacaaGreatDoorKernD
import Derived.SevenTiedAt
set_option linter.unusedVariables false
set_option linter.unusedSimpArgs false
set_option linter.unusedSectionVars false
set_option linter.unusedSimpArgs false
set_option maxRecDepth 100000
namespace Go.Proofs.YtholoaojlcnacaaGreatDoor.ExprCalculates
open Go Go.Proofs Av Go.ChangeShapes Go.WideShapes Go.ChangeAt Go.RowKit

theorem noInit : Tryz.checked.prog.inits.idxOf? 5 = none := by kernel_rfl
theorem named5 : Tryz.prog.funcNamed "manifold/manifoldlaw16.ExprCalculates" = some 5 := by kernel_rfl

theorem liftedUpto (os : Os) (started : os.Started) (H : Type) (enc : TypeId × Value → H) (F : Stop.Interp) :
    ReturnsInHanded {} Tryz.checked os 5 .any ((Rows.OpenSpec.upto Rows.exprCalculatesSpec).preRow enc Tryz.prog Tryz.f5 Rows.exprCalculatesUptoRow.domain false Rows.exprCalculatesUptoRow.laid) (((Rows.OpenSpec.upto Rows.exprCalculatesSpec).at F).post enc Tryz.prog Tryz.f5 false true false false) := by
  refine returnsInHanded_of_row (C := Tryz.checked) (s := Rows.OpenSpec.upto Rows.exprCalculatesSpec) own started noInit Tryz.func5
    (witness_row_atRef (enc := enc) (C := Tryz.checked) false (laidWorld os) calcArgs rfl (w_vars os) (w_rest os) (w_ok os)
      (OpenSpec.preRow_of_cond 5 (reads os enc) (by as_aux_lemma => kernel_rfl) (fun k hk => by cases hk; kernel_rfl) (by as_aux_lemma => kernel_rfl) (laid_met os calcArgs))) ?_
  intro W base args ds gs before hval hW _ hcond _ hL _ _
  exact contractY H enc W base args ds gs before hval hW hL

theorem isInst : Tryz.f5.isInstance Tryz.prog Rows.exprCalculatesUptoRow.origin Rows.exprCalculatesUptoRow.targs := of_decide_eq_true (by as_aux_lemma => kernel_rfl)
theorem isWrap : Tryz.f5.isWrapper Tryz.prog Rows.exprCalculatesUptoRow.wrapper Rows.exprCalculatesUptoRow.mainSum := by
  unfold Func.isWrapper
  first | (rw [if_pos (by decide +kernel)]; kernel_rfl) | (rw [if_neg (by decide +kernel)]; exact ⟨rfl, rfl⟩)

theorem saidUpto : Rows.ExprCalculatesUptoSaid :=
  OpenClaim.holds_of_cond 5 Tryz.f5 rfl rfl rfl rfl rfl rfl rfl ⟨rfl, rfl, rfl, rfl, rfl⟩ rfl rfl rfl rfl rfl named5 Tryz.func5 facts isInst isWrap
    (fun os started H enc _ F => by rw [OpenClaim.pre_eq_preRow]; exact liftedUpto os started H enc F)

theorem looksOn : true = Tryz.prog.looks [] := by kernel_rfl
theorem noStand51 : Tryz.prog.wantsStandIn 51 = false := by kernel_rfl
theorem noStand3 : Tryz.prog.wantsStandIn 3 = false := by kernel_rfl
theorem plain (f : FuncId) (fn : Func) (hf : Tryz.pinned.checked.prog.funcNamed "manifold/manifoldlaw16.ExprCalculates" = some f) (hfn : Tryz.pinned.checked.prog.funcs[f]? = some fn) :
    true = Tryz.pinned.checked.prog.looks [] ∧ ∀ (j : Nat) t, fn.params[j]? = some t → Tryz.pinned.checked.prog.wantsStandIn t = false := by
  obtain rfl : f = 5 := Option.some.inj (named5.symm.trans hf) |>.symm
  obtain rfl : fn = Tryz.f5 := (Option.some.inj (Tryz.func5.symm.trans hfn)).symm
  refine ⟨looksOn, fun j t ht => ?_⟩
  rw [Tryz.params5] at ht
  have h : t = 51 ∨ t = 3 := by
    have := Array.mem_of_getElem? ht
    simp at this
    omega
  rcases h with rfl | rfl
  · exact noStand51
  · exact noStand3

theorem wfText : Rows.exprCalculatesUptoRow.wfByText (Rows.OpenSpec.upto Rows.exprCalculatesSpec) = true := by kernel_rfl
theorem mainIs : Tryz.prog.mainIs = some (true, "517006c0a998290daf19b29944b866339bccd2437607a642acda341813212328".toList) := by kernel_rfl
theorem goesNot : false = Rows.exprCalculatesUptoRow.goesBy Tryz.prog := by kernel_rfl
theorem holds : Rows.ExprCalculatesUptoCardSaid :=
  Claim7.holds_tied_plain_at .later [] _ _ (true, "517006c0a998290daf19b29944b866339bccd2437607a642acda341813212328") true saidUpto (fun _ h => by cases h) wfText (fun _ h => by cases h) exprCalculatesUpto_row_tie rfl ⟨rfl, rfl⟩ mainIs rfl plain goesNot
end Go.Proofs.YtholoaojlcnacaaGreatDoor.ExprCalculates
