/- The law ExprEquals of manifoldlaw16 returns true at every two expressions whose values and letters together with the listed package variables are at most 1048576, and the arguments read afterwards as before.
   Conditions: the bound on the bulk (the second form); the listed package-level variables start as the program's text lays them (tied by the given tie); no more. -/
import Derived.Test.YtiekiedlkehccaaGreatDoorEqH
import Derived.Test.YtiekiedlkehccaaGreatDoorEqI
import Derived.Test.YtiekiedlkehccaaGreatDoorEqK
import Derived.Test.YtiekiedlkehccaaGreatDoorEqL
import Derived.Test.YtiekiedlkehccaaGreatDoorEqN
import Derived.SevenTiedAt
set_option linter.unusedVariables false
set_option linter.unusedSimpArgs false
set_option linter.unusedSectionVars false
set_option maxRecDepth 100000
namespace Go.Proofs.YtiekiedlkehccaaGreatDoor.ExprEquals
open Go Go.Proofs Av Go.ChangeShapes Go.WideShapes Go.ChangeAt Go.RowKit


theorem liftedUpto (os : Os) (started : os.Started) (H : Type) (enc : TypeId × Value → H) (F : Stop.Interp) :
    ReturnsInHanded {} Tryz.checked os 4 .any ((Rows.OpenSpec.upto Rows.exprEqualsSpec).preRow enc Tryz.prog Tryz.f4 Rows.exprEqualsUptoRow.domain false Rows.exprEqualsUptoRow.laid) (((Rows.OpenSpec.upto Rows.exprEqualsSpec).at F).post enc Tryz.prog Tryz.f4 false true false false) := by
  refine returnsInHanded_of_row (C := Tryz.checked) (s := Rows.OpenSpec.upto Rows.exprEqualsSpec) own started noInit Tryz.func4
    (witness_row_atRef (enc := enc) (C := Tryz.checked) false (laidWorld os) pathArgs rfl (w_vars os) (w_rest os) (w_ok os)
      (OpenSpec.preRow_of_cond 6 (reads os enc) (by as_aux_lemma => kernel_rfl) (fun k hk => by cases hk; kernel_rfl) (by as_aux_lemma => kernel_rfl) (laid_met os pathArgs))) ?_
  intro W base args ds gs before hval hW _ hcond _ hL _ _
  exact contractX walk20 H enc W base args ds gs before hval hW (hcond _ rfl) hL


theorem saidUpto : Rows.ExprEqualsUptoSaid :=
  OpenClaim.holds_of_cond 4 Tryz.f4 rfl rfl rfl rfl rfl rfl rfl ⟨rfl, rfl, rfl, rfl, rfl⟩ rfl rfl rfl rfl rfl named4 Tryz.func4 facts isInst isWrap
    (fun os started H enc _ F => by rw [OpenClaim.pre_eq_preRow]; exact liftedUpto os started H enc F)

theorem plain (f : FuncId) (fn : Func) (hf : Tryz.pinned.checked.prog.funcNamed "manifold/manifoldlaw16.ExprEquals" = some f) (hfn : Tryz.pinned.checked.prog.funcs[f]? = some fn) :
    true = Tryz.pinned.checked.prog.looks [] ∧ ∀ (j : Nat) t, fn.params[j]? = some t → Tryz.pinned.checked.prog.wantsStandIn t = false := by
  obtain rfl : f = 4 := Option.some.inj (named4.symm.trans hf) |>.symm
  obtain rfl : fn = Tryz.f4 := (Option.some.inj (Tryz.func4.symm.trans hfn)).symm
  refine ⟨looksOn, fun j t ht => ?_⟩
  rw [Tryz.params4] at ht
  obtain rfl : t = 73 := by
    have := Array.mem_of_getElem? ht
    simpa using this
  exact noStand

theorem holds : Rows.ExprEqualsUptoCardSaid :=
  Claim7.holds_tied_plain_at .later [] _ _ (true, "9661ca46eda2c0f32ac96ea4d5970d0f4ffb0a15529927b0ed1d7f4e66f2116f") true saidUpto (fun _ h => by cases h) wfText (fun _ h => by cases h) exprEqualsUpto_row_tie rfl ⟨rfl, rfl⟩ mainIs rfl plain goesNot
end Go.Proofs.YtiekiedlkehccaaGreatDoor.ExprEquals
