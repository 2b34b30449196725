/- The law ExprDepends of manifoldlaw16 returns true at every expression, every value and every change (a path and a value) whose values and letters together with the listed package variables are at most 1048576, and the arguments read afterwards as before.
   Conditions: the bound on the bulk (the second form); the listed package-level variables start as the program's text lays them (tied by the given tie); no more. -/
import Derived.Test.YtiekiedlkehccaaGreatDoorDpG
import Derived.Test.YtiekiedlkehccaaGreatDoorDpJ
import Derived.Test.YtiekiedlkehccaaGreatDoorDpL
import Derived.Test.YtiekiedlkehccaaGreatDoorDpM
import Derived.Test.YtiekiedlkehccaaGreatDoorDpO
import Derived.SevenTiedAt
import Derived.Test.YtiekiedlkehccaaGreatDoorDpC
import Derived.Test.YtiekiedlkehccaaGreatDoorDpA
set_option linter.unusedVariables false
set_option linter.unusedSimpArgs false
set_option linter.unusedSectionVars false
set_option maxRecDepth 100000
namespace Go.Proofs.YtiekiedlkehccaaGreatDoor.ExprDepends
open Go Go.Proofs Av Go.ChangeShapes Go.WideShapes Go.ChangeAt Go.RowKit
theorem liftedUpto (os : Os) (started : os.Started) (H : Type) (enc : TypeId × Value → H) (F : Stop.Interp) :
  ReturnsInHanded {} Tryz.checked os 5 .any ((Rows.OpenSpec.upto Rows.exprDependsSpec).preRow enc Tryz.prog Tryz.f5 Rows.exprDependsUptoRow.domain false Rows.exprDependsUptoRow.laid) (((Rows.OpenSpec.upto Rows.exprDependsSpec).at F).post enc Tryz.prog Tryz.f5 false true false false) := by
 refine returnsInHanded_of_row (C := Tryz.checked) (s := Rows.OpenSpec.upto Rows.exprDependsSpec) own started noInit Tryz.func5
  (witness_row_atRef (enc := enc) (C := Tryz.checked) false (laidWorld os) pathArgs rfl (w_vars os) (w_rest os) (w_ok os)
   (OpenSpec.preRow_of_cond 6 (reads os enc) (by as_aux_lemma => kernel_rfl) (fun k hk => by cases hk; kernel_rfl) (by as_aux_lemma => kernel_rfl) (laid_met os pathArgs))) ?_
 intro W base args ds gs before hval hW _ hcond _ hL _ _;exact contractX walk20 H enc W base args ds gs before hval hW (hcond _ rfl) hL
theorem saidUpto : Rows.ExprDependsUptoSaid :=
 OpenClaim.holds_of_cond 5 Tryz.f5 rfl rfl rfl rfl rfl rfl rfl ⟨rfl, rfl, rfl, rfl, rfl⟩ rfl rfl rfl rfl rfl named5 Tryz.func5 facts isInst isWrap
  (fun os started H enc _ F => by rw [OpenClaim.pre_eq_preRow]; exact liftedUpto os started H enc F)
theorem plain (f : FuncId) (fn : Func) (hf : Tryz.pinned.checked.prog.funcNamed "manifold/manifoldlaw16.ExprDepends" = some f) (hfn : Tryz.pinned.checked.prog.funcs[f]? = some fn) :
  true = Tryz.pinned.checked.prog.looks [] ∧ ∀ (j : Nat) t, fn.params[j]? = some t → Tryz.pinned.checked.prog.wantsStandIn t = false := by
 obtain rfl : f = 5 := Option.some.inj (named5.symm.trans hf) |>.symm;obtain rfl : fn = Tryz.f5 := (Option.some.inj (Tryz.func5.symm.trans hfn)).symm;refine ⟨looksOn, fun j t ht => ?_⟩;rw [Tryz.params5] at ht;have h : t = 73 ∨ t = 30 ∨ t = 79 := by simpa using Array.mem_of_getElem? ht
 have hs := noStand;simp only [Bool.or_eq_false_iff] at hs;rcases h with h | h | h
 ·subst h; exact hs.1.1
 ·subst h; exact hs.1.2
 ·subst h; exact hs.2
theorem holds : Rows.ExprDependsUptoCardSaid :=
 Claim7.holds_tied_plain_at .later [] _ _ (true, "9661ca46eda2c0f32ac96ea4d5970d0f4ffb0a15529927b0ed1d7f4e66f2116f") true saidUpto (fun _ h => by cases h) wfText (fun _ h => by cases h) exprDependsUpto_row_tie rfl ⟨rfl, rfl⟩ mainIs rfl plain goesNot
end Go.Proofs.YtiekiedlkehccaaGreatDoor.ExprDepends
