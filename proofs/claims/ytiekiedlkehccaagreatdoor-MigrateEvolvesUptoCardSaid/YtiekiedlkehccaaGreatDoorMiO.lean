/- The law MigrateEvolves of manifoldlaw40 returns true at every two types and every value whose values and letters together with the listed package variables are at most 1048576, and the arguments read afterwards as before.
   Conditions: the bound on the bulk (the second form); the listed package-level variables start as the program's text lays them (tied by the given tie); no more. -/
import Derived.Test.YtiekiedlkehccaaGreatDoorMiH
import Derived.Test.YtiekiedlkehccaaGreatDoorMiK
import Derived.Test.YtiekiedlkehccaaGreatDoorMiM
import Derived.Test.YtiekiedlkehccaaGreatDoorMiN
import Derived.SevenTiedAt
import Derived.Test.YtiekiedlkehccaaGreatDoorMiD
import Derived.Test.YtiekiedlkehccaaGreatDoorMiA
set_option linter.unusedVariables false
set_option linter.unusedSimpArgs false
set_option linter.unusedSectionVars false
set_option linter.constructorNameAsVariable false
set_option linter.unnecessarySimpa false
set_option maxRecDepth 100000
namespace Go.Proofs.YtiekiedlkehccaaGreatDoor.MigrateEvolves
open Go Go.Proofs Av Go.ChangeShapes Go.WideShapes Go.ChangeAt Go.RowKit
theorem liftedUpto (os : Os) (started : os.Started) (H : Type) (enc : TypeId × Value → H) (F : Stop.Interp) :
  ReturnsInHanded {} Tryz.checked os 3 .any ((Rows.OpenSpec.upto Rows.migrateEvolvesSpec).preRow enc Tryz.prog Tryz.f3 Rows.migrateEvolvesUptoRow.domain false Rows.migrateEvolvesUptoRow.laid) (((Rows.OpenSpec.upto Rows.migrateEvolvesSpec).at F).post enc Tryz.prog Tryz.f3 false true false false) := by
 refine returnsInHanded_of_row (C := Tryz.checked) (s := Rows.OpenSpec.upto Rows.migrateEvolvesSpec) own started noInit Tryz.func3
  (witness_row_atRef (enc := enc) (C := Tryz.checked) false (laidWorld os) pathArgs rfl (w_vars os) (w_rest os) (w_ok os)
   (OpenSpec.preRow_of_cond 6 (reads os enc) (by as_aux_lemma => kernel_rfl) (fun k hk => by cases hk; kernel_rfl) (by as_aux_lemma => kernel_rfl) (laid_met os pathArgs))) ?_
 intro W base args ds gs before hval hW _ hcond _ hL _ _;exact contractX H enc W base args ds gs before hval hW (hcond _ rfl) hL
theorem saidUpto : Rows.MigrateEvolvesUptoSaid :=
 OpenClaim.holds_of_cond 3 Tryz.f3 rfl rfl rfl rfl rfl rfl rfl ⟨rfl, rfl, rfl, rfl, rfl⟩ rfl rfl rfl rfl rfl named3 Tryz.func3 facts isInst isWrap
  (fun os started H enc _ F => by rw [OpenClaim.pre_eq_preRow]; exact liftedUpto os started H enc F)
theorem plain (f : FuncId) (fn : Func) (hf : Tryz.pinned.checked.prog.funcNamed "manifold/manifoldlaw40.MigrateEvolves" = some f) (hfn : Tryz.pinned.checked.prog.funcs[f]? = some fn) :
  true = Tryz.pinned.checked.prog.looks [] ∧ ∀ (j : Nat) t, fn.params[j]? = some t → Tryz.pinned.checked.prog.wantsStandIn t = false := by
 obtain rfl : f = 3 := Option.some.inj (named3.symm.trans hf) |>.symm;obtain rfl : fn = Tryz.f3 := (Option.some.inj (Tryz.func3.symm.trans hfn)).symm;refine ⟨looksOn, fun j t ht => ?_⟩;rw [Tryz.params3] at ht;rcases (by simpa using Array.mem_of_getElem? ht : t = 26 ∨ t = 30) with rfl | rfl
 ·exact noStand.1
 ·exact noStand.2
theorem holds : Rows.MigrateEvolvesUptoCardSaid :=
 Claim7.holds_tied_plain_at .later [] _ _ (true, "9661ca46eda2c0f32ac96ea4d5970d0f4ffb0a15529927b0ed1d7f4e66f2116f") true saidUpto (fun _ h => by cases h) wfText (fun _ h => by cases h) migrateEvolvesUpto_row_tie rfl ⟨rfl, rfl⟩ mainIs rfl plain goesNot
end Go.Proofs.YtiekiedlkehccaaGreatDoor.MigrateEvolves
