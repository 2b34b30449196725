/- The law MappingPaths of manifoldlaw18 returns true at every mapping whose values and letters together with the listed package variables are at most 1048576, and the argument reads afterwards as before.
   Conditions: the bound on the bulk (the second form); the listed package-level variables start as the program's text lays them (tied by the given tie); no more. -/
import Derived.Test.YtpkgbjneglfkhaaGreatDoorPaB
import Derived.Test.YtpkgbjneglfkhaaGreatDoorPaFacts
import Derived.Test.YtpkgbjneglfkhaaGreatDoorKernB
import Derived.SevenTiedAt
set_option linter.unusedVariables false
set_option linter.unusedSimpArgs false
set_option linter.unusedSectionVars false
set_option linter.unusedSimpArgs false
set_option maxRecDepth 100000
namespace Go.Proofs.YtpkgbjneglfkhaaGreatDoor.MappingPaths
open Go Go.Proofs Av Go.ChangeShapes Go.WideShapes Go.ChangeAt Go.RowKit

theorem noInit : Tryz.checked.prog.inits.idxOf? 8 = none := by kernel_rfl
theorem named8 : Tryz.prog.funcNamed "manifold/manifoldlaw18.MappingPaths" = some 8 := by kernel_rfl

theorem liftedUpto (os : Os) (started : os.Started) (H : Type) (enc : TypeId × Value → H) (F : Stop.Interp) :
    ReturnsInHanded {} Tryz.checked os 8 .any ((Rows.OpenSpec.upto Rows.mappingPathsSpec).preRow enc Tryz.prog Tryz.f8 Rows.mappingPathsUptoRow.domain false Rows.mappingPathsUptoRow.laid) (((Rows.OpenSpec.upto Rows.mappingPathsSpec).at F).post enc Tryz.prog Tryz.f8 false true false false) := by
  refine returnsInHanded_of_row (C := Tryz.checked) (s := Rows.OpenSpec.upto Rows.mappingPathsSpec) own started noInit Tryz.func8
    (witness_row_atRef (enc := enc) (C := Tryz.checked) false (laidWorld os) pathArgs rfl (w_vars os) (w_rest os) (w_ok os)
      (OpenSpec.preRow_of_cond 8 (reads os enc) (by as_aux_lemma => kernel_rfl) (fun k hk => by cases hk; kernel_rfl) (by as_aux_lemma => kernel_rfl) (laid_met os pathArgs))) ?_
  intro W base args ds gs before hval hW _ hcond _ hL _ _
  exact contractP walk22 H enc W base args ds gs before hval hW (hcond _ rfl) hL

theorem isInst : Tryz.f8.isInstance Tryz.prog Rows.mappingPathsUptoRow.origin Rows.mappingPathsUptoRow.targs := of_decide_eq_true (by as_aux_lemma => kernel_rfl)
theorem isWrap : Tryz.f8.isWrapper Tryz.prog Rows.mappingPathsUptoRow.wrapper Rows.mappingPathsUptoRow.mainSum := by
  unfold Func.isWrapper
  first | (rw [if_pos (by decide +kernel)]; kernel_rfl) | (rw [if_neg (by decide +kernel)]; exact ⟨rfl, rfl⟩)

theorem saidUpto : Rows.MappingPathsUptoSaid :=
  OpenClaim.holds_of_cond 8 Tryz.f8 rfl rfl rfl rfl rfl rfl rfl ⟨rfl, rfl, rfl, rfl, rfl⟩ rfl rfl rfl rfl rfl named8 Tryz.func8 facts isInst isWrap
    (fun os started H enc _ F => by rw [OpenClaim.pre_eq_preRow]; exact liftedUpto os started H enc F)

theorem looksOn : true = Tryz.prog.looks [] := by kernel_rfl
theorem noStand : Tryz.prog.wantsStandIn 73 = false := by kernel_rfl
theorem plain (f : FuncId) (fn : Func) (hf : Tryz.pinned.checked.prog.funcNamed "manifold/manifoldlaw18.MappingPaths" = some f) (hfn : Tryz.pinned.checked.prog.funcs[f]? = some fn) :
    true = Tryz.pinned.checked.prog.looks [] ∧ ∀ (j : Nat) t, fn.params[j]? = some t → Tryz.pinned.checked.prog.wantsStandIn t = false := by
  obtain rfl : f = 8 := Option.some.inj (named8.symm.trans hf) |>.symm
  obtain rfl : fn = Tryz.f8 := (Option.some.inj (Tryz.func8.symm.trans hfn)).symm
  refine ⟨looksOn, fun j t ht => ?_⟩
  rw [Tryz.params8] at ht
  have h : t = 73 := by simpa using Array.mem_of_getElem? ht
  subst h
  exact noStand

theorem wfText : Rows.mappingPathsUptoRow.wfByText (Rows.OpenSpec.upto Rows.mappingPathsSpec) = true := by kernel_rfl
theorem mainIs : Tryz.prog.mainIs = some (true, "9fd80276a605a8ea8a275e189e18a6dc8947cdc0f06c908b55f4797eec7b590c".toList) := by kernel_rfl
theorem goesNot : false = Rows.mappingPathsUptoRow.goesBy Tryz.prog := by kernel_rfl
theorem holds : Rows.MappingPathsUptoCardSaid :=
  Claim7.holds_tied_plain_at .later [] _ _ (true, "9fd80276a605a8ea8a275e189e18a6dc8947cdc0f06c908b55f4797eec7b590c") true saidUpto (fun _ h => by cases h) wfText (fun _ h => by cases h) mappingPathsUpto_row_tie rfl ⟨rfl, rfl⟩ mainIs rfl plain goesNot
end Go.Proofs.YtpkgbjneglfkhaaGreatDoor.MappingPaths
