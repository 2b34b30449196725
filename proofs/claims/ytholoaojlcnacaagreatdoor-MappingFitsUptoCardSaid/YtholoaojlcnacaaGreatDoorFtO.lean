/- The law MappingFits of manifoldlaw18 returns true at every mapping, every value and every type whose values and letters together with the listed package variables are at most 1048576, and the arguments read afterwards as before.
   Conditions: the bound on the bulk (the second form); the listed package-level variables start as the program's text lays them (tied by the given tie); no more. -/
import Derived.Test.YtholoaojlcnacaaGreatDoorFtG
import Derived.Test.YtholoaojlcnacaaGreatDoorFtM
import Derived.Test.YtholoaojlcnacaaGreatDoorFtN
import Derived.SevenTiedAt
import Derived.Test.YtholoaojlcnacaaGreatDoorFtC
import Derived.Test.YtholoaojlcnacaaGreatDoorFtA
set_option linter.unusedVariables false
set_option linter.unusedSimpArgs false
set_option linter.unusedSectionVars false
set_option maxRecDepth 100000
namespace Go.Proofs.YtholoaojlcnacaaGreatDoor.MappingFits
open Go Go.Proofs Av Go.ChangeShapes Go.WideShapes Go.ChangeAt Go.RowKit
theorem noInit : Tryz.checked.prog.inits.idxOf? 3 = none := kR
theorem JQB : Tryz.prog.funcNamed "manifold/manifoldlaw18.MappingFits" = some 3 := kR
theorem JJt (os : Os) (started : os.Started) (H : Type) (enc : TypeId × Value → H) (F : Stop.Interp) :
  ReturnsInHanded {} Tryz.checked os 3 .any ((Rows.OpenSpec.upto Rows.mappingFitsSpec).preRow enc Tryz.prog Tryz.f3 Rows.mappingFitsUptoRow.domain false Rows.mappingFitsUptoRow.laid) (((Rows.OpenSpec.upto Rows.mappingFitsSpec).at F).post enc Tryz.prog Tryz.f3 false true false false) := by
 refine returnsInHanded_of_row (C := Tryz.checked) (s := Rows.OpenSpec.upto Rows.mappingFitsSpec) own started noInit Tryz.func3
  (witness_row_atRef (enc := enc) (C := Tryz.checked) false (YY os) X9 rfl (w_vars os) (w_rest os) (w_ok os)
   (OpenSpec.preRow_of_cond 3 (reads os enc) (by as_aux_lemma => kernel_rfl) (fun k hk => by cases hk; kernel_rfl) (by as_aux_lemma => kernel_rfl) (JNT os X9))) ?_
 intro W base args ds gs before hval hW _ hcond _ hL _ _;exact JL5 H enc W base args ds gs before hval hW (hcond _ rfl) hL
theorem isInst : Tryz.f3.isInstance Tryz.prog Rows.mappingFitsUptoRow.origin Rows.mappingFitsUptoRow.targs := of_decide_eq_true (by as_aux_lemma => kernel_rfl)
theorem isWrap : Tryz.f3.isWrapper Tryz.prog Rows.mappingFitsUptoRow.wrapper Rows.mappingFitsUptoRow.mainSum := by
 unfold Func.isWrapper
 first | (rw [if_pos (by decide +kernel)]; kernel_rfl) | (rw [if_neg (by decide +kernel)]; exact ⟨rfl, rfl⟩)
theorem JQC : Rows.MappingFitsUptoSaid :=
 OpenClaim.holds_of_cond 3 Tryz.f3 rfl rfl rfl rfl rfl rfl rfl ⟨rfl, rfl, rfl, rfl, rfl⟩ rfl rfl rfl rfl rfl JQB Tryz.func3 facts isInst isWrap
  (fun os started H enc _ F => by rw [OpenClaim.pre_eq_preRow]; exact JJt os started H enc F)
theorem JSq : true = Tryz.prog.looks [] := kR
theorem JL6 : Tryz.prog.wantsStandIn 24 = false := kR
theorem JL7 : Tryz.prog.wantsStandIn 28 = false := kR
theorem JL8 : Tryz.prog.wantsStandIn 33 = false := kR
theorem plain (f : FuncId) (fn : Func) (hf : Tryz.pinned.checked.prog.funcNamed "manifold/manifoldlaw18.MappingFits" = some f) (hfn : Tryz.pinned.checked.prog.funcs[f]? = some fn) :
  true = Tryz.pinned.checked.prog.looks [] ∧ ∀ (j : Nat) t, fn.params[j]? = some t → Tryz.pinned.checked.prog.wantsStandIn t = false := by
 obtain rfl : f = 3 := Option.some.inj (JQB.symm.trans hf) |>.symm;obtain rfl : fn = Tryz.f3 := (Option.some.inj (Tryz.func3.symm.trans hfn)).symm;refine ⟨JSq, fun j t ht => ?_⟩;rw [Tryz.params3] at ht;have h : t = 24 ∨ t = 28 ∨ t = 33 := by
  have := Array.mem_of_getElem? ht;simp at this;omega
 rcases h with rfl | rfl | rfl
 ·exact JL6
 ·exact JL7
 ·exact JL8
theorem wfText : Rows.mappingFitsUptoRow.wfByText (Rows.OpenSpec.upto Rows.mappingFitsSpec) = true := kR
theorem mainIs : Tryz.prog.mainIs = some (true, "517006c0a998290daf19b29944b866339bccd2437607a642acda341813212328".toList) := kR
theorem JSr : false = Rows.mappingFitsUptoRow.goesBy Tryz.prog := kR
theorem holds : Rows.MappingFitsUptoCardSaid :=
 Claim7.holds_tied_plain_at .later [] _ _ (true, "517006c0a998290daf19b29944b866339bccd2437607a642acda341813212328") true JQC (fun _ h => by cases h) wfText (fun _ h => by cases h) mappingFitsUpto_row_tie rfl ⟨rfl, rfl⟩ mainIs rfl plain JSr
end Go.Proofs.YtholoaojlcnacaaGreatDoor.MappingFits
