/- The law MappingOrder of manifoldlaw18 returns true at every mapping, every value and every type whose values and letters together with the listed package variables are at most 1048576, and the arguments read afterwards as before.
   Conditions: the bound on the bulk (the second form); the listed package-level variables start as the program's text lays them (tied by the given tie); no more. -/
import Derived.Test.YtholoaojlcnacaaGreatDoorOrG
import Derived.Test.YtholoaojlcnacaaGreatDoorOrM
import Derived.Test.YtholoaojlcnacaaGreatDoorOrN
import Derived.SevenTiedAt
import Derived.Test.YtholoaojlcnacaaGreatDoorFtC
import Derived.Test.YtholoaojlcnacaaGreatDoorFtA
set_option linter.unusedVariables false
set_option linter.unusedSimpArgs false
set_option linter.unusedSectionVars false
set_option maxRecDepth 100000
namespace Go.Proofs.YtholoaojlcnacaaGreatDoor.MappingOrder
open Go Go.Proofs Av Go.ChangeShapes Go.WideShapes Go.ChangeAt Go.RowKit
theorem noInit : Tryz.checked.prog.inits.idxOf? 4 = none := kR
theorem named4 : Tryz.prog.funcNamed "manifold/manifoldlaw18.MappingOrder" = some 4 := kR
theorem JJt (os : Os) (started : os.Started) (H : Type) (enc : TypeId × Value → H) (F : Stop.Interp) :
  ReturnsInHanded {} Tryz.checked os 4 .any ((Rows.OpenSpec.upto Rows.mappingOrderSpec).preRow enc Tryz.prog Tryz.f4 Rows.mappingOrderUptoRow.domain false Rows.mappingOrderUptoRow.laid) (((Rows.OpenSpec.upto Rows.mappingOrderSpec).at F).post enc Tryz.prog Tryz.f4 false true false false) := by
 refine returnsInHanded_of_row (C := Tryz.checked) (s := Rows.OpenSpec.upto Rows.mappingOrderSpec) own started noInit Tryz.func4
  (witness_row_atRef (enc := enc) (C := Tryz.checked) false (YY os) mapArgs4 rfl (w_vars os) (w_rest os) (w_ok os)
   (OpenSpec.preRow_of_cond 4 (reads os enc) (by as_aux_lemma => kernel_rfl) (fun k hk => by cases hk; kernel_rfl) (by as_aux_lemma => kernel_rfl) (JNT os mapArgs4))) ?_
 intro W base args ds gs before hval hW _ hcond _ hL _ _;exact contract4 H enc W base args ds gs before hval hW (hcond _ rfl) hL
theorem isInst : Tryz.f4.isInstance Tryz.prog Rows.mappingOrderUptoRow.origin Rows.mappingOrderUptoRow.targs := of_decide_eq_true (by as_aux_lemma => kernel_rfl)
theorem isWrap : Tryz.f4.isWrapper Tryz.prog Rows.mappingOrderUptoRow.wrapper Rows.mappingOrderUptoRow.mainSum := by
 unfold Func.isWrapper
 first | (rw [if_pos (by decide +kernel)]; kernel_rfl) | (rw [if_neg (by decide +kernel)]; exact ⟨rfl, rfl⟩)
theorem JQC : Rows.MappingOrderUptoSaid :=
 OpenClaim.holds_of_cond 4 Tryz.f4 rfl rfl rfl rfl rfl rfl rfl ⟨rfl, rfl, rfl, rfl, rfl⟩ rfl rfl rfl rfl rfl named4 Tryz.func4 facts isInst isWrap
  (fun os started H enc _ F => by rw [OpenClaim.pre_eq_preRow]; exact JJt os started H enc F)
theorem JSq : true = Tryz.prog.looks [] := kR
theorem JL6 : Tryz.prog.wantsStandIn 24 = false := kR
theorem JL7 : Tryz.prog.wantsStandIn 28 = false := kR
theorem JL8 : Tryz.prog.wantsStandIn 33 = false := kR
theorem plain (f : FuncId) (fn : Func) (hf : Tryz.pinned.checked.prog.funcNamed "manifold/manifoldlaw18.MappingOrder" = some f) (hfn : Tryz.pinned.checked.prog.funcs[f]? = some fn) :
  true = Tryz.pinned.checked.prog.looks [] ∧ ∀ (j : Nat) t, fn.params[j]? = some t → Tryz.pinned.checked.prog.wantsStandIn t = false := by
 obtain rfl : f = 4 := Option.some.inj (named4.symm.trans hf) |>.symm;obtain rfl : fn = Tryz.f4 := (Option.some.inj (Tryz.func4.symm.trans hfn)).symm;refine ⟨JSq, fun j t ht => ?_⟩;rw [Tryz.params4] at ht;have h : t = 24 ∨ t = 28 ∨ t = 33 := by
  have := Array.mem_of_getElem? ht;simp at this;omega
 rcases h with rfl | rfl | rfl
 ·exact JL6
 ·exact JL7
 ·exact JL8
theorem wfText : Rows.mappingOrderUptoRow.wfByText (Rows.OpenSpec.upto Rows.mappingOrderSpec) = true := kR
theorem mainIs : Tryz.prog.mainIs = some (true, "517006c0a998290daf19b29944b866339bccd2437607a642acda341813212328".toList) := kR
theorem JSr : false = Rows.mappingOrderUptoRow.goesBy Tryz.prog := kR
theorem holds : Rows.MappingOrderUptoCardSaid :=
 Claim7.holds_tied_plain_at .later [] _ _ (true, "517006c0a998290daf19b29944b866339bccd2437607a642acda341813212328") true JQC (fun _ h => by cases h) wfText (fun _ h => by cases h) mappingOrderUpto_row_tie rfl ⟨rfl, rfl⟩ mainIs rfl plain JSr
end Go.Proofs.YtholoaojlcnacaaGreatDoor.MappingOrder
