/- The law FlowRules of manifoldlaw25 returns true at every sketch and byte whose letters and values, together with the listed package variables, are at most 1048576, and the arguments are read afterwards as before. Conditions: that bound (the second form); the listed package-level variables start as the program's text lays them; no more. -/
import Derived.Test.YtjcljkgafcdbgaaGreatDoorFrP
import Derived.Test.YtjcljkgafcdbgaaGreatDoorFrBg
import Derived.Test.YtjcljkgafcdbgaaGreatDoorFrBr
import Derived.Test.YtjcljkgafcdbgaaGreatDoorFrBs
import Derived.SevenTiedAt
import Derived.Test.YtjcljkgafcdbgaaGreatDoorFrC
import Derived.Test.YtjcljkgafcdbgaaGreatDoorFrA
set_option linter.unusedVariables false
set_option linter.unusedSimpArgs false
set_option linter.unusedSectionVars false
set_option linter.constructorNameAsVariable false
set_option linter.unnecessarySimpa false
set_option maxRecDepth 100000
namespace Go.Proofs.YtjcljkgafcdbgaaGreatDoor.FlowRules
open Go Go.Proofs Av Go.ChangeShapes Go.WideShapes Go.ChangeAt Go.RowKit
theorem JKK(os:Os)(started:os.Started)(H:Type)(enc:TypeId×Value→H)(F:Stop.Interp):
  ReturnsInHanded {} Tryz.checked os 3 .any ((Rows.OpenSpec.upto Rows.flowRulesSpec).preRow enc Tryz.prog Tryz.f3 Rows.flowRulesUptoRow.domain false Rows.flowRulesUptoRow.laid) (((Rows.OpenSpec.upto Rows.flowRulesSpec).at F).post enc Tryz.prog Tryz.f3 false true false false):=by
 refine returnsInHanded_of_row (C:=Tryz.checked) (s:=Rows.OpenSpec.upto Rows.flowRulesSpec) own started noInit Tryz.func3
  (witness_row_atRef (enc:=enc) (C:=Tryz.checked) false (Ye os) YE rfl (w_vars os) (w_rest os) (w_ok os)
   (OpenSpec.preRow_of_cond 6 (reads os enc) (by as_aux_lemma=>kernel_rfl) (fun k hk=>by cases hk;kernel_rfl) (by as_aux_lemma=>kernel_rfl) (JN2 os YE))) ?_
 intro W base args ds gs before hval hW _ hcond _ hL _ _;exact JMe H enc W base args ds gs before hval hW (hcond _ rfl) hL
theorem JSE:Rows.FlowRulesUptoSaid:=
 OpenClaim.holds_of_cond 3 Tryz.f3 rfl rfl rfl rfl rfl rfl rfl ⟨rfl,rfl,rfl,rfl,rfl⟩ rfl rfl rfl rfl rfl JSB Tryz.func3 facts isInst isWrap
  (fun os started H enc _ F=>by rw[OpenClaim.pre_eq_preRow];exact JKK os started H enc F)
theorem plain(f:FuncId)(fn:Func)(hf:Tryz.pinned.checked.prog.funcNamed "manifold/manifoldlaw25.FlowRules" =some f)(hfn:Tryz.pinned.checked.prog.funcs[f]? =some fn):
  true=Tryz.pinned.checked.prog.looks []∧∀(j:Nat) t,fn.params[j]? =some t→Tryz.pinned.checked.prog.wantsStandIn t=false:=by
 obtain rfl:f=3:=Option.some.inj (JSB.symm.trans hf) |>.symm;obtain rfl:fn=Tryz.f3:=(Option.some.inj (Tryz.func3.symm.trans hfn)).symm;refine⟨looksOn,fun j t ht=>?_⟩;rw[Tryz.params3]at ht
 match j,ht with
 |0,ht=>cases ht;exact JSC
 |1,ht=>cases ht;exact JSD
 |j+2,ht=>simp at ht
theorem holds:Rows.FlowRulesUptoCardSaid:=
 Claim7.holds_tied_plain_at .later [] _ _ (true, "9da64dfb3f8d821fbde81e46e16818119be5741cea6594d676b2d4fb8038a6ef") true JSE (fun _ h=>by cases h) wfText (fun _ h=>by cases h) Z2 rfl ⟨rfl,rfl⟩ mainIs rfl plain goesNot
end Go.Proofs.YtjcljkgafcdbgaaGreatDoor.FlowRules
