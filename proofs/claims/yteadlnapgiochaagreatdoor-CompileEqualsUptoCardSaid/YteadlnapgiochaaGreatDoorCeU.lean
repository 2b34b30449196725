/- Part U of a proof. -/
import Derived.Test.YteadlnapgiochaaGreatDoorCeE
import Derived.Test.YteadlnapgiochaaGreatDoorCeQ
import Derived.Test.YteadlnapgiochaaGreatDoorCeS
import Derived.Test.YteadlnapgiochaaGreatDoorCeT
import Derived.SevenTiedAt
import Derived.Test.YteadlnapgiochaaGreatDoorCeC
import Derived.Test.YteadlnapgiochaaGreatDoorCeA
set_option linter.unusedVariables false
set_option linter.unusedSimpArgs false
set_option linter.unusedSectionVars false
set_option linter.constructorNameAsVariable false
set_option linter.unnecessarySimpa false
set_option maxRecDepth 100000
namespace Go.Proofs.YteadlnapgiochaaGreatDoor.CompileEquals
open Go Go.Proofs Av Go.ChangeShapes Go.WideShapes Go.ChangeAt Go.RowKit
theorem JJ2(os:Os)(started:os.Started)(H:Type)(enc:TypeId×Value→H)(F:Stop.Interp):
  ReturnsInHanded {} Tryz.checked os 3 .any ((Rows.OpenSpec.upto Rows.compileEqualsSpec).preRow enc Tryz.prog Tryz.f3 Rows.compileEqualsUptoRow.domain false Rows.compileEqualsUptoRow.laid) (((Rows.OpenSpec.upto Rows.compileEqualsSpec).at F).post enc Tryz.prog Tryz.f3 false true false false):=by
 refine returnsInHanded_of_row (C:=Tryz.checked) (s:=Rows.OpenSpec.upto Rows.compileEqualsSpec) own started noInit Tryz.func3
  (witness_row_atRef (enc:=enc) (C:=Tryz.checked) false (Y2 os) YV rfl (w_vars os) (w_rest os) (w_ok os)
   (OpenSpec.preRow_of_cond 6 (reads os enc) (by as_aux_lemma=>kernel_rfl) (fun k hk=>by cases hk;kernel_rfl) (by as_aux_lemma=>kernel_rfl) (JNl os YV))) ?_
 intro W base args ds gs before hval hW _ hcond _ hL _ _;exact JMM H enc W base args ds gs before hval hW (hcond _ rfl) hL
theorem JP8:Rows.CompileEqualsUptoSaid:=
 OpenClaim.holds_of_cond 3 Tryz.f3 rfl rfl rfl rfl rfl rfl rfl ⟨rfl,rfl,rfl,rfl,rfl⟩ rfl rfl rfl rfl rfl JP6 Tryz.func3 facts isInst isWrap
  (fun os started H enc _ F=>by rw[OpenClaim.pre_eq_preRow];exact JJ2 os started H enc F)
theorem plain(f:FuncId)(fn:Func)(hf:Tryz.pinned.checked.prog.funcNamed "manifold/manifoldlaw27.CompileEquals" =some f)(hfn:Tryz.pinned.checked.prog.funcs[f]? =some fn):
  true=Tryz.pinned.checked.prog.looks []∧∀(j:Nat) t,fn.params[j]? =some t→Tryz.pinned.checked.prog.wantsStandIn t=false:=by
 obtain rfl:f=3:=Option.some.inj (JP6.symm.trans hf) |>.symm;obtain rfl:fn=Tryz.f3:=(Option.some.inj (Tryz.func3.symm.trans hfn)).symm;refine⟨JRv,fun j t ht=>?_⟩;rw[Tryz.params3]at ht
 match j,ht with
 |0,ht=>cases ht;exact JP7
 |1,ht=>cases ht;exact JIs
 |2,ht=>cases ht;exact JIs
 |j+3,ht=>simp at ht
theorem holds:Rows.CompileEqualsUptoCardSaid:=
 Claim7.holds_tied_plain_at .later [] _ _ (true, "352cd07af188ab22bb5fe2985fce6caf475dd7db1141746f11b2610d9dc2c84a") true JP8 (fun _ h=>by cases h) wfText (fun _ h=>by cases h) compileEqualsUpto_row_tie rfl ⟨rfl,rfl⟩ mainIs rfl plain JRw
end Go.Proofs.YteadlnapgiochaaGreatDoor.CompileEquals
