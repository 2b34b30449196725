/- Part T of a proof. -/
import Derived.Test.YteegbpaakjlodaaGreatDoorCbE
import Derived.Test.YteegbpaakjlodaaGreatDoorCbP
import Derived.Test.YteegbpaakjlodaaGreatDoorCbR
import Derived.Test.YteegbpaakjlodaaGreatDoorCbS
import Derived.SevenTiedAt
import Derived.Test.YteegbpaakjlodaaGreatDoorCbC
import Derived.Test.YteegbpaakjlodaaGreatDoorCbA
set_option linter.unusedVariables false
set_option linter.unusedSimpArgs false
set_option linter.unusedSectionVars false
set_option linter.constructorNameAsVariable false
set_option linter.unnecessarySimpa false
set_option maxRecDepth 100000
namespace Go.Proofs.YteegbpaakjlodaaGreatDoor.CompileBefore
open Go Go.Proofs Av Go.ChangeShapes Go.WideShapes Go.ChangeAt Go.RowKit
theorem JJF(os:Os)(started:os.Started)(H:Type)(enc:TypeId×Value→H)(F:Stop.Interp):
  ReturnsInHanded {} Tryz.checked os 3 .any ((Rows.OpenSpec.upto Rows.compileBeforeSpec).preRow enc Tryz.prog Tryz.f3 Rows.compileBeforeUptoRow.domain false Rows.compileBeforeUptoRow.laid) (((Rows.OpenSpec.upto Rows.compileBeforeSpec).at F).post enc Tryz.prog Tryz.f3 false true false false):=by
 refine returnsInHanded_of_row (C:=Tryz.checked) (s:=Rows.OpenSpec.upto Rows.compileBeforeSpec) own started noInit Tryz.func3
  (witness_row_atRef (enc:=enc) (C:=Tryz.checked) false (Ys os) YO rfl (JR5 os) (JR6 os) (w_ok os)
   (OpenSpec.preRow_of_cond 6 (reads os enc) (by as_aux_lemma=>kernel_rfl) (fun k hk=>by cases hk;kernel_rfl) (by as_aux_lemma=>kernel_rfl) (JMw os YO))) ?_
 intro W base args ds gs before hval hW _ hcond _ hL _ _;exact JLX H enc W base args ds gs before hval hW (hcond _ rfl) hL
theorem JO4:Rows.CompileBeforeUptoSaid:=
 OpenClaim.holds_of_cond 3 Tryz.f3 rfl rfl rfl rfl rfl rfl rfl ⟨rfl,rfl,rfl,rfl,rfl⟩ rfl rfl rfl rfl rfl JO0 Tryz.func3 facts isInst isWrap
  (fun os started H enc _ F=>by rw[OpenClaim.pre_eq_preRow];exact JJF os started H enc F)
theorem plain(f:FuncId)(fn:Func)(hf:Tryz.pinned.checked.prog.funcNamed "manifold/manifoldlaw27.CompileBefore" =some f)(hfn:Tryz.pinned.checked.prog.funcs[f]? =some fn):
  true=Tryz.pinned.checked.prog.looks []∧∀(j:Nat) t,fn.params[j]? =some t→Tryz.pinned.checked.prog.wantsStandIn t=false:=by
 obtain rfl:f=3:=Option.some.inj (JO0.symm.trans hf) |>.symm;obtain rfl:fn=Tryz.f3:=(Option.some.inj (Tryz.func3.symm.trans hfn)).symm;refine⟨JQc,fun j t ht=>?_⟩;rw[Tryz.params3]at ht
 match j,ht with
 |0,ht=>cases ht;exact JO1
 |1,ht=>cases ht;exact JO2
 |2,ht=>cases ht;exact JO3
 |j+3,ht=>simp at ht
theorem holds:Rows.CompileBeforeUptoCardSaid:=
 Claim7.holds_tied_plain_at .later [] _ _ (true, "6a03f898325378b482ba44731f782f951659c365787d45fbdabfedd403ba2fd1") true JO4 (fun _ h=>by cases h) wfText (fun _ h=>by cases h) compileBeforeUpto_row_tie rfl ⟨rfl,rfl⟩ mainIs rfl plain JQd
end Go.Proofs.YteegbpaakjlodaaGreatDoor.CompileBefore
