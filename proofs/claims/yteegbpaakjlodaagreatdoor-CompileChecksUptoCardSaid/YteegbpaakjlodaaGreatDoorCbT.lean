/- Part T of a proof. -/
import Derived.Test.YteegbpaakjlodaaGreatDoorCbE
import Derived.Test.YteegbpaakjlodaaGreatDoorCbP
import Derived.Test.YteegbpaakjlodaaGreatDoorCbR
import Derived.Test.YteegbpaakjlodaaGreatDoorCbS
import Derived.SevenTiedAt
import Derived.Test.YteegbpaakjlodaaGreatDoorCbC
import Derived.Test.YteegbpaakjlodaaGreatDoorCbA
set_option linter.unusedVariables false
set_option linter.unusedSimpArgs false
set_option linter.unusedSectionVars false
set_option linter.constructorNameAsVariable false
set_option linter.unnecessarySimpa false
set_option maxRecDepth 100000
namespace Go.Proofs.YteegbpaakjlodaaGreatDoor.CompileChecks
open Go Go.Proofs Av Go.ChangeShapes Go.WideShapes Go.ChangeAt Go.RowKit
theorem JJF(os:Os)(started:os.Started)(H:Type)(enc:TypeId×Value→H)(F:Stop.Interp):
  ReturnsInHanded {} Tryz.checked os 4 .any ((Rows.OpenSpec.upto Rows.compileChecksSpec).preRow enc Tryz.prog Tryz.f4 Rows.compileChecksUptoRow.domain false Rows.compileChecksUptoRow.laid) (((Rows.OpenSpec.upto Rows.compileChecksSpec).at F).post enc Tryz.prog Tryz.f4 false true false false):=by
 refine returnsInHanded_of_row (C:=Tryz.checked) (s:=Rows.OpenSpec.upto Rows.compileChecksSpec) own started noInit Tryz.func4
  (witness_row_atRef (enc:=enc) (C:=Tryz.checked) false (Ys os) YO rfl (JR5 os) (JR6 os) (w_ok os)
   (OpenSpec.preRow_of_cond 6 (reads os enc) (by as_aux_lemma=>kernel_rfl) (fun k hk=>by cases hk;kernel_rfl) (by as_aux_lemma=>kernel_rfl) (JMw os YO))) ?_
 intro W base args ds gs before hval hW _ hcond _ hL _ _;exact JLX H enc W base args ds gs before hval hW (hcond _ rfl) hL
theorem JO4:Rows.CompileChecksUptoSaid:=
 OpenClaim.holds_of_cond 4 Tryz.f4 rfl rfl rfl rfl rfl rfl rfl ⟨rfl,rfl,rfl,rfl,rfl⟩ rfl rfl rfl rfl rfl JO0 Tryz.func4 facts isInst isWrap
  (fun os started H enc _ F=>by rw[OpenClaim.pre_eq_preRow];exact JJF os started H enc F)
theorem plain(f:FuncId)(fn:Func)(hf:Tryz.pinned.checked.prog.funcNamed "manifold/manifoldlaw27.CompileChecks" =some f)(hfn:Tryz.pinned.checked.prog.funcs[f]? =some fn):
  true=Tryz.pinned.checked.prog.looks []∧∀(j:Nat) t,fn.params[j]? =some t→Tryz.pinned.checked.prog.wantsStandIn t=false:=by
 obtain rfl:f=4:=Option.some.inj (JO0.symm.trans hf) |>.symm;obtain rfl:fn=Tryz.f4:=(Option.some.inj (Tryz.func4.symm.trans hfn)).symm;refine⟨JQc,fun j t ht=>?_⟩;rw[Tryz.params4]at ht
 match j,ht with
 |0,ht=>cases ht;exact JO1
 |1,ht=>cases ht;exact JO2
 |j+2,ht=>simp at ht
theorem holds:Rows.CompileChecksUptoCardSaid:=
 Claim7.holds_tied_plain_at .later [] _ _ (true, "6a03f898325378b482ba44731f782f951659c365787d45fbdabfedd403ba2fd1") true JO4 (fun _ h=>by cases h) wfText (fun _ h=>by cases h) compileChecksUpto_row_tie rfl ⟨rfl,rfl⟩ mainIs rfl plain JQd
end Go.Proofs.YteegbpaakjlodaaGreatDoor.CompileChecks
