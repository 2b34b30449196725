/- Part W of a proof. -/
import Derived.Test.YtpncocdpglfifaaGreatDoorCfS
import Derived.Test.YtpncocdpglfifaaGreatDoorCfR
import Derived.Test.YtpncocdpglfifaaGreatDoorCfU
import Derived.Test.YtpncocdpglfifaaGreatDoorCfV
import Derived.SevenTiedAt
import Derived.Test.YtpncocdpglfifaaGreatDoorCfC
import Derived.Test.YtpncocdpglfifaaGreatDoorCfA
set_option linter.unusedVariables false
set_option linter.unusedSimpArgs false
set_option linter.unusedSectionVars false
set_option linter.constructorNameAsVariable false
set_option linter.unnecessarySimpa false
set_option maxRecDepth 100000
namespace Go.Proofs.YtpncocdpglfifaaGreatDoor.CompileLookups
open Go Go.Proofs Av Go.ChangeShapes Go.WideShapes Go.ChangeAt Go.RowKit
theorem JJO(os:Os)(started:os.Started)(H:Type)(enc:TypeId×Value→H)(F:Stop.Interp):
  ReturnsInHanded {} Tryz.checked os 3 .any ((Rows.OpenSpec.upto Rows.compileLookupsSpec).preRow enc Tryz.prog Tryz.f3 Rows.compileLookupsUptoRow.domain false Rows.compileLookupsUptoRow.laid) (((Rows.OpenSpec.upto Rows.compileLookupsSpec).at F).post enc Tryz.prog Tryz.f3 false true false false):=by
 refine returnsInHanded_of_row (C:=Tryz.checked) (s:=Rows.OpenSpec.upto Rows.compileLookupsSpec) own started noInit Tryz.func3
  (witness_row_atRef (enc:=enc) (C:=Tryz.checked) false (Yw os) YQ rfl (JSS os) (JST os) (w_ok os)
   (OpenSpec.preRow_of_cond 6 (reads os enc) (by as_aux_lemma=>kernel_rfl) (fun k hk=>by cases hk;kernel_rfl) (by as_aux_lemma=>kernel_rfl) (JM6 os YQ))) ?_
 intro W base args ds gs before hval hW _ hcond _ hL _ _;exact JLg H enc W base args ds gs before hval hW (hcond _ rfl) hL
theorem JPK:Rows.CompileLookupsUptoSaid:=
 OpenClaim.holds_of_cond 3 Tryz.f3 rfl rfl rfl rfl rfl rfl rfl ⟨rfl,rfl,rfl,rfl,rfl⟩ rfl rfl rfl rfl rfl JPG Tryz.func3 facts isInst isWrap
  (fun os started H enc _ F=>by rw[OpenClaim.pre_eq_preRow];exact JJO os started H enc F)
theorem plain(f:FuncId)(fn:Func)(hf:Tryz.pinned.checked.prog.funcNamed "manifold/manifoldlaw27.CompileLookups" =some f)(hfn:Tryz.pinned.checked.prog.funcs[f]? =some fn):
  true=Tryz.pinned.checked.prog.looks []∧∀(j:Nat) t,fn.params[j]? =some t→Tryz.pinned.checked.prog.wantsStandIn t=false:=by
 obtain rfl:f=3:=Option.some.inj (JPG.symm.trans hf) |>.symm;obtain rfl:fn=Tryz.f3:=(Option.some.inj (Tryz.func3.symm.trans hfn)).symm;refine⟨JQz,fun j t ht=>?_⟩;rw[Tryz.params3]at ht
 match j,ht with
 |0,ht=>cases ht;exact JPH
 |1,ht=>cases ht;exact JPI
 |2,ht=>cases ht;exact JPJ
 |j+3,ht=>simp at ht
theorem holds:Rows.CompileLookupsUptoCardSaid:=
 Claim7.holds_tied_plain_at .later [] _ _ (true, "786884d247fb3954d8dbcdfc7ddbd605bf748e8b20b4ed0015aee68bc84072d5") true JPK (fun _ h=>by cases h) wfText (fun _ h=>by cases h) compileLookupsUpto_row_tie rfl ⟨rfl,rfl⟩ mainIs rfl plain JQ0
end Go.Proofs.YtpncocdpglfifaaGreatDoor.CompileLookups
