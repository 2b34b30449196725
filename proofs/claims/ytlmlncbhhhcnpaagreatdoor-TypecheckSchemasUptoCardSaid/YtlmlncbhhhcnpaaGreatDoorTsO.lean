/- For any program as layer 23 shortens it, typecheck.Schemas and typecheck.Behind return the schemas before and behind its steps, for arguments of a bulk of at most 1048576. -/
import Derived.Test.YtlmlncbhhhcnpaaGreatDoorTsE
import Derived.Test.YtlmlncbhhhcnpaaGreatDoorTsK
import Derived.Test.YtlmlncbhhhcnpaaGreatDoorTsM
import Derived.Test.YtlmlncbhhhcnpaaGreatDoorTsN
import Derived.SevenTiedAt
import Derived.Test.YtlmlncbhhhcnpaaGreatDoorTsC
import Derived.Test.YtlmlncbhhhcnpaaGreatDoorTsA
set_option linter.unusedVariables false
set_option linter.unusedSimpArgs false
set_option linter.unusedSectionVars false
set_option linter.constructorNameAsVariable false
set_option linter.unnecessarySimpa false
set_option maxRecDepth 100000
namespace Go.Proofs.YtlmlncbhhhcnpaaGreatDoor.TypecheckSchemas
open Go Go.Proofs Av Go.ChangeShapes Go.WideShapes Go.ChangeAt Go.RowKit
theorem liftedUpto(os:Os)(started:os.Started)(H:Type)(enc:TypeId×Value→H)(F:Stop.Interp):
  ReturnsInHanded {} Tryz.checked os 3 .any ((Rows.OpenSpec.upto Rows.typecheckSchemasSpec).preRow enc Tryz.prog Tryz.f3 Rows.typecheckSchemasUptoRow.domain false Rows.typecheckSchemasUptoRow.laid) (((Rows.OpenSpec.upto Rows.typecheckSchemasSpec).at F).post enc Tryz.prog Tryz.f3 false true false false):=by
 refine returnsInHanded_of_row (C:=Tryz.checked) (s:=Rows.OpenSpec.upto Rows.typecheckSchemasSpec) own started noInit Tryz.func3
  (witness_row_atRef (enc:=enc) (C:=Tryz.checked) false (laidWorld os) pathArgs rfl (w_vars os) (w_rest os) (w_ok os)
   (OpenSpec.preRow_of_cond 6 (reads os enc) (by as_aux_lemma=>kernel_rfl) (fun k hk=>by cases hk;kernel_rfl) (by as_aux_lemma=>kernel_rfl) (laid_met os pathArgs))) ?_
 intro W base args ds gs before hval hW _ hcond _ hL _ _;exact contractX H enc W base args ds gs before hval hW (hcond _ rfl) hL
theorem saidUpto:Rows.TypecheckSchemasUptoSaid:=
 OpenClaim.holds_of_cond 3 Tryz.f3 rfl rfl rfl rfl rfl rfl rfl ⟨rfl,rfl,rfl,rfl,rfl⟩ rfl rfl rfl rfl rfl named3 Tryz.func3 facts isInst isWrap
  (fun os started H enc _ F=>by rw[OpenClaim.pre_eq_preRow];exact liftedUpto os started H enc F)
theorem plain(f:FuncId)(fn:Func)(hf:Tryz.pinned.checked.prog.funcNamed "manifold/manifoldlaw24.TypecheckSchemas" =some f)(hfn:Tryz.pinned.checked.prog.funcs[f]? =some fn):
  true=Tryz.pinned.checked.prog.looks []∧∀(j:Nat) t,fn.params[j]? =some t→Tryz.pinned.checked.prog.wantsStandIn t=false:=by
 obtain rfl:f=3:=Option.some.inj (named3.symm.trans hf) |>.symm;obtain rfl:fn=Tryz.f3:=(Option.some.inj (Tryz.func3.symm.trans hfn)).symm;refine⟨looksOn,fun j t ht=>?_⟩;rw[Tryz.params3]at ht;obtain rfl:t=27:=by simpa using Array.mem_of_getElem? ht
 exact noStand
theorem holds:Rows.TypecheckSchemasUptoCardSaid:=
 Claim7.holds_tied_plain_at .later [] _ _ (true, "32fd8e76120ead1d6718655ab9bd0143809dfb85fb05b03ee5407b61f5fec5f3") true saidUpto (fun _ h=>by cases h) wfText (fun _ h=>by cases h) typecheckSchemasUpto_row_tie rfl ⟨rfl,rfl⟩ mainIs rfl plain goesNot
end Go.Proofs.YtlmlncbhhhcnpaaGreatDoor.TypecheckSchemas
