/- Part M of a proof. -/
import Derived.Test.YtlmlncbhhhcnpaaGreatDoorTsL
import Derived.SevenTiedAt
import Derived.Test.YtlmlncbhhhcnpaaGreatDoorTsC
import Derived.Test.YtlmlncbhhhcnpaaGreatDoorTsA
set_option linter.unusedVariables false
set_option linter.unusedSimpArgs false
set_option linter.unusedSectionVars false
set_option linter.constructorNameAsVariable false
set_option linter.unnecessarySimpa false
set_option maxRecDepth 100000
namespace Go.Proofs.YtlmlncbhhhcnpaaGreatDoor.TypecheckSchemas
open Go Go.Proofs
theorem noInit:Tryz.checked.prog.inits.idxOf? 3=none:=kR
theorem named3:Tryz.prog.funcNamed "manifold/manifoldlaw24.TypecheckSchemas" =some 3:=kR
theorem isInst:Tryz.f3.isInstance Tryz.prog Rows.typecheckSchemasUptoRow.origin Rows.typecheckSchemasUptoRow.targs:=of_decide_eq_true (by as_aux_lemma=>kernel_rfl)
theorem isWrap:Tryz.f3.isWrapper Tryz.prog Rows.typecheckSchemasUptoRow.wrapper Rows.typecheckSchemasUptoRow.mainSum:=by
 unfold Func.isWrapper
 first|(rw[if_pos (by decide+kernel)];kernel_rfl)|(rw[if_neg (by decide+kernel)];exact⟨rfl,rfl⟩)
theorem looksOn:true=Tryz.prog.looks []:=kR
theorem noStand:Tryz.prog.wantsStandIn 27=false:=kR
theorem wfText:Rows.typecheckSchemasUptoRow.wfByText (Rows.OpenSpec.upto Rows.typecheckSchemasSpec)=true:=kR
theorem mainIs:Tryz.prog.mainIs=some (true, "32fd8e76120ead1d6718655ab9bd0143809dfb85fb05b03ee5407b61f5fec5f3".toList):=kR
end Go.Proofs.YtlmlncbhhhcnpaaGreatDoor.TypecheckSchemas
