/- Part U of a proof. -/
import Derived.Test.YtpncocdpglfifaaGreatDoorCfT
import Derived.SevenTiedAt
import Derived.Test.YtpncocdpglfifaaGreatDoorCfC
import Derived.Test.YtpncocdpglfifaaGreatDoorCfA
set_option linter.unusedVariables false
set_option linter.unusedSimpArgs false
set_option linter.unusedSectionVars false
set_option linter.constructorNameAsVariable false
set_option linter.unnecessarySimpa false
set_option maxRecDepth 100000
namespace Go.Proofs.YtpncocdpglfifaaGreatDoor.CompileLookups
open Go Go.Proofs
theorem noInit:Tryz.checked.prog.inits.idxOf? 3=none:=kR
theorem JPG:Tryz.prog.funcNamed "manifold/manifoldlaw27.CompileLookups" =some 3:=kR
theorem isInst:Tryz.f3.isInstance Tryz.prog Rows.compileLookupsUptoRow.origin Rows.compileLookupsUptoRow.targs:=of_decide_eq_true (by as_aux_lemma=>kernel_rfl)
theorem isWrap:Tryz.f3.isWrapper Tryz.prog Rows.compileLookupsUptoRow.wrapper Rows.compileLookupsUptoRow.mainSum:=by
 unfold Func.isWrapper
 first|(rw[if_pos (by decide+kernel)];kernel_rfl)|(rw[if_neg (by decide+kernel)];exact⟨rfl,rfl⟩)
theorem JQz:true=Tryz.prog.looks []:=kR
theorem JPH:Tryz.prog.wantsStandIn 25=false:=kR
theorem JPI:Tryz.prog.wantsStandIn 26=false:=kR
theorem JPJ:Tryz.prog.wantsStandIn 28=false:=kR
theorem wfText:Rows.compileLookupsUptoRow.wfByText (Rows.OpenSpec.upto Rows.compileLookupsSpec)=true:=kR
theorem mainIs:Tryz.prog.mainIs=some (true, "786884d247fb3954d8dbcdfc7ddbd605bf748e8b20b4ed0015aee68bc84072d5".toList):=kR
end Go.Proofs.YtpncocdpglfifaaGreatDoor.CompileLookups
