/- Part O of a proof. -/
import Derived.Test.YtfioheedknfjnaaGreatDoorPcN
import Derived.SevenTiedAt
import Derived.Test.YtfioheedknfjnaaGreatDoorPcC
import Derived.Test.YtfioheedknfjnaaGreatDoorPcA
set_option linter.unusedVariables false
set_option linter.unusedSimpArgs false
set_option linter.unusedSectionVars false
set_option linter.constructorNameAsVariable false
set_option linter.unnecessarySimpa false
set_option maxRecDepth 100000
namespace Go.Proofs.YtfioheedknfjnaaGreatDoor.PredicateCounts
open Go Go.Proofs
theorem noInit:Tryz.checked.prog.inits.idxOf? 3=none:=kR
theorem JO4:Tryz.prog.funcNamed "manifold/manifoldlaw20.PredicateCounts" =some 3:=kR
theorem isInst:Tryz.f3.isInstance Tryz.prog Rows.predicateCountsUptoRow.origin Rows.predicateCountsUptoRow.targs:=of_decide_eq_true (by as_aux_lemma=>kernel_rfl)
theorem isWrap:Tryz.f3.isWrapper Tryz.prog Rows.predicateCountsUptoRow.wrapper Rows.predicateCountsUptoRow.mainSum:=by
 unfold Func.isWrapper
 first|(rw[if_pos (by decide+kernel)];kernel_rfl)|(rw[if_neg (by decide+kernel)];exact⟨rfl,rfl⟩)
theorem JR2:true=Tryz.prog.looks []:=kR
theorem JO5:Tryz.prog.wantsStandIn 26=false:=kR
theorem JO6:Tryz.prog.wantsStandIn 27=false:=kR
theorem wfText:Rows.predicateCountsUptoRow.wfByText (Rows.OpenSpec.upto Rows.predicateCountsSpec)=true:=kR
theorem mainIs:Tryz.prog.mainIs=some (true, "57bb0cebb806fd9a4889d0ec11d5bf2467506f127e1da0b8a263b3bb379178c3".toList):=kR
end Go.Proofs.YtfioheedknfjnaaGreatDoor.PredicateCounts
