/- Part Bs of a proof. -/
import Derived.Test.YtjcljkgafcdbgaaGreatDoorFrBq
import Derived.SevenTiedAt
import Derived.Test.YtjcljkgafcdbgaaGreatDoorFrC
import Derived.Test.YtjcljkgafcdbgaaGreatDoorFrA
set_option linter.unusedVariables false
set_option linter.unusedSimpArgs false
set_option linter.unusedSectionVars false
set_option linter.constructorNameAsVariable false
set_option linter.unnecessarySimpa false
set_option maxRecDepth 100000
namespace Go.Proofs.YtjcljkgafcdbgaaGreatDoor.FlowRules
open Go Go.Proofs
theorem JMf{P:Program}(hno:P.funcs.any Func.goes=false)(st:Start)(fu:String):P.goesAt st fu=false:=by
 have hall:∀g:FuncId,((P.funcs[g]?).any Func.goes)=false:=by
  intro g;cases e:P.funcs[g]? with
  |none=>rfl
  |some fn=>
   obtain⟨hlt,he⟩:=Array.getElem?_eq_some_iff.1 e;have h:=Array.any_eq_false.1 hno g hlt;rw[he]at h;simpa using h
 have hf:∀f,P.goes f=false:=by
  intro f;unfold Program.goes;rw[hno,Bool.and_false,Bool.or_false,List.any_eq_false];intro g _;rw[hall g];exact Bool.false_ne_true
 have h1:P.goesFrom fu=false:=by
  unfold Program.goesFrom;cases P.funcNamed fu with
  |none=>rfl
  |some f=>exact hf f
 have h2:P.inits.toList.any P.goes=false:=by
  rw[List.any_eq_false];intro f _;rw[hf f];exact Bool.false_ne_true
 unfold Program.goesAt;rw[h1,h2];cases st<;>rfl
theorem noGo:Tryz.prog.funcs.any Func.goes=false:=kR
theorem goesNot:false=Rows.flowRulesUptoRow.goesBy Tryz.prog:=(JMf noGo Rows.flowRulesUptoRow.start Rows.flowRulesUptoRow.func).symm
end Go.Proofs.YtjcljkgafcdbgaaGreatDoor.FlowRules
