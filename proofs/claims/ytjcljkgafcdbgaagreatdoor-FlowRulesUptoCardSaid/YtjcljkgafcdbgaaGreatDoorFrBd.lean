/- Part Bd of a proof. -/
import Derived.Test.YtjcljkgafcdbgaaGreatDoorFrBc
import Derived.Test.YtjcljkgafcdbgaaGreatDoorFrC
import Derived.Test.YtjcljkgafcdbgaaGreatDoorFrA
set_option linter.unusedVariables false
set_option linter.unusedSimpArgs false
set_option linter.unusedSectionVars false
set_option linter.constructorNameAsVariable false
set_option linter.unnecessarySimpa false
set_option maxRecDepth 100000
namespace Go.Proofs
open Go Av
def w4t68:Tbl:=[
 (11,[JDY],.d (.list 4 [.agg [.int .i64 13,.str [109,97,105,110],.list 1 [.int .i64 1,.int .i64 1,.int .i64 0],.str []]]))]
theorem JR6:Jx Tryz.prog JR4 K6 w4t68=true:=kR
def w4X68:Ext:=Jy w4t68 JR4
theorem JR7:JS Tryz.prog w4X68:=JJ JR5 JR6
end Go.Proofs
