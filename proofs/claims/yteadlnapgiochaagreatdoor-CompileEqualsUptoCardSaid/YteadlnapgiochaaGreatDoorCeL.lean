/- Part L of a proof. -/
import Derived.Test.YteadlnapgiochaaGreatDoorCeK
import Derived.Test.YteadlnapgiochaaGreatDoorCeC
import Derived.Test.YteadlnapgiochaaGreatDoorCeA
set_option linter.unusedVariables false
set_option linter.unusedSimpArgs false
set_option linter.unusedSectionVars false
set_option linter.constructorNameAsVariable false
set_option linter.unnecessarySimpa false
set_option maxRecDepth 100000
namespace Go.Proofs
open Go Av
def JOo:Tbl:=[
 (75,[JC9],.d JC9),
 (74,[ZJ],.d ZJ),
 (73,[.list 9 [JCP,JAT,ZI,ZJ],.fn (.func 74) [] []],.d (.list 9 [JCP,JAT,ZI,ZJ])),
 (76,[JBk,.fn (.func 77) [] []],.d JBk)]
theorem JL9:YX Tryz.prog JJV K27 JOo=true:=kR
def JJW:Ext:=Yr JOo JJV
theorem JMA:Ur Tryz.prog JJW:=UN JL8 JL9
def JOp:Tbl:=[
 (81,[JN7],.d JN8),
 (40,[.agg [.int .i64 1,.list 9 [JCP,JAT,ZI,ZJ],JBk,JEp,.list 20 [.agg [.str [105,110,95,97],.int .i64 21,.int .i64 0,.int .i64 0,.int .i64 0,.int .i64 0,.int .i64 0,.str [105,110,95,97],.int .i64 0,.int .i64 0,.int .i64 0,.int .i64 0,.nil 1,.nil 7,.nil 11,.nil 7,.nil 5,.nil 6,.nil 2,.list 1 [.int .i64 1]],.agg [.str [102],.int .i64 1,.int .i64 0,.int .i64 (-1),.int .i64 0,.int .i64 0,.int .i64 0,.str [108,97,114,103,101],.int .i64 0,.int .i64 0,.int .i64 0,.int .i64 0,.nil 1,.nil 7,.nil 11,.nil 7,.list 5 [Xd],.list 6 [],.nil 2,.list 1 [.int .i64 2]],JN7,.agg [.str [115,48,95,50],.int .i64 14,.int .i64 0,.int .i64 (-1),.int .i64 0,.int .i64 0,.int .i64 0,.str [110,111],.int .i64 0,.int .i64 0,.int .i64 0,.int .i64 0,.nil 1,.nil 7,.nil 11,.nil 7,.nil 5,.list 6 [],.nil 2,.nil 1],.agg [.str [111,117,116,95,111,114,100,101,114],.int .i64 22,.int .i64 0,.int .i64 (-1),.int .i64 0,.int .i64 0,.int .i64 0,.str [111,117,116,95,111,114,100,101,114],.int .i64 0,.int .i64 0,.int .i64 0,.int .i64 0,.nil 1,.nil 7,.nil 11,.nil 7,.nil 5,.nil 6,.nil 2,.nil 1]]]],.d JN9),
 (12,[JAq],.tup [.d JN9,.d (.int .i64 0)])]
theorem JMB:YX Tryz.prog JJW K27 JOp=true:=kR
def JJX:Ext:=Yr JOp JJW
theorem JFz:Ur Tryz.prog JJX:=UN JMA JMB
end Go.Proofs
