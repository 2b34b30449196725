/- Part J of a proof. -/
import Derived.Test.YtpncocdpglfifaaGreatDoorCfI
import Derived.Test.YtpncocdpglfifaaGreatDoorCfC
import Derived.Test.YtpncocdpglfifaaGreatDoorCfA
set_option linter.unusedVariables false
set_option linter.unusedSimpArgs false
set_option linter.unusedSectionVars false
set_option linter.constructorNameAsVariable false
set_option linter.unnecessarySimpa false
set_option maxRecDepth 100000
namespace Go.Proofs
open Go Av
def JN8:Tbl:=[
 (29,[JCr],.d JCr),
 (73,[ZD],.d ZD),
 (72,[.list 9 [JCE,JAN,ZC,ZD],.fn (.func 73) [] []],.d (.list 9 [JCE,JAN,ZC,ZD])),
 (74,[JBc,.fn (.func 75) [] []],.d JBc)]
theorem JLT:YS Tryz.prog JIt K27 JN8=true:=kR
def JIu:Ext:=Ym JN8 JIt
theorem JLU:Um Tryz.prog JIu:=UK JLS JLT
def JN9:Tbl:=[
 (78,[JNR],.d JNS),
 (46,[.agg [.int .i64 1,.list 9 [JCE,JAN,ZC,ZD],JBc,JEW,.list 20 [.agg [.str [105,110,95,97],.int .i64 21,.int .i64 0,.int .i64 0,.int .i64 0,.int .i64 0,.int .i64 0,.str [105,110,95,97],.int .i64 0,.int .i64 0,.int .i64 0,.int .i64 0,.nil 1,.nil 7,.nil 11,.nil 7,.nil 5,.nil 6,.nil 2,.list 1 [.int .i64 1]],.agg [.str [102],.int .i64 1,.int .i64 0,.int .i64 (-1),.int .i64 0,.int .i64 0,.int .i64 0,.str [108,97,114,103,101],.int .i64 0,.int .i64 0,.int .i64 0,.int .i64 0,.nil 1,.nil 7,.nil 11,.nil 7,.list 5 [XX],.list 6 [],.nil 2,.list 1 [.int .i64 2]],JNR,.agg [.str [115,48,95,50],.int .i64 14,.int .i64 0,.int .i64 (-1),.int .i64 0,.int .i64 0,.int .i64 0,.str [110,111],.int .i64 0,.int .i64 0,.int .i64 0,.int .i64 0,.nil 1,.nil 7,.nil 11,.nil 7,.nil 5,.list 6 [],.nil 2,.nil 1],.agg [.str [111,117,116,95,111,114,100,101,114],.int .i64 22,.int .i64 0,.int .i64 (-1),.int .i64 0,.int .i64 0,.int .i64 0,.str [111,117,116,95,111,114,100,101,114],.int .i64 0,.int .i64 0,.int .i64 0,.int .i64 0,.nil 1,.nil 7,.nil 11,.nil 7,.nil 5,.nil 6,.nil 2,.nil 1]]]],.d JNT),
 (23,[JAi],.tup [.d JNT,.d (.int .i64 0)])]
theorem JLV:YS Tryz.prog JIu K27 JN9=true:=kR
def JIv:Ext:=Ym JN9 JIu
theorem JFh:Um Tryz.prog JIv:=UK JLU JLV
end Go.Proofs
