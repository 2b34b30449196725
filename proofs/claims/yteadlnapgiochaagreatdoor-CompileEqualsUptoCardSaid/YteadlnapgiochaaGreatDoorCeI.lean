/- Part I of a proof. -/
import Derived.Test.YteadlnapgiochaaGreatDoorCeH
import Derived.Test.YteadlnapgiochaaGreatDoorCeC
import Derived.Test.YteadlnapgiochaaGreatDoorCeA
set_option linter.unusedVariables false
set_option linter.unusedSimpArgs false
set_option linter.unusedSectionVars false
set_option linter.constructorNameAsVariable false
set_option linter.unnecessarySimpa false
set_option maxRecDepth 100000
namespace Go.Proofs
open Go Av
def JSU:Tbl:=[
 (252,[JBl],.d (.int .i64 5)),
 (204,[JBl],.d (.int .i64 0)),
 (136,[JAT],.d (.int .i64 0)),
 (331,[JBm,.int .i64 2],.d (.int .i64 0))]
theorem JOY:YX Tryz.prog JOW K27 JSU=true:=kR
def JOZ:Ext:=Yr JSU JOW
theorem JOa:Ur Tryz.prog JOZ:=UN JOX JOY
def JSV:Tbl:=[
 (331,[JBm,.int .i64 3],.d (.int .i64 0)),
 (283,[JBm],.d (.int .i64 0)),
 (252,[JBm],.d (.int .i64 5)),
 (204,[JBm],.d (.int .i64 0))]
theorem JOb:YX Tryz.prog JOZ K27 JSV=true:=kR
def JOc:Ext:=Yr JSV JOZ
theorem JOd:Ur Tryz.prog JOc:=UN JOa JOb
def JOe:Tbl:=[
 (136,[ZI],.d (.int .i64 0)),
 (94,[.str [97,110,115,119,101,114]],.d (.bool true)),
 (331,[JC9,.int .i64 1],.d (.int .i64 0)),
 (283,[JC9],.d (.int .i64 0))]
theorem JLp:YX Tryz.prog JOc K27 JOe=true:=kR
def JJM:Ext:=Yr JOe JOc
theorem JLq:Ur Tryz.prog JJM:=UN JOd JLp
def JOf:Tbl:=[
 (252,[JC9],.d (.int .i64 3)),
 (204,[JC9],.d (.int .i64 0)),
 (136,[ZJ],.d (.int .i64 0)),
 (94,[.str [111,117,116,95,111,114,100,101,114]],.d (.bool true))]
theorem JLr:YX Tryz.prog JJM K27 JOf=true:=kR
def JJN:Ext:=Yr JOf JJM
theorem JLs:Ur Tryz.prog JJN:=UN JLq JLr
end Go.Proofs
