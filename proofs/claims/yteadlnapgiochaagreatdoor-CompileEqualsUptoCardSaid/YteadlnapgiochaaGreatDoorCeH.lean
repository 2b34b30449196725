/- Part H of a proof. -/
import Derived.Test.YteadlnapgiochaaGreatDoorCeG
import Derived.Test.YteadlnapgiochaaGreatDoorCeC
import Derived.Test.YteadlnapgiochaaGreatDoorCeA
set_option linter.unusedVariables false
set_option linter.unusedSimpArgs false
set_option linter.unusedSectionVars false
set_option linter.constructorNameAsVariable false
set_option linter.unnecessarySimpa false
set_option maxRecDepth 100000
namespace Go.Proofs
open Go Av
def JSQ:Tbl:=[
 (330,[JN3],.d (.int .i64 0)),
 (283,[JN3],.d (.int .i64 0)),
 (283,[JGl],.d (.int .i64 0)),
 (331,[JDa,.int .i64 0],.d (.int .i64 0))]
theorem JOM:YX Tryz.prog JOK K27 JSQ=true:=kR
def JON:Ext:=Yr JSQ JOK
theorem JOO:Ur Tryz.prog JON:=UN JOL JOM
def JSR:Tbl:=[
 (331,[JDa,.int .i64 1],.d (.int .i64 0)),
 (283,[JDa],.d (.int .i64 0)),
 (332,[JNv],.d (.int .i64 0)),
 (285,[JN4,JNv],.d (.bool true))]
theorem JOP:YX Tryz.prog JON K27 JSR=true:=kR
def JOQ:Ext:=Yr JSR JON
theorem JOR:Ur Tryz.prog JOQ:=UN JOO JOP
def JSS:Tbl:=[
 (286,[YF],.d (.int .i64 6)),
 (252,[JDa],.d (.int .i64 3)),
 (252,[JGl],.d (.int .i64 3)),
 (252,[YF],.d (.int .i64 6))]
theorem JOS:YX Tryz.prog JOQ K27 JSS=true:=kR
def JOT:Ext:=Yr JSS JOQ
theorem JOU:Ur Tryz.prog JOT:=UN JOR JOS
def JST:Tbl:=[
 (204,[YF],.d (.int .i64 0)),
 (136,[JCP],.d (.int .i64 0)),
 (331,[JBl,.int .i64 3],.d (.int .i64 0)),
 (283,[JBl],.d (.int .i64 0))]
theorem JOV:YX Tryz.prog JOT K27 JST=true:=kR
def JOW:Ext:=Yr JST JOT
theorem JOX:Ur Tryz.prog JOW:=UN JOU JOV
end Go.Proofs
