/- Part G of a proof. -/
import Derived.Test.YtpncocdpglfifaaGreatDoorCfF
import Derived.Test.YtpncocdpglfifaaGreatDoorCfC
import Derived.Test.YtpncocdpglfifaaGreatDoorCfA
set_option linter.unusedVariables false
set_option linter.unusedSimpArgs false
set_option linter.unusedSectionVars false
set_option linter.constructorNameAsVariable false
set_option linter.unnecessarySimpa false
set_option maxRecDepth 100000
namespace Go.Proofs
open Go Av
def JRL:Tbl:=[
 (232,[JBd],.d (.int .i64 5)),
 (190,[JBd],.d (.int .i64 0)),
 (123,[JAN],.d (.int .i64 0)),
 (308,[JBe,.int .i64 2],.d (.int .i64 0))]
theorem JNs:YS Tryz.prog JNq K27 JRL=true:=kR
def JNt:Ext:=Ym JRL JNq
theorem JNu:Um Tryz.prog JNt:=UK JNr JNs
def JRM:Tbl:=[
 (308,[JBe,.int .i64 3],.d (.int .i64 0)),
 (261,[JBe],.d (.int .i64 0)),
 (232,[JBe],.d (.int .i64 5)),
 (190,[JBe],.d (.int .i64 0))]
theorem JNv:YS Tryz.prog JNt K27 JRM=true:=kR
def JNw:Ext:=Ym JRM JNt
theorem JNx:Um Tryz.prog JNw:=UK JNu JNv
def JNy:Tbl:=[
 (123,[ZC],.d (.int .i64 0)),
 (91,[.str [97,110,115,119,101,114]],.d (.bool true)),
 (308,[JCr,.int .i64 1],.d (.int .i64 0)),
 (261,[JCr],.d (.int .i64 0))]
theorem JK9:YS Tryz.prog JNw K27 JNy=true:=kR
def JIk:Ext:=Ym JNy JNw
theorem JLA:Um Tryz.prog JIk:=UK JNx JK9
def JNz:Tbl:=[
 (232,[JCr],.d (.int .i64 3)),
 (190,[JCr],.d (.int .i64 0)),
 (123,[ZD],.d (.int .i64 0)),
 (91,[.str [111,117,116,95,111,114,100,101,114]],.d (.bool true))]
theorem JLB:YS Tryz.prog JIk K27 JNz=true:=kR
def JIl:Ext:=Ym JNz JIk
theorem JLC:Um Tryz.prog JIl:=UK JLA JLB
end Go.Proofs
