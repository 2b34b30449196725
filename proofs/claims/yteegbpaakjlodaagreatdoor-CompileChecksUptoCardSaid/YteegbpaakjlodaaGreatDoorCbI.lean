/- Part I of a proof. -/
import Derived.Test.YteegbpaakjlodaaGreatDoorCbH
import Derived.Test.YteegbpaakjlodaaGreatDoorCbC
import Derived.Test.YteegbpaakjlodaaGreatDoorCbA
set_option linter.unusedVariables false
set_option linter.unusedSimpArgs false
set_option linter.unusedSectionVars false
set_option linter.constructorNameAsVariable false
set_option linter.unnecessarySimpa false
set_option maxRecDepth 100000
namespace Go.Proofs
open Go Av
def JQy:Tbl:=[
 (242,[JBa],.d (.int .i64 5)),
 (201,[JBa],.d (.int .i64 0)),
 (134,[JAK],.d (.int .i64 0)),
 (317,[JBb,.int .i64 2],.d (.int .i64 0))]
theorem JNj:YQ Tryz.prog JNh K27 JQy=true:=kR
def JNk:Ext:=Yh JQy JNh
theorem JNl:Ui Tryz.prog JNk:=UH JNi JNj
def JQz:Tbl:=[
 (317,[JBb,.int .i64 3],.d (.int .i64 0)),
 (270,[JBb],.d (.int .i64 0)),
 (242,[JBb],.d (.int .i64 5)),
 (201,[JBb],.d (.int .i64 0))]
theorem JNm:YQ Tryz.prog JNk K27 JQz=true:=kR
def JNn:Ext:=Yh JQz JNk
theorem JNo:Ui Tryz.prog JNn:=UH JNl JNm
def JNp:Tbl:=[
 (134,[ZA],.d (.int .i64 0)),
 (24,[.str [97,110,115,119,101,114]],.d (.bool true)),
 (317,[JCq,.int .i64 1],.d (.int .i64 0)),
 (270,[JCq],.d (.int .i64 0))]
theorem JKz:YQ Tryz.prog JNn K27 JNp=true:=kR
def JIZ:Ext:=Yh JNp JNn
theorem JK0:Ui Tryz.prog JIZ:=UH JNo JKz
def JNq:Tbl:=[
 (242,[JCq],.d (.int .i64 3)),
 (201,[JCq],.d (.int .i64 0)),
 (134,[ZB],.d (.int .i64 0)),
 (24,[.str [111,117,116,95,111,114,100,101,114]],.d (.bool true))]
theorem JK1:YQ Tryz.prog JIZ K27 JNq=true:=kR
def JIa:Ext:=Yh JNq JIZ
theorem JK2:Ui Tryz.prog JIa:=UH JK0 JK1
end Go.Proofs
