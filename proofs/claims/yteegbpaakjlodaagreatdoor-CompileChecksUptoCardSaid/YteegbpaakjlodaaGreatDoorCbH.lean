/- Part H of a proof. -/
import Derived.Test.YteegbpaakjlodaaGreatDoorCbG
import Derived.Test.YteegbpaakjlodaaGreatDoorCbC
import Derived.Test.YteegbpaakjlodaaGreatDoorCbA
set_option linter.unusedVariables false
set_option linter.unusedSimpArgs false
set_option linter.unusedSectionVars false
set_option linter.constructorNameAsVariable false
set_option linter.unnecessarySimpa false
set_option maxRecDepth 100000
namespace Go.Proofs
open Go Av
def JQu:Tbl:=[
 (316,[JNE],.d (.int .i64 0)),
 (270,[JNE],.d (.int .i64 0)),
 (270,[JGF],.d (.int .i64 0)),
 (317,[JDE,.int .i64 0],.d (.int .i64 0))]
theorem JNX:YQ Tryz.prog JNV K27 JQu=true:=kR
def JNY:Ext:=Yh JQu JNV
theorem JNZ:Ui Tryz.prog JNY:=UH JNW JNX
def JQv:Tbl:=[
 (317,[JDE,.int .i64 1],.d (.int .i64 0)),
 (270,[JDE],.d (.int .i64 0)),
 (318,[JM6],.d (.int .i64 0)),
 (272,[JNF,JM6],.d (.bool true))]
theorem JNa:YQ Tryz.prog JNY K27 JQv=true:=kR
def JNb:Ext:=Yh JQv JNY
theorem JNc:Ui Tryz.prog JNb:=UH JNZ JNa
def JQw:Tbl:=[
 (273,[X8],.d (.int .i64 6)),
 (242,[JDE],.d (.int .i64 3)),
 (242,[JGF],.d (.int .i64 3)),
 (242,[X8],.d (.int .i64 6))]
theorem JNd:YQ Tryz.prog JNb K27 JQw=true:=kR
def JNe:Ext:=Yh JQw JNb
theorem JNf:Ui Tryz.prog JNe:=UH JNc JNd
def JQx:Tbl:=[
 (201,[X8],.d (.int .i64 0)),
 (134,[JCB],.d (.int .i64 0)),
 (317,[JBa,.int .i64 3],.d (.int .i64 0)),
 (270,[JBa],.d (.int .i64 0))]
theorem JNg:YQ Tryz.prog JNe K27 JQx=true:=kR
def JNh:Ext:=Yh JQx JNe
theorem JNi:Ui Tryz.prog JNh:=UH JNf JNg
end Go.Proofs
