/- Part K of a proof. -/
import Derived.Test.YteegbpaakjlodaaGreatDoorCbJ
import Derived.Test.YteegbpaakjlodaaGreatDoorCbC
import Derived.Test.YteegbpaakjlodaaGreatDoorCbA
set_option linter.unusedVariables false
set_option linter.unusedSimpArgs false
set_option linter.unusedSectionVars false
set_option linter.constructorNameAsVariable false
set_option linter.unnecessarySimpa false
set_option maxRecDepth 100000
namespace Go.Proofs
open Go Av
def JNv:Tbl:=[
 (318,[JIY],.d (.int .i64 0)),
 (367,[.list 6 [JIY]],.d (.int .i64 0)),
 (329,[JNA],.d (.int .i64 0)),
 (289,[XS],.d (.int .i64 0))]
theorem JLB:YQ Tryz.prog JIe K27 JNv=true:=kR
def JIf:Ext:=Yh JNv JIe
theorem JLC:Ui Tryz.prog JIf:=UH JLA JLB
def JNw:Tbl:=[
 (270,[JES],.d (.int .i64 0)),
 (201,[JES],.d (.int .i64 0)),
 (253,[XS,JES],.tup [.d (.agg [.int .i64 1,.int .i64 0,.int .i64 0,.int .i64 0,.list 1 [],.list 7 [],.list 11 [],.bool false,.bool true]),.d (.int .i64 0)]),
 (214,[XS,.int .i64 0,JES,.fn (.func 173) [] []],.tup [.d (.agg [.bool true,.bool true,.int .i64 0,.str [],.list 1 [],.str []]),.d JNF])]
theorem JLD:YQ Tryz.prog JIf K27 JNw=true:=kR
def JIg:Ext:=Yh JNw JIf
theorem JLE:Ui Tryz.prog JIg:=UH JLC JLD
def JNx:Tbl:=[
 (57,[JAf],.d (.list 4 [])),
 (21,[JAf],.d (.list 4 [])),
 (36,[JAf],.d JNG),
 (39,[JNG],.d (.list 13 [JND,.agg [.int .i64 0,.list 1 [.int .i64 1],.str [99],.int .i64 11,.int .i64 0,.int .i64 0,.int .i64 0,.str [],.str [],.nil 5,.list 6 [],.nil 2,.list 2 [.agg [.list 5 [XS],.list 11 [.agg [.str [115,48,95,49,95,48,95,48],.int .i64 13,.int .i64 0,.int .i64 0,.int .i64 0,.str [111,117,116,95,111,114,100,101,114],.str [],.nil 5,.list 6 [],.nil 2,.nil 2]]],.agg [.nil 5,.nil 11]]],.agg [.int .i64 0,.list 1 [.int .i64 1,.int .i64 0,.int .i64 0],.str [115,48,95,49,95,48,95,48],.int .i64 13,.int .i64 0,.int .i64 0,.int .i64 0,.str [111,117,116,95,111,114,100,101,114],.str [],.nil 5,.list 6 [],.nil 2,.nil 2],.agg [.int .i64 0,.list 1 [.int .i64 2],.str [115,48,95,50],.int .i64 14,.int .i64 0,.int .i64 0,.int .i64 0,.str [110,111],.str [],.nil 5,.list 6 [],.nil 2,.nil 2]]))]
theorem JLF:YQ Tryz.prog JIg K27 JNx=true:=kR
def JIh:Ext:=Yh JNx JIg
theorem JLG:Ui Tryz.prog JIh:=UH JLE JLF
def JNy:Tbl:=[
 (81,[JBa],.d JBa),
 (80,[JAK],.d JAK),
 (81,[JBb],.d JBb),
 (80,[ZA],.d ZA)]
theorem JLH:YQ Tryz.prog JIh K27 JNy=true:=kR
def JIi:Ext:=Yh JNy JIh
theorem JLI:Ui Tryz.prog JIi:=UH JLG JLH
end Go.Proofs
