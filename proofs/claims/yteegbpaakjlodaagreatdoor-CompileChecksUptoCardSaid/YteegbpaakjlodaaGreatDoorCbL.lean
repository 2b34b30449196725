/- Part L of a proof. -/
import Derived.Test.YteegbpaakjlodaaGreatDoorCbK
import Derived.Test.YteegbpaakjlodaaGreatDoorCbC
import Derived.Test.YteegbpaakjlodaaGreatDoorCbA
set_option linter.unusedVariables false
set_option linter.unusedSimpArgs false
set_option linter.unusedSectionVars false
set_option linter.constructorNameAsVariable false
set_option linter.unnecessarySimpa false
set_option maxRecDepth 100000
namespace Go.Proofs
open Go Av
def JNz:Tbl:=[
 (81,[JCq],.d JCq),
 (80,[ZB],.d ZB),
 (79,[.list 9 [JCB,JAK,ZA,ZB],.fn (.func 80) [] []],.d (.list 9 [JCB,JAK,ZA,ZB])),
 (82,[JBZ,.fn (.func 83) [] []],.d JBZ)]
theorem JLJ:YQ Tryz.prog JIi K27 JNz=true:=kR
def JIj:Ext:=Yh JNz JIi
theorem JLK:Ui Tryz.prog JIj:=UH JLI JLJ
def JN0:Tbl:=[
 (87,[JNI],.d JNJ),
 (52,[.agg [.int .i64 1,.list 9 [JCB,JAK,ZA,ZB],JBZ,JER,.list 20 [.agg [.str [105,110,95,97],.int .i64 21,.int .i64 0,.int .i64 0,.int .i64 0,.int .i64 0,.int .i64 0,.str [105,110,95,97],.int .i64 0,.int .i64 0,.int .i64 0,.int .i64 0,.nil 1,.nil 7,.nil 11,.nil 7,.nil 5,.nil 6,.nil 2,.list 1 [.int .i64 1]],.agg [.str [102],.int .i64 1,.int .i64 0,.int .i64 (-1),.int .i64 0,.int .i64 0,.int .i64 0,.str [108,97,114,103,101],.int .i64 0,.int .i64 0,.int .i64 0,.int .i64 0,.nil 1,.nil 7,.nil 11,.nil 7,.list 5 [XS],.list 6 [],.nil 2,.list 1 [.int .i64 2]],JNI,.agg [.str [115,48,95,50],.int .i64 14,.int .i64 0,.int .i64 (-1),.int .i64 0,.int .i64 0,.int .i64 0,.str [110,111],.int .i64 0,.int .i64 0,.int .i64 0,.int .i64 0,.nil 1,.nil 7,.nil 11,.nil 7,.nil 5,.list 6 [],.nil 2,.nil 1],.agg [.str [111,117,116,95,111,114,100,101,114],.int .i64 22,.int .i64 0,.int .i64 (-1),.int .i64 0,.int .i64 0,.int .i64 0,.str [111,117,116,95,111,114,100,101,114],.int .i64 0,.int .i64 0,.int .i64 0,.int .i64 0,.nil 1,.nil 7,.nil 11,.nil 7,.nil 5,.nil 6,.nil 2,.nil 1]]]],.d JNK),
 (19,[JAf],.tup [.d JNK,.d (.int .i64 0)])]
theorem JLL:YQ Tryz.prog JIj K27 JN0=true:=kR
def JIk:Ext:=Yh JN0 JIj
theorem JFZ:Ui Tryz.prog JIk:=UH JLK JLL
end Go.Proofs
