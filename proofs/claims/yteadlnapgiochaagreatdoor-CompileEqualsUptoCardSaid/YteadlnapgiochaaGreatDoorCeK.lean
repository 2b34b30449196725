/- Part K of a proof. -/
import Derived.Test.YteadlnapgiochaaGreatDoorCeJ
import Derived.Test.YteadlnapgiochaaGreatDoorCeC
import Derived.Test.YteadlnapgiochaaGreatDoorCeA
set_option linter.unusedVariables false
set_option linter.unusedSimpArgs false
set_option linter.unusedSectionVars false
set_option linter.constructorNameAsVariable false
set_option linter.unnecessarySimpa false
set_option maxRecDepth 100000
namespace Go.Proofs
open Go Av
def JOk:Tbl:=[
 (332,[JJL],.d (.int .i64 0)),
 (381,[.list 6 [JJL]],.d (.int .i64 0)),
 (343,[JNz],.d (.int .i64 0)),
 (302,[Xd],.d (.int .i64 0))]
theorem JL1:YX Tryz.prog JJR K27 JOk=true:=kR
def JJS:Ext:=Yr JOk JJR
theorem JL2:Ur Tryz.prog JJS:=UN JL0 JL1
def JOl:Tbl:=[
 (283,[JEq],.d (.int .i64 0)),
 (204,[JEq],.d (.int .i64 0)),
 (264,[Xd,JEq],.tup [.d (.agg [.int .i64 1,.int .i64 0,.int .i64 0,.int .i64 0,.list 1 [],.list 7 [],.list 11 [],.bool false,.bool true]),.d (.int .i64 0)]),
 (218,[Xd,.int .i64 0,JEq,.fn (.func 175) [] []],.tup [.d (.agg [.bool true,.bool true,.int .i64 0,.str [],.list 1 [],.str []]),.d JN4])]
theorem JL3:YX Tryz.prog JJS K27 JOl=true:=kR
def JJT:Ext:=Yr JOl JJS
theorem JL4:Ur Tryz.prog JJT:=UN JL2 JL3
def JOm:Tbl:=[
 (45,[JAq],.d (.list 4 [])),
 (14,[JAq],.d (.list 4 [])),
 (26,[JAq],.d JN5),
 (29,[JN5],.d (.list 13 [JN2,.agg [.int .i64 0,.list 1 [.int .i64 1],.str [99],.int .i64 11,.int .i64 0,.int .i64 0,.int .i64 0,.str [],.str [],.nil 5,.list 6 [],.nil 2,.list 2 [.agg [.list 5 [Xd],.list 11 [.agg [.str [115,48,95,49,95,48,95,48],.int .i64 13,.int .i64 0,.int .i64 0,.int .i64 0,.str [111,117,116,95,111,114,100,101,114],.str [],.nil 5,.list 6 [],.nil 2,.nil 2]]],.agg [.nil 5,.nil 11]]],.agg [.int .i64 0,.list 1 [.int .i64 1,.int .i64 0,.int .i64 0],.str [115,48,95,49,95,48,95,48],.int .i64 13,.int .i64 0,.int .i64 0,.int .i64 0,.str [111,117,116,95,111,114,100,101,114],.str [],.nil 5,.list 6 [],.nil 2,.nil 2],.agg [.int .i64 0,.list 1 [.int .i64 2],.str [115,48,95,50],.int .i64 14,.int .i64 0,.int .i64 0,.int .i64 0,.str [110,111],.str [],.nil 5,.list 6 [],.nil 2,.nil 2]]))]
theorem JL5:YX Tryz.prog JJT K27 JOm=true:=kR
def JJU:Ext:=Yr JOm JJT
theorem JL6:Ur Tryz.prog JJU:=UN JL4 JL5
def JOn:Tbl:=[
 (75,[JBl],.d JBl),
 (74,[JAT],.d JAT),
 (75,[JBm],.d JBm),
 (74,[ZI],.d ZI)]
theorem JL7:YX Tryz.prog JJU K27 JOn=true:=kR
def JJV:Ext:=Yr JOn JJU
theorem JL8:Ur Tryz.prog JJV:=UN JL6 JL7
end Go.Proofs
