/- Part J of a proof. -/
import Derived.Test.YteadlnapgiochaaGreatDoorCeI
import Derived.Test.YteadlnapgiochaaGreatDoorCeC
import Derived.Test.YteadlnapgiochaaGreatDoorCeA
set_option linter.unusedVariables false
set_option linter.unusedSimpArgs false
set_option linter.unusedSectionVars false
set_option linter.constructorNameAsVariable false
set_option linter.unnecessarySimpa false
set_option maxRecDepth 100000
namespace Go.Proofs
open Go Av
def JOg:Tbl:=[
 (94,[.str [111,117,116,95,108,105,110,101]],.d (.bool true)),
 (94,[.str [111,117,116,95,98,105,108,108]],.d (.bool true)),
 (44,[JAq],.d (.list 4 [])),
 (169,[JBl,.int .i64 44],.d (.int .i64 0))]
theorem JLt:YX Tryz.prog JJN K27 JOg=true:=kR
def JJO:Ext:=Yr JOg JJN
theorem JLu:Ur Tryz.prog JJO:=UN JLs JLt
def JOh:Tbl:=[
 (100,[.agg [.int .i64 2,.int .i64 44,.list 1 []],JAT],.d (.int .i64 0)),
 (101,[JAq],.d (.list 16 [.agg [.int .i64 0,.list 1 [.int .i64 0],.str [102],.int .i64 1,.int .i64 0,.int .i64 0,.int .i64 0,.str [108,97,114,103,101],.str [],.list 5 [Xd],.list 6 [],.list 2 [],.list 2 [],.int .i64 0,.int .i64 0,.bool false],.agg [.int .i64 0,.list 1 [.int .i64 1],.str [99],.int .i64 11,.int .i64 0,.int .i64 0,.int .i64 0,.str [],.str [],.list 5 [],.list 6 [],.list 2 [],JN1,.int .i64 0,.int .i64 0,.bool false],.agg [.int .i64 0,.list 1 [.int .i64 1,.int .i64 0,.int .i64 0],.str [],.int .i64 13,.int .i64 0,.int .i64 0,.int .i64 0,.str [111,117,116,95,111,114,100,101,114],.str [],.list 5 [],.list 6 [],.list 2 [],.list 2 [],.int .i64 0,.int .i64 (-1),.bool false],.agg [.int .i64 0,.list 1 [.int .i64 2],.str [],.int .i64 14,.int .i64 0,.int .i64 0,.int .i64 0,.str [110,111],.str [],.list 5 [],.list 6 [],.list 2 [],.list 2 [],.int .i64 0,.int .i64 (-1),.bool false]])),
 (75,[JDa],.d JDa),
 (75,[JGl],.d JGl)]
theorem JLv:YX Tryz.prog JJO K27 JOh=true:=kR
def JJP:Ext:=Yr JOh JJO
theorem JLw:Ur Tryz.prog JJP:=UN JLu JLv
def JOi:Tbl:=[
 (127,[JNu],.d JNu),
 (75,[YF],.d YF),
 (179,[YF],.d JEq),
 (315,[.str [98,111,100,121,46,97,109,111,117,110,116],.str [46,91,63]],.d (.int .i64 4))]
theorem JLx:YX Tryz.prog JJP K27 JOi=true:=kR
def JJQ:Ext:=Yr JOi JJP
theorem JLy:Ur Tryz.prog JJQ:=UN JLw JLx
def JOj:Tbl:=[
 (271,[.str [46,98,111,100,121,46,97,109,111,117,110,116]],.tup [.d (.agg [.int .i64 1,.int .i64 0,.str [98,111,100,121]]),.d (.str [46,97,109,111,117,110,116]),.d (.bool true)]),
 (315,[.str [97,109,111,117,110,116],.str [46,91,63]],.d (.int .i64 (-1))),
 (271,[.str [46,97,109,111,117,110,116]],.tup [.d (.agg [.int .i64 1,.int .i64 0,.str [97,109,111,117,110,116]]),.d (.str []),.d (.bool true)]),
 (343,[JNy],.d (.int .i64 0))]
theorem JLz:YX Tryz.prog JJQ K27 JOj=true:=kR
def JJR:Ext:=Yr JOj JJQ
theorem JL0:Ur Tryz.prog JJR:=UN JLy JLz
end Go.Proofs
