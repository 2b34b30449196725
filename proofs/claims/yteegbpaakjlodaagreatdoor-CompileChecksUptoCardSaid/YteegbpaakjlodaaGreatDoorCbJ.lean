/- Part J of a proof. -/
import Derived.Test.YteegbpaakjlodaaGreatDoorCbI
import Derived.Test.YteegbpaakjlodaaGreatDoorCbC
import Derived.Test.YteegbpaakjlodaaGreatDoorCbA
set_option linter.unusedVariables false
set_option linter.unusedSimpArgs false
set_option linter.unusedSectionVars false
set_option linter.constructorNameAsVariable false
set_option linter.unnecessarySimpa false
set_option maxRecDepth 100000
namespace Go.Proofs
open Go Av
def JNr:Tbl:=[
 (24,[.str [111,117,116,95,108,105,110,101]],.d (.bool true)),
 (24,[.str [111,117,116,95,98,105,108,108]],.d (.bool true)),
 (56,[JAf],.d (.list 4 [])),
 (167,[JBa,.int .i64 44],.d (.int .i64 0))]
theorem JK3:YQ Tryz.prog JIa K27 JNr=true:=kR
def JIb:Ext:=Yh JNr JIa
theorem JK4:Ui Tryz.prog JIb:=UH JK2 JK3
def JNs:Tbl:=[
 (105,[.agg [.int .i64 2,.int .i64 44,.list 1 []],JAK],.d (.int .i64 0)),
 (106,[JAf],.d (.list 16 [.agg [.int .i64 0,.list 1 [.int .i64 0],.str [102],.int .i64 1,.int .i64 0,.int .i64 0,.int .i64 0,.str [108,97,114,103,101],.str [],.list 5 [XS],.list 6 [],.list 2 [],.list 2 [],.int .i64 0,.int .i64 0,.bool false],.agg [.int .i64 0,.list 1 [.int .i64 1],.str [99],.int .i64 11,.int .i64 0,.int .i64 0,.int .i64 0,.str [],.str [],.list 5 [],.list 6 [],.list 2 [],JNC,.int .i64 0,.int .i64 0,.bool false],.agg [.int .i64 0,.list 1 [.int .i64 1,.int .i64 0,.int .i64 0],.str [],.int .i64 13,.int .i64 0,.int .i64 0,.int .i64 0,.str [111,117,116,95,111,114,100,101,114],.str [],.list 5 [],.list 6 [],.list 2 [],.list 2 [],.int .i64 0,.int .i64 (-1),.bool false],.agg [.int .i64 0,.list 1 [.int .i64 2],.str [],.int .i64 14,.int .i64 0,.int .i64 0,.int .i64 0,.str [110,111],.str [],.list 5 [],.list 6 [],.list 2 [],.list 2 [],.int .i64 0,.int .i64 (-1),.bool false]])),
 (81,[JDE],.d JDE),
 (81,[JGF],.d JGF)]
theorem JK5:YQ Tryz.prog JIb K27 JNs=true:=kR
def JIc:Ext:=Yh JNs JIb
theorem JK6:Ui Tryz.prog JIc:=UH JK4 JK5
def JNt:Tbl:=[
 (125,[JM5],.d JM5),
 (81,[X8],.d X8),
 (177,[X8],.d JES),
 (302,[.str [98,111,100,121,46,97,109,111,117,110,116],.str [46,91,63]],.d (.int .i64 4))]
theorem JK7:YQ Tryz.prog JIc K27 JNt=true:=kR
def JId:Ext:=Yh JNt JIc
theorem JK8:Ui Tryz.prog JId:=UH JK6 JK7
def JNu:Tbl:=[
 (260,[.str [46,98,111,100,121,46,97,109,111,117,110,116]],.tup [.d (.agg [.int .i64 1,.int .i64 0,.str [98,111,100,121]]),.d (.str [46,97,109,111,117,110,116]),.d (.bool true)]),
 (302,[.str [97,109,111,117,110,116],.str [46,91,63]],.d (.int .i64 (-1))),
 (260,[.str [46,97,109,111,117,110,116]],.tup [.d (.agg [.int .i64 1,.int .i64 0,.str [97,109,111,117,110,116]]),.d (.str []),.d (.bool true)]),
 (329,[JM9],.d (.int .i64 0))]
theorem JK9:YQ Tryz.prog JId K27 JNu=true:=kR
def JIe:Ext:=Yh JNu JId
theorem JLA:Ui Tryz.prog JIe:=UH JK8 JK9
end Go.Proofs
