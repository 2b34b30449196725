/- Part I of a proof. -/
import Derived.Test.YtlmlncbhhhcnpaaGreatDoorTsF
import Derived.Test.YtlmlncbhhhcnpaaGreatDoorTsC
import Derived.Test.YtlmlncbhhhcnpaaGreatDoorTsA
set_option linter.unusedVariables false
set_option linter.unusedSimpArgs false
set_option linter.unusedSectionVars false
set_option linter.constructorNameAsVariable false
set_option linter.unnecessarySimpa false
set_option maxRecDepth 100000
namespace Go.Proofs
open Go Av
def w24d0:Dat:=.list 11 [.agg [.int .i64 1,.str [97,109,111,117,110,116],.int .i64 1,.int .i64 2,.int .i64 0,.int .i64 9,.int .i64 0,.list 1 [],.list 7 [],.list 11 [],.list 6 []]]
def w24d1:Dat:=.agg [.str [111,114,100,101,114],.int .i64 1,.int .i64 9,.int .i64 0,.int .i64 0,.int .i64 0,.list 1 [],.list 7 [],w24d0]
def w24d2:Dat:=.list 7 [.agg [.str [105,110],.int .i64 1,.str [111,114,100,101,114],.int .i64 1,.int .i64 4,.int .i64 0,.list 1 []],.agg [.str [111,117,116],.int .i64 2,.str [111,114,100,101,114],.int .i64 1,.int .i64 4,.int .i64 0,.list 1 []]]
def w24d3:Dat:=.agg [.int .i64 2,.int .i64 0,.str [98,111,100,121,46,97,109,111,117,110,116],.list 6 [],.list 5 []]
def w24d4:Dat:=.agg [.str [],.int .i64 1,.int .i64 0,.int .i64 0,.int .i64 0,.str [115,109,97,108,108],.str [],.list 5 [w24d3],.list 6 [],.list 2 [],.list 2 []]
def w24d5:Dat:=.agg [.str [],.int .i64 13,.int .i64 0,.int .i64 0,.int .i64 0,.str [111,117,116],.str [],.list 5 [],.list 6 [],.list 2 [],.list 2 []]
def w24d6:Dat:=.agg [.int .i64 1,.list 9 [w24d1],w24d2,.list 4 [],.list 3 [.agg [.str [109,97,105,110],.str [105,110],.list 11 [w24d4,w24d5]]]]
def w24d7:Dat:=.agg [.int .i64 0,.list 1 [.int .i64 1],.str [],.int .i64 13,.int .i64 0,.int .i64 0,.int .i64 0,.str [111,117,116],.str [],.nil 5,.list 6 [],.nil 2,.nil 2]
def w24d8:Dat:=.agg [.int .i64 9,.int .i64 0,.int .i64 0,.int .i64 0,.list 1 [],.list 7 [],w24d0]
def w24d9:Dat:=.agg [.int .i64 0,.list 1 [.int .i64 1],.str [],.int .i64 13,.int .i64 0,.int .i64 0,.int .i64 0,.str [111,117,116],.str [],.list 5 [],.list 6 [],.list 2 [],.list 2 [],.int .i64 0,.int .i64 (-1),.bool false]
def w24d10:Dat:=.agg [.int .i64 9,.int .i64 0,.int .i64 0,.int .i64 0,.list 1 [],.list 7 [],.list 11 [.agg [.int .i64 1,.str [98,111,100,121],.int .i64 1,.int .i64 9,.int .i64 0,.int .i64 0,.int .i64 0,.list 1 [],.list 7 [],w24d0,.list 6 []]]]
def w24d11:Dat:=.agg [.int .i64 2,.int .i64 5,.int .i64 0,.str [],.list 6 [],.list 7 []]
def w24d12:Dat:=.agg [.int .i64 1,.int .i64 0,.str [],.list 6 [w24d11],.list 5 []]
def w24d13:Dat:=.agg [.int .i64 10,.int .i64 0,.str [],.list 6 [],.list 5 [w24d3,w24d12]]
def w24d14:Dat:=.agg [.int .i64 1,.list 9 [w24d1],w24d2,.list 4 [],.list 3 [.agg [.str [109,97,105,110],.str [105,110],.list 11 [.agg [.str [],.int .i64 1,.int .i64 0,.int .i64 0,.int .i64 0,.str [115,109,97,108,108],.str [],.list 5 [w24d13],.list 6 [],.list 2 [],.list 2 []],w24d5]]]]
def w24t0:Tbl:=[
 (72,[w24d6],.d (.list 13 [.agg [.int .i64 0,.list 1 [.int .i64 0],.str [],.int .i64 1,.int .i64 0,.int .i64 0,.int .i64 0,.str [115,109,97,108,108],.str [],.list 5 [w24d3],.list 6 [],.nil 2,.nil 2],w24d7])),
 (38,[.str [111,114,100,101,114]],.d (.bool true)),
 (246,[w24d8,.int .i64 0],.d (.int .i64 0)),
 (191,[w24d8],.d (.int .i64 0)),
 (191,[.agg [.int .i64 2,.int .i64 0,.int .i64 9,.int .i64 0,.list 1 [],.list 7 [],.list 11 []]],.d (.int .i64 0))]
theorem w24t0_ok:tblK Tryz.prog X4 K24 w24t0=true:=kR
def w24X0:Ext:=extD w24t0 (X4)
theorem w24X0_ok:ExtOK Tryz.prog w24X0:=extK_ok X4_ok w24t0_ok
def w24t1:Tbl:=[
 (115,[w24d8],.d (.int .i64 0)),
 (51,[w24d1],.d (.int .i64 0)),
 (85,[w24d4],.d (.bool true)),
 (20,[w24d6],.d (.list 4 [])),
 (14,[w24d6],.d (.list 16 [.agg [.int .i64 0,.list 1 [.int .i64 0],.str [],.int .i64 1,.int .i64 0,.int .i64 0,.int .i64 0,.str [115,109,97,108,108],.str [],.list 5 [w24d3],.list 6 [],.list 2 [],.list 2 [],.int .i64 0,.int .i64 0,.bool false],w24d9]))]
theorem w24t1_ok:tblK Tryz.prog w24X0 K24 w24t1=true:=kR
def w24X1:Ext:=extD w24t1 w24X0
theorem w24X1_ok:ExtOK Tryz.prog w24X1:=extK_ok w24X0_ok w24t1_ok
def w24t2:Tbl:=[
 (174,[w24d8],.d w24d8),
 (61,[w24d8],.d w24d10),
 (224,[.str [98,111,100,121,46,97,109,111,117,110,116],.str [46,91,63]],.d (.int .i64 4)),
 (175,[.str [46,98,111,100,121,46,97,109,111,117,110,116]],.tup [.d (.agg [.int .i64 1,.int .i64 0,.str [98,111,100,121]]),.d (.str [46,97,109,111,117,110,116]),.d (.bool true)]),
 (224,[.str [97,109,111,117,110,116],.str [46,91,63]],.d (.int .i64 (-1)))]
theorem w24t2_ok:tblK Tryz.prog w24X1 K24 w24t2=true:=kR
def w24X2:Ext:=extD w24t2 w24X1
theorem w24X2_ok:ExtOK Tryz.prog w24X2:=extK_ok w24X1_ok w24t2_ok
def w24t3:Tbl:=[
 (175,[.str [46,97,109,111,117,110,116]],.tup [.d (.agg [.int .i64 1,.int .i64 0,.str [97,109,111,117,110,116]]),.d (.str []),.d (.bool true)]),
 (257,[w24d3],.d (.int .i64 0)),
 (208,[w24d3],.d (.int .i64 0)),
 (191,[w24d10],.d (.int .i64 0)),
 (115,[w24d10],.d (.int .i64 0))]
theorem w24t3_ok:tblK Tryz.prog w24X2 K24 w24t3=true:=kR
def w24X3:Ext:=extD w24t3 w24X2
theorem w24X3_ok:ExtOK Tryz.prog w24X3:=extK_ok w24X2_ok w24t3_ok
def w24t4:Tbl:=[
 (179,[w24d10,.agg [.int .i64 1,.int .i64 0,.str [98,111,100,121]]],.tup [.d w24d8,.d (.bool false),.d (.int .i64 0)]),
 (166,[w24d3,w24d10],.tup [.d (.agg [.int .i64 2,.int .i64 0,.int .i64 9,.int .i64 0,.list 1 [],.list 7 [],.list 11 [],.bool false,.bool true]),.d (.int .i64 0)]),
 (124,[w24d3,.int .i64 0,w24d10,.fn (.func 57) [] []],.tup [.d (.agg [.bool false,.bool false,.int .i64 8,.str [],.list 1 [],.str [48]]),.d (.agg [.int .i64 0,.int .i64 0,.int .i64 0,.int .i64 0,.list 1 [],.list 7 [],.list 11 []])]),
 (16,[w24d6],.d (.list 4 [.agg [.int .i64 8,.str [109,97,105,110],.list 1 [.int .i64 0],.str [48]]])),
 (232,[w24d13],.d w24d13)]
theorem w24t4_ok:tblK Tryz.prog w24X3 K24 w24t4=true:=kR
def w24X4:Ext:=extD w24t4 w24X3
theorem w24X4_ok:ExtOK Tryz.prog w24X4:=extK_ok w24X3_ok w24t4_ok
def w24t5:Tbl:=[
 (72,[w24d14],.d (.list 13 [.agg [.int .i64 0,.list 1 [.int .i64 0],.str [],.int .i64 1,.int .i64 0,.int .i64 0,.int .i64 0,.str [115,109,97,108,108],.str [],.list 5 [w24d13],.list 6 [],.nil 2,.nil 2],w24d7])),
 (20,[w24d14],.d (.list 4 [])),
 (14,[w24d14],.d (.list 16 [.agg [.int .i64 0,.list 1 [.int .i64 0],.str [],.int .i64 1,.int .i64 0,.int .i64 0,.int .i64 0,.str [115,109,97,108,108],.str [],.list 5 [w24d13],.list 6 [],.list 2 [],.list 2 [],.int .i64 0,.int .i64 0,.bool false],w24d9])),
 (5,[w24d14],.d (.list 1 [.int .i64 0,.int .i64 0])),
 (257,[w24d13],.d (.int .i64 0))]
theorem w24t5_ok:tblK Tryz.prog w24X4 K24 w24t5=true:=kR
def w24X5:Ext:=extD w24t5 w24X4
theorem w24X5_ok:ExtOK Tryz.prog w24X5:=extK_ok w24X4_ok w24t5_ok
def w24t6:Tbl:=[
 (247,[w24d11],.d (.int .i64 0)),
 (296,[.list 6 [w24d11]],.d (.int .i64 0)),
 (257,[w24d12],.d (.int .i64 0)),
 (208,[w24d13],.d (.int .i64 0)),
 (166,[w24d13,w24d10],.tup [.d (.agg [.int .i64 1,.int .i64 0,.int .i64 0,.int .i64 0,.list 1 [],.list 7 [],.list 11 [],.bool false,.bool true]),.d (.int .i64 0)])]
theorem w24t6_ok:tblK Tryz.prog w24X5 K24 w24t6=true:=kR
def w24X6:Ext:=extD w24t6 w24X5
theorem w24X6_ok:ExtOK Tryz.prog w24X6:=extK_ok w24X5_ok w24t6_ok
def w24t7:Tbl:=[
 (124,[w24d13,.int .i64 0,w24d10,.fn (.func 57) [] []],.tup [.d (.agg [.bool true,.bool true,.int .i64 0,.str [],.list 1 [],.str []]),.d (.agg [.int .i64 1,.int .i64 0,.int .i64 0,.int .i64 0,.list 1 [],.list 7 [],.list 11 []])]),
 (16,[w24d14],.d (.list 4 [])),
 (18,[w24d14],.d (.list 1 [.bool true,.bool true]))]
theorem w24t7_ok:tblK Tryz.prog w24X6 K24 w24t7=true:=kR
def w24X7:Ext:=extD w24t7 w24X6
theorem w24X7_ok:ExtOK Tryz.prog w24X7:=extK_ok w24X6_ok w24t7_ok
end Go.Proofs
