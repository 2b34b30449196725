/- Part V of a proof. -/
import Derived.Test.YtjcljkgafcdbgaaGreatDoorFrT
import Derived.Test.YtjcljkgafcdbgaaGreatDoorFrC
import Derived.Test.YtjcljkgafcdbgaaGreatDoorFrA
set_option linter.unusedVariables false
set_option linter.unusedSimpArgs false
set_option linter.unusedSectionVars false
set_option linter.constructorNameAsVariable false
set_option linter.unnecessarySimpa false
set_option maxRecDepth 100000
namespace Go.Proofs
open Go Av
def w4d0:Dat:=.list 11 [.agg [.int .i64 1,.str [110],.int .i64 1,.int .i64 2,.int .i64 0,.int .i64 9,.int .i64 0,.list 1 [],.list 7 [],.list 11 [],.list 6 []],.agg [.int .i64 2,.str [119],.int .i64 1,.int .i64 4,.int .i64 0,.int .i64 0,.int .i64 0,.list 1 [.str [97],.str [98],.str [99]],.list 7 [],.list 11 [],.list 6 []],.agg [.int .i64 3,.str [111],.int .i64 2,.int .i64 2,.int .i64 0,.int .i64 9,.int .i64 0,.list 1 [],.list 7 [],.list 11 [],.list 6 []]]
def w4d1:Dat:=.agg [.str [111,114,100,101,114],.int .i64 1,.int .i64 9,.int .i64 0,.int .i64 0,.int .i64 0,.list 1 [],.list 7 [],w4d0]
def JHL:Dat:=.agg [.int .i64 2,.int .i64 0,.str [98,111,100,121,46,110],.list 6 [],.list 5 []]
def JKI:Dat:=.agg [.int .i64 2,.int .i64 5,.int .i64 0,.str [],.list 6 [],.list 7 []]
def w4d4:Dat:=.agg [.int .i64 1,.int .i64 0,.str [],.list 6 [JKI],.list 5 []]
def JFD:Dat:=.agg [.int .i64 10,.int .i64 0,.str [],.list 6 [],.list 5 [JHL,w4d4]]
def JPB:Dat:=.agg [.str [],.int .i64 1,.int .i64 0,.int .i64 0,.int .i64 0,.str [115,109,97,108,108],.str [],.list 5 [JFD],.list 6 [],.list 2 [],.list 2 []]
def JPC:Dat:=.agg [.int .i64 2,.int .i64 3,.int .i64 0,.str [],.list 6 [],.list 7 []]
def JMc:Dat:=.agg [.int .i64 1,.int .i64 0,.str [],.list 6 [JPC],.list 5 []]
def JJF:Dat:=.agg [.int .i64 10,.int .i64 0,.str [],.list 6 [],.list 5 [JHL,JMc]]
def JPD:Dat:=.agg [.list 5 [JJF],.list 11 [.agg [.str [],.int .i64 13,.int .i64 0,.int .i64 0,.int .i64 0,.str [111,117,116],.str [],.list 5 [],.list 6 [],.list 2 [],.list 2 []]]]
def JJG:Dat:=.list 2 [JPD,.agg [.list 5 [],.list 11 [.agg [.str [],.int .i64 13,.int .i64 0,.int .i64 0,.int .i64 0,.str [113],.str [],.list 5 [],.list 6 [],.list 2 [],.list 2 []]]]]
def JJH:Dat:=.agg [.str [],.int .i64 11,.int .i64 0,.int .i64 0,.int .i64 0,.str [],.str [],.list 5 [],.list 6 [],.list 2 [],JJG]
def JDY:Dat:=.agg [.int .i64 1,.list 9 [w4d1],.list 7 [.agg [.str [105,110],.int .i64 1,.str [111,114,100,101,114],.int .i64 1,.int .i64 1,.int .i64 0,.list 1 []],.agg [.str [111,117,116],.int .i64 2,.str [111,114,100,101,114],.int .i64 1,.int .i64 1,.int .i64 0,.list 1 []],.agg [.str [113],.int .i64 3,.str [111,114,100,101,114],.int .i64 1,.int .i64 1,.int .i64 0,.list 1 []]],.list 4 [],.list 3 [.agg [.str [109,97,105,110],.str [105,110],.list 11 [JPB,JJH]]]]
def w4d14:Dat:=.list 13 [.agg [.int .i64 0,.list 1 [.int .i64 0],.str [],.int .i64 1,.int .i64 0,.int .i64 0,.int .i64 0,.str [115,109,97,108,108],.str [],.list 5 [JFD],.list 6 [],.list 2 [],.list 2 []],.agg [.int .i64 0,.list 1 [.int .i64 1],.str [],.int .i64 11,.int .i64 0,.int .i64 0,.int .i64 0,.str [],.str [],.list 5 [],.list 6 [],.list 2 [],JJG],.agg [.int .i64 0,.list 1 [.int .i64 1,.int .i64 0,.int .i64 0],.str [],.int .i64 13,.int .i64 0,.int .i64 0,.int .i64 0,.str [111,117,116],.str [],.list 5 [],.list 6 [],.list 2 [],.list 2 []],.agg [.int .i64 0,.list 1 [.int .i64 1,.int .i64 1,.int .i64 0],.str [],.int .i64 13,.int .i64 0,.int .i64 0,.int .i64 0,.str [113],.str [],.list 5 [],.list 6 [],.list 2 [],.list 2 []]]
def JBA:Dat:=.agg [.int .i64 9,.int .i64 0,.int .i64 0,.int .i64 0,.list 1 [],.list 7 [],w4d0]
def JDZ:Dat:=.agg [.int .i64 2,.int .i64 0,.int .i64 9,.int .i64 0,.list 1 [],.list 7 [],.list 11 []]
def w4d17:Dat:=.agg [.int .i64 4,.int .i64 0,.int .i64 0,.int .i64 0,.list 1 [.str [97],.str [98],.str [99]],.list 7 [],.list 11 []]
def w4t0:Tbl:=[
 (14,[],.d JDY),
 (117,[.list 5 [JFD],.fn (.func 21) [] []],.d (.list 5 [JFD]))]
theorem w4t0_ok:Jx Tryz.prog X6 K6 w4t0=true:=kR
def w4X0:Ext:=Jy w4t0 X6
theorem w4X0_ok:JS Tryz.prog w4X0:=JJ X6_ok w4t0_ok
def w4t1:Tbl:=[
 (71,[JPB],.d JPB),
 (117,[.list 5 [JJF],.fn (.func 21) [] []],.d (.list 5 [JJF]))]
theorem w4t1_ok:Jx Tryz.prog w4X0 K6 w4t1=true:=kR
def w4X1:Ext:=Jy w4t1 w4X0
theorem w4X1_ok:JS Tryz.prog w4X1:=JJ w4X0_ok w4t1_ok
def w4t2:Tbl:=[
 (122,[JPD],.d JPD)]
theorem w4t2_ok:Jx Tryz.prog w4X1 K6 w4t2=true:=kR
def w4X2:Ext:=Jy w4t2 w4X1
theorem w4X2_ok:JS Tryz.prog w4X2:=JJ w4X1_ok w4t2_ok
def w4t3:Tbl:=[
 (121,[JJG,.fn (.func 122) [] []],.d JJG)]
theorem w4t3_ok:Jx Tryz.prog w4X2 K6 w4t3=true:=kR
def w4X3:Ext:=Jy w4t3 w4X2
theorem w4X3_ok:JS Tryz.prog w4X3:=JJ w4X2_ok w4t3_ok
def w4t4:Tbl:=[
 (71,[JJH],.d JJH)]
theorem w4t4_ok:Jx Tryz.prog w4X3 K6 w4t4=true:=kR
def w4X4:Ext:=Jy w4t4 w4X3
theorem w4X4_ok:JS Tryz.prog w4X4:=JJ w4X3_ok w4t4_ok
def w4t5:Tbl:=[
 (75,[JDY,.int .i64 0],.d w4d14)]
theorem w4t5_ok:Jx Tryz.prog w4X4 K6 w4t5=true:=kR
def w4X5:Ext:=Jy w4t5 w4X4
theorem w4X5_ok:JS Tryz.prog w4X5:=JJ w4X4_ok w4t5_ok
def w4t6:Tbl:=[
 (41,[JDY],.d w4d14),
 (95,[.str [111,114,100,101,114]],.d (.bool true)),
 (327,[JBA,.int .i64 0],.d (.int .i64 0)),
 (327,[JBA,.int .i64 1],.d (.int .i64 0)),
 (327,[JBA,.int .i64 2],.d (.int .i64 0))]
theorem w4t6_ok:Jx Tryz.prog w4X5 K6 w4t6=true:=kR
def w4X6:Ext:=Jy w4t6 w4X5
theorem w4X6_ok:JS Tryz.prog w4X6:=JJ w4X5_ok w4t6_ok
def w4t7:Tbl:=[
 (231,[JBA],.d (.int .i64 0)),
 (231,[JDZ],.d (.int .i64 0)),
 (328,[.agg [.int .i64 4,.int .i64 0,.int .i64 0,.str [97],.list 6 [],.list 7 []]],.d (.int .i64 0)),
 (328,[.agg [.int .i64 4,.int .i64 0,.int .i64 0,.str [98],.list 6 [],.list 7 []]],.d (.int .i64 0))]
theorem w4t7_ok:Jx Tryz.prog w4X6 K6 w4t7=true:=kR
def w4X7:Ext:=Jy w4t7 w4X6
theorem w4X7_ok:JS Tryz.prog w4X7:=JJ w4X6_ok w4t7_ok
def w4t8:Tbl:=[
 (328,[.agg [.int .i64 4,.int .i64 0,.int .i64 0,.str [99],.list 6 [],.list 7 []]],.d (.int .i64 0))]
theorem w4t8_ok:Jx Tryz.prog w4X7 K6 w4t8=true:=kR
def w4X8:Ext:=Jy w4t8 w4X7
theorem w4X8_ok:JS Tryz.prog w4X8:=JJ w4X7_ok w4t8_ok
def w4t9:Tbl:=[
 (326,[w4d17],.d (.int .i64 0))]
theorem w4t9_ok:Jx Tryz.prog w4X8 K6 w4t9=true:=kR
def w4X9:Ext:=Jy w4t9 w4X8
theorem w4X9_ok:JS Tryz.prog w4X9:=JJ w4X8_ok w4t9_ok
def w4t10:Tbl:=[
 (231,[w4d17],.d (.int .i64 0)),
 (135,[JBA],.d (.int .i64 3))]
theorem JPE:Jx Tryz.prog w4X9 K6 w4t10=true:=kR
def JPF:Ext:=Jy w4t10 w4X9
theorem JPG:JS Tryz.prog JPF:=JJ w4X9_ok JPE
def w4t11:Tbl:=[
 (83,[JBA],.d (.int .i64 0))]
theorem JPH:Jx Tryz.prog JPF K6 w4t11=true:=kR
def JPI:Ext:=Jy w4t11 JPF
theorem JPJ:JS Tryz.prog JPI:=JJ JPG JPH
def w4t12:Tbl:=[
 (149,[w4d1],.d (.int .i64 0)),
 (40,[JJH],.d (.bool true)),
 (18,[.list 11 [JPB,JJH]],.d (.bool true)),
 (160,[JPB],.d (.bool true))]
theorem JPK:Jx Tryz.prog JPI K6 w4t12=true:=kR
def JPL:Ext:=Jy w4t12 JPI
theorem JPM:JS Tryz.prog JPL:=JJ JPJ JPK
end Go.Proofs
