/- Part Y of a proof. -/
import Derived.Test.YtjcljkgafcdbgaaGreatDoorFrX
import Derived.Test.YtjcljkgafcdbgaaGreatDoorFrC
import Derived.Test.YtjcljkgafcdbgaaGreatDoorFrA
set_option linter.unusedVariables false
set_option linter.unusedSimpArgs false
set_option linter.unusedSectionVars false
set_option linter.constructorNameAsVariable false
set_option linter.unnecessarySimpa false
set_option maxRecDepth 100000
namespace Go.Proofs
open Go Av
def w4d23:Dat:=.agg [.str [119],.int .i64 4,.int .i64 0,.int .i64 0,.str [97],.list 6 [],.list 7 []]
def w4d24:Dat:=.agg [.int .i64 9,.int .i64 0,.int .i64 0,.str [],.list 6 [],.list 7 [.agg [.str [98,111,100,121],.int .i64 9,.int .i64 0,.int .i64 0,.str [],.list 6 [],.list 7 [.agg [.str [110],.int .i64 2,.int .i64 0,.int .i64 0,.str [],.list 6 [],.list 7 []],w4d23]]]]
def JQC:Dat:=.agg [.bool false,.bool false,.str [98,111,100,121,46,110],.list 2 [],.int .i64 2,.int .i64 0,.int .i64 9,.int .i64 0,.list 1 [],.list 7 [],.list 11 []]
def JJI:Dat:=.agg [.int .i64 10,.int .i64 0,.str [],.list 6 [],.list 5 [JHL,w4d4],.int .i64 1]
def Y9:Dat:=.agg [.int .i64 10,.int .i64 0,.str [],.list 6 [],.list 5 [JHL,w4d4],.bool true]
def JDa:Dat:=.agg [.int .i64 2,.int .i64 0,.int .i64 0,.str [],.list 6 [],.list 7 []]
def JBB:Dat:=.agg [.int .i64 2,.int .i64 9,.int .i64 0,.str [],.list 6 [],.list 7 []]
def JFE:Dat:=.agg [.int .i64 2,.int .i64 4,.int .i64 0,.str [],.list 6 [],.list 7 []]
def JFF:Dat:=.agg [.int .i64 2,.int .i64 6,.int .i64 0,.str [],.list 6 [],.list 7 []]
def JFG:Dat:=.agg [.int .i64 2,.int .i64 7,.int .i64 0,.str [],.list 6 [],.list 7 []]
def w4t30:Tbl:=[
 (56,[JDY],.d (.list 4 []))]
theorem JQD:Jx Tryz.prog JQA K6 w4t30=true:=kR
def JQE:Ext:=Jy w4t30 JQA
theorem JQF:JS Tryz.prog JQE:=JJ JQB JQD
def w4t31:Tbl:=[
 (26,[JDY],.d (.bool true)),
 (52,[U2,.nil 6],.tup [.d (.int .i64 1),.d w4d24])]
theorem JQG:Jx Tryz.prog JQE K6 w4t31=true:=kR
def JQH:Ext:=Jy w4t31 JQE
theorem JQI:JS Tryz.prog JQH:=JJ JQF JQG
def w4t32:Tbl:=[
 (23,[U2,.nil 6],.tup [.d (.int .i64 1),.d w4d24,.d (.int .i64 0)]),
 (331,[U2,.str [98,111,100,121,46,110]],.tup [.d JQC,.d (.bool true)])]
theorem JQJ:Jx Tryz.prog JQH K6 w4t32=true:=kR
def JQK:Ext:=Jy w4t32 JQH
theorem JQL:JS Tryz.prog JQK:=JJ JQI JQJ
def w4t33:Tbl:=[
 (236,[U2,JFD],.tup [.d JQC,.d (.bool true)])]
theorem JQM:Jx Tryz.prog JQK K6 w4t33=true:=kR
def JQN:Ext:=Jy w4t33 JQK
theorem JQO:JS Tryz.prog JQN:=JJ JQL JQM
def w4t34:Tbl:=[
 (137,[U2,JFD,.int .i64 1],.d (.int .i64 1))]
theorem JQP:Jx Tryz.prog JQN K6 w4t34=true:=kR
def JQQ:Ext:=Jy w4t34 JQN
theorem JQR:JS Tryz.prog JQQ:=JJ JQO JQP
def w4t35:Tbl:=[
 (84,[U2,.list 6 [JJI]],.d (.int .i64 1)),
 (247,[JDZ,.list 6 [Y9]],.d (.list 6 [JDa,JDa,JBB,JFE,JKI,JFF,JFG])),
 (328,[JDa],.d (.int .i64 0)),
 (306,[.list 6 [JDa]],.d (.int .i64 0))]
theorem JQS:Jx Tryz.prog JQQ K6 w4t35=true:=kR
def JQT:Ext:=Jy w4t35 JQQ
theorem JQU:JS Tryz.prog JQT:=JJ JQR JQS
def w4t36:Tbl:=[
 (228,[.agg [.int .i64 1,.int .i64 0,.str [],.list 6 [JDa],.nil 5]],.d (.int .i64 0)),
 (608,[],.d (.agg [.int .i64 1,.int .i64 10,.int .i64 100,.int .i64 1000,.int .i64 10000,.int .i64 100000,.int .i64 1000000,.int .i64 10000000,.int .i64 100000000,.int .i64 1000000000,.int .i64 10000000000,.int .i64 100000000000,.int .i64 1000000000000]))]
theorem JQV:Jx Tryz.prog JQT K6 w4t36=true:=kR
def JQW:Ext:=Jy w4t36 JQT
theorem JQX:JS Tryz.prog JQW:=JJ JQU JQV
def w4t37:Tbl:=[
 (587,[.int .i64 0],.d (.int .i64 1))]
theorem JQY:Jx Tryz.prog JQW K6 w4t37=true:=kR
def JQZ:Ext:=Jy w4t37 JQW
theorem JQa:JS Tryz.prog JQZ:=JJ JQX JQY
def w4t38:Tbl:=[
 (553,[.agg [.int .i64 0,.int .i64 0]],.tup [.d (.int .i64 0),.d (.int .i64 0)])]
theorem JQb:Jx Tryz.prog JQZ K6 w4t38=true:=kR
def JQc:Ext:=Jy w4t38 JQZ
theorem JQd:JS Tryz.prog JQc:=JJ JQa JQb
def w4t39:Tbl:=[
 (482,[.agg [.int .i64 0,.int .i64 0],.agg [.int .i64 5,.int .i64 0]],.tup [.d (.int .i64 (-1)),.d (.int .i64 0)])]
theorem JQe:Jx Tryz.prog JQc K6 w4t39=true:=kR
def JQf:Ext:=Jy w4t39 JQc
theorem JQg:JS Tryz.prog JQf:=JJ JQd JQe
end Go.Proofs
