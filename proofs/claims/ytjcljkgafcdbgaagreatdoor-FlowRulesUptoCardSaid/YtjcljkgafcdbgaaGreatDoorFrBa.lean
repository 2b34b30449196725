/- Part Ba of a proof. -/
import Derived.Test.YtjcljkgafcdbgaaGreatDoorFrZ
import Derived.Test.YtjcljkgafcdbgaaGreatDoorFrC
import Derived.Test.YtjcljkgafcdbgaaGreatDoorFrA
set_option linter.unusedVariables false
set_option linter.unusedSimpArgs false
set_option linter.unusedSectionVars false
set_option linter.constructorNameAsVariable false
set_option linter.unnecessarySimpa false
set_option maxRecDepth 100000
namespace Go.Proofs
open Go Av
def JJK:Dat:=.agg [.int .i64 10,.int .i64 0,.str [],.list 6 [],.list 5 [JHL,JMc],.bool false]
def w4t50:Tbl:=[
 (52,[U2,JQh],.tup [.d (.int .i64 1),.d JLm])]
theorem JRD:Jx Tryz.prog JRB K6 w4t50=true:=kR
def JRE:Ext:=Jy w4t50 JRB
theorem JRF:JS Tryz.prog JRE:=JJ JRC JRD
def w4t51:Tbl:=[
 (23,[U2,JQh],.tup [.d (.int .i64 1),.d JLm,.d (.int .i64 0)]),
 (247,[JDZ,.list 6 [Y9,JJK]],.d w4d37)]
theorem JRG:Jx Tryz.prog JRE K6 w4t51=true:=kR
def JRH:Ext:=Jy w4t51 JRE
theorem JRI:JS Tryz.prog JRH:=JJ JRF JRG
def w4t52:Tbl:=[
 (250,[JJK,JBB],.d (.bool false)),
 (328,[JFE],.d (.int .i64 0))]
theorem JRJ:Jx Tryz.prog JRH K6 w4t52=true:=kR
def JRK:Ext:=Jy w4t52 JRH
theorem JRL:JS Tryz.prog JRK:=JJ JRI JRJ
def w4t53:Tbl:=[
 (306,[.list 6 [JFE]],.d (.int .i64 0))]
theorem JRM:Jx Tryz.prog JRK K6 w4t53=true:=kR
def JRN:Ext:=Jy w4t53 JRK
theorem JRO:JS Tryz.prog JRN:=JJ JRL JRM
def w4t54:Tbl:=[
 (228,[.agg [.int .i64 1,.int .i64 0,.str [],.list 6 [JFE],.nil 5]],.d (.int .i64 0)),
 (482,[.agg [.int .i64 4,.int .i64 0],.agg [.int .i64 5,.int .i64 0]],.tup [.d (.int .i64 (-1)),.d (.int .i64 0)])]
theorem JRP:Jx Tryz.prog JRN K6 w4t54=true:=kR
def JRQ:Ext:=Jy w4t54 JRN
theorem JRR:JS Tryz.prog JRQ:=JJ JRO JRP
def w4t55:Tbl:=[
 (250,[Y9,JFE],.d (.bool false)),
 (250,[Y9,JKI],.d (.bool false)),
 (328,[JFF],.d (.int .i64 0))]
theorem JRS:Jx Tryz.prog JRQ K6 w4t55=true:=kR
def JRT:Ext:=Jy w4t55 JRQ
theorem JRU:JS Tryz.prog JRT:=JJ JRR JRS
def w4t56:Tbl:=[
 (306,[.list 6 [JFF]],.d (.int .i64 0))]
theorem JRV:Jx Tryz.prog JRT K6 w4t56=true:=kR
def JRW:Ext:=Jy w4t56 JRT
theorem JRX:JS Tryz.prog JRW:=JJ JRU JRV
def w4t57:Tbl:=[
 (228,[.agg [.int .i64 1,.int .i64 0,.str [],.list 6 [JFF],.nil 5]],.d (.int .i64 0)),
 (482,[.agg [.int .i64 6,.int .i64 0],.agg [.int .i64 5,.int .i64 0]],.tup [.d (.int .i64 1),.d (.int .i64 0)])]
theorem JRY:Jx Tryz.prog JRW K6 w4t57=true:=kR
def JRZ:Ext:=Jy w4t57 JRW
theorem JRa:JS Tryz.prog JRZ:=JJ JRX JRY
end Go.Proofs
