/- Part Bc of a proof. -/
import Derived.Test.YtjcljkgafcdbgaaGreatDoorFrBb
import Derived.Test.YtjcljkgafcdbgaaGreatDoorFrC
import Derived.Test.YtjcljkgafcdbgaaGreatDoorFrA
set_option linter.unusedVariables false
set_option linter.unusedSimpArgs false
set_option linter.unusedSectionVars false
set_option linter.constructorNameAsVariable false
set_option linter.unnecessarySimpa false
set_option maxRecDepth 100000
namespace Go.Proofs
open Go Av
def JRt:Dat:=.agg [.int .i64 0,.int .i64 0,.int .i64 0,.str [],.list 6 [],.list 7 []]
def w4d40:Dat:=.list 6 [JJI,.agg [.int .i64 10,.int .i64 0,.str [],.list 6 [],.list 5 [JHL,JMc],.int .i64 2]]
def w4t64:Tbl:=[
 (250,[Y9,JJJ],.d (.bool false)),
 (250,[Y9,JPC],.d (.bool false))]
theorem JRu:Jx Tryz.prog JRr K6 w4t64=true:=kR
def JRv:Ext:=Jy w4t64 JRr
theorem JRw:JS Tryz.prog JRv:=JJ JRs JRu
def w4t65:Tbl:=[
 (142,[JDZ,.list 6 [Y9,JJK]],.tup [.d JRt,.d (.bool false)])]
theorem JRx:Jx Tryz.prog JRv K6 w4t65=true:=kR
def JRy:Ext:=Jy w4t65 JRv
theorem JRz:JS Tryz.prog JRy:=JJ JRw JRx
def w4t66:Tbl:=[
 (52,[U2,w4d40],.tup [.d (.int .i64 2),.d JRt])]
theorem JR0:Jx Tryz.prog JRy K6 w4t66=true:=kR
def JR1:Ext:=Jy w4t66 JRy
theorem JR2:JS Tryz.prog JR1:=JJ JRz JR0
def w4t67:Tbl:=[
 (23,[U2,w4d40],.tup [.d (.int .i64 2),.d JRt,.d (.int .i64 0)])]
theorem JR3:Jx Tryz.prog JR1 K6 w4t67=true:=kR
def JR4:Ext:=Jy w4t67 JR1
theorem JR5:JS Tryz.prog JR4:=JJ JR2 JR3
end Go.Proofs
