/- Part Bb of a proof. -/
import Derived.Test.YtjcljkgafcdbgaaGreatDoorFrBa
import Derived.Test.YtjcljkgafcdbgaaGreatDoorFrC
import Derived.Test.YtjcljkgafcdbgaaGreatDoorFrA
set_option linter.unusedVariables false
set_option linter.unusedSimpArgs false
set_option linter.unusedSectionVars false
set_option linter.constructorNameAsVariable false
set_option linter.unnecessarySimpa false
set_option maxRecDepth 100000
namespace Go.Proofs
open Go Av
def w4t58:Tbl:=[
 (250,[Y9,JFF],.d (.bool true)),
 (250,[JJK,JFF],.d (.bool false)),
 (328,[JFG],.d (.int .i64 0))]
theorem JRb:Jx Tryz.prog JRZ K6 w4t58=true:=kR
def JRc:Ext:=Jy w4t58 JRZ
theorem JRd:JS Tryz.prog JRc:=JJ JRa JRb
def w4t59:Tbl:=[
 (306,[.list 6 [JFG]],.d (.int .i64 0))]
theorem JRe:Jx Tryz.prog JRc K6 w4t59=true:=kR
def JRf:Ext:=Jy w4t59 JRc
theorem JRg:JS Tryz.prog JRf:=JJ JRd JRe
def w4t60:Tbl:=[
 (228,[.agg [.int .i64 1,.int .i64 0,.str [],.list 6 [JFG],.nil 5]],.d (.int .i64 0)),
 (482,[.agg [.int .i64 7,.int .i64 0],.agg [.int .i64 5,.int .i64 0]],.tup [.d (.int .i64 1),.d (.int .i64 0)])]
theorem JRh:Jx Tryz.prog JRf K6 w4t60=true:=kR
def JRi:Ext:=Jy w4t60 JRf
theorem JRj:JS Tryz.prog JRi:=JJ JRg JRh
def w4t61:Tbl:=[
 (250,[Y9,JFG],.d (.bool true)),
 (250,[JJK,JFG],.d (.bool false)),
 (328,[JJJ],.d (.int .i64 0))]
theorem JRk:Jx Tryz.prog JRi K6 w4t61=true:=kR
def JRl:Ext:=Jy w4t61 JRi
theorem JRm:JS Tryz.prog JRl:=JJ JRj JRk
def w4t62:Tbl:=[
 (306,[.list 6 [JJJ]],.d (.int .i64 0))]
theorem JRn:Jx Tryz.prog JRl K6 w4t62=true:=kR
def JRo:Ext:=Jy w4t62 JRl
theorem JRp:JS Tryz.prog JRo:=JJ JRm JRn
def w4t63:Tbl:=[
 (228,[.agg [.int .i64 1,.int .i64 0,.str [],.list 6 [JJJ],.nil 5]],.d (.int .i64 0)),
 (482,[.agg [.int .i64 2,.int .i64 0],.agg [.int .i64 5,.int .i64 0]],.tup [.d (.int .i64 (-1)),.d (.int .i64 0)])]
theorem JRq:Jx Tryz.prog JRo K6 w4t63=true:=kR
def JRr:Ext:=Jy w4t63 JRo
theorem JRs:JS Tryz.prog JRr:=JJ JRp JRq
end Go.Proofs
