/- Part Z of a proof. -/
import Derived.Test.YtjcljkgafcdbgaaGreatDoorFrY
import Derived.Test.YtjcljkgafcdbgaaGreatDoorFrC
import Derived.Test.YtjcljkgafcdbgaaGreatDoorFrA
set_option linter.unusedVariables false
set_option linter.unusedSimpArgs false
set_option linter.unusedSectionVars false
set_option linter.constructorNameAsVariable false
set_option linter.unnecessarySimpa false
set_option maxRecDepth 100000
namespace Go.Proofs
open Go Av
def JLm:Dat:=.agg [.int .i64 9,.int .i64 0,.int .i64 0,.str [],.list 6 [],.list 7 [.agg [.str [98,111,100,121],.int .i64 9,.int .i64 0,.int .i64 0,.str [],.list 6 [],.list 7 [.agg [.str [110],.int .i64 2,.int .i64 9,.int .i64 0,.str [],.list 6 [],.list 7 []],w4d23]]]]
def JQh:Dat:=.list 6 [JJI,.agg [.int .i64 10,.int .i64 0,.str [],.list 6 [],.list 5 [JHL,JMc],.int .i64 1]]
def JQi:Dat:=.agg [.int .i64 10,.int .i64 0,.str [],.list 6 [],.list 5 [JHL,JMc],.bool true]
def JJJ:Dat:=.agg [.int .i64 2,.int .i64 2,.int .i64 0,.str [],.list 6 [],.list 7 []]
def w4d37:Dat:=.list 6 [JDa,JDa,JBB,JFE,JKI,JFF,JFG,JJJ,JPC,JFE,JKI]
def w4t40:Tbl:=[
 (250,[Y9,JDa],.d (.bool false)),
 (328,[JBB],.d (.int .i64 0))]
theorem JQj:Jx Tryz.prog JQf K6 w4t40=true:=kR
def JQk:Ext:=Jy w4t40 JQf
theorem JQl:JS Tryz.prog JQk:=JJ JQg JQj
def w4t41:Tbl:=[
 (306,[.list 6 [JBB]],.d (.int .i64 0))]
theorem JQm:Jx Tryz.prog JQk K6 w4t41=true:=kR
def JQn:Ext:=Jy w4t41 JQk
theorem JQo:JS Tryz.prog JQn:=JJ JQl JQm
def w4t42:Tbl:=[
 (228,[.agg [.int .i64 1,.int .i64 0,.str [],.list 6 [JBB],.nil 5]],.d (.int .i64 0)),
 (482,[.agg [.int .i64 9,.int .i64 0],.agg [.int .i64 5,.int .i64 0]],.tup [.d (.int .i64 1),.d (.int .i64 0)])]
theorem JQp:Jx Tryz.prog JQn K6 w4t42=true:=kR
def JQq:Ext:=Jy w4t42 JQn
theorem JQr:JS Tryz.prog JQq:=JJ JQo JQp
def w4t43:Tbl:=[
 (250,[Y9,JBB],.d (.bool true))]
theorem JQs:Jx Tryz.prog JQq K6 w4t43=true:=kR
def JQt:Ext:=Jy w4t43 JQq
theorem JQu:JS Tryz.prog JQt:=JJ JQr JQs
def w4t44:Tbl:=[
 (142,[JDZ,.list 6 [Y9]],.tup [.d JBB,.d (.bool true)])]
theorem JQv:Jx Tryz.prog JQt K6 w4t44=true:=kR
def JQw:Ext:=Jy w4t44 JQt
theorem JQx:JS Tryz.prog JQw:=JJ JQu JQv
def w4t45:Tbl:=[
 (52,[U2,.list 6 [JJI]],.tup [.d (.int .i64 1),.d JLm])]
theorem JQy:Jx Tryz.prog JQw K6 w4t45=true:=kR
def JQz:Ext:=Jy w4t45 JQw
theorem JQ0:JS Tryz.prog JQz:=JJ JQx JQy
def w4t46:Tbl:=[
 (23,[U2,.list 6 [JJI]],.tup [.d (.int .i64 1),.d JLm,.d (.int .i64 0)]),
 (236,[U2,JJF],.tup [.d JQC,.d (.bool true)]),
 (137,[U2,JJF,.int .i64 1],.d (.int .i64 1)),
 (84,[U2,JQh],.d (.int .i64 1))]
theorem JQ1:Jx Tryz.prog JQz K6 w4t46=true:=kR
def JQ2:Ext:=Jy w4t46 JQz
theorem JQ3:JS Tryz.prog JQ2:=JJ JQ0 JQ1
def w4t47:Tbl:=[
 (247,[JDZ,.list 6 [Y9,JQi]],.d w4d37),
 (482,[.agg [.int .i64 9,.int .i64 0],.agg [.int .i64 3,.int .i64 0]],.tup [.d (.int .i64 1),.d (.int .i64 0)])]
theorem JQ4:Jx Tryz.prog JQ2 K6 w4t47=true:=kR
def JQ5:Ext:=Jy w4t47 JQ2
theorem JQ6:JS Tryz.prog JQ5:=JJ JQ3 JQ4
def w4t48:Tbl:=[
 (250,[JQi,JBB],.d (.bool true))]
theorem JQ7:Jx Tryz.prog JQ5 K6 w4t48=true:=kR
def JQ8:Ext:=Jy w4t48 JQ5
theorem JQ9:JS Tryz.prog JQ8:=JJ JQ6 JQ7
def w4t49:Tbl:=[
 (142,[JDZ,.list 6 [Y9,JQi]],.tup [.d JBB,.d (.bool true)])]
theorem JRA:Jx Tryz.prog JQ8 K6 w4t49=true:=kR
def JRB:Ext:=Jy w4t49 JQ8
theorem JRC:JS Tryz.prog JRB:=JJ JQ9 JRA
end Go.Proofs
