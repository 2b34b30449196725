/- Part W of a proof. -/
import Derived.Test.YtjcljkgafcdbgaaGreatDoorFrV
import Derived.Test.YtjcljkgafcdbgaaGreatDoorFrC
import Derived.Test.YtjcljkgafcdbgaaGreatDoorFrA
set_option linter.unusedVariables false
set_option linter.unusedSimpArgs false
set_option linter.unusedSectionVars false
set_option linter.constructorNameAsVariable false
set_option linter.unnecessarySimpa false
set_option maxRecDepth 100000
namespace Go.Proofs
open Go Av
def U2:Dat:=.agg [.int .i64 9,.int .i64 0,.int .i64 0,.int .i64 0,.list 1 [],.list 7 [],.list 11 [.agg [.int .i64 1,.str [98,111,100,121],.int .i64 1,.int .i64 9,.int .i64 0,.int .i64 0,.int .i64 0,.list 1 [],.list 7 [],w4d0,.list 6 []]]]
def w4d19:Dat:=.list 3 [.agg [.int .i64 1,.int .i64 0,.str [98,111,100,121]],.agg [.int .i64 1,.int .i64 0,.str [110]]]
def w4t13:Tbl:=[
 (55,[JDY],.d (.list 4 []))]
theorem JPN:Jx Tryz.prog JPL K6 w4t13=true:=kR
def JPO:Ext:=Jy w4t13 JPL
theorem JPP:JS Tryz.prog JPO:=JJ JPM JPN
def w4t14:Tbl:=[
 (79,[JDY],.d (.list 16 [.agg [.int .i64 0,.list 1 [.int .i64 0],.str [],.int .i64 1,.int .i64 0,.int .i64 0,.int .i64 0,.str [115,109,97,108,108],.str [],.list 5 [JFD],.list 6 [],.list 2 [],.list 2 [],.int .i64 0,.int .i64 0,.bool false],.agg [.int .i64 0,.list 1 [.int .i64 1],.str [],.int .i64 11,.int .i64 0,.int .i64 0,.int .i64 0,.str [],.str [],.list 5 [],.list 6 [],.list 2 [],JJG,.int .i64 0,.int .i64 (-1),.bool false],.agg [.int .i64 0,.list 1 [.int .i64 1,.int .i64 0,.int .i64 0],.str [],.int .i64 13,.int .i64 0,.int .i64 0,.int .i64 0,.str [111,117,116],.str [],.list 5 [],.list 6 [],.list 2 [],.list 2 [],.int .i64 0,.int .i64 (-1),.bool false],.agg [.int .i64 0,.list 1 [.int .i64 1,.int .i64 1,.int .i64 0],.str [],.int .i64 13,.int .i64 0,.int .i64 0,.int .i64 0,.str [113],.str [],.list 5 [],.list 6 [],.list 2 [],.list 2 [],.int .i64 0,.int .i64 (-1),.bool false]])),
 (88,[JBA],.d JBA)]
theorem JPQ:Jx Tryz.prog JPO K6 w4t14=true:=kR
def JPR:Ext:=Jy w4t14 JPO
theorem JPS:JS Tryz.prog JPR:=JJ JPP JPQ
def w4t15:Tbl:=[
 (24,[JBA],.d U2),
 (228,[JFD],.d (.int .i64 0)),
 (468,[.str [98,111,100,121,46,110],.str [46,91,63]],.d (.int .i64 4))]
theorem JPT:Jx Tryz.prog JPR K6 w4t15=true:=kR
def JPU:Ext:=Jy w4t15 JPR
theorem JPV:JS Tryz.prog JPU:=JJ JPS JPT
def w4t16:Tbl:=[
 (366,[.str [46,98,111,100,121,46,110]],.tup [.d (.agg [.int .i64 1,.int .i64 0,.str [98,111,100,121]]),.d (.str [46,110]),.d (.bool true)])]
theorem JPW:Jx Tryz.prog JPU K6 w4t16=true:=kR
def JPX:Ext:=Jy w4t16 JPU
theorem JPY:JS Tryz.prog JPX:=JJ JPV JPW
def w4t17:Tbl:=[
 (277,[.str [98,111,100,121,46,110]],.tup [.d w4d19,.d (.int .i64 0)])]
theorem JPZ:Jx Tryz.prog JPX K6 w4t17=true:=kR
def JPa:Ext:=Jy w4t17 JPX
theorem JPb:JS Tryz.prog JPa:=JJ JPY JPZ
end Go.Proofs
