/- Part I of a proof. -/
import Derived.Test.YtfioheedknfjnaaGreatDoorPcH
import Derived.Test.YtfioheedknfjnaaGreatDoorPcC
import Derived.Test.YtfioheedknfjnaaGreatDoorPcA
set_option linter.unusedVariables false
set_option linter.unusedSimpArgs false
set_option linter.unusedSectionVars false
set_option linter.constructorNameAsVariable false
set_option linter.unnecessarySimpa false
set_option maxRecDepth 100000
namespace Go.Proofs
open Go Av
def JIo:Dat:=.agg [.int .i64 2,.int .i64 0,.str [110],.list 6 [],.list 5 []]
def JJ2:Dat:=.agg [.int .i64 2,.int .i64 5,.int .i64 0,.str [],.list 6 [],.list 7 []]
def JRf:Dat:=.agg [.int .i64 1,.int .i64 0,.str [],.list 6 [JJ2],.list 5 []]
def JJ3:Dat:=.agg [.int .i64 10,.int .i64 0,.str [],.list 6 [],.list 5 [JIo,JRf]]
def w6d4:Dat:=.agg [.int .i64 1,.str [110],.int .i64 1,.int .i64 2,.int .i64 0,.int .i64 9,.int .i64 0,.list 1 [],.list 7 [],.list 11 [],.list 6 []]
def Xr:Dat:=.agg [.int .i64 9,.int .i64 0,.int .i64 0,.int .i64 0,.list 1 [],.list 7 [],.list 11 [w6d4]]
def JG4:Dat:=.agg [.int .i64 2,.int .i64 0,.int .i64 9,.int .i64 0,.list 1 [],.list 7 [],.list 11 []]
def JRg:Dat:=.agg [.int .i64 1,.int .i64 0,.int .i64 0,.int .i64 0,.list 1 [],.list 7 [],.list 11 [],.bool false,.bool true]
def JFN:Dat:=.agg [.int .i64 2,.int .i64 7,.int .i64 0,.str [],.list 6 [],.list 7 []]
def JRh:Dat:=.agg [.int .i64 1,.int .i64 0,.str [],.list 6 [JFN],.list 5 []]
def JIp:Dat:=.agg [.int .i64 8,.int .i64 0,.str [],.list 6 [],.list 5 [JIo,JRh]]
def w6d11:Dat:=.agg [.int .i64 10,.int .i64 0,.str [],.list 6 [],.list 5 [JIo,JRf],.int .i64 1]
def JLQ:Dat:=.list 6 [w6d11,.agg [.int .i64 8,.int .i64 0,.str [],.list 6 [],.list 5 [JIo,JRh],.int .i64 1]]
def JIq:Dat:=.agg [.bool false,.bool false,.str [110],.list 2 [],.int .i64 2,.int .i64 0,.int .i64 9,.int .i64 0,.list 1 [],.list 7 [],.list 11 []]
def ZQ:Dat:=.agg [.int .i64 10,.int .i64 0,.str [],.list 6 [],.list 5 [JIo,JRf],.bool true]
def JLR:Dat:=.agg [.int .i64 8,.int .i64 0,.str [],.list 6 [],.list 5 [JIo,JRh],.bool true]
def JDS:Dat:=.agg [.int .i64 2,.int .i64 0,.int .i64 0,.str [],.list 6 [],.list 7 []]
def JA6:Dat:=.agg [.int .i64 2,.int .i64 9,.int .i64 0,.str [],.list 6 [],.list 7 []]
def JF7:Dat:=.agg [.int .i64 2,.int .i64 4,.int .i64 0,.str [],.list 6 [],.list 7 []]
def ZR:Dat:=.agg [.int .i64 2,.int .i64 6,.int .i64 0,.str [],.list 6 [],.list 7 []]
def JDT:Dat:=.agg [.int .i64 2,.int .i64 8,.int .i64 0,.str [],.list 6 [],.list 7 []]
def w6d21:Dat:=.agg [.int .i64 9,.int .i64 0,.int .i64 0,.str [],.list 6 [],.list 7 [.agg [.str [110],.int .i64 2,.int .i64 6,.int .i64 0,.str [],.list 6 [],.list 7 []]]]
def JCI:Dat:=.list 5 [JIo,.agg [.int .i64 1,.int .i64 0,.str [],.list 6 [ZR],.list 5 []]]
def JOy:Dat:=.list 6 [w6d11,.agg [.int .i64 8,.int .i64 0,.str [],.list 6 [],JCI,.int .i64 1]]
def JF8:Dat:=.agg [.int .i64 8,.int .i64 0,.str [],.list 6 [],JCI,.bool true]
def w6d25:Dat:=.list 6 [JDS,JDS,JA6,JF7,JJ2,ZR,JFN,JJ2,ZR,JFN,JDT]
def JIr:Dat:=.agg [.int .i64 0,.int .i64 0,.int .i64 0,.str [],.list 6 [],.list 7 []]
def JF9:Dat:=.agg [.int .i64 11,.int .i64 0,.str [],.list 6 [],JCI]
def JGA:Dat:=.agg [.int .i64 11,.int .i64 0,.str [],.list 6 [],JCI,.bool false]
def w6t0:Tbl:=[
 (52,[JJ3],.d (.int .i64 0)),
 (70,[.str [110]],.tup [.d (.list 3 [.agg [.int .i64 1,.int .i64 0,.str [110]]]),.d (.int .i64 0)]),
 (52,[JIo],.d (.int .i64 0)),
 (100,[JJ2],.d (.int .i64 0)),
 (76,[.list 6 [JJ2]],.d (.int .i64 0)),
 (52,[JRf],.d (.int .i64 0)),
 (33,[JJ3],.d (.int .i64 0)),
 (57,[Xr],.d (.int .i64 0))]
theorem JRi:JAu Tryz.prog X6 K6 w6t0=true:=kR
def w6X0:Ext:=JCH w6t0 (X6)
theorem JRj:Uu Tryz.prog w6X0:=XI X6_ok JRi
def w6t1:Tbl:=[
 (57,[JG4],.d (.int .i64 0)),
 (23,[Xr],.d (.int .i64 0)),
 (72,[Xr,.str [110]],.tup [.d w6d4,.d (.bool true)]),
 (197,[Xr,.agg [.int .i64 1,.int .i64 0,.str [110]]],.tup [.d JG4,.d (.bool false),.d (.int .i64 0)]),
 (129,[Xr,.list 3 [.agg [.int .i64 1,.int .i64 0,.str [110]]]],.tup [.d JG4,.d (.bool false),.d (.int .i64 0)]),
 (22,[JJ3,Xr],.tup [.d JRg,.d (.int .i64 0)]),
 (52,[JIp],.d (.int .i64 0)),
 (100,[JFN],.d (.int .i64 0))]
theorem JRk:JAu Tryz.prog w6X0 K6 w6t1=true:=kR
def w6X1:Ext:=JCH w6t1 w6X0
theorem JRl:Uu Tryz.prog w6X1:=XI JRj JRk
def w6t2:Tbl:=[
 (76,[.list 6 [JFN]],.d (.int .i64 0)),
 (52,[JRh],.d (.int .i64 0)),
 (33,[JIp],.d (.int .i64 0)),
 (22,[JIp,Xr],.tup [.d JRg,.d (.int .i64 0)]),
 (9,[Xr,JLQ,.int .i64 2],.d (.int .i64 0)),
 (61,[Xr,.str [110]],.tup [.d JIq,.d (.bool true)]),
 (39,[Xr,JJ3],.tup [.d JIq,.d (.bool true)]),
 (25,[Xr,JJ3,.int .i64 1],.d (.int .i64 1))]
theorem JRm:JAu Tryz.prog w6X1 K6 w6t2=true:=kR
def w6X2:Ext:=JCH w6t2 w6X1
theorem JRn:Uu Tryz.prog w6X2:=XI JRl JRm
def w6t3:Tbl:=[
 (39,[Xr,JIp],.tup [.d JIq,.d (.bool true)]),
 (25,[Xr,JIp,.int .i64 1],.d (.int .i64 1)),
 (10,[Xr,JLQ],.d (.int .i64 1)),
 (119,[JG4,.list 6 [ZQ,JLR]],.d (.list 6 [JDS,JDS,JA6,JF7,JJ2,ZR,JFN,ZR,JFN,JDT,JA6])),
 (100,[JDS],.d (.int .i64 0)),
 (76,[.list 6 [JDS]],.d (.int .i64 0)),
 (52,[.agg [.int .i64 1,.int .i64 0,.str [],.list 6 [JDS],.nil 5]],.d (.int .i64 0)),
 (387,[],.d (.agg [.int .i64 1,.int .i64 10,.int .i64 100,.int .i64 1000,.int .i64 10000,.int .i64 100000,.int .i64 1000000,.int .i64 10000000,.int .i64 100000000,.int .i64 1000000000,.int .i64 10000000000,.int .i64 100000000000,.int .i64 1000000000000]))]
theorem JRo:JAu Tryz.prog w6X2 K6 w6t3=true:=kR
def w6X3:Ext:=JCH w6t3 w6X2
theorem JRp:Uu Tryz.prog w6X3:=XI JRn JRo
end Go.Proofs
