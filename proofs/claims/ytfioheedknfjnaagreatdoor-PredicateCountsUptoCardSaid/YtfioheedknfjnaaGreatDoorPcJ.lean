/- Part J of a proof. -/
import Derived.Test.YtfioheedknfjnaaGreatDoorPcI
import Derived.Test.YtfioheedknfjnaaGreatDoorPcC
import Derived.Test.YtfioheedknfjnaaGreatDoorPcA
set_option linter.unusedVariables false
set_option linter.unusedSimpArgs false
set_option linter.unusedSectionVars false
set_option linter.constructorNameAsVariable false
set_option linter.unnecessarySimpa false
set_option maxRecDepth 100000
namespace Go.Proofs
open Go Av
def w6t4:Tbl:=[
 (378,[.int .i64 0],.d (.int .i64 1)),
 (357,[.agg [.int .i64 0,.int .i64 0]],.tup [.d (.int .i64 0),.d (.int .i64 0)]),
 (332,[.agg [.int .i64 0,.int .i64 0],.agg [.int .i64 5,.int .i64 0]],.tup [.d (.int .i64 (-1)),.d (.int .i64 0)]),
 (122,[ZQ,JDS],.d (.bool false)),
 (100,[JA6],.d (.int .i64 0)),
 (76,[.list 6 [JA6]],.d (.int .i64 0)),
 (52,[.agg [.int .i64 1,.int .i64 0,.str [],.list 6 [JA6],.nil 5]],.d (.int .i64 0)),
 (332,[.agg [.int .i64 9,.int .i64 0],.agg [.int .i64 5,.int .i64 0]],.tup [.d (.int .i64 1),.d (.int .i64 0)])]
theorem JRq:JAu Tryz.prog w6X3 K6 w6t4=true:=kR
def w6X4:Ext:=JCH w6t4 w6X3
theorem JRr:Uu Tryz.prog w6X4:=XI JRp JRq
def w6t5:Tbl:=[
 (122,[ZQ,JA6],.d (.bool true)),
 (332,[.agg [.int .i64 9,.int .i64 0],.agg [.int .i64 7,.int .i64 0]],.tup [.d (.int .i64 1),.d (.int .i64 0)]),
 (122,[JLR,JA6],.d (.bool false)),
 (100,[JF7],.d (.int .i64 0)),
 (76,[.list 6 [JF7]],.d (.int .i64 0)),
 (52,[.agg [.int .i64 1,.int .i64 0,.str [],.list 6 [JF7],.nil 5]],.d (.int .i64 0)),
 (332,[.agg [.int .i64 4,.int .i64 0],.agg [.int .i64 5,.int .i64 0]],.tup [.d (.int .i64 (-1)),.d (.int .i64 0)]),
 (122,[ZQ,JF7],.d (.bool false))]
theorem JRs:JAu Tryz.prog w6X4 K6 w6t5=true:=kR
def w6X5:Ext:=JCH w6t5 w6X4
theorem JRt:Uu Tryz.prog w6X5:=XI JRr JRs
def w6t6:Tbl:=[
 (122,[ZQ,JJ2],.d (.bool false)),
 (100,[ZR],.d (.int .i64 0)),
 (76,[.list 6 [ZR]],.d (.int .i64 0)),
 (52,[.agg [.int .i64 1,.int .i64 0,.str [],.list 6 [ZR],.nil 5]],.d (.int .i64 0)),
 (332,[.agg [.int .i64 6,.int .i64 0],.agg [.int .i64 5,.int .i64 0]],.tup [.d (.int .i64 1),.d (.int .i64 0)]),
 (122,[ZQ,ZR],.d (.bool true)),
 (122,[JLR,ZR],.d (.bool true)),
 (67,[JG4,.list 6 [ZQ,JLR]],.tup [.d ZR,.d (.bool true)])]
theorem JRu:JAu Tryz.prog w6X5 K6 w6t6=true:=kR
def w6X6:Ext:=JCH w6t6 w6X5
theorem JRv:Uu Tryz.prog w6X6:=XI JRt JRu
def w6t7:Tbl:=[
 (26,[Xr,JLQ],.tup [.d (.int .i64 1),.d w6d21]),
 (12,[Xr,JLQ],.tup [.d (.int .i64 1),.d w6d21,.d (.int .i64 0)]),
 (33,[.agg [.int .i64 8,.int .i64 0,.str [],.list 6 [],JCI]],.d (.int .i64 0)),
 (22,[.agg [.int .i64 8,.int .i64 0,.str [],.list 6 [],JCI],Xr],.tup [.d JRg,.d (.int .i64 0)]),
 (9,[Xr,JOy,.int .i64 2],.d (.int .i64 0)),
 (39,[Xr,.agg [.int .i64 8,.int .i64 0,.str [],.list 6 [],JCI]],.tup [.d JIq,.d (.bool true)]),
 (25,[Xr,.agg [.int .i64 8,.int .i64 0,.str [],.list 6 [],JCI],.int .i64 1],.d (.int .i64 1)),
 (10,[Xr,JOy],.d (.int .i64 1))]
theorem JRw:JAu Tryz.prog w6X6 K6 w6t7=true:=kR
def w6X7:Ext:=JCH w6t7 w6X6
theorem JRx:Uu Tryz.prog w6X7:=XI JRv JRw
end Go.Proofs
