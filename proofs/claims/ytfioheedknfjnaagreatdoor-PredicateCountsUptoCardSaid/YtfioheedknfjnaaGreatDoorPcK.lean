/- Part K of a proof. -/
import Derived.Test.YtfioheedknfjnaaGreatDoorPcJ
import Derived.Test.YtfioheedknfjnaaGreatDoorPcC
import Derived.Test.YtfioheedknfjnaaGreatDoorPcA
set_option linter.unusedVariables false
set_option linter.unusedSimpArgs false
set_option linter.unusedSectionVars false
set_option linter.constructorNameAsVariable false
set_option linter.unnecessarySimpa false
set_option maxRecDepth 100000
namespace Go.Proofs
open Go Av
def w6t8:Tbl:=[
 (119,[JG4,.list 6 [ZQ,JF8]],.d w6d25),
 (122,[JF8,JA6],.d (.bool false)),
 (122,[JF8,ZR],.d (.bool false)),
 (122,[ZQ,JFN],.d (.bool true)),
 (122,[JF8,JFN],.d (.bool false)),
 (100,[JDT],.d (.int .i64 0)),
 (76,[.list 6 [JDT]],.d (.int .i64 0)),
 (52,[.agg [.int .i64 1,.int .i64 0,.str [],.list 6 [JDT],.nil 5]],.d (.int .i64 0))]
theorem JRy:JAu Tryz.prog w6X7 K6 w6t8=true:=kR
def w6X8:Ext:=JCH w6t8 w6X7
theorem JRz:Uu Tryz.prog w6X8:=XI JRx JRy
def w6t9:Tbl:=[
 (332,[.agg [.int .i64 8,.int .i64 0],.agg [.int .i64 5,.int .i64 0]],.tup [.d (.int .i64 1),.d (.int .i64 0)]),
 (122,[ZQ,JDT],.d (.bool true)),
 (122,[JF8,JDT],.d (.bool false)),
 (67,[JG4,.list 6 [ZQ,JF8]],.tup [.d JIr,.d (.bool false)]),
 (26,[Xr,JOy],.tup [.d (.int .i64 2),.d JIr]),
 (14,[Xr,JJ3,.agg [.int .i64 8,.int .i64 0,.str [],.list 6 [],JCI]],.tup [.d (.int .i64 1),.d JIr,.d (.int .i64 0)]),
 (52,[JF9],.d (.int .i64 0)),
 (33,[JF9],.d (.int .i64 0))]
theorem JR0:JAu Tryz.prog w6X8 K6 w6t9=true:=kR
def w6X9:Ext:=JCH w6t9 w6X8
theorem JR1:Uu Tryz.prog w6X9:=XI JRz JR0
def w6t10:Tbl:=[
 (22,[JF9,Xr],.tup [.d JRg,.d (.int .i64 0)]),
 (39,[Xr,JF9],.tup [.d JIq,.d (.bool true)]),
 (25,[Xr,JF9,.int .i64 2],.d (.int .i64 1)),
 (119,[JG4,.list 6 [ZQ,JGA]],.d w6d25),
 (122,[JGA,JA6],.d (.bool false)),
 (122,[JGA,ZR],.d (.bool false)),
 (122,[JGA,JFN],.d (.bool false)),
 (122,[JGA,JDT],.d (.bool false))]
theorem JOz:JAu Tryz.prog w6X9 K6 w6t10=true:=kR
def JO0:Ext:=JCH w6t10 w6X9
theorem JO1:Uu Tryz.prog JO0:=XI JR1 JOz
def w6t11:Tbl:=[
 (67,[JG4,.list 6 [ZQ,JGA]],.tup [.d JIr,.d (.bool false)]),
 (15,[Xr,.list 5 [JJ3],JF9],.tup [.d (.int .i64 1),.d JIr,.d (.int .i64 0)])]
theorem JO2:JAu Tryz.prog JO0 K6 w6t11=true:=kR
def w6X11:Ext:=JCH w6t11 JO0
theorem JO3:Uu Tryz.prog w6X11:=XI JO1 JO2
end Go.Proofs
