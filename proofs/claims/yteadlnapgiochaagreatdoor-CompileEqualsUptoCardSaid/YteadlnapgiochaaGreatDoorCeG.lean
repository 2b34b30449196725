/- Part G of a proof. -/
import Derived.Test.YteadlnapgiochaaGreatDoorCeF
import Derived.Test.YteadlnapgiochaaGreatDoorCeC
import Derived.Test.YteadlnapgiochaaGreatDoorCeA
set_option linter.unusedVariables false
set_option linter.unusedSimpArgs false
set_option linter.unusedSectionVars false
set_option linter.constructorNameAsVariable false
set_option linter.unnecessarySimpa false
set_option maxRecDepth 100000
namespace Go.Proofs
open Go Av
def JNt:Dat:=.agg [.int .i64 1,.str [105,100],.int .i64 1,.int .i64 2,.int .i64 0,.int .i64 999,.int .i64 0,.list 1 [],.list 7 [],.list 11 [],.list 6 []]
def JDa:Dat:=.agg [.int .i64 9,.int .i64 0,.int .i64 0,.int .i64 0,.list 1 [],.list 7 [],.list 11 [.agg [.int .i64 1,.str [115,107,117],.int .i64 1,.int .i64 2,.int .i64 0,.int .i64 9,.int .i64 0,.list 1 [],.list 7 [],.list 11 [],.list 6 []],.agg [.int .i64 2,.str [113,116,121],.int .i64 1,.int .i64 2,.int .i64 0,.int .i64 9,.int .i64 0,.list 1 [],.list 7 [],.list 11 [],.list 6 []]]]
def JNu:Dat:=.agg [.int .i64 4,.str [105,116,101,109,115],.int .i64 1,.int .i64 8,.int .i64 0,.int .i64 4,.int .i64 0,.list 1 [],.list 7 [JDa],.list 11 [],.list 6 []]
def JNv:Dat:=.agg [.int .i64 1,.int .i64 0,.int .i64 0,.str [],.list 6 [],.list 7 []]
def JNw:Dat:=.list 11 [JNt,.agg [.int .i64 2,.str [97,109,111,117,110,116],.int .i64 1,.int .i64 2,.int .i64 0,.int .i64 100,.int .i64 0,.list 1 [],.list 7 [],.list 11 [],.list 6 []],.agg [.int .i64 3,.str [107,105,110,100],.int .i64 1,.int .i64 4,.int .i64 0,.int .i64 0,.int .i64 0,.list 1 [.str [97],.str [98],.str [99]],.list 7 [],.list 11 [],.list 6 []],JNu,.agg [.int .i64 5,.str [110,111,116,101],.int .i64 2,.int .i64 4,.int .i64 0,.int .i64 20,.int .i64 0,.list 1 [],.list 7 [],.list 11 [],.list 6 []],.agg [.int .i64 6,.str [102,108,97,103],.int .i64 3,.int .i64 1,.int .i64 0,.int .i64 0,.int .i64 0,.list 1 [],.list 7 [],.list 11 [],.list 6 [JNv]]]
def JCP:Dat:=.agg [.str [111,114,100,101,114],.int .i64 1,.int .i64 9,.int .i64 0,.int .i64 0,.int .i64 0,.list 1 [],.list 7 [],JNw]
def JSJ:Dat:=.agg [.int .i64 2,.str [107,105,110,100],.int .i64 1,.int .i64 4,.int .i64 0,.int .i64 0,.int .i64 0,.list 1 [.str [97],.str [98],.str [99]],.list 7 [],.list 11 [],.list 6 []]
def JSK:Dat:=.list 11 [JNt,JSJ,.agg [.int .i64 3,.str [115,107,117],.int .i64 1,.int .i64 2,.int .i64 0,.int .i64 9,.int .i64 0,.list 1 [],.list 7 [],.list 11 [],.list 6 []],.agg [.int .i64 4,.str [113,116,121],.int .i64 1,.int .i64 2,.int .i64 0,.int .i64 9,.int .i64 0,.list 1 [],.list 7 [],.list 11 [],.list 6 []]]
def JAT:Dat:=.agg [.str [108,105,110,101],.int .i64 1,.int .i64 9,.int .i64 0,.int .i64 0,.int .i64 0,.list 1 [],.list 7 [],JSK]
def JSL:Dat:=.list 11 [JNt,JSJ,.agg [.int .i64 3,.str [116,111,116,97,108],.int .i64 1,.int .i64 2,.int .i64 0,.int .i64 100000,.int .i64 0,.list 1 [],.list 7 [],.list 11 [],.list 6 []],.agg [.int .i64 4,.str [99,111,117,110,116],.int .i64 1,.int .i64 2,.int .i64 0,.int .i64 256,.int .i64 0,.list 1 [],.list 7 [],.list 11 [],.list 6 []]]
def ZI:Dat:=.agg [.str [98,105,108,108],.int .i64 1,.int .i64 9,.int .i64 0,.int .i64 0,.int .i64 0,.list 1 [],.list 7 [],JSL]
def JNx:Dat:=.list 11 [.agg [.int .i64 1,.str [111,107],.int .i64 1,.int .i64 1,.int .i64 0,.int .i64 0,.int .i64 0,.list 1 [],.list 7 [],.list 11 [],.list 6 []],.agg [.int .i64 2,.str [99,111,100,101],.int .i64 1,.int .i64 2,.int .i64 0,.int .i64 99,.int .i64 0,.list 1 [],.list 7 [],.list 11 [],.list 6 []]]
def ZJ:Dat:=.agg [.str [97,110,115,119,101,114],.int .i64 1,.int .i64 9,.int .i64 0,.int .i64 0,.int .i64 0,.list 1 [],.list 7 [],JNx]
def JBk:Dat:=.list 7 [.agg [.str [105,110,95,97],.int .i64 1,.str [111,114,100,101,114],.int .i64 1,.int .i64 1,.int .i64 0,.list 1 []],.agg [.str [105,110,95,98],.int .i64 1,.str [111,114,100,101,114],.int .i64 1,.int .i64 4,.int .i64 0,.list 1 []],.agg [.str [97,103,97,105,110],.int .i64 3,.str [111,114,100,101,114],.int .i64 1,.int .i64 1,.int .i64 0,.list 1 []],.agg [.str [111,117,116,95,111,114,100,101,114],.int .i64 2,.str [111,114,100,101,114],.int .i64 1,.int .i64 4,.int .i64 0,.list 1 []],.agg [.str [111,117,116,95,108,105,110,101],.int .i64 2,.str [108,105,110,101],.int .i64 1,.int .i64 2,.int .i64 44,.list 1 []],.agg [.str [111,117,116,95,98,105,108,108],.int .i64 2,.str [98,105,108,108],.int .i64 1,.int .i64 1,.int .i64 0,.list 1 []]]
def JEp:Dat:=.list 4 [.agg [.str [112,97,121],.str [98,105,108,108],.str [97,110,115,119,101,114],.bool true],.agg [.str [115,116,111,99,107],.str [108,105,110,101],.str [97,110,115,119,101,114],.bool true],.agg [.str [109,97,105,108],.str [98,105,108,108],.str [97,110,115,119,101,114],.bool false]]
def JNy:Dat:=.agg [.int .i64 2,.int .i64 0,.str [98,111,100,121,46,97,109,111,117,110,116],.list 6 [],.list 5 []]
def JJL:Dat:=.agg [.int .i64 2,.int .i64 50,.int .i64 0,.str [],.list 6 [],.list 7 []]
def JNz:Dat:=.agg [.int .i64 1,.int .i64 0,.str [],.list 6 [JJL],.list 5 []]
def Xd:Dat:=.agg [.int .i64 8,.int .i64 0,.str [],.list 6 [],.list 5 [JNy,JNz]]
def JN0:Dat:=.agg [.str [102],.int .i64 1,.int .i64 0,.int .i64 0,.int .i64 0,.str [108,97,114,103,101],.str [],.list 5 [Xd],.list 6 [],.list 2 [],.list 2 []]
def JN1:Dat:=.list 2 [.agg [.list 5 [Xd],.list 11 [.agg [.str [],.int .i64 13,.int .i64 0,.int .i64 0,.int .i64 0,.str [111,117,116,95,111,114,100,101,114],.str [],.list 5 [],.list 6 [],.list 2 [],.list 2 []]]],.agg [.list 5 [],.list 11 []]]
def JAq:Dat:=.agg [.int .i64 1,.list 9 [JCP,JAT,ZI,ZJ],JBk,JEp,.list 3 [.agg [.str [109,97,105,110],.str [105,110,95,97],.list 11 [JN0,.agg [.str [99],.int .i64 11,.int .i64 0,.int .i64 0,.int .i64 0,.str [],.str [],.list 5 [],.list 6 [],.list 2 [],JN1],.agg [.str [],.int .i64 14,.int .i64 0,.int .i64 0,.int .i64 0,.str [110,111],.str [],.list 5 [],.list 6 [],.list 2 [],.list 2 []]]]]]
def JN2:Dat:=.agg [.int .i64 0,.list 1 [.int .i64 0],.str [102],.int .i64 1,.int .i64 0,.int .i64 0,.int .i64 0,.str [108,97,114,103,101],.str [],.list 5 [Xd],.list 6 [],.nil 2,.nil 2]
def YF:Dat:=.agg [.int .i64 9,.int .i64 0,.int .i64 0,.int .i64 0,.list 1 [],.list 7 [],JNw]
def JN3:Dat:=.agg [.int .i64 4,.int .i64 0,.int .i64 0,.int .i64 0,.list 1 [.str [97],.str [98],.str [99]],.list 7 [],.list 11 []]
def JGl:Dat:=.agg [.int .i64 8,.int .i64 0,.int .i64 4,.int .i64 0,.list 1 [],.list 7 [JDa],.list 11 []]
def JN4:Dat:=.agg [.int .i64 1,.int .i64 0,.int .i64 0,.int .i64 0,.list 1 [],.list 7 [],.list 11 []]
def JBl:Dat:=.agg [.int .i64 9,.int .i64 0,.int .i64 0,.int .i64 0,.list 1 [],.list 7 [],JSK]
def JBm:Dat:=.agg [.int .i64 9,.int .i64 0,.int .i64 0,.int .i64 0,.list 1 [],.list 7 [],JSL]
def JC9:Dat:=.agg [.int .i64 9,.int .i64 0,.int .i64 0,.int .i64 0,.list 1 [],.list 7 [],JNx]
def JEq:Dat:=.agg [.int .i64 9,.int .i64 0,.int .i64 0,.int .i64 0,.list 1 [],.list 7 [],.list 11 [.agg [.int .i64 1,.str [98,111,100,121],.int .i64 1,.int .i64 9,.int .i64 0,.int .i64 0,.int .i64 0,.list 1 [],.list 7 [],JNw,.list 6 []]]]
def JN5:Dat:=.agg [.int .i64 1,.list 9 [JCP,JAT,ZI,ZJ],JBk,JEp,.list 3 [.agg [.str [109,97,105,110],.str [105,110,95,97],.list 11 [JN0,.agg [.str [99],.int .i64 11,.int .i64 0,.int .i64 0,.int .i64 0,.str [],.str [],.list 5 [],.list 6 [],.list 2 [],.list 2 [.agg [.list 5 [Xd],.list 11 [.agg [.str [115,48,95,49,95,48,95,48],.int .i64 13,.int .i64 0,.int .i64 0,.int .i64 0,.str [111,117,116,95,111,114,100,101,114],.str [],.list 5 [],.list 6 [],.list 2 [],.list 2 []]]],.agg [.list 5 [],.list 11 []]]],.agg [.str [115,48,95,50],.int .i64 14,.int .i64 0,.int .i64 0,.int .i64 0,.str [110,111],.str [],.list 5 [],.list 6 [],.list 2 [],.list 2 []]]]]]
def JN6:Dat:=.list 6 [.agg [.int .i64 1,.int .i64 1,.int .i64 0,.str [],.list 6 [],.list 7 []]]
def JN7:Dat:=.agg [.str [99],.int .i64 11,.int .i64 0,.int .i64 (-1),.int .i64 0,.int .i64 0,.int .i64 0,.str [],.int .i64 0,.int .i64 0,.int .i64 0,.int .i64 0,.nil 1,.nil 7,.nil 11,.nil 7,.list 5 [Xd,.agg [.int .i64 1,.int .i64 0,.str [],JN6,.nil 5]],.list 6 [],.nil 2,.list 1 [.int .i64 4,.int .i64 3]]
def JN8:Dat:=.agg [.str [99],.int .i64 11,.int .i64 0,.int .i64 (-1),.int .i64 0,.int .i64 0,.int .i64 0,.str [],.int .i64 0,.int .i64 0,.int .i64 0,.int .i64 0,.list 1 [],.list 7 [],.list 11 [],.list 7 [],.list 5 [Xd,.agg [.int .i64 1,.int .i64 0,.str [],JN6,.list 5 []]],.list 6 [],.list 2 [],.list 1 [.int .i64 4,.int .i64 3]]
def JN9:Dat:=.agg [.int .i64 1,.list 9 [JCP,JAT,ZI,ZJ],JBk,JEp,.list 20 [.agg [.str [105,110,95,97],.int .i64 21,.int .i64 0,.int .i64 0,.int .i64 0,.int .i64 0,.int .i64 0,.str [105,110,95,97],.int .i64 0,.int .i64 0,.int .i64 0,.int .i64 0,.list 1 [],.list 7 [],.list 11 [],.list 7 [],.list 5 [],.list 6 [],.list 2 [],.list 1 [.int .i64 1]],.agg [.str [102],.int .i64 1,.int .i64 0,.int .i64 (-1),.int .i64 0,.int .i64 0,.int .i64 0,.str [108,97,114,103,101],.int .i64 0,.int .i64 0,.int .i64 0,.int .i64 0,.list 1 [],.list 7 [],.list 11 [],.list 7 [],.list 5 [Xd],.list 6 [],.list 2 [],.list 1 [.int .i64 2]],JN8,.agg [.str [115,48,95,50],.int .i64 14,.int .i64 0,.int .i64 (-1),.int .i64 0,.int .i64 0,.int .i64 0,.str [110,111],.int .i64 0,.int .i64 0,.int .i64 0,.int .i64 0,.list 1 [],.list 7 [],.list 11 [],.list 7 [],.list 5 [],.list 6 [],.list 2 [],.list 1 []],.agg [.str [111,117,116,95,111,114,100,101,114],.int .i64 22,.int .i64 0,.int .i64 (-1),.int .i64 0,.int .i64 0,.int .i64 0,.str [111,117,116,95,111,114,100,101,114],.int .i64 0,.int .i64 0,.int .i64 0,.int .i64 0,.list 1 [],.list 7 [],.list 11 [],.list 7 [],.list 5 [],.list 6 [],.list 2 [],.list 1 []]]]
def JSM:Tbl:=[
 (89,[.int .i64 1],.d (.list 9 [JCP,JAT,ZI,ZJ])),
 (41,[.int .i64 1],.d (.agg [.int .i64 1,.list 9 [JCP,JAT,ZI,ZJ],JBk,JEp,.list 3 []])),
 (13,[],.d JAq),
 (84,[Xd],.d Xd)]
theorem JOA:YX Tryz.prog X4 K27 JSM=true:=kR
def JOB:Ext:=Yr JSM (X4)
theorem JOC:Ur Tryz.prog JOB:=UN X4_ok JOA
def JSN:Tbl:=[
 (29,[JAq],.d (.list 13 [JN2,.agg [.int .i64 0,.list 1 [.int .i64 1],.str [99],.int .i64 11,.int .i64 0,.int .i64 0,.int .i64 0,.str [],.str [],.nil 5,.list 6 [],.nil 2,.list 2 [.agg [.list 5 [Xd],.list 11 [.agg [.str [],.int .i64 13,.int .i64 0,.int .i64 0,.int .i64 0,.str [111,117,116,95,111,114,100,101,114],.str [],.nil 5,.list 6 [],.nil 2,.nil 2]]],.agg [.nil 5,.nil 11]]],.agg [.int .i64 0,.list 1 [.int .i64 1,.int .i64 0,.int .i64 0],.str [],.int .i64 13,.int .i64 0,.int .i64 0,.int .i64 0,.str [111,117,116,95,111,114,100,101,114],.str [],.nil 5,.list 6 [],.nil 2,.nil 2],.agg [.int .i64 0,.list 1 [.int .i64 2],.str [],.int .i64 14,.int .i64 0,.int .i64 0,.int .i64 0,.str [110,111],.str [],.nil 5,.list 6 [],.nil 2,.nil 2]])),
 (331,[YF,.int .i64 0],.d (.int .i64 0)),
 (331,[YF,.int .i64 1],.d (.int .i64 0)),
 (331,[YF,.int .i64 2],.d (.int .i64 0))]
theorem JOD:YX Tryz.prog JOB K27 JSN=true:=kR
def JOE:Ext:=Yr JSN JOB
theorem JOF:Ur Tryz.prog JOE:=UN JOC JOD
def JSO:Tbl:=[
 (331,[YF,.int .i64 3],.d (.int .i64 0)),
 (331,[YF,.int .i64 4],.d (.int .i64 0)),
 (331,[YF,.int .i64 5],.d (.int .i64 0)),
 (283,[YF],.d (.int .i64 0))]
theorem JOG:YX Tryz.prog JOE K27 JSO=true:=kR
def JOH:Ext:=Yr JSO JOE
theorem JOI:Ur Tryz.prog JOH:=UN JOF JOG
def JSP:Tbl:=[
 (283,[.agg [.int .i64 2,.int .i64 0,.int .i64 999,.int .i64 0,.list 1 [],.list 7 [],.list 11 []]],.d (.int .i64 0)),
 (332,[.agg [.int .i64 4,.int .i64 0,.int .i64 0,.str [97],.list 6 [],.list 7 []]],.d (.int .i64 0)),
 (332,[.agg [.int .i64 4,.int .i64 0,.int .i64 0,.str [98],.list 6 [],.list 7 []]],.d (.int .i64 0)),
 (332,[.agg [.int .i64 4,.int .i64 0,.int .i64 0,.str [99],.list 6 [],.list 7 []]],.d (.int .i64 0))]
theorem JOJ:YX Tryz.prog JOH K27 JSP=true:=kR
def JOK:Ext:=Yr JSP JOH
theorem JOL:Ur Tryz.prog JOK:=UN JOI JOJ
end Go.Proofs
