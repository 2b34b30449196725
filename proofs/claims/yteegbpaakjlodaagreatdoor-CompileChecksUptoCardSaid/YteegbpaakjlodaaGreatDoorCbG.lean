/- Part G of a proof. -/
import Derived.Test.YteegbpaakjlodaaGreatDoorCbF
import Derived.Test.YteegbpaakjlodaaGreatDoorCbC
import Derived.Test.YteegbpaakjlodaaGreatDoorCbA
set_option linter.unusedVariables false
set_option linter.unusedSimpArgs false
set_option linter.unusedSectionVars false
set_option linter.constructorNameAsVariable false
set_option linter.unnecessarySimpa false
set_option maxRecDepth 100000
namespace Go.Proofs
open Go Av
def JM4:Dat:=.agg [.int .i64 1,.str [105,100],.int .i64 1,.int .i64 2,.int .i64 0,.int .i64 999,.int .i64 0,.list 1 [],.list 7 [],.list 11 [],.list 6 []]
def JDE:Dat:=.agg [.int .i64 9,.int .i64 0,.int .i64 0,.int .i64 0,.list 1 [],.list 7 [],.list 11 [.agg [.int .i64 1,.str [115,107,117],.int .i64 1,.int .i64 2,.int .i64 0,.int .i64 9,.int .i64 0,.list 1 [],.list 7 [],.list 11 [],.list 6 []],.agg [.int .i64 2,.str [113,116,121],.int .i64 1,.int .i64 2,.int .i64 0,.int .i64 9,.int .i64 0,.list 1 [],.list 7 [],.list 11 [],.list 6 []]]]
def JM5:Dat:=.agg [.int .i64 4,.str [105,116,101,109,115],.int .i64 1,.int .i64 8,.int .i64 0,.int .i64 4,.int .i64 0,.list 1 [],.list 7 [JDE],.list 11 [],.list 6 []]
def JM6:Dat:=.agg [.int .i64 1,.int .i64 0,.int .i64 0,.str [],.list 6 [],.list 7 []]
def JM7:Dat:=.list 11 [JM4,.agg [.int .i64 2,.str [97,109,111,117,110,116],.int .i64 1,.int .i64 2,.int .i64 0,.int .i64 100,.int .i64 0,.list 1 [],.list 7 [],.list 11 [],.list 6 []],.agg [.int .i64 3,.str [107,105,110,100],.int .i64 1,.int .i64 4,.int .i64 0,.int .i64 0,.int .i64 0,.list 1 [.str [97],.str [98],.str [99]],.list 7 [],.list 11 [],.list 6 []],JM5,.agg [.int .i64 5,.str [110,111,116,101],.int .i64 2,.int .i64 4,.int .i64 0,.int .i64 20,.int .i64 0,.list 1 [],.list 7 [],.list 11 [],.list 6 []],.agg [.int .i64 6,.str [102,108,97,103],.int .i64 3,.int .i64 1,.int .i64 0,.int .i64 0,.int .i64 0,.list 1 [],.list 7 [],.list 11 [],.list 6 [JM6]]]
def JCB:Dat:=.agg [.str [111,114,100,101,114],.int .i64 1,.int .i64 9,.int .i64 0,.int .i64 0,.int .i64 0,.list 1 [],.list 7 [],JM7]
def JQn:Dat:=.agg [.int .i64 2,.str [107,105,110,100],.int .i64 1,.int .i64 4,.int .i64 0,.int .i64 0,.int .i64 0,.list 1 [.str [97],.str [98],.str [99]],.list 7 [],.list 11 [],.list 6 []]
def JQo:Dat:=.list 11 [JM4,JQn,.agg [.int .i64 3,.str [115,107,117],.int .i64 1,.int .i64 2,.int .i64 0,.int .i64 9,.int .i64 0,.list 1 [],.list 7 [],.list 11 [],.list 6 []],.agg [.int .i64 4,.str [113,116,121],.int .i64 1,.int .i64 2,.int .i64 0,.int .i64 9,.int .i64 0,.list 1 [],.list 7 [],.list 11 [],.list 6 []]]
def JAK:Dat:=.agg [.str [108,105,110,101],.int .i64 1,.int .i64 9,.int .i64 0,.int .i64 0,.int .i64 0,.list 1 [],.list 7 [],JQo]
def JQp:Dat:=.list 11 [JM4,JQn,.agg [.int .i64 3,.str [116,111,116,97,108],.int .i64 1,.int .i64 2,.int .i64 0,.int .i64 100000,.int .i64 0,.list 1 [],.list 7 [],.list 11 [],.list 6 []],.agg [.int .i64 4,.str [99,111,117,110,116],.int .i64 1,.int .i64 2,.int .i64 0,.int .i64 256,.int .i64 0,.list 1 [],.list 7 [],.list 11 [],.list 6 []]]
def ZA:Dat:=.agg [.str [98,105,108,108],.int .i64 1,.int .i64 9,.int .i64 0,.int .i64 0,.int .i64 0,.list 1 [],.list 7 [],JQp]
def JM8:Dat:=.list 11 [.agg [.int .i64 1,.str [111,107],.int .i64 1,.int .i64 1,.int .i64 0,.int .i64 0,.int .i64 0,.list 1 [],.list 7 [],.list 11 [],.list 6 []],.agg [.int .i64 2,.str [99,111,100,101],.int .i64 1,.int .i64 2,.int .i64 0,.int .i64 99,.int .i64 0,.list 1 [],.list 7 [],.list 11 [],.list 6 []]]
def ZB:Dat:=.agg [.str [97,110,115,119,101,114],.int .i64 1,.int .i64 9,.int .i64 0,.int .i64 0,.int .i64 0,.list 1 [],.list 7 [],JM8]
def JBZ:Dat:=.list 7 [.agg [.str [105,110,95,97],.int .i64 1,.str [111,114,100,101,114],.int .i64 1,.int .i64 1,.int .i64 0,.list 1 []],.agg [.str [105,110,95,98],.int .i64 1,.str [111,114,100,101,114],.int .i64 1,.int .i64 4,.int .i64 0,.list 1 []],.agg [.str [97,103,97,105,110],.int .i64 3,.str [111,114,100,101,114],.int .i64 1,.int .i64 1,.int .i64 0,.list 1 []],.agg [.str [111,117,116,95,111,114,100,101,114],.int .i64 2,.str [111,114,100,101,114],.int .i64 1,.int .i64 4,.int .i64 0,.list 1 []],.agg [.str [111,117,116,95,108,105,110,101],.int .i64 2,.str [108,105,110,101],.int .i64 1,.int .i64 2,.int .i64 44,.list 1 []],.agg [.str [111,117,116,95,98,105,108,108],.int .i64 2,.str [98,105,108,108],.int .i64 1,.int .i64 1,.int .i64 0,.list 1 []]]
def JER:Dat:=.list 4 [.agg [.str [112,97,121],.str [98,105,108,108],.str [97,110,115,119,101,114],.bool true],.agg [.str [115,116,111,99,107],.str [108,105,110,101],.str [97,110,115,119,101,114],.bool true],.agg [.str [109,97,105,108],.str [98,105,108,108],.str [97,110,115,119,101,114],.bool false]]
def JM9:Dat:=.agg [.int .i64 2,.int .i64 0,.str [98,111,100,121,46,97,109,111,117,110,116],.list 6 [],.list 5 []]
def JIY:Dat:=.agg [.int .i64 2,.int .i64 50,.int .i64 0,.str [],.list 6 [],.list 7 []]
def JNA:Dat:=.agg [.int .i64 1,.int .i64 0,.str [],.list 6 [JIY],.list 5 []]
def XS:Dat:=.agg [.int .i64 8,.int .i64 0,.str [],.list 6 [],.list 5 [JM9,JNA]]
def JNB:Dat:=.agg [.str [102],.int .i64 1,.int .i64 0,.int .i64 0,.int .i64 0,.str [108,97,114,103,101],.str [],.list 5 [XS],.list 6 [],.list 2 [],.list 2 []]
def JNC:Dat:=.list 2 [.agg [.list 5 [XS],.list 11 [.agg [.str [],.int .i64 13,.int .i64 0,.int .i64 0,.int .i64 0,.str [111,117,116,95,111,114,100,101,114],.str [],.list 5 [],.list 6 [],.list 2 [],.list 2 []]]],.agg [.list 5 [],.list 11 []]]
def JAf:Dat:=.agg [.int .i64 1,.list 9 [JCB,JAK,ZA,ZB],JBZ,JER,.list 3 [.agg [.str [109,97,105,110],.str [105,110,95,97],.list 11 [JNB,.agg [.str [99],.int .i64 11,.int .i64 0,.int .i64 0,.int .i64 0,.str [],.str [],.list 5 [],.list 6 [],.list 2 [],JNC],.agg [.str [],.int .i64 14,.int .i64 0,.int .i64 0,.int .i64 0,.str [110,111],.str [],.list 5 [],.list 6 [],.list 2 [],.list 2 []]]]]]
def JND:Dat:=.agg [.int .i64 0,.list 1 [.int .i64 0],.str [102],.int .i64 1,.int .i64 0,.int .i64 0,.int .i64 0,.str [108,97,114,103,101],.str [],.list 5 [XS],.list 6 [],.nil 2,.nil 2]
def X8:Dat:=.agg [.int .i64 9,.int .i64 0,.int .i64 0,.int .i64 0,.list 1 [],.list 7 [],JM7]
def JNE:Dat:=.agg [.int .i64 4,.int .i64 0,.int .i64 0,.int .i64 0,.list 1 [.str [97],.str [98],.str [99]],.list 7 [],.list 11 []]
def JGF:Dat:=.agg [.int .i64 8,.int .i64 0,.int .i64 4,.int .i64 0,.list 1 [],.list 7 [JDE],.list 11 []]
def JNF:Dat:=.agg [.int .i64 1,.int .i64 0,.int .i64 0,.int .i64 0,.list 1 [],.list 7 [],.list 11 []]
def JBa:Dat:=.agg [.int .i64 9,.int .i64 0,.int .i64 0,.int .i64 0,.list 1 [],.list 7 [],JQo]
def JBb:Dat:=.agg [.int .i64 9,.int .i64 0,.int .i64 0,.int .i64 0,.list 1 [],.list 7 [],JQp]
def JCq:Dat:=.agg [.int .i64 9,.int .i64 0,.int .i64 0,.int .i64 0,.list 1 [],.list 7 [],JM8]
def JES:Dat:=.agg [.int .i64 9,.int .i64 0,.int .i64 0,.int .i64 0,.list 1 [],.list 7 [],.list 11 [.agg [.int .i64 1,.str [98,111,100,121],.int .i64 1,.int .i64 9,.int .i64 0,.int .i64 0,.int .i64 0,.list 1 [],.list 7 [],JM7,.list 6 []]]]
def JNG:Dat:=.agg [.int .i64 1,.list 9 [JCB,JAK,ZA,ZB],JBZ,JER,.list 3 [.agg [.str [109,97,105,110],.str [105,110,95,97],.list 11 [JNB,.agg [.str [99],.int .i64 11,.int .i64 0,.int .i64 0,.int .i64 0,.str [],.str [],.list 5 [],.list 6 [],.list 2 [],.list 2 [.agg [.list 5 [XS],.list 11 [.agg [.str [115,48,95,49,95,48,95,48],.int .i64 13,.int .i64 0,.int .i64 0,.int .i64 0,.str [111,117,116,95,111,114,100,101,114],.str [],.list 5 [],.list 6 [],.list 2 [],.list 2 []]]],.agg [.list 5 [],.list 11 []]]],.agg [.str [115,48,95,50],.int .i64 14,.int .i64 0,.int .i64 0,.int .i64 0,.str [110,111],.str [],.list 5 [],.list 6 [],.list 2 [],.list 2 []]]]]]
def JNH:Dat:=.list 6 [.agg [.int .i64 1,.int .i64 1,.int .i64 0,.str [],.list 6 [],.list 7 []]]
def JNI:Dat:=.agg [.str [99],.int .i64 11,.int .i64 0,.int .i64 (-1),.int .i64 0,.int .i64 0,.int .i64 0,.str [],.int .i64 0,.int .i64 0,.int .i64 0,.int .i64 0,.nil 1,.nil 7,.nil 11,.nil 7,.list 5 [XS,.agg [.int .i64 1,.int .i64 0,.str [],JNH,.nil 5]],.list 6 [],.nil 2,.list 1 [.int .i64 4,.int .i64 3]]
def JNJ:Dat:=.agg [.str [99],.int .i64 11,.int .i64 0,.int .i64 (-1),.int .i64 0,.int .i64 0,.int .i64 0,.str [],.int .i64 0,.int .i64 0,.int .i64 0,.int .i64 0,.list 1 [],.list 7 [],.list 11 [],.list 7 [],.list 5 [XS,.agg [.int .i64 1,.int .i64 0,.str [],JNH,.list 5 []]],.list 6 [],.list 2 [],.list 1 [.int .i64 4,.int .i64 3]]
def JNK:Dat:=.agg [.int .i64 1,.list 9 [JCB,JAK,ZA,ZB],JBZ,JER,.list 20 [.agg [.str [105,110,95,97],.int .i64 21,.int .i64 0,.int .i64 0,.int .i64 0,.int .i64 0,.int .i64 0,.str [105,110,95,97],.int .i64 0,.int .i64 0,.int .i64 0,.int .i64 0,.list 1 [],.list 7 [],.list 11 [],.list 7 [],.list 5 [],.list 6 [],.list 2 [],.list 1 [.int .i64 1]],.agg [.str [102],.int .i64 1,.int .i64 0,.int .i64 (-1),.int .i64 0,.int .i64 0,.int .i64 0,.str [108,97,114,103,101],.int .i64 0,.int .i64 0,.int .i64 0,.int .i64 0,.list 1 [],.list 7 [],.list 11 [],.list 7 [],.list 5 [XS],.list 6 [],.list 2 [],.list 1 [.int .i64 2]],JNJ,.agg [.str [115,48,95,50],.int .i64 14,.int .i64 0,.int .i64 (-1),.int .i64 0,.int .i64 0,.int .i64 0,.str [110,111],.int .i64 0,.int .i64 0,.int .i64 0,.int .i64 0,.list 1 [],.list 7 [],.list 11 [],.list 7 [],.list 5 [],.list 6 [],.list 2 [],.list 1 []],.agg [.str [111,117,116,95,111,114,100,101,114],.int .i64 22,.int .i64 0,.int .i64 (-1),.int .i64 0,.int .i64 0,.int .i64 0,.str [111,117,116,95,111,114,100,101,114],.int .i64 0,.int .i64 0,.int .i64 0,.int .i64 0,.list 1 [],.list 7 [],.list 11 [],.list 7 [],.list 5 [],.list 6 [],.list 2 [],.list 1 []]]]
def JQq:Tbl:=[
 (95,[.int .i64 1],.d (.list 9 [JCB,JAK,ZA,ZB])),
 (53,[.int .i64 1],.d (.agg [.int .i64 1,.list 9 [JCB,JAK,ZA,ZB],JBZ,JER,.list 3 []])),
 (20,[],.d JAf),
 (90,[XS],.d XS)]
theorem JNL:YQ Tryz.prog X4 K27 JQq=true:=kR
def JNM:Ext:=Yh JQq (X4)
theorem JNN:Ui Tryz.prog JNM:=UH X4_ok JNL
def JQr:Tbl:=[
 (39,[JAf],.d (.list 13 [JND,.agg [.int .i64 0,.list 1 [.int .i64 1],.str [99],.int .i64 11,.int .i64 0,.int .i64 0,.int .i64 0,.str [],.str [],.nil 5,.list 6 [],.nil 2,.list 2 [.agg [.list 5 [XS],.list 11 [.agg [.str [],.int .i64 13,.int .i64 0,.int .i64 0,.int .i64 0,.str [111,117,116,95,111,114,100,101,114],.str [],.nil 5,.list 6 [],.nil 2,.nil 2]]],.agg [.nil 5,.nil 11]]],.agg [.int .i64 0,.list 1 [.int .i64 1,.int .i64 0,.int .i64 0],.str [],.int .i64 13,.int .i64 0,.int .i64 0,.int .i64 0,.str [111,117,116,95,111,114,100,101,114],.str [],.nil 5,.list 6 [],.nil 2,.nil 2],.agg [.int .i64 0,.list 1 [.int .i64 2],.str [],.int .i64 14,.int .i64 0,.int .i64 0,.int .i64 0,.str [110,111],.str [],.nil 5,.list 6 [],.nil 2,.nil 2]])),
 (317,[X8,.int .i64 0],.d (.int .i64 0)),
 (317,[X8,.int .i64 1],.d (.int .i64 0)),
 (317,[X8,.int .i64 2],.d (.int .i64 0))]
theorem JNO:YQ Tryz.prog JNM K27 JQr=true:=kR
def JNP:Ext:=Yh JQr JNM
theorem JNQ:Ui Tryz.prog JNP:=UH JNN JNO
def JQs:Tbl:=[
 (317,[X8,.int .i64 3],.d (.int .i64 0)),
 (317,[X8,.int .i64 4],.d (.int .i64 0)),
 (317,[X8,.int .i64 5],.d (.int .i64 0)),
 (270,[X8],.d (.int .i64 0))]
theorem JNR:YQ Tryz.prog JNP K27 JQs=true:=kR
def JNS:Ext:=Yh JQs JNP
theorem JNT:Ui Tryz.prog JNS:=UH JNQ JNR
def JQt:Tbl:=[
 (270,[.agg [.int .i64 2,.int .i64 0,.int .i64 999,.int .i64 0,.list 1 [],.list 7 [],.list 11 []]],.d (.int .i64 0)),
 (318,[.agg [.int .i64 4,.int .i64 0,.int .i64 0,.str [97],.list 6 [],.list 7 []]],.d (.int .i64 0)),
 (318,[.agg [.int .i64 4,.int .i64 0,.int .i64 0,.str [98],.list 6 [],.list 7 []]],.d (.int .i64 0)),
 (318,[.agg [.int .i64 4,.int .i64 0,.int .i64 0,.str [99],.list 6 [],.list 7 []]],.d (.int .i64 0))]
theorem JNU:YQ Tryz.prog JNS K27 JQt=true:=kR
def JNV:Ext:=Yh JQt JNS
theorem JNW:Ui Tryz.prog JNV:=UH JNT JNU
end Go.Proofs
