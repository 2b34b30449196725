/- Part E of a proof. -/
import Derived.Test.YtpncocdpglfifaaGreatDoorCfD
import Derived.Test.YtpncocdpglfifaaGreatDoorCfC
import Derived.Test.YtpncocdpglfifaaGreatDoorCfA
set_option linter.unusedVariables false
set_option linter.unusedSimpArgs false
set_option linter.unusedSectionVars false
set_option linter.constructorNameAsVariable false
set_option linter.unnecessarySimpa false
set_option maxRecDepth 100000
namespace Go.Proofs
open Go Av
def JND:Dat:=.agg [.int .i64 1,.str [105,100],.int .i64 1,.int .i64 2,.int .i64 0,.int .i64 999,.int .i64 0,.list 1 [],.list 7 [],.list 11 [],.list 6 []]
def JDH:Dat:=.agg [.int .i64 9,.int .i64 0,.int .i64 0,.int .i64 0,.list 1 [],.list 7 [],.list 11 [.agg [.int .i64 1,.str [115,107,117],.int .i64 1,.int .i64 2,.int .i64 0,.int .i64 9,.int .i64 0,.list 1 [],.list 7 [],.list 11 [],.list 6 []],.agg [.int .i64 2,.str [113,116,121],.int .i64 1,.int .i64 2,.int .i64 0,.int .i64 9,.int .i64 0,.list 1 [],.list 7 [],.list 11 [],.list 6 []]]]
def JNE:Dat:=.agg [.int .i64 4,.str [105,116,101,109,115],.int .i64 1,.int .i64 8,.int .i64 0,.int .i64 4,.int .i64 0,.list 1 [],.list 7 [JDH],.list 11 [],.list 6 []]
def JNF:Dat:=.agg [.int .i64 1,.int .i64 0,.int .i64 0,.str [],.list 6 [],.list 7 []]
def JNG:Dat:=.list 11 [JND,.agg [.int .i64 2,.str [97,109,111,117,110,116],.int .i64 1,.int .i64 2,.int .i64 0,.int .i64 100,.int .i64 0,.list 1 [],.list 7 [],.list 11 [],.list 6 []],.agg [.int .i64 3,.str [107,105,110,100],.int .i64 1,.int .i64 4,.int .i64 0,.int .i64 0,.int .i64 0,.list 1 [.str [97],.str [98],.str [99]],.list 7 [],.list 11 [],.list 6 []],JNE,.agg [.int .i64 5,.str [110,111,116,101],.int .i64 2,.int .i64 4,.int .i64 0,.int .i64 20,.int .i64 0,.list 1 [],.list 7 [],.list 11 [],.list 6 []],.agg [.int .i64 6,.str [102,108,97,103],.int .i64 3,.int .i64 1,.int .i64 0,.int .i64 0,.int .i64 0,.list 1 [],.list 7 [],.list 11 [],.list 6 [JNF]]]
def JCE:Dat:=.agg [.str [111,114,100,101,114],.int .i64 1,.int .i64 9,.int .i64 0,.int .i64 0,.int .i64 0,.list 1 [],.list 7 [],JNG]
def JRA:Dat:=.agg [.int .i64 2,.str [107,105,110,100],.int .i64 1,.int .i64 4,.int .i64 0,.int .i64 0,.int .i64 0,.list 1 [.str [97],.str [98],.str [99]],.list 7 [],.list 11 [],.list 6 []]
def JRB:Dat:=.list 11 [JND,JRA,.agg [.int .i64 3,.str [115,107,117],.int .i64 1,.int .i64 2,.int .i64 0,.int .i64 9,.int .i64 0,.list 1 [],.list 7 [],.list 11 [],.list 6 []],.agg [.int .i64 4,.str [113,116,121],.int .i64 1,.int .i64 2,.int .i64 0,.int .i64 9,.int .i64 0,.list 1 [],.list 7 [],.list 11 [],.list 6 []]]
def JAN:Dat:=.agg [.str [108,105,110,101],.int .i64 1,.int .i64 9,.int .i64 0,.int .i64 0,.int .i64 0,.list 1 [],.list 7 [],JRB]
def JRC:Dat:=.list 11 [JND,JRA,.agg [.int .i64 3,.str [116,111,116,97,108],.int .i64 1,.int .i64 2,.int .i64 0,.int .i64 100000,.int .i64 0,.list 1 [],.list 7 [],.list 11 [],.list 6 []],.agg [.int .i64 4,.str [99,111,117,110,116],.int .i64 1,.int .i64 2,.int .i64 0,.int .i64 256,.int .i64 0,.list 1 [],.list 7 [],.list 11 [],.list 6 []]]
def ZC:Dat:=.agg [.str [98,105,108,108],.int .i64 1,.int .i64 9,.int .i64 0,.int .i64 0,.int .i64 0,.list 1 [],.list 7 [],JRC]
def JNH:Dat:=.list 11 [.agg [.int .i64 1,.str [111,107],.int .i64 1,.int .i64 1,.int .i64 0,.int .i64 0,.int .i64 0,.list 1 [],.list 7 [],.list 11 [],.list 6 []],.agg [.int .i64 2,.str [99,111,100,101],.int .i64 1,.int .i64 2,.int .i64 0,.int .i64 99,.int .i64 0,.list 1 [],.list 7 [],.list 11 [],.list 6 []]]
def ZD:Dat:=.agg [.str [97,110,115,119,101,114],.int .i64 1,.int .i64 9,.int .i64 0,.int .i64 0,.int .i64 0,.list 1 [],.list 7 [],JNH]
def JBc:Dat:=.list 7 [.agg [.str [105,110,95,97],.int .i64 1,.str [111,114,100,101,114],.int .i64 1,.int .i64 1,.int .i64 0,.list 1 []],.agg [.str [105,110,95,98],.int .i64 1,.str [111,114,100,101,114],.int .i64 1,.int .i64 4,.int .i64 0,.list 1 []],.agg [.str [97,103,97,105,110],.int .i64 3,.str [111,114,100,101,114],.int .i64 1,.int .i64 1,.int .i64 0,.list 1 []],.agg [.str [111,117,116,95,111,114,100,101,114],.int .i64 2,.str [111,114,100,101,114],.int .i64 1,.int .i64 4,.int .i64 0,.list 1 []],.agg [.str [111,117,116,95,108,105,110,101],.int .i64 2,.str [108,105,110,101],.int .i64 1,.int .i64 2,.int .i64 44,.list 1 []],.agg [.str [111,117,116,95,98,105,108,108],.int .i64 2,.str [98,105,108,108],.int .i64 1,.int .i64 1,.int .i64 0,.list 1 []]]
def JEW:Dat:=.list 4 [.agg [.str [112,97,121],.str [98,105,108,108],.str [97,110,115,119,101,114],.bool true],.agg [.str [115,116,111,99,107],.str [108,105,110,101],.str [97,110,115,119,101,114],.bool true],.agg [.str [109,97,105,108],.str [98,105,108,108],.str [97,110,115,119,101,114],.bool false]]
def JNI:Dat:=.agg [.int .i64 2,.int .i64 0,.str [98,111,100,121,46,97,109,111,117,110,116],.list 6 [],.list 5 []]
def JIj:Dat:=.agg [.int .i64 2,.int .i64 50,.int .i64 0,.str [],.list 6 [],.list 7 []]
def JNJ:Dat:=.agg [.int .i64 1,.int .i64 0,.str [],.list 6 [JIj],.list 5 []]
def XX:Dat:=.agg [.int .i64 8,.int .i64 0,.str [],.list 6 [],.list 5 [JNI,JNJ]]
def JNK:Dat:=.agg [.str [102],.int .i64 1,.int .i64 0,.int .i64 0,.int .i64 0,.str [108,97,114,103,101],.str [],.list 5 [XX],.list 6 [],.list 2 [],.list 2 []]
def JNL:Dat:=.list 2 [.agg [.list 5 [XX],.list 11 [.agg [.str [],.int .i64 13,.int .i64 0,.int .i64 0,.int .i64 0,.str [111,117,116,95,111,114,100,101,114],.str [],.list 5 [],.list 6 [],.list 2 [],.list 2 []]]],.agg [.list 5 [],.list 11 []]]
def JAi:Dat:=.agg [.int .i64 1,.list 9 [JCE,JAN,ZC,ZD],JBc,JEW,.list 3 [.agg [.str [109,97,105,110],.str [105,110,95,97],.list 11 [JNK,.agg [.str [99],.int .i64 11,.int .i64 0,.int .i64 0,.int .i64 0,.str [],.str [],.list 5 [],.list 6 [],.list 2 [],JNL],.agg [.str [],.int .i64 14,.int .i64 0,.int .i64 0,.int .i64 0,.str [110,111],.str [],.list 5 [],.list 6 [],.list 2 [],.list 2 []]]]]]
def JNM:Dat:=.agg [.int .i64 0,.list 1 [.int .i64 0],.str [102],.int .i64 1,.int .i64 0,.int .i64 0,.int .i64 0,.str [108,97,114,103,101],.str [],.list 5 [XX],.list 6 [],.nil 2,.nil 2]
def YA:Dat:=.agg [.int .i64 9,.int .i64 0,.int .i64 0,.int .i64 0,.list 1 [],.list 7 [],JNG]
def JNN:Dat:=.agg [.int .i64 4,.int .i64 0,.int .i64 0,.int .i64 0,.list 1 [.str [97],.str [98],.str [99]],.list 7 [],.list 11 []]
def JGP:Dat:=.agg [.int .i64 8,.int .i64 0,.int .i64 4,.int .i64 0,.list 1 [],.list 7 [JDH],.list 11 []]
def JNO:Dat:=.agg [.int .i64 1,.int .i64 0,.int .i64 0,.int .i64 0,.list 1 [],.list 7 [],.list 11 []]
def JBd:Dat:=.agg [.int .i64 9,.int .i64 0,.int .i64 0,.int .i64 0,.list 1 [],.list 7 [],JRB]
def JBe:Dat:=.agg [.int .i64 9,.int .i64 0,.int .i64 0,.int .i64 0,.list 1 [],.list 7 [],JRC]
def JCr:Dat:=.agg [.int .i64 9,.int .i64 0,.int .i64 0,.int .i64 0,.list 1 [],.list 7 [],JNH]
def JEX:Dat:=.agg [.int .i64 9,.int .i64 0,.int .i64 0,.int .i64 0,.list 1 [],.list 7 [],.list 11 [.agg [.int .i64 1,.str [98,111,100,121],.int .i64 1,.int .i64 9,.int .i64 0,.int .i64 0,.int .i64 0,.list 1 [],.list 7 [],JNG,.list 6 []]]]
def JNP:Dat:=.agg [.int .i64 1,.list 9 [JCE,JAN,ZC,ZD],JBc,JEW,.list 3 [.agg [.str [109,97,105,110],.str [105,110,95,97],.list 11 [JNK,.agg [.str [99],.int .i64 11,.int .i64 0,.int .i64 0,.int .i64 0,.str [],.str [],.list 5 [],.list 6 [],.list 2 [],.list 2 [.agg [.list 5 [XX],.list 11 [.agg [.str [115,48,95,49,95,48,95,48],.int .i64 13,.int .i64 0,.int .i64 0,.int .i64 0,.str [111,117,116,95,111,114,100,101,114],.str [],.list 5 [],.list 6 [],.list 2 [],.list 2 []]]],.agg [.list 5 [],.list 11 []]]],.agg [.str [115,48,95,50],.int .i64 14,.int .i64 0,.int .i64 0,.int .i64 0,.str [110,111],.str [],.list 5 [],.list 6 [],.list 2 [],.list 2 []]]]]]
def JNQ:Dat:=.list 6 [.agg [.int .i64 1,.int .i64 1,.int .i64 0,.str [],.list 6 [],.list 7 []]]
def JNR:Dat:=.agg [.str [99],.int .i64 11,.int .i64 0,.int .i64 (-1),.int .i64 0,.int .i64 0,.int .i64 0,.str [],.int .i64 0,.int .i64 0,.int .i64 0,.int .i64 0,.nil 1,.nil 7,.nil 11,.nil 7,.list 5 [XX,.agg [.int .i64 1,.int .i64 0,.str [],JNQ,.nil 5]],.list 6 [],.nil 2,.list 1 [.int .i64 4,.int .i64 3]]
def JNS:Dat:=.agg [.str [99],.int .i64 11,.int .i64 0,.int .i64 (-1),.int .i64 0,.int .i64 0,.int .i64 0,.str [],.int .i64 0,.int .i64 0,.int .i64 0,.int .i64 0,.list 1 [],.list 7 [],.list 11 [],.list 7 [],.list 5 [XX,.agg [.int .i64 1,.int .i64 0,.str [],JNQ,.list 5 []]],.list 6 [],.list 2 [],.list 1 [.int .i64 4,.int .i64 3]]
def JNT:Dat:=.agg [.int .i64 1,.list 9 [JCE,JAN,ZC,ZD],JBc,JEW,.list 20 [.agg [.str [105,110,95,97],.int .i64 21,.int .i64 0,.int .i64 0,.int .i64 0,.int .i64 0,.int .i64 0,.str [105,110,95,97],.int .i64 0,.int .i64 0,.int .i64 0,.int .i64 0,.list 1 [],.list 7 [],.list 11 [],.list 7 [],.list 5 [],.list 6 [],.list 2 [],.list 1 [.int .i64 1]],.agg [.str [102],.int .i64 1,.int .i64 0,.int .i64 (-1),.int .i64 0,.int .i64 0,.int .i64 0,.str [108,97,114,103,101],.int .i64 0,.int .i64 0,.int .i64 0,.int .i64 0,.list 1 [],.list 7 [],.list 11 [],.list 7 [],.list 5 [XX],.list 6 [],.list 2 [],.list 1 [.int .i64 2]],JNS,.agg [.str [115,48,95,50],.int .i64 14,.int .i64 0,.int .i64 (-1),.int .i64 0,.int .i64 0,.int .i64 0,.str [110,111],.int .i64 0,.int .i64 0,.int .i64 0,.int .i64 0,.list 1 [],.list 7 [],.list 11 [],.list 7 [],.list 5 [],.list 6 [],.list 2 [],.list 1 []],.agg [.str [111,117,116,95,111,114,100,101,114],.int .i64 22,.int .i64 0,.int .i64 (-1),.int .i64 0,.int .i64 0,.int .i64 0,.str [111,117,116,95,111,114,100,101,114],.int .i64 0,.int .i64 0,.int .i64 0,.int .i64 0,.list 1 [],.list 7 [],.list 11 [],.list 7 [],.list 5 [],.list 6 [],.list 2 [],.list 1 []]]]
def JRD:Tbl:=[
 (86,[.int .i64 1],.d (.list 9 [JCE,JAN,ZC,ZD])),
 (47,[.int .i64 1],.d (.agg [.int .i64 1,.list 9 [JCE,JAN,ZC,ZD],JBc,JEW,.list 3 []])),
 (24,[],.d JAi),
 (81,[XX],.d XX)]
theorem JNU:YS Tryz.prog X4 K27 JRD=true:=kR
def JNV:Ext:=Ym JRD (X4)
theorem JNW:Um Tryz.prog JNV:=UK X4_ok JNU
def JRE:Tbl:=[
 (34,[JAi],.d (.list 13 [JNM,.agg [.int .i64 0,.list 1 [.int .i64 1],.str [99],.int .i64 11,.int .i64 0,.int .i64 0,.int .i64 0,.str [],.str [],.nil 5,.list 6 [],.nil 2,.list 2 [.agg [.list 5 [XX],.list 11 [.agg [.str [],.int .i64 13,.int .i64 0,.int .i64 0,.int .i64 0,.str [111,117,116,95,111,114,100,101,114],.str [],.nil 5,.list 6 [],.nil 2,.nil 2]]],.agg [.nil 5,.nil 11]]],.agg [.int .i64 0,.list 1 [.int .i64 1,.int .i64 0,.int .i64 0],.str [],.int .i64 13,.int .i64 0,.int .i64 0,.int .i64 0,.str [111,117,116,95,111,114,100,101,114],.str [],.nil 5,.list 6 [],.nil 2,.nil 2],.agg [.int .i64 0,.list 1 [.int .i64 2],.str [],.int .i64 14,.int .i64 0,.int .i64 0,.int .i64 0,.str [110,111],.str [],.nil 5,.list 6 [],.nil 2,.nil 2]])),
 (308,[YA,.int .i64 0],.d (.int .i64 0)),
 (308,[YA,.int .i64 1],.d (.int .i64 0)),
 (308,[YA,.int .i64 2],.d (.int .i64 0))]
theorem JNX:YS Tryz.prog JNV K27 JRE=true:=kR
def JNY:Ext:=Ym JRE JNV
theorem JNZ:Um Tryz.prog JNY:=UK JNW JNX
def JRF:Tbl:=[
 (308,[YA,.int .i64 3],.d (.int .i64 0)),
 (308,[YA,.int .i64 4],.d (.int .i64 0)),
 (308,[YA,.int .i64 5],.d (.int .i64 0)),
 (261,[YA],.d (.int .i64 0))]
theorem JNa:YS Tryz.prog JNY K27 JRF=true:=kR
def JNb:Ext:=Ym JRF JNY
theorem JNc:Um Tryz.prog JNb:=UK JNZ JNa
def JRG:Tbl:=[
 (261,[.agg [.int .i64 2,.int .i64 0,.int .i64 999,.int .i64 0,.list 1 [],.list 7 [],.list 11 []]],.d (.int .i64 0)),
 (309,[.agg [.int .i64 4,.int .i64 0,.int .i64 0,.str [97],.list 6 [],.list 7 []]],.d (.int .i64 0)),
 (309,[.agg [.int .i64 4,.int .i64 0,.int .i64 0,.str [98],.list 6 [],.list 7 []]],.d (.int .i64 0)),
 (309,[.agg [.int .i64 4,.int .i64 0,.int .i64 0,.str [99],.list 6 [],.list 7 []]],.d (.int .i64 0))]
theorem JNd:YS Tryz.prog JNb K27 JRG=true:=kR
def JNe:Ext:=Ym JRG JNb
theorem JNf:Um Tryz.prog JNe:=UK JNc JNd
end Go.Proofs
