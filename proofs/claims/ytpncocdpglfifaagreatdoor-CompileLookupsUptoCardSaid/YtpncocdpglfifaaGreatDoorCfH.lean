/- Part H of a proof. -/
import Derived.Test.YtpncocdpglfifaaGreatDoorCfG
import Derived.Test.YtpncocdpglfifaaGreatDoorCfC
import Derived.Test.YtpncocdpglfifaaGreatDoorCfA
set_option linter.unusedVariables false
set_option linter.unusedSimpArgs false
set_option linter.unusedSectionVars false
set_option linter.constructorNameAsVariable false
set_option linter.unnecessarySimpa false
set_option maxRecDepth 100000
namespace Go.Proofs
open Go Av
def JN0:Tbl:=[
 (91,[.str [111,117,116,95,108,105,110,101]],.d (.bool true)),
 (91,[.str [111,117,116,95,98,105,108,108]],.d (.bool true)),
 (50,[JAi],.d (.list 4 [])),
 (156,[JBd,.int .i64 44],.d (.int .i64 0))]
theorem JLD:YS Tryz.prog JIl K27 JN0=true:=kR
def JIm:Ext:=Ym JN0 JIl
theorem JLE:Um Tryz.prog JIm:=UK JLC JLD
def JN1:Tbl:=[
 (97,[.agg [.int .i64 2,.int .i64 44,.list 1 []],JAN],.d (.int .i64 0)),
 (98,[JAi],.d (.list 16 [.agg [.int .i64 0,.list 1 [.int .i64 0],.str [102],.int .i64 1,.int .i64 0,.int .i64 0,.int .i64 0,.str [108,97,114,103,101],.str [],.list 5 [XX],.list 6 [],.list 2 [],.list 2 [],.int .i64 0,.int .i64 0,.bool false],.agg [.int .i64 0,.list 1 [.int .i64 1],.str [99],.int .i64 11,.int .i64 0,.int .i64 0,.int .i64 0,.str [],.str [],.list 5 [],.list 6 [],.list 2 [],JNL,.int .i64 0,.int .i64 0,.bool false],.agg [.int .i64 0,.list 1 [.int .i64 1,.int .i64 0,.int .i64 0],.str [],.int .i64 13,.int .i64 0,.int .i64 0,.int .i64 0,.str [111,117,116,95,111,114,100,101,114],.str [],.list 5 [],.list 6 [],.list 2 [],.list 2 [],.int .i64 0,.int .i64 (-1),.bool false],.agg [.int .i64 0,.list 1 [.int .i64 2],.str [],.int .i64 14,.int .i64 0,.int .i64 0,.int .i64 0,.str [110,111],.str [],.list 5 [],.list 6 [],.list 2 [],.list 2 [],.int .i64 0,.int .i64 (-1),.bool false]])),
 (29,[JDH],.d JDH),
 (29,[JGP],.d JGP)]
theorem JLF:YS Tryz.prog JIm K27 JN1=true:=kR
def JIn:Ext:=Ym JN1 JIm
theorem JLG:Um Tryz.prog JIn:=UK JLE JLF
def JN2:Tbl:=[
 (52,[JNE],.d JNE),
 (29,[YA],.d YA),
 (166,[YA],.d JEX),
 (293,[.str [98,111,100,121,46,97,109,111,117,110,116],.str [46,91,63]],.d (.int .i64 4))]
theorem JLH:YS Tryz.prog JIn K27 JN2=true:=kR
def JIo:Ext:=Ym JN2 JIn
theorem JLI:Um Tryz.prog JIo:=UK JLG JLH
def JN3:Tbl:=[
 (251,[.str [46,98,111,100,121,46,97,109,111,117,110,116]],.tup [.d (.agg [.int .i64 1,.int .i64 0,.str [98,111,100,121]]),.d (.str [46,97,109,111,117,110,116]),.d (.bool true)]),
 (293,[.str [97,109,111,117,110,116],.str [46,91,63]],.d (.int .i64 (-1))),
 (251,[.str [46,97,109,111,117,110,116]],.tup [.d (.agg [.int .i64 1,.int .i64 0,.str [97,109,111,117,110,116]]),.d (.str []),.d (.bool true)]),
 (320,[JNI],.d (.int .i64 0))]
theorem JLJ:YS Tryz.prog JIo K27 JN3=true:=kR
def JIp:Ext:=Ym JN3 JIo
theorem JLK:Um Tryz.prog JIp:=UK JLI JLJ
end Go.Proofs
