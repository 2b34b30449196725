/- Part I of a proof. -/
import Derived.Test.YtpncocdpglfifaaGreatDoorCfH
import Derived.Test.YtpncocdpglfifaaGreatDoorCfC
import Derived.Test.YtpncocdpglfifaaGreatDoorCfA
set_option linter.unusedVariables false
set_option linter.unusedSimpArgs false
set_option linter.unusedSectionVars false
set_option linter.constructorNameAsVariable false
set_option linter.unnecessarySimpa false
set_option maxRecDepth 100000
namespace Go.Proofs
open Go Av
def JN4:Tbl:=[
 (309,[JIj],.d (.int .i64 0)),
 (358,[.list 6 [JIj]],.d (.int .i64 0)),
 (320,[JNJ],.d (.int .i64 0)),
 (280,[XX],.d (.int .i64 0))]
theorem JLL:YS Tryz.prog JIp K27 JN4=true:=kR
def JIq:Ext:=Ym JN4 JIp
theorem JLM:Um Tryz.prog JIq:=UK JLK JLL
def JN5:Tbl:=[
 (261,[JEX],.d (.int .i64 0)),
 (190,[JEX],.d (.int .i64 0)),
 (244,[XX,JEX],.tup [.d (.agg [.int .i64 1,.int .i64 0,.int .i64 0,.int .i64 0,.list 1 [],.list 7 [],.list 11 [],.bool false,.bool true]),.d (.int .i64 0)]),
 (204,[XX,.int .i64 0,JEX,.fn (.func 162) [] []],.tup [.d (.agg [.bool true,.bool true,.int .i64 0,.str [],.list 1 [],.str []]),.d JNO])]
theorem JLN:YS Tryz.prog JIq K27 JN5=true:=kR
def JIr:Ext:=Ym JN5 JIq
theorem JLO:Um Tryz.prog JIr:=UK JLM JLN
def JN6:Tbl:=[
 (51,[JAi],.d (.list 4 [])),
 (25,[JAi],.d (.list 4 [])),
 (31,[JAi],.d JNP),
 (34,[JNP],.d (.list 13 [JNM,.agg [.int .i64 0,.list 1 [.int .i64 1],.str [99],.int .i64 11,.int .i64 0,.int .i64 0,.int .i64 0,.str [],.str [],.nil 5,.list 6 [],.nil 2,.list 2 [.agg [.list 5 [XX],.list 11 [.agg [.str [115,48,95,49,95,48,95,48],.int .i64 13,.int .i64 0,.int .i64 0,.int .i64 0,.str [111,117,116,95,111,114,100,101,114],.str [],.nil 5,.list 6 [],.nil 2,.nil 2]]],.agg [.nil 5,.nil 11]]],.agg [.int .i64 0,.list 1 [.int .i64 1,.int .i64 0,.int .i64 0],.str [115,48,95,49,95,48,95,48],.int .i64 13,.int .i64 0,.int .i64 0,.int .i64 0,.str [111,117,116,95,111,114,100,101,114],.str [],.nil 5,.list 6 [],.nil 2,.nil 2],.agg [.int .i64 0,.list 1 [.int .i64 2],.str [115,48,95,50],.int .i64 14,.int .i64 0,.int .i64 0,.int .i64 0,.str [110,111],.str [],.nil 5,.list 6 [],.nil 2,.nil 2]]))]
theorem JLP:YS Tryz.prog JIr K27 JN6=true:=kR
def JIs:Ext:=Ym JN6 JIr
theorem JLQ:Um Tryz.prog JIs:=UK JLO JLP
def JN7:Tbl:=[
 (29,[JBd],.d JBd),
 (73,[JAN],.d JAN),
 (29,[JBe],.d JBe),
 (73,[ZC],.d ZC)]
theorem JLR:YS Tryz.prog JIs K27 JN7=true:=kR
def JIt:Ext:=Ym JN7 JIs
theorem JLS:Um Tryz.prog JIt:=UK JLQ JLR
end Go.Proofs
