/- Part F of a proof. -/
import Derived.Test.YtpncocdpglfifaaGreatDoorCfE
import Derived.Test.YtpncocdpglfifaaGreatDoorCfC
import Derived.Test.YtpncocdpglfifaaGreatDoorCfA
set_option linter.unusedVariables false
set_option linter.unusedSimpArgs false
set_option linter.unusedSectionVars false
set_option linter.constructorNameAsVariable false
set_option linter.unnecessarySimpa false
set_option maxRecDepth 100000
namespace Go.Proofs
open Go Av
def JRH:Tbl:=[
 (307,[JNN],.d (.int .i64 0)),
 (261,[JNN],.d (.int .i64 0)),
 (261,[JGP],.d (.int .i64 0)),
 (308,[JDH,.int .i64 0],.d (.int .i64 0))]
theorem JNg:YS Tryz.prog JNe K27 JRH=true:=kR
def JNh:Ext:=Ym JRH JNe
theorem JNi:Um Tryz.prog JNh:=UK JNf JNg
def JRI:Tbl:=[
 (308,[JDH,.int .i64 1],.d (.int .i64 0)),
 (261,[JDH],.d (.int .i64 0)),
 (309,[JNF],.d (.int .i64 0)),
 (263,[JNO,JNF],.d (.bool true))]
theorem JNj:YS Tryz.prog JNh K27 JRI=true:=kR
def JNk:Ext:=Ym JRI JNh
theorem JNl:Um Tryz.prog JNk:=UK JNi JNj
def JRJ:Tbl:=[
 (264,[YA],.d (.int .i64 6)),
 (232,[JDH],.d (.int .i64 3)),
 (232,[JGP],.d (.int .i64 3)),
 (232,[YA],.d (.int .i64 6))]
theorem JNm:YS Tryz.prog JNk K27 JRJ=true:=kR
def JNn:Ext:=Ym JRJ JNk
theorem JNo:Um Tryz.prog JNn:=UK JNl JNm
def JRK:Tbl:=[
 (190,[YA],.d (.int .i64 0)),
 (123,[JCE],.d (.int .i64 0)),
 (308,[JBd,.int .i64 3],.d (.int .i64 0)),
 (261,[JBd],.d (.int .i64 0))]
theorem JNp:YS Tryz.prog JNn K27 JRK=true:=kR
def JNq:Ext:=Ym JRK JNn
theorem JNr:Um Tryz.prog JNq:=UK JNo JNp
end Go.Proofs
