/- Part X of a proof. -/
import Derived.Test.YtjcljkgafcdbgaaGreatDoorFrW
import Derived.Test.YtjcljkgafcdbgaaGreatDoorFrC
import Derived.Test.YtjcljkgafcdbgaaGreatDoorFrA
set_option linter.unusedVariables false
set_option linter.unusedSimpArgs false
set_option linter.unusedSectionVars false
set_option linter.constructorNameAsVariable false
set_option linter.unnecessarySimpa false
set_option maxRecDepth 100000
namespace Go.Proofs
open Go Av
def w4d20:Dat:=.agg [.int .i64 1,.int .i64 0,.int .i64 0,.int .i64 0,.list 1 [],.list 7 [],.list 11 [],.bool false,.bool true]
def w4d21:Dat:=.agg [.bool true,.bool true,.int .i64 0,.str [],.list 1 [],.str []]
def w4d22:Dat:=.agg [.int .i64 1,.int .i64 0,.int .i64 0,.int .i64 0,.list 1 [],.list 7 [],.list 11 []]
def w4t18:Tbl:=[
 (228,[JHL],.d (.int .i64 0)),
 (328,[JKI],.d (.int .i64 0))]
theorem JPc:Jx Tryz.prog JPa K6 w4t18=true:=kR
def JPd:Ext:=Jy w4t18 JPa
theorem JPe:JS Tryz.prog JPd:=JJ JPb JPc
def w4t19:Tbl:=[
 (306,[.list 6 [JKI]],.d (.int .i64 0))]
theorem JPf:Jx Tryz.prog JPd K6 w4t19=true:=kR
def JPg:Ext:=Jy w4t19 JPd
theorem JPh:JS Tryz.prog JPg:=JJ JPe JPf
def w4t20:Tbl:=[
 (228,[w4d4],.d (.int .i64 0))]
theorem JPi:Jx Tryz.prog JPg K6 w4t20=true:=kR
def JPj:Ext:=Jy w4t20 JPg
theorem JPk:JS Tryz.prog JPj:=JJ JPh JPi
def w4t21:Tbl:=[
 (132,[JFD],.d (.int .i64 0)),
 (231,[U2],.d (.int .i64 0))]
theorem JPl:Jx Tryz.prog JPj K6 w4t21=true:=kR
def JPm:Ext:=Jy w4t21 JPj
theorem JPn:JS Tryz.prog JPm:=JJ JPk JPl
def w4t22:Tbl:=[
 (83,[U2],.d (.int .i64 0)),
 (370,[U2,.agg [.int .i64 1,.int .i64 0,.str [98,111,100,121]]],.tup [.d JBA,.d (.bool false),.d (.int .i64 0)]),
 (280,[U2,w4d19],.tup [.d JDZ,.d (.bool false),.d (.int .i64 0)])]
theorem JPo:Jx Tryz.prog JPm K6 w4t22=true:=kR
def JPp:Ext:=Jy w4t22 JPm
theorem JPq:JS Tryz.prog JPp:=JJ JPn JPo
def w4t23:Tbl:=[
 (82,[JFD,U2],.tup [.d w4d20,.d (.int .i64 0)])]
theorem JPr:Jx Tryz.prog JPp K6 w4t23=true:=kR
def JPs:Ext:=Jy w4t23 JPp
theorem JPt:JS Tryz.prog JPs:=JJ JPq JPr
def w4t24:Tbl:=[
 (272,[JFD,.int .i64 0,U2,.fn (.func 188) [] []],.tup [.d w4d21,.d w4d22]),
 (328,[JPC],.d (.int .i64 0))]
theorem JPu:Jx Tryz.prog JPs K6 w4t24=true:=kR
def JPv:Ext:=Jy w4t24 JPs
theorem JPw:JS Tryz.prog JPv:=JJ JPt JPu
def w4t25:Tbl:=[
 (306,[.list 6 [JPC]],.d (.int .i64 0))]
theorem JPx:Jx Tryz.prog JPv K6 w4t25=true:=kR
def JPy:Ext:=Jy w4t25 JPv
theorem JPz:JS Tryz.prog JPy:=JJ JPw JPx
def w4t26:Tbl:=[
 (228,[JMc],.d (.int .i64 0))]
theorem JP0:Jx Tryz.prog JPy K6 w4t26=true:=kR
def JP1:Ext:=Jy w4t26 JPy
theorem JP2:JS Tryz.prog JP1:=JJ JPz JP0
def w4t27:Tbl:=[
 (132,[JJF],.d (.int .i64 0))]
theorem JP3:Jx Tryz.prog JP1 K6 w4t27=true:=kR
def JP4:Ext:=Jy w4t27 JP1
theorem JP5:JS Tryz.prog JP4:=JJ JP2 JP3
def w4t28:Tbl:=[
 (82,[JJF,U2],.tup [.d w4d20,.d (.int .i64 0)])]
theorem JP6:Jx Tryz.prog JP4 K6 w4t28=true:=kR
def JP7:Ext:=Jy w4t28 JP4
theorem JP8:JS Tryz.prog JP7:=JJ JP5 JP6
def w4t29:Tbl:=[
 (272,[JJF,.int .i64 0,U2,.fn (.func 188) [] []],.tup [.d w4d21,.d w4d22])]
theorem JP9:Jx Tryz.prog JP7 K6 w4t29=true:=kR
def JQA:Ext:=Jy w4t29 JP7
theorem JQB:JS Tryz.prog JQA:=JJ JP8 JP9
end Go.Proofs
