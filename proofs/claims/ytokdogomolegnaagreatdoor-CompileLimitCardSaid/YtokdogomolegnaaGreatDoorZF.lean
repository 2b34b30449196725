/- Part F of a proof. -/
import Derived.Test.YtokdogomolegnaaGreatDoorZE
set_option linter.unusedVariables false
set_option linter.unusedSimpArgs false
set_option linter.unusedSectionVars false
set_option linter.constructorNameAsVariable false
set_option linter.unnecessarySimpa false
set_option maxRecDepth 100000
namespace Go.Proofs
open Go Av
def w27t6 : Tbl := [
  (105, [w27d8], .d (.int .i64 0)),
  (286, [w27d27, .int .i64 2], .d (.int .i64 0)),
  (286, [w27d27, .int .i64 3], .d (.int .i64 0)),
  (239, [w27d27], .d (.int .i64 0))]
theorem w27t6_ok : tblOK Tryz.prog w27X5 K27 w27t6 = true := by kernel_rfl
def w27X6 : Ext := ext w27t6 w27X5
theorem w27X6_ok : ExtOK Tryz.prog w27X6 := ext_ok w27X5_ok w27t6_ok
def w27t7 : Tbl := [
  (210, [w27d27], .d (.int .i64 5)),
  (168, [w27d27], .d (.int .i64 0)),
  (105, [w27d10], .d (.int .i64 0)),
  (286, [w27d28, .int .i64 1], .d (.int .i64 0))]
theorem w27t7_ok : tblOK Tryz.prog w27X6 K27 w27t7 = true := by kernel_rfl
def w27X7 : Ext := ext w27t7 w27X6
theorem w27X7_ok : ExtOK Tryz.prog w27X7 := ext_ok w27X6_ok w27t7_ok
def w27t8 : Tbl := [
  (239, [w27d28], .d (.int .i64 0)),
  (168, [w27d28], .d (.int .i64 0)),
  (105, [w27d12], .d (.int .i64 0)),
  (9, [.str [111, 117, 116, 95, 111, 114, 100, 101, 114]], .d (.bool true))]
theorem w27t8_ok : tblOK Tryz.prog w27X7 K27 w27t8 = true := by kernel_rfl
def w27X8 : Ext := ext w27t8 w27X7
theorem w27X8_ok : ExtOK Tryz.prog w27X8 := ext_ok w27X7_ok w27t8_ok
def w27t9 : Tbl := [
  (9, [.str [111, 117, 116, 95, 108, 105, 110, 101]], .d (.bool true)),
  (9, [.str [111, 117, 116, 95, 98, 105, 108, 108]], .d (.bool true)),
  (136, [w27d19, .map [(.int .i64 1, .agg [.fn (.func 112) [] [.ptr [.list 1 [.fn (.func 106) [] [], .fn (.func 108) [] []]]], .fn (.func 115) [] []]), (.int .i64 2, .agg [.fn (.func 107) [] [], .fn (.func 117) [] []]), (.int .i64 3, .agg [.fn (.func 112) [] [.ptr [.list 1 [.fn (.func 106) [] [], .fn (.func 107) [] []]]], .fn (.func 118) [] []]), (.int .i64 4, .agg [.fn (.func 112) [] [.ptr [.list 1 [.fn (.func 108) [] [], .fn (.func 113) [] [], .fn (.func 109) [] [], .fn (.func 107) [] []]]], .fn (.func 119) [] []]), (.int .i64 5, .agg [.fn (.func 112) [] [.ptr [.list 1 [.fn (.func 108) [] [], .fn (.func 109) [] []]]], .fn (.func 121) [] []]), (.int .i64 6, .agg [.fn (.func 112) [] [.ptr [.list 1 [.fn (.func 108) [] [], .fn (.func 113) [] []]]], .fn (.func 122) [] []]), (.int .i64 7, .agg [.fn (.func 112) [] [.ptr [.list 1 [.fn (.func 113) [] [], .fn (.func 109) [] []]]], .fn (.func 123) [] []]), (.int .i64 8, .agg [.fn (.func 109) [] [], .fn (.func 124) [] []]), (.int .i64 9, .agg [w27d29, .fn (.func 125) [] []]), (.int .i64 10, .agg [w27d29, .fn (.func 127) [] []]), (.int .i64 11, .agg [.fn (.func 110) [] [], .fn (.func 128) [] []]), (.int .i64 12, .agg [.fn (.func 110) [] [], .fn (.func 130) [] []]), (.int .i64 13, .agg [.fn (.func 106) [] [], .fn (.func 131) [] []]), (.int .i64 14, .agg [.fn (.func 106) [] [], .fn (.func 132) [] []])]], .d (.bool true)),
  (30, [w27d21], .d (.list 4 []))]
theorem w27t9_ok : tblOK Tryz.prog w27X8 K27 w27t9 = true := by kernel_rfl
def w27X9 : Ext := ext w27t9 w27X8
theorem w27X9_ok : ExtOK Tryz.prog w27X9 := ext_ok w27X8_ok w27t9_ok
def w27t10 : Tbl := [
  (78, [.agg [.int .i64 2, .int .i64 44, .list 1 []], w27d8], .d (.int .i64 0)),
  (79, [w27d21], .d (.list 16 [.agg [.int .i64 0, .list 1 [.int .i64 0], .str [102], .int .i64 1, .int .i64 0, .int .i64 0, .int .i64 0, .str [108, 97, 114, 103, 101], .str [], .list 5 [w27d18], .list 6 [], .list 2 [], .list 2 [], .int .i64 0, .int .i64 0, .bool false], .agg [.int .i64 0, .list 1 [.int .i64 1], .str [99], .int .i64 11, .int .i64 0, .int .i64 0, .int .i64 0, .str [], .str [], .list 5 [], .list 6 [], .list 2 [], w27d20, .int .i64 0, .int .i64 0, .bool false], .agg [.int .i64 0, .list 1 [.int .i64 1, .int .i64 0, .int .i64 0], .str [], .int .i64 13, .int .i64 0, .int .i64 0, .int .i64 0, .str [111, 117, 116, 95, 111, 114, 100, 101, 114], .str [], .list 5 [], .list 6 [], .list 2 [], .list 2 [], .int .i64 0, .int .i64 (-1), .bool false], .agg [.int .i64 0, .list 1 [.int .i64 2], .str [], .int .i64 14, .int .i64 0, .int .i64 0, .int .i64 0, .str [110, 111], .str [], .list 5 [], .list 6 [], .list 2 [], .list 2 [], .int .i64 0, .int .i64 (-1), .bool false]])),
  (52, [w27d30], .d w27d30),
  (95, [w27d2], .d w27d2)]
theorem w27t10_ok : tblOK Tryz.prog w27X9 K27 w27t10 = true := by kernel_rfl
def w27X10 : Ext := ext w27t10 w27X9
theorem w27X10_ok : ExtOK Tryz.prog w27X10 := ext_ok w27X9_ok w27t10_ok
def w27t11 : Tbl := [
  (52, [w27d23], .d w27d23),
  (149, [w27d23], .d w27d31),
  (271, [.str [98, 111, 100, 121, 46, 97, 109, 111, 117, 110, 116], .str [46, 91, 63]], .d (.int .i64 4)),
  (229, [.str [46, 98, 111, 100, 121, 46, 97, 109, 111, 117, 110, 116]], .tup [.d (.agg [.int .i64 1, .int .i64 0, .str [98, 111, 100, 121]]), .d (.str [46, 97, 109, 111, 117, 110, 116]), .d (.bool true)])]
theorem w27t11_ok : tblOK Tryz.prog w27X10 K27 w27t11 = true := by kernel_rfl
def w27X11 : Ext := ext w27t11 w27X10
theorem w27X11_ok : ExtOK Tryz.prog w27X11 := ext_ok w27X10_ok w27t11_ok
end Go.Proofs
