/- Part G of a proof. -/
import Derived.Test.YtokdogomolegnaaGreatDoorZF
set_option linter.unusedVariables false
set_option linter.unusedSimpArgs false
set_option linter.unusedSectionVars false
set_option linter.constructorNameAsVariable false
set_option linter.unnecessarySimpa false
set_option maxRecDepth 100000
namespace Go.Proofs
open Go Av
def w27t12 : Tbl := [
  (271, [.str [97, 109, 111, 117, 110, 116], .str [46, 91, 63]], .d (.int .i64 (-1))),
  (229, [.str [46, 97, 109, 111, 117, 110, 116]], .tup [.d (.agg [.int .i64 1, .int .i64 0, .str [97, 109, 111, 117, 110, 116]]), .d (.str []), .d (.bool true)]),
  (298, [w27d15], .d (.int .i64 0)),
  (287, [w27d16], .d (.int .i64 0))]
theorem w27t12_ok : tblOK Tryz.prog w27X11 K27 w27t12 = true := by kernel_rfl
def w27X12 : Ext := ext w27t12 w27X11
theorem w27X12_ok : ExtOK Tryz.prog w27X12 := ext_ok w27X11_ok w27t12_ok
def w27t13 : Tbl := [
  (337, [.list 6 [w27d16]], .d (.int .i64 0)),
  (298, [w27d17], .d (.int .i64 0)),
  (258, [w27d18], .d (.int .i64 0)),
  (239, [w27d31], .d (.int .i64 0))]
theorem w27t13_ok : tblOK Tryz.prog w27X12 K27 w27t13 = true := by kernel_rfl
def w27X13 : Ext := ext w27t13 w27X12
theorem w27X13_ok : ExtOK Tryz.prog w27X13 := ext_ok w27X12_ok w27t13_ok
def w27t14 : Tbl := [
  (168, [w27d31], .d (.int .i64 0)),
  (222, [w27d18, w27d31], .tup [.d (.agg [.int .i64 1, .int .i64 0, .int .i64 0, .int .i64 0, .list 1 [], .list 7 [], .list 11 [], .bool false, .bool true]), .d (.int .i64 0)]),
  (183, [w27d18, .int .i64 0, w27d31, .fn (.func 145) [] []], .tup [.d (.agg [.bool true, .bool true, .int .i64 0, .str [], .list 1 [], .str []]), .d w27d25]),
  (31, [w27d21], .d (.list 4 []))]
theorem w27t14_ok : tblOK Tryz.prog w27X13 K27 w27t14 = true := by kernel_rfl
def w27X14 : Ext := ext w27t14 w27X13
theorem w27X14_ok : ExtOK Tryz.prog w27X14 := ext_ok w27X13_ok w27t14_ok
end Go.Proofs
