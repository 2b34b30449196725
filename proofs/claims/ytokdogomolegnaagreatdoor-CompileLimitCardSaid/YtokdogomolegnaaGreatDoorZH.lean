/- Part H of a proof. -/
import Derived.Test.YtokdogomolegnaaGreatDoorZG
set_option linter.unusedVariables false
set_option linter.unusedSimpArgs false
set_option linter.unusedSectionVars false
set_option linter.constructorNameAsVariable false
set_option linter.unnecessarySimpa false
set_option maxRecDepth 100000
namespace Go.Proofs
open Go Av
def w27t15 : Tbl := [
  (8, [w27d21], .d (.list 4 [])),
  (17, [w27d21], .d w27d32),
  (20, [w27d32], .d (.list 13 [w27d22, .agg [.int .i64 0, .list 1 [.int .i64 1], .str [99], .int .i64 11, .int .i64 0, .int .i64 0, .int .i64 0, .str [], .str [], .nil 5, .list 6 [], .nil 2, .list 2 [.agg [.list 5 [w27d18], .list 11 [.agg [.str [115, 48, 95, 49, 95, 48, 95, 48], .int .i64 13, .int .i64 0, .int .i64 0, .int .i64 0, .str [111, 117, 116, 95, 111, 114, 100, 101, 114], .str [], .nil 5, .list 6 [], .nil 2, .nil 2]]], .agg [.nil 5, .nil 11]]], .agg [.int .i64 0, .list 1 [.int .i64 1, .int .i64 0, .int .i64 0], .str [115, 48, 95, 49, 95, 48, 95, 48], .int .i64 13, .int .i64 0, .int .i64 0, .int .i64 0, .str [111, 117, 116, 95, 111, 114, 100, 101, 114], .str [], .nil 5, .list 6 [], .nil 2, .nil 2], .agg [.int .i64 0, .list 1 [.int .i64 2], .str [115, 48, 95, 50], .int .i64 14, .int .i64 0, .int .i64 0, .int .i64 0, .str [110, 111], .str [], .nil 5, .list 6 [], .nil 2, .nil 2]])),
  (51, [w27d8], .d w27d8)]
theorem w27t15_ok : tblOK Tryz.prog w27X14 K27 w27t15 = true := by kernel_rfl
def w27X15 : Ext := ext w27t15 w27X14
theorem w27X15_ok : ExtOK Tryz.prog w27X15 := ext_ok w27X14_ok w27t15_ok
def w27t16 : Tbl := [
  (52, [w27d27], .d w27d27),
  (51, [w27d10], .d w27d10),
  (50, [.list 9 [w27d5, w27d8, w27d10, w27d12], .fn (.func 51) [] []], .d (.list 9 [w27d5, w27d8, w27d10, w27d12])),
  (25, [.agg [.int .i64 1, .list 9 [w27d5, w27d8, w27d10, w27d12], w27d13, w27d14, .list 20 [.agg [.str [105, 110, 95, 97], .int .i64 21, .int .i64 0, .int .i64 0, .int .i64 0, .int .i64 0, .int .i64 0, .str [105, 110, 95, 97], .int .i64 0, .int .i64 0, .int .i64 0, .int .i64 0, .nil 1, .nil 7, .nil 11, .nil 7, .nil 5, .nil 6, .nil 2, .list 1 [.int .i64 1]], .agg [.str [102], .int .i64 1, .int .i64 0, .int .i64 (-1), .int .i64 0, .int .i64 0, .int .i64 0, .str [108, 97, 114, 103, 101], .int .i64 0, .int .i64 0, .int .i64 0, .int .i64 0, .nil 1, .nil 7, .nil 11, .nil 7, .list 5 [w27d18], .list 6 [], .nil 2, .list 1 [.int .i64 2]], .agg [.str [99], .int .i64 11, .int .i64 0, .int .i64 (-1), .int .i64 0, .int .i64 0, .int .i64 0, .str [], .int .i64 0, .int .i64 0, .int .i64 0, .int .i64 0, .nil 1, .nil 7, .nil 11, .nil 7, .list 5 [w27d18, .agg [.int .i64 1, .int .i64 0, .str [], w27d33, .nil 5]], .list 6 [], .nil 2, .list 1 [.int .i64 4, .int .i64 3]], .agg [.str [115, 48, 95, 50], .int .i64 14, .int .i64 0, .int .i64 (-1), .int .i64 0, .int .i64 0, .int .i64 0, .str [110, 111], .int .i64 0, .int .i64 0, .int .i64 0, .int .i64 0, .nil 1, .nil 7, .nil 11, .nil 7, .nil 5, .list 6 [], .nil 2, .nil 1], .agg [.str [111, 117, 116, 95, 111, 114, 100, 101, 114], .int .i64 22, .int .i64 0, .int .i64 (-1), .int .i64 0, .int .i64 0, .int .i64 0, .str [111, 117, 116, 95, 111, 114, 100, 101, 114], .int .i64 0, .int .i64 0, .int .i64 0, .int .i64 0, .nil 1, .nil 7, .nil 11, .nil 7, .nil 5, .nil 6, .nil 2, .nil 1]]]], .d w27d34)]
theorem w27t16_ok : tblOK Tryz.prog w27X15 K27 w27t16 = true := by kernel_rfl
def w27X16 : Ext := ext w27t16 w27X15
theorem w27X16_ok : ExtOK Tryz.prog w27X16 := ext_ok w27X15_ok w27t16_ok
def w27t17 : Tbl := [
  (6, [w27d21], .tup [.d w27d34, .d (.int .i64 0)])]
theorem w27t17_ok : tblOK Tryz.prog w27X16 K27 w27t17 = true := by kernel_rfl
def w27X17 : Ext := ext w27t17 w27X16
theorem w27X17_ok : ExtOK Tryz.prog w27X17 := ext_ok w27X16_ok w27t17_ok
end Go.Proofs
