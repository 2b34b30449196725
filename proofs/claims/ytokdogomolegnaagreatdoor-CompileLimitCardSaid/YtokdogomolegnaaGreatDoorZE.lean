/- Part E of a proof. -/
import Derived.Test.YtokdogomolegnaaGreatDoorZD
set_option linter.unusedVariables false
set_option linter.unusedSimpArgs false
set_option linter.unusedSectionVars false
set_option linter.constructorNameAsVariable false
set_option linter.unnecessarySimpa false
set_option maxRecDepth 100000
namespace Go.Proofs
open Go Av
def w27d0 : Dat := .agg [.int .i64 1, .str [105, 100], .int .i64 1, .int .i64 2, .int .i64 0, .int .i64 999, .int .i64 0, .list 1 [], .list 7 [], .list 11 [], .list 6 []]
def w27d1 : Dat := .agg [.int .i64 9, .int .i64 0, .int .i64 0, .int .i64 0, .list 1 [], .list 7 [], .list 11 [.agg [.int .i64 1, .str [115, 107, 117], .int .i64 1, .int .i64 2, .int .i64 0, .int .i64 9, .int .i64 0, .list 1 [], .list 7 [], .list 11 [], .list 6 []], .agg [.int .i64 2, .str [113, 116, 121], .int .i64 1, .int .i64 2, .int .i64 0, .int .i64 9, .int .i64 0, .list 1 [], .list 7 [], .list 11 [], .list 6 []]]]
def w27d2 : Dat := .agg [.int .i64 4, .str [105, 116, 101, 109, 115], .int .i64 1, .int .i64 8, .int .i64 0, .int .i64 4, .int .i64 0, .list 1 [], .list 7 [w27d1], .list 11 [], .list 6 []]
def w27d3 : Dat := .agg [.int .i64 1, .int .i64 0, .int .i64 0, .str [], .list 6 [], .list 7 []]
def w27d4 : Dat := .list 11 [w27d0, .agg [.int .i64 2, .str [97, 109, 111, 117, 110, 116], .int .i64 1, .int .i64 2, .int .i64 0, .int .i64 100, .int .i64 0, .list 1 [], .list 7 [], .list 11 [], .list 6 []], .agg [.int .i64 3, .str [107, 105, 110, 100], .int .i64 1, .int .i64 4, .int .i64 0, .int .i64 0, .int .i64 0, .list 1 [.str [97], .str [98], .str [99]], .list 7 [], .list 11 [], .list 6 []], w27d2, .agg [.int .i64 5, .str [110, 111, 116, 101], .int .i64 2, .int .i64 4, .int .i64 0, .int .i64 20, .int .i64 0, .list 1 [], .list 7 [], .list 11 [], .list 6 []], .agg [.int .i64 6, .str [102, 108, 97, 103], .int .i64 3, .int .i64 1, .int .i64 0, .int .i64 0, .int .i64 0, .list 1 [], .list 7 [], .list 11 [], .list 6 [w27d3]]]
def w27d5 : Dat := .agg [.str [111, 114, 100, 101, 114], .int .i64 1, .int .i64 9, .int .i64 0, .int .i64 0, .int .i64 0, .list 1 [], .list 7 [], w27d4]
def w27d6 : Dat := .agg [.int .i64 2, .str [107, 105, 110, 100], .int .i64 1, .int .i64 4, .int .i64 0, .int .i64 0, .int .i64 0, .list 1 [.str [97], .str [98], .str [99]], .list 7 [], .list 11 [], .list 6 []]
def w27d7 : Dat := .list 11 [w27d0, w27d6, .agg [.int .i64 3, .str [115, 107, 117], .int .i64 1, .int .i64 2, .int .i64 0, .int .i64 9, .int .i64 0, .list 1 [], .list 7 [], .list 11 [], .list 6 []], .agg [.int .i64 4, .str [113, 116, 121], .int .i64 1, .int .i64 2, .int .i64 0, .int .i64 9, .int .i64 0, .list 1 [], .list 7 [], .list 11 [], .list 6 []]]
def w27d8 : Dat := .agg [.str [108, 105, 110, 101], .int .i64 1, .int .i64 9, .int .i64 0, .int .i64 0, .int .i64 0, .list 1 [], .list 7 [], w27d7]
def w27d9 : Dat := .list 11 [w27d0, w27d6, .agg [.int .i64 3, .str [116, 111, 116, 97, 108], .int .i64 1, .int .i64 2, .int .i64 0, .int .i64 100000, .int .i64 0, .list 1 [], .list 7 [], .list 11 [], .list 6 []], .agg [.int .i64 4, .str [99, 111, 117, 110, 116], .int .i64 1, .int .i64 2, .int .i64 0, .int .i64 256, .int .i64 0, .list 1 [], .list 7 [], .list 11 [], .list 6 []]]
def w27d10 : Dat := .agg [.str [98, 105, 108, 108], .int .i64 1, .int .i64 9, .int .i64 0, .int .i64 0, .int .i64 0, .list 1 [], .list 7 [], w27d9]
def w27d11 : Dat := .list 11 [.agg [.int .i64 1, .str [111, 107], .int .i64 1, .int .i64 1, .int .i64 0, .int .i64 0, .int .i64 0, .list 1 [], .list 7 [], .list 11 [], .list 6 []], .agg [.int .i64 2, .str [99, 111, 100, 101], .int .i64 1, .int .i64 2, .int .i64 0, .int .i64 99, .int .i64 0, .list 1 [], .list 7 [], .list 11 [], .list 6 []]]
def w27d12 : Dat := .agg [.str [97, 110, 115, 119, 101, 114], .int .i64 1, .int .i64 9, .int .i64 0, .int .i64 0, .int .i64 0, .list 1 [], .list 7 [], w27d11]
def w27d13 : Dat := .list 7 [.agg [.str [105, 110, 95, 97], .int .i64 1, .str [111, 114, 100, 101, 114], .int .i64 1, .int .i64 1, .int .i64 0, .list 1 []], .agg [.str [105, 110, 95, 98], .int .i64 1, .str [111, 114, 100, 101, 114], .int .i64 1, .int .i64 4, .int .i64 0, .list 1 []], .agg [.str [97, 103, 97, 105, 110], .int .i64 3, .str [111, 114, 100, 101, 114], .int .i64 1, .int .i64 1, .int .i64 0, .list 1 []], .agg [.str [111, 117, 116, 95, 111, 114, 100, 101, 114], .int .i64 2, .str [111, 114, 100, 101, 114], .int .i64 1, .int .i64 4, .int .i64 0, .list 1 []], .agg [.str [111, 117, 116, 95, 108, 105, 110, 101], .int .i64 2, .str [108, 105, 110, 101], .int .i64 1, .int .i64 2, .int .i64 44, .list 1 []], .agg [.str [111, 117, 116, 95, 98, 105, 108, 108], .int .i64 2, .str [98, 105, 108, 108], .int .i64 1, .int .i64 1, .int .i64 0, .list 1 []]]
def w27d14 : Dat := .list 4 [.agg [.str [112, 97, 121], .str [98, 105, 108, 108], .str [97, 110, 115, 119, 101, 114], .bool true], .agg [.str [115, 116, 111, 99, 107], .str [108, 105, 110, 101], .str [97, 110, 115, 119, 101, 114], .bool true], .agg [.str [109, 97, 105, 108], .str [98, 105, 108, 108], .str [97, 110, 115, 119, 101, 114], .bool false]]
def w27d15 : Dat := .agg [.int .i64 2, .int .i64 0, .str [98, 111, 100, 121, 46, 97, 109, 111, 117, 110, 116], .list 6 [], .list 5 []]
def w27d16 : Dat := .agg [.int .i64 2, .int .i64 50, .int .i64 0, .str [], .list 6 [], .list 7 []]
def w27d17 : Dat := .agg [.int .i64 1, .int .i64 0, .str [], .list 6 [w27d16], .list 5 []]
def w27d18 : Dat := .agg [.int .i64 8, .int .i64 0, .str [], .list 6 [], .list 5 [w27d15, w27d17]]
def w27d19 : Dat := .agg [.str [102], .int .i64 1, .int .i64 0, .int .i64 0, .int .i64 0, .str [108, 97, 114, 103, 101], .str [], .list 5 [w27d18], .list 6 [], .list 2 [], .list 2 []]
def w27d20 : Dat := .list 2 [.agg [.list 5 [w27d18], .list 11 [.agg [.str [], .int .i64 13, .int .i64 0, .int .i64 0, .int .i64 0, .str [111, 117, 116, 95, 111, 114, 100, 101, 114], .str [], .list 5 [], .list 6 [], .list 2 [], .list 2 []]]], .agg [.list 5 [], .list 11 []]]
def w27d21 : Dat := .agg [.int .i64 1, .list 9 [w27d5, w27d8, w27d10, w27d12], w27d13, w27d14, .list 3 [.agg [.str [109, 97, 105, 110], .str [105, 110, 95, 97], .list 11 [w27d19, .agg [.str [99], .int .i64 11, .int .i64 0, .int .i64 0, .int .i64 0, .str [], .str [], .list 5 [], .list 6 [], .list 2 [], w27d20], .agg [.str [], .int .i64 14, .int .i64 0, .int .i64 0, .int .i64 0, .str [110, 111], .str [], .list 5 [], .list 6 [], .list 2 [], .list 2 []]]]]]
def w27d22 : Dat := .agg [.int .i64 0, .list 1 [.int .i64 0], .str [102], .int .i64 1, .int .i64 0, .int .i64 0, .int .i64 0, .str [108, 97, 114, 103, 101], .str [], .list 5 [w27d18], .list 6 [], .nil 2, .nil 2]
def w27d23 : Dat := .agg [.int .i64 9, .int .i64 0, .int .i64 0, .int .i64 0, .list 1 [], .list 7 [], w27d4]
def w27d24 : Dat := .agg [.int .i64 4, .int .i64 0, .int .i64 0, .int .i64 0, .list 1 [.str [97], .str [98], .str [99]], .list 7 [], .list 11 []]
def w27d25 : Dat := .agg [.int .i64 1, .int .i64 0, .int .i64 0, .int .i64 0, .list 1 [], .list 7 [], .list 11 []]
def w27d26 : Dat := .agg [.int .i64 9, .int .i64 0, .int .i64 0, .int .i64 0, .list 1 [], .list 7 [], w27d7]
def w27d27 : Dat := .agg [.int .i64 9, .int .i64 0, .int .i64 0, .int .i64 0, .list 1 [], .list 7 [], w27d9]
def w27d28 : Dat := .agg [.int .i64 9, .int .i64 0, .int .i64 0, .int .i64 0, .list 1 [], .list 7 [], w27d11]
def w27d29 : Dat := .fn (.func 112) [] [.ptr [.list 1 [.fn (.func 107) [] [], .fn (.func 109) [] [], .fn (.func 114) [] []]]]
def w27d30 : Dat := .agg [.int .i64 8, .int .i64 0, .int .i64 4, .int .i64 0, .list 1 [], .list 7 [w27d1], .list 11 []]
def w27d31 : Dat := .agg [.int .i64 9, .int .i64 0, .int .i64 0, .int .i64 0, .list 1 [], .list 7 [], .list 11 [.agg [.int .i64 1, .str [98, 111, 100, 121], .int .i64 1, .int .i64 9, .int .i64 0, .int .i64 0, .int .i64 0, .list 1 [], .list 7 [], w27d4, .list 6 []]]]
def w27d32 : Dat := .agg [.int .i64 1, .list 9 [w27d5, w27d8, w27d10, w27d12], w27d13, w27d14, .list 3 [.agg [.str [109, 97, 105, 110], .str [105, 110, 95, 97], .list 11 [w27d19, .agg [.str [99], .int .i64 11, .int .i64 0, .int .i64 0, .int .i64 0, .str [], .str [], .list 5 [], .list 6 [], .list 2 [], .list 2 [.agg [.list 5 [w27d18], .list 11 [.agg [.str [115, 48, 95, 49, 95, 48, 95, 48], .int .i64 13, .int .i64 0, .int .i64 0, .int .i64 0, .str [111, 117, 116, 95, 111, 114, 100, 101, 114], .str [], .list 5 [], .list 6 [], .list 2 [], .list 2 []]]], .agg [.list 5 [], .list 11 []]]], .agg [.str [115, 48, 95, 50], .int .i64 14, .int .i64 0, .int .i64 0, .int .i64 0, .str [110, 111], .str [], .list 5 [], .list 6 [], .list 2 [], .list 2 []]]]]]
def w27d33 : Dat := .list 6 [.agg [.int .i64 1, .int .i64 1, .int .i64 0, .str [], .list 6 [], .list 7 []]]
def w27d34 : Dat := .agg [.int .i64 1, .list 9 [w27d5, w27d8, w27d10, w27d12], w27d13, w27d14, .list 20 [.agg [.str [105, 110, 95, 97], .int .i64 21, .int .i64 0, .int .i64 0, .int .i64 0, .int .i64 0, .int .i64 0, .str [105, 110, 95, 97], .int .i64 0, .int .i64 0, .int .i64 0, .int .i64 0, .list 1 [], .list 7 [], .list 11 [], .list 7 [], .list 5 [], .list 6 [], .list 2 [], .list 1 [.int .i64 1]], .agg [.str [102], .int .i64 1, .int .i64 0, .int .i64 (-1), .int .i64 0, .int .i64 0, .int .i64 0, .str [108, 97, 114, 103, 101], .int .i64 0, .int .i64 0, .int .i64 0, .int .i64 0, .list 1 [], .list 7 [], .list 11 [], .list 7 [], .list 5 [w27d18], .list 6 [], .list 2 [], .list 1 [.int .i64 2]], .agg [.str [99], .int .i64 11, .int .i64 0, .int .i64 (-1), .int .i64 0, .int .i64 0, .int .i64 0, .str [], .int .i64 0, .int .i64 0, .int .i64 0, .int .i64 0, .list 1 [], .list 7 [], .list 11 [], .list 7 [], .list 5 [w27d18, .agg [.int .i64 1, .int .i64 0, .str [], w27d33, .list 5 []]], .list 6 [], .list 2 [], .list 1 [.int .i64 4, .int .i64 3]], .agg [.str [115, 48, 95, 50], .int .i64 14, .int .i64 0, .int .i64 (-1), .int .i64 0, .int .i64 0, .int .i64 0, .str [110, 111], .int .i64 0, .int .i64 0, .int .i64 0, .int .i64 0, .list 1 [], .list 7 [], .list 11 [], .list 7 [], .list 5 [], .list 6 [], .list 2 [], .list 1 []], .agg [.str [111, 117, 116, 95, 111, 114, 100, 101, 114], .int .i64 22, .int .i64 0, .int .i64 (-1), .int .i64 0, .int .i64 0, .int .i64 0, .str [111, 117, 116, 95, 111, 114, 100, 101, 114], .int .i64 0, .int .i64 0, .int .i64 0, .int .i64 0, .list 1 [], .list 7 [], .list 11 [], .list 7 [], .list 5 [], .list 6 [], .list 2 [], .list 1 []]]]
def w27t0 : Tbl := [
  (66, [.int .i64 1], .d (.list 9 [w27d5, w27d8, w27d10, w27d12])),
  (26, [.int .i64 1], .d (.agg [.int .i64 1, .list 9 [w27d5, w27d8, w27d10, w27d12], w27d13, w27d14, .list 3 []])),
  (7, [], .d w27d21),
  (20, [w27d21], .d (.list 13 [w27d22, .agg [.int .i64 0, .list 1 [.int .i64 1], .str [99], .int .i64 11, .int .i64 0, .int .i64 0, .int .i64 0, .str [], .str [], .nil 5, .list 6 [], .nil 2, .list 2 [.agg [.list 5 [w27d18], .list 11 [.agg [.str [], .int .i64 13, .int .i64 0, .int .i64 0, .int .i64 0, .str [111, 117, 116, 95, 111, 114, 100, 101, 114], .str [], .nil 5, .list 6 [], .nil 2, .nil 2]]], .agg [.nil 5, .nil 11]]], .agg [.int .i64 0, .list 1 [.int .i64 1, .int .i64 0, .int .i64 0], .str [], .int .i64 13, .int .i64 0, .int .i64 0, .int .i64 0, .str [111, 117, 116, 95, 111, 114, 100, 101, 114], .str [], .nil 5, .list 6 [], .nil 2, .nil 2], .agg [.int .i64 0, .list 1 [.int .i64 2], .str [], .int .i64 14, .int .i64 0, .int .i64 0, .int .i64 0, .str [110, 111], .str [], .nil 5, .list 6 [], .nil 2, .nil 2]]))]
theorem w27t0_ok : tblOK Tryz.prog X0 K27 w27t0 = true := by kernel_rfl
def w27X0 : Ext := ext w27t0 (X0)
theorem w27X0_ok : ExtOK Tryz.prog w27X0 := ext_ok X0_ok w27t0_ok
def w27t1 : Tbl := [
  (286, [w27d23, .int .i64 1], .d (.int .i64 0)),
  (286, [w27d23, .int .i64 2], .d (.int .i64 0)),
  (286, [w27d23, .int .i64 3], .d (.int .i64 0)),
  (286, [w27d23, .int .i64 4], .d (.int .i64 0))]
theorem w27t1_ok : tblOK Tryz.prog w27X0 K27 w27t1 = true := by kernel_rfl
def w27X1 : Ext := ext w27t1 w27X0
theorem w27X1_ok : ExtOK Tryz.prog w27X1 := ext_ok w27X0_ok w27t1_ok
def w27t2 : Tbl := [
  (286, [w27d23, .int .i64 5], .d (.int .i64 0)),
  (239, [w27d23], .d (.int .i64 0)),
  (287, [.agg [.int .i64 4, .int .i64 0, .int .i64 0, .str [97], .list 6 [], .list 7 []]], .d (.int .i64 0)),
  (287, [.agg [.int .i64 4, .int .i64 0, .int .i64 0, .str [98], .list 6 [], .list 7 []]], .d (.int .i64 0))]
theorem w27t2_ok : tblOK Tryz.prog w27X1 K27 w27t2 = true := by kernel_rfl
def w27X2 : Ext := ext w27t2 w27X1
theorem w27X2_ok : ExtOK Tryz.prog w27X2 := ext_ok w27X1_ok w27t2_ok
def w27t3 : Tbl := [
  (287, [.agg [.int .i64 4, .int .i64 0, .int .i64 0, .str [99], .list 6 [], .list 7 []]], .d (.int .i64 0)),
  (285, [w27d24], .d (.int .i64 0)),
  (239, [w27d24], .d (.int .i64 0)),
  (239, [w27d1], .d (.int .i64 0))]
theorem w27t3_ok : tblOK Tryz.prog w27X2 K27 w27t3 = true := by kernel_rfl
def w27X3 : Ext := ext w27t3 w27X2
theorem w27X3_ok : ExtOK Tryz.prog w27X3 := ext_ok w27X2_ok w27t3_ok
def w27t4 : Tbl := [
  (287, [w27d3], .d (.int .i64 0)),
  (241, [w27d25, w27d3], .d (.bool true)),
  (242, [w27d23], .d (.int .i64 6)),
  (210, [w27d23], .d (.int .i64 6))]
theorem w27t4_ok : tblOK Tryz.prog w27X3 K27 w27t4 = true := by kernel_rfl
def w27X4 : Ext := ext w27t4 w27X3
theorem w27X4_ok : ExtOK Tryz.prog w27X4 := ext_ok w27X3_ok w27t4_ok
def w27t5 : Tbl := [
  (168, [w27d23], .d (.int .i64 0)),
  (105, [w27d5], .d (.int .i64 0)),
  (239, [w27d26], .d (.int .i64 0)),
  (168, [w27d26], .d (.int .i64 0))]
theorem w27t5_ok : tblOK Tryz.prog w27X4 K27 w27t5 = true := by kernel_rfl
def w27X5 : Ext := ext w27t5 w27X4
theorem w27X5_ok : ExtOK Tryz.prog w27X5 := ext_ok w27X4_ok w27t5_ok
end Go.Proofs
