/- Part N of a proof. -/
import Derived.Test.YtiekiedlkehccaaGreatDoorEqM
set_option linter.unusedVariables false
set_option linter.unusedSimpArgs false
set_option linter.unusedSectionVars false
set_option maxRecDepth 10000
namespace Go.Proofs
open Go Av
def tb16A : Tbl := [
  (26, [.str [97]], .tup [.d (.list 3 [.agg [.int .i64 (1), .int .i64 (0), .str [97]]]), .d (.int .i64 (0))]),
  (26, [.str [98]], .tup [.d (.list 3 [.agg [.int .i64 (1), .int .i64 (0), .str [98]]]), .d (.int .i64 (0))]),
  (151, [.str [97]], .d (.bool true)),
  (151, [.str [98]], .d (.bool true))]
theorem tb16A_ok : tblOK Tryz.prog (X1c) tb16A = true := by kernel_rfl
def X16A : Ext := ext tb16A (X1c)
theorem X16A_ok : ExtOK Tryz.prog X16A := ext_ok (X1c_ok) tb16A_ok
def tb16B : Tbl := [
  (90, [.agg [.int .i64 (14), .int .i64 (0), .str [], .nil 6, .list 5 [.agg [.int .i64 (2), .int .i64 (0), .str [97], .nil 6, .nil 5], .agg [.int .i64 (2), .int .i64 (0), .str [98], .nil 6, .nil 5]]]], .d (.int .i64 (0))),
  (117, [.agg [.int .i64 (9), .int .i64 (0), .int .i64 (0), .int .i64 (0), .nil 1, .nil 7, .list 11 [.agg [.int .i64 (1), .str [97], .int .i64 (1), .int .i64 (3), .int .i64 (0), .int .i64 (999), .int .i64 (2), .nil 1, .nil 7, .nil 11, .nil 6], .agg [.int .i64 (2), .str [98], .int .i64 (1), .int .i64 (2), .int .i64 (1), .int .i64 (5), .int .i64 (0), .nil 1, .nil 7, .nil 11, .nil 6]]]], .d (.int .i64 (0))),
  (145, [.agg [.int .i64 (3), .int .i64 (0), .int .i64 (999), .int .i64 (2), .nil 1, .nil 7, .nil 11]], .d (.agg [.int .i64 (3), .int .i64 (0), .int .i64 (999), .int .i64 (2), .list 1 [], .list 7 [], .list 11 []])),
  (145, [.agg [.int .i64 (3), .int .i64 (0), .int .i64 (999), .int .i64 (2), .list 1 [], .list 7 [], .list 11 []]], .d (.agg [.int .i64 (3), .int .i64 (0), .int .i64 (999), .int .i64 (2), .list 1 [], .list 7 [], .list 11 []])),
  (145, [.agg [.int .i64 (2), .int .i64 (1), .int .i64 (5), .int .i64 (0), .nil 1, .nil 7, .nil 11]], .d (.agg [.int .i64 (2), .int .i64 (1), .int .i64 (5), .int .i64 (0), .list 1 [], .list 7 [], .list 11 []])),
  (145, [.agg [.int .i64 (2), .int .i64 (1), .int .i64 (5), .int .i64 (0), .list 1 [], .list 7 [], .list 11 []]], .d (.agg [.int .i64 (2), .int .i64 (1), .int .i64 (5), .int .i64 (0), .list 1 [], .list 7 [], .list 11 []])),
  (145, [.agg [.int .i64 (3), .int .i64 (0), .int .i64 (4995), .int .i64 (2), .list 1 [], .list 7 [], .list 11 []]], .d (.agg [.int .i64 (3), .int .i64 (0), .int .i64 (4995), .int .i64 (2), .list 1 [], .list 7 [], .list 11 []])),
  (37, [.list 7 [.agg [.str [97], .int .i64 (3), .int .i64 (250), .int .i64 (2), .str [], .list 6 [], .list 7 []], .agg [.str [98], .int .i64 (2), .int .i64 (3), .int .i64 (0), .str [], .list 6 [], .list 7 []]]], .d (.agg [.int .i64 (9), .int .i64 (0), .int .i64 (0), .str [], .list 6 [], .list 7 [.agg [.str [97], .int .i64 (3), .int .i64 (250), .int .i64 (2), .str [], .list 6 [], .list 7 []], .agg [.str [98], .int .i64 (2), .int .i64 (3), .int .i64 (0), .str [], .list 6 [], .list 7 []]]]))]
theorem tb16B_ok : tblOK Tryz.prog (X16A) tb16B = true := by kernel_rfl
def X16B : Ext := ext tb16B (X16A)
theorem X16B_ok : ExtOK Tryz.prog X16B := ext_ok (X16A_ok) tb16B_ok
def tb16C : Tbl := [
  (70, [.agg [.int .i64 (14), .int .i64 (0), .str [], .nil 6, .list 5 [.agg [.int .i64 (2), .int .i64 (0), .str [97], .nil 6, .nil 5], .agg [.int .i64 (2), .int .i64 (0), .str [98], .nil 6, .nil 5]]], .agg [.int .i64 (9), .int .i64 (0), .int .i64 (0), .int .i64 (0), .nil 1, .nil 7, .list 11 [.agg [.int .i64 (1), .str [97], .int .i64 (1), .int .i64 (3), .int .i64 (0), .int .i64 (999), .int .i64 (2), .nil 1, .nil 7, .nil 11, .nil 6], .agg [.int .i64 (2), .str [98], .int .i64 (1), .int .i64 (2), .int .i64 (1), .int .i64 (5), .int .i64 (0), .nil 1, .nil 7, .nil 11, .nil 6]]]], .tup [.d (.agg [.int .i64 (3), .int .i64 (0), .int .i64 (4995), .int .i64 (2), .list 1 [], .list 7 [], .list 11 [], .bool false, .bool true]), .d (.int .i64 (0))]),
  (33, [.agg [.int .i64 (14), .int .i64 (0), .str [], .nil 6, .list 5 [.agg [.int .i64 (2), .int .i64 (0), .str [97], .nil 6, .nil 5], .agg [.int .i64 (2), .int .i64 (0), .str [98], .nil 6, .nil 5]]], .agg [.int .i64 (9), .int .i64 (0), .int .i64 (0), .str [], .list 6 [], .list 7 [.agg [.str [97], .int .i64 (3), .int .i64 (250), .int .i64 (2), .str [], .list 6 [], .list 7 []], .agg [.str [98], .int .i64 (2), .int .i64 (3), .int .i64 (0), .str [], .list 6 [], .list 7 []]]]], .tup [.d (.agg [.int .i64 (3), .int .i64 (750), .int .i64 (2), .str [], .list 6 [], .list 7 []]), .d (.int .i64 (0))])]
theorem tb16C_ok : tblOK Tryz.prog (X16B) tb16C = true := by kernel_rfl
def X16C : Ext := ext tb16C (X16B)
theorem X16C_ok : ExtOK Tryz.prog X16C := ext_ok (X16B_ok) tb16C_ok
theorem t20 : trueT Tryz.prog X16C 20 = true := by kernel_rfl
theorem walk20 : PCon Tryz.prog 20 [] (.d (.bool true)) := trueT_pcon X16C_ok t20
end Go.Proofs
