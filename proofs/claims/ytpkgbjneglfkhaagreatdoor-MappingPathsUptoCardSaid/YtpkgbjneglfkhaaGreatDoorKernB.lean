/- known() of layer 18 answers true (tables printed by a program). -/
import Derived.Test.YtpkgbjneglfkhaaGreatDoorKernA
set_option linter.unusedVariables false
set_option linter.unusedSimpArgs false
set_option linter.unusedSectionVars false
namespace Go.Proofs
open Go Av
def tb18A : Tbl := [
  (78, [.str [116, 111, 116, 97, 108]], .tup [.d (.list 3 [.agg [.int .i64 (1), .int .i64 (0), .str [116, 111, 116, 97, 108]]]), .d (.int .i64 (0))]),
  (174, [.str [116, 111, 116, 97, 108]], .d (.bool true)),
  (78, [.str [119, 104, 111, 46, 110, 97, 109, 101]], .tup [.d (.list 3 [.agg [.int .i64 (1), .int .i64 (0), .str [119, 104, 111]], .agg [.int .i64 (1), .int .i64 (0), .str [110, 97, 109, 101]]]), .d (.int .i64 (0))]),
  (174, [.str [119, 104, 111]], .d (.bool true)),
  (174, [.str [110, 97, 109, 101]], .d (.bool true)),
  (78, [.str [98, 111, 100, 121, 46, 112, 114, 105, 99, 101]], .tup [.d (.list 3 [.agg [.int .i64 (1), .int .i64 (0), .str [98, 111, 100, 121]], .agg [.int .i64 (1), .int .i64 (0), .str [112, 114, 105, 99, 101]]]), .d (.int .i64 (0))]),
  (174, [.str [98, 111, 100, 121]], .d (.bool true)),
  (174, [.str [112, 114, 105, 99, 101]], .d (.bool true)),
  (78, [.str [98, 111, 100, 121, 46, 99, 111, 117, 110, 116]], .tup [.d (.list 3 [.agg [.int .i64 (1), .int .i64 (0), .str [98, 111, 100, 121]], .agg [.int .i64 (1), .int .i64 (0), .str [99, 111, 117, 110, 116]]]), .d (.int .i64 (0))]),
  (174, [.str [99, 111, 117, 110, 116]], .d (.bool true)),
  (78, [.str [98, 111, 100, 121, 46, 110, 97, 109, 101]], .tup [.d (.list 3 [.agg [.int .i64 (1), .int .i64 (0), .str [98, 111, 100, 121]], .agg [.int .i64 (1), .int .i64 (0), .str [110, 97, 109, 101]]]), .d (.int .i64 (0))])]
theorem tb18A_ok : tblOK Tryz.prog (X1) tb18A = true := by kernel_rfl
def X18A : Ext := ext tb18A (X1)
theorem X18A_ok : ExtOK Tryz.prog X18A := ext_ok (X1_ok) tb18A_ok
def tb18B : Tbl := [
  (25, [.agg [.list 6 [.agg [.str [116, 111, 116, 97, 108], .int .i64 (14), .int .i64 (0), .str [], .nil 6, .list 5 [.agg [.int .i64 (2), .int .i64 (0), .str [98, 111, 100, 121, 46, 112, 114, 105, 99, 101], .list 6 [], .list 5 []], .agg [.int .i64 (2), .int .i64 (0), .str [98, 111, 100, 121, 46, 99, 111, 117, 110, 116], .list 6 [], .list 5 []]]], .agg [.str [119, 104, 111, 46, 110, 97, 109, 101], .int .i64 (2), .int .i64 (0), .str [98, 111, 100, 121, 46, 110, 97, 109, 101], .list 6 [], .list 5 []]]]], .d (.int .i64 (0)))]
theorem tb18B_ok : tblOK Tryz.prog (X18A) tb18B = true := by kernel_rfl
def X18B : Ext := ext tb18B (X18A)
theorem X18B_ok : ExtOK Tryz.prog X18B := ext_ok (X18A_ok) tb18B_ok
def tb18C : Tbl := [
  (97, [.agg [.int .i64 (14), .int .i64 (0), .str [], .list 6 [], .list 5 [.agg [.int .i64 (2), .int .i64 (0), .str [98, 111, 100, 121, 46, 112, 114, 105, 99, 101], .list 6 [], .list 5 []], .agg [.int .i64 (2), .int .i64 (0), .str [98, 111, 100, 121, 46, 99, 111, 117, 110, 116], .list 6 [], .list 5 []]]]], .d (.int .i64 (0))),
  (97, [.agg [.int .i64 (2), .int .i64 (0), .str [98, 111, 100, 121, 46, 110, 97, 109, 101], .list 6 [], .list 5 []]], .d (.int .i64 (0)))]
theorem tb18C_ok : tblOK Tryz.prog (X18B) tb18C = true := by kernel_rfl
def X18C : Ext := ext tb18C (X18B)
theorem X18C_ok : ExtOK Tryz.prog X18C := ext_ok (X18B_ok) tb18C_ok
def tb18D : Tbl := [
  (89, [.agg [.int .i64 (9), .int .i64 (0), .int .i64 (0), .str [], .list 6 [], .list 7 []], .list 3 [.agg [.int .i64 (1), .int .i64 (0), .str [116, 111, 116, 97, 108]]], .agg [.int .i64 (2), .int .i64 (6), .int .i64 (0), .str [], .list 6 [], .list 7 []]], .tup [.d (.agg [.int .i64 (9), .int .i64 (0), .int .i64 (0), .str [], .list 6 [], .list 7 [.agg [.str [116, 111, 116, 97, 108], .int .i64 (2), .int .i64 (6), .int .i64 (0), .str [], .list 6 [], .list 7 []]]]), .d (.int .i64 (0))]),
  (89, [.agg [.int .i64 (9), .int .i64 (0), .int .i64 (0), .str [], .list 6 [], .list 7 [.agg [.str [116, 111, 116, 97, 108], .int .i64 (2), .int .i64 (6), .int .i64 (0), .str [], .list 6 [], .list 7 []]]], .list 3 [.agg [.int .i64 (1), .int .i64 (0), .str [119, 104, 111]], .agg [.int .i64 (1), .int .i64 (0), .str [110, 97, 109, 101]]], .agg [.int .i64 (4), .int .i64 (0), .int .i64 (0), .str [97], .list 6 [], .list 7 []]], .tup [.d (.agg [.int .i64 (9), .int .i64 (0), .int .i64 (0), .str [], .list 6 [], .list 7 [.agg [.str [116, 111, 116, 97, 108], .int .i64 (2), .int .i64 (6), .int .i64 (0), .str [], .list 6 [], .list 7 []], .agg [.str [119, 104, 111], .int .i64 (9), .int .i64 (0), .int .i64 (0), .str [], .list 6 [], .list 7 [.agg [.str [110, 97, 109, 101], .int .i64 (4), .int .i64 (0), .int .i64 (0), .str [97], .list 6 [], .list 7 []]]]]]), .d (.int .i64 (0))]),
  (89, [.agg [.int .i64 (9), .int .i64 (0), .int .i64 (0), .str [], .list 6 [], .list 7 []], .list 3 [.agg [.int .i64 (1), .int .i64 (0), .str [110, 97, 109, 101]]], .agg [.int .i64 (4), .int .i64 (0), .int .i64 (0), .str [97], .list 6 [], .list 7 []]], .tup [.d (.agg [.int .i64 (9), .int .i64 (0), .int .i64 (0), .str [], .list 6 [], .list 7 [.agg [.str [110, 97, 109, 101], .int .i64 (4), .int .i64 (0), .int .i64 (0), .str [97], .list 6 [], .list 7 []]]]), .d (.int .i64 (0))])]
theorem tb18D_ok : tblOK Tryz.prog (X18C) tb18D = true := by kernel_rfl
def X18D : Ext := ext tb18D (X18C)
theorem X18D_ok : ExtOK Tryz.prog X18D := ext_ok (X18C_ok) tb18D_ok
def tb18E : Tbl := [
  (57, [.agg [.int .i64 (9), .int .i64 (0), .int .i64 (0), .int .i64 (0), .nil 1, .nil 7, .list 11 [.agg [.int .i64 (1), .str [116, 111, 116, 97, 108], .int .i64 (1), .int .i64 (2), .int .i64 (0), .int .i64 (100), .int .i64 (0), .nil 1, .nil 7, .nil 11, .nil 6], .agg [.int .i64 (2), .str [119, 104, 111], .int .i64 (1), .int .i64 (9), .int .i64 (0), .int .i64 (0), .int .i64 (0), .nil 1, .nil 7, .list 11 [.agg [.int .i64 (1), .str [110, 97, 109, 101], .int .i64 (1), .int .i64 (4), .int .i64 (0), .int .i64 (5), .int .i64 (0), .nil 1, .nil 7, .nil 11, .nil 6]], .nil 6]]], .agg [.int .i64 (9), .int .i64 (0), .int .i64 (0), .str [], .list 6 [], .list 7 [.agg [.str [116, 111, 116, 97, 108], .int .i64 (2), .int .i64 (6), .int .i64 (0), .str [], .list 6 [], .list 7 []], .agg [.str [119, 104, 111], .int .i64 (9), .int .i64 (0), .int .i64 (0), .str [], .list 6 [], .list 7 [.agg [.str [110, 97, 109, 101], .int .i64 (4), .int .i64 (0), .int .i64 (0), .str [97], .list 6 [], .list 7 []]]]]]], .tup [.d (.agg [.int .i64 (9), .int .i64 (0), .int .i64 (0), .str [], .list 6 [], .list 7 [.agg [.str [116, 111, 116, 97, 108], .int .i64 (2), .int .i64 (6), .int .i64 (0), .str [], .list 6 [], .list 7 []], .agg [.str [119, 104, 111], .int .i64 (9), .int .i64 (0), .int .i64 (0), .str [], .list 6 [], .list 7 [.agg [.str [110, 97, 109, 101], .int .i64 (4), .int .i64 (0), .int .i64 (0), .str [97], .list 6 [], .list 7 []]]]]]), .d (.int .i64 (0))]),
  (30, [.agg [.int .i64 (9), .int .i64 (0), .int .i64 (0), .str [], .list 6 [], .list 7 [.agg [.str [116, 111, 116, 97, 108], .int .i64 (2), .int .i64 (6), .int .i64 (0), .str [], .list 6 [], .list 7 []], .agg [.str [119, 104, 111], .int .i64 (9), .int .i64 (0), .int .i64 (0), .str [], .list 6 [], .list 7 [.agg [.str [110, 97, 109, 101], .int .i64 (4), .int .i64 (0), .int .i64 (0), .str [97], .list 6 [], .list 7 []]]]]]], .d (.int .i64 (0)))]
theorem tb18E_ok : tblOK Tryz.prog (X18D) tb18E = true := by kernel_rfl
def X18E : Ext := ext tb18E (X18D)
theorem X18E_ok : ExtOK Tryz.prog X18E := ext_ok (X18D_ok) tb18E_ok
def tb18F : Tbl := [
  (28, [.agg [.list 6 [.agg [.str [116, 111, 116, 97, 108], .int .i64 (14), .int .i64 (0), .str [], .nil 6, .list 5 [.agg [.int .i64 (2), .int .i64 (0), .str [98, 111, 100, 121, 46, 112, 114, 105, 99, 101], .list 6 [], .list 5 []], .agg [.int .i64 (2), .int .i64 (0), .str [98, 111, 100, 121, 46, 99, 111, 117, 110, 116], .list 6 [], .list 5 []]]], .agg [.str [119, 104, 111, 46, 110, 97, 109, 101], .int .i64 (2), .int .i64 (0), .str [98, 111, 100, 121, 46, 110, 97, 109, 101], .list 6 [], .list 5 []]]], .agg [.int .i64 (9), .int .i64 (0), .int .i64 (0), .str [], .list 6 [], .list 7 [.agg [.str [98, 111, 100, 121], .int .i64 (9), .int .i64 (0), .int .i64 (0), .str [], .list 6 [], .list 7 [.agg [.str [99, 111, 117, 110, 116], .int .i64 (2), .int .i64 (2), .int .i64 (0), .str [], .list 6 [], .list 7 []], .agg [.str [110, 97, 109, 101], .int .i64 (4), .int .i64 (0), .int .i64 (0), .str [97], .list 6 [], .list 7 []], .agg [.str [112, 114, 105, 99, 101], .int .i64 (2), .int .i64 (3), .int .i64 (0), .str [], .list 6 [], .list 7 []]]]]], .agg [.int .i64 (9), .int .i64 (0), .int .i64 (0), .int .i64 (0), .nil 1, .nil 7, .list 11 [.agg [.int .i64 (1), .str [116, 111, 116, 97, 108], .int .i64 (1), .int .i64 (2), .int .i64 (0), .int .i64 (100), .int .i64 (0), .nil 1, .nil 7, .nil 11, .nil 6], .agg [.int .i64 (2), .str [119, 104, 111], .int .i64 (1), .int .i64 (9), .int .i64 (0), .int .i64 (0), .int .i64 (0), .nil 1, .nil 7, .list 11 [.agg [.int .i64 (1), .str [110, 97, 109, 101], .int .i64 (1), .int .i64 (4), .int .i64 (0), .int .i64 (5), .int .i64 (0), .nil 1, .nil 7, .nil 11, .nil 6]], .nil 6]]]], .tup [.d (.agg [.int .i64 (9), .int .i64 (0), .int .i64 (0), .str [], .list 6 [], .list 7 [.agg [.str [116, 111, 116, 97, 108], .int .i64 (2), .int .i64 (6), .int .i64 (0), .str [], .list 6 [], .list 7 []], .agg [.str [119, 104, 111], .int .i64 (9), .int .i64 (0), .int .i64 (0), .str [], .list 6 [], .list 7 [.agg [.str [110, 97, 109, 101], .int .i64 (4), .int .i64 (0), .int .i64 (0), .str [97], .list 6 [], .list 7 []]]]]]), .d (.int .i64 (0))])]
theorem tb18F_ok : tblOK Tryz.prog (X18E) tb18F = true := by kernel_rfl
def X18F : Ext := ext tb18F (X18E)
theorem X18F_ok : ExtOK Tryz.prog X18F := ext_ok (X18E_ok) tb18F_ok
theorem t22 : trueT Tryz.prog X18F 22 = true := by kernel_rfl
theorem walk22 : PCon Tryz.prog 22 [] (.d (.bool true)) := trueT_pcon X18F_ok t22
end Go.Proofs
