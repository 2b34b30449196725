/- Part O of a proof. -/
import Derived.Test.YtiekiedlkehccaaGreatDoorDpN
import Derived.Test.YtiekiedlkehccaaGreatDoorDpC
import Derived.Test.YtiekiedlkehccaaGreatDoorDpA
set_option linter.unusedVariables false
set_option linter.unusedSimpArgs false
set_option linter.unusedSectionVars false
set_option maxRecDepth 10000
namespace Go.Proofs
open Go Av
def tb16A : Tbl := [
 (26, [.str [97]], .tup [.d (.list 3 [.agg [Dz 1, Dz 0, .str [97]]]), .d (Dz 0)]),
 (26, [.str [98]], .tup [.d (.list 3 [.agg [Dz 1, Dz 0, .str [98]]]), .d (Dz 0)]),
 (151, [.str [97]], .d (.bool true)),
 (151, [.str [98]], .d (.bool true))]
theorem tb16A_ok : tblOK Tryz.prog (X1c) tb16A = true := kR
def X16A : Ext := ext tb16A (X1c)
theorem X16A_ok : ExtOK Tryz.prog X16A := ext_ok (X1c_ok) tb16A_ok
def tb16B : Tbl := [
 (90, [.agg [Dz 14, Dz 0, .str [], .nil 6, .list 5 [.agg [Dz 2, Dz 0, .str [97], .nil 6, .nil 5], .agg [Dz 2, Dz 0, .str [98], .nil 6, .nil 5]]]], .d (Dz 0)),
 (117, [.agg [Dz 9, Dz 0, Dz 0, Dz 0, .nil 1, .nil 7, .list 11 [.agg [Dz 1, .str [97], Dz 1, Dz 3, Dz 0, Dz 999, Dz 2, .nil 1, .nil 7, .nil 11, .nil 6], .agg [Dz 2, .str [98], Dz 1, Dz 2, Dz 1, Dz 5, Dz 0, .nil 1, .nil 7, .nil 11, .nil 6]]]], .d (Dz 0)),
 (145, [.agg [Dz 3, Dz 0, Dz 999, Dz 2, .nil 1, .nil 7, .nil 11]], .d (.agg [Dz 3, Dz 0, Dz 999, Dz 2, .list 1 [], .list 7 [], .list 11 []])),
 (145, [.agg [Dz 3, Dz 0, Dz 999, Dz 2, .list 1 [], .list 7 [], .list 11 []]], .d (.agg [Dz 3, Dz 0, Dz 999, Dz 2, .list 1 [], .list 7 [], .list 11 []])),
 (145, [.agg [Dz 2, Dz 1, Dz 5, Dz 0, .nil 1, .nil 7, .nil 11]], .d (.agg [Dz 2, Dz 1, Dz 5, Dz 0, .list 1 [], .list 7 [], .list 11 []])),
 (145, [.agg [Dz 2, Dz 1, Dz 5, Dz 0, .list 1 [], .list 7 [], .list 11 []]], .d (.agg [Dz 2, Dz 1, Dz 5, Dz 0, .list 1 [], .list 7 [], .list 11 []])),
 (145, [.agg [Dz 3, Dz 0, Dz 4995, Dz 2, .list 1 [], .list 7 [], .list 11 []]], .d (.agg [Dz 3, Dz 0, Dz 4995, Dz 2, .list 1 [], .list 7 [], .list 11 []])),
 (37, [.list 7 [.agg [.str [97], Dz 3, Dz 250, Dz 2, .str [], .list 6 [], .list 7 []], .agg [.str [98], Dz 2, Dz 3, Dz 0, .str [], .list 6 [], .list 7 []]]], .d (.agg [Dz 9, Dz 0, Dz 0, .str [], .list 6 [], .list 7 [.agg [.str [97], Dz 3, Dz 250, Dz 2, .str [], .list 6 [], .list 7 []], .agg [.str [98], Dz 2, Dz 3, Dz 0, .str [], .list 6 [], .list 7 []]]]))]
theorem tb16B_ok : tblOK Tryz.prog (X16A) tb16B = true := kR
def X16B : Ext := ext tb16B (X16A)
theorem X16B_ok : ExtOK Tryz.prog X16B := ext_ok (X16A_ok) tb16B_ok
def tb16C : Tbl := [
 (70, [.agg [Dz 14, Dz 0, .str [], .nil 6, .list 5 [.agg [Dz 2, Dz 0, .str [97], .nil 6, .nil 5], .agg [Dz 2, Dz 0, .str [98], .nil 6, .nil 5]]], .agg [Dz 9, Dz 0, Dz 0, Dz 0, .nil 1, .nil 7, .list 11 [.agg [Dz 1, .str [97], Dz 1, Dz 3, Dz 0, Dz 999, Dz 2, .nil 1, .nil 7, .nil 11, .nil 6], .agg [Dz 2, .str [98], Dz 1, Dz 2, Dz 1, Dz 5, Dz 0, .nil 1, .nil 7, .nil 11, .nil 6]]]], .tup [.d (.agg [Dz 3, Dz 0, Dz 4995, Dz 2, .list 1 [], .list 7 [], .list 11 [], .bool false, .bool true]), .d (Dz 0)]),
 (33, [.agg [Dz 14, Dz 0, .str [], .nil 6, .list 5 [.agg [Dz 2, Dz 0, .str [97], .nil 6, .nil 5], .agg [Dz 2, Dz 0, .str [98], .nil 6, .nil 5]]], .agg [Dz 9, Dz 0, Dz 0, .str [], .list 6 [], .list 7 [.agg [.str [97], Dz 3, Dz 250, Dz 2, .str [], .list 6 [], .list 7 []], .agg [.str [98], Dz 2, Dz 3, Dz 0, .str [], .list 6 [], .list 7 []]]]], .tup [.d (.agg [Dz 3, Dz 750, Dz 2, .str [], .list 6 [], .list 7 []]), .d (Dz 0)])]
theorem tb16C_ok : tblOK Tryz.prog (X16B) tb16C = true := kR
def X16C : Ext := ext tb16C (X16B)
theorem X16C_ok : ExtOK Tryz.prog X16C := ext_ok (X16B_ok) tb16C_ok
theorem t20 : trueT Tryz.prog X16C 20 = true := kR
theorem walk20 : PT 20 [] (.d (.bool true)) := trueT_pcon X16C_ok t20
end Go.Proofs
