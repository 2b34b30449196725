/- Part L of a proof. -/
import Derived.Test.YtholoaojlcnacaaGreatDoorFtH
import Derived.Test.YtholoaojlcnacaaGreatDoorFtC
import Derived.Test.YtholoaojlcnacaaGreatDoorFtA
set_option linter.unusedVariables false
set_option linter.unusedSimpArgs false
set_option linter.unusedSectionVars false
set_option maxRecDepth 10000
namespace Go.Proofs
open Go Av
def tb18A : Tbl := [
 (80, [.str [116, 111, 116, 97, 108]], .tup [.d (.list 3 [.agg [Dz 1, Dz 0, .str [116, 111, 116, 97, 108]]]), .d (Dz 0)]),
 (112, [.str [116, 111, 116, 97, 108]], .d (.bool true)),
 (80, [.str [119, 104, 111, 46, 110, 97, 109, 101]], .tup [.d (.list 3 [.agg [Dz 1, Dz 0, .str [119, 104, 111]], .agg [Dz 1, Dz 0, .str [110, 97, 109, 101]]]), .d (Dz 0)]),
 (112, [.str [119, 104, 111]], .d (.bool true)),
 (112, [.str [110, 97, 109, 101]], .d (.bool true)),
 (80, [.str [98, 111, 100, 121, 46, 112, 114, 105, 99, 101]], .tup [.d (.list 3 [.agg [Dz 1, Dz 0, .str [98, 111, 100, 121]], .agg [Dz 1, Dz 0, .str [112, 114, 105, 99, 101]]]), .d (Dz 0)]),
 (112, [.str [98, 111, 100, 121]], .d (.bool true)),
 (112, [.str [112, 114, 105, 99, 101]], .d (.bool true)),
 (80, [.str [98, 111, 100, 121, 46, 99, 111, 117, 110, 116]], .tup [.d (.list 3 [.agg [Dz 1, Dz 0, .str [98, 111, 100, 121]], .agg [Dz 1, Dz 0, .str [99, 111, 117, 110, 116]]]), .d (Dz 0)]),
 (112, [.str [99, 111, 117, 110, 116]], .d (.bool true)),
 (80, [.str [98, 111, 100, 121, 46, 110, 97, 109, 101]], .tup [.d (.list 3 [.agg [Dz 1, Dz 0, .str [98, 111, 100, 121]], .agg [Dz 1, Dz 0, .str [110, 97, 109, 101]]]), .d (Dz 0)])]
theorem JP5 : Yp Tryz.prog (X1) tb18A = true := kR
def X18A : Ext := ext tb18A (X1)
theorem JSk : Yo Tryz.prog X18A := JBA (JHq) JP5
def tb18B : Tbl := [
 (41, [.agg [.list 6 [.agg [.str [116, 111, 116, 97, 108], Dz 14, Dz 0, .str [], .nil 6, .list 5 [.agg [Dz 2, Dz 0, .str [98, 111, 100, 121, 46, 112, 114, 105, 99, 101], .list 6 [], .list 5 []], .agg [Dz 2, Dz 0, .str [98, 111, 100, 121, 46, 99, 111, 117, 110, 116], .list 6 [], .list 5 []]]], .agg [.str [119, 104, 111, 46, 110, 97, 109, 101], Dz 2, Dz 0, .str [98, 111, 100, 121, 46, 110, 97, 109, 101], .list 6 [], .list 5 []]]]], .d (Dz 0))]
theorem JP6 : Yp Tryz.prog (X18A) tb18B = true := kR
def X18B : Ext := ext tb18B (X18A)
theorem JSl : Yo Tryz.prog X18B := JBA (JSk) JP6
def tb18C : Tbl := [
 (53, [.agg [Dz 14, Dz 0, .str [], .list 6 [], .list 5 [.agg [Dz 2, Dz 0, .str [98, 111, 100, 121, 46, 112, 114, 105, 99, 101], .list 6 [], .list 5 []], .agg [Dz 2, Dz 0, .str [98, 111, 100, 121, 46, 99, 111, 117, 110, 116], .list 6 [], .list 5 []]]]], .d (Dz 0)),
 (53, [.agg [Dz 2, Dz 0, .str [98, 111, 100, 121, 46, 110, 97, 109, 101], .list 6 [], .list 5 []]], .d (Dz 0))]
theorem JP7 : Yp Tryz.prog (X18B) tb18C = true := kR
def X18C : Ext := ext tb18C (X18B)
theorem JSm : Yo Tryz.prog X18C := JBA (JSl) JP7
def tb18D : Tbl := [
 (44, [.agg [Dz 9, Dz 0, Dz 0, .str [], .list 6 [], .list 7 []], .list 3 [.agg [Dz 1, Dz 0, .str [116, 111, 116, 97, 108]]], .agg [Dz 2, Dz 6, Dz 0, .str [], .list 6 [], .list 7 []]], .tup [.d (.agg [Dz 9, Dz 0, Dz 0, .str [], .list 6 [], .list 7 [.agg [.str [116, 111, 116, 97, 108], Dz 2, Dz 6, Dz 0, .str [], .list 6 [], .list 7 []]]]), .d (Dz 0)]),
 (44, [.agg [Dz 9, Dz 0, Dz 0, .str [], .list 6 [], .list 7 [.agg [.str [116, 111, 116, 97, 108], Dz 2, Dz 6, Dz 0, .str [], .list 6 [], .list 7 []]]], .list 3 [.agg [Dz 1, Dz 0, .str [119, 104, 111]], .agg [Dz 1, Dz 0, .str [110, 97, 109, 101]]], .agg [Dz 4, Dz 0, Dz 0, .str [97], .list 6 [], .list 7 []]], .tup [.d (.agg [Dz 9, Dz 0, Dz 0, .str [], .list 6 [], .list 7 [.agg [.str [116, 111, 116, 97, 108], Dz 2, Dz 6, Dz 0, .str [], .list 6 [], .list 7 []], .agg [.str [119, 104, 111], Dz 9, Dz 0, Dz 0, .str [], .list 6 [], .list 7 [.agg [.str [110, 97, 109, 101], Dz 4, Dz 0, Dz 0, .str [97], .list 6 [], .list 7 []]]]]]), .d (Dz 0)]),
 (44, [.agg [Dz 9, Dz 0, Dz 0, .str [], .list 6 [], .list 7 []], .list 3 [.agg [Dz 1, Dz 0, .str [110, 97, 109, 101]]], .agg [Dz 4, Dz 0, Dz 0, .str [97], .list 6 [], .list 7 []]], .tup [.d (.agg [Dz 9, Dz 0, Dz 0, .str [], .list 6 [], .list 7 [.agg [.str [110, 97, 109, 101], Dz 4, Dz 0, Dz 0, .str [97], .list 6 [], .list 7 []]]]), .d (Dz 0)])]
theorem JP8 : Yp Tryz.prog (X18C) tb18D = true := kR
def X18D : Ext := ext tb18D (X18C)
theorem JSn : Yo Tryz.prog X18D := JBA (JSm) JP8
def tb18E : Tbl := [
 (45, [.agg [Dz 9, Dz 0, Dz 0, Dz 0, .nil 1, .nil 7, .list 11 [.agg [Dz 1, .str [116, 111, 116, 97, 108], Dz 1, Dz 2, Dz 0, Dz 100, Dz 0, .nil 1, .nil 7, .nil 11, .nil 6], .agg [Dz 2, .str [119, 104, 111], Dz 1, Dz 9, Dz 0, Dz 0, Dz 0, .nil 1, .nil 7, .list 11 [.agg [Dz 1, .str [110, 97, 109, 101], Dz 1, Dz 4, Dz 0, Dz 5, Dz 0, .nil 1, .nil 7, .nil 11, .nil 6]], .nil 6]]], .agg [Dz 9, Dz 0, Dz 0, .str [], .list 6 [], .list 7 [.agg [.str [116, 111, 116, 97, 108], Dz 2, Dz 6, Dz 0, .str [], .list 6 [], .list 7 []], .agg [.str [119, 104, 111], Dz 9, Dz 0, Dz 0, .str [], .list 6 [], .list 7 [.agg [.str [110, 97, 109, 101], Dz 4, Dz 0, Dz 0, .str [97], .list 6 [], .list 7 []]]]]]], .tup [.d (.agg [Dz 9, Dz 0, Dz 0, .str [], .list 6 [], .list 7 [.agg [.str [116, 111, 116, 97, 108], Dz 2, Dz 6, Dz 0, .str [], .list 6 [], .list 7 []], .agg [.str [119, 104, 111], Dz 9, Dz 0, Dz 0, .str [], .list 6 [], .list 7 [.agg [.str [110, 97, 109, 101], Dz 4, Dz 0, Dz 0, .str [97], .list 6 [], .list 7 []]]]]]), .d (Dz 0)]),
 (15, [.agg [Dz 9, Dz 0, Dz 0, .str [], .list 6 [], .list 7 [.agg [.str [116, 111, 116, 97, 108], Dz 2, Dz 6, Dz 0, .str [], .list 6 [], .list 7 []], .agg [.str [119, 104, 111], Dz 9, Dz 0, Dz 0, .str [], .list 6 [], .list 7 [.agg [.str [110, 97, 109, 101], Dz 4, Dz 0, Dz 0, .str [97], .list 6 [], .list 7 []]]]]]], .d (Dz 0))]
theorem JP9 : Yp Tryz.prog (X18D) tb18E = true := kR
def X18E : Ext := ext tb18E (X18D)
theorem JSo : Yo Tryz.prog X18E := JBA (JSn) JP9
def tb18F : Tbl := [
 (12, [.agg [.list 6 [.agg [.str [116, 111, 116, 97, 108], Dz 14, Dz 0, .str [], .nil 6, .list 5 [.agg [Dz 2, Dz 0, .str [98, 111, 100, 121, 46, 112, 114, 105, 99, 101], .list 6 [], .list 5 []], .agg [Dz 2, Dz 0, .str [98, 111, 100, 121, 46, 99, 111, 117, 110, 116], .list 6 [], .list 5 []]]], .agg [.str [119, 104, 111, 46, 110, 97, 109, 101], Dz 2, Dz 0, .str [98, 111, 100, 121, 46, 110, 97, 109, 101], .list 6 [], .list 5 []]]], .agg [Dz 9, Dz 0, Dz 0, .str [], .list 6 [], .list 7 [.agg [.str [98, 111, 100, 121], Dz 9, Dz 0, Dz 0, .str [], .list 6 [], .list 7 [.agg [.str [99, 111, 117, 110, 116], Dz 2, Dz 2, Dz 0, .str [], .list 6 [], .list 7 []], .agg [.str [110, 97, 109, 101], Dz 4, Dz 0, Dz 0, .str [97], .list 6 [], .list 7 []], .agg [.str [112, 114, 105, 99, 101], Dz 2, Dz 3, Dz 0, .str [], .list 6 [], .list 7 []]]]]], .agg [Dz 9, Dz 0, Dz 0, Dz 0, .nil 1, .nil 7, .list 11 [.agg [Dz 1, .str [116, 111, 116, 97, 108], Dz 1, Dz 2, Dz 0, Dz 100, Dz 0, .nil 1, .nil 7, .nil 11, .nil 6], .agg [Dz 2, .str [119, 104, 111], Dz 1, Dz 9, Dz 0, Dz 0, Dz 0, .nil 1, .nil 7, .list 11 [.agg [Dz 1, .str [110, 97, 109, 101], Dz 1, Dz 4, Dz 0, Dz 5, Dz 0, .nil 1, .nil 7, .nil 11, .nil 6]], .nil 6]]]], .tup [.d (.agg [Dz 9, Dz 0, Dz 0, .str [], .list 6 [], .list 7 [.agg [.str [116, 111, 116, 97, 108], Dz 2, Dz 6, Dz 0, .str [], .list 6 [], .list 7 []], .agg [.str [119, 104, 111], Dz 9, Dz 0, Dz 0, .str [], .list 6 [], .list 7 [.agg [.str [110, 97, 109, 101], Dz 4, Dz 0, Dz 0, .str [97], .list 6 [], .list 7 []]]]]]), .d (Dz 0)])]
theorem JQA : Yp Tryz.prog (X18E) tb18F = true := kR
def X18F : Ext := ext tb18F (X18E)
theorem JSp : Yo Tryz.prog X18F := JBA (JSo) JQA
theorem t8 : JNZ Tryz.prog X18F 8 = true := kR
theorem walk8 : PT 8 [] (.d (.bool true)) := JJE JSp t8
end Go.Proofs
