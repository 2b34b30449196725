/- The package-level variables of this seat's program of which is known what they hold. -/
import Derived.Test.YtholoaojlcnacaaGreatDoorAvD
import Derived.Lib.DecodeN
import Derived.Test.YtholoaojlcnacaaGreatDoorProg
set_option linter.unusedVariables false
set_option linter.unusedSimpArgs false
set_option linter.unusedSectionVars false
namespace Go.Proofs
open Go Av

def tab0 : List Dat := (List.range 256).map fun c => .int .u8 (Lib.firstT c)
def tab1 : List Dat := (List.range 16).flatMap fun i => [.int .u8 (Lib.accLo i), .int .u8 (Lib.accHi i)]
def tab3 : List Dat := (List.range 20).map fun n => .int .u64 ((10 ^ n : Nat) : Int)
instance glbT : Glb := ⟨[(0, tab0), (1, tab1), (3, tab3), (4, [.iface 381 .opq]), (5, [.iface 381 .opq])]⟩
theorem rl_D (n : Nat) : @Rls.rl rlsD n = (n == 1) := rfl
attribute [go_sem] rl_D
end Go.Proofs
/- The intermediate forms of functions (printed by a program). -/
namespace Go.Proofs
open Go Av
/-- manifold/expr.Equal -/
def ir29 : Ic :=
  .seq (.dn (.reg (
    .op (some 2) (.box (.t 0)) <|
    .op (some 3) (.box (.t 1)) <|
    .op (some 4) (.mov (.k (.bool false))) <|
    .nil)) [0, 1, 4]) <|
  .seq (.dn (.reg (
    .op (some 5) (.fa (.t 2) 0) <|
    .op (some 6) (.ld none (.t 5)) <|
    .op (some 7) (.fa (.t 3) 0) <|
    .op (some 8) (.ld none (.t 7)) <|
    .op (some 9) (.bin .eql (.t 6) (.t 8)) <|
    .op (some 10) (.mov (.t 9)) <|
    .sc 10 true (
      .op (some 11) (.fa (.t 2) 1) <|
      .op (some 12) (.ld none (.t 11)) <|
      .op (some 13) (.fa (.t 3) 1) <|
      .op (some 14) (.ld none (.t 13)) <|
      .op (some 15) (.bin .eql (.t 12) (.t 14)) <|
      .nil) (.t 15) 16 <|
    .op (some 17) (.mov (.t 16)) <|
    .sc 17 true (
      .op (some 18) (.fa (.t 2) 2) <|
      .op (some 19) (.ld none (.t 18)) <|
      .op (some 20) (.fa (.t 3) 2) <|
      .op (some 21) (.ld none (.t 20)) <|
      .op (some 22) (.bin .seq (.t 19) (.t 21)) <|
      .nil) (.t 22) 23 <|
    .op (some 24) (.mov (.t 23)) <|
    .sc 24 true (
      .op (some 25) (.fa (.t 2) 3) <|
      .op (some 26) (.ld none (.t 25)) <|
      .op (some 27) (.fa (.t 3) 3) <|
      .op (some 28) (.ld none (.t 27)) <|
      .call (some 29) (.fn 72) [(.t 26), (.t 28), (.k (.fn (.func 16) [] []))] <|
      .nil) (.t 29) 30 <|
    .op (some 31) (.mov (.t 30)) <|
    .sc 31 true (
      .op (some 32) (.fa (.t 2) 4) <|
      .op (some 33) (.ld none (.t 32)) <|
      .op (some 34) (.fa (.t 3) 4) <|
      .op (some 35) (.ld none (.t 34)) <|
      .call (some 36) (.fn 73) [(.t 33), (.t 35), (.k (.fn (.func 29) [] []))] <|
      .nil) (.t 36) 37 <|
    .op (some 4) (.mov (.t 37)) <|
    .nil)) [2, 3, 5, 6, 7, 8, 9, 10, 11, 12, 13, 14, 15, 16, 17, 18, 19, 20, 21, 22, 23, 24, 25, 26, 27, 28, 29, 30, 31, 32, 33, 34, 35, 36, 37]) <|
  .ret
theorem ok29 : FnOk Tryz.prog 29 38 ir29 [.tmp 4] := FnOk.of Tryz.func29 (by kernel_rfl) (by kernel_rfl) (by kernel_rfl) (by kernel_rfl)
/-- manifold/manifoldlaw18.Small -/
def ir9 : Ic :=
  .seq (.dn (.reg (
    .op (some 1) (.box (.t 0)) <|
    .op (some 2) (.mov (.k (.bool false))) <|
    .nil)) [0, 2]) <|
  .seq (.seq (.dn (.reg (
    .op (some 4) (.fa (.t 1) 0) <|
    .op (some 5) (.ld none (.t 4)) <|
    .op (some 6) (.len (.t 5)) <|
    .op (some 7) (.bin .gtr (.t 6) (.k (.int .i64 12))) <|
    .nil)) [4, 5, 6]) <|
  .dn (.ite (.t 7) (.seq (.dn (.reg (
      .op (some 2) (.mov (.k (.bool false))) <|
      .nil)) [1, 7]) <|
    .ret)
    (.skip)) [2, 7]) <|
  .seq (.seq (.reg (
    .op (some 3) (.mov (.k (.int .i64 0))) <|
    .nil)) <|
  .dn (.block 0 (
    .loop (
      .seq (.seq (.dn (.reg (
        .op (some 8) (.mov (.t 3)) <|
        .op (some 9) (.fa (.t 1) 0) <|
        .op (some 10) (.ld none (.t 9)) <|
        .op (some 11) (.len (.t 10)) <|
        .op (some 12) (.bin .lss (.t 8) (.t 11)) <|
        .nil)) [8, 9, 10, 11]) <|
      .dn (.ite (.t 12) (.skip)
        (.exit 0)) [12]) <|
      .seq (.dn (.block 1 (
        .seq (.dn (.reg (
          .op (some 15) (.fa (.t 1) 0) <|
          .op (some 16) (.ld none (.t 15)) <|
          .op (some 17) (.mov (.t 3)) <|
          .op (some 18) (.ixa true 6 (.t 16) (.t 17)) <|
          .op (some 19) (.fa (.t 18) 0) <|
          .op (some 20) (.ld none (.t 19)) <|
          .op (some 21) (.slen (.t 20)) <|
          .op (some 22) (.bin .gtr (.t 21) (.k (.int .i64 300))) <|
          .op (some 23) (.mov (.t 22)) <|
          .sc 23 false (
            .op (some 24) (.fa (.t 1) 0) <|
            .op (some 25) (.ld none (.t 24)) <|
            .op (some 26) (.mov (.t 3)) <|
            .op (some 27) (.ixa true 6 (.t 25) (.t 26)) <|
            .op (some 28) (.fa (.t 27) 1) <|
            .op (some 29) (.ld (some 5) (.t 28)) <|
            .call (some 30) (.fn 38) [(.t 29)] <|
            .op (some 31) (.not (.t 30)) <|
            .nil) (.t 31) 32 <|
          .nil)) [15, 16, 17, 18, 19, 20, 21, 22, 23, 24, 25, 26, 27, 28, 29, 30, 31]) <|
        .dn (.ite (.t 32) (.seq (.dn (.reg (
            .op (some 2) (.mov (.k (.bool false))) <|
            .nil)) [1, 3, 32]) <|
          .ret)
          (.skip)) [2, 32])) [15, 16, 17, 18, 19, 20, 21, 22, 23, 24, 25, 26, 27, 28, 29, 30, 31, 32, 2]) <|
      .dn (.reg (
        .op (some 13) (.mov (.t 3)) <|
        .op (some 14) (.bin .add (.t 13) (.k (.int .i64 1))) <|
        .op (some 3) (.mov (.t 14)) <|
        .nil)) [13, 14]))) [1, 3, 8, 9, 10, 11, 12, 15, 16, 17, 18, 19, 20, 21, 22, 23, 24, 25, 26, 27, 28, 29, 30, 31, 32, 2, 13, 14]) <|
  .seq (.reg (
    .op (some 2) (.mov (.k (.bool true))) <|
    .nil)) <|
  .ret
theorem ok9 : FnOk Tryz.prog 9 33 ir9 [.tmp 2] := FnOk.of Tryz.func9 (by kernel_rfl) (by kernel_rfl) (by kernel_rfl) (by kernel_rfl)
/-- manifold/manifoldlaw06.SmallValue -/
def ir10 : Ic :=
  .seq (.dn (.reg (
    .op (some 1) (.box (.t 0)) <|
    .op (some 2) (.mov (.k (.bool false))) <|
    .nil)) [0, 2]) <|
  .seq (.reg (
    .op (some 3) (.new [(.int .i64 0)]) <|
    .op none (.sto none (.t 3) (.k (.int .i64 300))) <|
    .nil)) <|
  .seq (.dn (.reg (
    .op (some 4) (.ld (some 6) (.t 1)) <|
    .call (some 5) (.fn 39) [(.t 4), (.k (.int .i64 12)), (.t 3)] <|
    .op (some 2) (.mov (.t 5)) <|
    .nil)) [1, 3, 4, 5]) <|
  .ret
theorem ok10 : FnOk Tryz.prog 10 6 ir10 [.tmp 2] := FnOk.of Tryz.func10 (by kernel_rfl) (by kernel_rfl) (by kernel_rfl) (by kernel_rfl)
/-- manifold/manifoldlaw18.SmallExpr -/
def ir38 : Ic :=
  .seq (.dn (.reg (
    .op (some 1) (.box (.t 0)) <|
    .op (some 2) (.mov (.k (.bool false))) <|
    .nil)) [0, 2]) <|
  .seq (.reg (
    .op (some 3) (.new [(.int .i64 0)]) <|
    .op none (.sto none (.t 3) (.k (.int .i64 150))) <|
    .nil)) <|
  .seq (.dn (.reg (
    .op (some 4) (.ld (some 5) (.t 1)) <|
    .call (some 5) (.fn 79) [(.t 4), (.k (.int .i64 12)), (.t 3)] <|
    .op (some 2) (.mov (.t 5)) <|
    .nil)) [1, 3, 4, 5]) <|
  .ret
theorem ok38 : FnOk Tryz.prog 38 6 ir38 [.tmp 2] := FnOk.of Tryz.func38 (by kernel_rfl) (by kernel_rfl) (by kernel_rfl) (by kernel_rfl)
/-- manifold/manifoldlaw06.smallValue -/
def ir39 : Ic :=
  .seq (.dn (.reg (
    .op (some 3) (.box (.t 0)) <|
    .op (some 6) (.mov (.k (.bool false))) <|
    .nil)) [0, 6]) <|
  .seq (.dn (.reg (
    .op (some 9) (.mov (.t 2)) <|
    .op (some 10) (.nck (.t 9)) <|
    .op (some 11) (.ld none (.t 10)) <|
    .op (some 12) (.bin .sub (.t 11) (.k (.int .i64 1))) <|
    .op (some 13) (.nck (.t 9)) <|
    .op none (.sto none (.t 13) (.t 12)) <|
    .nil)) [9, 10, 11, 12, 13]) <|
  .seq (.seq (.dn (.reg (
    .op (some 14) (.mov (.t 2)) <|
    .op (some 15) (.nck (.t 14)) <|
    .op (some 16) (.ld none (.t 15)) <|
    .op (some 17) (.bin .lss (.t 16) (.k (.int .i64 0))) <|
    .op (some 18) (.mov (.t 17)) <|
    .sc 18 false (
      .op (some 19) (.mov (.t 1)) <|
      .op (some 20) (.bin .eql (.t 19) (.k (.int .i64 0))) <|
      .nil) (.t 20) 21 <|
    .op (some 22) (.mov (.t 21)) <|
    .sc 22 false (
      .op (some 23) (.fa (.t 3) 3) <|
      .op (some 24) (.ld none (.t 23)) <|
      .op (some 25) (.slen (.t 24)) <|
      .op (some 26) (.bin .gtr (.t 25) (.k (.int .i64 2000))) <|
      .nil) (.t 26) 27 <|
    .nil)) [14, 15, 16, 17, 18, 19, 20, 21, 22, 23, 24, 25, 26]) <|
  .dn (.ite (.t 27) (.seq (.dn (.reg (
      .op (some 6) (.mov (.k (.bool false))) <|
      .nil)) [1, 2, 3, 27]) <|
    .ret)
    (.skip)) [6, 27]) <|
  .seq (.seq (.reg (
    .op (some 7) (.mov (.k (.int .i64 0))) <|
    .nil)) <|
  .dn (.block 0 (
    .loop (
      .seq (.seq (.dn (.reg (
        .op (some 28) (.mov (.t 7)) <|
        .op (some 29) (.fa (.t 3) 4) <|
        .op (some 30) (.ld none (.t 29)) <|
        .op (some 31) (.len (.t 30)) <|
        .op (some 32) (.bin .lss (.t 28) (.t 31)) <|
        .nil)) [28, 29, 30, 31]) <|
      .dn (.ite (.t 32) (.skip)
        (.exit 0)) [32]) <|
      .seq (.dn (.block 1 (
        .seq (.dn (.reg (
          .op (some 35) (.fa (.t 3) 4) <|
          .op (some 36) (.ld none (.t 35)) <|
          .op (some 37) (.mov (.t 7)) <|
          .op (some 38) (.ixa true 6 (.t 36) (.t 37)) <|
          .op (some 39) (.ld (some 6) (.t 38)) <|
          .op (some 40) (.mov (.t 1)) <|
          .op (some 41) (.bin .sub (.t 40) (.k (.int .i64 1))) <|
          .op (some 42) (.mov (.t 2)) <|
          .call (some 43) (.fn 39) [(.t 39), (.t 41), (.t 42)] <|
          .op (some 44) (.not (.t 43)) <|
          .nil)) [35, 36, 37, 38, 39, 40, 41, 42, 43]) <|
        .dn (.ite (.t 44) (.seq (.dn (.reg (
            .op (some 6) (.mov (.k (.bool false))) <|
            .nil)) [1, 2, 3, 7, 44]) <|
          .ret)
          (.skip)) [6, 44])) [35, 36, 37, 38, 39, 40, 41, 42, 43, 44, 6]) <|
      .dn (.reg (
        .op (some 33) (.mov (.t 7)) <|
        .op (some 34) (.bin .add (.t 33) (.k (.int .i64 1))) <|
        .op (some 7) (.mov (.t 34)) <|
        .nil)) [33, 34]))) [7, 28, 29, 30, 31, 32, 35, 36, 37, 38, 39, 40, 41, 42, 43, 44, 6, 33, 34]) <|
  .seq (.seq (.reg (
    .op (some 8) (.mov (.k (.int .i64 0))) <|
    .nil)) <|
  .dn (.block 2 (
    .loop (
      .seq (.seq (.dn (.reg (
        .op (some 45) (.mov (.t 8)) <|
        .op (some 46) (.fa (.t 3) 5) <|
        .op (some 47) (.ld none (.t 46)) <|
        .op (some 48) (.len (.t 47)) <|
        .op (some 49) (.bin .lss (.t 45) (.t 48)) <|
        .nil)) [45, 46, 47, 48]) <|
      .dn (.ite (.t 49) (.skip)
        (.exit 2)) [49]) <|
      .seq (.dn (.block 3 (
        .seq (.dn (.reg (
          .op (some 52) (.fa (.t 3) 5) <|
          .op (some 53) (.ld none (.t 52)) <|
          .op (some 54) (.mov (.t 8)) <|
          .op (some 55) (.ixa true 7 (.t 53) (.t 54)) <|
          .op (some 56) (.fa (.t 55) 0) <|
          .op (some 57) (.ld none (.t 56)) <|
          .op (some 58) (.slen (.t 57)) <|
          .op (some 59) (.bin .gtr (.t 58) (.k (.int .i64 100))) <|
          .op (some 60) (.mov (.t 59)) <|
          .sc 60 false (
            .op (some 61) (.fa (.t 3) 5) <|
            .op (some 62) (.ld none (.t 61)) <|
            .op (some 63) (.mov (.t 8)) <|
            .op (some 64) (.ixa true 7 (.t 62) (.t 63)) <|
            .op (some 65) (.fa (.t 64) 1) <|
            .op (some 66) (.ld (some 6) (.t 65)) <|
            .op (some 67) (.mov (.t 1)) <|
            .op (some 68) (.bin .sub (.t 67) (.k (.int .i64 1))) <|
            .op (some 69) (.mov (.t 2)) <|
            .call (some 70) (.fn 39) [(.t 66), (.t 68), (.t 69)] <|
            .op (some 71) (.not (.t 70)) <|
            .nil) (.t 71) 72 <|
          .nil)) [52, 53, 54, 55, 56, 57, 58, 59, 60, 61, 62, 63, 64, 65, 66, 67, 68, 69, 70, 71]) <|
        .dn (.ite (.t 72) (.seq (.dn (.reg (
            .op (some 6) (.mov (.k (.bool false))) <|
            .nil)) [1, 2, 3, 8, 72]) <|
          .ret)
          (.skip)) [6, 72])) [52, 53, 54, 55, 56, 57, 58, 59, 60, 61, 62, 63, 64, 65, 66, 67, 68, 69, 70, 71, 72, 6]) <|
      .dn (.reg (
        .op (some 50) (.mov (.t 8)) <|
        .op (some 51) (.bin .add (.t 50) (.k (.int .i64 1))) <|
        .op (some 8) (.mov (.t 51)) <|
        .nil)) [50, 51]))) [1, 2, 3, 8, 45, 46, 47, 48, 49, 52, 53, 54, 55, 56, 57, 58, 59, 60, 61, 62, 63, 64, 65, 66, 67, 68, 69, 70, 71, 72, 6, 50, 51]) <|
  .seq (.reg (
    .op (some 6) (.mov (.k (.bool true))) <|
    .nil)) <|
  .ret
theorem ok39 : FnOk Tryz.prog 39 73 ir39 [.tmp 6] := FnOk.of Tryz.func39 (by kernel_rfl) (by kernel_rfl) (by kernel_rfl) (by kernel_rfl)
/-- manifold/expr.Clone -/
def ir28 : Ic :=
  .seq (.dn (.reg (
    .op (some 1) (.box (.t 0)) <|
    .op (some 2) (.new [(.int .i64 0), (.int .i64 0), (.str []), (.nil 6), (.nil 5)]) <|
    .nil)) [0]) <|
  .seq (.dn (.reg (
    .op (some 8) (.fa (.t 1) 0) <|
    .op (some 9) (.ld none (.t 8)) <|
    .op (some 10) (.fa (.t 1) 1) <|
    .op (some 11) (.ld none (.t 10)) <|
    .op (some 12) (.fa (.t 1) 2) <|
    .op (some 13) (.ld none (.t 12)) <|
    .op (some 14) (.bld [(.int .i64 0), (.int .i64 0), (.str []), (.nil 6), (.nil 5)] [(0, 1, (.t 9)), (1, 1, (.t 11)), (2, 1, (.t 13))]) <|
    .op (some 3) (.new [(.int .i64 0), (.int .i64 0), (.str []), (.nil 6), (.nil 5)]) <|
    .op none (.sto (some 5) (.t 3) (.t 14)) <|
    .nil)) [8, 9, 10, 11, 12, 13, 14]) <|
  .seq (.seq (.dn (.reg (
    .op (some 15) (.fa (.t 1) 3) <|
    .op (some 16) (.ld none (.t 15)) <|
    .op (some 17) (.len (.t 16)) <|
    .op (some 18) (.mov (.k (.int .i64 0))) <|
    .nil)) [15]) <|
  .dn (.block 0 (
    .loop (
      .seq (.reg (
        .op (some 19) (.bin .lss (.t 18) (.t 17)) <|
        .nil)) <|
      .seq (.dn (.ite (.t 19) (.skip)
        (.exit 0)) [19]) <|
      .seq (.dn (.block 1 (
        .seq (.dn (.reg (
          .op (some 20) (.ixa true 6 (.t 16) (.t 18)) <|
          .op (some 21) (.ld (some 6) (.t 20)) <|
          .op (some 5) (.new [(.int .i64 0), (.int .i64 0), (.int .i64 0), (.str []), (.nil 6), (.nil 7)]) <|
          .op none (.sto (some 6) (.t 5) (.t 21)) <|
          .nil)) [20, 21]) <|
        .dn (.regd [(1, 3), (1, 4)] (
          .op (some 22) (.fa (.t 3) 3) <|
          .op (some 23) (.ld none (.t 22)) <|
          .op (some 24) (.ld (some 6) (.t 5)) <|
          .call (some 25) (.fn 55) [(.t 24)] <|
          .op (some 26) (.bls 6 [(.t 25)]) <|
          .op (some 27) (.app 6 (.t 23) (.t 26)) <|
          .op (some 28) (.fa (.t 3) 3) <|
          .op none (.sto none (.t 28) (.t 27)) <|
          .nil)) [5, 22, 23, 24, 25, 26, 27, 28])) [20, 21, 5, 22, 23, 24, 25, 26, 27, 28]) <|
      .dn (.reg (
        .op (some 29) (.bin .add (.t 18) (.k (.int .i64 1))) <|
        .op (some 18) (.mov (.t 29)) <|
        .nil)) [29]))) [16, 17, 18, 19, 20, 21, 5, 22, 23, 24, 25, 26, 27, 28, 29]) <|
  .seq (.seq (.dn (.reg (
    .op (some 30) (.fa (.t 1) 4) <|
    .op (some 31) (.ld none (.t 30)) <|
    .op (some 32) (.len (.t 31)) <|
    .op (some 33) (.mov (.k (.int .i64 0))) <|
    .nil)) [1, 30]) <|
  .dn (.block 2 (
    .loop (
      .seq (.reg (
        .op (some 34) (.bin .lss (.t 33) (.t 32)) <|
        .nil)) <|
      .seq (.dn (.ite (.t 34) (.skip)
        (.exit 2)) [34]) <|
      .seq (.dn (.block 3 (
        .seq (.dn (.reg (
          .op (some 35) (.ixa true 5 (.t 31) (.t 33)) <|
          .op (some 36) (.ld (some 5) (.t 35)) <|
          .op (some 7) (.new [(.int .i64 0), (.int .i64 0), (.str []), (.nil 6), (.nil 5)]) <|
          .op none (.sto (some 5) (.t 7) (.t 36)) <|
          .nil)) [35, 36]) <|
        .dn (.regd [(1, 3), (1, 4)] (
          .op (some 37) (.fa (.t 3) 4) <|
          .op (some 38) (.ld none (.t 37)) <|
          .op (some 39) (.ld (some 5) (.t 7)) <|
          .call (some 40) (.fn 28) [(.t 39)] <|
          .op (some 41) (.bls 5 [(.t 40)]) <|
          .op (some 42) (.app 5 (.t 38) (.t 41)) <|
          .op (some 43) (.fa (.t 3) 4) <|
          .op none (.sto none (.t 43) (.t 42)) <|
          .nil)) [7, 37, 38, 39, 40, 41, 42, 43])) [35, 36, 7, 37, 38, 39, 40, 41, 42, 43]) <|
      .dn (.reg (
        .op (some 44) (.bin .add (.t 33) (.k (.int .i64 1))) <|
        .op (some 33) (.mov (.t 44)) <|
        .nil)) [44]))) [31, 32, 33, 34, 35, 36, 7, 37, 38, 39, 40, 41, 42, 43, 44]) <|
  .seq (.dn (.reg (
    .op (some 45) (.ld (some 5) (.t 3)) <|
    .op none (.sto (some 5) (.t 2) (.t 45)) <|
    .nil)) [3, 45]) <|
  .ret
theorem ok28 : FnOk Tryz.prog 28 46 ir28 [.cell 2 (some 5)] := FnOk.of Tryz.func28 (by kernel_rfl) (by kernel_rfl) (by kernel_rfl) (by kernel_rfl)
/-- manifold/manifoldlaw18.smallExpr -/
def ir79 : Ic :=
  .seq (.dn (.reg (
    .op (some 3) (.box (.t 0)) <|
    .op (some 6) (.mov (.k (.bool false))) <|
    .nil)) [0, 6]) <|
  .seq (.dn (.reg (
    .op (some 9) (.mov (.t 2)) <|
    .op (some 10) (.nck (.t 9)) <|
    .op (some 11) (.ld none (.t 10)) <|
    .op (some 12) (.bin .sub (.t 11) (.k (.int .i64 1))) <|
    .op (some 13) (.nck (.t 9)) <|
    .op none (.sto none (.t 13) (.t 12)) <|
    .nil)) [9, 10, 11, 12, 13]) <|
  .seq (.seq (.dn (.reg (
    .op (some 14) (.mov (.t 2)) <|
    .op (some 15) (.nck (.t 14)) <|
    .op (some 16) (.ld none (.t 15)) <|
    .op (some 17) (.bin .lss (.t 16) (.k (.int .i64 0))) <|
    .op (some 18) (.mov (.t 17)) <|
    .sc 18 false (
      .op (some 19) (.mov (.t 1)) <|
      .op (some 20) (.bin .eql (.t 19) (.k (.int .i64 0))) <|
      .nil) (.t 20) 21 <|
    .op (some 22) (.mov (.t 21)) <|
    .sc 22 false (
      .op (some 23) (.fa (.t 3) 2) <|
      .op (some 24) (.ld none (.t 23)) <|
      .op (some 25) (.slen (.t 24)) <|
      .op (some 26) (.bin .gtr (.t 25) (.k (.int .i64 2000))) <|
      .nil) (.t 26) 27 <|
    .op (some 28) (.mov (.t 27)) <|
    .sc 28 false (
      .op (some 29) (.fa (.t 3) 3) <|
      .op (some 30) (.ld none (.t 29)) <|
      .op (some 31) (.len (.t 30)) <|
      .op (some 32) (.bin .gtr (.t 31) (.k (.int .i64 3))) <|
      .nil) (.t 32) 33 <|
    .nil)) [14, 15, 16, 17, 18, 19, 20, 21, 22, 23, 24, 25, 26, 27, 28, 29, 30, 31, 32]) <|
  .dn (.ite (.t 33) (.seq (.dn (.reg (
      .op (some 6) (.mov (.k (.bool false))) <|
      .nil)) [1, 2, 3, 33]) <|
    .ret)
    (.skip)) [6, 33]) <|
  .seq (.seq (.reg (
    .op (some 7) (.mov (.k (.int .i64 0))) <|
    .nil)) <|
  .dn (.block 0 (
    .loop (
      .seq (.seq (.dn (.reg (
        .op (some 34) (.mov (.t 7)) <|
        .op (some 35) (.fa (.t 3) 3) <|
        .op (some 36) (.ld none (.t 35)) <|
        .op (some 37) (.len (.t 36)) <|
        .op (some 38) (.bin .lss (.t 34) (.t 37)) <|
        .nil)) [34, 35, 36, 37]) <|
      .dn (.ite (.t 38) (.skip)
        (.exit 0)) [38]) <|
      .seq (.dn (.block 1 (
        .seq (.dn (.reg (
          .op (some 41) (.fa (.t 3) 3) <|
          .op (some 42) (.ld none (.t 41)) <|
          .op (some 43) (.mov (.t 7)) <|
          .op (some 44) (.ixa true 6 (.t 42) (.t 43)) <|
          .op (some 45) (.ld (some 6) (.t 44)) <|
          .call (some 46) (.fn 10) [(.t 45)] <|
          .op (some 47) (.not (.t 46)) <|
          .nil)) [41, 42, 43, 44, 45, 46]) <|
        .dn (.ite (.t 47) (.seq (.dn (.reg (
            .op (some 6) (.mov (.k (.bool false))) <|
            .nil)) [1, 2, 3, 7, 47]) <|
          .ret)
          (.skip)) [6, 47])) [41, 42, 43, 44, 45, 46, 47, 6]) <|
      .dn (.reg (
        .op (some 39) (.mov (.t 7)) <|
        .op (some 40) (.bin .add (.t 39) (.k (.int .i64 1))) <|
        .op (some 7) (.mov (.t 40)) <|
        .nil)) [39, 40]))) [7, 34, 35, 36, 37, 38, 41, 42, 43, 44, 45, 46, 47, 6, 39, 40]) <|
  .seq (.seq (.reg (
    .op (some 8) (.mov (.k (.int .i64 0))) <|
    .nil)) <|
  .dn (.block 2 (
    .loop (
      .seq (.seq (.dn (.reg (
        .op (some 48) (.mov (.t 8)) <|
        .op (some 49) (.fa (.t 3) 4) <|
        .op (some 50) (.ld none (.t 49)) <|
        .op (some 51) (.len (.t 50)) <|
        .op (some 52) (.bin .lss (.t 48) (.t 51)) <|
        .nil)) [48, 49, 50, 51]) <|
      .dn (.ite (.t 52) (.skip)
        (.exit 2)) [52]) <|
      .seq (.dn (.block 3 (
        .seq (.dn (.reg (
          .op (some 55) (.fa (.t 3) 4) <|
          .op (some 56) (.ld none (.t 55)) <|
          .op (some 57) (.mov (.t 8)) <|
          .op (some 58) (.ixa true 5 (.t 56) (.t 57)) <|
          .op (some 59) (.ld (some 5) (.t 58)) <|
          .op (some 60) (.mov (.t 1)) <|
          .op (some 61) (.bin .sub (.t 60) (.k (.int .i64 1))) <|
          .op (some 62) (.mov (.t 2)) <|
          .call (some 63) (.fn 79) [(.t 59), (.t 61), (.t 62)] <|
          .op (some 64) (.not (.t 63)) <|
          .nil)) [55, 56, 57, 58, 59, 60, 61, 62, 63]) <|
        .dn (.ite (.t 64) (.seq (.dn (.reg (
            .op (some 6) (.mov (.k (.bool false))) <|
            .nil)) [1, 2, 3, 8, 64]) <|
          .ret)
          (.skip)) [6, 64])) [55, 56, 57, 58, 59, 60, 61, 62, 63, 64, 6]) <|
      .dn (.reg (
        .op (some 53) (.mov (.t 8)) <|
        .op (some 54) (.bin .add (.t 53) (.k (.int .i64 1))) <|
        .op (some 8) (.mov (.t 54)) <|
        .nil)) [53, 54]))) [1, 2, 3, 8, 48, 49, 50, 51, 52, 55, 56, 57, 58, 59, 60, 61, 62, 63, 64, 6, 53, 54]) <|
  .seq (.reg (
    .op (some 6) (.mov (.k (.bool true))) <|
    .nil)) <|
  .ret
theorem ok79 : FnOk Tryz.prog 79 65 ir79 [.tmp 6] := FnOk.of Tryz.func79 (by kernel_rfl) (by kernel_rfl) (by kernel_rfl) (by kernel_rfl)
/-- slices.EqualFunc   manifold/api.Expr,  manifold/api.Expr,manifold/api.Expr,manifold/api.Expr  -/
def ir73 : Ic :=
  .seq (.dn (.reg (
    .op (some 6) (.mov (.k (.bool false))) <|
    .nil)) [6]) <|
  .seq (.seq (.dn (.reg (
    .op (some 10) (.mov (.t 0)) <|
    .op (some 11) (.len (.t 10)) <|
    .op (some 12) (.mov (.t 1)) <|
    .op (some 13) (.len (.t 12)) <|
    .op (some 14) (.bin .neq (.t 11) (.t 13)) <|
    .nil)) [10, 11, 12, 13]) <|
  .dn (.ite (.t 14) (.seq (.dn (.reg (
      .op (some 6) (.mov (.k (.bool false))) <|
      .nil)) [0, 1, 2, 14]) <|
    .ret)
    (.skip)) [6, 14]) <|
  .seq (.seq (.dn (.reg (
    .op (some 15) (.mov (.t 0)) <|
    .op (some 16) (.len (.t 15)) <|
    .op (some 17) (.mov (.k (.int .i64 0))) <|
    .nil)) [0]) <|
  .dn (.block 0 (
    .loop (
      .seq (.reg (
        .op (some 18) (.bin .lss (.t 17) (.t 16)) <|
        .nil)) <|
      .seq (.dn (.ite (.t 18) (.skip)
        (.exit 0)) [18]) <|
      .seq (.dn (.block 1 (
        .seq (.dn (.reg (
          .op (some 19) (.mov (.t 17)) <|
          .op (some 20) (.ixa true 5 (.t 15) (.t 17)) <|
          .op (some 21) (.ld (some 5) (.t 20)) <|
          .op (some 8) (.new [(.int .i64 0), (.int .i64 0), (.str []), (.nil 6), (.nil 5)]) <|
          .op (some 7) (.mov (.t 19)) <|
          .op none (.sto (some 5) (.t 8) (.t 21)) <|
          .nil)) [19, 20, 21]) <|
        .seq (.dn (.reg (
          .op (some 22) (.mov (.t 1)) <|
          .op (some 23) (.mov (.t 7)) <|
          .op (some 24) (.ixa true 5 (.t 22) (.t 23)) <|
          .op (some 25) (.ld (some 5) (.t 24)) <|
          .op (some 9) (.new [(.int .i64 0), (.int .i64 0), (.str []), (.nil 6), (.nil 5)]) <|
          .op none (.sto (some 5) (.t 9) (.t 25)) <|
          .nil)) [7, 22, 23, 24, 25]) <|
        .seq (.dn (.reg (
          .op (some 26) (.mov (.t 2)) <|
          .op (some 27) (.ld (some 5) (.t 8)) <|
          .op (some 28) (.ld (some 5) (.t 9)) <|
          .call (some 29) (.dyn (.t 26)) [(.t 27), (.t 28)] <|
          .op (some 30) (.not (.t 29)) <|
          .nil)) [8, 9, 26, 27, 28, 29]) <|
        .dn (.ite (.t 30) (.seq (.dn (.reg (
            .op (some 6) (.mov (.k (.bool false))) <|
            .nil)) [1, 2, 15, 16, 17, 30]) <|
          .ret)
          (.skip)) [6, 30])) [19, 20, 21, 8, 7, 22, 23, 24, 25, 9, 26, 27, 28, 29, 30, 6]) <|
      .dn (.reg (
        .op (some 31) (.bin .add (.t 17) (.k (.int .i64 1))) <|
        .op (some 17) (.mov (.t 31)) <|
        .nil)) [31]))) [1, 2, 15, 16, 17, 18, 19, 20, 21, 8, 7, 22, 23, 24, 25, 9, 26, 27, 28, 29, 30, 6, 31]) <|
  .seq (.reg (
    .op (some 6) (.mov (.k (.bool true))) <|
    .nil)) <|
  .ret
theorem ok73 : FnOk Tryz.prog 73 32 ir73 [.tmp 6] := FnOk.of Tryz.func73 (by kernel_rfl) (by kernel_rfl) (by kernel_rfl) (by kernel_rfl)
/-- slices.EqualFunc   manifold/api.Value,  manifold/api.Value,manifold/api.Value,manifold/api.Value  -/
def ir72 : Ic :=
  .seq (.dn (.reg (
    .op (some 6) (.mov (.k (.bool false))) <|
    .nil)) [6]) <|
  .seq (.seq (.dn (.reg (
    .op (some 10) (.mov (.t 0)) <|
    .op (some 11) (.len (.t 10)) <|
    .op (some 12) (.mov (.t 1)) <|
    .op (some 13) (.len (.t 12)) <|
    .op (some 14) (.bin .neq (.t 11) (.t 13)) <|
    .nil)) [10, 11, 12, 13]) <|
  .dn (.ite (.t 14) (.seq (.dn (.reg (
      .op (some 6) (.mov (.k (.bool false))) <|
      .nil)) [0, 1, 2, 14]) <|
    .ret)
    (.skip)) [6, 14]) <|
  .seq (.seq (.dn (.reg (
    .op (some 15) (.mov (.t 0)) <|
    .op (some 16) (.len (.t 15)) <|
    .op (some 17) (.mov (.k (.int .i64 0))) <|
    .nil)) [0]) <|
  .dn (.block 0 (
    .loop (
      .seq (.reg (
        .op (some 18) (.bin .lss (.t 17) (.t 16)) <|
        .nil)) <|
      .seq (.dn (.ite (.t 18) (.skip)
        (.exit 0)) [18]) <|
      .seq (.dn (.block 1 (
        .seq (.dn (.reg (
          .op (some 19) (.mov (.t 17)) <|
          .op (some 20) (.ixa true 6 (.t 15) (.t 17)) <|
          .op (some 21) (.ld (some 6) (.t 20)) <|
          .op (some 8) (.new [(.int .i64 0), (.int .i64 0), (.int .i64 0), (.str []), (.nil 6), (.nil 7)]) <|
          .op (some 7) (.mov (.t 19)) <|
          .op none (.sto (some 6) (.t 8) (.t 21)) <|
          .nil)) [19, 20, 21]) <|
        .seq (.dn (.reg (
          .op (some 22) (.mov (.t 1)) <|
          .op (some 23) (.mov (.t 7)) <|
          .op (some 24) (.ixa true 6 (.t 22) (.t 23)) <|
          .op (some 25) (.ld (some 6) (.t 24)) <|
          .op (some 9) (.new [(.int .i64 0), (.int .i64 0), (.int .i64 0), (.str []), (.nil 6), (.nil 7)]) <|
          .op none (.sto (some 6) (.t 9) (.t 25)) <|
          .nil)) [7, 22, 23, 24, 25]) <|
        .seq (.dn (.reg (
          .op (some 26) (.mov (.t 2)) <|
          .op (some 27) (.ld (some 6) (.t 8)) <|
          .op (some 28) (.ld (some 6) (.t 9)) <|
          .call (some 29) (.dyn (.t 26)) [(.t 27), (.t 28)] <|
          .op (some 30) (.not (.t 29)) <|
          .nil)) [8, 9, 26, 27, 28, 29]) <|
        .dn (.ite (.t 30) (.seq (.dn (.reg (
            .op (some 6) (.mov (.k (.bool false))) <|
            .nil)) [1, 2, 15, 16, 17, 30]) <|
          .ret)
          (.skip)) [6, 30])) [19, 20, 21, 8, 7, 22, 23, 24, 25, 9, 26, 27, 28, 29, 30, 6]) <|
      .dn (.reg (
        .op (some 31) (.bin .add (.t 17) (.k (.int .i64 1))) <|
        .op (some 17) (.mov (.t 31)) <|
        .nil)) [31]))) [1, 2, 15, 16, 17, 18, 19, 20, 21, 8, 7, 22, 23, 24, 25, 9, 26, 27, 28, 29, 30, 6, 31]) <|
  .seq (.reg (
    .op (some 6) (.mov (.k (.bool true))) <|
    .nil)) <|
  .ret
theorem ok72 : FnOk Tryz.prog 72 32 ir72 [.tmp 6] := FnOk.of Tryz.func72 (by kernel_rfl) (by kernel_rfl) (by kernel_rfl) (by kernel_rfl)
/-- slices.EqualFunc   manifold/api.Type,  manifold/api.Type,manifold/api.Type,manifold/api.Type  -/
def ir353 : Ic :=
  .seq (.dn (.reg (
    .op (some 6) (.mov (.k (.bool false))) <|
    .nil)) [6]) <|
  .seq (.seq (.dn (.reg (
    .op (some 10) (.mov (.t 0)) <|
    .op (some 11) (.len (.t 10)) <|
    .op (some 12) (.mov (.t 1)) <|
    .op (some 13) (.len (.t 12)) <|
    .op (some 14) (.bin .neq (.t 11) (.t 13)) <|
    .nil)) [10, 11, 12, 13]) <|
  .dn (.ite (.t 14) (.seq (.dn (.reg (
      .op (some 6) (.mov (.k (.bool false))) <|
      .nil)) [0, 1, 2, 14]) <|
    .ret)
    (.skip)) [6, 14]) <|
  .seq (.seq (.dn (.reg (
    .op (some 15) (.mov (.t 0)) <|
    .op (some 16) (.len (.t 15)) <|
    .op (some 17) (.mov (.k (.int .i64 0))) <|
    .nil)) [0]) <|
  .dn (.block 0 (
    .loop (
      .seq (.reg (
        .op (some 18) (.bin .lss (.t 17) (.t 16)) <|
        .nil)) <|
      .seq (.dn (.ite (.t 18) (.skip)
        (.exit 0)) [18]) <|
      .seq (.dn (.block 1 (
        .seq (.dn (.reg (
          .op (some 19) (.mov (.t 17)) <|
          .op (some 20) (.ixa true 7 (.t 15) (.t 17)) <|
          .op (some 21) (.ld (some 7) (.t 20)) <|
          .op (some 8) (.new [(.int .i64 0), (.int .i64 0), (.int .i64 0), (.int .i64 0), (.nil 1), (.nil 7), (.nil 11)]) <|
          .op (some 7) (.mov (.t 19)) <|
          .op none (.sto (some 7) (.t 8) (.t 21)) <|
          .nil)) [19, 20, 21]) <|
        .seq (.dn (.reg (
          .op (some 22) (.mov (.t 1)) <|
          .op (some 23) (.mov (.t 7)) <|
          .op (some 24) (.ixa true 7 (.t 22) (.t 23)) <|
          .op (some 25) (.ld (some 7) (.t 24)) <|
          .op (some 9) (.new [(.int .i64 0), (.int .i64 0), (.int .i64 0), (.int .i64 0), (.nil 1), (.nil 7), (.nil 11)]) <|
          .op none (.sto (some 7) (.t 9) (.t 25)) <|
          .nil)) [7, 22, 23, 24, 25]) <|
        .seq (.dn (.reg (
          .op (some 26) (.mov (.t 2)) <|
          .op (some 27) (.ld (some 7) (.t 8)) <|
          .op (some 28) (.ld (some 7) (.t 9)) <|
          .call (some 29) (.dyn (.t 26)) [(.t 27), (.t 28)] <|
          .op (some 30) (.not (.t 29)) <|
          .nil)) [8, 9, 26, 27, 28, 29]) <|
        .dn (.ite (.t 30) (.seq (.dn (.reg (
            .op (some 6) (.mov (.k (.bool false))) <|
            .nil)) [1, 2, 15, 16, 17, 30]) <|
          .ret)
          (.skip)) [6, 30])) [19, 20, 21, 8, 7, 22, 23, 24, 25, 9, 26, 27, 28, 29, 30, 6]) <|
      .dn (.reg (
        .op (some 31) (.bin .add (.t 17) (.k (.int .i64 1))) <|
        .op (some 17) (.mov (.t 31)) <|
        .nil)) [31]))) [1, 2, 15, 16, 17, 18, 19, 20, 21, 8, 7, 22, 23, 24, 25, 9, 26, 27, 28, 29, 30, 6, 31]) <|
  .seq (.reg (
    .op (some 6) (.mov (.k (.bool true))) <|
    .nil)) <|
  .ret
theorem ok353 : FnOk Tryz.prog 353 32 ir353 [.tmp 6] := FnOk.of Tryz.func353 (by kernel_rfl) (by kernel_rfl) (by kernel_rfl) (by kernel_rfl)
/-- slices.EqualFunc   manifold/api.TypeField,  manifold/api.TypeField,manifold/api.TypeField,manifold/api.TypeField  -/
def ir354 : Ic :=
  .seq (.dn (.reg (
    .op (some 6) (.mov (.k (.bool false))) <|
    .nil)) [6]) <|
  .seq (.seq (.dn (.reg (
    .op (some 10) (.mov (.t 0)) <|
    .op (some 11) (.len (.t 10)) <|
    .op (some 12) (.mov (.t 1)) <|
    .op (some 13) (.len (.t 12)) <|
    .op (some 14) (.bin .neq (.t 11) (.t 13)) <|
    .nil)) [10, 11, 12, 13]) <|
  .dn (.ite (.t 14) (.seq (.dn (.reg (
      .op (some 6) (.mov (.k (.bool false))) <|
      .nil)) [0, 1, 2, 14]) <|
    .ret)
    (.skip)) [6, 14]) <|
  .seq (.seq (.dn (.reg (
    .op (some 15) (.mov (.t 0)) <|
    .op (some 16) (.len (.t 15)) <|
    .op (some 17) (.mov (.k (.int .i64 0))) <|
    .nil)) [0]) <|
  .dn (.block 0 (
    .loop (
      .seq (.reg (
        .op (some 18) (.bin .lss (.t 17) (.t 16)) <|
        .nil)) <|
      .seq (.dn (.ite (.t 18) (.skip)
        (.exit 0)) [18]) <|
      .seq (.dn (.block 1 (
        .seq (.dn (.reg (
          .op (some 19) (.mov (.t 17)) <|
          .op (some 20) (.ixa true 11 (.t 15) (.t 17)) <|
          .op (some 21) (.ld (some 11) (.t 20)) <|
          .op (some 8) (.new [(.int .i64 0), (.str []), (.int .i64 0), (.int .i64 0), (.int .i64 0), (.int .i64 0), (.int .i64 0), (.nil 1), (.nil 7), (.nil 11), (.nil 6)]) <|
          .op (some 7) (.mov (.t 19)) <|
          .op none (.sto (some 11) (.t 8) (.t 21)) <|
          .nil)) [19, 20, 21]) <|
        .seq (.dn (.reg (
          .op (some 22) (.mov (.t 1)) <|
          .op (some 23) (.mov (.t 7)) <|
          .op (some 24) (.ixa true 11 (.t 22) (.t 23)) <|
          .op (some 25) (.ld (some 11) (.t 24)) <|
          .op (some 9) (.new [(.int .i64 0), (.str []), (.int .i64 0), (.int .i64 0), (.int .i64 0), (.int .i64 0), (.int .i64 0), (.nil 1), (.nil 7), (.nil 11), (.nil 6)]) <|
          .op none (.sto (some 11) (.t 9) (.t 25)) <|
          .nil)) [7, 22, 23, 24, 25]) <|
        .seq (.dn (.reg (
          .op (some 26) (.mov (.t 2)) <|
          .op (some 27) (.ld (some 11) (.t 8)) <|
          .op (some 28) (.ld (some 11) (.t 9)) <|
          .call (some 29) (.dyn (.t 26)) [(.t 27), (.t 28)] <|
          .op (some 30) (.not (.t 29)) <|
          .nil)) [8, 9, 26, 27, 28, 29]) <|
        .dn (.ite (.t 30) (.seq (.dn (.reg (
            .op (some 6) (.mov (.k (.bool false))) <|
            .nil)) [1, 2, 15, 16, 17, 30]) <|
          .ret)
          (.skip)) [6, 30])) [19, 20, 21, 8, 7, 22, 23, 24, 25, 9, 26, 27, 28, 29, 30, 6]) <|
      .dn (.reg (
        .op (some 31) (.bin .add (.t 17) (.k (.int .i64 1))) <|
        .op (some 17) (.mov (.t 31)) <|
        .nil)) [31]))) [1, 2, 15, 16, 17, 18, 19, 20, 21, 8, 7, 22, 23, 24, 25, 9, 26, 27, 28, 29, 30, 6, 31]) <|
  .seq (.reg (
    .op (some 6) (.mov (.k (.bool true))) <|
    .nil)) <|
  .ret
theorem ok354 : FnOk Tryz.prog 354 32 ir354 [.tmp 6] := FnOk.of Tryz.func354 (by kernel_rfl) (by kernel_rfl) (by kernel_rfl) (by kernel_rfl)
/-- manifold/value.Equal -/
def ir16 : Ic :=
  .seq (.dn (.reg (
    .op (some 2) (.box (.t 0)) <|
    .op (some 3) (.box (.t 1)) <|
    .op (some 4) (.mov (.k (.bool false))) <|
    .nil)) [0, 1, 4]) <|
  .seq (.dn (.reg (
    .op (some 5) (.ld (some 6) (.t 2)) <|
    .op (some 6) (.ld (some 6) (.t 3)) <|
    .call (some 7) (.fn 51) [(.t 5), (.t 6)] <|
    .op (some 8) (.bin .eql (.t 7) (.k (.int .i64 0))) <|
    .op (some 4) (.mov (.t 8)) <|
    .nil)) [2, 3, 5, 6, 7, 8]) <|
  .ret
theorem ok16 : FnOk Tryz.prog 16 9 ir16 [.tmp 4] := FnOk.of Tryz.func16 (by kernel_rfl) (by kernel_rfl) (by kernel_rfl) (by kernel_rfl)
/-- manifold/value.Compare -/
def ir51 : Ic :=
  .seq (.dn (.reg (
    .op (some 2) (.box (.t 0)) <|
    .op (some 3) (.box (.t 1)) <|
    .op (some 4) (.mov (.k (.int .i64 0))) <|
    .nil)) [0, 1, 4]) <|
  .seq (.dn (.regd [(4, 6), (4, 8), (4, 11), (9, 11), (4, 13), (9, 13), (4, 16), (9, 16), (14, 16), (4, 18), (9, 18), (14, 18), (4, 21), (9, 21), (14, 21), (19, 21), (4, 23), (9, 23), (14, 23), (19, 23), (4, 26), (9, 26), (14, 26), (19, 26), (24, 26), (4, 28), (9, 28), (14, 28), (19, 28), (24, 28)] (
    .op (some 5) (.fa (.t 2) 0) <|
    .op (some 6) (.ld none (.t 5)) <|
    .op (some 7) (.fa (.t 3) 0) <|
    .op (some 8) (.ld none (.t 7)) <|
    .call (some 9) (.fn 63) [(.t 6), (.t 8)] <|
    .op (some 10) (.fa (.t 2) 1) <|
    .op (some 11) (.ld none (.t 10)) <|
    .op (some 12) (.fa (.t 3) 1) <|
    .op (some 13) (.ld none (.t 12)) <|
    .call (some 14) (.fn 63) [(.t 11), (.t 13)] <|
    .op (some 15) (.fa (.t 2) 2) <|
    .op (some 16) (.ld none (.t 15)) <|
    .op (some 17) (.fa (.t 3) 2) <|
    .op (some 18) (.ld none (.t 17)) <|
    .call (some 19) (.fn 63) [(.t 16), (.t 18)] <|
    .op (some 20) (.fa (.t 2) 3) <|
    .op (some 21) (.ld none (.t 20)) <|
    .op (some 22) (.fa (.t 3) 3) <|
    .op (some 23) (.ld none (.t 22)) <|
    .call (some 24) (.fn 78) [(.t 21), (.t 23)] <|
    .op (some 25) (.fa (.t 2) 4) <|
    .op (some 26) (.ld none (.t 25)) <|
    .op (some 27) (.fa (.t 3) 4) <|
    .op (some 28) (.ld none (.t 27)) <|
    .call (some 29) (.fn 116) [(.t 26), (.t 28), (.k (.fn (.func 51) [] []))] <|
    .op (some 30) (.fa (.t 2) 5) <|
    .op (some 31) (.ld none (.t 30)) <|
    .op (some 32) (.fa (.t 3) 5) <|
    .op (some 33) (.ld none (.t 32)) <|
    .call (some 34) (.fn 117) [(.t 31), (.t 33), (.k (.fn (.func 118) [] []))] <|
    .op (some 35) (.bls 1 [(.t 9), (.t 14), (.t 19), (.t 24), (.t 29), (.t 34)]) <|
    .call (some 36) (.fn 62) [(.t 35)] <|
    .op (some 4) (.mov (.t 36)) <|
    .nil)) [2, 3, 5, 6, 7, 8, 9, 10, 11, 12, 13, 14, 15, 16, 17, 18, 19, 20, 21, 22, 23, 24, 25, 26, 27, 28, 29, 30, 31, 32, 33, 34, 35, 36]) <|
  .ret
theorem ok51 : FnOk Tryz.prog 51 37 ir51 [.tmp 4] := FnOk.of Tryz.func51 (by kernel_rfl) (by kernel_rfl) (by kernel_rfl) (by kernel_rfl)
/-- manifold/value.Compare$1 -/
def ir118 : Ic :=
  .seq (.dn (.reg (
    .op (some 2) (.box (.t 0)) <|
    .op (some 3) (.box (.t 1)) <|
    .op (some 4) (.mov (.k (.int .i64 0))) <|
    .nil)) [0, 1, 4]) <|
  .seq (.dn (.regd [(4, 6), (4, 8)] (
    .op (some 5) (.fa (.t 2) 0) <|
    .op (some 6) (.ld none (.t 5)) <|
    .op (some 7) (.fa (.t 3) 0) <|
    .op (some 8) (.ld none (.t 7)) <|
    .call (some 9) (.fn 78) [(.t 6), (.t 8)] <|
    .op (some 10) (.fa (.t 2) 1) <|
    .op (some 11) (.ld (some 6) (.t 10)) <|
    .op (some 12) (.fa (.t 3) 1) <|
    .op (some 13) (.ld (some 6) (.t 12)) <|
    .call (some 14) (.fn 51) [(.t 11), (.t 13)] <|
    .op (some 15) (.bls 1 [(.t 9), (.t 14)]) <|
    .call (some 16) (.fn 62) [(.t 15)] <|
    .op (some 4) (.mov (.t 16)) <|
    .nil)) [2, 3, 5, 6, 7, 8, 9, 10, 11, 12, 13, 14, 15, 16]) <|
  .ret
theorem ok118 : FnOk Tryz.prog 118 17 ir118 [.tmp 4] := FnOk.of Tryz.func118 (by kernel_rfl) (by kernel_rfl) (by kernel_rfl) (by kernel_rfl)
/-- strings.Compare -/
def ir78 : Ic :=
  .seq (.dn (.reg (
    .op (some 4) (.mov (.k (.int .i64 0))) <|
    .nil)) [4]) <|
  .seq (.dn (.reg (
    .op (some 5) (.mov (.t 0)) <|
    .op (some 6) (.mov (.t 1)) <|
    .call (some 7) (.fn 146) [(.t 5), (.t 6)] <|
    .op (some 4) (.mov (.t 7)) <|
    .nil)) [0, 1, 5, 6, 7]) <|
  .ret
theorem ok78 : FnOk Tryz.prog 78 8 ir78 [.tmp 4] := FnOk.of Tryz.func78 (by kernel_rfl) (by kernel_rfl) (by kernel_rfl) (by kernel_rfl)
/-- cmp.Compare int  -/
def ir63 : Ic :=
  .seq (.dn (.reg (
    .op (some 4) (.mov (.k (.int .i64 0))) <|
    .nil)) [4]) <|
  .seq (.dn (.reg (
    .op (some 7) (.mov (.t 0)) <|
    .call (some 8) (.fn 138) [(.t 7)] <|
    .op (some 5) (.mov (.t 8)) <|
    .nil)) [7, 8]) <|
  .seq (.dn (.reg (
    .op (some 9) (.mov (.t 1)) <|
    .call (some 10) (.fn 138) [(.t 9)] <|
    .op (some 6) (.mov (.t 10)) <|
    .nil)) [9, 10]) <|
  .seq (.seq (.dn (.reg (
    .op (some 11) (.mov (.t 5)) <|
    .nil)) [5]) <|
  .dn (.ite (.t 11) (.seq (.seq (.dn (.reg (
      .op (some 12) (.mov (.t 6)) <|
      .nil)) [0, 1, 6, 11]) <|
    .dn (.ite (.t 12) (.seq (.dn (.reg (
        .op (some 4) (.mov (.k (.int .i64 0))) <|
        .nil)) [12]) <|
      .ret)
      (.skip)) [4, 12]) <|
    .seq (.reg (
      .op (some 4) (.mov (.k (.int .i64 (-1)))) <|
      .nil)) <|
    .ret)
    (.skip)) [4, 11]) <|
  .seq (.seq (.dn (.reg (
    .op (some 13) (.mov (.t 6)) <|
    .nil)) [6]) <|
  .dn (.ite (.t 13) (.seq (.dn (.reg (
      .op (some 4) (.mov (.k (.int .i64 1))) <|
      .nil)) [0, 1, 13]) <|
    .ret)
    (.skip)) [4, 13]) <|
  .seq (.seq (.dn (.reg (
    .op (some 14) (.mov (.t 0)) <|
    .op (some 15) (.mov (.t 1)) <|
    .op (some 16) (.bin .lss (.t 14) (.t 15)) <|
    .nil)) [14, 15]) <|
  .dn (.ite (.t 16) (.seq (.dn (.reg (
      .op (some 4) (.mov (.k (.int .i64 (-1)))) <|
      .nil)) [0, 1, 16]) <|
    .ret)
    (.skip)) [4, 16]) <|
  .seq (.seq (.dn (.reg (
    .op (some 17) (.mov (.t 0)) <|
    .op (some 18) (.mov (.t 1)) <|
    .op (some 19) (.bin .gtr (.t 17) (.t 18)) <|
    .nil)) [0, 1, 17, 18]) <|
  .dn (.ite (.t 19) (.seq (.dn (.reg (
      .op (some 4) (.mov (.k (.int .i64 1))) <|
      .nil)) [19]) <|
    .ret)
    (.skip)) [4, 19]) <|
  .seq (.reg (
    .op (some 4) (.mov (.k (.int .i64 0))) <|
    .nil)) <|
  .ret
theorem ok63 : FnOk Tryz.prog 63 20 ir63 [.tmp 4] := FnOk.of Tryz.func63 (by kernel_rfl) (by kernel_rfl) (by kernel_rfl) (by kernel_rfl)
/-- cmp.Or int  -/
def ir62 : Ic :=
  .seq (.dn (.reg (
    .op (some 2) (.mov (.k (.int .i64 0))) <|
    .nil)) [2]) <|
  .seq (.reg (
    .op (some 3) (.mov (.k (.int .i64 0))) <|
    .nil)) <|
  .seq (.seq (.dn (.reg (
    .op (some 6) (.mov (.t 0)) <|
    .op (some 7) (.len (.t 6)) <|
    .op (some 8) (.mov (.k (.int .i64 0))) <|
    .nil)) [0]) <|
  .dn (.block 0 (
    .loop (
      .seq (.reg (
        .op (some 9) (.bin .lss (.t 8) (.t 7)) <|
        .nil)) <|
      .seq (.dn (.ite (.t 9) (.skip)
        (.exit 0)) [9]) <|
      .seq (.dn (.block 1 (
        .seq (.dn (.reg (
          .op (some 10) (.ixa false 1 (.t 6) (.t 8)) <|
          .op (some 11) (.ld none (.t 10)) <|
          .op (some 5) (.mov (.t 11)) <|
          .nil)) [10, 11]) <|
        .seq (.dn (.reg (
          .op (some 12) (.mov (.t 5)) <|
          .op (some 13) (.mov (.t 3)) <|
          .op (some 14) (.bin .neq (.t 12) (.t 13)) <|
          .nil)) [12, 13]) <|
        .dn (.ite (.t 14) (.seq (.dn (.reg (
            .op (some 15) (.mov (.t 5)) <|
            .op (some 2) (.mov (.t 15)) <|
            .nil)) [3, 6, 7, 8, 5, 14, 15]) <|
          .ret)
          (.skip)) [2, 5, 14])) [10, 11, 5, 12, 13, 14, 15, 2]) <|
      .dn (.reg (
        .op (some 16) (.bin .add (.t 8) (.k (.int .i64 1))) <|
        .op (some 8) (.mov (.t 16)) <|
        .nil)) [16]))) [6, 7, 8, 9, 10, 11, 5, 12, 13, 14, 15, 2, 16]) <|
  .seq (.dn (.reg (
    .op (some 17) (.mov (.t 3)) <|
    .op (some 2) (.mov (.t 17)) <|
    .nil)) [3, 17]) <|
  .ret
theorem ok62 : FnOk Tryz.prog 62 18 ir62 [.tmp 2] := FnOk.of Tryz.func62 (by kernel_rfl) (by kernel_rfl) (by kernel_rfl) (by kernel_rfl)
/-- slices.CompareFunc   manifold/api.Value,  manifold/api.Value,manifold/api.Value,manifold/api.Value  -/
def ir116 : Ic :=
  .seq (.dn (.reg (
    .op (some 6) (.mov (.k (.int .i64 0))) <|
    .nil)) [6]) <|
  .seq (.seq (.reg (
    .op (some 11) (.mov (.t 0)) <|
    .op (some 12) (.len (.t 11)) <|
    .op (some 13) (.mov (.k (.int .i64 0))) <|
    .nil)) <|
  .dn (.block 0 (
    .loop (
      .seq (.reg (
        .op (some 14) (.bin .lss (.t 13) (.t 12)) <|
        .nil)) <|
      .seq (.dn (.ite (.t 14) (.skip)
        (.exit 0)) [14]) <|
      .seq (.dn (.block 1 (
        .seq (.dn (.reg (
          .op (some 15) (.mov (.t 13)) <|
          .op (some 16) (.ixa true 6 (.t 11) (.t 13)) <|
          .op (some 17) (.ld (some 6) (.t 16)) <|
          .op (some 8) (.new [(.int .i64 0), (.int .i64 0), (.int .i64 0), (.str []), (.nil 6), (.nil 7)]) <|
          .op (some 7) (.mov (.t 15)) <|
          .op none (.sto (some 6) (.t 8) (.t 17)) <|
          .nil)) [15, 16, 17]) <|
        .seq (.seq (.dn (.reg (
          .op (some 18) (.mov (.t 7)) <|
          .op (some 19) (.mov (.t 1)) <|
          .op (some 20) (.len (.t 19)) <|
          .op (some 21) (.bin .geq (.t 18) (.t 20)) <|
          .nil)) [18, 19, 20]) <|
        .dn (.ite (.t 21) (.seq (.dn (.reg (
            .op (some 6) (.mov (.k (.int .i64 1))) <|
            .nil)) [0, 1, 2, 11, 12, 13, 8, 7, 21]) <|
          .ret)
          (.skip)) [6, 21]) <|
        .seq (.dn (.reg (
          .op (some 22) (.mov (.t 1)) <|
          .op (some 23) (.mov (.t 7)) <|
          .op (some 24) (.ixa true 6 (.t 22) (.t 23)) <|
          .op (some 25) (.ld (some 6) (.t 24)) <|
          .op (some 9) (.new [(.int .i64 0), (.int .i64 0), (.int .i64 0), (.str []), (.nil 6), (.nil 7)]) <|
          .op none (.sto (some 6) (.t 9) (.t 25)) <|
          .nil)) [7, 22, 23, 24, 25]) <|
        .seq (.dn (.reg (
          .op (some 26) (.mov (.t 2)) <|
          .op (some 27) (.ld (some 6) (.t 8)) <|
          .op (some 28) (.ld (some 6) (.t 9)) <|
          .call (some 29) (.dyn (.t 26)) [(.t 27), (.t 28)] <|
          .op (some 10) (.mov (.t 29)) <|
          .nil)) [8, 9, 26, 27, 28, 29]) <|
        .seq (.dn (.reg (
          .op (some 30) (.mov (.t 10)) <|
          .op (some 31) (.bin .neq (.t 30) (.k (.int .i64 0))) <|
          .nil)) [30]) <|
        .dn (.ite (.t 31) (.seq (.dn (.reg (
            .op (some 32) (.mov (.t 10)) <|
            .op (some 6) (.mov (.t 32)) <|
            .nil)) [0, 1, 2, 11, 12, 13, 10, 31, 32]) <|
          .ret)
          (.skip)) [6, 10, 31])) [15, 16, 17, 8, 7, 18, 19, 20, 21, 6, 22, 23, 24, 25, 9, 26, 27, 28, 29, 10, 30, 31, 32]) <|
      .dn (.reg (
        .op (some 33) (.bin .add (.t 13) (.k (.int .i64 1))) <|
        .op (some 13) (.mov (.t 33)) <|
        .nil)) [33]))) [2, 11, 12, 13, 14, 15, 16, 17, 8, 7, 18, 19, 20, 21, 6, 22, 23, 24, 25, 9, 26, 27, 28, 29, 10, 30, 31, 32, 33]) <|
  .seq (.seq (.dn (.reg (
    .op (some 34) (.mov (.t 0)) <|
    .op (some 35) (.len (.t 34)) <|
    .op (some 36) (.mov (.t 1)) <|
    .op (some 37) (.len (.t 36)) <|
    .op (some 38) (.bin .lss (.t 35) (.t 37)) <|
    .nil)) [0, 1, 34, 35, 36, 37]) <|
  .dn (.ite (.t 38) (.seq (.dn (.reg (
      .op (some 6) (.mov (.k (.int .i64 (-1)))) <|
      .nil)) [38]) <|
    .ret)
    (.skip)) [6, 38]) <|
  .seq (.reg (
    .op (some 6) (.mov (.k (.int .i64 0))) <|
    .nil)) <|
  .ret
theorem ok116 : FnOk Tryz.prog 116 39 ir116 [.tmp 6] := FnOk.of Tryz.func116 (by kernel_rfl) (by kernel_rfl) (by kernel_rfl) (by kernel_rfl)
/-- slices.CompareFunc   manifold/api.Field,  manifold/api.Field,manifold/api.Field,manifold/api.Field  -/
def ir117 : Ic :=
  .seq (.dn (.reg (
    .op (some 6) (.mov (.k (.int .i64 0))) <|
    .nil)) [6]) <|
  .seq (.seq (.reg (
    .op (some 11) (.mov (.t 0)) <|
    .op (some 12) (.len (.t 11)) <|
    .op (some 13) (.mov (.k (.int .i64 0))) <|
    .nil)) <|
  .dn (.block 0 (
    .loop (
      .seq (.reg (
        .op (some 14) (.bin .lss (.t 13) (.t 12)) <|
        .nil)) <|
      .seq (.dn (.ite (.t 14) (.skip)
        (.exit 0)) [14]) <|
      .seq (.dn (.block 1 (
        .seq (.dn (.reg (
          .op (some 15) (.mov (.t 13)) <|
          .op (some 16) (.ixa true 7 (.t 11) (.t 13)) <|
          .op (some 17) (.ld (some 7) (.t 16)) <|
          .op (some 8) (.new [(.str []), (.int .i64 0), (.int .i64 0), (.int .i64 0), (.str []), (.nil 6), (.nil 7)]) <|
          .op (some 7) (.mov (.t 15)) <|
          .op none (.sto (some 7) (.t 8) (.t 17)) <|
          .nil)) [15, 16, 17]) <|
        .seq (.seq (.dn (.reg (
          .op (some 18) (.mov (.t 7)) <|
          .op (some 19) (.mov (.t 1)) <|
          .op (some 20) (.len (.t 19)) <|
          .op (some 21) (.bin .geq (.t 18) (.t 20)) <|
          .nil)) [18, 19, 20]) <|
        .dn (.ite (.t 21) (.seq (.dn (.reg (
            .op (some 6) (.mov (.k (.int .i64 1))) <|
            .nil)) [0, 1, 2, 11, 12, 13, 8, 7, 21]) <|
          .ret)
          (.skip)) [6, 21]) <|
        .seq (.dn (.reg (
          .op (some 22) (.mov (.t 1)) <|
          .op (some 23) (.mov (.t 7)) <|
          .op (some 24) (.ixa true 7 (.t 22) (.t 23)) <|
          .op (some 25) (.ld (some 7) (.t 24)) <|
          .op (some 9) (.new [(.str []), (.int .i64 0), (.int .i64 0), (.int .i64 0), (.str []), (.nil 6), (.nil 7)]) <|
          .op none (.sto (some 7) (.t 9) (.t 25)) <|
          .nil)) [7, 22, 23, 24, 25]) <|
        .seq (.dn (.reg (
          .op (some 26) (.mov (.t 2)) <|
          .op (some 27) (.ld (some 7) (.t 8)) <|
          .op (some 28) (.ld (some 7) (.t 9)) <|
          .call (some 29) (.dyn (.t 26)) [(.t 27), (.t 28)] <|
          .op (some 10) (.mov (.t 29)) <|
          .nil)) [8, 9, 26, 27, 28, 29]) <|
        .seq (.dn (.reg (
          .op (some 30) (.mov (.t 10)) <|
          .op (some 31) (.bin .neq (.t 30) (.k (.int .i64 0))) <|
          .nil)) [30]) <|
        .dn (.ite (.t 31) (.seq (.dn (.reg (
            .op (some 32) (.mov (.t 10)) <|
            .op (some 6) (.mov (.t 32)) <|
            .nil)) [0, 1, 2, 11, 12, 13, 10, 31, 32]) <|
          .ret)
          (.skip)) [6, 10, 31])) [15, 16, 17, 8, 7, 18, 19, 20, 21, 6, 22, 23, 24, 25, 9, 26, 27, 28, 29, 10, 30, 31, 32]) <|
      .dn (.reg (
        .op (some 33) (.bin .add (.t 13) (.k (.int .i64 1))) <|
        .op (some 13) (.mov (.t 33)) <|
        .nil)) [33]))) [2, 11, 12, 13, 14, 15, 16, 17, 8, 7, 18, 19, 20, 21, 6, 22, 23, 24, 25, 9, 26, 27, 28, 29, 10, 30, 31, 32, 33]) <|
  .seq (.seq (.dn (.reg (
    .op (some 34) (.mov (.t 0)) <|
    .op (some 35) (.len (.t 34)) <|
    .op (some 36) (.mov (.t 1)) <|
    .op (some 37) (.len (.t 36)) <|
    .op (some 38) (.bin .lss (.t 35) (.t 37)) <|
    .nil)) [0, 1, 34, 35, 36, 37]) <|
  .dn (.ite (.t 38) (.seq (.dn (.reg (
      .op (some 6) (.mov (.k (.int .i64 (-1)))) <|
      .nil)) [38]) <|
    .ret)
    (.skip)) [6, 38]) <|
  .seq (.reg (
    .op (some 6) (.mov (.k (.int .i64 0))) <|
    .nil)) <|
  .ret
theorem ok117 : FnOk Tryz.prog 117 39 ir117 [.tmp 6] := FnOk.of Tryz.func117 (by kernel_rfl) (by kernel_rfl) (by kernel_rfl) (by kernel_rfl)
/-- internal/bytealg.CompareString -/
def ir146 : Ic :=
  .seq (.dn (.reg (
    .op (some 4) (.mov (.k (.int .i64 0))) <|
    .nil)) [4]) <|
  .seq (.dn (.reg (
    .op (some 5) (.mov (.t 0)) <|
    .op (some 6) (.mov (.t 1)) <|
    .call (some 7) (.fn 217) [(.t 5), (.t 6)] <|
    .op (some 4) (.mov (.t 7)) <|
    .nil)) [0, 1, 5, 6, 7]) <|
  .ret
theorem ok146 : FnOk Tryz.prog 146 8 ir146 [.tmp 4] := FnOk.of Tryz.func146 (by kernel_rfl) (by kernel_rfl) (by kernel_rfl) (by kernel_rfl)
/-- cmp.isNaN int  -/
def ir138 : Ic :=
  .seq (.dn (.reg (
    .op (some 2) (.mov (.k (.bool false))) <|
    .nil)) [2]) <|
  .seq (.dn (.reg (
    .op (some 3) (.mov (.t 0)) <|
    .op (some 4) (.mov (.t 0)) <|
    .op (some 5) (.bin .neq (.t 3) (.t 4)) <|
    .op (some 2) (.mov (.t 5)) <|
    .nil)) [0, 3, 4, 5]) <|
  .ret
theorem ok138 : FnOk Tryz.prog 138 6 ir138 [.tmp 2] := FnOk.of Tryz.func138 (by kernel_rfl) (by kernel_rfl) (by kernel_rfl) (by kernel_rfl)
/-- manifold/value.Clone -/
def ir55 : Ic :=
  .seq (.dn (.reg (
    .op (some 1) (.box (.t 0)) <|
    .op (some 2) (.new [(.int .i64 0), (.int .i64 0), (.int .i64 0), (.str []), (.nil 6), (.nil 7)]) <|
    .nil)) [0]) <|
  .seq (.dn (.reg (
    .op (some 8) (.ld (some 6) (.t 1)) <|
    .op (some 3) (.new [(.int .i64 0), (.int .i64 0), (.int .i64 0), (.str []), (.nil 6), (.nil 7)]) <|
    .op none (.sto (some 6) (.t 3) (.t 8)) <|
    .nil)) [8]) <|
  .seq (.dn (.reg (
    .op (some 9) (.fa (.t 3) 4) <|
    .op none (.sto none (.t 9) (.k (.nil 6))) <|
    .op (some 10) (.fa (.t 3) 5) <|
    .op none (.sto none (.t 10) (.k (.nil 7))) <|
    .nil)) [9, 10]) <|
  .seq (.seq (.dn (.reg (
    .op (some 11) (.fa (.t 1) 4) <|
    .op (some 12) (.ld none (.t 11)) <|
    .op (some 13) (.len (.t 12)) <|
    .op (some 14) (.mov (.k (.int .i64 0))) <|
    .nil)) [11]) <|
  .dn (.block 0 (
    .loop (
      .seq (.reg (
        .op (some 15) (.bin .lss (.t 14) (.t 13)) <|
        .nil)) <|
      .seq (.dn (.ite (.t 15) (.skip)
        (.exit 0)) [15]) <|
      .seq (.dn (.block 1 (
        .seq (.dn (.reg (
          .op (some 16) (.ixa true 6 (.t 12) (.t 14)) <|
          .op (some 17) (.ld (some 6) (.t 16)) <|
          .op (some 5) (.new [(.int .i64 0), (.int .i64 0), (.int .i64 0), (.str []), (.nil 6), (.nil 7)]) <|
          .op none (.sto (some 6) (.t 5) (.t 17)) <|
          .nil)) [16, 17]) <|
        .dn (.regd [(1, 3), (1, 4)] (
          .op (some 18) (.fa (.t 3) 4) <|
          .op (some 19) (.ld none (.t 18)) <|
          .op (some 20) (.ld (some 6) (.t 5)) <|
          .call (some 21) (.fn 55) [(.t 20)] <|
          .op (some 22) (.bls 6 [(.t 21)]) <|
          .op (some 23) (.app 6 (.t 19) (.t 22)) <|
          .op (some 24) (.fa (.t 3) 4) <|
          .op none (.sto none (.t 24) (.t 23)) <|
          .nil)) [5, 18, 19, 20, 21, 22, 23, 24])) [16, 17, 5, 18, 19, 20, 21, 22, 23, 24]) <|
      .dn (.reg (
        .op (some 25) (.bin .add (.t 14) (.k (.int .i64 1))) <|
        .op (some 14) (.mov (.t 25)) <|
        .nil)) [25]))) [12, 13, 14, 15, 16, 17, 5, 18, 19, 20, 21, 22, 23, 24, 25]) <|
  .seq (.seq (.dn (.reg (
    .op (some 26) (.fa (.t 1) 5) <|
    .op (some 27) (.ld none (.t 26)) <|
    .op (some 28) (.len (.t 27)) <|
    .op (some 29) (.mov (.k (.int .i64 0))) <|
    .nil)) [1, 26]) <|
  .dn (.block 2 (
    .loop (
      .seq (.reg (
        .op (some 30) (.bin .lss (.t 29) (.t 28)) <|
        .nil)) <|
      .seq (.dn (.ite (.t 30) (.skip)
        (.exit 2)) [30]) <|
      .seq (.dn (.block 3 (
        .seq (.dn (.reg (
          .op (some 31) (.ixa true 7 (.t 27) (.t 29)) <|
          .op (some 32) (.ld (some 7) (.t 31)) <|
          .op (some 7) (.new [(.str []), (.int .i64 0), (.int .i64 0), (.int .i64 0), (.str []), (.nil 6), (.nil 7)]) <|
          .op none (.sto (some 7) (.t 7) (.t 32)) <|
          .nil)) [31, 32]) <|
        .dn (.regd [(1, 6), (3, 6), (1, 8)] (
          .op (some 33) (.fa (.t 3) 5) <|
          .op (some 34) (.ld none (.t 33)) <|
          .op (some 35) (.fa (.t 7) 0) <|
          .op (some 36) (.ld none (.t 35)) <|
          .op (some 37) (.fa (.t 7) 1) <|
          .op (some 38) (.ld (some 6) (.t 37)) <|
          .call (some 39) (.fn 55) [(.t 38)] <|
          .op (some 40) (.bld [(.str []), (.int .i64 0), (.int .i64 0), (.int .i64 0), (.str []), (.nil 6), (.nil 7)] [(0, 1, (.t 36)), (1, 6, (.t 39))]) <|
          .op (some 41) (.bls 7 [(.t 40)]) <|
          .op (some 42) (.app 7 (.t 34) (.t 41)) <|
          .op (some 43) (.fa (.t 3) 5) <|
          .op none (.sto none (.t 43) (.t 42)) <|
          .nil)) [7, 33, 34, 35, 36, 37, 38, 39, 40, 41, 42, 43])) [31, 32, 7, 33, 34, 35, 36, 37, 38, 39, 40, 41, 42, 43]) <|
      .dn (.reg (
        .op (some 44) (.bin .add (.t 29) (.k (.int .i64 1))) <|
        .op (some 29) (.mov (.t 44)) <|
        .nil)) [44]))) [27, 28, 29, 30, 31, 32, 7, 33, 34, 35, 36, 37, 38, 39, 40, 41, 42, 43, 44]) <|
  .seq (.dn (.reg (
    .op (some 45) (.ld (some 6) (.t 3)) <|
    .op none (.sto (some 6) (.t 2) (.t 45)) <|
    .nil)) [3, 45]) <|
  .ret
theorem ok55 : FnOk Tryz.prog 55 46 ir55 [.cell 2 (some 6)] := FnOk.of Tryz.func55 (by kernel_rfl) (by kernel_rfl) (by kernel_rfl) (by kernel_rfl)
end Go.Proofs
/- The intermediate forms of functions (printed by a program). -/
namespace Go.Proofs
open Go Av
/-- manifold/mapping.Form -/
def ir41 : Ic :=
  .seq (.dn (.reg (
    .op (some 1) (.box (.t 0)) <|
    .op (some 2) (.mov (.k (.int .i64 0))) <|
    .nil)) [0, 2]) <|
  .seq (.seq (.dn (.reg (
    .op (some 8) (.fa (.t 1) 0) <|
    .op (some 9) (.ld none (.t 8)) <|
    .op (some 10) (.len (.t 9)) <|
    .op (some 11) (.bin .gtr (.t 10) (.k (.int .i64 256))) <|
    .nil)) [8, 9, 10]) <|
  .dn (.ite (.t 11) (.seq (.dn (.reg (
      .op (some 2) (.mov (.k (.int .i64 9))) <|
      .nil)) [1, 11]) <|
    .ret)
    (.skip)) [2, 11]) <|
  .seq (.reg (
    .op (some 3) (.mov (.k (.nil 1))) <|
    .nil)) <|
  .seq (.seq (.dn (.reg (
    .op (some 12) (.fa (.t 1) 0) <|
    .op (some 13) (.ld none (.t 12)) <|
    .op (some 14) (.len (.t 13)) <|
    .op (some 15) (.mov (.k (.int .i64 0))) <|
    .nil)) [1, 12]) <|
  .dn (.block 0 (
    .loop (
      .seq (.reg (
        .op (some 16) (.bin .lss (.t 15) (.t 14)) <|
        .nil)) <|
      .seq (.dn (.ite (.t 16) (.skip)
        (.exit 0)) [16]) <|
      .seq (.dn (.block 1 (
        .seq (.dn (.reg (
          .op (some 17) (.ixa true 6 (.t 13) (.t 15)) <|
          .op (some 18) (.ld (some 6) (.t 17)) <|
          .op (some 5) (.new [(.str []), (.int .i64 0), (.int .i64 0), (.str []), (.nil 6), (.nil 5)]) <|
          .op none (.sto (some 6) (.t 5) (.t 18)) <|
          .nil)) [17, 18]) <|
        .seq (.dn (.reg (
          .op (some 20) (.fa (.t 5) 0) <|
          .op (some 21) (.ld none (.t 20)) <|
          .call (some 22) (.fn 80) [(.t 21)] <|
          .op (some 19) (.mov (.t 22)) <|
          .op (some 23) (.ext (.t 19) 0) <|
          .op (some 24) (.ext (.t 19) 1) <|
          .op (some 6) (.new [(.nil 3)]) <|
          .op none (.sto none (.t 6) (.t 23)) <|
          .op (some 7) (.mov (.t 24)) <|
          .nil)) [5, 20, 21, 22, 19, 23, 24]) <|
        .seq (.dn (.block 2 (
          .seq (.dn (.reg (
            .op (some 26) (.mov (.t 7)) <|
            .op (some 27) (.bin .neq (.t 26) (.k (.int .i64 0))) <|
            .op (some 25) (.mov (.t 27)) <|
            .nil)) [26, 27]) <|
          .dn (.ite (.t 25) (.seq (.dn (.reg (
              .op (some 28) (.mov (.t 7)) <|
              .op (some 2) (.mov (.t 28)) <|
              .nil)) [3, 13, 14, 15, 6, 7, 25, 28]) <|
            .ret)
            (.seq (.dn (.reg (
              .op (some 30) (.ld none (.t 6)) <|
              .call (some 31) (.fn 81) [(.t 30), (.k (.fn (.func 82) [] []))] <|
              .op (some 29) (.mov (.t 31)) <|
              .nil)) [7, 25, 30, 31]) <|
            .dn (.ite (.t 29) (.seq (.dn (.reg (
                .op (some 2) (.mov (.k (.int .i64 22))) <|
                .nil)) [3, 13, 14, 15, 6, 29]) <|
              .ret)
              (.seq (.dn (.reg (
                .op (some 33) (.mov (.t 3)) <|
                .op (some 34) (.fnv (.func 84) [] [(.t 6)]) <|
                .call (some 35) (.fn 83) [(.t 33), (.t 34)] <|
                .op (some 32) (.mov (.t 35)) <|
                .nil)) [29, 33, 34, 35]) <|
              .dn (.ite (.t 32) (.seq (.dn (.reg (
                  .op (some 2) (.mov (.k (.int .i64 7))) <|
                  .nil)) [3, 13, 14, 15, 6, 32]) <|
                .ret)
                (.skip)) [2, 32])) [2])) [2])) [7, 26, 27, 25, 28, 2, 30, 31, 29, 33, 34, 35, 32]) <|
        .dn (.reg (
          .op (some 36) (.mov (.t 3)) <|
          .op (some 37) (.ld none (.t 6)) <|
          .op (some 38) (.bls 1 [(.t 37)]) <|
          .op (some 39) (.app 1 (.t 36) (.t 38)) <|
          .op (some 3) (.mov (.t 39)) <|
          .nil)) [6, 36, 37, 38, 39])) [17, 18, 5, 20, 21, 22, 19, 23, 24, 6, 7, 26, 27, 25, 28, 2, 30, 31, 29, 33, 34, 35, 32, 36, 37, 38, 39]) <|
      .dn (.reg (
        .op (some 40) (.bin .add (.t 15) (.k (.int .i64 1))) <|
        .op (some 15) (.mov (.t 40)) <|
        .nil)) [40]))) [3, 13, 14, 15, 16, 17, 18, 5, 20, 21, 22, 19, 23, 24, 6, 7, 26, 27, 25, 28, 2, 30, 31, 29, 33, 34, 35, 32, 36, 37, 38, 39, 40]) <|
  .seq (.reg (
    .op (some 2) (.mov (.k (.int .i64 0))) <|
    .nil)) <|
  .ret
theorem ok41 : FnOk Tryz.prog 41 41 ir41 [.tmp 2] := FnOk.of Tryz.func41 (by kernel_rfl) (by kernel_rfl) (by kernel_rfl) (by kernel_rfl)
/-- manifold/path.Parse -/
def ir80 : Ic :=
  .seq (.dn (.reg (
    .op (some 2) (.mov (.k (.nil 3))) <|
    .op (some 3) (.mov (.k (.int .i64 0))) <|
    .nil)) [2, 3]) <|
  .seq (.dn (.block 0 (
    .seq (.dn (.reg (
      .op (some 10) (.mov (.t 0)) <|
      .op (some 11) (.bin .seq (.t 10) (.k (.str []))) <|
      .op (some 9) (.mov (.t 11)) <|
      .nil)) [10, 11]) <|
    .dn (.ite (.t 9) (.seq (.dn (.reg (
        .op (some 2) (.mov (.k (.nil 3))) <|
        .op (some 3) (.mov (.k (.int .i64 4))) <|
        .nil)) [0, 9]) <|
      .ret)
      (.seq (.dn (.reg (
        .op (some 13) (.mov (.t 0)) <|
        .op (some 14) (.slen (.t 13)) <|
        .op (some 15) (.bin .gtr (.t 14) (.k (.int .i64 200))) <|
        .op (some 12) (.mov (.t 15)) <|
        .nil)) [9, 13, 14, 15]) <|
      .dn (.ite (.t 12) (.seq (.dn (.reg (
          .op (some 2) (.mov (.k (.nil 3))) <|
          .op (some 3) (.mov (.k (.int .i64 5))) <|
          .nil)) [0, 12]) <|
        .ret)
        (.skip)) [2, 3, 12])) [2, 3])) [10, 11, 9, 2, 3, 13, 14, 15, 12]) <|
  .seq (.reg (
    .op (some 4) (.mov (.k (.nil 3))) <|
    .nil)) <|
  .seq (.seq (.dn (.reg (
    .op (some 16) (.mov (.t 0)) <|
    .op (some 17) (.bin .cat (.k (.str [46])) (.t 16)) <|
    .op (some 5) (.mov (.t 17)) <|
    .nil)) [0, 16, 17]) <|
  .dn (.block 1 (
    .loop (
      .seq (.seq (.dn (.reg (
        .op (some 18) (.mov (.t 5)) <|
        .op (some 19) (.bin .sne (.t 18) (.k (.str []))) <|
        .nil)) [18]) <|
      .dn (.ite (.t 19) (.skip)
        (.exit 1)) [19]) <|
      .dn (.block 2 (
        .seq (.dn (.reg (
          .op (some 21) (.mov (.t 5)) <|
          .call (some 22) (.fn 147) [(.t 21)] <|
          .op (some 20) (.mov (.t 22)) <|
          .op (some 23) (.ext (.t 20) 0) <|
          .op (some 24) (.ext (.t 20) 1) <|
          .op (some 25) (.ext (.t 20) 2) <|
          .op (some 6) (.new [(.int .i64 0), (.int .i64 0), (.str [])]) <|
          .op none (.sto (some 3) (.t 6) (.t 23)) <|
          .op (some 7) (.mov (.t 24)) <|
          .op (some 8) (.mov (.t 25)) <|
          .nil)) [5, 21, 22, 20, 23, 24, 25]) <|
        .seq (.seq (.dn (.reg (
          .op (some 26) (.mov (.t 8)) <|
          .op (some 27) (.not (.t 26)) <|
          .op (some 28) (.mov (.t 27)) <|
          .sc 28 false (
            .op (some 29) (.ld (some 3) (.t 6)) <|
            .call (some 30) (.fn 148) [(.t 29)] <|
            .op (some 31) (.not (.t 30)) <|
            .nil) (.t 31) 32 <|
          .nil)) [8, 26, 27, 28, 29, 30, 31]) <|
        .dn (.ite (.t 32) (.seq (.dn (.reg (
            .op (some 2) (.mov (.k (.nil 3))) <|
            .op (some 3) (.mov (.k (.int .i64 13))) <|
            .nil)) [4, 6, 7, 32]) <|
          .ret)
          (.skip)) [2, 3, 32]) <|
        .dn (.reg (
          .op (some 33) (.mov (.t 4)) <|
          .op (some 34) (.ld (some 3) (.t 6)) <|
          .op (some 35) (.bls 3 [(.t 34)]) <|
          .op (some 36) (.app 3 (.t 33) (.t 35)) <|
          .op (some 37) (.mov (.t 7)) <|
          .op (some 4) (.mov (.t 36)) <|
          .op (some 5) (.mov (.t 37)) <|
          .nil)) [6, 7, 33, 34, 35, 36, 37])) [21, 22, 20, 23, 24, 25, 6, 7, 8, 26, 27, 28, 29, 30, 31, 32, 2, 3, 33, 34, 35, 36, 37]))) [5, 18, 19, 21, 22, 20, 23, 24, 25, 6, 7, 8, 26, 27, 28, 29, 30, 31, 32, 2, 3, 33, 34, 35, 36, 37]) <|
  .seq (.seq (.dn (.reg (
    .op (some 38) (.mov (.t 4)) <|
    .op (some 39) (.len (.t 38)) <|
    .op (some 40) (.bin .gtr (.t 39) (.k (.int .i64 16))) <|
    .nil)) [38, 39]) <|
  .dn (.ite (.t 40) (.seq (.dn (.reg (
      .op (some 2) (.mov (.k (.nil 3))) <|
      .op (some 3) (.mov (.k (.int .i64 9))) <|
      .nil)) [4, 40]) <|
    .ret)
    (.skip)) [2, 3, 40]) <|
  .seq (.dn (.reg (
    .op (some 41) (.mov (.t 4)) <|
    .op (some 2) (.mov (.t 41)) <|
    .op (some 3) (.mov (.k (.int .i64 0))) <|
    .nil)) [4, 41]) <|
  .ret
theorem ok80 : FnOk Tryz.prog 80 42 ir80 [.tmp 2, .tmp 3] := FnOk.of Tryz.func80 (by kernel_rfl) (by kernel_rfl) (by kernel_rfl) (by kernel_rfl)
/-- slices.ContainsFunc   manifold/path.Part,manifold/path.Part  -/
def ir81 : Ic :=
  .seq (.dn (.reg (
    .op (some 4) (.mov (.k (.bool false))) <|
    .nil)) [4]) <|
  .seq (.dn (.reg (
    .op (some 5) (.mov (.t 0)) <|
    .op (some 6) (.mov (.t 1)) <|
    .call (some 7) (.fn 149) [(.t 5), (.t 6)] <|
    .op (some 8) (.bin .geq (.t 7) (.k (.int .i64 0))) <|
    .op (some 4) (.mov (.t 8)) <|
    .nil)) [0, 1, 5, 6, 7, 8]) <|
  .ret
theorem ok81 : FnOk Tryz.prog 81 9 ir81 [.tmp 4] := FnOk.of Tryz.func81 (by kernel_rfl) (by kernel_rfl) (by kernel_rfl) (by kernel_rfl)
/-- manifold/mapping.Form$1 -/
def ir82 : Ic :=
  .seq (.dn (.reg (
    .op (some 1) (.box (.t 0)) <|
    .op (some 2) (.mov (.k (.bool false))) <|
    .nil)) [0, 2]) <|
  .seq (.dn (.reg (
    .op (some 3) (.fa (.t 1) 0) <|
    .op (some 4) (.ld none (.t 3)) <|
    .op (some 5) (.bin .neq (.t 4) (.k (.int .i64 1))) <|
    .op (some 2) (.mov (.t 5)) <|
    .nil)) [1, 3, 4, 5]) <|
  .ret
theorem ok82 : FnOk Tryz.prog 82 6 ir82 [.tmp 2] := FnOk.of Tryz.func82 (by kernel_rfl) (by kernel_rfl) (by kernel_rfl) (by kernel_rfl)
/-- slices.ContainsFunc     manifold/path.Part,  manifold/path.Part  -/
def ir83 : Ic :=
  .seq (.dn (.reg (
    .op (some 4) (.mov (.k (.bool false))) <|
    .nil)) [4]) <|
  .seq (.dn (.reg (
    .op (some 5) (.mov (.t 0)) <|
    .op (some 6) (.mov (.t 1)) <|
    .call (some 7) (.fn 150) [(.t 5), (.t 6)] <|
    .op (some 8) (.bin .geq (.t 7) (.k (.int .i64 0))) <|
    .op (some 4) (.mov (.t 8)) <|
    .nil)) [0, 1, 5, 6, 7, 8]) <|
  .ret
theorem ok83 : FnOk Tryz.prog 83 9 ir83 [.tmp 4] := FnOk.of Tryz.func83 (by kernel_rfl) (by kernel_rfl) (by kernel_rfl) (by kernel_rfl)
/-- manifold/mapping.Form$2 -/
def ir84 : Ic :=
  .seq (.dn (.reg (
    .op (some 3) (.mov (.k (.bool false))) <|
    .nil)) [3]) <|
  .seq (.dn (.reg (
    .op (some 4) (.ld none (.t 1)) <|
    .op (some 5) (.mov (.t 0)) <|
    .call (some 6) (.fn 85) [(.t 4), (.t 5)] <|
    .op (some 7) (.mov (.t 6)) <|
    .sc 7 false (
      .op (some 8) (.mov (.t 0)) <|
      .op (some 9) (.ld none (.t 1)) <|
      .call (some 10) (.fn 85) [(.t 8), (.t 9)] <|
      .nil) (.t 10) 11 <|
    .op (some 3) (.mov (.t 11)) <|
    .nil)) [0, 4, 5, 6, 7, 8, 9, 10, 11]) <|
  .ret
theorem ok84 : FnOk Tryz.prog 84 12 ir84 [.tmp 3] := FnOk.of Tryz.func84 (by kernel_rfl) (by kernel_rfl) (by kernel_rfl) (by kernel_rfl)
/-- manifold/mapping.within -/
def ir85 : Ic :=
  .seq (.dn (.reg (
    .op (some 4) (.mov (.k (.bool false))) <|
    .nil)) [4]) <|
  .seq (.dn (.reg (
    .op (some 5) (.mov (.t 0)) <|
    .op (some 6) (.len (.t 5)) <|
    .op (some 7) (.mov (.t 1)) <|
    .op (some 8) (.len (.t 7)) <|
    .op (some 9) (.bin .geq (.t 6) (.t 8)) <|
    .op (some 10) (.mov (.t 9)) <|
    .sc 10 true (
      .op (some 11) (.mov (.t 0)) <|
      .op (some 12) (.mov (.t 1)) <|
      .op (some 13) (.len (.t 12)) <|
      .op (some 14) (.slc 3 (.t 11) none (some (.t 13)) none) <|
      .op (some 15) (.mov (.t 1)) <|
      .call (some 16) (.fn 151) [(.t 14), (.t 15)] <|
      .nil) (.t 16) 17 <|
    .op (some 4) (.mov (.t 17)) <|
    .nil)) [0, 1, 5, 6, 7, 8, 9, 10, 11, 12, 13, 14, 15, 16, 17]) <|
  .ret
theorem ok85 : FnOk Tryz.prog 85 18 ir85 [.tmp 4] := FnOk.of Tryz.func85 (by kernel_rfl) (by kernel_rfl) (by kernel_rfl) (by kernel_rfl)
/-- manifold/path.take -/
def ir147 : Ic :=
  .seq (.dn (.reg (
    .op (some 1) (.box (.t 0)) <|
    .op (some 2) (.new [(.int .i64 0), (.int .i64 0), (.str [])]) <|
    .op (some 3) (.mov (.k (.str []))) <|
    .op (some 4) (.mov (.k (.bool false))) <|
    .nil)) [0, 3, 4]) <|
  .seq (.dn (.reg (
    .op (some 12) (.fnv (.func 218) [] [(.t 1)]) <|
    .op (some 5) (.mov (.t 12)) <|
    .nil)) [12]) <|
  .seq (.dn (.reg (
    .op (some 13) (.mov (.t 5)) <|
    .call (some 14) (.dyn (.t 13)) [(.k (.int .i64 1))] <|
    .op (some 6) (.mov (.t 14)) <|
    .nil)) [5, 13, 14]) <|
  .seq (.dn (.block 0 (
    .seq (.dn (.reg (
      .op (some 16) (.ld none (.t 1)) <|
      .call (some 17) (.fn 220) [(.t 16), (.k (.str [91, 42, 93]))] <|
      .op (some 15) (.mov (.t 17)) <|
      .nil)) [16, 17]) <|
    .dn (.ite (.t 15) (.seq (.dn (.regd [(1, 3)] (
        .op (some 18) (.bld [(.int .i64 0), (.int .i64 0), (.str [])] [(0, 1, (.k (.int .i64 3)))]) <|
        .op (some 19) (.ld none (.t 1)) <|
        .op (some 20) (.sls (.t 19) (some (.k (.int .i64 3))) none) <|
        .op none (.sto (some 3) (.t 2) (.t 18)) <|
        .op (some 3) (.mov (.t 20)) <|
        .op (some 4) (.mov (.k (.bool true))) <|
        .nil)) [1, 6, 15, 18, 19, 20]) <|
      .ret)
      (.seq (.dn (.reg (
        .op (some 22) (.ld none (.t 1)) <|
        .op (some 23) (.ixs (.t 22) (.k (.int .i64 0))) <|
        .op (some 24) (.bin .eql (.t 23) (.k (.int .u8 46))) <|
        .op (some 21) (.mov (.t 24)) <|
        .nil)) [15, 22, 23, 24]) <|
      .dn (.ite (.t 21) (.seq (.dn (.regd [(4, 7)] (
          .op (some 25) (.ld none (.t 1)) <|
          .op (some 26) (.mov (.t 6)) <|
          .op (some 27) (.sls (.t 25) (some (.k (.int .i64 1))) (some (.t 26))) <|
          .op (some 28) (.bld [(.int .i64 0), (.int .i64 0), (.str [])] [(0, 1, (.k (.int .i64 1))), (2, 1, (.t 27))]) <|
          .op (some 29) (.ld none (.t 1)) <|
          .op (some 30) (.mov (.t 6)) <|
          .op (some 31) (.sls (.t 29) (some (.t 30)) none) <|
          .op none (.sto (some 3) (.t 2) (.t 28)) <|
          .op (some 3) (.mov (.t 31)) <|
          .op (some 4) (.mov (.k (.bool true))) <|
          .nil)) [1, 6, 21, 25, 26, 27, 28, 29, 30, 31]) <|
        .ret)
        (.seq (.dn (.reg (
          .op (some 33) (.ld none (.t 1)) <|
          .op (some 34) (.ixs (.t 33) (.k (.int .i64 0))) <|
          .op (some 35) (.bin .eql (.t 34) (.k (.int .u8 63))) <|
          .op (some 32) (.mov (.t 35)) <|
          .nil)) [21, 33, 34, 35]) <|
        .dn (.ite (.t 32) (.seq (.dn (.regd [(4, 7)] (
            .op (some 36) (.ld none (.t 1)) <|
            .op (some 37) (.mov (.t 6)) <|
            .op (some 38) (.sls (.t 36) (some (.k (.int .i64 1))) (some (.t 37))) <|
            .op (some 39) (.bld [(.int .i64 0), (.int .i64 0), (.str [])] [(0, 1, (.k (.int .i64 4))), (2, 1, (.t 38))]) <|
            .op (some 40) (.ld none (.t 1)) <|
            .op (some 41) (.mov (.t 6)) <|
            .op (some 42) (.sls (.t 40) (some (.t 41)) none) <|
            .op none (.sto (some 3) (.t 2) (.t 39)) <|
            .op (some 3) (.mov (.t 42)) <|
            .op (some 4) (.mov (.k (.bool true))) <|
            .nil)) [1, 6, 32, 36, 37, 38, 39, 40, 41, 42]) <|
          .ret)
          (.skip)) [3, 4, 6, 32])) [3, 4])) [3, 4])) [6, 16, 17, 15, 18, 19, 20, 3, 4, 22, 23, 24, 21, 25, 26, 27, 28, 29, 30, 31, 33, 34, 35, 32, 36, 37, 38, 39, 40, 41, 42]) <|
  .seq (.dn (.reg (
    .op (some 44) (.ld none (.t 1)) <|
    .op (some 45) (.sls (.t 44) (some (.k (.int .i64 1))) none) <|
    .call (some 46) (.fn 221) [(.t 45), (.k (.str [93]))] <|
    .op (some 43) (.mov (.t 46)) <|
    .op (some 47) (.ext (.t 43) 0) <|
    .op (some 48) (.ext (.t 43) 1) <|
    .op (some 49) (.ext (.t 43) 2) <|
    .op (some 7) (.mov (.t 47)) <|
    .op (some 8) (.mov (.t 48)) <|
    .op (some 9) (.mov (.t 49)) <|
    .nil)) [44, 45, 46, 43, 47, 48, 49]) <|
  .seq (.dn (.reg (
    .op (some 51) (.mov (.t 7)) <|
    .call (some 52) (.fn 222) [(.t 51)] <|
    .op (some 50) (.mov (.t 52)) <|
    .op (some 53) (.ext (.t 50) 0) <|
    .op (some 54) (.ext (.t 50) 1) <|
    .op (some 10) (.mov (.t 53)) <|
    .op (some 11) (.mov (.t 54)) <|
    .nil)) [51, 52, 50, 53, 54]) <|
  .seq (.dn (.reg (
    .op (some 55) (.mov (.t 10)) <|
    .op (some 56) (.bld [(.int .i64 0), (.int .i64 0), (.str [])] [(0, 1, (.k (.int .i64 2))), (1, 1, (.t 55))]) <|
    .op (some 57) (.mov (.t 8)) <|
    .op (some 58) (.ld none (.t 1)) <|
    .op (some 59) (.ixs (.t 58) (.k (.int .i64 0))) <|
    .op (some 60) (.bin .eql (.t 59) (.k (.int .u8 91))) <|
    .op (some 61) (.mov (.t 60)) <|
    .sc 61 true (
      .op (some 62) (.mov (.t 9)) <|
      .nil) (.t 62) 63 <|
    .op (some 64) (.mov (.t 63)) <|
    .sc 64 true (
      .op (some 65) (.mov (.t 11)) <|
      .op (some 66) (.bin .nileq (.t 65) (.k .nilIface)) <|
      .nil) (.t 66) 67 <|
    .op (some 68) (.mov (.t 67)) <|
    .sc 68 true (
      .op (some 69) (.mov (.t 10)) <|
      .call (some 70) (.fn 96) [(.t 69)] <|
      .op (some 71) (.mov (.t 7)) <|
      .op (some 72) (.bin .seq (.t 70) (.t 71)) <|
      .nil) (.t 72) 73 <|
    .op none (.sto (some 3) (.t 2) (.t 56)) <|
    .op (some 3) (.mov (.t 57)) <|
    .op (some 4) (.mov (.t 73)) <|
    .nil)) [1, 7, 8, 9, 10, 11, 55, 56, 57, 58, 59, 60, 61, 62, 63, 64, 65, 66, 67, 68, 69, 70, 71, 72, 73]) <|
  .ret
theorem ok147 : FnOk Tryz.prog 147 74 ir147 [.cell 2 (some 3), .tmp 3, .tmp 4] := FnOk.of Tryz.func147 (by kernel_rfl) (by kernel_rfl) (by kernel_rfl) (by kernel_rfl)
/-- (manifold/path.Part).valid -/
def ir148 : Ic :=
  .seq (.dn (.reg (
    .op (some 1) (.box (.t 0)) <|
    .op (some 2) (.mov (.k (.bool false))) <|
    .nil)) [0, 2]) <|
  .seq (.seq (.dn (.reg (
    .op (some 3) (.fa (.t 1) 0) <|
    .op (some 4) (.ld none (.t 3)) <|
    .nil)) [3]) <|
  .dn (.block 0 (
    .seq (.seq (.dn (.reg (
      .op (some 6) (.bin .eql (.t 4) (.k (.int .i64 1))) <|
      .op (some 5) (.mov (.t 6)) <|
      .nil)) [6]) <|
    .ite (.t 5) (.skip)
      (.dn (.reg (
        .op (some 7) (.bin .eql (.t 4) (.k (.int .i64 4))) <|
        .op (some 5) (.mov (.t 7)) <|
        .nil)) [7])) <|
    .dn (.ite (.t 5) (.seq (.dn (.reg (
        .op (some 8) (.fa (.t 1) 1) <|
        .op (some 9) (.ld none (.t 8)) <|
        .op (some 10) (.bin .eql (.t 9) (.k (.int .i64 0))) <|
        .op (some 11) (.mov (.t 10)) <|
        .sc 11 true (
          .op (some 12) (.fa (.t 1) 2) <|
          .op (some 13) (.ld none (.t 12)) <|
          .call (some 14) (.fn 112) [(.t 13)] <|
          .nil) (.t 14) 15 <|
        .op (some 2) (.mov (.t 15)) <|
        .nil)) [1, 4, 5, 8, 9, 10, 11, 12, 13, 14, 15]) <|
      .ret)
      (.seq (.dn (.reg (
        .op (some 17) (.bin .eql (.t 4) (.k (.int .i64 2))) <|
        .op (some 16) (.mov (.t 17)) <|
        .nil)) [5, 17]) <|
      .dn (.ite (.t 16) (.seq (.dn (.reg (
          .op (some 18) (.fa (.t 1) 2) <|
          .op (some 19) (.ld none (.t 18)) <|
          .op (some 20) (.bin .seq (.t 19) (.k (.str []))) <|
          .op (some 21) (.mov (.t 20)) <|
          .sc 21 true (
            .op (some 22) (.fa (.t 1) 1) <|
            .op (some 23) (.ld none (.t 22)) <|
            .op (some 24) (.bin .geq (.t 23) (.k (.int .i64 0))) <|
            .nil) (.t 24) 25 <|
          .op (some 26) (.mov (.t 25)) <|
          .sc 26 true (
            .op (some 27) (.fa (.t 1) 1) <|
            .op (some 28) (.ld none (.t 27)) <|
            .op (some 29) (.bin .lss (.t 28) (.k (.int .i64 256))) <|
            .nil) (.t 29) 30 <|
          .op (some 2) (.mov (.t 30)) <|
          .nil)) [1, 4, 16, 18, 19, 20, 21, 22, 23, 24, 25, 26, 27, 28, 29, 30]) <|
        .ret)
        (.seq (.dn (.reg (
          .op (some 32) (.bin .eql (.t 4) (.k (.int .i64 3))) <|
          .op (some 31) (.mov (.t 32)) <|
          .nil)) [4, 16, 32]) <|
        .dn (.ite (.t 31) (.seq (.dn (.reg (
            .op (some 33) (.fa (.t 1) 2) <|
            .op (some 34) (.ld none (.t 33)) <|
            .op (some 35) (.bin .seq (.t 34) (.k (.str []))) <|
            .op (some 36) (.mov (.t 35)) <|
            .sc 36 true (
              .op (some 37) (.fa (.t 1) 1) <|
              .op (some 38) (.ld none (.t 37)) <|
              .op (some 39) (.bin .eql (.t 38) (.k (.int .i64 0))) <|
              .nil) (.t 39) 40 <|
            .op (some 2) (.mov (.t 40)) <|
            .nil)) [1, 31, 33, 34, 35, 36, 37, 38, 39, 40]) <|
          .ret)
          (.skip)) [2, 1, 31])) [2])) [2])) [1, 4, 6, 5, 7, 8, 9, 10, 11, 12, 13, 14, 15, 2, 17, 16, 18, 19, 20, 21, 22, 23, 24, 25, 26, 27, 28, 29, 30, 32, 31, 33, 34, 35, 36, 37, 38, 39, 40]) <|
  .seq (.reg (
    .op (some 2) (.mov (.k (.bool false))) <|
    .nil)) <|
  .ret
theorem ok148 : FnOk Tryz.prog 148 41 ir148 [.tmp 2] := FnOk.of Tryz.func148 (by kernel_rfl) (by kernel_rfl) (by kernel_rfl) (by kernel_rfl)
/-- slices.IndexFunc   manifold/path.Part,manifold/path.Part  -/
def ir149 : Ic :=
  .seq (.dn (.reg (
    .op (some 4) (.mov (.k (.int .i64 0))) <|
    .nil)) [4]) <|
  .seq (.seq (.dn (.reg (
    .op (some 6) (.mov (.t 0)) <|
    .op (some 7) (.len (.t 6)) <|
    .op (some 8) (.mov (.k (.int .i64 0))) <|
    .nil)) [6]) <|
  .dn (.block 0 (
    .loop (
      .seq (.reg (
        .op (some 9) (.bin .lss (.t 8) (.t 7)) <|
        .nil)) <|
      .seq (.dn (.ite (.t 9) (.skip)
        (.exit 0)) [9]) <|
      .seq (.dn (.block 1 (
        .seq (.dn (.reg (
          .op (some 10) (.mov (.t 8)) <|
          .op (some 5) (.mov (.t 10)) <|
          .nil)) [10]) <|
        .seq (.dn (.reg (
          .op (some 11) (.mov (.t 1)) <|
          .op (some 12) (.mov (.t 0)) <|
          .op (some 13) (.mov (.t 5)) <|
          .op (some 14) (.ixa true 3 (.t 12) (.t 13)) <|
          .op (some 15) (.ld (some 3) (.t 14)) <|
          .call (some 16) (.dyn (.t 11)) [(.t 15)] <|
          .nil)) [11, 12, 13, 14, 15]) <|
        .dn (.ite (.t 16) (.seq (.dn (.reg (
            .op (some 17) (.mov (.t 5)) <|
            .op (some 4) (.mov (.t 17)) <|
            .nil)) [0, 1, 7, 8, 5, 16, 17]) <|
          .ret)
          (.skip)) [4, 5, 16])) [10, 5, 11, 12, 13, 14, 15, 16, 17, 4]) <|
      .dn (.reg (
        .op (some 18) (.bin .add (.t 8) (.k (.int .i64 1))) <|
        .op (some 8) (.mov (.t 18)) <|
        .nil)) [18]))) [0, 1, 7, 8, 9, 10, 5, 11, 12, 13, 14, 15, 16, 17, 4, 18]) <|
  .seq (.reg (
    .op (some 4) (.mov (.k (.int .i64 (-1)))) <|
    .nil)) <|
  .ret
theorem ok149 : FnOk Tryz.prog 149 19 ir149 [.tmp 4] := FnOk.of Tryz.func149 (by kernel_rfl) (by kernel_rfl) (by kernel_rfl) (by kernel_rfl)
/-- slices.IndexFunc     manifold/path.Part,  manifold/path.Part  -/
def ir150 : Ic :=
  .seq (.dn (.reg (
    .op (some 4) (.mov (.k (.int .i64 0))) <|
    .nil)) [4]) <|
  .seq (.seq (.dn (.reg (
    .op (some 6) (.mov (.t 0)) <|
    .op (some 7) (.len (.t 6)) <|
    .op (some 8) (.mov (.k (.int .i64 0))) <|
    .nil)) [6]) <|
  .dn (.block 0 (
    .loop (
      .seq (.reg (
        .op (some 9) (.bin .lss (.t 8) (.t 7)) <|
        .nil)) <|
      .seq (.dn (.ite (.t 9) (.skip)
        (.exit 0)) [9]) <|
      .seq (.dn (.block 1 (
        .seq (.dn (.reg (
          .op (some 10) (.mov (.t 8)) <|
          .op (some 5) (.mov (.t 10)) <|
          .nil)) [10]) <|
        .seq (.dn (.reg (
          .op (some 11) (.mov (.t 1)) <|
          .op (some 12) (.mov (.t 0)) <|
          .op (some 13) (.mov (.t 5)) <|
          .op (some 14) (.ixa false 1 (.t 12) (.t 13)) <|
          .op (some 15) (.ld none (.t 14)) <|
          .call (some 16) (.dyn (.t 11)) [(.t 15)] <|
          .nil)) [11, 12, 13, 14, 15]) <|
        .dn (.ite (.t 16) (.seq (.dn (.reg (
            .op (some 17) (.mov (.t 5)) <|
            .op (some 4) (.mov (.t 17)) <|
            .nil)) [0, 1, 7, 8, 5, 16, 17]) <|
          .ret)
          (.skip)) [4, 5, 16])) [10, 5, 11, 12, 13, 14, 15, 16, 17, 4]) <|
      .dn (.reg (
        .op (some 18) (.bin .add (.t 8) (.k (.int .i64 1))) <|
        .op (some 8) (.mov (.t 18)) <|
        .nil)) [18]))) [0, 1, 7, 8, 9, 10, 5, 11, 12, 13, 14, 15, 16, 17, 4, 18]) <|
  .seq (.reg (
    .op (some 4) (.mov (.k (.int .i64 (-1)))) <|
    .nil)) <|
  .ret
theorem ok150 : FnOk Tryz.prog 150 19 ir150 [.tmp 4] := FnOk.of Tryz.func150 (by kernel_rfl) (by kernel_rfl) (by kernel_rfl) (by kernel_rfl)
/-- slices.Equal   manifold/path.Part,manifold/path.Part  -/
def ir151 : Ic :=
  .seq (.dn (.reg (
    .op (some 4) (.mov (.k (.bool false))) <|
    .nil)) [4]) <|
  .seq (.seq (.dn (.reg (
    .op (some 6) (.mov (.t 0)) <|
    .op (some 7) (.len (.t 6)) <|
    .op (some 8) (.mov (.t 1)) <|
    .op (some 9) (.len (.t 8)) <|
    .op (some 10) (.bin .neq (.t 7) (.t 9)) <|
    .nil)) [6, 7, 8, 9]) <|
  .dn (.ite (.t 10) (.seq (.dn (.reg (
      .op (some 4) (.mov (.k (.bool false))) <|
      .nil)) [0, 1, 10]) <|
    .ret)
    (.skip)) [4, 10]) <|
  .seq (.seq (.dn (.reg (
    .op (some 11) (.mov (.t 0)) <|
    .op (some 12) (.len (.t 11)) <|
    .op (some 13) (.mov (.k (.int .i64 0))) <|
    .nil)) [11]) <|
  .dn (.block 0 (
    .loop (
      .seq (.reg (
        .op (some 14) (.bin .lss (.t 13) (.t 12)) <|
        .nil)) <|
      .seq (.dn (.ite (.t 14) (.skip)
        (.exit 0)) [14]) <|
      .seq (.dn (.block 1 (
        .seq (.dn (.reg (
          .op (some 15) (.mov (.t 13)) <|
          .op (some 5) (.mov (.t 15)) <|
          .nil)) [15]) <|
        .seq (.dn (.reg (
          .op (some 16) (.mov (.t 0)) <|
          .op (some 17) (.mov (.t 5)) <|
          .op (some 18) (.ixa true 3 (.t 16) (.t 17)) <|
          .op (some 19) (.ld (some 3) (.t 18)) <|
          .op (some 20) (.mov (.t 1)) <|
          .op (some 21) (.mov (.t 5)) <|
          .op (some 22) (.ixa true 3 (.t 20) (.t 21)) <|
          .op (some 23) (.ld (some 3) (.t 22)) <|
          .op (some 24) (.bin (.tne [.i, .i, .s]) (.t 19) (.t 23)) <|
          .nil)) [5, 16, 17, 18, 19, 20, 21, 22, 23]) <|
        .dn (.ite (.t 24) (.seq (.dn (.reg (
            .op (some 4) (.mov (.k (.bool false))) <|
            .nil)) [0, 1, 12, 13, 24]) <|
          .ret)
          (.skip)) [4, 24])) [15, 5, 16, 17, 18, 19, 20, 21, 22, 23, 24, 4]) <|
      .dn (.reg (
        .op (some 25) (.bin .add (.t 13) (.k (.int .i64 1))) <|
        .op (some 13) (.mov (.t 25)) <|
        .nil)) [25]))) [0, 1, 12, 13, 14, 15, 5, 16, 17, 18, 19, 20, 21, 22, 23, 24, 4, 25]) <|
  .seq (.reg (
    .op (some 4) (.mov (.k (.bool true))) <|
    .nil)) <|
  .ret
theorem ok151 : FnOk Tryz.prog 151 26 ir151 [.tmp 4] := FnOk.of Tryz.func151 (by kernel_rfl) (by kernel_rfl) (by kernel_rfl) (by kernel_rfl)
/-- manifold/value.IsName -/
def ir112 : Ic :=
  .seq (.dn (.reg (
    .op (some 2) (.mov (.k (.bool false))) <|
    .nil)) [2]) <|
  .seq (.seq (.dn (.reg (
    .op (some 5) (.mov (.t 0)) <|
    .op (some 6) (.bin .seq (.t 5) (.k (.str []))) <|
    .op (some 7) (.mov (.t 6)) <|
    .sc 7 false (
      .op (some 8) (.mov (.t 0)) <|
      .op (some 9) (.slen (.t 8)) <|
      .op (some 10) (.bin .gtr (.t 9) (.k (.int .i64 32))) <|
      .nil) (.t 10) 11 <|
    .op (some 12) (.mov (.t 11)) <|
    .sc 12 false (
      .op (some 13) (.mov (.t 0)) <|
      .op (some 14) (.ixs (.t 13) (.k (.int .i64 0))) <|
      .op (some 15) (.bin .lss (.t 14) (.k (.int .u8 97))) <|
      .nil) (.t 15) 16 <|
    .op (some 17) (.mov (.t 16)) <|
    .sc 17 false (
      .op (some 18) (.mov (.t 0)) <|
      .op (some 19) (.ixs (.t 18) (.k (.int .i64 0))) <|
      .op (some 20) (.bin .gtr (.t 19) (.k (.int .u8 122))) <|
      .nil) (.t 20) 21 <|
    .nil)) [5, 6, 7, 8, 9, 10, 11, 12, 13, 14, 15, 16, 17, 18, 19, 20]) <|
  .dn (.ite (.t 21) (.seq (.dn (.reg (
      .op (some 2) (.mov (.k (.bool false))) <|
      .nil)) [0, 21]) <|
    .ret)
    (.skip)) [2, 21]) <|
  .seq (.seq (.dn (.reg (
    .op (some 22) (.mov (.t 0)) <|
    .op (some 23) (.s2b (.t 22)) <|
    .op (some 24) (.len (.t 23)) <|
    .op (some 25) (.mov (.k (.int .i64 0))) <|
    .nil)) [0, 22]) <|
  .dn (.block 0 (
    .loop (
      .seq (.reg (
        .op (some 26) (.bin .lss (.t 25) (.t 24)) <|
        .nil)) <|
      .seq (.dn (.ite (.t 26) (.skip)
        (.exit 0)) [26]) <|
      .seq (.dn (.block 1 (
        .seq (.dn (.reg (
          .op (some 27) (.ixa false 1 (.t 23) (.t 25)) <|
          .op (some 28) (.ld none (.t 27)) <|
          .op (some 4) (.mov (.t 28)) <|
          .nil)) [27, 28]) <|
        .seq (.dn (.reg (
          .op (some 29) (.mov (.t 4)) <|
          .op (some 30) (.bin .lss (.t 29) (.k (.int .u8 97))) <|
          .op (some 31) (.mov (.t 30)) <|
          .sc 31 false (
            .op (some 32) (.mov (.t 4)) <|
            .op (some 33) (.bin .gtr (.t 32) (.k (.int .u8 122))) <|
            .nil) (.t 33) 34 <|
          .op (some 35) (.mov (.t 34)) <|
          .sc 35 true (
            .op (some 36) (.mov (.t 4)) <|
            .op (some 37) (.bin .lss (.t 36) (.k (.int .u8 48))) <|
            .op (some 38) (.mov (.t 37)) <|
            .sc 38 false (
              .op (some 39) (.mov (.t 4)) <|
              .op (some 40) (.bin .gtr (.t 39) (.k (.int .u8 57))) <|
              .nil) (.t 40) 41 <|
            .nil) (.t 41) 42 <|
          .op (some 43) (.mov (.t 42)) <|
          .sc 43 true (
            .op (some 44) (.mov (.t 4)) <|
            .op (some 45) (.bin .neq (.t 44) (.k (.int .u8 95))) <|
            .nil) (.t 45) 46 <|
          .nil)) [4, 29, 30, 31, 32, 33, 34, 35, 36, 37, 38, 39, 40, 41, 42, 43, 44, 45]) <|
        .dn (.ite (.t 46) (.seq (.dn (.reg (
            .op (some 2) (.mov (.k (.bool false))) <|
            .nil)) [23, 24, 25, 46]) <|
          .ret)
          (.skip)) [2, 46])) [27, 28, 4, 29, 30, 31, 32, 33, 34, 35, 36, 37, 38, 39, 40, 41, 42, 43, 44, 45, 46, 2]) <|
      .dn (.reg (
        .op (some 47) (.bin .add (.t 25) (.k (.int .i64 1))) <|
        .op (some 25) (.mov (.t 47)) <|
        .nil)) [47]))) [23, 24, 25, 26, 27, 28, 4, 29, 30, 31, 32, 33, 34, 35, 36, 37, 38, 39, 40, 41, 42, 43, 44, 45, 46, 2, 47]) <|
  .seq (.reg (
    .op (some 2) (.mov (.k (.bool true))) <|
    .nil)) <|
  .ret
theorem ok112 : FnOk Tryz.prog 112 48 ir112 [.tmp 2] := FnOk.of Tryz.func112 (by kernel_rfl) (by kernel_rfl) (by kernel_rfl) (by kernel_rfl)
/-- manifold/path.take$1 -/
def ir218 : Ic :=
  .seq (.dn (.reg (
    .op (some 3) (.mov (.k (.int .i64 0))) <|
    .nil)) [3]) <|
  .seq (.dn (.reg (
    .op (some 5) (.ld none (.t 1)) <|
    .op (some 6) (.mov (.t 0)) <|
    .op (some 7) (.sls (.t 5) (some (.t 6)) none) <|
    .call (some 8) (.fn 219) [(.t 7), (.k (.str [46, 91, 63]))] <|
    .op (some 4) (.mov (.t 8)) <|
    .nil)) [5, 6, 7, 8]) <|
  .seq (.seq (.dn (.reg (
    .op (some 9) (.mov (.t 4)) <|
    .op (some 10) (.bin .lss (.t 9) (.k (.int .i64 0))) <|
    .nil)) [9]) <|
  .dn (.ite (.t 10) (.seq (.dn (.reg (
      .op (some 11) (.ld none (.t 1)) <|
      .op (some 12) (.slen (.t 11)) <|
      .op (some 3) (.mov (.t 12)) <|
      .nil)) [0, 4, 10, 11, 12]) <|
    .ret)
    (.skip)) [3, 10]) <|
  .seq (.dn (.reg (
    .op (some 13) (.mov (.t 0)) <|
    .op (some 14) (.mov (.t 4)) <|
    .op (some 15) (.bin .add (.t 13) (.t 14)) <|
    .op (some 3) (.mov (.t 15)) <|
    .nil)) [0, 4, 13, 14, 15]) <|
  .ret
theorem ok218 : FnOk Tryz.prog 218 16 ir218 [.tmp 3] := FnOk.of Tryz.func218 (by kernel_rfl) (by kernel_rfl) (by kernel_rfl) (by kernel_rfl)
/-- strings.IndexAny -/
def ir219 : Ic :=
  .seq (.dn (.reg (
    .op (some 4) (.mov (.k (.int .i64 0))) <|
    .nil)) [4]) <|
  .seq (.seq (.dn (.reg (
    .op (some 11) (.mov (.t 1)) <|
    .op (some 12) (.bin .seq (.t 11) (.k (.str []))) <|
    .nil)) [11]) <|
  .dn (.ite (.t 12) (.seq (.dn (.reg (
      .op (some 4) (.mov (.k (.int .i64 (-1)))) <|
      .nil)) [0, 1, 12]) <|
    .ret)
    (.skip)) [4, 12]) <|
  .seq (.seq (.dn (.reg (
    .op (some 13) (.mov (.t 1)) <|
    .op (some 14) (.slen (.t 13)) <|
    .op (some 15) (.bin .eql (.t 14) (.k (.int .i64 1))) <|
    .nil)) [13, 14]) <|
  .dn (.ite (.t 15) (.seq (.dn (.reg (
      .op (some 16) (.mov (.t 1)) <|
      .op (some 17) (.ixs (.t 16) (.k (.int .i64 0))) <|
      .op (some 18) (.cvi .i32 (.t 17)) <|
      .op (some 5) (.mov (.t 18)) <|
      .nil)) [1, 15, 16, 17, 18]) <|
    .seq (.seq (.dn (.reg (
      .op (some 19) (.mov (.t 5)) <|
      .op (some 20) (.bin .geq (.t 19) (.k (.int .i32 128))) <|
      .nil)) [19]) <|
    .dn (.ite (.t 20) (.dn (.reg (
        .op (some 5) (.mov (.k (.int .i32 65533))) <|
        .nil)) [20])
      (.skip)) [20]) <|
    .seq (.dn (.reg (
      .op (some 21) (.mov (.t 0)) <|
      .op (some 22) (.mov (.t 5)) <|
      .call (some 23) (.fn 271) [(.t 21), (.t 22)] <|
      .op (some 4) (.mov (.t 23)) <|
      .nil)) [0, 5, 21, 22, 23]) <|
    .ret)
    (.skip)) [4, 15]) <|
  .seq (.seq (.dn (.reg (
    .op (some 24) (.mov (.t 0)) <|
    .op (some 25) (.slen (.t 24)) <|
    .call (some 26) (.fn 272) [(.t 25)] <|
    .nil)) [24, 25]) <|
  .dn (.ite (.t 26) (.seq (.dn (.reg (
      .op (some 28) (.mov (.t 1)) <|
      .call (some 29) (.fn 273) [(.t 28)] <|
      .op (some 27) (.mov (.t 29)) <|
      .op (some 30) (.ext (.t 27) 0) <|
      .op (some 31) (.ext (.t 27) 1) <|
      .op (some 6) (.new [(.bool false), (.bool false), (.bool false), (.bool false), (.bool false), (.bool false), (.bool false), (.bool false), (.bool false), (.bool false), (.bool false), (.bool false), (.bool false), (.bool false), (.bool false), (.bool false), (.bool false), (.bool false), (.bool false), (.bool false), (.bool false), (.bool false), (.bool false), (.bool false), (.bool false), (.bool false), (.bool false), (.bool false), (.bool false), (.bool false), (.bool false), (.bool false), (.bool false), (.bool false), (.bool false), (.bool false), (.bool false), (.bool false), (.bool false), (.bool false), (.bool false), (.bool false), (.bool false), (.bool false), (.bool false), (.bool false), (.bool false), (.bool false), (.bool false), (.bool false), (.bool false), (.bool false), (.bool false), (.bool false), (.bool false), (.bool false), (.bool false), (.bool false), (.bool false), (.bool false), (.bool false), (.bool false), (.bool false), (.bool false), (.bool false), (.bool false), (.bool false), (.bool false), (.bool false), (.bool false), (.bool false), (.bool false), (.bool false), (.bool false), (.bool false), (.bool false), (.bool false), (.bool false), (.bool false), (.bool false), (.bool false), (.bool false), (.bool false), (.bool false), (.bool false), (.bool false), (.bool false), (.bool false), (.bool false), (.bool false), (.bool false), (.bool false), (.bool false), (.bool false), (.bool false), (.bool false), (.bool false), (.bool false), (.bool false), (.bool false), (.bool false), (.bool false), (.bool false), (.bool false), (.bool false), (.bool false), (.bool false), (.bool false), (.bool false), (.bool false), (.bool false), (.bool false), (.bool false), (.bool false), (.bool false), (.bool false), (.bool false), (.bool false), (.bool false), (.bool false), (.bool false), (.bool false), (.bool false), (.bool false), (.bool false), (.bool false), (.bool false), (.bool false), (.bool false), (.bool false), (.bool false), (.bool false), (.bool false), (.bool false), (.bool false), (.bool false), (.bool false), (.bool false), (.bool false), (.bool false), (.bool false), (.bool false), (.bool false), (.bool false), (.bool false), (.bool false), (.bool false), (.bool false), (.bool false), (.bool false), (.bool false), (.bool false), (.bool false), (.bool false), (.bool false), (.bool false), (.bool false), (.bool false), (.bool false), (.bool false), (.bool false), (.bool false), (.bool false), (.bool false), (.bool false), (.bool false), (.bool false), (.bool false), (.bool false), (.bool false), (.bool false), (.bool false), (.bool false), (.bool false), (.bool false), (.bool false), (.bool false), (.bool false), (.bool false), (.bool false), (.bool false), (.bool false), (.bool false), (.bool false), (.bool false), (.bool false), (.bool false), (.bool false), (.bool false), (.bool false), (.bool false), (.bool false), (.bool false), (.bool false), (.bool false), (.bool false), (.bool false), (.bool false), (.bool false), (.bool false), (.bool false), (.bool false), (.bool false), (.bool false), (.bool false), (.bool false), (.bool false), (.bool false), (.bool false), (.bool false), (.bool false), (.bool false), (.bool false), (.bool false), (.bool false), (.bool false), (.bool false), (.bool false), (.bool false), (.bool false), (.bool false), (.bool false), (.bool false), (.bool false), (.bool false), (.bool false), (.bool false), (.bool false), (.bool false), (.bool false), (.bool false), (.bool false), (.bool false), (.bool false), (.bool false), (.bool false), (.bool false), (.bool false), (.bool false), (.bool false), (.bool false), (.bool false), (.bool false), (.bool false), (.bool false), (.bool false), (.bool false), (.bool false), (.bool false), (.bool false), (.bool false), (.bool false), (.bool false), (.bool false), (.bool false), (.bool false)]) <|
      .op none (.sto (some 256) (.t 6) (.t 30)) <|
      .op (some 7) (.mov (.t 31)) <|
      .nil)) [26, 28, 29, 27, 30, 31]) <|
    .seq (.dn (.reg (
      .op (some 32) (.mov (.t 7)) <|
      .nil)) [7]) <|
    .dn (.ite (.t 32) (.seq (.seq (.dn (.reg (
        .op (some 8) (.mov (.k (.int .i64 0))) <|
        .nil)) [1, 32]) <|
      .dn (.block 0 (
        .loop (
          .seq (.seq (.dn (.reg (
            .op (some 33) (.mov (.t 8)) <|
            .op (some 34) (.mov (.t 0)) <|
            .op (some 35) (.slen (.t 34)) <|
            .op (some 36) (.bin .lss (.t 33) (.t 35)) <|
            .nil)) [33, 34, 35]) <|
          .dn (.ite (.t 36) (.skip)
            (.exit 0)) [36]) <|
          .seq (.dn (.block 1 (
            .seq (.dn (.reg (
              .op (some 39) (.mov (.t 0)) <|
              .op (some 40) (.mov (.t 8)) <|
              .op (some 41) (.ixs (.t 39) (.t 40)) <|
              .call (some 42) (.fn 274) [(.t 6), (.t 41)] <|
              .nil)) [39, 40, 41]) <|
            .dn (.ite (.t 42) (.seq (.dn (.reg (
                .op (some 43) (.mov (.t 8)) <|
                .op (some 4) (.mov (.t 43)) <|
                .nil)) [0, 6, 8, 42, 43]) <|
              .ret)
              (.skip)) [4, 42])) [39, 40, 41, 42, 43, 4]) <|
          .dn (.reg (
            .op (some 37) (.mov (.t 8)) <|
            .op (some 38) (.bin .add (.t 37) (.k (.int .i64 1))) <|
            .op (some 8) (.mov (.t 38)) <|
            .nil)) [37, 38]))) [0, 6, 8, 33, 34, 35, 36, 39, 40, 41, 42, 43, 4, 37, 38]) <|
      .seq (.reg (
        .op (some 4) (.mov (.k (.int .i64 (-1)))) <|
        .nil)) <|
      .ret)
      (.skip)) [4, 6, 32])
    (.skip)) [26]) <|
  .seq (.seq (.dn (.reg (
    .op (some 44) (.mov (.t 0)) <|
    .op (some 45) (.rgs (.t 44)) <|
    .nil)) [0, 44]) <|
  .dn (.block 2 (
    .loop (
      .seq (.reg (
        .op (some 46) (.nxs (.t 45)) <|
        .op (some 47) (.ext (.t 46) 0) <|
        .nil)) <|
      .seq (.dn (.ite (.t 47) (.skip)
        (.exit 2)) [47]) <|
      .dn (.block 3 (
        .seq (.dn (.reg (
          .op (some 48) (.ext (.t 46) 1) <|
          .op (some 49) (.ext (.t 46) 2) <|
          .op (some 9) (.mov (.t 48)) <|
          .op (some 10) (.mov (.t 49)) <|
          .nil)) [46, 48, 49]) <|
        .seq (.dn (.reg (
          .op (some 50) (.mov (.t 1)) <|
          .op (some 51) (.mov (.t 10)) <|
          .call (some 52) (.fn 271) [(.t 50), (.t 51)] <|
          .op (some 53) (.bin .geq (.t 52) (.k (.int .i64 0))) <|
          .nil)) [10, 50, 51, 52]) <|
        .dn (.ite (.t 53) (.seq (.dn (.reg (
            .op (some 54) (.mov (.t 9)) <|
            .op (some 4) (.mov (.t 54)) <|
            .nil)) [1, 45, 9, 53, 54]) <|
          .ret)
          (.skip)) [4, 9, 53])) [46, 48, 49, 9, 10, 50, 51, 52, 53, 54, 4]))) [1, 45, 46, 47, 48, 49, 9, 10, 50, 51, 52, 53, 54, 4]) <|
  .seq (.reg (
    .op (some 4) (.mov (.k (.int .i64 (-1)))) <|
    .nil)) <|
  .ret
theorem ok219 : FnOk Tryz.prog 219 55 ir219 [.tmp 4] := FnOk.of Tryz.func219 (by kernel_rfl) (by kernel_rfl) (by kernel_rfl) (by kernel_rfl)
/-- strings.HasPrefix -/
def ir220 : Ic :=
  .seq (.dn (.reg (
    .op (some 4) (.mov (.k (.bool false))) <|
    .nil)) [4]) <|
  .seq (.dn (.reg (
    .op (some 5) (.mov (.t 0)) <|
    .op (some 6) (.mov (.t 1)) <|
    .call (some 7) (.fn 275) [(.t 5), (.t 6)] <|
    .op (some 4) (.mov (.t 7)) <|
    .nil)) [0, 1, 5, 6, 7]) <|
  .ret
theorem ok220 : FnOk Tryz.prog 220 8 ir220 [.tmp 4] := FnOk.of Tryz.func220 (by kernel_rfl) (by kernel_rfl) (by kernel_rfl) (by kernel_rfl)
/-- strings.Cut -/
def ir221 : Ic :=
  .seq (.dn (.reg (
    .op (some 4) (.mov (.k (.str []))) <|
    .op (some 5) (.mov (.k (.str []))) <|
    .op (some 6) (.mov (.k (.bool false))) <|
    .nil)) [4, 5, 6]) <|
  .seq (.dn (.reg (
    .op (some 7) (.mov (.t 0)) <|
    .op (some 8) (.mov (.t 1)) <|
    .call (some 9) (.fn 276) [(.t 7), (.t 8)] <|
    .op (some 10) (.ext (.t 9) 0) <|
    .op (some 11) (.ext (.t 9) 1) <|
    .op (some 12) (.ext (.t 9) 2) <|
    .op (some 4) (.mov (.t 10)) <|
    .op (some 5) (.mov (.t 11)) <|
    .op (some 6) (.mov (.t 12)) <|
    .nil)) [0, 1, 7, 8, 9, 10, 11, 12]) <|
  .ret
theorem ok221 : FnOk Tryz.prog 221 13 ir221 [.tmp 4, .tmp 5, .tmp 6] := FnOk.of Tryz.func221 (by kernel_rfl) (by kernel_rfl) (by kernel_rfl) (by kernel_rfl)
/-- strings.IndexRune -/
def ir271 : Ic :=
  .seq (.dn (.reg (
    .op (some 4) (.mov (.k (.int .i64 0))) <|
    .nil)) [4]) <|
  .dn (.block 0 (
    .seq (.dn (.reg (
      .op (some 161) (.mov (.t 1)) <|
      .op (some 162) (.bin .leq (.k (.int .i32 0)) (.t 161)) <|
      .op (some 163) (.mov (.t 162)) <|
      .sc 163 true (
        .op (some 164) (.mov (.t 1)) <|
        .op (some 165) (.bin .lss (.t 164) (.k (.int .i32 128))) <|
        .nil) (.t 165) 166 <|
      .op (some 160) (.mov (.t 166)) <|
      .nil)) [161, 162, 163, 164, 165, 166]) <|
    .ite (.t 160) (.seq (.dn (.reg (
        .op (some 167) (.mov (.t 0)) <|
        .op (some 168) (.mov (.t 1)) <|
        .op (some 169) (.cvi .u8 (.t 168)) <|
        .call (some 170) (.fn 320) [(.t 167), (.t 169)] <|
        .op (some 4) (.mov (.t 170)) <|
        .nil)) [0, 1, 160, 167, 168, 169, 170]) <|
      .ret)
      (.seq (.dn (.reg (
        .op (some 172) (.mov (.t 1)) <|
        .op (some 173) (.bin .eql (.t 172) (.k (.int .i32 65533))) <|
        .op (some 171) (.mov (.t 173)) <|
        .nil)) [160, 172, 173]) <|
      .ite (.t 171) (.seq (.seq (.dn (.reg (
          .op (some 174) (.mov (.t 0)) <|
          .op (some 175) (.rgs (.t 174)) <|
          .nil)) [0, 1, 171, 174]) <|
        .dn (.block 9 (
          .loop (
            .seq (.reg (
              .op (some 176) (.nxs (.t 175)) <|
              .op (some 177) (.ext (.t 176) 0) <|
              .nil)) <|
            .seq (.dn (.ite (.t 177) (.skip)
              (.exit 9)) [177]) <|
            .dn (.block 10 (
              .seq (.dn (.reg (
                .op (some 178) (.ext (.t 176) 1) <|
                .op (some 179) (.ext (.t 176) 2) <|
                .op (some 5) (.mov (.t 178)) <|
                .op (some 6) (.mov (.t 179)) <|
                .nil)) [176, 178, 179]) <|
              .seq (.dn (.reg (
                .op (some 180) (.mov (.t 6)) <|
                .op (some 181) (.bin .eql (.t 180) (.k (.int .i32 65533))) <|
                .nil)) [6, 180]) <|
              .dn (.ite (.t 181) (.seq (.dn (.reg (
                  .op (some 182) (.mov (.t 5)) <|
                  .op (some 4) (.mov (.t 182)) <|
                  .nil)) [175, 5, 181, 182]) <|
                .ret)
                (.skip)) [4, 5, 181])) [176, 178, 179, 5, 6, 180, 181, 182, 4]))) [175, 176, 177, 178, 179, 5, 6, 180, 181, 182, 4]) <|
        .seq (.reg (
          .op (some 4) (.mov (.k (.int .i64 (-1)))) <|
          .nil)) <|
        .ret)
        (.seq (.dn (.reg (
          .op (some 184) (.mov (.t 1)) <|
          .call (some 185) (.fn 321) [(.t 184)] <|
          .op (some 186) (.not (.t 185)) <|
          .op (some 183) (.mov (.t 186)) <|
          .nil)) [171, 184, 185, 186]) <|
        .ite (.t 183) (.seq (.dn (.reg (
            .op (some 4) (.mov (.k (.int .i64 (-1)))) <|
            .nil)) [0, 1, 183]) <|
          .ret)
          (.scp (
            .seq (.dn (.reg (
              .op (some 17) (.mov (.t 1)) <|
              .op (some 18) (.i2s (.t 17)) <|
              .op (some 7) (.mov (.t 18)) <|
              .nil)) [1, 183, 17, 18]) <|
            .seq (.dn (.reg (
              .op (some 19) (.mov (.t 7)) <|
              .op (some 20) (.slen (.t 19)) <|
              .op (some 21) (.bin .sub (.t 20) (.k (.int .i64 1))) <|
              .op (some 8) (.mov (.t 21)) <|
              .nil)) [19, 20, 21]) <|
            .seq (.dn (.reg (
              .op (some 22) (.mov (.t 8)) <|
              .op (some 9) (.mov (.t 22)) <|
              .nil)) [22]) <|
            .seq (.dn (.reg (
              .op (some 10) (.mov (.k (.int .i64 0))) <|
              .nil)) [10]) <|
            .seq (.dn (.block 1 (
              .loop (
                .seq (.seq (.dn (.reg (
                  .op (some 23) (.mov (.t 9)) <|
                  .op (some 24) (.mov (.t 0)) <|
                  .op (some 25) (.slen (.t 24)) <|
                  .op (some 26) (.bin .lss (.t 23) (.t 25)) <|
                  .nil)) [23, 24, 25]) <|
                .dn (.ite (.t 26) (.skip)
                  (.exit 1)) [26]) <|
                .dn (.block 2 (
                  .scp (
                    .seq (.seq (.dn (.reg (
                      .op (some 27) (.mov (.t 0)) <|
                      .op (some 28) (.mov (.t 9)) <|
                      .op (some 29) (.ixs (.t 27) (.t 28)) <|
                      .op (some 30) (.mov (.t 7)) <|
                      .op (some 31) (.mov (.t 8)) <|
                      .op (some 32) (.ixs (.t 30) (.t 31)) <|
                      .op (some 33) (.bin .neq (.t 29) (.t 32)) <|
                      .nil)) [27, 28, 29, 30, 31, 32]) <|
                    .dn (.ite (.t 33) (.seq (.dn (.reg (
                        .op (some 34) (.mov (.t 0)) <|
                        .op (some 35) (.mov (.t 9)) <|
                        .op (some 36) (.bin .add (.t 35) (.k (.int .i64 1))) <|
                        .op (some 37) (.sls (.t 34) (some (.t 36)) none) <|
                        .op (some 38) (.mov (.t 7)) <|
                        .op (some 39) (.mov (.t 8)) <|
                        .op (some 40) (.ixs (.t 38) (.t 39)) <|
                        .call (some 41) (.fn 320) [(.t 37), (.t 40)] <|
                        .op (some 11) (.mov (.t 41)) <|
                        .nil)) [33, 34, 35, 36, 37, 38, 39, 40, 41]) <|
                      .seq (.seq (.dn (.reg (
                        .op (some 42) (.mov (.t 11)) <|
                        .op (some 43) (.bin .lss (.t 42) (.k (.int .i64 0))) <|
                        .nil)) [42]) <|
                      .dn (.ite (.t 43) (.seq (.dn (.reg (
                          .op (some 4) (.mov (.k (.int .i64 (-1)))) <|
                          .nil)) [0, 7, 8, 9, 11, 43]) <|
                        .ret)
                        (.skip)) [4, 43]) <|
                      .dn (.reg (
                        .op (some 44) (.mov (.t 9)) <|
                        .op (some 45) (.mov (.t 11)) <|
                        .op (some 46) (.bin .add (.t 45) (.k (.int .i64 1))) <|
                        .op (some 47) (.bin .add (.t 44) (.t 46)) <|
                        .op (some 9) (.mov (.t 47)) <|
                        .nil)) [11, 44, 45, 46, 47])
                      (.skip)) [33]) <|
                    .seq (.seq (.reg (
                      .op (some 12) (.mov (.k (.int .i64 1))) <|
                      .nil)) <|
                    .dn (.block 3 (
                      .loop (
                        .seq (.seq (.dn (.reg (
                          .op (some 48) (.mov (.t 12)) <|
                          .op (some 49) (.mov (.t 7)) <|
                          .op (some 50) (.slen (.t 49)) <|
                          .op (some 51) (.bin .lss (.t 48) (.t 50)) <|
                          .nil)) [48, 49, 50]) <|
                        .dn (.ite (.t 51) (.skip)
                          (.exit 3)) [51]) <|
                        .seq (.dn (.block 4 (
                          .seq (.dn (.reg (
                            .op (some 54) (.mov (.t 0)) <|
                            .op (some 55) (.mov (.t 9)) <|
                            .op (some 56) (.mov (.t 12)) <|
                            .op (some 57) (.bin .sub (.t 55) (.t 56)) <|
                            .op (some 58) (.ixs (.t 54) (.t 57)) <|
                            .op (some 59) (.mov (.t 7)) <|
                            .op (some 60) (.mov (.t 8)) <|
                            .op (some 61) (.mov (.t 12)) <|
                            .op (some 62) (.bin .sub (.t 60) (.t 61)) <|
                            .op (some 63) (.ixs (.t 59) (.t 62)) <|
                            .op (some 64) (.bin .neq (.t 58) (.t 63)) <|
                            .nil)) [54, 55, 56, 57, 58, 59, 60, 61, 62, 63]) <|
                          .dn (.ite (.t 64) (.bad)
                            (.skip)) [64])) [54, 55, 56, 57, 58, 59, 60, 61, 62, 63, 64]) <|
                        .dn (.reg (
                          .op (some 52) (.mov (.t 12)) <|
                          .op (some 53) (.bin .add (.t 52) (.k (.int .i64 1))) <|
                          .op (some 12) (.mov (.t 53)) <|
                          .nil)) [52, 53]))) [0, 7, 12, 48, 49, 50, 51, 54, 55, 56, 57, 58, 59, 60, 61, 62, 63, 64, 52, 53]) <|
                    .seq (.seq (.dn (.reg (
                      .op (some 65) (.mov (.t 9)) <|
                      .op (some 66) (.mov (.t 8)) <|
                      .op (some 67) (.bin .sub (.t 65) (.t 66)) <|
                      .op (some 4) (.mov (.t 67)) <|
                      .nil)) [8, 9, 65, 66, 67]) <|
                    .ret) <|
                    .seq (.lab) <|
                    .seq (.dn (.reg (
                      .op (some 68) (.mov (.t 10)) <|
                      .op (some 69) (.bin .add (.t 68) (.k (.int .i64 1))) <|
                      .op (some 10) (.mov (.t 69)) <|
                      .nil)) [4, 68, 69]) <|
                    .seq (.dn (.reg (
                      .op (some 70) (.mov (.t 9)) <|
                      .op (some 71) (.bin .add (.t 70) (.k (.int .i64 1))) <|
                      .op (some 9) (.mov (.t 71)) <|
                      .nil)) [70, 71]) <|
                    .seq (.dn (.reg (
                      .op (some 72) (.mov (.k (.bool true))) <|
                      .sc 72 true (
                        .op (some 73) (.mov (.t 10)) <|
                        .op (some 74) (.mov (.t 9)) <|
                        .call (some 75) (.fn 322) [(.t 74)] <|
                        .op (some 76) (.bin .gtr (.t 73) (.t 75)) <|
                        .nil) (.t 76) 77 <|
                      .op (some 78) (.mov (.t 77)) <|
                      .sc 78 true (
                        .op (some 79) (.mov (.t 9)) <|
                        .op (some 80) (.mov (.t 0)) <|
                        .op (some 81) (.slen (.t 80)) <|
                        .op (some 82) (.bin .lss (.t 79) (.t 81)) <|
                        .nil) (.t 82) 83 <|
                      .op (some 84) (.mov (.t 83)) <|
                      .sc 84 false (
                        .op (some 85) (.mov (.k (.bool false))) <|
                        .sc 85 true (
                          .op (some 86) (.mov (.t 10)) <|
                          .op (some 87) (.mov (.t 9)) <|
                          .op (some 88) (.bit .shr (.t 87) (.k (.int .u64 4))) <|
                          .op (some 89) (.bin .add (.k (.int .i64 4)) (.t 88)) <|
                          .op (some 90) (.bin .geq (.t 86) (.t 89)) <|
                          .nil) (.t 90) 91 <|
                        .op (some 92) (.mov (.t 91)) <|
                        .sc 92 true (
                          .op (some 93) (.mov (.t 9)) <|
                          .op (some 94) (.mov (.t 0)) <|
                          .op (some 95) (.slen (.t 94)) <|
                          .op (some 96) (.bin .lss (.t 93) (.t 95)) <|
                          .nil) (.t 96) 97 <|
                        .nil) (.t 97) 98 <|
                      .nil)) [10, 72, 73, 74, 75, 76, 77, 78, 79, 80, 81, 82, 83, 84, 85, 86, 87, 88, 89, 90, 91, 92, 93, 94, 95, 96, 97]) <|
                    .dn (.ite (.t 98) (.bad)
                      (.skip)) [98]))) [27, 28, 29, 30, 31, 32, 33, 34, 35, 36, 37, 38, 39, 40, 41, 11, 42, 43, 4, 44, 45, 46, 47, 12, 48, 49, 50, 51, 54, 55, 56, 57, 58, 59, 60, 61, 62, 63, 64, 52, 53, 65, 66, 67, 68, 69, 10, 70, 71, 72, 73, 74, 75, 76, 77, 78, 79, 80, 81, 82, 83, 84, 85, 86, 87, 88, 89, 90, 91, 92, 93, 94, 95, 96, 97, 98]))) [0, 7, 8, 9, 23, 24, 25, 26, 27, 28, 29, 30, 31, 32, 33, 34, 35, 36, 37, 38, 39, 40, 41, 11, 42, 43, 4, 44, 45, 46, 47, 12, 48, 49, 50, 51, 54, 55, 56, 57, 58, 59, 60, 61, 62, 63, 64, 52, 53, 65, 66, 67, 68, 69, 10, 70, 71, 72, 73, 74, 75, 76, 77, 78, 79, 80, 81, 82, 83, 84, 85, 86, 87, 88, 89, 90, 91, 92, 93, 94, 95, 96, 97, 98]) <|
            .seq (.seq (.reg (
              .op (some 4) (.mov (.k (.int .i64 (-1)))) <|
              .nil)) <|
            .ret) <|
            .seq (.lab) <|
            .seq (.ite (.k (.bool true)) (.seq (.dn (.reg (
                .op (some 99) (.mov (.t 0)) <|
                .op (some 100) (.mov (.t 9)) <|
                .op (some 101) (.mov (.t 8)) <|
                .op (some 102) (.bin .sub (.t 100) (.t 101)) <|
                .op (some 103) (.sls (.t 99) (some (.t 102)) none) <|
                .op (some 104) (.mov (.t 1)) <|
                .op (some 105) (.i2s (.t 104)) <|
                .call (some 106) (.fn 323) [(.t 103), (.t 105)] <|
                .op (some 13) (.mov (.t 106)) <|
                .nil)) [4, 99, 100, 101, 102, 103, 104, 105, 106]) <|
              .seq (.dn (.reg (
                .op (some 107) (.mov (.t 13)) <|
                .op (some 108) (.bin .geq (.t 107) (.k (.int .i64 0))) <|
                .nil)) [107]) <|
              .dn (.ite (.t 108) (.seq (.dn (.reg (
                  .op (some 109) (.mov (.t 9)) <|
                  .op (some 110) (.mov (.t 13)) <|
                  .op (some 111) (.bin .add (.t 109) (.t 110)) <|
                  .op (some 112) (.mov (.t 8)) <|
                  .op (some 113) (.bin .sub (.t 111) (.t 112)) <|
                  .op (some 4) (.mov (.t 113)) <|
                  .nil)) [13, 108, 109, 110, 111, 112, 113]) <|
                .ret)
                (.skip)) [4, 13, 108])
              (.scp (
                .seq (.dn (.reg (
                  .op (some 114) (.mov (.t 7)) <|
                  .op (some 115) (.mov (.t 8)) <|
                  .op (some 116) (.ixs (.t 114) (.t 115)) <|
                  .op (some 14) (.mov (.t 116)) <|
                  .nil)) [4, 114, 115, 116]) <|
                .seq (.dn (.reg (
                  .op (some 117) (.mov (.t 7)) <|
                  .op (some 118) (.mov (.t 8)) <|
                  .op (some 119) (.bin .sub (.t 118) (.k (.int .i64 1))) <|
                  .op (some 120) (.ixs (.t 117) (.t 119)) <|
                  .op (some 15) (.mov (.t 120)) <|
                  .nil)) [117, 118, 119, 120]) <|
                .seq (.lab) <|
                .dn (.block 5 (
                  .loop (
                    .seq (.seq (.dn (.reg (
                      .op (some 121) (.mov (.t 9)) <|
                      .op (some 122) (.mov (.t 0)) <|
                      .op (some 123) (.slen (.t 122)) <|
                      .op (some 124) (.bin .lss (.t 121) (.t 123)) <|
                      .nil)) [121, 122, 123]) <|
                    .dn (.ite (.t 124) (.skip)
                      (.exit 5)) [124]) <|
                    .seq (.dn (.block 6 (
                      .seq (.dn (.reg (
                        .op (some 127) (.mov (.t 0)) <|
                        .op (some 128) (.mov (.t 9)) <|
                        .op (some 129) (.ixs (.t 127) (.t 128)) <|
                        .op (some 130) (.mov (.t 14)) <|
                        .op (some 131) (.bin .eql (.t 129) (.t 130)) <|
                        .op (some 132) (.mov (.t 131)) <|
                        .sc 132 true (
                          .op (some 133) (.mov (.t 0)) <|
                          .op (some 134) (.mov (.t 9)) <|
                          .op (some 135) (.bin .sub (.t 134) (.k (.int .i64 1))) <|
                          .op (some 136) (.ixs (.t 133) (.t 135)) <|
                          .op (some 137) (.mov (.t 15)) <|
                          .op (some 138) (.bin .eql (.t 136) (.t 137)) <|
                          .nil) (.t 138) 139 <|
                        .nil)) [127, 128, 129, 130, 131, 132, 133, 134, 135, 136, 137, 138]) <|
                      .dn (.ite (.t 139) (.seq (.seq (.dn (.reg (
                          .op (some 16) (.mov (.k (.int .i64 2))) <|
                          .nil)) [139]) <|
                        .dn (.block 7 (
                          .loop (
                            .seq (.seq (.dn (.reg (
                              .op (some 140) (.mov (.t 16)) <|
                              .op (some 141) (.mov (.t 7)) <|
                              .op (some 142) (.slen (.t 141)) <|
                              .op (some 143) (.bin .lss (.t 140) (.t 142)) <|
                              .nil)) [140, 141, 142]) <|
                            .dn (.ite (.t 143) (.skip)
                              (.exit 7)) [143]) <|
                            .seq (.dn (.block 8 (
                              .seq (.dn (.reg (
                                .op (some 146) (.mov (.t 0)) <|
                                .op (some 147) (.mov (.t 9)) <|
                                .op (some 148) (.mov (.t 16)) <|
                                .op (some 149) (.bin .sub (.t 147) (.t 148)) <|
                                .op (some 150) (.ixs (.t 146) (.t 149)) <|
                                .op (some 151) (.mov (.t 7)) <|
                                .op (some 152) (.mov (.t 8)) <|
                                .op (some 153) (.mov (.t 16)) <|
                                .op (some 154) (.bin .sub (.t 152) (.t 153)) <|
                                .op (some 155) (.ixs (.t 151) (.t 154)) <|
                                .op (some 156) (.bin .neq (.t 150) (.t 155)) <|
                                .nil)) [146, 147, 148, 149, 150, 151, 152, 153, 154, 155]) <|
                              .dn (.ite (.t 156) (.exit 6)
                                (.skip)) [156])) [146, 147, 148, 149, 150, 151, 152, 153, 154, 155, 156]) <|
                            .dn (.reg (
                              .op (some 144) (.mov (.t 16)) <|
                              .op (some 145) (.bin .add (.t 144) (.k (.int .i64 1))) <|
                              .op (some 16) (.mov (.t 145)) <|
                              .nil)) [144, 145]))) [14, 15, 16, 140, 141, 142, 143, 146, 147, 148, 149, 150, 151, 152, 153, 154, 155, 156, 144, 145]) <|
                        .seq (.dn (.reg (
                          .op (some 157) (.mov (.t 9)) <|
                          .op (some 158) (.mov (.t 8)) <|
                          .op (some 159) (.bin .sub (.t 157) (.t 158)) <|
                          .op (some 4) (.mov (.t 159)) <|
                          .nil)) [157, 158, 159]) <|
                        .ret)
                        (.skip)) [4, 139])) [127, 128, 129, 130, 131, 132, 133, 134, 135, 136, 137, 138, 139, 16, 140, 141, 142, 143, 146, 147, 148, 149, 150, 151, 152, 153, 154, 155, 156, 144, 145, 157, 158, 159, 4]) <|
                    .dn (.reg (
                      .op (some 125) (.mov (.t 9)) <|
                      .op (some 126) (.bin .add (.t 125) (.k (.int .i64 1))) <|
                      .op (some 9) (.mov (.t 126)) <|
                      .nil)) [125, 126]))) [14, 15, 121, 122, 123, 124, 127, 128, 129, 130, 131, 132, 133, 134, 135, 136, 137, 138, 139, 16, 140, 141, 142, 143, 146, 147, 148, 149, 150, 151, 152, 153, 154, 155, 156, 144, 145, 157, 158, 159, 4, 125, 126, 9]))) <|
            .seq (.reg (
              .op (some 4) (.mov (.k (.int .i64 (-1)))) <|
              .nil)) <|
            .ret)))))) [0, 1, 161, 162, 163, 164, 165, 166, 160, 167, 168, 169, 170, 172, 173, 171, 174, 175, 176, 177, 178, 179, 5, 6, 180, 181, 182, 184, 185, 186, 183, 17, 18, 7, 19, 20, 21, 8, 22, 9, 10, 23, 24, 25, 26, 27, 28, 29, 30, 31, 32, 33, 34, 35, 36, 37, 38, 39, 40, 41, 11, 42, 43, 44, 45, 46, 47, 12, 48, 49, 50, 51, 54, 55, 56, 57, 58, 59, 60, 61, 62, 63, 64, 52, 53, 65, 66, 67, 68, 69, 70, 71, 72, 73, 74, 75, 76, 77, 78, 79, 80, 81, 82, 83, 84, 85, 86, 87, 88, 89, 90, 91, 92, 93, 94, 95, 96, 97, 98, 99, 100, 101, 102, 103, 104, 105, 106, 13, 107, 108, 109, 110, 111, 112, 113, 114, 115, 116, 14, 117, 118, 119, 120, 15, 121, 122, 123, 124, 127, 128, 129, 130, 131, 132, 133, 134, 135, 136, 137, 138, 139, 16, 140, 141, 142, 143, 146, 147, 148, 149, 150, 151, 152, 153, 154, 155, 156, 144, 145, 157, 158, 159, 125, 126]
theorem ok271 : FnOk Tryz.prog 271 187 ir271 [.tmp 4] := FnOk.of Tryz.func271 (by kernel_rfl) (by kernel_rfl) (by kernel_rfl) (by kernel_rfl)
/-- strings.shouldUseASCIISet -/
def ir272 : Ic :=
  .seq (.dn (.reg (
    .op (some 2) (.mov (.k (.bool false))) <|
    .nil)) [2]) <|
  .seq (.dn (.reg (
    .op (some 3) (.mov (.t 0)) <|
    .op (some 4) (.bin .gtr (.t 3) (.k (.int .i64 8))) <|
    .op (some 2) (.mov (.t 4)) <|
    .nil)) [0, 3, 4]) <|
  .ret
theorem ok272 : FnOk Tryz.prog 272 5 ir272 [.tmp 2] := FnOk.of Tryz.func272 (by kernel_rfl) (by kernel_rfl) (by kernel_rfl) (by kernel_rfl)
/-- strings.makeASCIISet -/
def ir273 : Ic :=
  .seq (.dn (.reg (
    .op (some 2) (.new [(.bool false), (.bool false), (.bool false), (.bool false), (.bool false), (.bool false), (.bool false), (.bool false), (.bool false), (.bool false), (.bool false), (.bool false), (.bool false), (.bool false), (.bool false), (.bool false), (.bool false), (.bool false), (.bool false), (.bool false), (.bool false), (.bool false), (.bool false), (.bool false), (.bool false), (.bool false), (.bool false), (.bool false), (.bool false), (.bool false), (.bool false), (.bool false), (.bool false), (.bool false), (.bool false), (.bool false), (.bool false), (.bool false), (.bool false), (.bool false), (.bool false), (.bool false), (.bool false), (.bool false), (.bool false), (.bool false), (.bool false), (.bool false), (.bool false), (.bool false), (.bool false), (.bool false), (.bool false), (.bool false), (.bool false), (.bool false), (.bool false), (.bool false), (.bool false), (.bool false), (.bool false), (.bool false), (.bool false), (.bool false), (.bool false), (.bool false), (.bool false), (.bool false), (.bool false), (.bool false), (.bool false), (.bool false), (.bool false), (.bool false), (.bool false), (.bool false), (.bool false), (.bool false), (.bool false), (.bool false), (.bool false), (.bool false), (.bool false), (.bool false), (.bool false), (.bool false), (.bool false), (.bool false), (.bool false), (.bool false), (.bool false), (.bool false), (.bool false), (.bool false), (.bool false), (.bool false), (.bool false), (.bool false), (.bool false), (.bool false), (.bool false), (.bool false), (.bool false), (.bool false), (.bool false), (.bool false), (.bool false), (.bool false), (.bool false), (.bool false), (.bool false), (.bool false), (.bool false), (.bool false), (.bool false), (.bool false), (.bool false), (.bool false), (.bool false), (.bool false), (.bool false), (.bool false), (.bool false), (.bool false), (.bool false), (.bool false), (.bool false), (.bool false), (.bool false), (.bool false), (.bool false), (.bool false), (.bool false), (.bool false), (.bool false), (.bool false), (.bool false), (.bool false), (.bool false), (.bool false), (.bool false), (.bool false), (.bool false), (.bool false), (.bool false), (.bool false), (.bool false), (.bool false), (.bool false), (.bool false), (.bool false), (.bool false), (.bool false), (.bool false), (.bool false), (.bool false), (.bool false), (.bool false), (.bool false), (.bool false), (.bool false), (.bool false), (.bool false), (.bool false), (.bool false), (.bool false), (.bool false), (.bool false), (.bool false), (.bool false), (.bool false), (.bool false), (.bool false), (.bool false), (.bool false), (.bool false), (.bool false), (.bool false), (.bool false), (.bool false), (.bool false), (.bool false), (.bool false), (.bool false), (.bool false), (.bool false), (.bool false), (.bool false), (.bool false), (.bool false), (.bool false), (.bool false), (.bool false), (.bool false), (.bool false), (.bool false), (.bool false), (.bool false), (.bool false), (.bool false), (.bool false), (.bool false), (.bool false), (.bool false), (.bool false), (.bool false), (.bool false), (.bool false), (.bool false), (.bool false), (.bool false), (.bool false), (.bool false), (.bool false), (.bool false), (.bool false), (.bool false), (.bool false), (.bool false), (.bool false), (.bool false), (.bool false), (.bool false), (.bool false), (.bool false), (.bool false), (.bool false), (.bool false), (.bool false), (.bool false), (.bool false), (.bool false), (.bool false), (.bool false), (.bool false), (.bool false), (.bool false), (.bool false), (.bool false), (.bool false), (.bool false), (.bool false), (.bool false), (.bool false), (.bool false), (.bool false), (.bool false), (.bool false), (.bool false), (.bool false), (.bool false), (.bool false), (.bool false), (.bool false), (.bool false), (.bool false)]) <|
    .op (some 3) (.mov (.k (.bool false))) <|
    .nil)) [3]) <|
  .seq (.seq (.reg (
    .op (some 4) (.mov (.k (.int .i64 0))) <|
    .nil)) <|
  .dn (.block 0 (
    .loop (
      .seq (.seq (.dn (.reg (
        .op (some 6) (.mov (.t 4)) <|
        .op (some 7) (.mov (.t 0)) <|
        .op (some 8) (.slen (.t 7)) <|
        .op (some 9) (.bin .lss (.t 6) (.t 8)) <|
        .nil)) [6, 7, 8]) <|
      .dn (.ite (.t 9) (.skip)
        (.exit 0)) [9]) <|
      .seq (.dn (.block 1 (
        .seq (.dn (.reg (
          .op (some 12) (.mov (.t 0)) <|
          .op (some 13) (.mov (.t 4)) <|
          .op (some 14) (.ixs (.t 12) (.t 13)) <|
          .op (some 5) (.mov (.t 14)) <|
          .nil)) [12, 13, 14]) <|
        .seq (.seq (.dn (.reg (
          .op (some 15) (.mov (.t 5)) <|
          .op (some 16) (.bin .geq (.t 15) (.k (.int .u8 128))) <|
          .nil)) [15]) <|
        .dn (.ite (.t 16) (.seq (.dn (.reg (
            .op (some 17) (.ld (some 256) (.t 2)) <|
            .op none (.sto (some 256) (.t 2) (.t 17)) <|
            .op (some 3) (.mov (.k (.bool false))) <|
            .nil)) [0, 4, 5, 16, 17]) <|
          .ret)
          (.skip)) [3, 16]) <|
        .dn (.reg (
          .op (some 18) (.mov (.t 5)) <|
          .op (some 19) (.ixr 256 1 (.t 2) (.t 18)) <|
          .op none (.sto none (.t 19) (.k (.bool true))) <|
          .nil)) [5, 18, 19])) [12, 13, 14, 5, 15, 16, 17, 3, 18, 19]) <|
      .dn (.reg (
        .op (some 10) (.mov (.t 4)) <|
        .op (some 11) (.bin .add (.t 10) (.k (.int .i64 1))) <|
        .op (some 4) (.mov (.t 11)) <|
        .nil)) [10, 11]))) [0, 4, 6, 7, 8, 9, 12, 13, 14, 5, 15, 16, 17, 3, 18, 19, 10, 11]) <|
  .seq (.dn (.reg (
    .op (some 20) (.ld (some 256) (.t 2)) <|
    .op none (.sto (some 256) (.t 2) (.t 20)) <|
    .op (some 3) (.mov (.k (.bool true))) <|
    .nil)) [20]) <|
  .ret
theorem ok273 : FnOk Tryz.prog 273 21 ir273 [.cell 2 (some 256), .tmp 3] := FnOk.of Tryz.func273 (by kernel_rfl) (by kernel_rfl) (by kernel_rfl) (by kernel_rfl)
/-- (*strings.asciiSet).contains -/
def ir274 : Ic :=
  .seq (.dn (.reg (
    .op (some 4) (.mov (.k (.bool false))) <|
    .nil)) [4]) <|
  .seq (.dn (.reg (
    .op (some 5) (.mov (.t 0)) <|
    .op (some 6) (.mov (.t 1)) <|
    .op (some 7) (.nck (.t 5)) <|
    .op (some 8) (.ixr 256 1 (.t 7) (.t 6)) <|
    .op (some 9) (.ld none (.t 8)) <|
    .op (some 4) (.mov (.t 9)) <|
    .nil)) [0, 1, 5, 6, 7, 8, 9]) <|
  .ret
theorem ok274 : FnOk Tryz.prog 274 10 ir274 [.tmp 4] := FnOk.of Tryz.func274 (by kernel_rfl) (by kernel_rfl) (by kernel_rfl) (by kernel_rfl)
/-- internal/stringslite.HasPrefix -/
def ir275 : Ic :=
  .seq (.dn (.reg (
    .op (some 4) (.mov (.k (.bool false))) <|
    .nil)) [4]) <|
  .seq (.dn (.reg (
    .op (some 5) (.mov (.t 0)) <|
    .op (some 6) (.slen (.t 5)) <|
    .op (some 7) (.mov (.t 1)) <|
    .op (some 8) (.slen (.t 7)) <|
    .op (some 9) (.bin .geq (.t 6) (.t 8)) <|
    .op (some 10) (.mov (.t 9)) <|
    .sc 10 true (
      .op (some 11) (.mov (.t 0)) <|
      .op (some 12) (.mov (.t 1)) <|
      .op (some 13) (.slen (.t 12)) <|
      .op (some 14) (.sls (.t 11) none (some (.t 13))) <|
      .op (some 15) (.mov (.t 1)) <|
      .op (some 16) (.bin .seq (.t 14) (.t 15)) <|
      .nil) (.t 16) 17 <|
    .op (some 4) (.mov (.t 17)) <|
    .nil)) [0, 1, 5, 6, 7, 8, 9, 10, 11, 12, 13, 14, 15, 16, 17]) <|
  .ret
theorem ok275 : FnOk Tryz.prog 275 18 ir275 [.tmp 4] := FnOk.of Tryz.func275 (by kernel_rfl) (by kernel_rfl) (by kernel_rfl) (by kernel_rfl)
/-- internal/stringslite.Cut -/
def ir276 : Ic :=
  .seq (.dn (.reg (
    .op (some 4) (.mov (.k (.str []))) <|
    .op (some 5) (.mov (.k (.str []))) <|
    .op (some 6) (.mov (.k (.bool false))) <|
    .nil)) [4, 5, 6]) <|
  .seq (.seq (.dn (.reg (
    .op (some 8) (.mov (.t 0)) <|
    .op (some 9) (.mov (.t 1)) <|
    .call (some 10) (.fn 324) [(.t 8), (.t 9)] <|
    .op (some 7) (.mov (.t 10)) <|
    .nil)) [8, 9, 10]) <|
  .seq (.dn (.reg (
    .op (some 11) (.mov (.t 7)) <|
    .op (some 12) (.bin .geq (.t 11) (.k (.int .i64 0))) <|
    .nil)) [11]) <|
  .dn (.ite (.t 12) (.seq (.dn (.reg (
      .op (some 13) (.mov (.t 0)) <|
      .op (some 14) (.mov (.t 7)) <|
      .op (some 15) (.sls (.t 13) none (some (.t 14))) <|
      .op (some 16) (.mov (.t 0)) <|
      .op (some 17) (.mov (.t 7)) <|
      .op (some 18) (.mov (.t 1)) <|
      .op (some 19) (.slen (.t 18)) <|
      .op (some 20) (.bin .add (.t 17) (.t 19)) <|
      .op (some 21) (.sls (.t 16) (some (.t 20)) none) <|
      .op (some 4) (.mov (.t 15)) <|
      .op (some 5) (.mov (.t 21)) <|
      .op (some 6) (.mov (.k (.bool true))) <|
      .nil)) [0, 1, 7, 12, 13, 14, 15, 16, 17, 18, 19, 20, 21]) <|
    .ret)
    (.skip)) [4, 5, 6, 1, 7, 12]) <|
  .seq (.dn (.reg (
    .op (some 22) (.mov (.t 0)) <|
    .op (some 4) (.mov (.t 22)) <|
    .op (some 5) (.mov (.k (.str []))) <|
    .op (some 6) (.mov (.k (.bool false))) <|
    .nil)) [0, 22]) <|
  .ret
theorem ok276 : FnOk Tryz.prog 276 23 ir276 [.tmp 4, .tmp 5, .tmp 6] := FnOk.of Tryz.func276 (by kernel_rfl) (by kernel_rfl) (by kernel_rfl) (by kernel_rfl)
/-- strings.IndexByte -/
def ir320 : Ic :=
  .seq (.dn (.reg (
    .op (some 4) (.mov (.k (.int .i64 0))) <|
    .nil)) [4]) <|
  .seq (.dn (.reg (
    .op (some 5) (.mov (.t 0)) <|
    .op (some 6) (.mov (.t 1)) <|
    .call (some 7) (.fn 357) [(.t 5), (.t 6)] <|
    .op (some 4) (.mov (.t 7)) <|
    .nil)) [0, 1, 5, 6, 7]) <|
  .ret
theorem ok320 : FnOk Tryz.prog 320 8 ir320 [.tmp 4] := FnOk.of Tryz.func320 (by kernel_rfl) (by kernel_rfl) (by kernel_rfl) (by kernel_rfl)
/-- unicode/utf8.ValidRune -/
def ir321 : Ic :=
  .seq (.dn (.reg (
    .op (some 2) (.mov (.k (.bool false))) <|
    .nil)) [2]) <|
  .seq (.dn (.block 0 (
    .seq (.dn (.reg (
      .op (some 4) (.mov (.t 0)) <|
      .op (some 5) (.bin .leq (.k (.int .i32 0)) (.t 4)) <|
      .op (some 6) (.mov (.t 5)) <|
      .sc 6 true (
        .op (some 7) (.mov (.t 0)) <|
        .op (some 8) (.bin .lss (.t 7) (.k (.int .i32 55296))) <|
        .nil) (.t 8) 9 <|
      .op (some 3) (.mov (.t 9)) <|
      .nil)) [4, 5, 6, 7, 8, 9]) <|
    .dn (.ite (.t 3) (.seq (.dn (.reg (
        .op (some 2) (.mov (.k (.bool true))) <|
        .nil)) [0, 3]) <|
      .ret)
      (.seq (.dn (.reg (
        .op (some 11) (.mov (.t 0)) <|
        .op (some 12) (.bin .lss (.k (.int .i32 57343)) (.t 11)) <|
        .op (some 13) (.mov (.t 12)) <|
        .sc 13 true (
          .op (some 14) (.mov (.t 0)) <|
          .op (some 15) (.bin .leq (.t 14) (.k (.int .i32 1114111))) <|
          .nil) (.t 15) 16 <|
        .op (some 10) (.mov (.t 16)) <|
        .nil)) [0, 3, 11, 12, 13, 14, 15, 16]) <|
      .dn (.ite (.t 10) (.seq (.dn (.reg (
          .op (some 2) (.mov (.k (.bool true))) <|
          .nil)) [10]) <|
        .ret)
        (.skip)) [2, 10])) [2])) [0, 4, 5, 6, 7, 8, 9, 3, 2, 11, 12, 13, 14, 15, 16, 10]) <|
  .seq (.reg (
    .op (some 2) (.mov (.k (.bool false))) <|
    .nil)) <|
  .ret
theorem ok321 : FnOk Tryz.prog 321 17 ir321 [.tmp 2] := FnOk.of Tryz.func321 (by kernel_rfl) (by kernel_rfl) (by kernel_rfl) (by kernel_rfl)
/-- internal/stringslite.Index -/
def ir324 : Ic :=
  .seq (.dn (.reg (
    .op (some 4) (.mov (.k (.int .i64 0))) <|
    .nil)) [4]) <|
  .seq (.dn (.reg (
    .op (some 14) (.mov (.t 1)) <|
    .op (some 15) (.slen (.t 14)) <|
    .op (some 5) (.mov (.t 15)) <|
    .nil)) [14, 15]) <|
  .seq (.dn (.block 0 (
    .seq (.dn (.reg (
      .op (some 17) (.mov (.t 5)) <|
      .op (some 18) (.bin .eql (.t 17) (.k (.int .i64 0))) <|
      .op (some 19) (.mov (.t 18)) <|
      .sc 19 false (
        .op (some 20) (.mov (.t 1)) <|
        .op (some 21) (.mov (.t 0)) <|
        .op (some 22) (.bin .seq (.t 20) (.t 21)) <|
        .nil) (.t 22) 23 <|
      .op (some 16) (.mov (.t 23)) <|
      .nil)) [17, 18, 19, 20, 21, 22, 23]) <|
    .dn (.ite (.t 16) (.seq (.dn (.reg (
        .op (some 4) (.mov (.k (.int .i64 0))) <|
        .nil)) [0, 1, 5, 16]) <|
      .ret)
      (.seq (.dn (.reg (
        .op (some 25) (.mov (.t 5)) <|
        .op (some 26) (.bin .eql (.t 25) (.k (.int .i64 1))) <|
        .op (some 24) (.mov (.t 26)) <|
        .nil)) [16, 25, 26]) <|
      .dn (.ite (.t 24) (.seq (.dn (.reg (
          .op (some 27) (.mov (.t 0)) <|
          .op (some 28) (.mov (.t 1)) <|
          .op (some 29) (.ixs (.t 28) (.k (.int .i64 0))) <|
          .call (some 30) (.fn 357) [(.t 27), (.t 29)] <|
          .op (some 4) (.mov (.t 30)) <|
          .nil)) [0, 1, 5, 24, 27, 28, 29, 30]) <|
        .ret)
        (.seq (.dn (.reg (
          .op (some 32) (.mov (.t 5)) <|
          .op (some 33) (.mov (.t 0)) <|
          .op (some 34) (.slen (.t 33)) <|
          .op (some 35) (.bin .geq (.t 32) (.t 34)) <|
          .op (some 31) (.mov (.t 35)) <|
          .nil)) [24, 32, 33, 34, 35]) <|
        .dn (.ite (.t 31) (.seq (.dn (.reg (
            .op (some 4) (.mov (.k (.int .i64 (-1)))) <|
            .nil)) [0, 1, 5, 31]) <|
          .ret)
          (.seq (.dn (.reg (
            .op (some 37) (.mov (.t 5)) <|
            .op (some 38) (.ld none (.k (.glo 2))) <|
            .op (some 39) (.bin .leq (.t 37) (.t 38)) <|
            .op (some 40) (.mov (.t 39)) <|
            .sc 40 true (
              .op (some 41) (.mov (.t 0)) <|
              .op (some 42) (.slen (.t 41)) <|
              .op (some 43) (.bin .leq (.t 42) (.k (.int .i64 64))) <|
              .nil) (.t 43) 44 <|
            .op (some 36) (.mov (.t 44)) <|
            .nil)) [31, 37, 38, 39, 40, 41, 42, 43, 44]) <|
          .dn (.ite (.t 36) (.seq (.dn (.reg (
              .op (some 45) (.mov (.t 0)) <|
              .op (some 46) (.mov (.t 1)) <|
              .call (some 47) (.fn 323) [(.t 45), (.t 46)] <|
              .op (some 4) (.mov (.t 47)) <|
              .nil)) [0, 1, 5, 36, 45, 46, 47]) <|
            .ret)
            (.skip)) [4, 36])) [4])) [4])) [4])) [17, 18, 19, 20, 21, 22, 23, 16, 4, 25, 26, 24, 27, 28, 29, 30, 32, 33, 34, 35, 31, 37, 38, 39, 40, 41, 42, 43, 44, 36, 45, 46, 47]) <|
  .seq (.dn (.reg (
    .op (some 48) (.mov (.t 1)) <|
    .op (some 49) (.ixs (.t 48) (.k (.int .i64 0))) <|
    .op (some 6) (.mov (.t 49)) <|
    .nil)) [48, 49]) <|
  .seq (.dn (.reg (
    .op (some 50) (.mov (.t 1)) <|
    .op (some 51) (.ixs (.t 50) (.k (.int .i64 1))) <|
    .op (some 7) (.mov (.t 51)) <|
    .nil)) [50, 51]) <|
  .seq (.reg (
    .op (some 8) (.mov (.k (.int .i64 0))) <|
    .nil)) <|
  .seq (.dn (.reg (
    .op (some 52) (.mov (.t 0)) <|
    .op (some 53) (.slen (.t 52)) <|
    .op (some 54) (.mov (.t 5)) <|
    .op (some 55) (.bin .sub (.t 53) (.t 54)) <|
    .op (some 56) (.bin .add (.t 55) (.k (.int .i64 1))) <|
    .op (some 9) (.mov (.t 56)) <|
    .nil)) [52, 53, 54, 55, 56]) <|
  .seq (.reg (
    .op (some 10) (.mov (.k (.int .i64 0))) <|
    .nil)) <|
  .seq (.dn (.block 1 (
    .loop (
      .seq (.seq (.dn (.reg (
        .op (some 57) (.mov (.t 8)) <|
        .op (some 58) (.mov (.t 9)) <|
        .op (some 59) (.bin .lss (.t 57) (.t 58)) <|
        .nil)) [57, 58]) <|
      .dn (.ite (.t 59) (.skip)
        (.exit 1)) [59]) <|
      .dn (.block 2 (
        .seq (.seq (.dn (.reg (
          .op (some 60) (.mov (.t 0)) <|
          .op (some 61) (.mov (.t 8)) <|
          .op (some 62) (.ixs (.t 60) (.t 61)) <|
          .op (some 63) (.mov (.t 6)) <|
          .op (some 64) (.bin .neq (.t 62) (.t 63)) <|
          .nil)) [60, 61, 62, 63]) <|
        .dn (.ite (.t 64) (.seq (.dn (.reg (
            .op (some 65) (.mov (.t 0)) <|
            .op (some 66) (.mov (.t 8)) <|
            .op (some 67) (.bin .add (.t 66) (.k (.int .i64 1))) <|
            .op (some 68) (.mov (.t 9)) <|
            .op (some 69) (.sls (.t 65) (some (.t 67)) (some (.t 68))) <|
            .op (some 70) (.mov (.t 6)) <|
            .call (some 71) (.fn 357) [(.t 69), (.t 70)] <|
            .op (some 11) (.mov (.t 71)) <|
            .nil)) [64, 65, 66, 67, 68, 69, 70, 71]) <|
          .seq (.seq (.dn (.reg (
            .op (some 72) (.mov (.t 11)) <|
            .op (some 73) (.bin .lss (.t 72) (.k (.int .i64 0))) <|
            .nil)) [72]) <|
          .dn (.ite (.t 73) (.seq (.dn (.reg (
              .op (some 4) (.mov (.k (.int .i64 (-1)))) <|
              .nil)) [0, 1, 5, 6, 7, 8, 9, 10, 11, 73]) <|
            .ret)
            (.skip)) [4, 73]) <|
          .dn (.reg (
            .op (some 74) (.mov (.t 8)) <|
            .op (some 75) (.mov (.t 11)) <|
            .op (some 76) (.bin .add (.t 75) (.k (.int .i64 1))) <|
            .op (some 77) (.bin .add (.t 74) (.t 76)) <|
            .op (some 8) (.mov (.t 77)) <|
            .nil)) [11, 74, 75, 76, 77])
          (.skip)) [64]) <|
        .seq (.seq (.dn (.reg (
          .op (some 78) (.mov (.t 0)) <|
          .op (some 79) (.mov (.t 8)) <|
          .op (some 80) (.bin .add (.t 79) (.k (.int .i64 1))) <|
          .op (some 81) (.ixs (.t 78) (.t 80)) <|
          .op (some 82) (.mov (.t 7)) <|
          .op (some 83) (.bin .eql (.t 81) (.t 82)) <|
          .op (some 84) (.mov (.t 83)) <|
          .sc 84 true (
            .op (some 85) (.mov (.t 0)) <|
            .op (some 86) (.mov (.t 8)) <|
            .op (some 87) (.mov (.t 8)) <|
            .op (some 88) (.mov (.t 5)) <|
            .op (some 89) (.bin .add (.t 87) (.t 88)) <|
            .op (some 90) (.sls (.t 85) (some (.t 86)) (some (.t 89))) <|
            .op (some 91) (.mov (.t 1)) <|
            .op (some 92) (.bin .seq (.t 90) (.t 91)) <|
            .nil) (.t 92) 93 <|
          .nil)) [78, 79, 80, 81, 82, 83, 84, 85, 86, 87, 88, 89, 90, 91, 92]) <|
        .dn (.ite (.t 93) (.seq (.dn (.reg (
            .op (some 94) (.mov (.t 8)) <|
            .op (some 4) (.mov (.t 94)) <|
            .nil)) [0, 1, 5, 6, 7, 8, 9, 10, 93, 94]) <|
          .ret)
          (.skip)) [4, 93]) <|
        .seq (.dn (.reg (
          .op (some 95) (.mov (.t 8)) <|
          .op (some 96) (.bin .add (.t 95) (.k (.int .i64 1))) <|
          .op (some 8) (.mov (.t 96)) <|
          .nil)) [95, 96]) <|
        .seq (.dn (.reg (
          .op (some 97) (.mov (.t 10)) <|
          .op (some 98) (.bin .add (.t 97) (.k (.int .i64 1))) <|
          .op (some 10) (.mov (.t 98)) <|
          .nil)) [97, 98]) <|
        .seq (.dn (.reg (
          .op (some 99) (.mov (.t 5)) <|
          .op (some 100) (.ld none (.k (.glo 2))) <|
          .op (some 101) (.bin .leq (.t 99) (.t 100)) <|
          .op (some 102) (.mov (.t 101)) <|
          .sc 102 true (
            .op (some 103) (.mov (.t 10)) <|
            .op (some 104) (.mov (.t 8)) <|
            .call (some 105) (.fn 322) [(.t 104)] <|
            .op (some 106) (.bin .gtr (.t 103) (.t 105)) <|
            .nil) (.t 106) 107 <|
          .nil)) [99, 100, 101, 102, 103, 104, 105, 106]) <|
        .dn (.ite (.t 107) (.seq (.dn (.reg (
            .op (some 108) (.mov (.t 0)) <|
            .op (some 109) (.mov (.t 8)) <|
            .op (some 110) (.sls (.t 108) (some (.t 109)) none) <|
            .op (some 111) (.mov (.t 1)) <|
            .call (some 112) (.fn 323) [(.t 110), (.t 111)] <|
            .op (some 12) (.mov (.t 112)) <|
            .nil)) [0, 1, 5, 6, 7, 9, 10, 107, 108, 109, 110, 111, 112]) <|
          .seq (.seq (.dn (.reg (
            .op (some 113) (.mov (.t 12)) <|
            .op (some 114) (.bin .geq (.t 113) (.k (.int .i64 0))) <|
            .nil)) [113]) <|
          .dn (.ite (.t 114) (.seq (.dn (.reg (
              .op (some 115) (.mov (.t 12)) <|
              .op (some 116) (.mov (.t 8)) <|
              .op (some 117) (.bin .add (.t 115) (.t 116)) <|
              .op (some 4) (.mov (.t 117)) <|
              .nil)) [8, 12, 114, 115, 116, 117]) <|
            .ret)
            (.skip)) [4, 8, 12, 114]) <|
          .seq (.reg (
            .op (some 4) (.mov (.k (.int .i64 (-1)))) <|
            .nil)) <|
          .ret)
          (.seq (.dn (.reg (
            .op (some 118) (.mov (.t 5)) <|
            .op (some 119) (.ld none (.k (.glo 2))) <|
            .op (some 120) (.bin .gtr (.t 118) (.t 119)) <|
            .op (some 121) (.mov (.t 120)) <|
            .sc 121 true (
              .op (some 122) (.mov (.t 10)) <|
              .op (some 123) (.mov (.t 8)) <|
              .op (some 124) (.bit .shr (.t 123) (.k (.int .u64 4))) <|
              .op (some 125) (.bin .add (.k (.int .i64 4)) (.t 124)) <|
              .op (some 126) (.bin .geq (.t 122) (.t 125)) <|
              .nil) (.t 126) 127 <|
            .op (some 128) (.mov (.t 127)) <|
            .sc 128 true (
              .op (some 129) (.mov (.t 8)) <|
              .op (some 130) (.mov (.t 9)) <|
              .op (some 131) (.bin .lss (.t 129) (.t 130)) <|
              .nil) (.t 131) 132 <|
            .nil)) [107, 118, 119, 120, 121, 122, 123, 124, 125, 126, 127, 128, 129, 130, 131]) <|
          .dn (.ite (.t 132) (.seq (.dn (.reg (
              .op (some 133) (.mov (.t 0)) <|
              .op (some 134) (.mov (.t 8)) <|
              .op (some 135) (.sls (.t 133) (some (.t 134)) none) <|
              .op (some 136) (.mov (.t 1)) <|
              .call (some 137) (.fn 358) [(.t 135), (.t 136)] <|
              .op (some 13) (.mov (.t 137)) <|
              .nil)) [0, 1, 5, 6, 7, 9, 10, 132, 133, 134, 135, 136, 137]) <|
            .seq (.seq (.dn (.reg (
              .op (some 138) (.mov (.t 13)) <|
              .op (some 139) (.bin .lss (.t 138) (.k (.int .i64 0))) <|
              .nil)) [138]) <|
            .dn (.ite (.t 139) (.seq (.dn (.reg (
                .op (some 4) (.mov (.k (.int .i64 (-1)))) <|
                .nil)) [8, 13, 139]) <|
              .ret)
              (.skip)) [4, 139]) <|
            .seq (.dn (.reg (
              .op (some 140) (.mov (.t 8)) <|
              .op (some 141) (.mov (.t 13)) <|
              .op (some 142) (.bin .add (.t 140) (.t 141)) <|
              .op (some 4) (.mov (.t 142)) <|
              .nil)) [8, 13, 140, 141, 142]) <|
            .ret)
            (.skip)) [4, 132])) [4])) [60, 61, 62, 63, 64, 65, 66, 67, 68, 69, 70, 71, 11, 72, 73, 4, 74, 75, 76, 77, 78, 79, 80, 81, 82, 83, 84, 85, 86, 87, 88, 89, 90, 91, 92, 93, 94, 95, 96, 97, 98, 99, 100, 101, 102, 103, 104, 105, 106, 107, 108, 109, 110, 111, 112, 12, 113, 114, 115, 116, 117, 118, 119, 120, 121, 122, 123, 124, 125, 126, 127, 128, 129, 130, 131, 132, 133, 134, 135, 136, 137, 13, 138, 139, 140, 141, 142]))) [0, 1, 5, 6, 7, 8, 9, 10, 57, 58, 59, 60, 61, 62, 63, 64, 65, 66, 67, 68, 69, 70, 71, 11, 72, 73, 4, 74, 75, 76, 77, 78, 79, 80, 81, 82, 83, 84, 85, 86, 87, 88, 89, 90, 91, 92, 93, 94, 95, 96, 97, 98, 99, 100, 101, 102, 103, 104, 105, 106, 107, 108, 109, 110, 111, 112, 12, 113, 114, 115, 116, 117, 118, 119, 120, 121, 122, 123, 124, 125, 126, 127, 128, 129, 130, 131, 132, 133, 134, 135, 136, 137, 13, 138, 139, 140, 141, 142]) <|
  .seq (.reg (
    .op (some 4) (.mov (.k (.int .i64 (-1)))) <|
    .nil)) <|
  .ret
theorem ok324 : FnOk Tryz.prog 324 143 ir324 [.tmp 4] := FnOk.of Tryz.func324 (by kernel_rfl) (by kernel_rfl) (by kernel_rfl) (by kernel_rfl)
/-- internal/stringslite.IndexByte -/
def ir357 : Ic :=
  .seq (.dn (.reg (
    .op (some 4) (.mov (.k (.int .i64 0))) <|
    .nil)) [4]) <|
  .seq (.dn (.reg (
    .op (some 5) (.mov (.t 0)) <|
    .op (some 6) (.mov (.t 1)) <|
    .call (some 7) (.fn 370) [(.t 5), (.t 6)] <|
    .op (some 4) (.mov (.t 7)) <|
    .nil)) [0, 1, 5, 6, 7]) <|
  .ret
theorem ok357 : FnOk Tryz.prog 357 8 ir357 [.tmp 4] := FnOk.of Tryz.func357 (by kernel_rfl) (by kernel_rfl) (by kernel_rfl) (by kernel_rfl)
end Go.Proofs
