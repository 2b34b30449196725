/- The intermediate forms of functions (printed by a program). -/
import Derived.Test.YtpkgbjneglfkhaaGreatDoorAvD
import Derived.Test.YtpkgbjneglfkhaaGreatDoorProg
set_option linter.unusedVariables false
set_option linter.unusedSimpArgs false
namespace Go.Proofs
open Go Av
/-- manifold/expr.Equal -/
def ir31 : Ic :=
  .seq (.dn (.reg (
    .op (some 2) (.box (.t 0)) <|
    .op (some 3) (.box (.t 1)) <|
    .op (some 4) (.mov (.k (.bool false))) <|
    .nil)) [0, 1, 4]) <|
  .seq (.dn (.reg (
    .op (some 5) (.fa (.t 2) 0) <|
    .op (some 6) (.ld none (.t 5)) <|
    .op (some 7) (.fa (.t 3) 0) <|
    .op (some 8) (.ld none (.t 7)) <|
    .op (some 9) (.bin .eql (.t 6) (.t 8)) <|
    .op (some 10) (.mov (.t 9)) <|
    .sc 10 true (
      .op (some 11) (.fa (.t 2) 1) <|
      .op (some 12) (.ld none (.t 11)) <|
      .op (some 13) (.fa (.t 3) 1) <|
      .op (some 14) (.ld none (.t 13)) <|
      .op (some 15) (.bin .eql (.t 12) (.t 14)) <|
      .nil) (.t 15) 16 <|
    .op (some 17) (.mov (.t 16)) <|
    .sc 17 true (
      .op (some 18) (.fa (.t 2) 2) <|
      .op (some 19) (.ld none (.t 18)) <|
      .op (some 20) (.fa (.t 3) 2) <|
      .op (some 21) (.ld none (.t 20)) <|
      .op (some 22) (.bin .seq (.t 19) (.t 21)) <|
      .nil) (.t 22) 23 <|
    .op (some 24) (.mov (.t 23)) <|
    .sc 24 true (
      .op (some 25) (.fa (.t 2) 3) <|
      .op (some 26) (.ld none (.t 25)) <|
      .op (some 27) (.fa (.t 3) 3) <|
      .op (some 28) (.ld none (.t 27)) <|
      .call (some 29) (.fn 64) [(.t 26), (.t 28), (.k (.fn (.func 20) [] []))] <|
      .nil) (.t 29) 30 <|
    .op (some 31) (.mov (.t 30)) <|
    .sc 31 true (
      .op (some 32) (.fa (.t 2) 4) <|
      .op (some 33) (.ld none (.t 32)) <|
      .op (some 34) (.fa (.t 3) 4) <|
      .op (some 35) (.ld none (.t 34)) <|
      .call (some 36) (.fn 93) [(.t 33), (.t 35), (.k (.fn (.func 31) [] []))] <|
      .nil) (.t 36) 37 <|
    .op (some 4) (.mov (.t 37)) <|
    .nil)) [2, 3, 5, 6, 7, 8, 9, 10, 11, 12, 13, 14, 15, 16, 17, 18, 19, 20, 21, 22, 23, 24, 25, 26, 27, 28, 29, 30, 31, 32, 33, 34, 35, 36, 37]) <|
  .ret
theorem ok31 : FnOk Tryz.prog 31 38 ir31 [.tmp 4] := FnOk.of Tryz.func31 (by kernel_rfl) (by kernel_rfl) (by kernel_rfl) (by kernel_rfl)
/-- manifold/mapping.Clone -/
def ir32 : Ic :=
  .seq (.dn (.reg (
    .op (some 1) (.box (.t 0)) <|
    .op (some 2) (.new [(.nil 6)]) <|
    .nil)) [0]) <|
  .seq (.dn (.reg (
    .op (some 6) (.fa (.t 1) 0) <|
    .op (some 7) (.ld none (.t 6)) <|
    .op (some 8) (.len (.t 7)) <|
    .op (some 9) (.mks 6 [(.str []), (.int .i64 0), (.int .i64 0), (.str []), (.nil 6), (.nil 5)] (.k (.int .i64 0)) (.t 8)) <|
    .op (some 3) (.mov (.t 9)) <|
    .nil)) [6, 7, 8, 9]) <|
  .seq (.seq (.dn (.reg (
    .op (some 10) (.fa (.t 1) 0) <|
    .op (some 11) (.ld none (.t 10)) <|
    .op (some 12) (.len (.t 11)) <|
    .op (some 13) (.mov (.k (.int .i64 0))) <|
    .nil)) [1, 10]) <|
  .dn (.block 0 (
    .loop (
      .seq (.reg (
        .op (some 14) (.bin .lss (.t 13) (.t 12)) <|
        .nil)) <|
      .seq (.dn (.ite (.t 14) (.skip)
        (.exit 0)) [14]) <|
      .seq (.dn (.block 1 (
        .seq (.dn (.reg (
          .op (some 15) (.ixa true 6 (.t 11) (.t 13)) <|
          .op (some 16) (.ld (some 6) (.t 15)) <|
          .op (some 5) (.new [(.str []), (.int .i64 0), (.int .i64 0), (.str []), (.nil 6), (.nil 5)]) <|
          .op none (.sto (some 6) (.t 5) (.t 16)) <|
          .nil)) [15, 16]) <|
        .dn (.regd [(2, 5)] (
          .op (some 17) (.mov (.t 3)) <|
          .op (some 18) (.fa (.t 5) 0) <|
          .op (some 19) (.ld none (.t 18)) <|
          .op (some 20) (.fa (.t 5) 1) <|
          .op (some 21) (.ld (some 5) (.t 20)) <|
          .call (some 22) (.fn 94) [(.t 21)] <|
          .op (some 23) (.bld [(.str []), (.int .i64 0), (.int .i64 0), (.str []), (.nil 6), (.nil 5)] [(0, 1, (.t 19)), (1, 5, (.t 22))]) <|
          .op (some 24) (.bls 6 [(.t 23)]) <|
          .op (some 25) (.app 6 (.t 17) (.t 24)) <|
          .op (some 3) (.mov (.t 25)) <|
          .nil)) [5, 17, 18, 19, 20, 21, 22, 23, 24, 25])) [15, 16, 5, 17, 18, 19, 20, 21, 22, 23, 24, 25]) <|
      .dn (.reg (
        .op (some 26) (.bin .add (.t 13) (.k (.int .i64 1))) <|
        .op (some 13) (.mov (.t 26)) <|
        .nil)) [26]))) [11, 12, 13, 14, 15, 16, 5, 17, 18, 19, 20, 21, 22, 23, 24, 25, 26]) <|
  .seq (.dn (.reg (
    .op (some 27) (.mov (.t 3)) <|
    .op (some 28) (.bld [(.nil 6)] [(0, 1, (.t 27))]) <|
    .op none (.sto (some 1) (.t 2) (.t 28)) <|
    .nil)) [3, 27, 28]) <|
  .ret
theorem ok32 : FnOk Tryz.prog 32 29 ir32 [.cell 2 (some 1)] := FnOk.of Tryz.func32 (by kernel_rfl) (by kernel_rfl) (by kernel_rfl) (by kernel_rfl)
/-- manifold/mapping.Equal -/
def ir33 : Ic :=
  .seq (.dn (.reg (
    .op (some 2) (.box (.t 0)) <|
    .op (some 3) (.box (.t 1)) <|
    .op (some 4) (.mov (.k (.bool false))) <|
    .nil)) [0, 1, 4]) <|
  .seq (.dn (.reg (
    .op (some 5) (.fa (.t 2) 0) <|
    .op (some 6) (.ld none (.t 5)) <|
    .op (some 7) (.fa (.t 3) 0) <|
    .op (some 8) (.ld none (.t 7)) <|
    .call (some 9) (.fn 95) [(.t 6), (.t 8), (.k (.fn (.func 96) [] []))] <|
    .op (some 4) (.mov (.t 9)) <|
    .nil)) [2, 3, 5, 6, 7, 8, 9]) <|
  .ret
theorem ok33 : FnOk Tryz.prog 33 10 ir33 [.tmp 4] := FnOk.of Tryz.func33 (by kernel_rfl) (by kernel_rfl) (by kernel_rfl) (by kernel_rfl)
/-- manifold/manifoldlaw18.Small -/
def ir23 : Ic :=
  .seq (.dn (.reg (
    .op (some 1) (.box (.t 0)) <|
    .op (some 2) (.mov (.k (.bool false))) <|
    .nil)) [0, 2]) <|
  .seq (.seq (.dn (.reg (
    .op (some 4) (.fa (.t 1) 0) <|
    .op (some 5) (.ld none (.t 4)) <|
    .op (some 6) (.len (.t 5)) <|
    .op (some 7) (.bin .gtr (.t 6) (.k (.int .i64 12))) <|
    .nil)) [4, 5, 6]) <|
  .dn (.ite (.t 7) (.seq (.dn (.reg (
      .op (some 2) (.mov (.k (.bool false))) <|
      .nil)) [1, 7]) <|
    .ret)
    (.skip)) [2, 7]) <|
  .seq (.seq (.reg (
    .op (some 3) (.mov (.k (.int .i64 0))) <|
    .nil)) <|
  .dn (.block 0 (
    .loop (
      .seq (.seq (.dn (.reg (
        .op (some 8) (.mov (.t 3)) <|
        .op (some 9) (.fa (.t 1) 0) <|
        .op (some 10) (.ld none (.t 9)) <|
        .op (some 11) (.len (.t 10)) <|
        .op (some 12) (.bin .lss (.t 8) (.t 11)) <|
        .nil)) [8, 9, 10, 11]) <|
      .dn (.ite (.t 12) (.skip)
        (.exit 0)) [12]) <|
      .seq (.dn (.block 1 (
        .seq (.dn (.reg (
          .op (some 15) (.fa (.t 1) 0) <|
          .op (some 16) (.ld none (.t 15)) <|
          .op (some 17) (.mov (.t 3)) <|
          .op (some 18) (.ixa true 6 (.t 16) (.t 17)) <|
          .op (some 19) (.fa (.t 18) 0) <|
          .op (some 20) (.ld none (.t 19)) <|
          .op (some 21) (.slen (.t 20)) <|
          .op (some 22) (.bin .gtr (.t 21) (.k (.int .i64 300))) <|
          .op (some 23) (.mov (.t 22)) <|
          .sc 23 false (
            .op (some 24) (.fa (.t 1) 0) <|
            .op (some 25) (.ld none (.t 24)) <|
            .op (some 26) (.mov (.t 3)) <|
            .op (some 27) (.ixa true 6 (.t 25) (.t 26)) <|
            .op (some 28) (.fa (.t 27) 1) <|
            .op (some 29) (.ld (some 5) (.t 28)) <|
            .call (some 30) (.fn 77) [(.t 29)] <|
            .op (some 31) (.not (.t 30)) <|
            .nil) (.t 31) 32 <|
          .nil)) [15, 16, 17, 18, 19, 20, 21, 22, 23, 24, 25, 26, 27, 28, 29, 30, 31]) <|
        .dn (.ite (.t 32) (.seq (.dn (.reg (
            .op (some 2) (.mov (.k (.bool false))) <|
            .nil)) [1, 3, 32]) <|
          .ret)
          (.skip)) [2, 32])) [15, 16, 17, 18, 19, 20, 21, 22, 23, 24, 25, 26, 27, 28, 29, 30, 31, 32, 2]) <|
      .dn (.reg (
        .op (some 13) (.mov (.t 3)) <|
        .op (some 14) (.bin .add (.t 13) (.k (.int .i64 1))) <|
        .op (some 3) (.mov (.t 14)) <|
        .nil)) [13, 14]))) [1, 3, 8, 9, 10, 11, 12, 15, 16, 17, 18, 19, 20, 21, 22, 23, 24, 25, 26, 27, 28, 29, 30, 31, 32, 2, 13, 14]) <|
  .seq (.reg (
    .op (some 2) (.mov (.k (.bool true))) <|
    .nil)) <|
  .ret
theorem ok23 : FnOk Tryz.prog 23 33 ir23 [.tmp 2] := FnOk.of Tryz.func23 (by kernel_rfl) (by kernel_rfl) (by kernel_rfl) (by kernel_rfl)
/-- manifold/manifoldlaw06.SmallValue -/
def ir26 : Ic :=
  .seq (.dn (.reg (
    .op (some 1) (.box (.t 0)) <|
    .op (some 2) (.mov (.k (.bool false))) <|
    .nil)) [0, 2]) <|
  .seq (.reg (
    .op (some 3) (.new [(.int .i64 0)]) <|
    .op none (.sto none (.t 3) (.k (.int .i64 300))) <|
    .nil)) <|
  .seq (.dn (.reg (
    .op (some 4) (.ld (some 6) (.t 1)) <|
    .call (some 5) (.fn 85) [(.t 4), (.k (.int .i64 12)), (.t 3)] <|
    .op (some 2) (.mov (.t 5)) <|
    .nil)) [1, 3, 4, 5]) <|
  .ret
theorem ok26 : FnOk Tryz.prog 26 6 ir26 [.tmp 2] := FnOk.of Tryz.func26 (by kernel_rfl) (by kernel_rfl) (by kernel_rfl) (by kernel_rfl)
/-- manifold/manifoldlaw18.SmallExpr -/
def ir77 : Ic :=
  .seq (.dn (.reg (
    .op (some 1) (.box (.t 0)) <|
    .op (some 2) (.mov (.k (.bool false))) <|
    .nil)) [0, 2]) <|
  .seq (.reg (
    .op (some 3) (.new [(.int .i64 0)]) <|
    .op none (.sto none (.t 3) (.k (.int .i64 150))) <|
    .nil)) <|
  .seq (.dn (.reg (
    .op (some 4) (.ld (some 5) (.t 1)) <|
    .call (some 5) (.fn 150) [(.t 4), (.k (.int .i64 12)), (.t 3)] <|
    .op (some 2) (.mov (.t 5)) <|
    .nil)) [1, 3, 4, 5]) <|
  .ret
theorem ok77 : FnOk Tryz.prog 77 6 ir77 [.tmp 2] := FnOk.of Tryz.func77 (by kernel_rfl) (by kernel_rfl) (by kernel_rfl) (by kernel_rfl)
/-- manifold/manifoldlaw06.smallValue -/
def ir85 : Ic :=
  .seq (.dn (.reg (
    .op (some 3) (.box (.t 0)) <|
    .op (some 6) (.mov (.k (.bool false))) <|
    .nil)) [0, 6]) <|
  .seq (.dn (.reg (
    .op (some 9) (.mov (.t 2)) <|
    .op (some 10) (.nck (.t 9)) <|
    .op (some 11) (.ld none (.t 10)) <|
    .op (some 12) (.bin .sub (.t 11) (.k (.int .i64 1))) <|
    .op (some 13) (.nck (.t 9)) <|
    .op none (.sto none (.t 13) (.t 12)) <|
    .nil)) [9, 10, 11, 12, 13]) <|
  .seq (.seq (.dn (.reg (
    .op (some 14) (.mov (.t 2)) <|
    .op (some 15) (.nck (.t 14)) <|
    .op (some 16) (.ld none (.t 15)) <|
    .op (some 17) (.bin .lss (.t 16) (.k (.int .i64 0))) <|
    .op (some 18) (.mov (.t 17)) <|
    .sc 18 false (
      .op (some 19) (.mov (.t 1)) <|
      .op (some 20) (.bin .eql (.t 19) (.k (.int .i64 0))) <|
      .nil) (.t 20) 21 <|
    .op (some 22) (.mov (.t 21)) <|
    .sc 22 false (
      .op (some 23) (.fa (.t 3) 3) <|
      .op (some 24) (.ld none (.t 23)) <|
      .op (some 25) (.slen (.t 24)) <|
      .op (some 26) (.bin .gtr (.t 25) (.k (.int .i64 2000))) <|
      .nil) (.t 26) 27 <|
    .nil)) [14, 15, 16, 17, 18, 19, 20, 21, 22, 23, 24, 25, 26]) <|
  .dn (.ite (.t 27) (.seq (.dn (.reg (
      .op (some 6) (.mov (.k (.bool false))) <|
      .nil)) [1, 2, 3, 27]) <|
    .ret)
    (.skip)) [6, 27]) <|
  .seq (.seq (.reg (
    .op (some 7) (.mov (.k (.int .i64 0))) <|
    .nil)) <|
  .dn (.block 0 (
    .loop (
      .seq (.seq (.dn (.reg (
        .op (some 28) (.mov (.t 7)) <|
        .op (some 29) (.fa (.t 3) 4) <|
        .op (some 30) (.ld none (.t 29)) <|
        .op (some 31) (.len (.t 30)) <|
        .op (some 32) (.bin .lss (.t 28) (.t 31)) <|
        .nil)) [28, 29, 30, 31]) <|
      .dn (.ite (.t 32) (.skip)
        (.exit 0)) [32]) <|
      .seq (.dn (.block 1 (
        .seq (.dn (.reg (
          .op (some 35) (.fa (.t 3) 4) <|
          .op (some 36) (.ld none (.t 35)) <|
          .op (some 37) (.mov (.t 7)) <|
          .op (some 38) (.ixa true 6 (.t 36) (.t 37)) <|
          .op (some 39) (.ld (some 6) (.t 38)) <|
          .op (some 40) (.mov (.t 1)) <|
          .op (some 41) (.bin .sub (.t 40) (.k (.int .i64 1))) <|
          .op (some 42) (.mov (.t 2)) <|
          .call (some 43) (.fn 85) [(.t 39), (.t 41), (.t 42)] <|
          .op (some 44) (.not (.t 43)) <|
          .nil)) [35, 36, 37, 38, 39, 40, 41, 42, 43]) <|
        .dn (.ite (.t 44) (.seq (.dn (.reg (
            .op (some 6) (.mov (.k (.bool false))) <|
            .nil)) [1, 2, 3, 7, 44]) <|
          .ret)
          (.skip)) [6, 44])) [35, 36, 37, 38, 39, 40, 41, 42, 43, 44, 6]) <|
      .dn (.reg (
        .op (some 33) (.mov (.t 7)) <|
        .op (some 34) (.bin .add (.t 33) (.k (.int .i64 1))) <|
        .op (some 7) (.mov (.t 34)) <|
        .nil)) [33, 34]))) [7, 28, 29, 30, 31, 32, 35, 36, 37, 38, 39, 40, 41, 42, 43, 44, 6, 33, 34]) <|
  .seq (.seq (.reg (
    .op (some 8) (.mov (.k (.int .i64 0))) <|
    .nil)) <|
  .dn (.block 2 (
    .loop (
      .seq (.seq (.dn (.reg (
        .op (some 45) (.mov (.t 8)) <|
        .op (some 46) (.fa (.t 3) 5) <|
        .op (some 47) (.ld none (.t 46)) <|
        .op (some 48) (.len (.t 47)) <|
        .op (some 49) (.bin .lss (.t 45) (.t 48)) <|
        .nil)) [45, 46, 47, 48]) <|
      .dn (.ite (.t 49) (.skip)
        (.exit 2)) [49]) <|
      .seq (.dn (.block 3 (
        .seq (.dn (.reg (
          .op (some 52) (.fa (.t 3) 5) <|
          .op (some 53) (.ld none (.t 52)) <|
          .op (some 54) (.mov (.t 8)) <|
          .op (some 55) (.ixa true 7 (.t 53) (.t 54)) <|
          .op (some 56) (.fa (.t 55) 0) <|
          .op (some 57) (.ld none (.t 56)) <|
          .op (some 58) (.slen (.t 57)) <|
          .op (some 59) (.bin .gtr (.t 58) (.k (.int .i64 100))) <|
          .op (some 60) (.mov (.t 59)) <|
          .sc 60 false (
            .op (some 61) (.fa (.t 3) 5) <|
            .op (some 62) (.ld none (.t 61)) <|
            .op (some 63) (.mov (.t 8)) <|
            .op (some 64) (.ixa true 7 (.t 62) (.t 63)) <|
            .op (some 65) (.fa (.t 64) 1) <|
            .op (some 66) (.ld (some 6) (.t 65)) <|
            .op (some 67) (.mov (.t 1)) <|
            .op (some 68) (.bin .sub (.t 67) (.k (.int .i64 1))) <|
            .op (some 69) (.mov (.t 2)) <|
            .call (some 70) (.fn 85) [(.t 66), (.t 68), (.t 69)] <|
            .op (some 71) (.not (.t 70)) <|
            .nil) (.t 71) 72 <|
          .nil)) [52, 53, 54, 55, 56, 57, 58, 59, 60, 61, 62, 63, 64, 65, 66, 67, 68, 69, 70, 71]) <|
        .dn (.ite (.t 72) (.seq (.dn (.reg (
            .op (some 6) (.mov (.k (.bool false))) <|
            .nil)) [1, 2, 3, 8, 72]) <|
          .ret)
          (.skip)) [6, 72])) [52, 53, 54, 55, 56, 57, 58, 59, 60, 61, 62, 63, 64, 65, 66, 67, 68, 69, 70, 71, 72, 6]) <|
      .dn (.reg (
        .op (some 50) (.mov (.t 8)) <|
        .op (some 51) (.bin .add (.t 50) (.k (.int .i64 1))) <|
        .op (some 8) (.mov (.t 51)) <|
        .nil)) [50, 51]))) [1, 2, 3, 8, 45, 46, 47, 48, 49, 52, 53, 54, 55, 56, 57, 58, 59, 60, 61, 62, 63, 64, 65, 66, 67, 68, 69, 70, 71, 72, 6, 50, 51]) <|
  .seq (.reg (
    .op (some 6) (.mov (.k (.bool true))) <|
    .nil)) <|
  .ret
theorem ok85 : FnOk Tryz.prog 85 73 ir85 [.tmp 6] := FnOk.of Tryz.func85 (by kernel_rfl) (by kernel_rfl) (by kernel_rfl) (by kernel_rfl)
/-- manifold/expr.Clone -/
def ir94 : Ic :=
  .seq (.dn (.reg (
    .op (some 1) (.box (.t 0)) <|
    .op (some 2) (.new [(.int .i64 0), (.int .i64 0), (.str []), (.nil 6), (.nil 5)]) <|
    .nil)) [0]) <|
  .seq (.dn (.reg (
    .op (some 8) (.fa (.t 1) 0) <|
    .op (some 9) (.ld none (.t 8)) <|
    .op (some 10) (.fa (.t 1) 1) <|
    .op (some 11) (.ld none (.t 10)) <|
    .op (some 12) (.fa (.t 1) 2) <|
    .op (some 13) (.ld none (.t 12)) <|
    .op (some 14) (.bld [(.int .i64 0), (.int .i64 0), (.str []), (.nil 6), (.nil 5)] [(0, 1, (.t 9)), (1, 1, (.t 11)), (2, 1, (.t 13))]) <|
    .op (some 3) (.new [(.int .i64 0), (.int .i64 0), (.str []), (.nil 6), (.nil 5)]) <|
    .op none (.sto (some 5) (.t 3) (.t 14)) <|
    .nil)) [8, 9, 10, 11, 12, 13, 14]) <|
  .seq (.seq (.dn (.reg (
    .op (some 15) (.fa (.t 1) 3) <|
    .op (some 16) (.ld none (.t 15)) <|
    .op (some 17) (.len (.t 16)) <|
    .op (some 18) (.mov (.k (.int .i64 0))) <|
    .nil)) [15]) <|
  .dn (.block 0 (
    .loop (
      .seq (.reg (
        .op (some 19) (.bin .lss (.t 18) (.t 17)) <|
        .nil)) <|
      .seq (.dn (.ite (.t 19) (.skip)
        (.exit 0)) [19]) <|
      .seq (.dn (.block 1 (
        .seq (.dn (.reg (
          .op (some 20) (.ixa true 6 (.t 16) (.t 18)) <|
          .op (some 21) (.ld (some 6) (.t 20)) <|
          .op (some 5) (.new [(.int .i64 0), (.int .i64 0), (.int .i64 0), (.str []), (.nil 6), (.nil 7)]) <|
          .op none (.sto (some 6) (.t 5) (.t 21)) <|
          .nil)) [20, 21]) <|
        .dn (.regd [(1, 3), (1, 4)] (
          .op (some 22) (.fa (.t 3) 3) <|
          .op (some 23) (.ld none (.t 22)) <|
          .op (some 24) (.ld (some 6) (.t 5)) <|
          .call (some 25) (.fn 59) [(.t 24)] <|
          .op (some 26) (.bls 6 [(.t 25)]) <|
          .op (some 27) (.app 6 (.t 23) (.t 26)) <|
          .op (some 28) (.fa (.t 3) 3) <|
          .op none (.sto none (.t 28) (.t 27)) <|
          .nil)) [5, 22, 23, 24, 25, 26, 27, 28])) [20, 21, 5, 22, 23, 24, 25, 26, 27, 28]) <|
      .dn (.reg (
        .op (some 29) (.bin .add (.t 18) (.k (.int .i64 1))) <|
        .op (some 18) (.mov (.t 29)) <|
        .nil)) [29]))) [16, 17, 18, 19, 20, 21, 5, 22, 23, 24, 25, 26, 27, 28, 29]) <|
  .seq (.seq (.dn (.reg (
    .op (some 30) (.fa (.t 1) 4) <|
    .op (some 31) (.ld none (.t 30)) <|
    .op (some 32) (.len (.t 31)) <|
    .op (some 33) (.mov (.k (.int .i64 0))) <|
    .nil)) [1, 30]) <|
  .dn (.block 2 (
    .loop (
      .seq (.reg (
        .op (some 34) (.bin .lss (.t 33) (.t 32)) <|
        .nil)) <|
      .seq (.dn (.ite (.t 34) (.skip)
        (.exit 2)) [34]) <|
      .seq (.dn (.block 3 (
        .seq (.dn (.reg (
          .op (some 35) (.ixa true 5 (.t 31) (.t 33)) <|
          .op (some 36) (.ld (some 5) (.t 35)) <|
          .op (some 7) (.new [(.int .i64 0), (.int .i64 0), (.str []), (.nil 6), (.nil 5)]) <|
          .op none (.sto (some 5) (.t 7) (.t 36)) <|
          .nil)) [35, 36]) <|
        .dn (.regd [(1, 3), (1, 4)] (
          .op (some 37) (.fa (.t 3) 4) <|
          .op (some 38) (.ld none (.t 37)) <|
          .op (some 39) (.ld (some 5) (.t 7)) <|
          .call (some 40) (.fn 94) [(.t 39)] <|
          .op (some 41) (.bls 5 [(.t 40)]) <|
          .op (some 42) (.app 5 (.t 38) (.t 41)) <|
          .op (some 43) (.fa (.t 3) 4) <|
          .op none (.sto none (.t 43) (.t 42)) <|
          .nil)) [7, 37, 38, 39, 40, 41, 42, 43])) [35, 36, 7, 37, 38, 39, 40, 41, 42, 43]) <|
      .dn (.reg (
        .op (some 44) (.bin .add (.t 33) (.k (.int .i64 1))) <|
        .op (some 33) (.mov (.t 44)) <|
        .nil)) [44]))) [31, 32, 33, 34, 35, 36, 7, 37, 38, 39, 40, 41, 42, 43, 44]) <|
  .seq (.dn (.reg (
    .op (some 45) (.ld (some 5) (.t 3)) <|
    .op none (.sto (some 5) (.t 2) (.t 45)) <|
    .nil)) [3, 45]) <|
  .ret
theorem ok94 : FnOk Tryz.prog 94 46 ir94 [.cell 2 (some 5)] := FnOk.of Tryz.func94 (by kernel_rfl) (by kernel_rfl) (by kernel_rfl) (by kernel_rfl)
/-- manifold/mapping.Equal$1 -/
def ir96 : Ic :=
  .seq (.dn (.reg (
    .op (some 2) (.box (.t 0)) <|
    .op (some 3) (.box (.t 1)) <|
    .op (some 4) (.mov (.k (.bool false))) <|
    .nil)) [0, 1, 4]) <|
  .seq (.dn (.reg (
    .op (some 5) (.fa (.t 2) 0) <|
    .op (some 6) (.ld none (.t 5)) <|
    .op (some 7) (.fa (.t 3) 0) <|
    .op (some 8) (.ld none (.t 7)) <|
    .op (some 9) (.bin .seq (.t 6) (.t 8)) <|
    .op (some 10) (.mov (.t 9)) <|
    .sc 10 true (
      .op (some 11) (.fa (.t 2) 1) <|
      .op (some 12) (.ld (some 5) (.t 11)) <|
      .op (some 13) (.fa (.t 3) 1) <|
      .op (some 14) (.ld (some 5) (.t 13)) <|
      .call (some 15) (.fn 31) [(.t 12), (.t 14)] <|
      .nil) (.t 15) 16 <|
    .op (some 4) (.mov (.t 16)) <|
    .nil)) [2, 3, 5, 6, 7, 8, 9, 10, 11, 12, 13, 14, 15, 16]) <|
  .ret
theorem ok96 : FnOk Tryz.prog 96 17 ir96 [.tmp 4] := FnOk.of Tryz.func96 (by kernel_rfl) (by kernel_rfl) (by kernel_rfl) (by kernel_rfl)
/-- manifold/manifoldlaw18.smallExpr -/
def ir150 : Ic :=
  .seq (.dn (.reg (
    .op (some 3) (.box (.t 0)) <|
    .op (some 6) (.mov (.k (.bool false))) <|
    .nil)) [0, 6]) <|
  .seq (.dn (.reg (
    .op (some 9) (.mov (.t 2)) <|
    .op (some 10) (.nck (.t 9)) <|
    .op (some 11) (.ld none (.t 10)) <|
    .op (some 12) (.bin .sub (.t 11) (.k (.int .i64 1))) <|
    .op (some 13) (.nck (.t 9)) <|
    .op none (.sto none (.t 13) (.t 12)) <|
    .nil)) [9, 10, 11, 12, 13]) <|
  .seq (.seq (.dn (.reg (
    .op (some 14) (.mov (.t 2)) <|
    .op (some 15) (.nck (.t 14)) <|
    .op (some 16) (.ld none (.t 15)) <|
    .op (some 17) (.bin .lss (.t 16) (.k (.int .i64 0))) <|
    .op (some 18) (.mov (.t 17)) <|
    .sc 18 false (
      .op (some 19) (.mov (.t 1)) <|
      .op (some 20) (.bin .eql (.t 19) (.k (.int .i64 0))) <|
      .nil) (.t 20) 21 <|
    .op (some 22) (.mov (.t 21)) <|
    .sc 22 false (
      .op (some 23) (.fa (.t 3) 2) <|
      .op (some 24) (.ld none (.t 23)) <|
      .op (some 25) (.slen (.t 24)) <|
      .op (some 26) (.bin .gtr (.t 25) (.k (.int .i64 2000))) <|
      .nil) (.t 26) 27 <|
    .op (some 28) (.mov (.t 27)) <|
    .sc 28 false (
      .op (some 29) (.fa (.t 3) 3) <|
      .op (some 30) (.ld none (.t 29)) <|
      .op (some 31) (.len (.t 30)) <|
      .op (some 32) (.bin .gtr (.t 31) (.k (.int .i64 3))) <|
      .nil) (.t 32) 33 <|
    .nil)) [14, 15, 16, 17, 18, 19, 20, 21, 22, 23, 24, 25, 26, 27, 28, 29, 30, 31, 32]) <|
  .dn (.ite (.t 33) (.seq (.dn (.reg (
      .op (some 6) (.mov (.k (.bool false))) <|
      .nil)) [1, 2, 3, 33]) <|
    .ret)
    (.skip)) [6, 33]) <|
  .seq (.seq (.reg (
    .op (some 7) (.mov (.k (.int .i64 0))) <|
    .nil)) <|
  .dn (.block 0 (
    .loop (
      .seq (.seq (.dn (.reg (
        .op (some 34) (.mov (.t 7)) <|
        .op (some 35) (.fa (.t 3) 3) <|
        .op (some 36) (.ld none (.t 35)) <|
        .op (some 37) (.len (.t 36)) <|
        .op (some 38) (.bin .lss (.t 34) (.t 37)) <|
        .nil)) [34, 35, 36, 37]) <|
      .dn (.ite (.t 38) (.skip)
        (.exit 0)) [38]) <|
      .seq (.dn (.block 1 (
        .seq (.dn (.reg (
          .op (some 41) (.fa (.t 3) 3) <|
          .op (some 42) (.ld none (.t 41)) <|
          .op (some 43) (.mov (.t 7)) <|
          .op (some 44) (.ixa true 6 (.t 42) (.t 43)) <|
          .op (some 45) (.ld (some 6) (.t 44)) <|
          .call (some 46) (.fn 26) [(.t 45)] <|
          .op (some 47) (.not (.t 46)) <|
          .nil)) [41, 42, 43, 44, 45, 46]) <|
        .dn (.ite (.t 47) (.seq (.dn (.reg (
            .op (some 6) (.mov (.k (.bool false))) <|
            .nil)) [1, 2, 3, 7, 47]) <|
          .ret)
          (.skip)) [6, 47])) [41, 42, 43, 44, 45, 46, 47, 6]) <|
      .dn (.reg (
        .op (some 39) (.mov (.t 7)) <|
        .op (some 40) (.bin .add (.t 39) (.k (.int .i64 1))) <|
        .op (some 7) (.mov (.t 40)) <|
        .nil)) [39, 40]))) [7, 34, 35, 36, 37, 38, 41, 42, 43, 44, 45, 46, 47, 6, 39, 40]) <|
  .seq (.seq (.reg (
    .op (some 8) (.mov (.k (.int .i64 0))) <|
    .nil)) <|
  .dn (.block 2 (
    .loop (
      .seq (.seq (.dn (.reg (
        .op (some 48) (.mov (.t 8)) <|
        .op (some 49) (.fa (.t 3) 4) <|
        .op (some 50) (.ld none (.t 49)) <|
        .op (some 51) (.len (.t 50)) <|
        .op (some 52) (.bin .lss (.t 48) (.t 51)) <|
        .nil)) [48, 49, 50, 51]) <|
      .dn (.ite (.t 52) (.skip)
        (.exit 2)) [52]) <|
      .seq (.dn (.block 3 (
        .seq (.dn (.reg (
          .op (some 55) (.fa (.t 3) 4) <|
          .op (some 56) (.ld none (.t 55)) <|
          .op (some 57) (.mov (.t 8)) <|
          .op (some 58) (.ixa true 5 (.t 56) (.t 57)) <|
          .op (some 59) (.ld (some 5) (.t 58)) <|
          .op (some 60) (.mov (.t 1)) <|
          .op (some 61) (.bin .sub (.t 60) (.k (.int .i64 1))) <|
          .op (some 62) (.mov (.t 2)) <|
          .call (some 63) (.fn 150) [(.t 59), (.t 61), (.t 62)] <|
          .op (some 64) (.not (.t 63)) <|
          .nil)) [55, 56, 57, 58, 59, 60, 61, 62, 63]) <|
        .dn (.ite (.t 64) (.seq (.dn (.reg (
            .op (some 6) (.mov (.k (.bool false))) <|
            .nil)) [1, 2, 3, 8, 64]) <|
          .ret)
          (.skip)) [6, 64])) [55, 56, 57, 58, 59, 60, 61, 62, 63, 64, 6]) <|
      .dn (.reg (
        .op (some 53) (.mov (.t 8)) <|
        .op (some 54) (.bin .add (.t 53) (.k (.int .i64 1))) <|
        .op (some 8) (.mov (.t 54)) <|
        .nil)) [53, 54]))) [1, 2, 3, 8, 48, 49, 50, 51, 52, 55, 56, 57, 58, 59, 60, 61, 62, 63, 64, 6, 53, 54]) <|
  .seq (.reg (
    .op (some 6) (.mov (.k (.bool true))) <|
    .nil)) <|
  .ret
theorem ok150 : FnOk Tryz.prog 150 65 ir150 [.tmp 6] := FnOk.of Tryz.func150 (by kernel_rfl) (by kernel_rfl) (by kernel_rfl) (by kernel_rfl)
/-- slices.EqualFunc   manifold/api.Expr,  manifold/api.Expr,manifold/api.Expr,manifold/api.Expr  -/
def ir93 : Ic :=
  .seq (.dn (.reg (
    .op (some 6) (.mov (.k (.bool false))) <|
    .nil)) [6]) <|
  .seq (.seq (.dn (.reg (
    .op (some 10) (.mov (.t 0)) <|
    .op (some 11) (.len (.t 10)) <|
    .op (some 12) (.mov (.t 1)) <|
    .op (some 13) (.len (.t 12)) <|
    .op (some 14) (.bin .neq (.t 11) (.t 13)) <|
    .nil)) [10, 11, 12, 13]) <|
  .dn (.ite (.t 14) (.seq (.dn (.reg (
      .op (some 6) (.mov (.k (.bool false))) <|
      .nil)) [0, 1, 2, 14]) <|
    .ret)
    (.skip)) [6, 14]) <|
  .seq (.seq (.dn (.reg (
    .op (some 15) (.mov (.t 0)) <|
    .op (some 16) (.len (.t 15)) <|
    .op (some 17) (.mov (.k (.int .i64 0))) <|
    .nil)) [0]) <|
  .dn (.block 0 (
    .loop (
      .seq (.reg (
        .op (some 18) (.bin .lss (.t 17) (.t 16)) <|
        .nil)) <|
      .seq (.dn (.ite (.t 18) (.skip)
        (.exit 0)) [18]) <|
      .seq (.dn (.block 1 (
        .seq (.dn (.reg (
          .op (some 19) (.mov (.t 17)) <|
          .op (some 20) (.ixa true 5 (.t 15) (.t 17)) <|
          .op (some 21) (.ld (some 5) (.t 20)) <|
          .op (some 8) (.new [(.int .i64 0), (.int .i64 0), (.str []), (.nil 6), (.nil 5)]) <|
          .op (some 7) (.mov (.t 19)) <|
          .op none (.sto (some 5) (.t 8) (.t 21)) <|
          .nil)) [19, 20, 21]) <|
        .seq (.dn (.reg (
          .op (some 22) (.mov (.t 1)) <|
          .op (some 23) (.mov (.t 7)) <|
          .op (some 24) (.ixa true 5 (.t 22) (.t 23)) <|
          .op (some 25) (.ld (some 5) (.t 24)) <|
          .op (some 9) (.new [(.int .i64 0), (.int .i64 0), (.str []), (.nil 6), (.nil 5)]) <|
          .op none (.sto (some 5) (.t 9) (.t 25)) <|
          .nil)) [7, 22, 23, 24, 25]) <|
        .seq (.dn (.reg (
          .op (some 26) (.mov (.t 2)) <|
          .op (some 27) (.ld (some 5) (.t 8)) <|
          .op (some 28) (.ld (some 5) (.t 9)) <|
          .call (some 29) (.dyn (.t 26)) [(.t 27), (.t 28)] <|
          .op (some 30) (.not (.t 29)) <|
          .nil)) [8, 9, 26, 27, 28, 29]) <|
        .dn (.ite (.t 30) (.seq (.dn (.reg (
            .op (some 6) (.mov (.k (.bool false))) <|
            .nil)) [1, 2, 15, 16, 17, 30]) <|
          .ret)
          (.skip)) [6, 30])) [19, 20, 21, 8, 7, 22, 23, 24, 25, 9, 26, 27, 28, 29, 30, 6]) <|
      .dn (.reg (
        .op (some 31) (.bin .add (.t 17) (.k (.int .i64 1))) <|
        .op (some 17) (.mov (.t 31)) <|
        .nil)) [31]))) [1, 2, 15, 16, 17, 18, 19, 20, 21, 8, 7, 22, 23, 24, 25, 9, 26, 27, 28, 29, 30, 6, 31]) <|
  .seq (.reg (
    .op (some 6) (.mov (.k (.bool true))) <|
    .nil)) <|
  .ret
theorem ok93 : FnOk Tryz.prog 93 32 ir93 [.tmp 6] := FnOk.of Tryz.func93 (by kernel_rfl) (by kernel_rfl) (by kernel_rfl) (by kernel_rfl)
/-- slices.EqualFunc   manifold/api.Rule,  manifold/api.Rule,manifold/api.Rule,manifold/api.Rule  -/
def ir95 : Ic :=
  .seq (.dn (.reg (
    .op (some 6) (.mov (.k (.bool false))) <|
    .nil)) [6]) <|
  .seq (.seq (.dn (.reg (
    .op (some 10) (.mov (.t 0)) <|
    .op (some 11) (.len (.t 10)) <|
    .op (some 12) (.mov (.t 1)) <|
    .op (some 13) (.len (.t 12)) <|
    .op (some 14) (.bin .neq (.t 11) (.t 13)) <|
    .nil)) [10, 11, 12, 13]) <|
  .dn (.ite (.t 14) (.seq (.dn (.reg (
      .op (some 6) (.mov (.k (.bool false))) <|
      .nil)) [0, 1, 2, 14]) <|
    .ret)
    (.skip)) [6, 14]) <|
  .seq (.seq (.dn (.reg (
    .op (some 15) (.mov (.t 0)) <|
    .op (some 16) (.len (.t 15)) <|
    .op (some 17) (.mov (.k (.int .i64 0))) <|
    .nil)) [0]) <|
  .dn (.block 0 (
    .loop (
      .seq (.reg (
        .op (some 18) (.bin .lss (.t 17) (.t 16)) <|
        .nil)) <|
      .seq (.dn (.ite (.t 18) (.skip)
        (.exit 0)) [18]) <|
      .seq (.dn (.block 1 (
        .seq (.dn (.reg (
          .op (some 19) (.mov (.t 17)) <|
          .op (some 20) (.ixa true 6 (.t 15) (.t 17)) <|
          .op (some 21) (.ld (some 6) (.t 20)) <|
          .op (some 8) (.new [(.str []), (.int .i64 0), (.int .i64 0), (.str []), (.nil 6), (.nil 5)]) <|
          .op (some 7) (.mov (.t 19)) <|
          .op none (.sto (some 6) (.t 8) (.t 21)) <|
          .nil)) [19, 20, 21]) <|
        .seq (.dn (.reg (
          .op (some 22) (.mov (.t 1)) <|
          .op (some 23) (.mov (.t 7)) <|
          .op (some 24) (.ixa true 6 (.t 22) (.t 23)) <|
          .op (some 25) (.ld (some 6) (.t 24)) <|
          .op (some 9) (.new [(.str []), (.int .i64 0), (.int .i64 0), (.str []), (.nil 6), (.nil 5)]) <|
          .op none (.sto (some 6) (.t 9) (.t 25)) <|
          .nil)) [7, 22, 23, 24, 25]) <|
        .seq (.dn (.reg (
          .op (some 26) (.mov (.t 2)) <|
          .op (some 27) (.ld (some 6) (.t 8)) <|
          .op (some 28) (.ld (some 6) (.t 9)) <|
          .call (some 29) (.dyn (.t 26)) [(.t 27), (.t 28)] <|
          .op (some 30) (.not (.t 29)) <|
          .nil)) [8, 9, 26, 27, 28, 29]) <|
        .dn (.ite (.t 30) (.seq (.dn (.reg (
            .op (some 6) (.mov (.k (.bool false))) <|
            .nil)) [1, 2, 15, 16, 17, 30]) <|
          .ret)
          (.skip)) [6, 30])) [19, 20, 21, 8, 7, 22, 23, 24, 25, 9, 26, 27, 28, 29, 30, 6]) <|
      .dn (.reg (
        .op (some 31) (.bin .add (.t 17) (.k (.int .i64 1))) <|
        .op (some 17) (.mov (.t 31)) <|
        .nil)) [31]))) [1, 2, 15, 16, 17, 18, 19, 20, 21, 8, 7, 22, 23, 24, 25, 9, 26, 27, 28, 29, 30, 6, 31]) <|
  .seq (.reg (
    .op (some 6) (.mov (.k (.bool true))) <|
    .nil)) <|
  .ret
theorem ok95 : FnOk Tryz.prog 95 32 ir95 [.tmp 6] := FnOk.of Tryz.func95 (by kernel_rfl) (by kernel_rfl) (by kernel_rfl) (by kernel_rfl)
/-- slices.EqualFunc   manifold/api.Value,  manifold/api.Value,manifold/api.Value,manifold/api.Value  -/
def ir64 : Ic :=
  .seq (.dn (.reg (
    .op (some 6) (.mov (.k (.bool false))) <|
    .nil)) [6]) <|
  .seq (.seq (.dn (.reg (
    .op (some 10) (.mov (.t 0)) <|
    .op (some 11) (.len (.t 10)) <|
    .op (some 12) (.mov (.t 1)) <|
    .op (some 13) (.len (.t 12)) <|
    .op (some 14) (.bin .neq (.t 11) (.t 13)) <|
    .nil)) [10, 11, 12, 13]) <|
  .dn (.ite (.t 14) (.seq (.dn (.reg (
      .op (some 6) (.mov (.k (.bool false))) <|
      .nil)) [0, 1, 2, 14]) <|
    .ret)
    (.skip)) [6, 14]) <|
  .seq (.seq (.dn (.reg (
    .op (some 15) (.mov (.t 0)) <|
    .op (some 16) (.len (.t 15)) <|
    .op (some 17) (.mov (.k (.int .i64 0))) <|
    .nil)) [0]) <|
  .dn (.block 0 (
    .loop (
      .seq (.reg (
        .op (some 18) (.bin .lss (.t 17) (.t 16)) <|
        .nil)) <|
      .seq (.dn (.ite (.t 18) (.skip)
        (.exit 0)) [18]) <|
      .seq (.dn (.block 1 (
        .seq (.dn (.reg (
          .op (some 19) (.mov (.t 17)) <|
          .op (some 20) (.ixa true 6 (.t 15) (.t 17)) <|
          .op (some 21) (.ld (some 6) (.t 20)) <|
          .op (some 8) (.new [(.int .i64 0), (.int .i64 0), (.int .i64 0), (.str []), (.nil 6), (.nil 7)]) <|
          .op (some 7) (.mov (.t 19)) <|
          .op none (.sto (some 6) (.t 8) (.t 21)) <|
          .nil)) [19, 20, 21]) <|
        .seq (.dn (.reg (
          .op (some 22) (.mov (.t 1)) <|
          .op (some 23) (.mov (.t 7)) <|
          .op (some 24) (.ixa true 6 (.t 22) (.t 23)) <|
          .op (some 25) (.ld (some 6) (.t 24)) <|
          .op (some 9) (.new [(.int .i64 0), (.int .i64 0), (.int .i64 0), (.str []), (.nil 6), (.nil 7)]) <|
          .op none (.sto (some 6) (.t 9) (.t 25)) <|
          .nil)) [7, 22, 23, 24, 25]) <|
        .seq (.dn (.reg (
          .op (some 26) (.mov (.t 2)) <|
          .op (some 27) (.ld (some 6) (.t 8)) <|
          .op (some 28) (.ld (some 6) (.t 9)) <|
          .call (some 29) (.dyn (.t 26)) [(.t 27), (.t 28)] <|
          .op (some 30) (.not (.t 29)) <|
          .nil)) [8, 9, 26, 27, 28, 29]) <|
        .dn (.ite (.t 30) (.seq (.dn (.reg (
            .op (some 6) (.mov (.k (.bool false))) <|
            .nil)) [1, 2, 15, 16, 17, 30]) <|
          .ret)
          (.skip)) [6, 30])) [19, 20, 21, 8, 7, 22, 23, 24, 25, 9, 26, 27, 28, 29, 30, 6]) <|
      .dn (.reg (
        .op (some 31) (.bin .add (.t 17) (.k (.int .i64 1))) <|
        .op (some 17) (.mov (.t 31)) <|
        .nil)) [31]))) [1, 2, 15, 16, 17, 18, 19, 20, 21, 8, 7, 22, 23, 24, 25, 9, 26, 27, 28, 29, 30, 6, 31]) <|
  .seq (.reg (
    .op (some 6) (.mov (.k (.bool true))) <|
    .nil)) <|
  .ret
theorem ok64 : FnOk Tryz.prog 64 32 ir64 [.tmp 6] := FnOk.of Tryz.func64 (by kernel_rfl) (by kernel_rfl) (by kernel_rfl) (by kernel_rfl)
/-- slices.EqualFunc   manifold/api.Type,  manifold/api.Type,manifold/api.Type,manifold/api.Type  -/
def ir61 : Ic :=
  .seq (.dn (.reg (
    .op (some 6) (.mov (.k (.bool false))) <|
    .nil)) [6]) <|
  .seq (.seq (.dn (.reg (
    .op (some 10) (.mov (.t 0)) <|
    .op (some 11) (.len (.t 10)) <|
    .op (some 12) (.mov (.t 1)) <|
    .op (some 13) (.len (.t 12)) <|
    .op (some 14) (.bin .neq (.t 11) (.t 13)) <|
    .nil)) [10, 11, 12, 13]) <|
  .dn (.ite (.t 14) (.seq (.dn (.reg (
      .op (some 6) (.mov (.k (.bool false))) <|
      .nil)) [0, 1, 2, 14]) <|
    .ret)
    (.skip)) [6, 14]) <|
  .seq (.seq (.dn (.reg (
    .op (some 15) (.mov (.t 0)) <|
    .op (some 16) (.len (.t 15)) <|
    .op (some 17) (.mov (.k (.int .i64 0))) <|
    .nil)) [0]) <|
  .dn (.block 0 (
    .loop (
      .seq (.reg (
        .op (some 18) (.bin .lss (.t 17) (.t 16)) <|
        .nil)) <|
      .seq (.dn (.ite (.t 18) (.skip)
        (.exit 0)) [18]) <|
      .seq (.dn (.block 1 (
        .seq (.dn (.reg (
          .op (some 19) (.mov (.t 17)) <|
          .op (some 20) (.ixa true 7 (.t 15) (.t 17)) <|
          .op (some 21) (.ld (some 7) (.t 20)) <|
          .op (some 8) (.new [(.int .i64 0), (.int .i64 0), (.int .i64 0), (.int .i64 0), (.nil 1), (.nil 7), (.nil 11)]) <|
          .op (some 7) (.mov (.t 19)) <|
          .op none (.sto (some 7) (.t 8) (.t 21)) <|
          .nil)) [19, 20, 21]) <|
        .seq (.dn (.reg (
          .op (some 22) (.mov (.t 1)) <|
          .op (some 23) (.mov (.t 7)) <|
          .op (some 24) (.ixa true 7 (.t 22) (.t 23)) <|
          .op (some 25) (.ld (some 7) (.t 24)) <|
          .op (some 9) (.new [(.int .i64 0), (.int .i64 0), (.int .i64 0), (.int .i64 0), (.nil 1), (.nil 7), (.nil 11)]) <|
          .op none (.sto (some 7) (.t 9) (.t 25)) <|
          .nil)) [7, 22, 23, 24, 25]) <|
        .seq (.dn (.reg (
          .op (some 26) (.mov (.t 2)) <|
          .op (some 27) (.ld (some 7) (.t 8)) <|
          .op (some 28) (.ld (some 7) (.t 9)) <|
          .call (some 29) (.dyn (.t 26)) [(.t 27), (.t 28)] <|
          .op (some 30) (.not (.t 29)) <|
          .nil)) [8, 9, 26, 27, 28, 29]) <|
        .dn (.ite (.t 30) (.seq (.dn (.reg (
            .op (some 6) (.mov (.k (.bool false))) <|
            .nil)) [1, 2, 15, 16, 17, 30]) <|
          .ret)
          (.skip)) [6, 30])) [19, 20, 21, 8, 7, 22, 23, 24, 25, 9, 26, 27, 28, 29, 30, 6]) <|
      .dn (.reg (
        .op (some 31) (.bin .add (.t 17) (.k (.int .i64 1))) <|
        .op (some 17) (.mov (.t 31)) <|
        .nil)) [31]))) [1, 2, 15, 16, 17, 18, 19, 20, 21, 8, 7, 22, 23, 24, 25, 9, 26, 27, 28, 29, 30, 6, 31]) <|
  .seq (.reg (
    .op (some 6) (.mov (.k (.bool true))) <|
    .nil)) <|
  .ret
theorem ok61 : FnOk Tryz.prog 61 32 ir61 [.tmp 6] := FnOk.of Tryz.func61 (by kernel_rfl) (by kernel_rfl) (by kernel_rfl) (by kernel_rfl)
/-- slices.EqualFunc   manifold/api.TypeField,  manifold/api.TypeField,manifold/api.TypeField,manifold/api.TypeField  -/
def ir62 : Ic :=
  .seq (.dn (.reg (
    .op (some 6) (.mov (.k (.bool false))) <|
    .nil)) [6]) <|
  .seq (.seq (.dn (.reg (
    .op (some 10) (.mov (.t 0)) <|
    .op (some 11) (.len (.t 10)) <|
    .op (some 12) (.mov (.t 1)) <|
    .op (some 13) (.len (.t 12)) <|
    .op (some 14) (.bin .neq (.t 11) (.t 13)) <|
    .nil)) [10, 11, 12, 13]) <|
  .dn (.ite (.t 14) (.seq (.dn (.reg (
      .op (some 6) (.mov (.k (.bool false))) <|
      .nil)) [0, 1, 2, 14]) <|
    .ret)
    (.skip)) [6, 14]) <|
  .seq (.seq (.dn (.reg (
    .op (some 15) (.mov (.t 0)) <|
    .op (some 16) (.len (.t 15)) <|
    .op (some 17) (.mov (.k (.int .i64 0))) <|
    .nil)) [0]) <|
  .dn (.block 0 (
    .loop (
      .seq (.reg (
        .op (some 18) (.bin .lss (.t 17) (.t 16)) <|
        .nil)) <|
      .seq (.dn (.ite (.t 18) (.skip)
        (.exit 0)) [18]) <|
      .seq (.dn (.block 1 (
        .seq (.dn (.reg (
          .op (some 19) (.mov (.t 17)) <|
          .op (some 20) (.ixa true 11 (.t 15) (.t 17)) <|
          .op (some 21) (.ld (some 11) (.t 20)) <|
          .op (some 8) (.new [(.int .i64 0), (.str []), (.int .i64 0), (.int .i64 0), (.int .i64 0), (.int .i64 0), (.int .i64 0), (.nil 1), (.nil 7), (.nil 11), (.nil 6)]) <|
          .op (some 7) (.mov (.t 19)) <|
          .op none (.sto (some 11) (.t 8) (.t 21)) <|
          .nil)) [19, 20, 21]) <|
        .seq (.dn (.reg (
          .op (some 22) (.mov (.t 1)) <|
          .op (some 23) (.mov (.t 7)) <|
          .op (some 24) (.ixa true 11 (.t 22) (.t 23)) <|
          .op (some 25) (.ld (some 11) (.t 24)) <|
          .op (some 9) (.new [(.int .i64 0), (.str []), (.int .i64 0), (.int .i64 0), (.int .i64 0), (.int .i64 0), (.int .i64 0), (.nil 1), (.nil 7), (.nil 11), (.nil 6)]) <|
          .op none (.sto (some 11) (.t 9) (.t 25)) <|
          .nil)) [7, 22, 23, 24, 25]) <|
        .seq (.dn (.reg (
          .op (some 26) (.mov (.t 2)) <|
          .op (some 27) (.ld (some 11) (.t 8)) <|
          .op (some 28) (.ld (some 11) (.t 9)) <|
          .call (some 29) (.dyn (.t 26)) [(.t 27), (.t 28)] <|
          .op (some 30) (.not (.t 29)) <|
          .nil)) [8, 9, 26, 27, 28, 29]) <|
        .dn (.ite (.t 30) (.seq (.dn (.reg (
            .op (some 6) (.mov (.k (.bool false))) <|
            .nil)) [1, 2, 15, 16, 17, 30]) <|
          .ret)
          (.skip)) [6, 30])) [19, 20, 21, 8, 7, 22, 23, 24, 25, 9, 26, 27, 28, 29, 30, 6]) <|
      .dn (.reg (
        .op (some 31) (.bin .add (.t 17) (.k (.int .i64 1))) <|
        .op (some 17) (.mov (.t 31)) <|
        .nil)) [31]))) [1, 2, 15, 16, 17, 18, 19, 20, 21, 8, 7, 22, 23, 24, 25, 9, 26, 27, 28, 29, 30, 6, 31]) <|
  .seq (.reg (
    .op (some 6) (.mov (.k (.bool true))) <|
    .nil)) <|
  .ret
theorem ok62 : FnOk Tryz.prog 62 32 ir62 [.tmp 6] := FnOk.of Tryz.func62 (by kernel_rfl) (by kernel_rfl) (by kernel_rfl) (by kernel_rfl)
/-- manifold/value.Equal -/
def ir20 : Ic :=
  .seq (.dn (.reg (
    .op (some 2) (.box (.t 0)) <|
    .op (some 3) (.box (.t 1)) <|
    .op (some 4) (.mov (.k (.bool false))) <|
    .nil)) [0, 1, 4]) <|
  .seq (.dn (.reg (
    .op (some 5) (.ld (some 6) (.t 2)) <|
    .op (some 6) (.ld (some 6) (.t 3)) <|
    .call (some 7) (.fn 66) [(.t 5), (.t 6)] <|
    .op (some 8) (.bin .eql (.t 7) (.k (.int .i64 0))) <|
    .op (some 4) (.mov (.t 8)) <|
    .nil)) [2, 3, 5, 6, 7, 8]) <|
  .ret
theorem ok20 : FnOk Tryz.prog 20 9 ir20 [.tmp 4] := FnOk.of Tryz.func20 (by kernel_rfl) (by kernel_rfl) (by kernel_rfl) (by kernel_rfl)
/-- manifold/value.Compare -/
def ir66 : Ic :=
  .seq (.dn (.reg (
    .op (some 2) (.box (.t 0)) <|
    .op (some 3) (.box (.t 1)) <|
    .op (some 4) (.mov (.k (.int .i64 0))) <|
    .nil)) [0, 1, 4]) <|
  .seq (.dn (.regd [(4, 6), (4, 8), (4, 11), (9, 11), (4, 13), (9, 13), (4, 16), (9, 16), (14, 16), (4, 18), (9, 18), (14, 18), (4, 21), (9, 21), (14, 21), (19, 21), (4, 23), (9, 23), (14, 23), (19, 23), (4, 26), (9, 26), (14, 26), (19, 26), (24, 26), (4, 28), (9, 28), (14, 28), (19, 28), (24, 28)] (
    .op (some 5) (.fa (.t 2) 0) <|
    .op (some 6) (.ld none (.t 5)) <|
    .op (some 7) (.fa (.t 3) 0) <|
    .op (some 8) (.ld none (.t 7)) <|
    .call (some 9) (.fn 143) [(.t 6), (.t 8)] <|
    .op (some 10) (.fa (.t 2) 1) <|
    .op (some 11) (.ld none (.t 10)) <|
    .op (some 12) (.fa (.t 3) 1) <|
    .op (some 13) (.ld none (.t 12)) <|
    .call (some 14) (.fn 143) [(.t 11), (.t 13)] <|
    .op (some 15) (.fa (.t 2) 2) <|
    .op (some 16) (.ld none (.t 15)) <|
    .op (some 17) (.fa (.t 3) 2) <|
    .op (some 18) (.ld none (.t 17)) <|
    .call (some 19) (.fn 143) [(.t 16), (.t 18)] <|
    .op (some 20) (.fa (.t 2) 3) <|
    .op (some 21) (.ld none (.t 20)) <|
    .op (some 22) (.fa (.t 3) 3) <|
    .op (some 23) (.ld none (.t 22)) <|
    .call (some 24) (.fn 113) [(.t 21), (.t 23)] <|
    .op (some 25) (.fa (.t 2) 4) <|
    .op (some 26) (.ld none (.t 25)) <|
    .op (some 27) (.fa (.t 3) 4) <|
    .op (some 28) (.ld none (.t 27)) <|
    .call (some 29) (.fn 144) [(.t 26), (.t 28), (.k (.fn (.func 66) [] []))] <|
    .op (some 30) (.fa (.t 2) 5) <|
    .op (some 31) (.ld none (.t 30)) <|
    .op (some 32) (.fa (.t 3) 5) <|
    .op (some 33) (.ld none (.t 32)) <|
    .call (some 34) (.fn 145) [(.t 31), (.t 33), (.k (.fn (.func 146) [] []))] <|
    .op (some 35) (.bls 1 [(.t 9), (.t 14), (.t 19), (.t 24), (.t 29), (.t 34)]) <|
    .call (some 36) (.fn 142) [(.t 35)] <|
    .op (some 4) (.mov (.t 36)) <|
    .nil)) [2, 3, 5, 6, 7, 8, 9, 10, 11, 12, 13, 14, 15, 16, 17, 18, 19, 20, 21, 22, 23, 24, 25, 26, 27, 28, 29, 30, 31, 32, 33, 34, 35, 36]) <|
  .ret
theorem ok66 : FnOk Tryz.prog 66 37 ir66 [.tmp 4] := FnOk.of Tryz.func66 (by kernel_rfl) (by kernel_rfl) (by kernel_rfl) (by kernel_rfl)
/-- manifold/value.Compare$1 -/
def ir146 : Ic :=
  .seq (.dn (.reg (
    .op (some 2) (.box (.t 0)) <|
    .op (some 3) (.box (.t 1)) <|
    .op (some 4) (.mov (.k (.int .i64 0))) <|
    .nil)) [0, 1, 4]) <|
  .seq (.dn (.regd [(4, 6), (4, 8)] (
    .op (some 5) (.fa (.t 2) 0) <|
    .op (some 6) (.ld none (.t 5)) <|
    .op (some 7) (.fa (.t 3) 0) <|
    .op (some 8) (.ld none (.t 7)) <|
    .call (some 9) (.fn 113) [(.t 6), (.t 8)] <|
    .op (some 10) (.fa (.t 2) 1) <|
    .op (some 11) (.ld (some 6) (.t 10)) <|
    .op (some 12) (.fa (.t 3) 1) <|
    .op (some 13) (.ld (some 6) (.t 12)) <|
    .call (some 14) (.fn 66) [(.t 11), (.t 13)] <|
    .op (some 15) (.bls 1 [(.t 9), (.t 14)]) <|
    .call (some 16) (.fn 142) [(.t 15)] <|
    .op (some 4) (.mov (.t 16)) <|
    .nil)) [2, 3, 5, 6, 7, 8, 9, 10, 11, 12, 13, 14, 15, 16]) <|
  .ret
theorem ok146 : FnOk Tryz.prog 146 17 ir146 [.tmp 4] := FnOk.of Tryz.func146 (by kernel_rfl) (by kernel_rfl) (by kernel_rfl) (by kernel_rfl)
/-- strings.Compare -/
def ir113 : Ic :=
  .seq (.dn (.reg (
    .op (some 4) (.mov (.k (.int .i64 0))) <|
    .nil)) [4]) <|
  .seq (.dn (.reg (
    .op (some 5) (.mov (.t 0)) <|
    .op (some 6) (.mov (.t 1)) <|
    .call (some 7) (.fn 190) [(.t 5), (.t 6)] <|
    .op (some 4) (.mov (.t 7)) <|
    .nil)) [0, 1, 5, 6, 7]) <|
  .ret
theorem ok113 : FnOk Tryz.prog 113 8 ir113 [.tmp 4] := FnOk.of Tryz.func113 (by kernel_rfl) (by kernel_rfl) (by kernel_rfl) (by kernel_rfl)
/-- cmp.Compare int  -/
def ir143 : Ic :=
  .seq (.dn (.reg (
    .op (some 4) (.mov (.k (.int .i64 0))) <|
    .nil)) [4]) <|
  .seq (.dn (.reg (
    .op (some 7) (.mov (.t 0)) <|
    .call (some 8) (.fn 207) [(.t 7)] <|
    .op (some 5) (.mov (.t 8)) <|
    .nil)) [7, 8]) <|
  .seq (.dn (.reg (
    .op (some 9) (.mov (.t 1)) <|
    .call (some 10) (.fn 207) [(.t 9)] <|
    .op (some 6) (.mov (.t 10)) <|
    .nil)) [9, 10]) <|
  .seq (.seq (.dn (.reg (
    .op (some 11) (.mov (.t 5)) <|
    .nil)) [5]) <|
  .dn (.ite (.t 11) (.seq (.seq (.dn (.reg (
      .op (some 12) (.mov (.t 6)) <|
      .nil)) [0, 1, 6, 11]) <|
    .dn (.ite (.t 12) (.seq (.dn (.reg (
        .op (some 4) (.mov (.k (.int .i64 0))) <|
        .nil)) [12]) <|
      .ret)
      (.skip)) [4, 12]) <|
    .seq (.reg (
      .op (some 4) (.mov (.k (.int .i64 (-1)))) <|
      .nil)) <|
    .ret)
    (.skip)) [4, 11]) <|
  .seq (.seq (.dn (.reg (
    .op (some 13) (.mov (.t 6)) <|
    .nil)) [6]) <|
  .dn (.ite (.t 13) (.seq (.dn (.reg (
      .op (some 4) (.mov (.k (.int .i64 1))) <|
      .nil)) [0, 1, 13]) <|
    .ret)
    (.skip)) [4, 13]) <|
  .seq (.seq (.dn (.reg (
    .op (some 14) (.mov (.t 0)) <|
    .op (some 15) (.mov (.t 1)) <|
    .op (some 16) (.bin .lss (.t 14) (.t 15)) <|
    .nil)) [14, 15]) <|
  .dn (.ite (.t 16) (.seq (.dn (.reg (
      .op (some 4) (.mov (.k (.int .i64 (-1)))) <|
      .nil)) [0, 1, 16]) <|
    .ret)
    (.skip)) [4, 16]) <|
  .seq (.seq (.dn (.reg (
    .op (some 17) (.mov (.t 0)) <|
    .op (some 18) (.mov (.t 1)) <|
    .op (some 19) (.bin .gtr (.t 17) (.t 18)) <|
    .nil)) [0, 1, 17, 18]) <|
  .dn (.ite (.t 19) (.seq (.dn (.reg (
      .op (some 4) (.mov (.k (.int .i64 1))) <|
      .nil)) [19]) <|
    .ret)
    (.skip)) [4, 19]) <|
  .seq (.reg (
    .op (some 4) (.mov (.k (.int .i64 0))) <|
    .nil)) <|
  .ret
theorem ok143 : FnOk Tryz.prog 143 20 ir143 [.tmp 4] := FnOk.of Tryz.func143 (by kernel_rfl) (by kernel_rfl) (by kernel_rfl) (by kernel_rfl)
/-- cmp.Or int  -/
def ir142 : Ic :=
  .seq (.dn (.reg (
    .op (some 2) (.mov (.k (.int .i64 0))) <|
    .nil)) [2]) <|
  .seq (.reg (
    .op (some 3) (.mov (.k (.int .i64 0))) <|
    .nil)) <|
  .seq (.seq (.dn (.reg (
    .op (some 6) (.mov (.t 0)) <|
    .op (some 7) (.len (.t 6)) <|
    .op (some 8) (.mov (.k (.int .i64 0))) <|
    .nil)) [0]) <|
  .dn (.block 0 (
    .loop (
      .seq (.reg (
        .op (some 9) (.bin .lss (.t 8) (.t 7)) <|
        .nil)) <|
      .seq (.dn (.ite (.t 9) (.skip)
        (.exit 0)) [9]) <|
      .seq (.dn (.block 1 (
        .seq (.dn (.reg (
          .op (some 10) (.ixa false 1 (.t 6) (.t 8)) <|
          .op (some 11) (.ld none (.t 10)) <|
          .op (some 5) (.mov (.t 11)) <|
          .nil)) [10, 11]) <|
        .seq (.dn (.reg (
          .op (some 12) (.mov (.t 5)) <|
          .op (some 13) (.mov (.t 3)) <|
          .op (some 14) (.bin .neq (.t 12) (.t 13)) <|
          .nil)) [12, 13]) <|
        .dn (.ite (.t 14) (.seq (.dn (.reg (
            .op (some 15) (.mov (.t 5)) <|
            .op (some 2) (.mov (.t 15)) <|
            .nil)) [3, 6, 7, 8, 5, 14, 15]) <|
          .ret)
          (.skip)) [2, 5, 14])) [10, 11, 5, 12, 13, 14, 15, 2]) <|
      .dn (.reg (
        .op (some 16) (.bin .add (.t 8) (.k (.int .i64 1))) <|
        .op (some 8) (.mov (.t 16)) <|
        .nil)) [16]))) [6, 7, 8, 9, 10, 11, 5, 12, 13, 14, 15, 2, 16]) <|
  .seq (.dn (.reg (
    .op (some 17) (.mov (.t 3)) <|
    .op (some 2) (.mov (.t 17)) <|
    .nil)) [3, 17]) <|
  .ret
theorem ok142 : FnOk Tryz.prog 142 18 ir142 [.tmp 2] := FnOk.of Tryz.func142 (by kernel_rfl) (by kernel_rfl) (by kernel_rfl) (by kernel_rfl)
/-- slices.CompareFunc   manifold/api.Value,  manifold/api.Value,manifold/api.Value,manifold/api.Value  -/
def ir144 : Ic :=
  .seq (.dn (.reg (
    .op (some 6) (.mov (.k (.int .i64 0))) <|
    .nil)) [6]) <|
  .seq (.seq (.reg (
    .op (some 11) (.mov (.t 0)) <|
    .op (some 12) (.len (.t 11)) <|
    .op (some 13) (.mov (.k (.int .i64 0))) <|
    .nil)) <|
  .dn (.block 0 (
    .loop (
      .seq (.reg (
        .op (some 14) (.bin .lss (.t 13) (.t 12)) <|
        .nil)) <|
      .seq (.dn (.ite (.t 14) (.skip)
        (.exit 0)) [14]) <|
      .seq (.dn (.block 1 (
        .seq (.dn (.reg (
          .op (some 15) (.mov (.t 13)) <|
          .op (some 16) (.ixa true 6 (.t 11) (.t 13)) <|
          .op (some 17) (.ld (some 6) (.t 16)) <|
          .op (some 8) (.new [(.int .i64 0), (.int .i64 0), (.int .i64 0), (.str []), (.nil 6), (.nil 7)]) <|
          .op (some 7) (.mov (.t 15)) <|
          .op none (.sto (some 6) (.t 8) (.t 17)) <|
          .nil)) [15, 16, 17]) <|
        .seq (.seq (.dn (.reg (
          .op (some 18) (.mov (.t 7)) <|
          .op (some 19) (.mov (.t 1)) <|
          .op (some 20) (.len (.t 19)) <|
          .op (some 21) (.bin .geq (.t 18) (.t 20)) <|
          .nil)) [18, 19, 20]) <|
        .dn (.ite (.t 21) (.seq (.dn (.reg (
            .op (some 6) (.mov (.k (.int .i64 1))) <|
            .nil)) [0, 1, 2, 11, 12, 13, 8, 7, 21]) <|
          .ret)
          (.skip)) [6, 21]) <|
        .seq (.dn (.reg (
          .op (some 22) (.mov (.t 1)) <|
          .op (some 23) (.mov (.t 7)) <|
          .op (some 24) (.ixa true 6 (.t 22) (.t 23)) <|
          .op (some 25) (.ld (some 6) (.t 24)) <|
          .op (some 9) (.new [(.int .i64 0), (.int .i64 0), (.int .i64 0), (.str []), (.nil 6), (.nil 7)]) <|
          .op none (.sto (some 6) (.t 9) (.t 25)) <|
          .nil)) [7, 22, 23, 24, 25]) <|
        .seq (.dn (.reg (
          .op (some 26) (.mov (.t 2)) <|
          .op (some 27) (.ld (some 6) (.t 8)) <|
          .op (some 28) (.ld (some 6) (.t 9)) <|
          .call (some 29) (.dyn (.t 26)) [(.t 27), (.t 28)] <|
          .op (some 10) (.mov (.t 29)) <|
          .nil)) [8, 9, 26, 27, 28, 29]) <|
        .seq (.dn (.reg (
          .op (some 30) (.mov (.t 10)) <|
          .op (some 31) (.bin .neq (.t 30) (.k (.int .i64 0))) <|
          .nil)) [30]) <|
        .dn (.ite (.t 31) (.seq (.dn (.reg (
            .op (some 32) (.mov (.t 10)) <|
            .op (some 6) (.mov (.t 32)) <|
            .nil)) [0, 1, 2, 11, 12, 13, 10, 31, 32]) <|
          .ret)
          (.skip)) [6, 10, 31])) [15, 16, 17, 8, 7, 18, 19, 20, 21, 6, 22, 23, 24, 25, 9, 26, 27, 28, 29, 10, 30, 31, 32]) <|
      .dn (.reg (
        .op (some 33) (.bin .add (.t 13) (.k (.int .i64 1))) <|
        .op (some 13) (.mov (.t 33)) <|
        .nil)) [33]))) [2, 11, 12, 13, 14, 15, 16, 17, 8, 7, 18, 19, 20, 21, 6, 22, 23, 24, 25, 9, 26, 27, 28, 29, 10, 30, 31, 32, 33]) <|
  .seq (.seq (.dn (.reg (
    .op (some 34) (.mov (.t 0)) <|
    .op (some 35) (.len (.t 34)) <|
    .op (some 36) (.mov (.t 1)) <|
    .op (some 37) (.len (.t 36)) <|
    .op (some 38) (.bin .lss (.t 35) (.t 37)) <|
    .nil)) [0, 1, 34, 35, 36, 37]) <|
  .dn (.ite (.t 38) (.seq (.dn (.reg (
      .op (some 6) (.mov (.k (.int .i64 (-1)))) <|
      .nil)) [38]) <|
    .ret)
    (.skip)) [6, 38]) <|
  .seq (.reg (
    .op (some 6) (.mov (.k (.int .i64 0))) <|
    .nil)) <|
  .ret
theorem ok144 : FnOk Tryz.prog 144 39 ir144 [.tmp 6] := FnOk.of Tryz.func144 (by kernel_rfl) (by kernel_rfl) (by kernel_rfl) (by kernel_rfl)
/-- slices.CompareFunc   manifold/api.Field,  manifold/api.Field,manifold/api.Field,manifold/api.Field  -/
def ir145 : Ic :=
  .seq (.dn (.reg (
    .op (some 6) (.mov (.k (.int .i64 0))) <|
    .nil)) [6]) <|
  .seq (.seq (.reg (
    .op (some 11) (.mov (.t 0)) <|
    .op (some 12) (.len (.t 11)) <|
    .op (some 13) (.mov (.k (.int .i64 0))) <|
    .nil)) <|
  .dn (.block 0 (
    .loop (
      .seq (.reg (
        .op (some 14) (.bin .lss (.t 13) (.t 12)) <|
        .nil)) <|
      .seq (.dn (.ite (.t 14) (.skip)
        (.exit 0)) [14]) <|
      .seq (.dn (.block 1 (
        .seq (.dn (.reg (
          .op (some 15) (.mov (.t 13)) <|
          .op (some 16) (.ixa true 7 (.t 11) (.t 13)) <|
          .op (some 17) (.ld (some 7) (.t 16)) <|
          .op (some 8) (.new [(.str []), (.int .i64 0), (.int .i64 0), (.int .i64 0), (.str []), (.nil 6), (.nil 7)]) <|
          .op (some 7) (.mov (.t 15)) <|
          .op none (.sto (some 7) (.t 8) (.t 17)) <|
          .nil)) [15, 16, 17]) <|
        .seq (.seq (.dn (.reg (
          .op (some 18) (.mov (.t 7)) <|
          .op (some 19) (.mov (.t 1)) <|
          .op (some 20) (.len (.t 19)) <|
          .op (some 21) (.bin .geq (.t 18) (.t 20)) <|
          .nil)) [18, 19, 20]) <|
        .dn (.ite (.t 21) (.seq (.dn (.reg (
            .op (some 6) (.mov (.k (.int .i64 1))) <|
            .nil)) [0, 1, 2, 11, 12, 13, 8, 7, 21]) <|
          .ret)
          (.skip)) [6, 21]) <|
        .seq (.dn (.reg (
          .op (some 22) (.mov (.t 1)) <|
          .op (some 23) (.mov (.t 7)) <|
          .op (some 24) (.ixa true 7 (.t 22) (.t 23)) <|
          .op (some 25) (.ld (some 7) (.t 24)) <|
          .op (some 9) (.new [(.str []), (.int .i64 0), (.int .i64 0), (.int .i64 0), (.str []), (.nil 6), (.nil 7)]) <|
          .op none (.sto (some 7) (.t 9) (.t 25)) <|
          .nil)) [7, 22, 23, 24, 25]) <|
        .seq (.dn (.reg (
          .op (some 26) (.mov (.t 2)) <|
          .op (some 27) (.ld (some 7) (.t 8)) <|
          .op (some 28) (.ld (some 7) (.t 9)) <|
          .call (some 29) (.dyn (.t 26)) [(.t 27), (.t 28)] <|
          .op (some 10) (.mov (.t 29)) <|
          .nil)) [8, 9, 26, 27, 28, 29]) <|
        .seq (.dn (.reg (
          .op (some 30) (.mov (.t 10)) <|
          .op (some 31) (.bin .neq (.t 30) (.k (.int .i64 0))) <|
          .nil)) [30]) <|
        .dn (.ite (.t 31) (.seq (.dn (.reg (
            .op (some 32) (.mov (.t 10)) <|
            .op (some 6) (.mov (.t 32)) <|
            .nil)) [0, 1, 2, 11, 12, 13, 10, 31, 32]) <|
          .ret)
          (.skip)) [6, 10, 31])) [15, 16, 17, 8, 7, 18, 19, 20, 21, 6, 22, 23, 24, 25, 9, 26, 27, 28, 29, 10, 30, 31, 32]) <|
      .dn (.reg (
        .op (some 33) (.bin .add (.t 13) (.k (.int .i64 1))) <|
        .op (some 13) (.mov (.t 33)) <|
        .nil)) [33]))) [2, 11, 12, 13, 14, 15, 16, 17, 8, 7, 18, 19, 20, 21, 6, 22, 23, 24, 25, 9, 26, 27, 28, 29, 10, 30, 31, 32, 33]) <|
  .seq (.seq (.dn (.reg (
    .op (some 34) (.mov (.t 0)) <|
    .op (some 35) (.len (.t 34)) <|
    .op (some 36) (.mov (.t 1)) <|
    .op (some 37) (.len (.t 36)) <|
    .op (some 38) (.bin .lss (.t 35) (.t 37)) <|
    .nil)) [0, 1, 34, 35, 36, 37]) <|
  .dn (.ite (.t 38) (.seq (.dn (.reg (
      .op (some 6) (.mov (.k (.int .i64 (-1)))) <|
      .nil)) [38]) <|
    .ret)
    (.skip)) [6, 38]) <|
  .seq (.reg (
    .op (some 6) (.mov (.k (.int .i64 0))) <|
    .nil)) <|
  .ret
theorem ok145 : FnOk Tryz.prog 145 39 ir145 [.tmp 6] := FnOk.of Tryz.func145 (by kernel_rfl) (by kernel_rfl) (by kernel_rfl) (by kernel_rfl)
/-- internal/bytealg.CompareString -/
def ir190 : Ic :=
  .seq (.dn (.reg (
    .op (some 4) (.mov (.k (.int .i64 0))) <|
    .nil)) [4]) <|
  .seq (.dn (.reg (
    .op (some 5) (.mov (.t 0)) <|
    .op (some 6) (.mov (.t 1)) <|
    .call (some 7) (.fn 242) [(.t 5), (.t 6)] <|
    .op (some 4) (.mov (.t 7)) <|
    .nil)) [0, 1, 5, 6, 7]) <|
  .ret
theorem ok190 : FnOk Tryz.prog 190 8 ir190 [.tmp 4] := FnOk.of Tryz.func190 (by kernel_rfl) (by kernel_rfl) (by kernel_rfl) (by kernel_rfl)
/-- cmp.isNaN int  -/
def ir207 : Ic :=
  .seq (.dn (.reg (
    .op (some 2) (.mov (.k (.bool false))) <|
    .nil)) [2]) <|
  .seq (.dn (.reg (
    .op (some 3) (.mov (.t 0)) <|
    .op (some 4) (.mov (.t 0)) <|
    .op (some 5) (.bin .neq (.t 3) (.t 4)) <|
    .op (some 2) (.mov (.t 5)) <|
    .nil)) [0, 3, 4, 5]) <|
  .ret
theorem ok207 : FnOk Tryz.prog 207 6 ir207 [.tmp 2] := FnOk.of Tryz.func207 (by kernel_rfl) (by kernel_rfl) (by kernel_rfl) (by kernel_rfl)
/-- manifold/value.Clone -/
def ir59 : Ic :=
  .seq (.dn (.reg (
    .op (some 1) (.box (.t 0)) <|
    .op (some 2) (.new [(.int .i64 0), (.int .i64 0), (.int .i64 0), (.str []), (.nil 6), (.nil 7)]) <|
    .nil)) [0]) <|
  .seq (.dn (.reg (
    .op (some 8) (.ld (some 6) (.t 1)) <|
    .op (some 3) (.new [(.int .i64 0), (.int .i64 0), (.int .i64 0), (.str []), (.nil 6), (.nil 7)]) <|
    .op none (.sto (some 6) (.t 3) (.t 8)) <|
    .nil)) [8]) <|
  .seq (.dn (.reg (
    .op (some 9) (.fa (.t 3) 4) <|
    .op none (.sto none (.t 9) (.k (.nil 6))) <|
    .op (some 10) (.fa (.t 3) 5) <|
    .op none (.sto none (.t 10) (.k (.nil 7))) <|
    .nil)) [9, 10]) <|
  .seq (.seq (.dn (.reg (
    .op (some 11) (.fa (.t 1) 4) <|
    .op (some 12) (.ld none (.t 11)) <|
    .op (some 13) (.len (.t 12)) <|
    .op (some 14) (.mov (.k (.int .i64 0))) <|
    .nil)) [11]) <|
  .dn (.block 0 (
    .loop (
      .seq (.reg (
        .op (some 15) (.bin .lss (.t 14) (.t 13)) <|
        .nil)) <|
      .seq (.dn (.ite (.t 15) (.skip)
        (.exit 0)) [15]) <|
      .seq (.dn (.block 1 (
        .seq (.dn (.reg (
          .op (some 16) (.ixa true 6 (.t 12) (.t 14)) <|
          .op (some 17) (.ld (some 6) (.t 16)) <|
          .op (some 5) (.new [(.int .i64 0), (.int .i64 0), (.int .i64 0), (.str []), (.nil 6), (.nil 7)]) <|
          .op none (.sto (some 6) (.t 5) (.t 17)) <|
          .nil)) [16, 17]) <|
        .dn (.regd [(1, 3), (1, 4)] (
          .op (some 18) (.fa (.t 3) 4) <|
          .op (some 19) (.ld none (.t 18)) <|
          .op (some 20) (.ld (some 6) (.t 5)) <|
          .call (some 21) (.fn 59) [(.t 20)] <|
          .op (some 22) (.bls 6 [(.t 21)]) <|
          .op (some 23) (.app 6 (.t 19) (.t 22)) <|
          .op (some 24) (.fa (.t 3) 4) <|
          .op none (.sto none (.t 24) (.t 23)) <|
          .nil)) [5, 18, 19, 20, 21, 22, 23, 24])) [16, 17, 5, 18, 19, 20, 21, 22, 23, 24]) <|
      .dn (.reg (
        .op (some 25) (.bin .add (.t 14) (.k (.int .i64 1))) <|
        .op (some 14) (.mov (.t 25)) <|
        .nil)) [25]))) [12, 13, 14, 15, 16, 17, 5, 18, 19, 20, 21, 22, 23, 24, 25]) <|
  .seq (.seq (.dn (.reg (
    .op (some 26) (.fa (.t 1) 5) <|
    .op (some 27) (.ld none (.t 26)) <|
    .op (some 28) (.len (.t 27)) <|
    .op (some 29) (.mov (.k (.int .i64 0))) <|
    .nil)) [1, 26]) <|
  .dn (.block 2 (
    .loop (
      .seq (.reg (
        .op (some 30) (.bin .lss (.t 29) (.t 28)) <|
        .nil)) <|
      .seq (.dn (.ite (.t 30) (.skip)
        (.exit 2)) [30]) <|
      .seq (.dn (.block 3 (
        .seq (.dn (.reg (
          .op (some 31) (.ixa true 7 (.t 27) (.t 29)) <|
          .op (some 32) (.ld (some 7) (.t 31)) <|
          .op (some 7) (.new [(.str []), (.int .i64 0), (.int .i64 0), (.int .i64 0), (.str []), (.nil 6), (.nil 7)]) <|
          .op none (.sto (some 7) (.t 7) (.t 32)) <|
          .nil)) [31, 32]) <|
        .dn (.regd [(1, 6), (3, 6), (1, 8)] (
          .op (some 33) (.fa (.t 3) 5) <|
          .op (some 34) (.ld none (.t 33)) <|
          .op (some 35) (.fa (.t 7) 0) <|
          .op (some 36) (.ld none (.t 35)) <|
          .op (some 37) (.fa (.t 7) 1) <|
          .op (some 38) (.ld (some 6) (.t 37)) <|
          .call (some 39) (.fn 59) [(.t 38)] <|
          .op (some 40) (.bld [(.str []), (.int .i64 0), (.int .i64 0), (.int .i64 0), (.str []), (.nil 6), (.nil 7)] [(0, 1, (.t 36)), (1, 6, (.t 39))]) <|
          .op (some 41) (.bls 7 [(.t 40)]) <|
          .op (some 42) (.app 7 (.t 34) (.t 41)) <|
          .op (some 43) (.fa (.t 3) 5) <|
          .op none (.sto none (.t 43) (.t 42)) <|
          .nil)) [7, 33, 34, 35, 36, 37, 38, 39, 40, 41, 42, 43])) [31, 32, 7, 33, 34, 35, 36, 37, 38, 39, 40, 41, 42, 43]) <|
      .dn (.reg (
        .op (some 44) (.bin .add (.t 29) (.k (.int .i64 1))) <|
        .op (some 29) (.mov (.t 44)) <|
        .nil)) [44]))) [27, 28, 29, 30, 31, 32, 7, 33, 34, 35, 36, 37, 38, 39, 40, 41, 42, 43, 44]) <|
  .seq (.dn (.reg (
    .op (some 45) (.ld (some 6) (.t 3)) <|
    .op none (.sto (some 6) (.t 2) (.t 45)) <|
    .nil)) [3, 45]) <|
  .ret
theorem ok59 : FnOk Tryz.prog 59 46 ir59 [.cell 2 (some 6)] := FnOk.of Tryz.func59 (by kernel_rfl) (by kernel_rfl) (by kernel_rfl) (by kernel_rfl)
/-- manifold/manifoldlaw18.MappingEquals -/
def ir7 : Ic :=
  .seq (.dn (.reg (
    .op (some 2) (.box (.t 0)) <|
    .op (some 3) (.box (.t 1)) <|
    .op (some 4) (.mov (.k (.bool false))) <|
    .nil)) [0, 1, 4]) <|
  .seq (.seq (.dn (.reg (
    .call (some 9) (.fn 22) [] <|
    .op (some 10) (.not (.t 9)) <|
    .op (some 11) (.mov (.t 10)) <|
    .sc 11 false (
      .op (some 12) (.ld (some 1) (.t 2)) <|
      .call (some 13) (.fn 23) [(.t 12)] <|
      .op (some 14) (.not (.t 13)) <|
      .nil) (.t 14) 15 <|
    .op (some 16) (.mov (.t 15)) <|
    .sc 16 false (
      .op (some 17) (.ld (some 1) (.t 3)) <|
      .call (some 18) (.fn 23) [(.t 17)] <|
      .op (some 19) (.not (.t 18)) <|
      .nil) (.t 19) 20 <|
    .nil)) [9, 10, 11, 12, 13, 14, 15, 16, 17, 18, 19]) <|
  .dn (.ite (.t 20) (.seq (.dn (.reg (
      .call (some 21) (.fn 22) [] <|
      .op (some 4) (.mov (.t 21)) <|
      .nil)) [2, 3, 20, 21]) <|
    .ret)
    (.skip)) [4, 20]) <|
  .seq (.dn (.reg (
    .op (some 22) (.fa (.t 2) 0) <|
    .op (some 23) (.ld none (.t 22)) <|
    .op (some 24) (.len (.t 23)) <|
    .op (some 25) (.fa (.t 3) 0) <|
    .op (some 26) (.ld none (.t 25)) <|
    .op (some 27) (.len (.t 26)) <|
    .op (some 28) (.bin .eql (.t 24) (.t 27)) <|
    .op (some 5) (.mov (.t 28)) <|
    .nil)) [22, 23, 24, 25, 26, 27, 28]) <|
  .seq (.seq (.reg (
    .op (some 6) (.mov (.k (.int .i64 0))) <|
    .nil)) <|
  .dn (.block 0 (
    .loop (
      .seq (.seq (.dn (.reg (
        .op (some 29) (.mov (.t 6)) <|
        .op (some 30) (.fa (.t 2) 0) <|
        .op (some 31) (.ld none (.t 30)) <|
        .op (some 32) (.len (.t 31)) <|
        .op (some 33) (.bin .lss (.t 29) (.t 32)) <|
        .op (some 34) (.mov (.t 33)) <|
        .sc 34 true (
          .op (some 35) (.mov (.t 5)) <|
          .nil) (.t 35) 36 <|
        .nil)) [29, 30, 31, 32, 33, 34, 35]) <|
      .dn (.ite (.t 36) (.skip)
        (.exit 0)) [5, 36]) <|
      .seq (.dn (.block 1 (
        .dn (.reg (
          .op (some 39) (.fa (.t 2) 0) <|
          .op (some 40) (.ld none (.t 39)) <|
          .op (some 41) (.mov (.t 6)) <|
          .op (some 42) (.ixa true 6 (.t 40) (.t 41)) <|
          .op (some 43) (.fa (.t 42) 0) <|
          .op (some 44) (.ld none (.t 43)) <|
          .op (some 45) (.fa (.t 3) 0) <|
          .op (some 46) (.ld none (.t 45)) <|
          .op (some 47) (.mov (.t 6)) <|
          .op (some 48) (.ixa true 6 (.t 46) (.t 47)) <|
          .op (some 49) (.fa (.t 48) 0) <|
          .op (some 50) (.ld none (.t 49)) <|
          .op (some 51) (.bin .seq (.t 44) (.t 50)) <|
          .op (some 52) (.mov (.t 51)) <|
          .sc 52 true (
            .op (some 53) (.fa (.t 2) 0) <|
            .op (some 54) (.ld none (.t 53)) <|
            .op (some 55) (.mov (.t 6)) <|
            .op (some 56) (.ixa true 6 (.t 54) (.t 55)) <|
            .op (some 57) (.fa (.t 56) 1) <|
            .op (some 58) (.ld (some 5) (.t 57)) <|
            .op (some 59) (.fa (.t 3) 0) <|
            .op (some 60) (.ld none (.t 59)) <|
            .op (some 61) (.mov (.t 6)) <|
            .op (some 62) (.ixa true 6 (.t 60) (.t 61)) <|
            .op (some 63) (.fa (.t 62) 1) <|
            .op (some 64) (.ld (some 5) (.t 63)) <|
            .call (some 65) (.fn 31) [(.t 58), (.t 64)] <|
            .nil) (.t 65) 66 <|
          .op (some 5) (.mov (.t 66)) <|
          .nil)) [39, 40, 41, 42, 43, 44, 45, 46, 47, 48, 49, 50, 51, 52, 53, 54, 55, 56, 57, 58, 59, 60, 61, 62, 63, 64, 65, 66])) [39, 40, 41, 42, 43, 44, 45, 46, 47, 48, 49, 50, 51, 52, 53, 54, 55, 56, 57, 58, 59, 60, 61, 62, 63, 64, 65, 66]) <|
      .dn (.reg (
        .op (some 37) (.mov (.t 6)) <|
        .op (some 38) (.bin .add (.t 37) (.k (.int .i64 1))) <|
        .op (some 6) (.mov (.t 38)) <|
        .nil)) [37, 38]))) [6, 29, 30, 31, 32, 33, 34, 35, 36, 39, 40, 41, 42, 43, 44, 45, 46, 47, 48, 49, 50, 51, 52, 53, 54, 55, 56, 57, 58, 59, 60, 61, 62, 63, 64, 65, 66, 37, 38]) <|
  .seq (.dn (.reg (
    .op (some 67) (.ld (some 1) (.t 2)) <|
    .call (some 68) (.fn 32) [(.t 67)] <|
    .op (some 7) (.new [(.nil 6)]) <|
    .op none (.sto (some 1) (.t 7) (.t 68)) <|
    .nil)) [67, 68]) <|
  .seq (.seq (.dn (.reg (
    .op (some 69) (.ld (some 1) (.t 2)) <|
    .op (some 70) (.ld (some 1) (.t 3)) <|
    .call (some 71) (.fn 33) [(.t 69), (.t 70)] <|
    .op (some 72) (.mov (.t 5)) <|
    .op (some 73) (.bin .bne (.t 71) (.t 72)) <|
    .op (some 74) (.mov (.t 73)) <|
    .sc 74 false (
      .op (some 75) (.ld (some 1) (.t 3)) <|
      .op (some 76) (.ld (some 1) (.t 2)) <|
      .call (some 77) (.fn 33) [(.t 75), (.t 76)] <|
      .op (some 78) (.mov (.t 5)) <|
      .op (some 79) (.bin .bne (.t 77) (.t 78)) <|
      .nil) (.t 79) 80 <|
    .op (some 81) (.mov (.t 80)) <|
    .sc 81 false (
      .op (some 82) (.ld (some 1) (.t 7)) <|
      .op (some 83) (.ld (some 1) (.t 2)) <|
      .call (some 84) (.fn 33) [(.t 82), (.t 83)] <|
      .op (some 85) (.not (.t 84)) <|
      .nil) (.t 85) 86 <|
    .nil)) [3, 5, 69, 70, 71, 72, 73, 74, 75, 76, 77, 78, 79, 80, 81, 82, 83, 84, 85]) <|
  .dn (.ite (.t 86) (.seq (.dn (.reg (
      .op (some 4) (.mov (.k (.bool false))) <|
      .nil)) [2, 7, 86]) <|
    .ret)
    (.skip)) [4, 86]) <|
  .seq (.seq (.reg (
    .op (some 8) (.mov (.k (.int .i64 0))) <|
    .nil)) <|
  .dn (.block 2 (
    .loop (
      .seq (.seq (.dn (.reg (
        .op (some 87) (.mov (.t 8)) <|
        .op (some 88) (.fa (.t 7) 0) <|
        .op (some 89) (.ld none (.t 88)) <|
        .op (some 90) (.len (.t 89)) <|
        .op (some 91) (.bin .lss (.t 87) (.t 90)) <|
        .nil)) [87, 88, 89, 90]) <|
      .dn (.ite (.t 91) (.skip)
        (.exit 2)) [91]) <|
      .seq (.dn (.block 3 (
        .dn (.reg (
          .op (some 94) (.fa (.t 7) 0) <|
          .op (some 95) (.ld none (.t 94)) <|
          .op (some 96) (.mov (.t 8)) <|
          .op (some 97) (.fa (.t 7) 0) <|
          .op (some 98) (.ld none (.t 97)) <|
          .op (some 99) (.mov (.t 8)) <|
          .op (some 100) (.ixa true 6 (.t 98) (.t 99)) <|
          .op (some 101) (.fa (.t 100) 0) <|
          .op (some 102) (.ld none (.t 101)) <|
          .op (some 103) (.bin .cat (.t 102) (.k (.str [120]))) <|
          .op (some 104) (.ixa true 6 (.t 95) (.t 96)) <|
          .op (some 105) (.fa (.t 104) 0) <|
          .op none (.sto none (.t 105) (.t 103)) <|
          .nil)) [94, 95, 96, 97, 98, 99, 100, 101, 102, 103, 104, 105])) [94, 95, 96, 97, 98, 99, 100, 101, 102, 103, 104, 105]) <|
      .dn (.reg (
        .op (some 92) (.mov (.t 8)) <|
        .op (some 93) (.bin .add (.t 92) (.k (.int .i64 1))) <|
        .op (some 8) (.mov (.t 93)) <|
        .nil)) [92, 93]))) [8, 87, 88, 89, 90, 91, 94, 95, 96, 97, 98, 99, 100, 101, 102, 103, 104, 105, 92, 93]) <|
  .seq (.dn (.reg (
    .op (some 106) (.fa (.t 2) 0) <|
    .op (some 107) (.ld none (.t 106)) <|
    .op (some 108) (.len (.t 107)) <|
    .op (some 109) (.bin .eql (.t 108) (.k (.int .i64 0))) <|
    .op (some 110) (.mov (.t 109)) <|
    .sc 110 false (
      .op (some 111) (.ld (some 1) (.t 7)) <|
      .op (some 112) (.ld (some 1) (.t 2)) <|
      .call (some 113) (.fn 33) [(.t 111), (.t 112)] <|
      .op (some 114) (.not (.t 113)) <|
      .nil) (.t 114) 115 <|
    .op (some 4) (.mov (.t 115)) <|
    .nil)) [2, 7, 106, 107, 108, 109, 110, 111, 112, 113, 114, 115]) <|
  .ret
theorem ok7 : FnOk Tryz.prog 7 116 ir7 [.tmp 4] := FnOk.of Tryz.func7 (by kernel_rfl) (by kernel_rfl) (by kernel_rfl) (by kernel_rfl)
end Go.Proofs
