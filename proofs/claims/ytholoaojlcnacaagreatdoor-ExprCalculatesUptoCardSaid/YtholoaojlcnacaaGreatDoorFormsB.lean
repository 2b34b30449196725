/- The intermediate forms of functions (printed by a program). -/
import Derived.Test.YtholoaojlcnacaaGreatDoorForms
set_option linter.unusedVariables false
set_option linter.unusedSimpArgs false
set_option linter.unusedSectionVars false
namespace Go.Proofs
open Go Av
/-- manifold/value.IsNull -/
def ir13 : Ic :=
  .seq (.dn (.reg (
    .op (some 1) (.box (.t 0)) <|
    .op (some 2) (.mov (.k (.bool false))) <|
    .nil)) [0, 2]) <|
  .seq (.dn (.reg (
    .op (some 3) (.fa (.t 1) 0) <|
    .op (some 4) (.ld none (.t 3)) <|
    .op (some 5) (.bin .eql (.t 4) (.k (.int .i64 0))) <|
    .op (some 6) (.mov (.t 5)) <|
    .sc 6 true (
      .op (some 7) (.fa (.t 1) 1) <|
      .op (some 8) (.ld none (.t 7)) <|
      .op (some 9) (.bin .eql (.t 8) (.k (.int .i64 0))) <|
      .nil) (.t 9) 10 <|
    .op (some 11) (.mov (.t 10)) <|
    .sc 11 true (
      .op (some 12) (.fa (.t 1) 2) <|
      .op (some 13) (.ld none (.t 12)) <|
      .op (some 14) (.bin .eql (.t 13) (.k (.int .i64 0))) <|
      .nil) (.t 14) 15 <|
    .op (some 16) (.mov (.t 15)) <|
    .sc 16 true (
      .op (some 17) (.fa (.t 1) 3) <|
      .op (some 18) (.ld none (.t 17)) <|
      .op (some 19) (.bin .seq (.t 18) (.k (.str []))) <|
      .nil) (.t 19) 20 <|
    .op (some 21) (.mov (.t 20)) <|
    .sc 21 true (
      .op (some 22) (.fa (.t 1) 4) <|
      .op (some 23) (.ld none (.t 22)) <|
      .op (some 24) (.len (.t 23)) <|
      .op (some 25) (.bin .eql (.t 24) (.k (.int .i64 0))) <|
      .nil) (.t 25) 26 <|
    .op (some 27) (.mov (.t 26)) <|
    .sc 27 true (
      .op (some 28) (.fa (.t 1) 5) <|
      .op (some 29) (.ld none (.t 28)) <|
      .op (some 30) (.len (.t 29)) <|
      .op (some 31) (.bin .eql (.t 30) (.k (.int .i64 0))) <|
      .nil) (.t 31) 32 <|
    .op (some 2) (.mov (.t 32)) <|
    .nil)) [1, 3, 4, 5, 6, 7, 8, 9, 10, 11, 12, 13, 14, 15, 16, 17, 18, 19, 20, 21, 22, 23, 24, 25, 26, 27, 28, 29, 30, 31, 32]) <|
  .ret
theorem ok13 : FnOk Tryz.prog 13 33 ir13 [.tmp 2] := FnOk.of Tryz.func13 (by kernel_rfl) (by kernel_rfl) (by kernel_rfl) (by kernel_rfl)
def asg15 : Ic := (.seq (.dn (.reg (
        .op (some 5) (.mov (.t 11)) <|
        .nil)) [10, 11]) <|
      .dn (.reg (
        .op (some 6) (.new [(.int .i64 0), (.int .i64 0), (.int .i64 0), (.str []), (.nil 6), (.nil 7)]) <|
        .op none (.sto (some 6) (.t 6) (.t 12)) <|
        .nil)) [12])
def body15 : Ic := (.dn (.block 1 (
        .seq (.dn (.reg (
          .op (some 13) (.ld none (.t 4)) <|
          .op (some 14) (.bin .add (.t 13) (.k (.int .i64 1))) <|
          .op none (.sto none (.t 4) (.t 14)) <|
          .nil)) [13, 14]) <|
        .seq (.dn (.block 2 (
          .seq (.dn (.reg (
            .op (some 16) (.ld none (.t 4)) <|
            .op (some 17) (.bin .gtr (.t 16) (.k (.int .i64 4096))) <|
            .op (some 15) (.mov (.t 17)) <|
            .nil)) [4, 16, 17]) <|
          .ite (.t 15) (.seq (.dn (.reg (
              .op none (.sto none (.t 2) (.k (.int .i64 9))) <|
              .nil)) [2, 3, 5, 6, 15]) <|
            .ret)
            (.seq (.dn (.reg (
              .op (some 19) (.mov (.t 5)) <|
              .op (some 20) (.bin .gtr (.t 19) (.k (.int .i64 8))) <|
              .op (some 18) (.mov (.t 20)) <|
              .nil)) [5, 15, 19, 20]) <|
            .ite (.t 18) (.seq (.dn (.reg (
                .op none (.sto none (.t 2) (.k (.int .i64 23))) <|
                .nil)) [2, 3, 6, 18]) <|
              .ret)
              (.seq (.dn (.reg (
                .op (some 22) (.ld (some 6) (.t 6)) <|
                .call (some 23) (.fn 13) [(.t 22)] <|
                .op (some 21) (.mov (.t 23)) <|
                .nil)) [18, 22, 23]) <|
              .ite (.t 21) (.seq (.dn (.reg (
                  .op none (.sto none (.t 2) (.k (.int .i64 19))) <|
                  .nil)) [2, 3, 6, 21]) <|
                .ret)
                (.seq (.dn (.reg (
                  .op (some 25) (.fa (.t 6) 0) <|
                  .op (some 26) (.ld none (.t 25)) <|
                  .op (some 27) (.bin .lss (.t 26) (.k (.int .i64 1))) <|
                  .op (some 28) (.mov (.t 27)) <|
                  .sc 28 false (
                    .op (some 29) (.fa (.t 6) 0) <|
                    .op (some 30) (.ld none (.t 29)) <|
                    .op (some 31) (.bin .gtr (.t 30) (.k (.int .i64 10))) <|
                    .nil) (.t 31) 32 <|
                  .op (some 24) (.mov (.t 32)) <|
                  .nil)) [21, 25, 26, 27, 28, 29, 30, 31, 32]) <|
                .ite (.t 24) (.seq (.dn (.reg (
                    .op none (.sto none (.t 2) (.k (.int .i64 11))) <|
                    .nil)) [2, 3, 6, 24]) <|
                  .ret)
                  (.seq (.dn (.reg (
                    .op (some 34) (.ld (some 6) (.t 6)) <|
                    .call (some 35) (.fn 50) [(.t 34)] <|
                    .op (some 36) (.not (.t 35)) <|
                    .op (some 33) (.mov (.t 36)) <|
                    .nil)) [24, 34, 35, 36]) <|
                  .dn (.ite (.t 33) (.seq (.dn (.reg (
                      .op none (.sto none (.t 2) (.k (.int .i64 3))) <|
                      .nil)) [2, 3, 6, 33]) <|
                    .ret)
                    (.skip)) [33])))))) [4, 5, 16, 17, 15, 19, 20, 18, 22, 23, 21, 25, 26, 27, 28, 29, 30, 31, 32, 24, 34, 35, 36, 33]) <|
        .seq (.dn (.reg (
          .op (some 37) (.fa (.t 6) 0) <|
          .op (some 38) (.ld none (.t 37)) <|
          .op (some 39) (.ixr 11 1 (.t 3) (.t 38)) <|
          .op (some 40) (.ld none (.t 39)) <|
          .op (some 41) (.ld (some 6) (.t 6)) <|
          .call (some 42) (.dyn (.t 40)) [(.t 41)] <|
          .op (some 7) (.mov (.t 42)) <|
          .nil)) [3, 6, 37, 38, 39, 40, 41, 42]) <|
        .seq (.dn (.reg (
          .op (some 43) (.mov (.t 7)) <|
          .op (some 44) (.bin .neq (.t 43) (.k (.int .i64 0))) <|
          .nil)) [43]) <|
        .dn (.ite (.t 44) (.seq (.dn (.reg (
            .op (some 45) (.mov (.t 7)) <|
            .op none (.sto none (.t 2) (.t 45)) <|
            .nil)) [2, 7, 44, 45]) <|
          .ret)
          (.skip)) [2, 7, 44])) [2, 3, 4, 5, 6, 13, 14, 16, 17, 15, 19, 20, 18, 22, 23, 21, 25, 26, 27, 28, 29, 30, 31, 32, 24, 34, 35, 36, 33, 37, 38, 39, 40, 41, 42, 7, 43, 44, 45])
/-- manifold/value.Check -/
noncomputable def ir15 : Ic :=
  .seq (.dn (.reg (
    .op (some 1) (.box (.t 0)) <|
    .op (some 2) (.new [(.int .i64 0)]) <|
    .nil)) [0]) <|
  .seq (.dn (.reg (
    .call (some 8) (.fn 48) [] <|
    .op (some 3) (.new [.nilFn, .nilFn, .nilFn, .nilFn, .nilFn, .nilFn, .nilFn, .nilFn, .nilFn, .nilFn, .nilFn]) <|
    .op none (.sto (some 11) (.t 3) (.t 8)) <|
    .nil)) [8]) <|
  .seq (.reg (
    .op (some 4) (.new [(.int .i64 0)]) <|
    .op none (.sto none (.t 4) (.k (.int .i64 0))) <|
    .nil)) <|
  .seq (.seq (.dn (.reg (
    .op (some 9) (.ld (some 6) (.t 1)) <|
    .call (some 10) (.fn 49) [(.t 9)] <|
    .nil)) [1, 9]) <|
  .dn (.block 0 (
    .dn (.rng (.t 10) 46 57 #[11, 12] (subC (codeOf Tryz.f15) [1, 1, 1, 0, 1, 0, 0]) (subC (codeOf Tryz.f15) [1, 1, 1, 0, 1, 0, 1]) asg15 body15) [3, 4, 10])) [3, 4, 10]) <|
  .seq (.reg (
    .op none (.sto none (.t 2) (.k (.int .i64 0))) <|
    .nil)) <|
  .ret
theorem ok15 : FnOk Tryz.prog 15 46 ir15 [.cell 2 none] := FnOk.of Tryz.func15 (by kernel_rfl) (by kernel_rfl) (by kernel_rfl) (by kernel_rfl)
/-- manifold/value.rules -/
def ir48 : Ic :=
  .seq (.reg (
    .op (some 0) (.new [.nilFn, .nilFn, .nilFn, .nilFn, .nilFn, .nilFn, .nilFn, .nilFn, .nilFn, .nilFn, .nilFn]) <|
    .nil)) <|
  .seq (.dn (.reg (
    .op (some 1) (.bld [.nilFn, .nilFn, .nilFn, .nilFn, .nilFn, .nilFn, .nilFn, .nilFn, .nilFn, .nilFn, .nilFn] [(1, 1, (.k (.fn (.func 99) [] []))), (2, 1, (.k (.fn (.func 101) [] []))), (3, 1, (.k (.fn (.func 102) [] []))), (4, 1, (.k (.fn (.func 104) [] []))), (5, 1, (.k (.fn (.func 107) [] []))), (6, 1, (.k (.fn (.func 108) [] []))), (7, 1, (.k (.fn (.func 109) [] []))), (8, 1, (.k (.fn (.func 110) [] []))), (9, 1, (.k (.fn (.func 111) [] []))), (10, 1, (.k (.fn (.func 113) [] [])))]) <|
    .op none (.sto (some 11) (.t 0) (.t 1)) <|
    .nil)) [1]) <|
  .ret
theorem ok48 : FnOk Tryz.prog 48 2 ir48 [.cell 0 (some 11)] := FnOk.of Tryz.func48 (by kernel_rfl) (by kernel_rfl) (by kernel_rfl) (by kernel_rfl)
/-- manifold/value.preorder -/
def ir49 : Ic :=
  .seq (.dn (.reg (
    .op (some 1) (.box (.t 0)) <|
    .op (some 2) (.mov (.k .nilFn)) <|
    .nil)) [0, 2]) <|
  .seq (.dn (.reg (
    .op (some 3) (.fnv (.func 114) [] [(.t 1)]) <|
    .op (some 2) (.mov (.t 3)) <|
    .nil)) [1, 3]) <|
  .ret
theorem ok49 : FnOk Tryz.prog 49 4 ir49 [.tmp 2] := FnOk.of Tryz.func49 (by kernel_rfl) (by kernel_rfl) (by kernel_rfl) (by kernel_rfl)
/-- manifold/value.uses -/
def ir50 : Ic :=
  .seq (.dn (.reg (
    .op (some 1) (.box (.t 0)) <|
    .op (some 2) (.mov (.k (.bool false))) <|
    .nil)) [0, 2]) <|
  .seq (.dn (.reg (
    .op (some 6) (.fa (.t 1) 0) <|
    .op (some 7) (.ld none (.t 6)) <|
    .op (some 8) (.bin .eql (.t 7) (.k (.int .i64 1))) <|
    .op (some 9) (.mov (.t 8)) <|
    .sc 9 false (
      .op (some 10) (.fa (.t 1) 0) <|
      .op (some 11) (.ld none (.t 10)) <|
      .op (some 12) (.bin .eql (.t 11) (.k (.int .i64 2))) <|
      .nil) (.t 12) 13 <|
    .op (some 14) (.mov (.t 13)) <|
    .sc 14 false (
      .op (some 15) (.fa (.t 1) 0) <|
      .op (some 16) (.ld none (.t 15)) <|
      .op (some 17) (.bin .eql (.t 16) (.k (.int .i64 6))) <|
      .nil) (.t 17) 18 <|
    .op (some 19) (.mov (.t 18)) <|
    .sc 19 false (
      .op (some 20) (.fa (.t 1) 0) <|
      .op (some 21) (.ld none (.t 20)) <|
      .op (some 22) (.bin .eql (.t 21) (.k (.int .i64 7))) <|
      .nil) (.t 22) 23 <|
    .op (some 24) (.mov (.t 23)) <|
    .sc 24 false (
      .op (some 25) (.fa (.t 1) 0) <|
      .op (some 26) (.ld none (.t 25)) <|
      .op (some 27) (.bin .eql (.t 26) (.k (.int .i64 3))) <|
      .nil) (.t 27) 28 <|
    .op (some 3) (.mov (.t 28)) <|
    .nil)) [6, 7, 8, 9, 10, 11, 12, 13, 14, 15, 16, 17, 18, 19, 20, 21, 22, 23, 24, 25, 26, 27, 28]) <|
  .seq (.dn (.reg (
    .op (some 29) (.fa (.t 1) 0) <|
    .op (some 30) (.ld none (.t 29)) <|
    .op (some 31) (.bin .eql (.t 30) (.k (.int .i64 4))) <|
    .op (some 32) (.mov (.t 31)) <|
    .sc 32 false (
      .op (some 33) (.fa (.t 1) 0) <|
      .op (some 34) (.ld none (.t 33)) <|
      .op (some 35) (.bin .eql (.t 34) (.k (.int .i64 5))) <|
      .nil) (.t 35) 36 <|
    .op (some 37) (.mov (.t 36)) <|
    .sc 37 false (
      .op (some 38) (.fa (.t 1) 0) <|
      .op (some 39) (.ld none (.t 38)) <|
      .op (some 40) (.bin .eql (.t 39) (.k (.int .i64 10))) <|
      .nil) (.t 40) 41 <|
    .op (some 4) (.mov (.t 41)) <|
    .nil)) [29, 30, 31, 32, 33, 34, 35, 36, 37, 38, 39, 40, 41]) <|
  .seq (.dn (.reg (
    .op (some 42) (.fa (.t 1) 0) <|
    .op (some 43) (.ld none (.t 42)) <|
    .op (some 44) (.bin .eql (.t 43) (.k (.int .i64 8))) <|
    .op (some 45) (.mov (.t 44)) <|
    .sc 45 false (
      .op (some 46) (.fa (.t 1) 0) <|
      .op (some 47) (.ld none (.t 46)) <|
      .op (some 48) (.bin .eql (.t 47) (.k (.int .i64 10))) <|
      .nil) (.t 48) 49 <|
    .op (some 5) (.mov (.t 49)) <|
    .nil)) [42, 43, 44, 45, 46, 47, 48, 49]) <|
  .seq (.dn (.reg (
    .op (some 50) (.mov (.t 3)) <|
    .op (some 51) (.mov (.t 50)) <|
    .sc 51 false (
      .op (some 52) (.fa (.t 1) 1) <|
      .op (some 53) (.ld none (.t 52)) <|
      .op (some 54) (.bin .eql (.t 53) (.k (.int .i64 0))) <|
      .nil) (.t 54) 55 <|
    .op (some 56) (.mov (.t 55)) <|
    .sc 56 true (
      .op (some 57) (.fa (.t 1) 0) <|
      .op (some 58) (.ld none (.t 57)) <|
      .op (some 59) (.bin .eql (.t 58) (.k (.int .i64 3))) <|
      .op (some 60) (.mov (.t 59)) <|
      .sc 60 false (
        .op (some 61) (.fa (.t 1) 2) <|
        .op (some 62) (.ld none (.t 61)) <|
        .op (some 63) (.bin .eql (.t 62) (.k (.int .i64 0))) <|
        .nil) (.t 63) 64 <|
      .nil) (.t 64) 65 <|
    .op (some 66) (.mov (.t 65)) <|
    .sc 66 true (
      .op (some 67) (.mov (.t 4)) <|
      .op (some 68) (.mov (.t 67)) <|
      .sc 68 false (
        .op (some 69) (.fa (.t 1) 3) <|
        .op (some 70) (.ld none (.t 69)) <|
        .op (some 71) (.bin .seq (.t 70) (.k (.str []))) <|
        .nil) (.t 71) 72 <|
      .nil) (.t 72) 73 <|
    .op (some 74) (.mov (.t 73)) <|
    .sc 74 true (
      .op (some 75) (.mov (.t 5)) <|
      .op (some 76) (.mov (.t 75)) <|
      .sc 76 false (
        .op (some 77) (.fa (.t 1) 4) <|
        .op (some 78) (.ld none (.t 77)) <|
        .op (some 79) (.len (.t 78)) <|
        .op (some 80) (.bin .eql (.t 79) (.k (.int .i64 0))) <|
        .nil) (.t 80) 81 <|
      .nil) (.t 81) 82 <|
    .op (some 83) (.mov (.t 82)) <|
    .sc 83 true (
      .op (some 84) (.fa (.t 1) 0) <|
      .op (some 85) (.ld none (.t 84)) <|
      .op (some 86) (.bin .eql (.t 85) (.k (.int .i64 9))) <|
      .op (some 87) (.mov (.t 86)) <|
      .sc 87 false (
        .op (some 88) (.fa (.t 1) 5) <|
        .op (some 89) (.ld none (.t 88)) <|
        .op (some 90) (.len (.t 89)) <|
        .op (some 91) (.bin .eql (.t 90) (.k (.int .i64 0))) <|
        .nil) (.t 91) 92 <|
      .nil) (.t 92) 93 <|
    .op (some 2) (.mov (.t 93)) <|
    .nil)) [1, 3, 4, 5, 50, 51, 52, 53, 54, 55, 56, 57, 58, 59, 60, 61, 62, 63, 64, 65, 66, 67, 68, 69, 70, 71, 72, 73, 74, 75, 76, 77, 78, 79, 80, 81, 82, 83, 84, 85, 86, 87, 88, 89, 90, 91, 92, 93]) <|
  .ret
theorem ok50 : FnOk Tryz.prog 50 94 ir50 [.tmp 2] := FnOk.of Tryz.func50 (by kernel_rfl) (by kernel_rfl) (by kernel_rfl) (by kernel_rfl)
/-- manifold/expr.Check -/
def ir53 : Ic :=
  .seq (.dn (.reg (
    .op (some 1) (.box (.t 0)) <|
    .op (some 2) (.mov (.k (.int .i64 0))) <|
    .nil)) [0, 2]) <|
  .seq (.reg (
    .op (some 3) (.new [(.int .i64 0)]) <|
    .op none (.sto none (.t 3) (.k (.int .i64 0))) <|
    .nil)) <|
  .seq (.reg (
    .op (some 4) (.new [.nilFn]) <|
    .nil)) <|
  .seq (.dn (.reg (
    .op (some 5) (.fnv (.func 119) [] [(.t 3), (.t 4)]) <|
    .op none (.sto none (.t 4) (.t 5)) <|
    .nil)) [3, 5]) <|
  .seq (.dn (.reg (
    .op (some 6) (.ld none (.t 4)) <|
    .op (some 7) (.ld (some 5) (.t 1)) <|
    .call (some 8) (.dyn (.t 6)) [(.t 7), (.k (.int .i64 1))] <|
    .op (some 2) (.mov (.t 8)) <|
    .nil)) [1, 4, 6, 7, 8]) <|
  .ret
theorem ok53 : FnOk Tryz.prog 53 9 ir53 [.tmp 2] := FnOk.of Tryz.func53 (by kernel_rfl) (by kernel_rfl) (by kernel_rfl) (by kernel_rfl)
/-- manifold/expr.pathed -/
def ir67 : Ic :=
  .seq (.dn (.reg (
    .op (some 2) (.mov (.k (.bool false))) <|
    .nil)) [2]) <|
  .seq (.dn (.reg (
    .op (some 3) (.mov (.t 0)) <|
    .op (some 4) (.bin .eql (.t 3) (.k (.int .i64 2))) <|
    .op (some 5) (.mov (.t 4)) <|
    .sc 5 false (
      .op (some 6) (.mov (.t 0)) <|
      .op (some 7) (.bin .eql (.t 6) (.k (.int .i64 22))) <|
      .nil) (.t 7) 8 <|
    .op (some 9) (.mov (.t 8)) <|
    .sc 9 false (
      .op (some 10) (.mov (.t 0)) <|
      .op (some 11) (.bin .eql (.t 10) (.k (.int .i64 26))) <|
      .nil) (.t 11) 12 <|
    .op (some 2) (.mov (.t 12)) <|
    .nil)) [0, 3, 4, 5, 6, 7, 8, 9, 10, 11, 12]) <|
  .ret
theorem ok67 : FnOk Tryz.prog 67 13 ir67 [.tmp 2] := FnOk.of Tryz.func67 (by kernel_rfl) (by kernel_rfl) (by kernel_rfl) (by kernel_rfl)
/-- manifold/value.rules$1 -/
def ir99 : Ic :=
  .seq (.dn (.reg (
    .op (some 1) (.box (.t 0)) <|
    .op (some 2) (.mov (.k (.int .i64 0))) <|
    .nil)) [0, 2]) <|
  .seq (.dn (.reg (
    .op (some 3) (.fa (.t 1) 1) <|
    .op (some 4) (.ld none (.t 3)) <|
    .call (some 5) (.fn 100) [(.t 4), (.k (.int .i64 0)), (.k (.int .i64 1))] <|
    .op (some 2) (.mov (.t 5)) <|
    .nil)) [1, 3, 4, 5]) <|
  .ret
theorem ok99 : FnOk Tryz.prog 99 6 ir99 [.tmp 2] := FnOk.of Tryz.func99 (by kernel_rfl) (by kernel_rfl) (by kernel_rfl) (by kernel_rfl)
/-- manifold/value.between -/
def ir100 : Ic :=
  .seq (.dn (.reg (
    .op (some 6) (.mov (.k (.int .i64 0))) <|
    .nil)) [6]) <|
  .seq (.seq (.dn (.reg (
    .op (some 7) (.mov (.t 0)) <|
    .op (some 8) (.mov (.t 1)) <|
    .op (some 9) (.bin .lss (.t 7) (.t 8)) <|
    .op (some 10) (.mov (.t 9)) <|
    .sc 10 false (
      .op (some 11) (.mov (.t 0)) <|
      .op (some 12) (.mov (.t 2)) <|
      .op (some 13) (.bin .gtr (.t 11) (.t 12)) <|
      .nil) (.t 13) 14 <|
    .nil)) [0, 1, 2, 7, 8, 9, 10, 11, 12, 13]) <|
  .dn (.ite (.t 14) (.seq (.dn (.reg (
      .op (some 6) (.mov (.k (.int .i64 2))) <|
      .nil)) [14]) <|
    .ret)
    (.skip)) [6, 14]) <|
  .seq (.reg (
    .op (some 6) (.mov (.k (.int .i64 0))) <|
    .nil)) <|
  .ret
theorem ok100 : FnOk Tryz.prog 100 15 ir100 [.tmp 6] := FnOk.of Tryz.func100 (by kernel_rfl) (by kernel_rfl) (by kernel_rfl) (by kernel_rfl)
/-- manifold/value.rules$2 -/
def ir101 : Ic :=
  .seq (.dn (.reg (
    .op (some 1) (.box (.t 0)) <|
    .op (some 2) (.mov (.k (.int .i64 0))) <|
    .nil)) [0, 2]) <|
  .seq (.dn (.reg (
    .op (some 3) (.fa (.t 1) 1) <|
    .op (some 4) (.ld none (.t 3)) <|
    .call (some 5) (.fn 100) [(.t 4), (.k (.int .i64 (-999999999999999))), (.k (.int .i64 999999999999999))] <|
    .op (some 2) (.mov (.t 5)) <|
    .nil)) [1, 3, 4, 5]) <|
  .ret
theorem ok101 : FnOk Tryz.prog 101 6 ir101 [.tmp 2] := FnOk.of Tryz.func101 (by kernel_rfl) (by kernel_rfl) (by kernel_rfl) (by kernel_rfl)
/-- manifold/value.rules$3 -/
def ir102 : Ic :=
  .seq (.dn (.reg (
    .op (some 1) (.box (.t 0)) <|
    .op (some 2) (.mov (.k (.int .i64 0))) <|
    .nil)) [0, 2]) <|
  .seq (.dn (.regd [(2, 4)] (
    .op (some 3) (.fa (.t 1) 1) <|
    .op (some 4) (.ld none (.t 3)) <|
    .call (some 5) (.fn 100) [(.t 4), (.k (.int .i64 (-999999999999999))), (.k (.int .i64 999999999999999))] <|
    .op (some 6) (.fa (.t 1) 2) <|
    .op (some 7) (.ld none (.t 6)) <|
    .call (some 8) (.fn 100) [(.t 7), (.k (.int .i64 0)), (.k (.int .i64 12))] <|
    .op (some 9) (.bls 1 [(.t 5), (.t 8)]) <|
    .call (some 10) (.fn 103) [(.t 9)] <|
    .op (some 2) (.mov (.t 10)) <|
    .nil)) [1, 3, 4, 5, 6, 7, 8, 9, 10]) <|
  .ret
theorem ok102 : FnOk Tryz.prog 102 11 ir102 [.tmp 2] := FnOk.of Tryz.func102 (by kernel_rfl) (by kernel_rfl) (by kernel_rfl) (by kernel_rfl)
/-- manifold/value.first -/
def ir103 : Ic :=
  .seq (.dn (.reg (
    .op (some 2) (.mov (.k (.int .i64 0))) <|
    .nil)) [2]) <|
  .seq (.seq (.dn (.reg (
    .op (some 5) (.mov (.t 0)) <|
    .op (some 6) (.len (.t 5)) <|
    .op (some 7) (.mov (.k (.int .i64 0))) <|
    .nil)) [0]) <|
  .dn (.block 0 (
    .loop (
      .seq (.reg (
        .op (some 8) (.bin .lss (.t 7) (.t 6)) <|
        .nil)) <|
      .seq (.dn (.ite (.t 8) (.skip)
        (.exit 0)) [8]) <|
      .seq (.dn (.block 1 (
        .seq (.dn (.reg (
          .op (some 9) (.ixa false 1 (.t 5) (.t 7)) <|
          .op (some 10) (.ld none (.t 9)) <|
          .op (some 4) (.mov (.t 10)) <|
          .nil)) [9, 10]) <|
        .seq (.dn (.reg (
          .op (some 11) (.mov (.t 4)) <|
          .op (some 12) (.bin .neq (.t 11) (.k (.int .i64 0))) <|
          .nil)) [11]) <|
        .dn (.ite (.t 12) (.seq (.dn (.reg (
            .op (some 13) (.mov (.t 4)) <|
            .op (some 2) (.mov (.t 13)) <|
            .nil)) [5, 6, 7, 4, 12, 13]) <|
          .ret)
          (.skip)) [2, 4, 12])) [9, 10, 4, 11, 12, 13, 2]) <|
      .dn (.reg (
        .op (some 14) (.bin .add (.t 7) (.k (.int .i64 1))) <|
        .op (some 7) (.mov (.t 14)) <|
        .nil)) [14]))) [5, 6, 7, 8, 9, 10, 4, 11, 12, 13, 2, 14]) <|
  .seq (.reg (
    .op (some 2) (.mov (.k (.int .i64 0))) <|
    .nil)) <|
  .ret
theorem ok103 : FnOk Tryz.prog 103 15 ir103 [.tmp 2] := FnOk.of Tryz.func103 (by kernel_rfl) (by kernel_rfl) (by kernel_rfl) (by kernel_rfl)
/-- manifold/value.rules$4 -/
def ir104 : Ic :=
  .seq (.dn (.reg (
    .op (some 1) (.box (.t 0)) <|
    .op (some 2) (.mov (.k (.int .i64 0))) <|
    .nil)) [0, 2]) <|
  .seq (.dn (.reg (
    .op (some 4) (.fa (.t 1) 3) <|
    .op (some 5) (.ld none (.t 4)) <|
    .op (some 6) (.slen (.t 5)) <|
    .call (some 7) (.fn 105) [(.t 6), (.k (.int .i64 1024)), (.k (.int .i64 5))] <|
    .op (some 3) (.mov (.t 7)) <|
    .nil)) [4, 5, 6, 7]) <|
  .seq (.seq (.dn (.reg (
    .op (some 8) (.mov (.t 3)) <|
    .op (some 9) (.bin .eql (.t 8) (.k (.int .i64 0))) <|
    .op (some 10) (.mov (.t 9)) <|
    .sc 10 true (
      .op (some 11) (.fa (.t 1) 3) <|
      .op (some 12) (.ld none (.t 11)) <|
      .call (some 13) (.fn 106) [(.t 12)] <|
      .op (some 14) (.not (.t 13)) <|
      .nil) (.t 14) 15 <|
    .nil)) [1, 8, 9, 10, 11, 12, 13, 14]) <|
  .dn (.ite (.t 15) (.dn (.reg (
      .op (some 3) (.mov (.k (.int .i64 16))) <|
      .nil)) [15])
    (.skip)) [15]) <|
  .seq (.dn (.reg (
    .op (some 16) (.mov (.t 3)) <|
    .op (some 2) (.mov (.t 16)) <|
    .nil)) [3, 16]) <|
  .ret
theorem ok104 : FnOk Tryz.prog 104 17 ir104 [.tmp 2] := FnOk.of Tryz.func104 (by kernel_rfl) (by kernel_rfl) (by kernel_rfl) (by kernel_rfl)
/-- manifold/value.size -/
def ir105 : Ic :=
  .seq (.dn (.reg (
    .op (some 6) (.mov (.k (.int .i64 0))) <|
    .nil)) [6]) <|
  .seq (.seq (.dn (.reg (
    .op (some 7) (.mov (.t 0)) <|
    .op (some 8) (.mov (.t 1)) <|
    .op (some 9) (.bin .gtr (.t 7) (.t 8)) <|
    .nil)) [0, 1, 7, 8]) <|
  .dn (.ite (.t 9) (.seq (.dn (.reg (
      .op (some 10) (.mov (.t 2)) <|
      .op (some 6) (.mov (.t 10)) <|
      .nil)) [2, 9, 10]) <|
    .ret)
    (.skip)) [6, 2, 9]) <|
  .seq (.reg (
    .op (some 6) (.mov (.k (.int .i64 0))) <|
    .nil)) <|
  .ret
theorem ok105 : FnOk Tryz.prog 105 11 ir105 [.tmp 6] := FnOk.of Tryz.func105 (by kernel_rfl) (by kernel_rfl) (by kernel_rfl) (by kernel_rfl)
/-- manifold/value.rules$5 -/
def ir107 : Ic :=
  .seq (.dn (.reg (
    .op (some 1) (.box (.t 0)) <|
    .op (some 2) (.mov (.k (.int .i64 0))) <|
    .nil)) [0, 2]) <|
  .seq (.dn (.reg (
    .op (some 3) (.fa (.t 1) 3) <|
    .op (some 4) (.ld none (.t 3)) <|
    .op (some 5) (.slen (.t 4)) <|
    .call (some 6) (.fn 105) [(.t 5), (.k (.int .i64 1024)), (.k (.int .i64 5))] <|
    .op (some 2) (.mov (.t 6)) <|
    .nil)) [1, 3, 4, 5, 6]) <|
  .ret
theorem ok107 : FnOk Tryz.prog 107 7 ir107 [.tmp 2] := FnOk.of Tryz.func107 (by kernel_rfl) (by kernel_rfl) (by kernel_rfl) (by kernel_rfl)
/-- manifold/value.rules$6 -/
def ir108 : Ic :=
  .seq (.dn (.reg (
    .op (some 1) (.box (.t 0)) <|
    .op (some 2) (.mov (.k (.int .i64 0))) <|
    .nil)) [0, 2]) <|
  .seq (.dn (.reg (
    .op (some 3) (.fa (.t 1) 1) <|
    .op (some 4) (.ld none (.t 3)) <|
    .call (some 5) (.fn 100) [(.t 4), (.k (.int .i64 (-719162))), (.k (.int .i64 2932896))] <|
    .op (some 2) (.mov (.t 5)) <|
    .nil)) [1, 3, 4, 5]) <|
  .ret
theorem ok108 : FnOk Tryz.prog 108 6 ir108 [.tmp 2] := FnOk.of Tryz.func108 (by kernel_rfl) (by kernel_rfl) (by kernel_rfl) (by kernel_rfl)
/-- manifold/value.rules$7 -/
def ir109 : Ic :=
  .seq (.dn (.reg (
    .op (some 1) (.box (.t 0)) <|
    .op (some 2) (.mov (.k (.int .i64 0))) <|
    .nil)) [0, 2]) <|
  .seq (.dn (.reg (
    .op (some 3) (.fa (.t 1) 1) <|
    .op (some 4) (.ld none (.t 3)) <|
    .call (some 5) (.fn 100) [(.t 4), (.k (.int .i64 (-62135596800000))), (.k (.int .i64 253402300799999))] <|
    .op (some 2) (.mov (.t 5)) <|
    .nil)) [1, 3, 4, 5]) <|
  .ret
theorem ok109 : FnOk Tryz.prog 109 6 ir109 [.tmp 2] := FnOk.of Tryz.func109 (by kernel_rfl) (by kernel_rfl) (by kernel_rfl) (by kernel_rfl)
/-- manifold/value.rules$8 -/
def ir110 : Ic :=
  .seq (.dn (.reg (
    .op (some 1) (.box (.t 0)) <|
    .op (some 2) (.mov (.k (.int .i64 0))) <|
    .nil)) [0, 2]) <|
  .seq (.dn (.reg (
    .op (some 3) (.fa (.t 1) 4) <|
    .op (some 4) (.ld none (.t 3)) <|
    .op (some 5) (.len (.t 4)) <|
    .call (some 6) (.fn 105) [(.t 5), (.k (.int .i64 256)), (.k (.int .i64 9))] <|
    .op (some 2) (.mov (.t 6)) <|
    .nil)) [1, 3, 4, 5, 6]) <|
  .ret
theorem ok110 : FnOk Tryz.prog 110 7 ir110 [.tmp 2] := FnOk.of Tryz.func110 (by kernel_rfl) (by kernel_rfl) (by kernel_rfl) (by kernel_rfl)
/-- manifold/value.rules$9 -/
def ir111 : Ic :=
  .seq (.dn (.reg (
    .op (some 1) (.box (.t 0)) <|
    .op (some 2) (.mov (.k (.int .i64 0))) <|
    .nil)) [0, 2]) <|
  .seq (.seq (.dn (.reg (
    .op (some 6) (.fa (.t 1) 5) <|
    .op (some 7) (.ld none (.t 6)) <|
    .op (some 8) (.len (.t 7)) <|
    .call (some 9) (.fn 105) [(.t 8), (.k (.int .i64 64)), (.k (.int .i64 9))] <|
    .op (some 3) (.mov (.t 9)) <|
    .nil)) [6, 7, 8, 9]) <|
  .seq (.dn (.reg (
    .op (some 10) (.mov (.t 3)) <|
    .op (some 11) (.bin .neq (.t 10) (.k (.int .i64 0))) <|
    .nil)) [10]) <|
  .dn (.ite (.t 11) (.seq (.dn (.reg (
      .op (some 12) (.mov (.t 3)) <|
      .op (some 2) (.mov (.t 12)) <|
      .nil)) [1, 3, 11, 12]) <|
    .ret)
    (.skip)) [2, 3, 11]) <|
  .seq (.seq (.dn (.reg (
    .op (some 13) (.fa (.t 1) 5) <|
    .op (some 14) (.ld none (.t 13)) <|
    .op (some 15) (.len (.t 14)) <|
    .op (some 16) (.mov (.k (.int .i64 0))) <|
    .nil)) [13]) <|
  .dn (.block 0 (
    .loop (
      .seq (.reg (
        .op (some 17) (.bin .lss (.t 16) (.t 15)) <|
        .nil)) <|
      .seq (.dn (.ite (.t 17) (.skip)
        (.exit 0)) [17]) <|
      .seq (.dn (.block 1 (
        .seq (.dn (.reg (
          .op (some 18) (.mov (.t 16)) <|
          .op (some 19) (.ixa true 7 (.t 14) (.t 16)) <|
          .op (some 20) (.ld (some 7) (.t 19)) <|
          .op (some 5) (.new [(.str []), (.int .i64 0), (.int .i64 0), (.int .i64 0), (.str []), (.nil 6), (.nil 7)]) <|
          .op (some 4) (.mov (.t 18)) <|
          .op none (.sto (some 7) (.t 5) (.t 20)) <|
          .nil)) [18, 19, 20]) <|
        .dn (.block 2 (
          .seq (.dn (.reg (
            .op (some 22) (.fa (.t 5) 0) <|
            .op (some 23) (.ld none (.t 22)) <|
            .call (some 24) (.fn 112) [(.t 23)] <|
            .op (some 25) (.not (.t 24)) <|
            .op (some 21) (.mov (.t 25)) <|
            .nil)) [22, 23, 24, 25]) <|
          .dn (.ite (.t 21) (.seq (.dn (.reg (
              .op (some 2) (.mov (.k (.int .i64 12))) <|
              .nil)) [1, 14, 15, 16, 5, 4, 21]) <|
            .ret)
            (.seq (.dn (.reg (
              .op (some 27) (.mov (.t 4)) <|
              .op (some 28) (.bin .gtr (.t 27) (.k (.int .i64 0))) <|
              .op (some 29) (.mov (.t 28)) <|
              .sc 29 true (
                .op (some 30) (.fa (.t 5) 0) <|
                .op (some 31) (.ld none (.t 30)) <|
                .op (some 32) (.fa (.t 1) 5) <|
                .op (some 33) (.ld none (.t 32)) <|
                .op (some 34) (.mov (.t 4)) <|
                .op (some 35) (.bin .sub (.t 34) (.k (.int .i64 1))) <|
                .op (some 36) (.ixa true 7 (.t 33) (.t 35)) <|
                .op (some 37) (.fa (.t 36) 0) <|
                .op (some 38) (.ld none (.t 37)) <|
                .op (some 39) (.bin .seq (.t 31) (.t 38)) <|
                .nil) (.t 39) 40 <|
              .op (some 26) (.mov (.t 40)) <|
              .nil)) [21, 27, 28, 29, 30, 31, 32, 33, 34, 35, 36, 37, 38, 39, 40]) <|
            .dn (.ite (.t 26) (.seq (.dn (.reg (
                .op (some 2) (.mov (.k (.int .i64 7))) <|
                .nil)) [1, 14, 15, 16, 5, 4, 26]) <|
              .ret)
              (.seq (.dn (.reg (
                .op (some 42) (.mov (.t 4)) <|
                .op (some 43) (.bin .gtr (.t 42) (.k (.int .i64 0))) <|
                .op (some 44) (.mov (.t 43)) <|
                .sc 44 true (
                  .op (some 45) (.fa (.t 5) 0) <|
                  .op (some 46) (.ld none (.t 45)) <|
                  .op (some 47) (.fa (.t 1) 5) <|
                  .op (some 48) (.ld none (.t 47)) <|
                  .op (some 49) (.mov (.t 4)) <|
                  .op (some 50) (.bin .sub (.t 49) (.k (.int .i64 1))) <|
                  .op (some 51) (.ixa true 7 (.t 48) (.t 50)) <|
                  .op (some 52) (.fa (.t 51) 0) <|
                  .op (some 53) (.ld none (.t 52)) <|
                  .op (some 54) (.bin .slt (.t 46) (.t 53)) <|
                  .nil) (.t 54) 55 <|
                .op (some 41) (.mov (.t 55)) <|
                .nil)) [5, 4, 26, 42, 43, 44, 45, 46, 47, 48, 49, 50, 51, 52, 53, 54, 55]) <|
              .dn (.ite (.t 41) (.seq (.dn (.reg (
                  .op (some 2) (.mov (.k (.int .i64 24))) <|
                  .nil)) [1, 14, 15, 16, 41]) <|
                .ret)
                (.skip)) [2, 41])) [2])) [2])) [5, 4, 22, 23, 24, 25, 21, 2, 27, 28, 29, 30, 31, 32, 33, 34, 35, 36, 37, 38, 39, 40, 26, 42, 43, 44, 45, 46, 47, 48, 49, 50, 51, 52, 53, 54, 55, 41])) [18, 19, 20, 5, 4, 22, 23, 24, 25, 21, 2, 27, 28, 29, 30, 31, 32, 33, 34, 35, 36, 37, 38, 39, 40, 26, 42, 43, 44, 45, 46, 47, 48, 49, 50, 51, 52, 53, 54, 55, 41]) <|
      .dn (.reg (
        .op (some 56) (.bin .add (.t 16) (.k (.int .i64 1))) <|
        .op (some 16) (.mov (.t 56)) <|
        .nil)) [56]))) [1, 14, 15, 16, 17, 18, 19, 20, 5, 4, 22, 23, 24, 25, 21, 2, 27, 28, 29, 30, 31, 32, 33, 34, 35, 36, 37, 38, 39, 40, 26, 42, 43, 44, 45, 46, 47, 48, 49, 50, 51, 52, 53, 54, 55, 41, 56]) <|
  .seq (.reg (
    .op (some 2) (.mov (.k (.int .i64 0))) <|
    .nil)) <|
  .ret
theorem ok111 : FnOk Tryz.prog 111 57 ir111 [.tmp 2] := FnOk.of Tryz.func111 (by kernel_rfl) (by kernel_rfl) (by kernel_rfl) (by kernel_rfl)
/-- manifold/value.rules$10 -/
def ir113 : Ic :=
  .seq (.dn (.reg (
    .op (some 1) (.box (.t 0)) <|
    .op (some 2) (.mov (.k (.int .i64 0))) <|
    .nil)) [0, 2]) <|
  .seq (.dn (.block 0 (
    .seq (.dn (.reg (
      .op (some 4) (.fa (.t 1) 3) <|
      .op (some 5) (.ld none (.t 4)) <|
      .call (some 6) (.fn 112) [(.t 5)] <|
      .op (some 7) (.not (.t 6)) <|
      .op (some 3) (.mov (.t 7)) <|
      .nil)) [4, 5, 6, 7]) <|
    .dn (.ite (.t 3) (.seq (.dn (.reg (
        .op (some 2) (.mov (.k (.int .i64 12))) <|
        .nil)) [1, 3]) <|
      .ret)
      (.seq (.dn (.reg (
        .op (some 9) (.fa (.t 1) 4) <|
        .op (some 10) (.ld none (.t 9)) <|
        .op (some 11) (.len (.t 10)) <|
        .op (some 12) (.bin .eql (.t 11) (.k (.int .i64 0))) <|
        .op (some 8) (.mov (.t 12)) <|
        .nil)) [3, 9, 10, 11, 12]) <|
      .dn (.ite (.t 8) (.seq (.dn (.reg (
          .op (some 2) (.mov (.k (.int .i64 4))) <|
          .nil)) [1, 8]) <|
        .ret)
        (.skip)) [2, 8])) [2])) [4, 5, 6, 7, 3, 2, 9, 10, 11, 12, 8]) <|
  .seq (.dn (.reg (
    .op (some 13) (.fa (.t 1) 4) <|
    .op (some 14) (.ld none (.t 13)) <|
    .op (some 15) (.len (.t 14)) <|
    .call (some 16) (.fn 105) [(.t 15), (.k (.int .i64 1)), (.k (.int .i64 3))] <|
    .op (some 2) (.mov (.t 16)) <|
    .nil)) [1, 13, 14, 15, 16]) <|
  .ret
theorem ok113 : FnOk Tryz.prog 113 17 ir113 [.tmp 2] := FnOk.of Tryz.func113 (by kernel_rfl) (by kernel_rfl) (by kernel_rfl) (by kernel_rfl)
/-- manifold/value.preorder$1 -/
def ir114 : Ic :=
  .dn (.reg (
    .op (some 3) (.ld (some 6) (.t 1)) <|
    .op (some 4) (.mov (.t 0)) <|
    .call (some 5) (.fn 115) [(.t 3), (.k (.int .i64 1)), (.t 4)] <|
    .nil)) [0, 3, 4, 5]
theorem ok114 : FnOk Tryz.prog 114 6 ir114 [] := FnOk.of Tryz.func114 (by kernel_rfl) (by kernel_rfl) (by kernel_rfl) (by kernel_rfl)
/-- manifold/value.visit -/
def ir115 : Ic :=
  .seq (.dn (.reg (
    .op (some 3) (.box (.t 0)) <|
    .op (some 6) (.mov (.k (.bool false))) <|
    .nil)) [0, 6]) <|
  .seq (.seq (.dn (.reg (
    .op (some 9) (.mov (.t 2)) <|
    .op (some 10) (.mov (.t 1)) <|
    .op (some 11) (.ld (some 6) (.t 3)) <|
    .call (some 12) (.dyn (.t 9)) [(.t 10), (.t 11)] <|
    .op (some 13) (.not (.t 12)) <|
    .nil)) [9, 10, 11, 12]) <|
  .dn (.ite (.t 13) (.seq (.dn (.reg (
      .op (some 6) (.mov (.k (.bool false))) <|
      .nil)) [1, 2, 3, 13]) <|
    .ret)
    (.skip)) [6, 13]) <|
  .seq (.seq (.dn (.reg (
    .op (some 14) (.ld (some 6) (.t 3)) <|
    .call (some 15) (.fn 167) [(.t 14)] <|
    .op (some 16) (.len (.t 15)) <|
    .op (some 17) (.mov (.k (.int .i64 0))) <|
    .nil)) [3, 14]) <|
  .dn (.block 0 (
    .loop (
      .seq (.reg (
        .op (some 18) (.bin .lss (.t 17) (.t 16)) <|
        .nil)) <|
      .seq (.dn (.ite (.t 18) (.skip)
        (.exit 0)) [18]) <|
      .seq (.dn (.block 1 (
        .seq (.dn (.reg (
          .op (some 19) (.ixa true 6 (.t 15) (.t 17)) <|
          .op (some 20) (.ld (some 6) (.t 19)) <|
          .op (some 8) (.new [(.int .i64 0), (.int .i64 0), (.int .i64 0), (.str []), (.nil 6), (.nil 7)]) <|
          .op none (.sto (some 6) (.t 8) (.t 20)) <|
          .nil)) [19, 20]) <|
        .seq (.dn (.reg (
          .op (some 21) (.ld (some 6) (.t 8)) <|
          .op (some 22) (.mov (.t 1)) <|
          .op (some 23) (.bin .add (.t 22) (.k (.int .i64 1))) <|
          .op (some 24) (.mov (.t 2)) <|
          .call (some 25) (.fn 115) [(.t 21), (.t 23), (.t 24)] <|
          .op (some 26) (.not (.t 25)) <|
          .nil)) [8, 21, 22, 23, 24, 25]) <|
        .dn (.ite (.t 26) (.seq (.dn (.reg (
            .op (some 6) (.mov (.k (.bool false))) <|
            .nil)) [1, 2, 15, 16, 17, 26]) <|
          .ret)
          (.skip)) [6, 26])) [19, 20, 8, 21, 22, 23, 24, 25, 26, 6]) <|
      .dn (.reg (
        .op (some 27) (.bin .add (.t 17) (.k (.int .i64 1))) <|
        .op (some 17) (.mov (.t 27)) <|
        .nil)) [27]))) [1, 2, 15, 16, 17, 18, 19, 20, 8, 21, 22, 23, 24, 25, 26, 6, 27]) <|
  .seq (.reg (
    .op (some 6) (.mov (.k (.bool true))) <|
    .nil)) <|
  .ret
theorem ok115 : FnOk Tryz.prog 115 28 ir115 [.tmp 6] := FnOk.of Tryz.func115 (by kernel_rfl) (by kernel_rfl) (by kernel_rfl) (by kernel_rfl)
/-- manifold/expr.Check$1 -/
def ir119 : Ic :=
  .seq (.dn (.reg (
    .op (some 4) (.box (.t 0)) <|
    .op (some 6) (.mov (.k (.int .i64 0))) <|
    .nil)) [0, 6]) <|
  .seq (.seq (.dn (.reg (
    .op (some 11) (.ld none (.t 2)) <|
    .op (some 12) (.bin .eql (.t 11) (.k (.int .i64 256))) <|
    .nil)) [11]) <|
  .dn (.ite (.t 12) (.seq (.dn (.reg (
      .op (some 6) (.mov (.k (.int .i64 9))) <|
      .nil)) [1, 4, 12]) <|
    .ret)
    (.skip)) [6, 12]) <|
  .seq (.dn (.reg (
    .op (some 13) (.ld none (.t 2)) <|
    .op (some 14) (.bin .add (.t 13) (.k (.int .i64 1))) <|
    .op none (.sto none (.t 2) (.t 14)) <|
    .nil)) [13, 14]) <|
  .seq (.seq (.dn (.reg (
    .op (some 15) (.mov (.t 1)) <|
    .op (some 16) (.bin .gtr (.t 15) (.k (.int .i64 8))) <|
    .nil)) [15]) <|
  .dn (.ite (.t 16) (.seq (.dn (.reg (
      .op (some 6) (.mov (.k (.int .i64 23))) <|
      .nil)) [1, 4, 16]) <|
    .ret)
    (.skip)) [6, 16]) <|
  .seq (.seq (.dn (.reg (
    .op (some 17) (.ld (some 5) (.t 4)) <|
    .call (some 18) (.fn 120) [(.t 17)] <|
    .op (some 7) (.mov (.t 18)) <|
    .nil)) [17, 18]) <|
  .seq (.dn (.reg (
    .op (some 19) (.mov (.t 7)) <|
    .op (some 20) (.bin .neq (.t 19) (.k (.int .i64 0))) <|
    .nil)) [19]) <|
  .dn (.ite (.t 20) (.seq (.dn (.reg (
      .op (some 21) (.mov (.t 7)) <|
      .op (some 6) (.mov (.t 21)) <|
      .nil)) [1, 4, 7, 20, 21]) <|
    .ret)
    (.skip)) [6, 7, 20]) <|
  .seq (.seq (.dn (.reg (
    .op (some 22) (.fa (.t 4) 4) <|
    .op (some 23) (.ld none (.t 22)) <|
    .op (some 24) (.len (.t 23)) <|
    .op (some 25) (.mov (.k (.int .i64 0))) <|
    .nil)) [4, 22]) <|
  .dn (.block 0 (
    .loop (
      .seq (.reg (
        .op (some 26) (.bin .lss (.t 25) (.t 24)) <|
        .nil)) <|
      .seq (.dn (.ite (.t 26) (.skip)
        (.exit 0)) [26]) <|
      .seq (.dn (.block 1 (
        .seq (.dn (.reg (
          .op (some 27) (.ixa true 5 (.t 23) (.t 25)) <|
          .op (some 28) (.ld (some 5) (.t 27)) <|
          .op (some 9) (.new [(.int .i64 0), (.int .i64 0), (.str []), (.nil 6), (.nil 5)]) <|
          .op none (.sto (some 5) (.t 9) (.t 28)) <|
          .nil)) [27, 28]) <|
        .seq (.dn (.reg (
          .op (some 29) (.ld none (.t 3)) <|
          .op (some 30) (.ld (some 5) (.t 9)) <|
          .op (some 31) (.mov (.t 1)) <|
          .op (some 32) (.bin .add (.t 31) (.k (.int .i64 1))) <|
          .call (some 33) (.dyn (.t 29)) [(.t 30), (.t 32)] <|
          .op (some 10) (.mov (.t 33)) <|
          .nil)) [9, 29, 30, 31, 32, 33]) <|
        .seq (.dn (.reg (
          .op (some 34) (.mov (.t 10)) <|
          .op (some 35) (.bin .neq (.t 34) (.k (.int .i64 0))) <|
          .nil)) [34]) <|
        .dn (.ite (.t 35) (.seq (.dn (.reg (
            .op (some 36) (.mov (.t 10)) <|
            .op (some 6) (.mov (.t 36)) <|
            .nil)) [1, 23, 24, 25, 10, 35, 36]) <|
          .ret)
          (.skip)) [6, 10, 35])) [27, 28, 9, 29, 30, 31, 32, 33, 10, 34, 35, 36, 6]) <|
      .dn (.reg (
        .op (some 37) (.bin .add (.t 25) (.k (.int .i64 1))) <|
        .op (some 25) (.mov (.t 37)) <|
        .nil)) [37]))) [1, 23, 24, 25, 26, 27, 28, 9, 29, 30, 31, 32, 33, 10, 34, 35, 36, 6, 37]) <|
  .seq (.reg (
    .op (some 6) (.mov (.k (.int .i64 0))) <|
    .nil)) <|
  .ret
theorem ok119 : FnOk Tryz.prog 119 38 ir119 [.tmp 6] := FnOk.of Tryz.func119 (by kernel_rfl) (by kernel_rfl) (by kernel_rfl) (by kernel_rfl)
/-- manifold/expr.checkOne -/
def ir120 : Ic :=
  .seq (.dn (.reg (
    .op (some 1) (.box (.t 0)) <|
    .op (some 2) (.mov (.k (.int .i64 0))) <|
    .nil)) [0, 2]) <|
  .seq (.seq (.dn (.reg (
    .op (some 8) (.fa (.t 1) 0) <|
    .op (some 9) (.ld none (.t 8)) <|
    .op (some 10) (.bin .lss (.t 9) (.k (.int .i64 1))) <|
    .op (some 11) (.mov (.t 10)) <|
    .sc 11 false (
      .op (some 12) (.fa (.t 1) 0) <|
      .op (some 13) (.ld none (.t 12)) <|
      .op (some 14) (.bin .gtr (.t 13) (.k (.int .i64 28))) <|
      .nil) (.t 14) 15 <|
    .nil)) [8, 9, 10, 11, 12, 13, 14]) <|
  .dn (.ite (.t 15) (.seq (.dn (.reg (
      .op (some 2) (.mov (.k (.int .i64 11))) <|
      .nil)) [1, 15]) <|
    .ret)
    (.skip)) [2, 15]) <|
  .seq (.dn (.reg (
    .op (some 17) (.fa (.t 1) 0) <|
    .op (some 18) (.ld none (.t 17)) <|
    .call (some 19) (.fn 168) [(.t 18)] <|
    .op (some 16) (.mov (.t 19)) <|
    .op (some 20) (.ext (.t 16) 0) <|
    .op (some 21) (.ext (.t 16) 1) <|
    .op (some 3) (.mov (.t 20)) <|
    .op (some 4) (.mov (.t 21)) <|
    .nil)) [17, 18, 19, 16, 20, 21]) <|
  .seq (.dn (.block 0 (
    .seq (.dn (.reg (
      .op (some 23) (.fa (.t 1) 0) <|
      .op (some 24) (.ld none (.t 23)) <|
      .op (some 25) (.bin .neq (.t 24) (.k (.int .i64 1))) <|
      .op (some 26) (.mov (.t 25)) <|
      .sc 26 true (
        .op (some 27) (.fa (.t 1) 3) <|
        .op (some 28) (.ld none (.t 27)) <|
        .op (some 29) (.len (.t 28)) <|
        .op (some 30) (.bin .gtr (.t 29) (.k (.int .i64 0))) <|
        .nil) (.t 30) 31 <|
      .op (some 32) (.mov (.t 31)) <|
      .sc 32 false (
        .op (some 33) (.fa (.t 1) 0) <|
        .op (some 34) (.ld none (.t 33)) <|
        .call (some 35) (.fn 67) [(.t 34)] <|
        .op (some 36) (.not (.t 35)) <|
        .op (some 37) (.mov (.t 36)) <|
        .sc 37 true (
          .op (some 38) (.fa (.t 1) 2) <|
          .op (some 39) (.ld none (.t 38)) <|
          .op (some 40) (.bin .sne (.t 39) (.k (.str []))) <|
          .nil) (.t 40) 41 <|
        .nil) (.t 41) 42 <|
      .op (some 43) (.mov (.t 42)) <|
      .sc 43 false (
        .op (some 44) (.fa (.t 1) 0) <|
        .op (some 45) (.ld none (.t 44)) <|
        .call (some 46) (.fn 169) [(.t 45)] <|
        .op (some 47) (.not (.t 46)) <|
        .op (some 48) (.mov (.t 47)) <|
        .sc 48 true (
          .op (some 49) (.fa (.t 1) 1) <|
          .op (some 50) (.ld none (.t 49)) <|
          .op (some 51) (.bin .neq (.t 50) (.k (.int .i64 0))) <|
          .nil) (.t 51) 52 <|
        .nil) (.t 52) 53 <|
      .op (some 22) (.mov (.t 53)) <|
      .nil)) [23, 24, 25, 26, 27, 28, 29, 30, 31, 32, 33, 34, 35, 36, 37, 38, 39, 40, 41, 42, 43, 44, 45, 46, 47, 48, 49, 50, 51, 52, 53]) <|
    .dn (.ite (.t 22) (.seq (.dn (.reg (
        .op (some 2) (.mov (.k (.int .i64 3))) <|
        .nil)) [1, 3, 4, 22]) <|
      .ret)
      (.seq (.dn (.reg (
        .op (some 55) (.mov (.t 4)) <|
        .op (some 56) (.bin .eql (.t 55) (.k (.int .i64 0))) <|
        .op (some 57) (.mov (.t 56)) <|
        .sc 57 true (
          .op (some 58) (.fa (.t 1) 4) <|
          .op (some 59) (.ld none (.t 58)) <|
          .op (some 60) (.len (.t 59)) <|
          .op (some 61) (.bin .gtr (.t 60) (.k (.int .i64 0))) <|
          .nil) (.t 61) 62 <|
        .op (some 54) (.mov (.t 62)) <|
        .nil)) [22, 55, 56, 57, 58, 59, 60, 61, 62]) <|
      .dn (.ite (.t 54) (.seq (.dn (.reg (
          .op (some 2) (.mov (.k (.int .i64 3))) <|
          .nil)) [1, 3, 4, 54]) <|
        .ret)
        (.seq (.dn (.reg (
          .op (some 64) (.fa (.t 1) 4) <|
          .op (some 65) (.ld none (.t 64)) <|
          .op (some 66) (.len (.t 65)) <|
          .op (some 67) (.mov (.t 3)) <|
          .op (some 68) (.bin .lss (.t 66) (.t 67)) <|
          .op (some 63) (.mov (.t 68)) <|
          .nil)) [3, 54, 64, 65, 66, 67, 68]) <|
        .dn (.ite (.t 63) (.seq (.dn (.reg (
            .op (some 2) (.mov (.k (.int .i64 4))) <|
            .nil)) [1, 4, 63]) <|
          .ret)
          (.seq (.dn (.reg (
            .op (some 70) (.fa (.t 1) 4) <|
            .op (some 71) (.ld none (.t 70)) <|
            .op (some 72) (.len (.t 71)) <|
            .op (some 73) (.mov (.t 4)) <|
            .op (some 74) (.bin .gtr (.t 72) (.t 73)) <|
            .op (some 75) (.mov (.t 74)) <|
            .sc 75 true (
              .op (some 76) (.fa (.t 1) 0) <|
              .op (some 77) (.ld none (.t 76)) <|
              .op (some 78) (.bin .neq (.t 77) (.k (.int .i64 25))) <|
              .nil) (.t 78) 79 <|
            .op (some 69) (.mov (.t 79)) <|
            .nil)) [4, 63, 70, 71, 72, 73, 74, 75, 76, 77, 78, 79]) <|
          .dn (.ite (.t 69) (.seq (.dn (.reg (
              .op (some 2) (.mov (.k (.int .i64 3))) <|
              .nil)) [1, 69]) <|
            .ret)
            (.seq (.dn (.reg (
              .op (some 81) (.fa (.t 1) 0) <|
              .op (some 82) (.ld none (.t 81)) <|
              .op (some 83) (.bin .eql (.t 82) (.k (.int .i64 1))) <|
              .op (some 80) (.mov (.t 83)) <|
              .nil)) [69, 81, 82, 83]) <|
            .dn (.ite (.t 80) (.seq (.dn (.reg (
                .op (some 84) (.fa (.t 1) 3) <|
                .op (some 85) (.ld none (.t 84)) <|
                .call (some 86) (.fn 170) [(.t 85)] <|
                .op (some 2) (.mov (.t 86)) <|
                .nil)) [1, 80, 84, 85, 86]) <|
              .ret)
              (.seq (.dn (.reg (
                .op (some 88) (.fa (.t 1) 0) <|
                .op (some 89) (.ld none (.t 88)) <|
                .call (some 90) (.fn 67) [(.t 89)] <|
                .op (some 87) (.mov (.t 90)) <|
                .nil)) [80, 88, 89, 90]) <|
              .dn (.ite (.t 87) (.seq (.dn (.reg (
                  .op (some 92) (.fa (.t 1) 2) <|
                  .op (some 93) (.ld none (.t 92)) <|
                  .call (some 94) (.fn 80) [(.t 93)] <|
                  .op (some 91) (.mov (.t 94)) <|
                  .op (some 95) (.ext (.t 91) 0) <|
                  .op (some 96) (.ext (.t 91) 1) <|
                  .op (some 5) (.mov (.t 95)) <|
                  .op (some 6) (.mov (.t 96)) <|
                  .nil)) [87, 92, 93, 94, 91, 95, 96]) <|
                .seq (.seq (.dn (.reg (
                  .op (some 97) (.mov (.t 6)) <|
                  .op (some 98) (.bin .neq (.t 97) (.k (.int .i64 0))) <|
                  .nil)) [97]) <|
                .dn (.ite (.t 98) (.seq (.dn (.reg (
                    .op (some 99) (.mov (.t 6)) <|
                    .op (some 2) (.mov (.t 99)) <|
                    .nil)) [1, 5, 6, 98, 99]) <|
                  .ret)
                  (.skip)) [2, 6, 98]) <|
                .seq (.dn (.reg (
                  .op (some 100) (.mov (.t 5)) <|
                  .call (some 101) (.fn 81) [(.t 100), (.k (.fn (.func 171) [] []))] <|
                  .op (some 7) (.mov (.t 101)) <|
                  .nil)) [5, 100, 101]) <|
                .seq (.dn (.reg (
                  .op (some 102) (.mov (.t 7)) <|
                  .op (some 103) (.fa (.t 1) 0) <|
                  .op (some 104) (.ld none (.t 103)) <|
                  .op (some 105) (.bin .eql (.t 104) (.k (.int .i64 26))) <|
                  .op (some 106) (.bin .bne (.t 102) (.t 105)) <|
                  .nil)) [7, 102, 103, 104, 105]) <|
                .dn (.ite (.t 106) (.seq (.dn (.reg (
                    .op (some 2) (.mov (.k (.int .i64 22))) <|
                    .nil)) [1, 106]) <|
                  .ret)
                  (.skip)) [2, 106])
                (.skip)) [87])) [2])) [2])) [2])) [2])) [2])) [3, 4, 23, 24, 25, 26, 27, 28, 29, 30, 31, 32, 33, 34, 35, 36, 37, 38, 39, 40, 41, 42, 43, 44, 45, 46, 47, 48, 49, 50, 51, 52, 53, 22, 2, 55, 56, 57, 58, 59, 60, 61, 62, 54, 64, 65, 66, 67, 68, 63, 70, 71, 72, 73, 74, 75, 76, 77, 78, 79, 69, 81, 82, 83, 80, 84, 85, 86, 88, 89, 90, 87, 92, 93, 94, 91, 95, 96, 5, 6, 97, 98, 99, 100, 101, 7, 102, 103, 104, 105, 106]) <|
  .seq (.seq (.dn (.reg (
    .op (some 107) (.fa (.t 1) 0) <|
    .op (some 108) (.ld none (.t 107)) <|
    .call (some 109) (.fn 169) [(.t 108)] <|
    .op (some 110) (.mov (.t 109)) <|
    .sc 110 true (
      .op (some 111) (.fa (.t 1) 1) <|
      .op (some 112) (.ld none (.t 111)) <|
      .op (some 113) (.bin .lss (.t 112) (.k (.int .i64 0))) <|
      .op (some 114) (.mov (.t 113)) <|
      .sc 114 false (
        .op (some 115) (.fa (.t 1) 1) <|
        .op (some 116) (.ld none (.t 115)) <|
        .op (some 117) (.bin .gtr (.t 116) (.k (.int .i64 12))) <|
        .nil) (.t 117) 118 <|
      .nil) (.t 118) 119 <|
    .nil)) [1, 107, 108, 109, 110, 111, 112, 113, 114, 115, 116, 117, 118]) <|
  .dn (.ite (.t 119) (.seq (.dn (.reg (
      .op (some 2) (.mov (.k (.int .i64 2))) <|
      .nil)) [119]) <|
    .ret)
    (.skip)) [2, 119]) <|
  .seq (.reg (
    .op (some 2) (.mov (.k (.int .i64 0))) <|
    .nil)) <|
  .ret
theorem ok120 : FnOk Tryz.prog 120 120 ir120 [.tmp 2] := FnOk.of Tryz.func120 (by kernel_rfl) (by kernel_rfl) (by kernel_rfl) (by kernel_rfl)
/-- manifold/value.parts -/
def ir167 : Ic :=
  .seq (.dn (.reg (
    .op (some 1) (.box (.t 0)) <|
    .op (some 2) (.mov (.k (.nil 6))) <|
    .nil)) [0, 2]) <|
  .seq (.seq (.dn (.reg (
    .op (some 6) (.fa (.t 1) 0) <|
    .op (some 7) (.ld none (.t 6)) <|
    .nil)) [6]) <|
  .dn (.block 0 (
    .seq (.seq (.dn (.reg (
      .op (some 9) (.bin .eql (.t 7) (.k (.int .i64 8))) <|
      .op (some 8) (.mov (.t 9)) <|
      .nil)) [9]) <|
    .ite (.t 8) (.skip)
      (.dn (.reg (
        .op (some 10) (.bin .eql (.t 7) (.k (.int .i64 10))) <|
        .op (some 8) (.mov (.t 10)) <|
        .nil)) [10])) <|
    .dn (.ite (.t 8) (.seq (.dn (.reg (
        .op (some 11) (.fa (.t 1) 4) <|
        .op (some 12) (.ld none (.t 11)) <|
        .op (some 2) (.mov (.t 12)) <|
        .nil)) [1, 7, 8, 11, 12]) <|
      .ret)
      (.seq (.dn (.reg (
        .op (some 14) (.bin .eql (.t 7) (.k (.int .i64 9))) <|
        .op (some 13) (.mov (.t 14)) <|
        .nil)) [7, 8, 14]) <|
      .dn (.ite (.t 13) (.seq (.dn (.reg (
          .op (some 3) (.mov (.k (.nil 6))) <|
          .nil)) [13]) <|
        .seq (.seq (.dn (.reg (
          .op (some 15) (.fa (.t 1) 5) <|
          .op (some 16) (.ld none (.t 15)) <|
          .op (some 17) (.len (.t 16)) <|
          .op (some 18) (.mov (.k (.int .i64 0))) <|
          .nil)) [1, 15]) <|
        .dn (.block 1 (
          .loop (
            .seq (.reg (
              .op (some 19) (.bin .lss (.t 18) (.t 17)) <|
              .nil)) <|
            .seq (.dn (.ite (.t 19) (.skip)
              (.exit 1)) [19]) <|
            .seq (.dn (.block 2 (
              .seq (.dn (.reg (
                .op (some 20) (.ixa true 7 (.t 16) (.t 18)) <|
                .op (some 21) (.ld (some 7) (.t 20)) <|
                .op (some 5) (.new [(.str []), (.int .i64 0), (.int .i64 0), (.int .i64 0), (.str []), (.nil 6), (.nil 7)]) <|
                .op none (.sto (some 7) (.t 5) (.t 21)) <|
                .nil)) [20, 21]) <|
              .dn (.reg (
                .op (some 22) (.mov (.t 3)) <|
                .op (some 23) (.fa (.t 5) 1) <|
                .op (some 24) (.ld (some 6) (.t 23)) <|
                .op (some 25) (.bls 6 [(.t 24)]) <|
                .op (some 26) (.app 6 (.t 22) (.t 25)) <|
                .op (some 3) (.mov (.t 26)) <|
                .nil)) [5, 22, 23, 24, 25, 26])) [20, 21, 5, 22, 23, 24, 25, 26]) <|
            .dn (.reg (
              .op (some 27) (.bin .add (.t 18) (.k (.int .i64 1))) <|
              .op (some 18) (.mov (.t 27)) <|
              .nil)) [27]))) [16, 17, 18, 19, 20, 21, 5, 22, 23, 24, 25, 26, 27]) <|
        .seq (.dn (.reg (
          .op (some 28) (.mov (.t 3)) <|
          .op (some 2) (.mov (.t 28)) <|
          .nil)) [3, 28]) <|
        .ret)
        (.skip)) [2, 1, 13])) [2])) [1, 7, 9, 8, 10, 11, 12, 2, 14, 13, 3, 15, 16, 17, 18, 19, 20, 21, 5, 22, 23, 24, 25, 26, 27, 28]) <|
  .seq (.reg (
    .op (some 2) (.mov (.k (.nil 6))) <|
    .nil)) <|
  .ret
theorem ok167 : FnOk Tryz.prog 167 29 ir167 [.tmp 2] := FnOk.of Tryz.func167 (by kernel_rfl) (by kernel_rfl) (by kernel_rfl) (by kernel_rfl)
/-- manifold/expr.arity -/
def ir168 : Ic :=
  .seq (.dn (.reg (
    .op (some 2) (.mov (.k (.int .i64 0))) <|
    .op (some 3) (.mov (.k (.int .i64 0))) <|
    .nil)) [2, 3]) <|
  .seq (.seq (.dn (.reg (
    .op (some 4) (.mov (.t 0)) <|
    .nil)) [0]) <|
  .dn (.block 0 (
    .seq (.seq (.dn (.reg (
      .op (some 6) (.bin .eql (.t 4) (.k (.int .i64 1))) <|
      .op (some 5) (.mov (.t 6)) <|
      .nil)) [6]) <|
    .ite (.t 5) (.skip)
      (.seq (.dn (.reg (
        .op (some 7) (.bin .eql (.t 4) (.k (.int .i64 2))) <|
        .op (some 5) (.mov (.t 7)) <|
        .nil)) [7]) <|
      .ite (.t 5) (.skip)
        (.seq (.dn (.reg (
          .op (some 8) (.bin .eql (.t 4) (.k (.int .i64 22))) <|
          .op (some 5) (.mov (.t 8)) <|
          .nil)) [8]) <|
        .ite (.t 5) (.skip)
          (.dn (.reg (
            .op (some 9) (.bin .eql (.t 4) (.k (.int .i64 26))) <|
            .op (some 5) (.mov (.t 9)) <|
            .nil)) [9])))) <|
    .dn (.ite (.t 5) (.seq (.dn (.reg (
        .op (some 2) (.mov (.k (.int .i64 0))) <|
        .op (some 3) (.mov (.k (.int .i64 0))) <|
        .nil)) [4, 5]) <|
      .ret)
      (.seq (.seq (.dn (.reg (
        .op (some 11) (.bin .eql (.t 4) (.k (.int .i64 3))) <|
        .op (some 10) (.mov (.t 11)) <|
        .nil)) [5, 11]) <|
      .ite (.t 10) (.skip)
        (.seq (.dn (.reg (
          .op (some 12) (.bin .eql (.t 4) (.k (.int .i64 16))) <|
          .op (some 10) (.mov (.t 12)) <|
          .nil)) [12]) <|
        .ite (.t 10) (.skip)
          (.seq (.dn (.reg (
            .op (some 13) (.bin .eql (.t 4) (.k (.int .i64 18))) <|
            .op (some 10) (.mov (.t 13)) <|
            .nil)) [13]) <|
          .ite (.t 10) (.skip)
            (.seq (.dn (.reg (
              .op (some 14) (.bin .eql (.t 4) (.k (.int .i64 19))) <|
              .op (some 10) (.mov (.t 14)) <|
              .nil)) [14]) <|
            .ite (.t 10) (.skip)
              (.seq (.dn (.reg (
                .op (some 15) (.bin .eql (.t 4) (.k (.int .i64 20))) <|
                .op (some 10) (.mov (.t 15)) <|
                .nil)) [15]) <|
              .ite (.t 10) (.skip)
                (.seq (.dn (.reg (
                  .op (some 16) (.bin .eql (.t 4) (.k (.int .i64 27))) <|
                  .op (some 10) (.mov (.t 16)) <|
                  .nil)) [16]) <|
                .ite (.t 10) (.skip)
                  (.dn (.reg (
                    .op (some 17) (.bin .eql (.t 4) (.k (.int .i64 28))) <|
                    .op (some 10) (.mov (.t 17)) <|
                    .nil)) [17]))))))) <|
      .dn (.ite (.t 10) (.seq (.dn (.reg (
          .op (some 2) (.mov (.k (.int .i64 1))) <|
          .op (some 3) (.mov (.k (.int .i64 1))) <|
          .nil)) [4, 10]) <|
        .ret)
        (.seq (.seq (.dn (.reg (
          .op (some 19) (.bin .eql (.t 4) (.k (.int .i64 21))) <|
          .op (some 18) (.mov (.t 19)) <|
          .nil)) [10, 19]) <|
        .ite (.t 18) (.skip)
          (.dn (.reg (
            .op (some 20) (.bin .eql (.t 4) (.k (.int .i64 24))) <|
            .op (some 18) (.mov (.t 20)) <|
            .nil)) [20])) <|
        .dn (.ite (.t 18) (.seq (.dn (.reg (
            .op (some 2) (.mov (.k (.int .i64 3))) <|
            .op (some 3) (.mov (.k (.int .i64 3))) <|
            .nil)) [4, 18]) <|
          .ret)
          (.seq (.dn (.reg (
            .op (some 22) (.bin .eql (.t 4) (.k (.int .i64 25))) <|
            .op (some 21) (.mov (.t 22)) <|
            .nil)) [4, 18, 22]) <|
          .dn (.ite (.t 21) (.seq (.dn (.reg (
              .op (some 2) (.mov (.k (.int .i64 2))) <|
              .op (some 3) (.mov (.k (.int .i64 256))) <|
              .nil)) [21]) <|
            .ret)
            (.skip)) [2, 3, 21])) [2, 3])) [2, 3])) [2, 3])) [4, 6, 5, 7, 8, 9, 2, 3, 11, 10, 12, 13, 14, 15, 16, 17, 19, 18, 20, 22, 21]) <|
  .seq (.reg (
    .op (some 2) (.mov (.k (.int .i64 2))) <|
    .op (some 3) (.mov (.k (.int .i64 2))) <|
    .nil)) <|
  .ret
theorem ok168 : FnOk Tryz.prog 168 23 ir168 [.tmp 2, .tmp 3] := FnOk.of Tryz.func168 (by kernel_rfl) (by kernel_rfl) (by kernel_rfl) (by kernel_rfl)
/-- manifold/expr.scaled -/
def ir169 : Ic :=
  .seq (.dn (.reg (
    .op (some 2) (.mov (.k (.bool false))) <|
    .nil)) [2]) <|
  .seq (.dn (.reg (
    .op (some 3) (.mov (.t 0)) <|
    .op (some 4) (.bin .eql (.t 3) (.k (.int .i64 15))) <|
    .op (some 5) (.mov (.t 4)) <|
    .sc 5 false (
      .op (some 6) (.mov (.t 0)) <|
      .op (some 7) (.bin .eql (.t 6) (.k (.int .i64 26))) <|
      .nil) (.t 7) 8 <|
    .op (some 2) (.mov (.t 8)) <|
    .nil)) [0, 3, 4, 5, 6, 7, 8]) <|
  .ret
theorem ok169 : FnOk Tryz.prog 169 9 ir169 [.tmp 2] := FnOk.of Tryz.func169 (by kernel_rfl) (by kernel_rfl) (by kernel_rfl) (by kernel_rfl)
/-- manifold/expr.checkValue -/
def ir170 : Ic :=
  .seq (.dn (.reg (
    .op (some 2) (.mov (.k (.int .i64 0))) <|
    .nil)) [2]) <|
  .seq (.seq (.dn (.reg (
    .op (some 4) (.mov (.t 0)) <|
    .op (some 5) (.len (.t 4)) <|
    .nil)) [4]) <|
  .dn (.block 0 (
    .seq (.dn (.reg (
      .op (some 7) (.bin .eql (.t 5) (.k (.int .i64 0))) <|
      .op (some 6) (.mov (.t 7)) <|
      .nil)) [7]) <|
    .dn (.ite (.t 6) (.seq (.dn (.reg (
        .op (some 2) (.mov (.k (.int .i64 4))) <|
        .nil)) [0, 5, 6]) <|
      .ret)
      (.seq (.dn (.reg (
        .op (some 9) (.bin .eql (.t 5) (.k (.int .i64 1))) <|
        .op (some 8) (.mov (.t 9)) <|
        .nil)) [5, 6, 9]) <|
      .dn (.ite (.t 8) (.seq (.seq (.dn (.reg (
          .op (some 10) (.mov (.t 0)) <|
          .op (some 11) (.ixa true 6 (.t 10) (.k (.int .i64 0))) <|
          .op (some 12) (.ld (some 6) (.t 11)) <|
          .call (some 13) (.fn 15) [(.t 12)] <|
          .op (some 3) (.mov (.t 13)) <|
          .nil)) [8, 10, 11, 12, 13]) <|
        .seq (.dn (.reg (
          .op (some 14) (.mov (.t 3)) <|
          .op (some 15) (.bin .neq (.t 14) (.k (.int .i64 0))) <|
          .nil)) [14]) <|
        .dn (.ite (.t 15) (.seq (.dn (.reg (
            .op (some 16) (.mov (.t 3)) <|
            .op (some 2) (.mov (.t 16)) <|
            .nil)) [0, 3, 15, 16]) <|
          .ret)
          (.skip)) [2, 3, 15]) <|
        .seq (.seq (.dn (.reg (
          .op (some 17) (.mov (.t 0)) <|
          .op (some 18) (.ixa true 6 (.t 17) (.k (.int .i64 0))) <|
          .op (some 19) (.fa (.t 18) 0) <|
          .op (some 20) (.ld none (.t 19)) <|
          .call (some 21) (.fn 227) [(.t 20)] <|
          .op (some 22) (.not (.t 21)) <|
          .nil)) [0, 17, 18, 19, 20, 21]) <|
        .dn (.ite (.t 22) (.seq (.dn (.reg (
            .op (some 2) (.mov (.k (.int .i64 18))) <|
            .nil)) [22]) <|
          .ret)
          (.skip)) [2, 22]) <|
        .seq (.reg (
          .op (some 2) (.mov (.k (.int .i64 0))) <|
          .nil)) <|
        .ret)
        (.skip)) [2, 0, 8])) [2])) [0, 5, 7, 6, 2, 9, 8, 10, 11, 12, 13, 3, 14, 15, 16, 17, 18, 19, 20, 21, 22]) <|
  .seq (.reg (
    .op (some 2) (.mov (.k (.int .i64 3))) <|
    .nil)) <|
  .ret
theorem ok170 : FnOk Tryz.prog 170 23 ir170 [.tmp 2] := FnOk.of Tryz.func170 (by kernel_rfl) (by kernel_rfl) (by kernel_rfl) (by kernel_rfl)
/-- manifold/expr.checkOne$1 -/
def ir171 : Ic :=
  .seq (.dn (.reg (
    .op (some 1) (.box (.t 0)) <|
    .op (some 2) (.mov (.k (.bool false))) <|
    .nil)) [0, 2]) <|
  .seq (.dn (.reg (
    .op (some 3) (.fa (.t 1) 0) <|
    .op (some 4) (.ld none (.t 3)) <|
    .op (some 5) (.bin .eql (.t 4) (.k (.int .i64 3))) <|
    .op (some 2) (.mov (.t 5)) <|
    .nil)) [1, 3, 4, 5]) <|
  .ret
theorem ok171 : FnOk Tryz.prog 171 6 ir171 [.tmp 2] := FnOk.of Tryz.func171 (by kernel_rfl) (by kernel_rfl) (by kernel_rfl) (by kernel_rfl)
/-- manifold/expr.scalar -/
def ir227 : Ic :=
  .seq (.dn (.reg (
    .op (some 2) (.mov (.k (.bool false))) <|
    .nil)) [2]) <|
  .seq (.dn (.reg (
    .op (some 3) (.mov (.t 0)) <|
    .op (some 4) (.bin .geq (.t 3) (.k (.int .i64 1))) <|
    .op (some 5) (.mov (.t 4)) <|
    .sc 5 true (
      .op (some 6) (.mov (.t 0)) <|
      .op (some 7) (.bin .leq (.t 6) (.k (.int .i64 7))) <|
      .nil) (.t 7) 8 <|
    .op (some 2) (.mov (.t 8)) <|
    .nil)) [0, 3, 4, 5, 6, 7, 8]) <|
  .ret
theorem ok227 : FnOk Tryz.prog 227 9 ir227 [.tmp 2] := FnOk.of Tryz.func227 (by kernel_rfl) (by kernel_rfl) (by kernel_rfl) (by kernel_rfl)
end Go.Proofs
/- The intermediate forms of functions (printed by a program). -/
namespace Go.Proofs
open Go Av
end Go.Proofs
