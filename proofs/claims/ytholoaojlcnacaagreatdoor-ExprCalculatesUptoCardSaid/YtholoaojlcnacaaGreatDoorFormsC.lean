/- The intermediate forms of functions (printed by a program). -/
import Derived.Test.YtholoaojlcnacaaGreatDoorFormsB
set_option linter.unusedVariables false
set_option linter.unusedSimpArgs false
set_option linter.unusedSectionVars false
namespace Go.Proofs
open Go Av
/-- manifold/manifoldlaw16.ExprCalculates -/
def ir5 : Ic :=
  .seq (.dn (.reg (
    .op (some 3) (.box (.t 0)) <|
    .op (some 4) (.box (.t 1)) <|
    .op (some 6) (.mov (.k (.bool false))) <|
    .nil)) [0, 1, 6]) <|
  .seq (.dn (.regd [(1, 2), (0, 4), (1, 4), (2, 4), (3, 4), (0, 5), (1, 5), (2, 5), (3, 5), (4, 5)] (
    .op (some 22) (.ld (some 2) (.t 3)) <|
    .call (some 23) (.fn 17) [(.t 22), (.k (.bool false))] <|
    .op (some 24) (.ld (some 2) (.t 4)) <|
    .call (some 25) (.fn 17) [(.t 24), (.k (.bool false))] <|
    .op (some 7) (.new [(.int .i64 0), (.int .i64 0), (.str []), (.nil 6), (.nil 5)]) <|
    .op (some 8) (.new [(.int .i64 0), (.int .i64 0), (.str []), (.nil 6), (.nil 5)]) <|
    .op none (.sto (some 5) (.t 7) (.t 23)) <|
    .op none (.sto (some 5) (.t 8) (.t 25)) <|
    .nil)) [22, 23, 24, 25]) <|
  .seq (.dn (.reg (
    .op (some 26) (.bld [(.int .i64 0), (.int .i64 0), (.int .i64 0), (.str []), (.nil 6), (.nil 7)] [(0, 1, (.k (.int .i64 9)))]) <|
    .op (some 9) (.new [(.int .i64 0), (.int .i64 0), (.int .i64 0), (.str []), (.nil 6), (.nil 7)]) <|
    .op none (.sto (some 6) (.t 9) (.t 26)) <|
    .nil)) [26]) <|
  .seq (.dn (.reg (
    .op (some 28) (.ld (some 5) (.t 7)) <|
    .op (some 29) (.ld (some 5) (.t 8)) <|
    .op (some 30) (.bls 5 [(.t 28), (.t 29)]) <|
    .op (some 31) (.bld [(.int .i64 0), (.int .i64 0), (.str []), (.nil 6), (.nil 5)] [(0, 1, (.k (.int .i64 12))), (4, 1, (.t 30))]) <|
    .op (some 32) (.ld (some 6) (.t 9)) <|
    .call (some 33) (.fn 18) [(.t 31), (.t 32)] <|
    .op (some 27) (.mov (.t 33)) <|
    .op (some 34) (.ext (.t 27) 0) <|
    .op (some 35) (.ext (.t 27) 1) <|
    .op (some 10) (.new [(.int .i64 0), (.int .i64 0), (.int .i64 0), (.str []), (.nil 6), (.nil 7)]) <|
    .op none (.sto (some 6) (.t 10) (.t 34)) <|
    .op (some 11) (.mov (.t 35)) <|
    .nil)) [28, 29, 30, 31, 32, 33, 27, 34, 35]) <|
  .seq (.dn (.reg (
    .op (some 37) (.mov (.t 2)) <|
    .op (some 38) (.ld (some 5) (.t 7)) <|
    .op (some 39) (.ld (some 5) (.t 8)) <|
    .op (some 40) (.bls 5 [(.t 38), (.t 39)]) <|
    .op (some 41) (.bld [(.int .i64 0), (.int .i64 0), (.str []), (.nil 6), (.nil 5)] [(0, 1, (.k (.int .i64 15))), (1, 1, (.t 37)), (4, 1, (.t 40))]) <|
    .op (some 42) (.ld (some 6) (.t 9)) <|
    .call (some 43) (.fn 18) [(.t 41), (.t 42)] <|
    .op (some 36) (.mov (.t 43)) <|
    .op (some 44) (.ext (.t 36) 0) <|
    .op (some 45) (.ext (.t 36) 1) <|
    .op (some 12) (.new [(.int .i64 0), (.int .i64 0), (.int .i64 0), (.str []), (.nil 6), (.nil 7)]) <|
    .op none (.sto (some 6) (.t 12) (.t 44)) <|
    .op (some 13) (.mov (.t 45)) <|
    .nil)) [37, 38, 39, 40, 41, 42, 43, 36, 44, 45]) <|
  .seq (.dn (.reg (
    .op (some 47) (.ld (some 5) (.t 7)) <|
    .op (some 48) (.ld (some 5) (.t 8)) <|
    .op (some 49) (.bls 5 [(.t 47), (.t 48)]) <|
    .op (some 50) (.bld [(.int .i64 0), (.int .i64 0), (.str []), (.nil 6), (.nil 5)] [(0, 1, (.k (.int .i64 8))), (4, 1, (.t 49))]) <|
    .op (some 51) (.ld (some 6) (.t 9)) <|
    .call (some 52) (.fn 19) [(.t 50), (.t 51)] <|
    .op (some 46) (.mov (.t 52)) <|
    .op (some 53) (.ext (.t 46) 0) <|
    .op (some 54) (.ext (.t 46) 1) <|
    .op (some 14) (.mov (.t 53)) <|
    .op (some 15) (.mov (.t 54)) <|
    .nil)) [7, 8, 9, 47, 48, 49, 50, 51, 52, 46, 53, 54]) <|
  .seq (.seq (.dn (.reg (
    .call (some 55) (.fn 20) [] <|
    .op (some 56) (.not (.t 55)) <|
    .nil)) [55]) <|
  .dn (.ite (.t 56) (.seq (.dn (.reg (
      .op (some 6) (.mov (.k (.bool false))) <|
      .nil)) [2, 3, 4, 10, 11, 12, 13, 14, 15, 56]) <|
    .ret)
    (.skip)) [6, 56]) <|
  .seq (.seq (.dn (.reg (
    .op (some 57) (.ld (some 2) (.t 3)) <|
    .call (some 58) (.fn 21) [(.t 57)] <|
    .op (some 59) (.bin .neq (.t 58) (.k (.int .i64 0))) <|
    .op (some 60) (.mov (.t 59)) <|
    .sc 60 false (
      .op (some 61) (.ld (some 2) (.t 4)) <|
      .call (some 62) (.fn 21) [(.t 61)] <|
      .op (some 63) (.bin .neq (.t 62) (.k (.int .i64 0))) <|
      .nil) (.t 63) 64 <|
    .nil)) [57, 58, 59, 60, 61, 62, 63]) <|
  .dn (.ite (.t 64) (.seq (.dn (.reg (
      .op (some 65) (.mov (.t 11)) <|
      .op (some 66) (.bin .eql (.t 65) (.k (.int .i64 2))) <|
      .op (some 67) (.mov (.t 66)) <|
      .sc 67 true (
        .op (some 68) (.mov (.t 13)) <|
        .op (some 69) (.bin .eql (.t 68) (.k (.int .i64 2))) <|
        .nil) (.t 69) 70 <|
      .op (some 71) (.mov (.t 70)) <|
      .sc 71 true (
        .op (some 72) (.mov (.t 15)) <|
        .op (some 73) (.bin .eql (.t 72) (.k (.int .i64 2))) <|
        .nil) (.t 73) 74 <|
      .op (some 6) (.mov (.t 74)) <|
      .nil)) [2, 3, 4, 10, 11, 12, 13, 14, 15, 64, 65, 66, 67, 68, 69, 70, 71, 72, 73, 74]) <|
    .ret)
    (.skip)) [6, 64]) <|
  .seq (.dn (.reg (
    .op (some 76) (.ld (some 2) (.t 3)) <|
    .op (some 77) (.ld (some 2) (.t 4)) <|
    .call (some 78) (.fn 22) [(.t 76), (.t 77)] <|
    .op (some 75) (.mov (.t 78)) <|
    .op (some 79) (.ext (.t 75) 0) <|
    .op (some 80) (.ext (.t 75) 1) <|
    .op (some 16) (.new [(.int .i64 0), (.int .i64 0)]) <|
    .op none (.sto (some 2) (.t 16) (.t 79)) <|
    .op (some 17) (.mov (.t 80)) <|
    .nil)) [76, 77, 78, 75, 79, 80]) <|
  .seq (.dn (.reg (
    .op (some 82) (.ld (some 2) (.t 3)) <|
    .op (some 83) (.ld (some 2) (.t 4)) <|
    .call (some 84) (.fn 23) [(.t 82), (.t 83)] <|
    .op (some 81) (.mov (.t 84)) <|
    .op (some 85) (.ext (.t 81) 0) <|
    .op (some 86) (.ext (.t 81) 1) <|
    .op (some 18) (.mov (.t 85)) <|
    .op (some 19) (.mov (.t 86)) <|
    .nil)) [82, 83, 84, 81, 85, 86, 19]) <|
  .seq (.seq (.dn (.reg (
    .op (some 87) (.mov (.t 11)) <|
    .op (some 88) (.mov (.t 17)) <|
    .op (some 89) (.bin .neq (.t 87) (.t 88)) <|
    .op (some 90) (.mov (.t 89)) <|
    .sc 90 false (
      .op (some 91) (.mov (.t 11)) <|
      .op (some 92) (.bin .eql (.t 91) (.k (.int .i64 0))) <|
      .op (some 93) (.mov (.t 92)) <|
      .sc 93 true (
        .op (some 94) (.fa (.t 10) 1) <|
        .op (some 95) (.ld none (.t 94)) <|
        .op (some 96) (.fa (.t 16) 0) <|
        .op (some 97) (.ld none (.t 96)) <|
        .op (some 98) (.bin .neq (.t 95) (.t 97)) <|
        .op (some 99) (.mov (.t 98)) <|
        .sc 99 false (
          .op (some 100) (.fa (.t 10) 2) <|
          .op (some 101) (.ld none (.t 100)) <|
          .op (some 102) (.fa (.t 16) 1) <|
          .op (some 103) (.ld none (.t 102)) <|
          .op (some 104) (.bin .neq (.t 101) (.t 103)) <|
          .nil) (.t 104) 105 <|
        .op (some 106) (.mov (.t 105)) <|
        .sc 106 false (
          .op (some 107) (.fa (.t 10) 0) <|
          .op (some 108) (.ld none (.t 107)) <|
          .op (some 109) (.bin .neq (.t 108) (.k (.int .i64 3))) <|
          .nil) (.t 109) 110 <|
        .nil) (.t 110) 111 <|
      .nil) (.t 111) 112 <|
    .op (some 113) (.mov (.t 112)) <|
    .sc 113 false (
      .op (some 114) (.mov (.t 15)) <|
      .op (some 115) (.bin .neq (.t 114) (.k (.int .i64 0))) <|
      .nil) (.t 115) 116 <|
    .op (some 117) (.mov (.t 116)) <|
    .sc 117 false (
      .op (some 118) (.mov (.t 14)) <|
      .op (some 119) (.mov (.t 18)) <|
      .op (some 120) (.bin .lss (.t 119) (.k (.int .i64 0))) <|
      .op (some 121) (.bin .bne (.t 118) (.t 120)) <|
      .nil) (.t 121) 122 <|
    .nil)) [10, 11, 14, 15, 16, 17, 18, 87, 88, 89, 90, 91, 92, 93, 94, 95, 96, 97, 98, 99, 100, 101, 102, 103, 104, 105, 106, 107, 108, 109, 110, 111, 112, 113, 114, 115, 116, 117, 118, 119, 120, 121]) <|
  .dn (.ite (.t 122) (.seq (.dn (.reg (
      .op (some 6) (.mov (.k (.bool false))) <|
      .nil)) [2, 3, 4, 12, 13, 122]) <|
    .ret)
    (.skip)) [6, 122]) <|
  .seq (.dn (.reg (
    .op (some 124) (.ld (some 2) (.t 3)) <|
    .op (some 125) (.ld (some 2) (.t 4)) <|
    .op (some 126) (.mov (.t 2)) <|
    .call (some 127) (.fn 24) [(.t 124), (.t 125), (.t 126)] <|
    .op (some 123) (.mov (.t 127)) <|
    .op (some 128) (.ext (.t 123) 0) <|
    .op (some 129) (.ext (.t 123) 1) <|
    .op (some 20) (.new [(.int .i64 0), (.int .i64 0)]) <|
    .op none (.sto (some 2) (.t 20) (.t 128)) <|
    .op (some 21) (.mov (.t 129)) <|
    .nil)) [2, 3, 4, 124, 125, 126, 127, 123, 128, 129]) <|
  .seq (.dn (.reg (
    .op (some 130) (.mov (.t 13)) <|
    .op (some 131) (.mov (.t 21)) <|
    .op (some 132) (.bin .eql (.t 130) (.t 131)) <|
    .op (some 133) (.mov (.t 132)) <|
    .sc 133 true (
      .op (some 134) (.mov (.t 13)) <|
      .op (some 135) (.bin .neq (.t 134) (.k (.int .i64 0))) <|
      .op (some 136) (.mov (.t 135)) <|
      .sc 136 false (
        .op (some 137) (.fa (.t 12) 1) <|
        .op (some 138) (.ld none (.t 137)) <|
        .op (some 139) (.fa (.t 20) 0) <|
        .op (some 140) (.ld none (.t 139)) <|
        .op (some 141) (.bin .eql (.t 138) (.t 140)) <|
        .op (some 142) (.mov (.t 141)) <|
        .sc 142 true (
          .op (some 143) (.fa (.t 12) 2) <|
          .op (some 144) (.ld none (.t 143)) <|
          .op (some 145) (.fa (.t 20) 1) <|
          .op (some 146) (.ld none (.t 145)) <|
          .op (some 147) (.bin .eql (.t 144) (.t 146)) <|
          .nil) (.t 147) 148 <|
        .nil) (.t 148) 149 <|
      .nil) (.t 149) 150 <|
    .op (some 6) (.mov (.t 150)) <|
    .nil)) [12, 13, 20, 21, 130, 131, 132, 133, 134, 135, 136, 137, 138, 139, 140, 141, 142, 143, 144, 145, 146, 147, 148, 149, 150]) <|
  .ret
theorem ok5 : FnOk Tryz.prog 5 151 ir5 [.tmp 6] := FnOk.of Tryz.func5 (by kernel_rfl) (by kernel_rfl) (by kernel_rfl) (by kernel_rfl)
/-- manifold/manifoldlaw16.constant -/
def ir17 : Ic :=
  .seq (.dn (.reg (
    .op (some 2) (.box (.t 0)) <|
    .op (some 4) (.new [(.int .i64 0), (.int .i64 0), (.str []), (.nil 6), (.nil 5)]) <|
    .nil)) [0]) <|
  .seq (.dn (.reg (
    .op (some 5) (.ld (some 2) (.t 2)) <|
    .op (some 6) (.mov (.t 1)) <|
    .call (some 7) (.fn 52) [(.t 5), (.t 6)] <|
    .op (some 8) (.bls 6 [(.t 7)]) <|
    .op (some 9) (.bld [(.int .i64 0), (.int .i64 0), (.str []), (.nil 6), (.nil 5)] [(0, 1, (.k (.int .i64 1))), (3, 1, (.t 8))]) <|
    .op none (.sto (some 5) (.t 4) (.t 9)) <|
    .nil)) [1, 2, 5, 6, 7, 8, 9]) <|
  .ret
theorem ok17 : FnOk Tryz.prog 17 10 ir17 [.cell 4 (some 5)] := FnOk.of Tryz.func17 (by kernel_rfl) (by kernel_rfl) (by kernel_rfl) (by kernel_rfl)
/-- manifold/manifoldlaw16.of -/
def ir52 : Ic :=
  .seq (.dn (.reg (
    .op (some 2) (.box (.t 0)) <|
    .op (some 4) (.new [(.int .i64 0), (.int .i64 0), (.int .i64 0), (.str []), (.nil 6), (.nil 7)]) <|
    .nil)) [0]) <|
  .seq (.seq (.dn (.reg (
    .op (some 5) (.mov (.t 1)) <|
    .nil)) [1]) <|
  .dn (.ite (.t 5) (.seq (.dn (.reg (
      .op (some 6) (.fa (.t 2) 0) <|
      .op (some 7) (.ld none (.t 6)) <|
      .op (some 8) (.bld [(.int .i64 0), (.int .i64 0), (.int .i64 0), (.str []), (.nil 6), (.nil 7)] [(0, 1, (.k (.int .i64 2))), (1, 1, (.t 7))]) <|
      .op none (.sto (some 6) (.t 4) (.t 8)) <|
      .nil)) [2, 5, 6, 7, 8]) <|
    .ret)
    (.skip)) [5]) <|
  .seq (.dn (.reg (
    .op (some 9) (.fa (.t 2) 0) <|
    .op (some 10) (.ld none (.t 9)) <|
    .op (some 11) (.fa (.t 2) 1) <|
    .op (some 12) (.ld none (.t 11)) <|
    .op (some 13) (.bld [(.int .i64 0), (.int .i64 0), (.int .i64 0), (.str []), (.nil 6), (.nil 7)] [(0, 1, (.k (.int .i64 3))), (1, 1, (.t 10)), (2, 1, (.t 12))]) <|
    .op none (.sto (some 6) (.t 4) (.t 13)) <|
    .nil)) [2, 9, 10, 11, 12, 13]) <|
  .ret
theorem ok52 : FnOk Tryz.prog 52 14 ir52 [.cell 4 (some 6)] := FnOk.of Tryz.func52 (by kernel_rfl) (by kernel_rfl) (by kernel_rfl) (by kernel_rfl)
/-- manifold/expr.Eval -/
def ir18 : Ic :=
  .seq (.dn (.reg (
    .op (some 2) (.box (.t 0)) <|
    .op (some 3) (.box (.t 1)) <|
    .op (some 4) (.new [(.int .i64 0), (.int .i64 0), (.int .i64 0), (.str []), (.nil 6), (.nil 7)]) <|
    .op (some 5) (.mov (.k (.int .i64 0))) <|
    .nil)) [0, 1, 5]) <|
  .seq (.seq (.dn (.reg (
    .op (some 9) (.ld (some 5) (.t 2)) <|
    .call (some 10) (.fn 53) [(.t 9)] <|
    .op (some 6) (.mov (.t 10)) <|
    .nil)) [9, 10]) <|
  .seq (.dn (.reg (
    .op (some 11) (.mov (.t 6)) <|
    .op (some 12) (.bin .neq (.t 11) (.k (.int .i64 0))) <|
    .nil)) [11]) <|
  .dn (.ite (.t 12) (.seq (.dn (.reg (
      .op (some 13) (.bld [(.int .i64 0), (.int .i64 0), (.int .i64 0), (.str []), (.nil 6), (.nil 7)] []) <|
      .op (some 14) (.mov (.t 6)) <|
      .op none (.sto (some 6) (.t 4) (.t 13)) <|
      .op (some 5) (.mov (.t 14)) <|
      .nil)) [2, 3, 6, 12, 13, 14]) <|
    .ret)
    (.skip)) [5, 6, 12]) <|
  .seq (.seq (.dn (.reg (
    .op (some 15) (.fa (.t 3) 0) <|
    .op (some 16) (.ld none (.t 15)) <|
    .op (some 17) (.bin .neq (.t 16) (.k (.int .i64 9))) <|
    .nil)) [15, 16]) <|
  .dn (.ite (.t 17) (.seq (.dn (.reg (
      .op (some 18) (.bld [(.int .i64 0), (.int .i64 0), (.int .i64 0), (.str []), (.nil 6), (.nil 7)] []) <|
      .op none (.sto (some 6) (.t 4) (.t 18)) <|
      .op (some 5) (.mov (.k (.int .i64 11))) <|
      .nil)) [2, 3, 17, 18]) <|
    .ret)
    (.skip)) [5, 17]) <|
  .seq (.dn (.reg (
    .op (some 19) (.ld (some 6) (.t 3)) <|
    .op (some 20) (.bld [(.int .i64 0), (.int .i64 0), (.int .i64 0), (.str []), (.nil 6), (.nil 7), (.int .i64 0)] [(0, 6, (.t 19))]) <|
    .op (some 21) (.box (.t 20)) <|
    .op (some 7) (.mov (.t 21)) <|
    .nil)) [3, 19, 20, 21]) <|
  .seq (.dn (.reg (
    .op (some 22) (.mov (.t 7)) <|
    .op (some 23) (.ld (some 5) (.t 2)) <|
    .call (some 24) (.fn 54) [(.t 22), (.t 23)] <|
    .op (some 8) (.new [(.int .i64 0), (.int .i64 0), (.int .i64 0), (.str []), (.nil 6), (.nil 7)]) <|
    .op none (.sto (some 6) (.t 8) (.t 24)) <|
    .nil)) [2, 22, 23, 24]) <|
  .seq (.seq (.dn (.reg (
    .op (some 25) (.mov (.t 7)) <|
    .op (some 26) (.nck (.t 25)) <|
    .op (some 27) (.fa (.t 26) 6) <|
    .op (some 28) (.ld none (.t 27)) <|
    .op (some 29) (.bin .neq (.t 28) (.k (.int .i64 0))) <|
    .nil)) [25, 26, 27, 28]) <|
  .dn (.ite (.t 29) (.seq (.dn (.regd [(4, 5)] (
      .op (some 30) (.bld [(.int .i64 0), (.int .i64 0), (.int .i64 0), (.str []), (.nil 6), (.nil 7)] []) <|
      .op (some 31) (.mov (.t 7)) <|
      .op (some 32) (.nck (.t 31)) <|
      .op (some 33) (.fa (.t 32) 6) <|
      .op (some 34) (.ld none (.t 33)) <|
      .op none (.sto (some 6) (.t 4) (.t 30)) <|
      .op (some 5) (.mov (.t 34)) <|
      .nil)) [7, 8, 29, 30, 31, 32, 33, 34]) <|
    .ret)
    (.skip)) [5, 7, 29]) <|
  .seq (.dn (.reg (
    .op (some 35) (.ld (some 6) (.t 8)) <|
    .call (some 36) (.fn 55) [(.t 35)] <|
    .op none (.sto (some 6) (.t 4) (.t 36)) <|
    .op (some 5) (.mov (.k (.int .i64 0))) <|
    .nil)) [8, 35, 36]) <|
  .ret
theorem ok18 : FnOk Tryz.prog 18 37 ir18 [.cell 4 (some 6), .tmp 5] := FnOk.of Tryz.func18 (by kernel_rfl) (by kernel_rfl) (by kernel_rfl) (by kernel_rfl)
/-- manifold/expr.Condition -/
def ir19 : Ic :=
  .seq (.dn (.reg (
    .op (some 2) (.box (.t 0)) <|
    .op (some 3) (.box (.t 1)) <|
    .op (some 4) (.mov (.k (.bool false))) <|
    .op (some 5) (.mov (.k (.int .i64 0))) <|
    .nil)) [0, 1, 4, 5]) <|
  .seq (.dn (.reg (
    .op (some 9) (.ld (some 5) (.t 2)) <|
    .op (some 10) (.ld (some 6) (.t 3)) <|
    .call (some 11) (.fn 18) [(.t 9), (.t 10)] <|
    .op (some 8) (.mov (.t 11)) <|
    .op (some 12) (.ext (.t 8) 0) <|
    .op (some 13) (.ext (.t 8) 1) <|
    .op (some 6) (.new [(.int .i64 0), (.int .i64 0), (.int .i64 0), (.str []), (.nil 6), (.nil 7)]) <|
    .op none (.sto (some 6) (.t 6) (.t 12)) <|
    .op (some 7) (.mov (.t 13)) <|
    .nil)) [2, 3, 9, 10, 11, 8, 12, 13]) <|
  .seq (.dn (.block 0 (
    .seq (.dn (.reg (
      .op (some 15) (.mov (.t 7)) <|
      .op (some 16) (.bin .neq (.t 15) (.k (.int .i64 0))) <|
      .op (some 14) (.mov (.t 16)) <|
      .nil)) [15, 16]) <|
    .dn (.ite (.t 14) (.seq (.dn (.reg (
        .op (some 17) (.mov (.t 7)) <|
        .op (some 4) (.mov (.k (.bool false))) <|
        .op (some 5) (.mov (.t 17)) <|
        .nil)) [6, 7, 14, 17]) <|
      .ret)
      (.seq (.dn (.reg (
        .op (some 19) (.ld (some 6) (.t 6)) <|
        .call (some 20) (.fn 13) [(.t 19)] <|
        .op (some 18) (.mov (.t 20)) <|
        .nil)) [7, 14, 19, 20]) <|
      .dn (.ite (.t 18) (.seq (.dn (.reg (
          .op (some 4) (.mov (.k (.bool false))) <|
          .op (some 5) (.mov (.k (.int .i64 19))) <|
          .nil)) [6, 18]) <|
        .ret)
        (.seq (.dn (.reg (
          .op (some 22) (.fa (.t 6) 0) <|
          .op (some 23) (.ld none (.t 22)) <|
          .op (some 24) (.bin .neq (.t 23) (.k (.int .i64 1))) <|
          .op (some 21) (.mov (.t 24)) <|
          .nil)) [18, 22, 23, 24]) <|
        .dn (.ite (.t 21) (.seq (.dn (.reg (
            .op (some 4) (.mov (.k (.bool false))) <|
            .op (some 5) (.mov (.k (.int .i64 18))) <|
            .nil)) [6, 21]) <|
          .ret)
          (.skip)) [4, 5, 21])) [4, 5])) [4, 5])) [7, 15, 16, 14, 17, 4, 5, 19, 20, 18, 22, 23, 24, 21]) <|
  .seq (.dn (.reg (
    .op (some 25) (.fa (.t 6) 1) <|
    .op (some 26) (.ld none (.t 25)) <|
    .op (some 27) (.bin .eql (.t 26) (.k (.int .i64 1))) <|
    .op (some 4) (.mov (.t 27)) <|
    .op (some 5) (.mov (.k (.int .i64 0))) <|
    .nil)) [6, 25, 26, 27]) <|
  .ret
theorem ok19 : FnOk Tryz.prog 19 28 ir19 [.tmp 4, .tmp 5] := FnOk.of Tryz.func19 (by kernel_rfl) (by kernel_rfl) (by kernel_rfl) (by kernel_rfl)
/-- (*manifold/expr.machine).eval -/
def ir54 : Ic :=
  .seq (.dn (.reg (
    .op (some 3) (.box (.t 1)) <|
    .op (some 4) (.new [(.int .i64 0), (.int .i64 0), (.int .i64 0), (.str []), (.nil 6), (.nil 7)]) <|
    .nil)) [1]) <|
  .seq (.seq (.dn (.reg (
    .op (some 29) (.mov (.t 0)) <|
    .op (some 30) (.nck (.t 29)) <|
    .op (some 31) (.fa (.t 30) 6) <|
    .op (some 32) (.ld none (.t 31)) <|
    .op (some 33) (.bin .neq (.t 32) (.k (.int .i64 0))) <|
    .nil)) [29, 30, 31, 32]) <|
  .dn (.ite (.t 33) (.seq (.dn (.reg (
      .op (some 34) (.bld [(.int .i64 0), (.int .i64 0), (.int .i64 0), (.str []), (.nil 6), (.nil 7)] []) <|
      .op none (.sto (some 6) (.t 4) (.t 34)) <|
      .nil)) [0, 3, 33, 34]) <|
    .ret)
    (.skip)) [33]) <|
  .seq (.seq (.dn (.regd [(0, 2)] (
    .call (some 36) (.fn 121) [] <|
    .op (some 37) (.fa (.t 3) 0) <|
    .op (some 38) (.ld none (.t 37)) <|
    .op (some 39) (.lkp .i .nilFn (.t 36) (.t 38) true) <|
    .op (some 35) (.mov (.t 39)) <|
    .op (some 40) (.ext (.t 35) 0) <|
    .op (some 41) (.ext (.t 35) 1) <|
    .op (some 5) (.mov (.t 40)) <|
    .op (some 6) (.mov (.t 41)) <|
    .nil)) [36, 37, 38, 39, 35, 40, 41]) <|
  .seq (.dn (.reg (
    .op (some 42) (.mov (.t 6)) <|
    .nil)) [6]) <|
  .dn (.ite (.t 42) (.seq (.dn (.reg (
      .op (some 43) (.mov (.t 0)) <|
      .op (some 44) (.fa (.t 3) 4) <|
      .op (some 45) (.ld none (.t 44)) <|
      .op (some 46) (.ixa true 5 (.t 45) (.k (.int .i64 0))) <|
      .op (some 47) (.ld (some 5) (.t 46)) <|
      .call (some 48) (.fn 122) [(.t 43), (.t 47)] <|
      .op (some 7) (.new [(.int .i64 0), (.int .i64 0), (.int .i64 0), (.str []), (.nil 6), (.nil 7)]) <|
      .op none (.sto (some 6) (.t 7) (.t 48)) <|
      .nil)) [42, 43, 44, 45, 46, 47, 48]) <|
    .seq (.dn (.reg (
      .op (some 49) (.mov (.t 0)) <|
      .op (some 50) (.fa (.t 3) 4) <|
      .op (some 51) (.ld none (.t 50)) <|
      .op (some 52) (.ixa true 5 (.t 51) (.k (.int .i64 1))) <|
      .op (some 53) (.ld (some 5) (.t 52)) <|
      .call (some 54) (.fn 122) [(.t 49), (.t 53)] <|
      .op (some 8) (.new [(.int .i64 0), (.int .i64 0), (.int .i64 0), (.str []), (.nil 6), (.nil 7)]) <|
      .op none (.sto (some 6) (.t 8) (.t 54)) <|
      .nil)) [3, 49, 50, 51, 52, 53, 54]) <|
    .seq (.dn (.reg (
      .op (some 55) (.mov (.t 5)) <|
      .op (some 56) (.mov (.t 0)) <|
      .op (some 57) (.ld (some 6) (.t 7)) <|
      .op (some 58) (.ld (some 6) (.t 8)) <|
      .call (some 59) (.fn 124) [(.t 56), (.t 57), (.t 58)] <|
      .call (some 60) (.dyn (.t 55)) [(.t 59)] <|
      .call (some 61) (.fn 123) [(.t 60)] <|
      .op none (.sto (some 6) (.t 4) (.t 61)) <|
      .nil)) [0, 5, 7, 8, 55, 56, 57, 58, 59, 60, 61]) <|
    .ret)
    (.skip)) [5, 42]) <|
  .seq (.seq (.dn (.reg (
    .op (some 62) (.fa (.t 3) 0) <|
    .op (some 63) (.ld none (.t 62)) <|
    .nil)) [62]) <|
  .dn (.block 0 (
    .seq (.dn (.reg (
      .op (some 65) (.bin .eql (.t 63) (.k (.int .i64 1))) <|
      .op (some 64) (.mov (.t 65)) <|
      .nil)) [65]) <|
    .ite (.t 64) (.seq (.dn (.reg (
        .op (some 66) (.fa (.t 3) 3) <|
        .op (some 67) (.ld none (.t 66)) <|
        .op (some 68) (.ixa true 6 (.t 67) (.k (.int .i64 0))) <|
        .op (some 69) (.ld (some 6) (.t 68)) <|
        .call (some 70) (.fn 55) [(.t 69)] <|
        .op none (.sto (some 6) (.t 4) (.t 70)) <|
        .nil)) [0, 3, 63, 64, 66, 67, 68, 69, 70]) <|
      .ret)
      (.seq (.seq (.dn (.reg (
        .op (some 72) (.bin .eql (.t 63) (.k (.int .i64 2))) <|
        .op (some 71) (.mov (.t 72)) <|
        .nil)) [64, 72]) <|
      .ite (.t 71) (.skip)
        (.dn (.reg (
          .op (some 73) (.bin .eql (.t 63) (.k (.int .i64 22))) <|
          .op (some 71) (.mov (.t 73)) <|
          .nil)) [73])) <|
      .ite (.t 71) (.seq (.dn (.reg (
          .op (some 75) (.fa (.t 3) 2) <|
          .op (some 76) (.ld none (.t 75)) <|
          .call (some 77) (.fn 80) [(.t 76)] <|
          .op (some 74) (.mov (.t 77)) <|
          .op (some 78) (.ext (.t 74) 0) <|
          .op (some 79) (.ext (.t 74) 1) <|
          .op (some 9) (.mov (.t 78)) <|
          .op (some 10) (.mov (.t 79)) <|
          .nil)) [63, 71, 75, 76, 77, 74, 78, 79, 10]) <|
        .seq (.dn (.reg (
          .op (some 81) (.mov (.t 0)) <|
          .op (some 82) (.nck (.t 81)) <|
          .op (some 83) (.fa (.t 82) 0) <|
          .op (some 84) (.ld (some 6) (.t 83)) <|
          .op (some 85) (.mov (.t 9)) <|
          .call (some 86) (.fn 125) [(.t 84), (.t 85)] <|
          .op (some 80) (.mov (.t 86)) <|
          .op (some 87) (.ext (.t 80) 0) <|
          .op (some 88) (.ext (.t 80) 1) <|
          .op (some 11) (.new [(.int .i64 0), (.int .i64 0), (.int .i64 0), (.str []), (.nil 6), (.nil 7)]) <|
          .op none (.sto (some 6) (.t 11) (.t 87)) <|
          .op (some 12) (.mov (.t 88)) <|
          .nil)) [9, 81, 82, 83, 84, 85, 86, 80, 87, 88]) <|
        .seq (.seq (.dn (.reg (
          .op (some 89) (.mov (.t 12)) <|
          .op (some 90) (.bin .neq (.t 89) (.k (.int .i64 0))) <|
          .op (some 91) (.mov (.t 90)) <|
          .sc 91 true (
            .op (some 92) (.mov (.t 12)) <|
            .op (some 93) (.bin .neq (.t 92) (.k (.int .i64 19))) <|
            .nil) (.t 93) 94 <|
          .nil)) [89, 90, 91, 92, 93]) <|
        .dn (.ite (.t 94) (.seq (.dn (.reg (
            .op (some 95) (.mov (.t 0)) <|
            .op (some 96) (.mov (.t 12)) <|
            .call (some 97) (.fn 126) [(.t 95), (.t 96)] <|
            .op none (.sto (some 6) (.t 4) (.t 97)) <|
            .nil)) [0, 3, 11, 12, 94, 95, 96, 97]) <|
          .ret)
          (.skip)) [0, 94]) <|
        .seq (.seq (.dn (.reg (
          .op (some 98) (.fa (.t 3) 0) <|
          .op (some 99) (.ld none (.t 98)) <|
          .op (some 100) (.bin .eql (.t 99) (.k (.int .i64 22))) <|
          .nil)) [3, 98, 99]) <|
        .dn (.ite (.t 100) (.seq (.dn (.reg (
            .op (some 101) (.mov (.t 12)) <|
            .op (some 102) (.bin .eql (.t 101) (.k (.int .i64 0))) <|
            .call (some 103) (.fn 123) [(.t 102)] <|
            .op none (.sto (some 6) (.t 4) (.t 103)) <|
            .nil)) [11, 12, 100, 101, 102, 103]) <|
          .ret)
          (.skip)) [12, 100]) <|
        .seq (.dn (.reg (
          .op (some 104) (.ld (some 6) (.t 11)) <|
          .op none (.sto (some 6) (.t 4) (.t 104)) <|
          .nil)) [11, 104]) <|
        .ret)
        (.seq (.dn (.reg (
          .op (some 106) (.bin .eql (.t 63) (.k (.int .i64 26))) <|
          .op (some 105) (.mov (.t 106)) <|
          .nil)) [71, 106]) <|
        .ite (.t 105) (.seq (.dn (.reg (
            .op (some 107) (.mov (.t 0)) <|
            .op (some 108) (.ld (some 5) (.t 3)) <|
            .call (some 109) (.fn 127) [(.t 107), (.t 108)] <|
            .op none (.sto (some 6) (.t 4) (.t 109)) <|
            .nil)) [0, 3, 63, 105, 107, 108, 109]) <|
          .ret)
          (.seq (.dn (.reg (
            .op (some 111) (.bin .eql (.t 63) (.k (.int .i64 3))) <|
            .op (some 110) (.mov (.t 111)) <|
            .nil)) [105, 111]) <|
          .ite (.t 110) (.seq (.dn (.reg (
              .op (some 112) (.mov (.t 0)) <|
              .op (some 113) (.fa (.t 3) 4) <|
              .op (some 114) (.ld none (.t 113)) <|
              .op (some 115) (.ixa true 5 (.t 114) (.k (.int .i64 0))) <|
              .op (some 116) (.ld (some 5) (.t 115)) <|
              .call (some 117) (.fn 128) [(.t 112), (.t 116)] <|
              .op (some 118) (.not (.t 117)) <|
              .call (some 119) (.fn 123) [(.t 118)] <|
              .op none (.sto (some 6) (.t 4) (.t 119)) <|
              .nil)) [0, 3, 63, 110, 112, 113, 114, 115, 116, 117, 118, 119]) <|
            .ret)
            (.seq (.dn (.reg (
              .op (some 121) (.bin .eql (.t 63) (.k (.int .i64 4))) <|
              .op (some 120) (.mov (.t 121)) <|
              .nil)) [110, 121]) <|
            .ite (.t 120) (.seq (.dn (.reg (
                .op (some 122) (.mov (.t 0)) <|
                .op (some 123) (.fa (.t 3) 4) <|
                .op (some 124) (.ld none (.t 123)) <|
                .op (some 125) (.ixa true 5 (.t 124) (.k (.int .i64 0))) <|
                .op (some 126) (.ld (some 5) (.t 125)) <|
                .call (some 127) (.fn 128) [(.t 122), (.t 126)] <|
                .op (some 128) (.mov (.t 127)) <|
                .sc 128 true (
                  .op (some 129) (.mov (.t 0)) <|
                  .op (some 130) (.fa (.t 3) 4) <|
                  .op (some 131) (.ld none (.t 130)) <|
                  .op (some 132) (.ixa true 5 (.t 131) (.k (.int .i64 1))) <|
                  .op (some 133) (.ld (some 5) (.t 132)) <|
                  .call (some 134) (.fn 128) [(.t 129), (.t 133)] <|
                  .nil) (.t 134) 135 <|
                .call (some 136) (.fn 123) [(.t 135)] <|
                .op none (.sto (some 6) (.t 4) (.t 136)) <|
                .nil)) [0, 3, 63, 120, 122, 123, 124, 125, 126, 127, 128, 129, 130, 131, 132, 133, 134, 135, 136]) <|
              .ret)
              (.seq (.dn (.reg (
                .op (some 138) (.bin .eql (.t 63) (.k (.int .i64 5))) <|
                .op (some 137) (.mov (.t 138)) <|
                .nil)) [120, 138]) <|
              .ite (.t 137) (.seq (.dn (.reg (
                  .op (some 139) (.mov (.t 0)) <|
                  .op (some 140) (.fa (.t 3) 4) <|
                  .op (some 141) (.ld none (.t 140)) <|
                  .op (some 142) (.ixa true 5 (.t 141) (.k (.int .i64 0))) <|
                  .op (some 143) (.ld (some 5) (.t 142)) <|
                  .call (some 144) (.fn 128) [(.t 139), (.t 143)] <|
                  .op (some 145) (.mov (.t 144)) <|
                  .sc 145 false (
                    .op (some 146) (.mov (.t 0)) <|
                    .op (some 147) (.fa (.t 3) 4) <|
                    .op (some 148) (.ld none (.t 147)) <|
                    .op (some 149) (.ixa true 5 (.t 148) (.k (.int .i64 1))) <|
                    .op (some 150) (.ld (some 5) (.t 149)) <|
                    .call (some 151) (.fn 128) [(.t 146), (.t 150)] <|
                    .nil) (.t 151) 152 <|
                  .call (some 153) (.fn 123) [(.t 152)] <|
                  .op none (.sto (some 6) (.t 4) (.t 153)) <|
                  .nil)) [0, 3, 63, 137, 139, 140, 141, 142, 143, 144, 145, 146, 147, 148, 149, 150, 151, 152, 153]) <|
                .ret)
                (.seq (.seq (.dn (.reg (
                  .op (some 155) (.bin .eql (.t 63) (.k (.int .i64 6))) <|
                  .op (some 154) (.mov (.t 155)) <|
                  .nil)) [137, 155]) <|
                .ite (.t 154) (.skip)
                  (.dn (.reg (
                    .op (some 156) (.bin .eql (.t 63) (.k (.int .i64 7))) <|
                    .op (some 154) (.mov (.t 156)) <|
                    .nil)) [156])) <|
                .ite (.t 154) (.seq (.dn (.reg (
                    .op (some 157) (.mov (.t 0)) <|
                    .op (some 158) (.fa (.t 3) 4) <|
                    .op (some 159) (.ld none (.t 158)) <|
                    .op (some 160) (.ixa true 5 (.t 159) (.k (.int .i64 0))) <|
                    .op (some 161) (.ld (some 5) (.t 160)) <|
                    .call (some 162) (.fn 122) [(.t 157), (.t 161)] <|
                    .op (some 13) (.new [(.int .i64 0), (.int .i64 0), (.int .i64 0), (.str []), (.nil 6), (.nil 7)]) <|
                    .op none (.sto (some 6) (.t 13) (.t 162)) <|
                    .nil)) [63, 154, 157, 158, 159, 160, 161, 162]) <|
                  .seq (.dn (.reg (
                    .op (some 163) (.mov (.t 0)) <|
                    .op (some 164) (.fa (.t 3) 4) <|
                    .op (some 165) (.ld none (.t 164)) <|
                    .op (some 166) (.ixa true 5 (.t 165) (.k (.int .i64 1))) <|
                    .op (some 167) (.ld (some 5) (.t 166)) <|
                    .call (some 168) (.fn 122) [(.t 163), (.t 167)] <|
                    .op (some 14) (.new [(.int .i64 0), (.int .i64 0), (.int .i64 0), (.str []), (.nil 6), (.nil 7)]) <|
                    .op none (.sto (some 6) (.t 14) (.t 168)) <|
                    .nil)) [163, 164, 165, 166, 167, 168]) <|
                  .seq (.dn (.regd [(3, 5)] (
                    .op (some 169) (.mov (.t 0)) <|
                    .op (some 170) (.ld (some 6) (.t 13)) <|
                    .op (some 171) (.ld (some 6) (.t 14)) <|
                    .call (some 172) (.fn 129) [(.t 169), (.t 170), (.t 171)] <|
                    .op (some 173) (.fa (.t 3) 0) <|
                    .op (some 174) (.ld none (.t 173)) <|
                    .op (some 175) (.bin .eql (.t 174) (.k (.int .i64 6))) <|
                    .op (some 176) (.bin .beq (.t 172) (.t 175)) <|
                    .call (some 177) (.fn 123) [(.t 176)] <|
                    .op none (.sto (some 6) (.t 4) (.t 177)) <|
                    .nil)) [0, 3, 13, 14, 169, 170, 171, 172, 173, 174, 175, 176, 177]) <|
                  .ret)
                  (.seq (.dn (.reg (
                    .op (some 179) (.bin .eql (.t 63) (.k (.int .i64 25))) <|
                    .op (some 178) (.mov (.t 179)) <|
                    .nil)) [154, 179]) <|
                  .ite (.t 178) (.seq (.dn (.reg (
                      .op (some 180) (.mov (.t 0)) <|
                      .op (some 181) (.fa (.t 3) 4) <|
                      .op (some 182) (.ld none (.t 181)) <|
                      .op (some 183) (.ixa true 5 (.t 182) (.k (.int .i64 0))) <|
                      .op (some 184) (.ld (some 5) (.t 183)) <|
                      .call (some 185) (.fn 122) [(.t 180), (.t 184)] <|
                      .op (some 15) (.new [(.int .i64 0), (.int .i64 0), (.int .i64 0), (.str []), (.nil 6), (.nil 7)]) <|
                      .op none (.sto (some 6) (.t 15) (.t 185)) <|
                      .nil)) [63, 178, 180, 181, 182, 183, 184, 185]) <|
                    .seq (.reg (
                      .op (some 16) (.mov (.k (.bool false))) <|
                      .nil)) <|
                    .seq (.reg (
                      .op (some 17) (.mov (.k (.nil 6))) <|
                      .nil)) <|
                    .seq (.seq (.dn (.reg (
                      .op (some 186) (.fa (.t 3) 4) <|
                      .op (some 187) (.ld none (.t 186)) <|
                      .op (some 188) (.slc 5 (.t 187) (some (.k (.int .i64 1))) none none) <|
                      .op (some 189) (.len (.t 188)) <|
                      .op (some 190) (.mov (.k (.int .i64 0))) <|
                      .nil)) [3, 186, 187]) <|
                    .dn (.block 1 (
                      .loop (
                        .seq (.reg (
                          .op (some 191) (.bin .lss (.t 190) (.t 189)) <|
                          .nil)) <|
                        .seq (.dn (.ite (.t 191) (.skip)
                          (.exit 1)) [191]) <|
                        .seq (.dn (.block 2 (
                          .seq (.dn (.reg (
                            .op (some 192) (.ixa true 5 (.t 188) (.t 190)) <|
                            .op (some 193) (.ld (some 5) (.t 192)) <|
                            .op (some 19) (.new [(.int .i64 0), (.int .i64 0), (.str []), (.nil 6), (.nil 5)]) <|
                            .op none (.sto (some 5) (.t 19) (.t 193)) <|
                            .nil)) [192, 193]) <|
                          .dn (.reg (
                            .op (some 194) (.mov (.t 17)) <|
                            .op (some 195) (.mov (.t 0)) <|
                            .op (some 196) (.ld (some 5) (.t 19)) <|
                            .call (some 197) (.fn 122) [(.t 195), (.t 196)] <|
                            .op (some 198) (.bls 6 [(.t 197)]) <|
                            .op (some 199) (.app 6 (.t 194) (.t 198)) <|
                            .op (some 17) (.mov (.t 199)) <|
                            .nil)) [19, 194, 195, 196, 197, 198, 199])) [192, 193, 19, 194, 195, 196, 197, 198, 199]) <|
                        .dn (.reg (
                          .op (some 200) (.bin .add (.t 190) (.k (.int .i64 1))) <|
                          .op (some 190) (.mov (.t 200)) <|
                          .nil)) [200]))) [188, 189, 190, 191, 192, 193, 19, 194, 195, 196, 197, 198, 199, 200]) <|
                    .seq (.seq (.reg (
                      .op (some 20) (.mov (.k (.int .i64 0))) <|
                      .nil)) <|
                    .dn (.block 3 (
                      .loop (
                        .seq (.seq (.dn (.reg (
                          .op (some 201) (.mov (.t 20)) <|
                          .op (some 202) (.mov (.t 17)) <|
                          .op (some 203) (.len (.t 202)) <|
                          .op (some 204) (.bin .lss (.t 201) (.t 203)) <|
                          .op (some 205) (.mov (.t 204)) <|
                          .sc 205 true (
                            .op (some 206) (.mov (.t 16)) <|
                            .op (some 207) (.not (.t 206)) <|
                            .nil) (.t 207) 208 <|
                          .nil)) [201, 202, 203, 204, 205, 206, 207]) <|
                        .dn (.ite (.t 208) (.skip)
                          (.exit 3)) [16, 208]) <|
                        .seq (.dn (.block 4 (
                          .dn (.reg (
                            .op (some 211) (.mov (.t 0)) <|
                            .op (some 212) (.ld (some 6) (.t 15)) <|
                            .op (some 213) (.mov (.t 17)) <|
                            .op (some 214) (.mov (.t 20)) <|
                            .op (some 215) (.ixa true 6 (.t 213) (.t 214)) <|
                            .op (some 216) (.ld (some 6) (.t 215)) <|
                            .call (some 217) (.fn 129) [(.t 211), (.t 212), (.t 216)] <|
                            .op (some 16) (.mov (.t 217)) <|
                            .nil)) [211, 212, 213, 214, 215, 216, 217])) [211, 212, 213, 214, 215, 216, 217]) <|
                        .dn (.reg (
                          .op (some 209) (.mov (.t 20)) <|
                          .op (some 210) (.bin .add (.t 209) (.k (.int .i64 1))) <|
                          .op (some 20) (.mov (.t 210)) <|
                          .nil)) [209, 210]))) [0, 15, 17, 20, 201, 202, 203, 204, 205, 206, 207, 208, 211, 212, 213, 214, 215, 216, 217, 209, 210]) <|
                    .seq (.dn (.reg (
                      .op (some 218) (.mov (.t 16)) <|
                      .call (some 219) (.fn 123) [(.t 218)] <|
                      .op none (.sto (some 6) (.t 4) (.t 219)) <|
                      .nil)) [16, 218, 219]) <|
                    .ret)
                    (.seq (.seq (.dn (.reg (
                      .op (some 221) (.bin .eql (.t 63) (.k (.int .i64 12))) <|
                      .op (some 220) (.mov (.t 221)) <|
                      .nil)) [178, 221]) <|
                    .ite (.t 220) (.skip)
                      (.seq (.dn (.reg (
                        .op (some 222) (.bin .eql (.t 63) (.k (.int .i64 13))) <|
                        .op (some 220) (.mov (.t 222)) <|
                        .nil)) [222]) <|
                      .ite (.t 220) (.skip)
                        (.seq (.dn (.reg (
                          .op (some 223) (.bin .eql (.t 63) (.k (.int .i64 14))) <|
                          .op (some 220) (.mov (.t 223)) <|
                          .nil)) [223]) <|
                        .ite (.t 220) (.skip)
                          (.dn (.reg (
                            .op (some 224) (.bin .eql (.t 63) (.k (.int .i64 15))) <|
                            .op (some 220) (.mov (.t 224)) <|
                            .nil)) [224])))) <|
                    .ite (.t 220) (.seq (.dn (.reg (
                        .op (some 225) (.mov (.t 0)) <|
                        .op (some 226) (.fa (.t 3) 4) <|
                        .op (some 227) (.ld none (.t 226)) <|
                        .op (some 228) (.ixa true 5 (.t 227) (.k (.int .i64 0))) <|
                        .op (some 229) (.ld (some 5) (.t 228)) <|
                        .call (some 230) (.fn 122) [(.t 225), (.t 229)] <|
                        .op (some 21) (.new [(.int .i64 0), (.int .i64 0), (.int .i64 0), (.str []), (.nil 6), (.nil 7)]) <|
                        .op none (.sto (some 6) (.t 21) (.t 230)) <|
                        .nil)) [63, 220, 225, 226, 227, 228, 229, 230]) <|
                      .seq (.dn (.reg (
                        .op (some 231) (.mov (.t 0)) <|
                        .op (some 232) (.fa (.t 3) 4) <|
                        .op (some 233) (.ld none (.t 232)) <|
                        .op (some 234) (.ixa true 5 (.t 233) (.k (.int .i64 1))) <|
                        .op (some 235) (.ld (some 5) (.t 234)) <|
                        .call (some 236) (.fn 122) [(.t 231), (.t 235)] <|
                        .op (some 22) (.new [(.int .i64 0), (.int .i64 0), (.int .i64 0), (.str []), (.nil 6), (.nil 7)]) <|
                        .op none (.sto (some 6) (.t 22) (.t 236)) <|
                        .nil)) [231, 232, 233, 234, 235, 236]) <|
                      .seq (.dn (.reg (
                        .op (some 237) (.mov (.t 0)) <|
                        .op (some 238) (.ld (some 5) (.t 3)) <|
                        .op (some 239) (.ld (some 6) (.t 21)) <|
                        .op (some 240) (.ld (some 6) (.t 22)) <|
                        .call (some 241) (.fn 130) [(.t 237), (.t 238), (.t 239), (.t 240)] <|
                        .op none (.sto (some 6) (.t 4) (.t 241)) <|
                        .nil)) [0, 3, 21, 22, 237, 238, 239, 240, 241]) <|
                      .ret)
                      (.seq (.dn (.reg (
                        .op (some 243) (.bin .eql (.t 63) (.k (.int .i64 17))) <|
                        .op (some 242) (.mov (.t 243)) <|
                        .nil)) [220, 243]) <|
                      .ite (.t 242) (.seq (.dn (.reg (
                          .op (some 244) (.mov (.t 0)) <|
                          .op (some 245) (.fa (.t 3) 4) <|
                          .op (some 246) (.ld none (.t 245)) <|
                          .op (some 247) (.ixa true 5 (.t 246) (.k (.int .i64 0))) <|
                          .op (some 248) (.ld (some 5) (.t 247)) <|
                          .call (some 249) (.fn 122) [(.t 244), (.t 248)] <|
                          .op (some 23) (.new [(.int .i64 0), (.int .i64 0), (.int .i64 0), (.str []), (.nil 6), (.nil 7)]) <|
                          .op none (.sto (some 6) (.t 23) (.t 249)) <|
                          .nil)) [63, 242, 244, 245, 246, 247, 248, 249]) <|
                        .seq (.dn (.reg (
                          .op (some 250) (.mov (.t 0)) <|
                          .op (some 251) (.fa (.t 3) 4) <|
                          .op (some 252) (.ld none (.t 251)) <|
                          .op (some 253) (.ixa true 5 (.t 252) (.k (.int .i64 1))) <|
                          .op (some 254) (.ld (some 5) (.t 253)) <|
                          .call (some 255) (.fn 122) [(.t 250), (.t 254)] <|
                          .op (some 24) (.new [(.int .i64 0), (.int .i64 0), (.int .i64 0), (.str []), (.nil 6), (.nil 7)]) <|
                          .op none (.sto (some 6) (.t 24) (.t 255)) <|
                          .nil)) [3, 250, 251, 252, 253, 254, 255]) <|
                        .seq (.dn (.reg (
                          .op (some 256) (.mov (.t 0)) <|
                          .op (some 257) (.ld (some 6) (.t 23)) <|
                          .op (some 258) (.ld (some 6) (.t 24)) <|
                          .call (some 259) (.fn 131) [(.t 256), (.t 257), (.t 258)] <|
                          .op none (.sto (some 6) (.t 4) (.t 259)) <|
                          .nil)) [0, 23, 24, 256, 257, 258, 259]) <|
                        .ret)
                        (.seq (.dn (.reg (
                          .op (some 261) (.bin .eql (.t 63) (.k (.int .i64 21))) <|
                          .op (some 260) (.mov (.t 261)) <|
                          .nil)) [242, 261]) <|
                        .ite (.t 260) (.seq (.dn (.reg (
                            .op (some 262) (.mov (.t 0)) <|
                            .op (some 263) (.fa (.t 3) 4) <|
                            .op (some 264) (.ld none (.t 263)) <|
                            .op (some 265) (.ixa true 5 (.t 264) (.k (.int .i64 0))) <|
                            .op (some 266) (.ld (some 5) (.t 265)) <|
                            .call (some 267) (.fn 122) [(.t 262), (.t 266)] <|
                            .op (some 25) (.new [(.int .i64 0), (.int .i64 0), (.int .i64 0), (.str []), (.nil 6), (.nil 7)]) <|
                            .op none (.sto (some 6) (.t 25) (.t 267)) <|
                            .nil)) [63, 260, 262, 263, 264, 265, 266, 267]) <|
                          .seq (.dn (.reg (
                            .op (some 268) (.mov (.t 0)) <|
                            .op (some 269) (.fa (.t 3) 4) <|
                            .op (some 270) (.ld none (.t 269)) <|
                            .op (some 271) (.ixa true 5 (.t 270) (.k (.int .i64 1))) <|
                            .op (some 272) (.ld (some 5) (.t 271)) <|
                            .call (some 273) (.fn 122) [(.t 268), (.t 272)] <|
                            .op (some 26) (.new [(.int .i64 0), (.int .i64 0), (.int .i64 0), (.str []), (.nil 6), (.nil 7)]) <|
                            .op none (.sto (some 6) (.t 26) (.t 273)) <|
                            .nil)) [268, 269, 270, 271, 272, 273]) <|
                          .seq (.dn (.reg (
                            .op (some 274) (.mov (.t 0)) <|
                            .op (some 275) (.fa (.t 3) 4) <|
                            .op (some 276) (.ld none (.t 275)) <|
                            .op (some 277) (.ixa true 5 (.t 276) (.k (.int .i64 2))) <|
                            .op (some 278) (.ld (some 5) (.t 277)) <|
                            .call (some 279) (.fn 122) [(.t 274), (.t 278)] <|
                            .op (some 27) (.new [(.int .i64 0), (.int .i64 0), (.int .i64 0), (.str []), (.nil 6), (.nil 7)]) <|
                            .op none (.sto (some 6) (.t 27) (.t 279)) <|
                            .nil)) [3, 274, 275, 276, 277, 278, 279]) <|
                          .seq (.dn (.reg (
                            .op (some 280) (.mov (.t 0)) <|
                            .op (some 281) (.ld (some 6) (.t 25)) <|
                            .op (some 282) (.ld (some 6) (.t 26)) <|
                            .op (some 283) (.ld (some 6) (.t 27)) <|
                            .call (some 284) (.fn 132) [(.t 280), (.t 281), (.t 282), (.t 283)] <|
                            .op none (.sto (some 6) (.t 4) (.t 284)) <|
                            .nil)) [0, 25, 26, 27, 280, 281, 282, 283, 284]) <|
                          .ret)
                          (.seq (.dn (.reg (
                            .op (some 286) (.bin .eql (.t 63) (.k (.int .i64 23))) <|
                            .op (some 285) (.mov (.t 286)) <|
                            .nil)) [260, 286]) <|
                          .ite (.t 285) (.seq (.seq (.dn (.reg (
                              .op (some 287) (.mov (.t 0)) <|
                              .op (some 288) (.fa (.t 3) 4) <|
                              .op (some 289) (.ld none (.t 288)) <|
                              .op (some 290) (.ixa true 5 (.t 289) (.k (.int .i64 0))) <|
                              .op (some 291) (.ld (some 5) (.t 290)) <|
                              .call (some 292) (.fn 54) [(.t 287), (.t 291)] <|
                              .op (some 28) (.new [(.int .i64 0), (.int .i64 0), (.int .i64 0), (.str []), (.nil 6), (.nil 7)]) <|
                              .op none (.sto (some 6) (.t 28) (.t 292)) <|
                              .nil)) [63, 285, 287, 288, 289, 290, 291, 292]) <|
                            .seq (.dn (.reg (
                              .op (some 293) (.mov (.t 0)) <|
                              .op (some 294) (.nck (.t 293)) <|
                              .op (some 295) (.fa (.t 294) 6) <|
                              .op (some 296) (.ld none (.t 295)) <|
                              .op (some 297) (.bin .neq (.t 296) (.k (.int .i64 0))) <|
                              .op (some 298) (.mov (.t 297)) <|
                              .sc 298 false (
                                .op (some 299) (.ld (some 6) (.t 28)) <|
                                .call (some 300) (.fn 13) [(.t 299)] <|
                                .op (some 301) (.not (.t 300)) <|
                                .nil) (.t 301) 302 <|
                              .nil)) [293, 294, 295, 296, 297, 298, 299, 300, 301]) <|
                            .dn (.ite (.t 302) (.seq (.dn (.reg (
                                .op (some 303) (.ld (some 6) (.t 28)) <|
                                .op none (.sto (some 6) (.t 4) (.t 303)) <|
                                .nil)) [0, 3, 28, 302, 303]) <|
                              .ret)
                              (.skip)) [28, 302]) <|
                            .seq (.dn (.reg (
                              .op (some 304) (.mov (.t 0)) <|
                              .op (some 305) (.fa (.t 3) 4) <|
                              .op (some 306) (.ld none (.t 305)) <|
                              .op (some 307) (.ixa true 5 (.t 306) (.k (.int .i64 1))) <|
                              .op (some 308) (.ld (some 5) (.t 307)) <|
                              .call (some 309) (.fn 54) [(.t 304), (.t 308)] <|
                              .op none (.sto (some 6) (.t 4) (.t 309)) <|
                              .nil)) [0, 3, 304, 305, 306, 307, 308, 309]) <|
                            .ret)
                            (.seq (.dn (.reg (
                              .op (some 311) (.bin .eql (.t 63) (.k (.int .i64 24))) <|
                              .op (some 310) (.mov (.t 311)) <|
                              .nil)) [63, 285, 311]) <|
                            .dn (.ite (.t 310) (.seq (.seq (.dn (.reg (
                                .op (some 312) (.mov (.t 0)) <|
                                .op (some 313) (.fa (.t 3) 4) <|
                                .op (some 314) (.ld none (.t 313)) <|
                                .op (some 315) (.ixa true 5 (.t 314) (.k (.int .i64 0))) <|
                                .op (some 316) (.ld (some 5) (.t 315)) <|
                                .call (some 317) (.fn 128) [(.t 312), (.t 316)] <|
                                .nil)) [310, 312, 313, 314, 315, 316]) <|
                              .dn (.ite (.t 317) (.seq (.dn (.reg (
                                  .op (some 318) (.mov (.t 0)) <|
                                  .op (some 319) (.fa (.t 3) 4) <|
                                  .op (some 320) (.ld none (.t 319)) <|
                                  .op (some 321) (.ixa true 5 (.t 320) (.k (.int .i64 1))) <|
                                  .op (some 322) (.ld (some 5) (.t 321)) <|
                                  .call (some 323) (.fn 54) [(.t 318), (.t 322)] <|
                                  .op none (.sto (some 6) (.t 4) (.t 323)) <|
                                  .nil)) [0, 3, 317, 318, 319, 320, 321, 322, 323]) <|
                                .ret)
                                (.skip)) [317]) <|
                              .seq (.dn (.reg (
                                .op (some 324) (.mov (.t 0)) <|
                                .op (some 325) (.fa (.t 3) 4) <|
                                .op (some 326) (.ld none (.t 325)) <|
                                .op (some 327) (.ixa true 5 (.t 326) (.k (.int .i64 2))) <|
                                .op (some 328) (.ld (some 5) (.t 327)) <|
                                .call (some 329) (.fn 54) [(.t 324), (.t 328)] <|
                                .op none (.sto (some 6) (.t 4) (.t 329)) <|
                                .nil)) [0, 3, 324, 325, 326, 327, 328, 329]) <|
                              .ret)
                              (.skip)) [310])))))))))))))) [63, 65, 64, 66, 67, 68, 69, 70, 72, 71, 73, 75, 76, 77, 74, 78, 79, 9, 10, 81, 82, 83, 84, 85, 86, 80, 87, 88, 11, 12, 89, 90, 91, 92, 93, 94, 95, 96, 97, 98, 99, 100, 101, 102, 103, 104, 106, 105, 107, 108, 109, 111, 110, 112, 113, 114, 115, 116, 117, 118, 119, 121, 120, 122, 123, 124, 125, 126, 127, 128, 129, 130, 131, 132, 133, 134, 135, 136, 138, 137, 139, 140, 141, 142, 143, 144, 145, 146, 147, 148, 149, 150, 151, 152, 153, 155, 154, 156, 157, 158, 159, 160, 161, 162, 13, 163, 164, 165, 166, 167, 168, 14, 169, 170, 171, 172, 173, 174, 175, 176, 177, 179, 178, 180, 181, 182, 183, 184, 185, 15, 16, 17, 186, 187, 188, 189, 190, 191, 192, 193, 19, 194, 195, 196, 197, 198, 199, 200, 20, 201, 202, 203, 204, 205, 206, 207, 208, 211, 212, 213, 214, 215, 216, 217, 209, 210, 218, 219, 221, 220, 222, 223, 224, 225, 226, 227, 228, 229, 230, 21, 231, 232, 233, 234, 235, 236, 22, 237, 238, 239, 240, 241, 243, 242, 244, 245, 246, 247, 248, 249, 23, 250, 251, 252, 253, 254, 255, 24, 256, 257, 258, 259, 261, 260, 262, 263, 264, 265, 266, 267, 25, 268, 269, 270, 271, 272, 273, 26, 274, 275, 276, 277, 278, 279, 27, 280, 281, 282, 283, 284, 286, 285, 287, 288, 289, 290, 291, 292, 28, 293, 294, 295, 296, 297, 298, 299, 300, 301, 302, 303, 304, 305, 306, 307, 308, 309, 311, 310, 312, 313, 314, 315, 316, 317, 318, 319, 320, 321, 322, 323, 324, 325, 326, 327, 328, 329]) <|
  .seq (.dn (.regd [(2, 8)] (
    .op (some 330) (.mov (.t 0)) <|
    .op (some 331) (.fa (.t 3) 0) <|
    .op (some 332) (.ld none (.t 331)) <|
    .op (some 333) (.mov (.t 0)) <|
    .op (some 334) (.fa (.t 3) 4) <|
    .op (some 335) (.ld none (.t 334)) <|
    .op (some 336) (.ixa true 5 (.t 335) (.k (.int .i64 0))) <|
    .op (some 337) (.ld (some 5) (.t 336)) <|
    .call (some 338) (.fn 122) [(.t 333), (.t 337)] <|
    .call (some 339) (.fn 133) [(.t 330), (.t 332), (.t 338)] <|
    .op none (.sto (some 6) (.t 4) (.t 339)) <|
    .nil)) [0, 3, 330, 331, 332, 333, 334, 335, 336, 337, 338, 339]) <|
  .ret
theorem ok54 : FnOk Tryz.prog 54 340 ir54 [.cell 4 (some 6)] := FnOk.of Tryz.func54 (by kernel_rfl) (by kernel_rfl) (by kernel_rfl) (by kernel_rfl)
/-- (*manifold/expr.machine).need -/
def ir122 : Ic :=
  .seq (.dn (.reg (
    .op (some 3) (.box (.t 1)) <|
    .op (some 4) (.new [(.int .i64 0), (.int .i64 0), (.int .i64 0), (.str []), (.nil 6), (.nil 7)]) <|
    .nil)) [1]) <|
  .seq (.dn (.reg (
    .op (some 6) (.mov (.t 0)) <|
    .op (some 7) (.ld (some 5) (.t 3)) <|
    .call (some 8) (.fn 54) [(.t 6), (.t 7)] <|
    .op (some 5) (.new [(.int .i64 0), (.int .i64 0), (.int .i64 0), (.str []), (.nil 6), (.nil 7)]) <|
    .op none (.sto (some 6) (.t 5) (.t 8)) <|
    .nil)) [3, 6, 7, 8]) <|
  .seq (.seq (.dn (.reg (
    .op (some 9) (.mov (.t 0)) <|
    .op (some 10) (.nck (.t 9)) <|
    .op (some 11) (.fa (.t 10) 6) <|
    .op (some 12) (.ld none (.t 11)) <|
    .op (some 13) (.bin .eql (.t 12) (.k (.int .i64 0))) <|
    .op (some 14) (.mov (.t 13)) <|
    .sc 14 true (
      .op (some 15) (.ld (some 6) (.t 5)) <|
      .call (some 16) (.fn 13) [(.t 15)] <|
      .nil) (.t 16) 17 <|
    .nil)) [9, 10, 11, 12, 13, 14, 15, 16]) <|
  .dn (.ite (.t 17) (.seq (.dn (.reg (
      .op (some 18) (.mov (.t 0)) <|
      .call (some 19) (.fn 126) [(.t 18), (.k (.int .i64 19))] <|
      .op none (.sto (some 6) (.t 4) (.t 19)) <|
      .nil)) [0, 5, 17, 18, 19]) <|
    .ret)
    (.skip)) [0, 17]) <|
  .seq (.dn (.reg (
    .op (some 20) (.ld (some 6) (.t 5)) <|
    .op none (.sto (some 6) (.t 4) (.t 20)) <|
    .nil)) [5, 20]) <|
  .ret
theorem ok122 : FnOk Tryz.prog 122 21 ir122 [.cell 4 (some 6)] := FnOk.of Tryz.func122 (by kernel_rfl) (by kernel_rfl) (by kernel_rfl) (by kernel_rfl)
/-- manifold/expr.relations -/
def ir121 : Ic :=
  .seq (.dn (.reg (
    .op (some 0) (.mov (.k .nilMap)) <|
    .nil)) [0]) <|
  .seq (.dn (.reg (
    .op (some 1) (.mkm) <|
    .op none (.mpu .i (.t 1) (.k (.int .i64 8)) (.k (.fn (.func 172) [] []))) <|
    .op none (.mpu .i (.t 1) (.k (.int .i64 9)) (.k (.fn (.func 173) [] []))) <|
    .op none (.mpu .i (.t 1) (.k (.int .i64 10)) (.k (.fn (.func 174) [] []))) <|
    .op none (.mpu .i (.t 1) (.k (.int .i64 11)) (.k (.fn (.func 175) [] []))) <|
    .op (some 2) (.mov (.t 1)) <|
    .op (some 0) (.mov (.t 2)) <|
    .nil)) [1, 2]) <|
  .ret
theorem ok121 : FnOk Tryz.prog 121 3 ir121 [.tmp 0] := FnOk.of Tryz.func121 (by kernel_rfl) (by kernel_rfl) (by kernel_rfl) (by kernel_rfl)
/-- manifold/expr.relations$1 -/
def ir172 : Ic :=
  .seq (.dn (.reg (
    .op (some 2) (.mov (.k (.bool false))) <|
    .nil)) [2]) <|
  .seq (.dn (.reg (
    .op (some 3) (.mov (.t 0)) <|
    .op (some 4) (.bin .lss (.t 3) (.k (.int .i64 0))) <|
    .op (some 2) (.mov (.t 4)) <|
    .nil)) [0, 3, 4]) <|
  .ret
theorem ok172 : FnOk Tryz.prog 172 5 ir172 [.tmp 2] := FnOk.of Tryz.func172 (by kernel_rfl) (by kernel_rfl) (by kernel_rfl) (by kernel_rfl)
/-- manifold/expr.relations$2 -/
def ir173 : Ic :=
  .seq (.dn (.reg (
    .op (some 2) (.mov (.k (.bool false))) <|
    .nil)) [2]) <|
  .seq (.dn (.reg (
    .op (some 3) (.mov (.t 0)) <|
    .op (some 4) (.bin .leq (.t 3) (.k (.int .i64 0))) <|
    .op (some 2) (.mov (.t 4)) <|
    .nil)) [0, 3, 4]) <|
  .ret
theorem ok173 : FnOk Tryz.prog 173 5 ir173 [.tmp 2] := FnOk.of Tryz.func173 (by kernel_rfl) (by kernel_rfl) (by kernel_rfl) (by kernel_rfl)
/-- manifold/expr.relations$3 -/
def ir174 : Ic :=
  .seq (.dn (.reg (
    .op (some 2) (.mov (.k (.bool false))) <|
    .nil)) [2]) <|
  .seq (.dn (.reg (
    .op (some 3) (.mov (.t 0)) <|
    .op (some 4) (.bin .gtr (.t 3) (.k (.int .i64 0))) <|
    .op (some 2) (.mov (.t 4)) <|
    .nil)) [0, 3, 4]) <|
  .ret
theorem ok174 : FnOk Tryz.prog 174 5 ir174 [.tmp 2] := FnOk.of Tryz.func174 (by kernel_rfl) (by kernel_rfl) (by kernel_rfl) (by kernel_rfl)
/-- manifold/expr.relations$4 -/
def ir175 : Ic :=
  .seq (.dn (.reg (
    .op (some 2) (.mov (.k (.bool false))) <|
    .nil)) [2]) <|
  .seq (.dn (.reg (
    .op (some 3) (.mov (.t 0)) <|
    .op (some 4) (.bin .geq (.t 3) (.k (.int .i64 0))) <|
    .op (some 2) (.mov (.t 4)) <|
    .nil)) [0, 3, 4]) <|
  .ret
theorem ok175 : FnOk Tryz.prog 175 5 ir175 [.tmp 2] := FnOk.of Tryz.func175 (by kernel_rfl) (by kernel_rfl) (by kernel_rfl) (by kernel_rfl)
/-- (*manifold/expr.machine).compare -/
def ir124 : Ic :=
  .seq (.dn (.reg (
    .op (some 4) (.box (.t 1)) <|
    .op (some 5) (.box (.t 2)) <|
    .op (some 6) (.mov (.k (.int .i64 0))) <|
    .nil)) [1, 2, 6]) <|
  .seq (.dn (.block 0 (
    .seq (.dn (.reg (
      .op (some 10) (.mov (.t 0)) <|
      .op (some 11) (.nck (.t 10)) <|
      .op (some 12) (.fa (.t 11) 6) <|
      .op (some 13) (.ld none (.t 12)) <|
      .op (some 14) (.bin .neq (.t 13) (.k (.int .i64 0))) <|
      .op (some 9) (.mov (.t 14)) <|
      .nil)) [10, 11, 12, 13, 14]) <|
    .dn (.ite (.t 9) (.seq (.dn (.reg (
        .op (some 6) (.mov (.k (.int .i64 0))) <|
        .nil)) [0, 4, 5, 9]) <|
      .ret)
      (.seq (.dn (.reg (
        .op (some 16) (.ld (some 6) (.t 4)) <|
        .call (some 17) (.fn 176) [(.t 16)] <|
        .op (some 18) (.mov (.t 17)) <|
        .sc 18 true (
          .op (some 19) (.ld (some 6) (.t 5)) <|
          .call (some 20) (.fn 176) [(.t 19)] <|
          .nil) (.t 20) 21 <|
        .op (some 15) (.mov (.t 21)) <|
        .nil)) [9, 16, 17, 18, 19, 20, 21]) <|
      .dn (.ite (.t 15) (.seq (.dn (.regd [(1, 2)] (
          .op (some 23) (.ld (some 6) (.t 4)) <|
          .call (some 24) (.fn 177) [(.t 23)] <|
          .op (some 25) (.ld (some 6) (.t 5)) <|
          .call (some 26) (.fn 177) [(.t 25)] <|
          .call (some 27) (.fn 23) [(.t 24), (.t 26)] <|
          .op (some 22) (.mov (.t 27)) <|
          .op (some 28) (.ext (.t 22) 0) <|
          .op (some 29) (.ext (.t 22) 1) <|
          .op (some 7) (.mov (.t 28)) <|
          .op (some 8) (.mov (.t 29)) <|
          .nil)) [4, 5, 15, 23, 24, 25, 26, 27, 22, 28, 29]) <|
        .seq (.seq (.dn (.reg (
          .op (some 30) (.mov (.t 8)) <|
          .op (some 31) (.bin .neq (.t 30) (.k (.int .i64 0))) <|
          .nil)) [30]) <|
        .dn (.ite (.t 31) (.dn (.reg (
            .op (some 32) (.mov (.t 0)) <|
            .op (some 33) (.mov (.t 8)) <|
            .call (some 34) (.fn 126) [(.t 32), (.t 33)] <|
            .nil)) [0, 8, 31, 32, 33, 34])
          (.skip)) [0, 8, 31]) <|
        .seq (.dn (.reg (
          .op (some 35) (.mov (.t 7)) <|
          .op (some 6) (.mov (.t 35)) <|
          .nil)) [7, 35]) <|
        .ret)
        (.seq (.dn (.reg (
          .op (some 37) (.fa (.t 4) 0) <|
          .op (some 38) (.ld none (.t 37)) <|
          .op (some 39) (.bin .eql (.t 38) (.k (.int .i64 4))) <|
          .op (some 40) (.mov (.t 39)) <|
          .sc 40 true (
            .op (some 41) (.fa (.t 5) 0) <|
            .op (some 42) (.ld none (.t 41)) <|
            .op (some 43) (.bin .eql (.t 42) (.k (.int .i64 4))) <|
            .nil) (.t 43) 44 <|
          .op (some 36) (.mov (.t 44)) <|
          .nil)) [15, 37, 38, 39, 40, 41, 42, 43, 44]) <|
        .dn (.ite (.t 36) (.seq (.dn (.reg (
            .op (some 45) (.fa (.t 4) 3) <|
            .op (some 46) (.ld none (.t 45)) <|
            .op (some 47) (.fa (.t 5) 3) <|
            .op (some 48) (.ld none (.t 47)) <|
            .call (some 49) (.fn 78) [(.t 46), (.t 48)] <|
            .op (some 6) (.mov (.t 49)) <|
            .nil)) [0, 4, 5, 36, 45, 46, 47, 48, 49]) <|
          .ret)
          (.seq (.dn (.reg (
            .op (some 51) (.fa (.t 4) 0) <|
            .op (some 52) (.ld none (.t 51)) <|
            .op (some 53) (.fa (.t 5) 0) <|
            .op (some 54) (.ld none (.t 53)) <|
            .op (some 55) (.bin .eql (.t 52) (.t 54)) <|
            .op (some 56) (.mov (.t 55)) <|
            .sc 56 true (
              .op (some 57) (.fa (.t 4) 0) <|
              .op (some 58) (.ld none (.t 57)) <|
              .op (some 59) (.bin .eql (.t 58) (.k (.int .i64 6))) <|
              .op (some 60) (.mov (.t 59)) <|
              .sc 60 false (
                .op (some 61) (.fa (.t 4) 0) <|
                .op (some 62) (.ld none (.t 61)) <|
                .op (some 63) (.bin .eql (.t 62) (.k (.int .i64 7))) <|
                .nil) (.t 63) 64 <|
              .op (some 65) (.mov (.t 64)) <|
              .sc 65 false (
                .op (some 66) (.fa (.t 4) 0) <|
                .op (some 67) (.ld none (.t 66)) <|
                .op (some 68) (.bin .eql (.t 67) (.k (.int .i64 1))) <|
                .nil) (.t 68) 69 <|
              .nil) (.t 69) 70 <|
            .op (some 50) (.mov (.t 70)) <|
            .nil)) [36, 51, 52, 53, 54, 55, 56, 57, 58, 59, 60, 61, 62, 63, 64, 65, 66, 67, 68, 69, 70]) <|
          .dn (.ite (.t 50) (.seq (.dn (.reg (
              .op (some 71) (.fa (.t 4) 1) <|
              .op (some 72) (.ld none (.t 71)) <|
              .op (some 73) (.fa (.t 5) 1) <|
              .op (some 74) (.ld none (.t 73)) <|
              .call (some 75) (.fn 63) [(.t 72), (.t 74)] <|
              .op (some 6) (.mov (.t 75)) <|
              .nil)) [0, 4, 5, 50, 71, 72, 73, 74, 75]) <|
            .ret)
            (.skip)) [6, 4, 5, 50])) [6])) [6])) [6])) [4, 5, 10, 11, 12, 13, 14, 9, 6, 16, 17, 18, 19, 20, 21, 15, 23, 24, 25, 26, 27, 22, 28, 29, 7, 8, 30, 31, 32, 33, 34, 35, 37, 38, 39, 40, 41, 42, 43, 44, 36, 45, 46, 47, 48, 49, 51, 52, 53, 54, 55, 56, 57, 58, 59, 60, 61, 62, 63, 64, 65, 66, 67, 68, 69, 70, 50, 71, 72, 73, 74, 75]) <|
  .seq (.dn (.reg (
    .op (some 76) (.mov (.t 0)) <|
    .call (some 77) (.fn 126) [(.t 76), (.k (.int .i64 18))] <|
    .nil)) [0, 76, 77]) <|
  .seq (.reg (
    .op (some 6) (.mov (.k (.int .i64 0))) <|
    .nil)) <|
  .ret
theorem ok124 : FnOk Tryz.prog 124 78 ir124 [.tmp 6] := FnOk.of Tryz.func124 (by kernel_rfl) (by kernel_rfl) (by kernel_rfl) (by kernel_rfl)
/-- (*manifold/expr.machine).arithmetic -/
def ir130 : Ic :=
  .seq (.dn (.reg (
    .op (some 5) (.box (.t 1)) <|
    .op (some 6) (.box (.t 2)) <|
    .op (some 7) (.box (.t 3)) <|
    .op (some 8) (.new [(.int .i64 0), (.int .i64 0), (.int .i64 0), (.str []), (.nil 6), (.nil 7)]) <|
    .nil)) [1, 2, 3]) <|
  .seq (.seq (.dn (.reg (
    .op (some 12) (.mov (.t 0)) <|
    .op (some 13) (.nck (.t 12)) <|
    .op (some 14) (.fa (.t 13) 6) <|
    .op (some 15) (.ld none (.t 14)) <|
    .op (some 16) (.bin .neq (.t 15) (.k (.int .i64 0))) <|
    .nil)) [12, 13, 14, 15]) <|
  .dn (.ite (.t 16) (.seq (.dn (.reg (
      .op (some 17) (.bld [(.int .i64 0), (.int .i64 0), (.int .i64 0), (.str []), (.nil 6), (.nil 7)] []) <|
      .op none (.sto (some 6) (.t 8) (.t 17)) <|
      .nil)) [0, 5, 6, 7, 16, 17]) <|
    .ret)
    (.skip)) [16]) <|
  .seq (.seq (.dn (.reg (
    .op (some 18) (.ld (some 6) (.t 6)) <|
    .call (some 19) (.fn 176) [(.t 18)] <|
    .op (some 20) (.not (.t 19)) <|
    .op (some 21) (.mov (.t 20)) <|
    .sc 21 false (
      .op (some 22) (.ld (some 6) (.t 7)) <|
      .call (some 23) (.fn 176) [(.t 22)] <|
      .op (some 24) (.not (.t 23)) <|
      .nil) (.t 24) 25 <|
    .nil)) [18, 19, 20, 21, 22, 23, 24]) <|
  .dn (.ite (.t 25) (.seq (.dn (.reg (
      .op (some 26) (.mov (.t 0)) <|
      .call (some 27) (.fn 126) [(.t 26), (.k (.int .i64 18))] <|
      .op none (.sto (some 6) (.t 8) (.t 27)) <|
      .nil)) [0, 5, 6, 7, 25, 26, 27]) <|
    .ret)
    (.skip)) [25]) <|
  .seq (.dn (.reg (
    .op (some 28) (.fa (.t 6) 0) <|
    .op (some 29) (.ld none (.t 28)) <|
    .op (some 30) (.bin .eql (.t 29) (.k (.int .i64 2))) <|
    .op (some 31) (.mov (.t 30)) <|
    .sc 31 true (
      .op (some 32) (.fa (.t 7) 0) <|
      .op (some 33) (.ld none (.t 32)) <|
      .op (some 34) (.bin .eql (.t 33) (.k (.int .i64 2))) <|
      .nil) (.t 34) 35 <|
    .op (some 9) (.mov (.t 35)) <|
    .nil)) [28, 29, 30, 31, 32, 33, 34, 35]) <|
  .seq (.reg (
    .op (some 10) (.new [(.int .i64 0), (.int .i64 0)]) <|
    .nil)) <|
  .seq (.dn (.reg (
    .op (some 11) (.mov (.k (.int .i64 0))) <|
    .nil)) [11]) <|
  .seq (.seq (.dn (.reg (
    .op (some 36) (.fa (.t 5) 0) <|
    .op (some 37) (.ld none (.t 36)) <|
    .nil)) [36]) <|
  .dn (.block 0 (
    .seq (.dn (.reg (
      .op (some 49) (.bin .eql (.t 37) (.k (.int .i64 12))) <|
      .op (some 48) (.mov (.t 49)) <|
      .nil)) [49]) <|
    .ite (.t 48) (.dn (.regd [(1, 2)] (
        .op (some 51) (.ld (some 6) (.t 6)) <|
        .call (some 52) (.fn 177) [(.t 51)] <|
        .op (some 53) (.ld (some 6) (.t 7)) <|
        .call (some 54) (.fn 177) [(.t 53)] <|
        .call (some 55) (.fn 22) [(.t 52), (.t 54)] <|
        .op (some 50) (.mov (.t 55)) <|
        .op (some 56) (.ext (.t 50) 0) <|
        .op (some 57) (.ext (.t 50) 1) <|
        .op none (.sto (some 2) (.t 10) (.t 56)) <|
        .op (some 11) (.mov (.t 57)) <|
        .nil)) [5, 6, 7, 37, 48, 51, 52, 53, 54, 55, 50, 56, 57])
      (.seq (.dn (.reg (
        .op (some 59) (.bin .eql (.t 37) (.k (.int .i64 13))) <|
        .op (some 58) (.mov (.t 59)) <|
        .nil)) [48, 59]) <|
      .ite (.t 58) (.dn (.regd [(1, 2)] (
          .op (some 61) (.ld (some 6) (.t 6)) <|
          .call (some 62) (.fn 177) [(.t 61)] <|
          .op (some 63) (.ld (some 6) (.t 7)) <|
          .call (some 64) (.fn 177) [(.t 63)] <|
          .call (some 65) (.fn 182) [(.t 62), (.t 64)] <|
          .op (some 60) (.mov (.t 65)) <|
          .op (some 66) (.ext (.t 60) 0) <|
          .op (some 67) (.ext (.t 60) 1) <|
          .op none (.sto (some 2) (.t 10) (.t 66)) <|
          .op (some 11) (.mov (.t 67)) <|
          .nil)) [5, 6, 7, 37, 58, 61, 62, 63, 64, 65, 60, 66, 67])
        (.seq (.dn (.reg (
          .op (some 69) (.bin .eql (.t 37) (.k (.int .i64 14))) <|
          .op (some 68) (.mov (.t 69)) <|
          .nil)) [37, 58, 69]) <|
        .ite (.t 68) (.dn (.regd [(1, 2)] (
            .op (some 71) (.ld (some 6) (.t 6)) <|
            .call (some 72) (.fn 177) [(.t 71)] <|
            .op (some 73) (.ld (some 6) (.t 7)) <|
            .call (some 74) (.fn 177) [(.t 73)] <|
            .call (some 75) (.fn 183) [(.t 72), (.t 74)] <|
            .op (some 70) (.mov (.t 75)) <|
            .op (some 76) (.ext (.t 70) 0) <|
            .op (some 77) (.ext (.t 70) 1) <|
            .op none (.sto (some 2) (.t 10) (.t 76)) <|
            .op (some 11) (.mov (.t 77)) <|
            .nil)) [5, 6, 7, 68, 71, 72, 73, 74, 75, 70, 76, 77])
          (.seq (.dn (.regd [(1, 2), (1, 5), (3, 5)] (
            .op (some 39) (.ld (some 6) (.t 6)) <|
            .call (some 40) (.fn 177) [(.t 39)] <|
            .op (some 41) (.ld (some 6) (.t 7)) <|
            .call (some 42) (.fn 177) [(.t 41)] <|
            .op (some 43) (.fa (.t 5) 1) <|
            .op (some 44) (.ld none (.t 43)) <|
            .call (some 45) (.fn 24) [(.t 40), (.t 42), (.t 44)] <|
            .op (some 38) (.mov (.t 45)) <|
            .op (some 46) (.ext (.t 38) 0) <|
            .op (some 47) (.ext (.t 38) 1) <|
            .op none (.sto (some 2) (.t 10) (.t 46)) <|
            .op (some 11) (.mov (.t 47)) <|
            .nil)) [5, 6, 7, 9, 68, 39, 40, 41, 42, 43, 44, 45, 38, 46, 47]) <|
          .reg (
            .op (some 9) (.mov (.k (.bool false))) <|
            .nil)))))) [5, 6, 7, 37, 49, 48, 51, 52, 53, 54, 55, 50, 56, 57, 59, 58, 61, 62, 63, 64, 65, 60, 66, 67, 69, 68, 71, 72, 73, 74, 75, 70, 76, 77, 39, 40, 41, 42, 43, 44, 45, 38, 46, 47]) <|
  .seq (.dn (.reg (
    .op (some 78) (.mov (.t 0)) <|
    .op (some 79) (.mov (.t 9)) <|
    .op (some 80) (.ld (some 2) (.t 10)) <|
    .op (some 81) (.mov (.t 11)) <|
    .call (some 82) (.fn 181) [(.t 78), (.t 79), (.t 80), (.t 81)] <|
    .op none (.sto (some 6) (.t 8) (.t 82)) <|
    .nil)) [0, 9, 10, 11, 78, 79, 80, 81, 82]) <|
  .ret
theorem ok130 : FnOk Tryz.prog 130 83 ir130 [.cell 8 (some 6)] := FnOk.of Tryz.func130 (by kernel_rfl) (by kernel_rfl) (by kernel_rfl) (by kernel_rfl)
/-- (*manifold/expr.machine).number -/
def ir181 : Ic :=
  .seq (.dn (.reg (
    .op (some 6) (.box (.t 2)) <|
    .op (some 8) (.new [(.int .i64 0), (.int .i64 0), (.int .i64 0), (.str []), (.nil 6), (.nil 7)]) <|
    .nil)) [2]) <|
  .seq (.dn (.block 0 (
    .seq (.dn (.reg (
      .op (some 10) (.mov (.t 3)) <|
      .op (some 11) (.bin .neq (.t 10) (.k (.int .i64 0))) <|
      .op (some 9) (.mov (.t 11)) <|
      .nil)) [10, 11]) <|
    .ite (.t 9) (.seq (.dn (.reg (
        .op (some 12) (.mov (.t 0)) <|
        .op (some 13) (.mov (.t 3)) <|
        .call (some 14) (.fn 126) [(.t 12), (.t 13)] <|
        .op none (.sto (some 6) (.t 8) (.t 14)) <|
        .nil)) [0, 1, 3, 6, 9, 12, 13, 14]) <|
      .ret)
      (.seq (.dn (.reg (
        .op (some 16) (.mov (.t 1)) <|
        .op (some 15) (.mov (.t 16)) <|
        .nil)) [0, 1, 3, 9, 16]) <|
      .dn (.ite (.t 15) (.seq (.dn (.reg (
          .op (some 17) (.fa (.t 6) 0) <|
          .op (some 18) (.ld none (.t 17)) <|
          .call (some 19) (.fn 36) [(.t 18)] <|
          .op none (.sto (some 6) (.t 8) (.t 19)) <|
          .nil)) [6, 15, 17, 18, 19]) <|
        .ret)
        (.skip)) [15]))) [0, 1, 3, 10, 11, 9, 12, 13, 14, 16, 15, 17, 18, 19]) <|
  .seq (.dn (.reg (
    .op (some 20) (.fa (.t 6) 0) <|
    .op (some 21) (.ld none (.t 20)) <|
    .op (some 22) (.fa (.t 6) 1) <|
    .op (some 23) (.ld none (.t 22)) <|
    .call (some 24) (.fn 57) [(.t 21), (.t 23)] <|
    .op none (.sto (some 6) (.t 8) (.t 24)) <|
    .nil)) [6, 20, 21, 22, 23, 24]) <|
  .ret
theorem ok181 : FnOk Tryz.prog 181 25 ir181 [.cell 8 (some 6)] := FnOk.of Tryz.func181 (by kernel_rfl) (by kernel_rfl) (by kernel_rfl) (by kernel_rfl)
/-- manifold/expr.isNumber -/
def ir176 : Ic :=
  .seq (.dn (.reg (
    .op (some 1) (.box (.t 0)) <|
    .op (some 2) (.mov (.k (.bool false))) <|
    .nil)) [0, 2]) <|
  .seq (.dn (.reg (
    .op (some 3) (.fa (.t 1) 0) <|
    .op (some 4) (.ld none (.t 3)) <|
    .op (some 5) (.bin .eql (.t 4) (.k (.int .i64 2))) <|
    .op (some 6) (.mov (.t 5)) <|
    .sc 6 false (
      .op (some 7) (.fa (.t 1) 0) <|
      .op (some 8) (.ld none (.t 7)) <|
      .op (some 9) (.bin .eql (.t 8) (.k (.int .i64 3))) <|
      .nil) (.t 9) 10 <|
    .op (some 2) (.mov (.t 10)) <|
    .nil)) [1, 3, 4, 5, 6, 7, 8, 9, 10]) <|
  .ret
theorem ok176 : FnOk Tryz.prog 176 11 ir176 [.tmp 2] := FnOk.of Tryz.func176 (by kernel_rfl) (by kernel_rfl) (by kernel_rfl) (by kernel_rfl)
/-- manifold/expr.of -/
def ir177 : Ic :=
  .seq (.dn (.reg (
    .op (some 1) (.box (.t 0)) <|
    .op (some 2) (.new [(.int .i64 0), (.int .i64 0)]) <|
    .nil)) [0]) <|
  .seq (.seq (.dn (.reg (
    .op (some 3) (.fa (.t 1) 0) <|
    .op (some 4) (.ld none (.t 3)) <|
    .op (some 5) (.bin .eql (.t 4) (.k (.int .i64 2))) <|
    .nil)) [3, 4]) <|
  .dn (.ite (.t 5) (.seq (.dn (.reg (
      .op (some 6) (.fa (.t 1) 1) <|
      .op (some 7) (.ld none (.t 6)) <|
      .op (some 8) (.bld [(.int .i64 0), (.int .i64 0)] [(0, 1, (.t 7))]) <|
      .op none (.sto (some 2) (.t 2) (.t 8)) <|
      .nil)) [1, 5, 6, 7, 8]) <|
    .ret)
    (.skip)) [5]) <|
  .seq (.dn (.reg (
    .op (some 9) (.fa (.t 1) 1) <|
    .op (some 10) (.ld none (.t 9)) <|
    .op (some 11) (.fa (.t 1) 2) <|
    .op (some 12) (.ld none (.t 11)) <|
    .op (some 13) (.bld [(.int .i64 0), (.int .i64 0)] [(0, 1, (.t 10)), (1, 1, (.t 12))]) <|
    .op none (.sto (some 2) (.t 2) (.t 13)) <|
    .nil)) [1, 9, 10, 11, 12, 13]) <|
  .ret
theorem ok177 : FnOk Tryz.prog 177 14 ir177 [.cell 2 (some 2)] := FnOk.of Tryz.func177 (by kernel_rfl) (by kernel_rfl) (by kernel_rfl) (by kernel_rfl)
/-- (*manifold/expr.machine).fail -/
def ir126 : Ic :=
  .seq (.reg (
    .op (some 4) (.new [(.int .i64 0), (.int .i64 0), (.int .i64 0), (.str []), (.nil 6), (.nil 7)]) <|
    .nil)) <|
  .seq (.seq (.dn (.reg (
    .op (some 5) (.mov (.t 0)) <|
    .op (some 6) (.nck (.t 5)) <|
    .op (some 7) (.fa (.t 6) 6) <|
    .op (some 8) (.ld none (.t 7)) <|
    .op (some 9) (.bin .eql (.t 8) (.k (.int .i64 0))) <|
    .nil)) [5, 6, 7, 8]) <|
  .dn (.ite (.t 9) (.dn (.reg (
      .op (some 10) (.mov (.t 0)) <|
      .op (some 11) (.mov (.t 1)) <|
      .op (some 12) (.nck (.t 10)) <|
      .op (some 13) (.fa (.t 12) 6) <|
      .op none (.sto none (.t 13) (.t 11)) <|
      .nil)) [0, 1, 9, 10, 11, 12, 13])
    (.skip)) [0, 1, 9]) <|
  .seq (.dn (.reg (
    .op (some 14) (.bld [(.int .i64 0), (.int .i64 0), (.int .i64 0), (.str []), (.nil 6), (.nil 7)] []) <|
    .op none (.sto (some 6) (.t 4) (.t 14)) <|
    .nil)) [14]) <|
  .ret
theorem ok126 : FnOk Tryz.prog 126 15 ir126 [.cell 4 (some 6)] := FnOk.of Tryz.func126 (by kernel_rfl) (by kernel_rfl) (by kernel_rfl) (by kernel_rfl)
/-- manifold/value.Bool -/
def ir123 : Ic :=
  .seq (.reg (
    .op (some 2) (.new [(.int .i64 0), (.int .i64 0), (.int .i64 0), (.str []), (.nil 6), (.nil 7)]) <|
    .nil)) <|
  .seq (.seq (.dn (.reg (
    .op (some 3) (.mov (.t 0)) <|
    .nil)) [0]) <|
  .dn (.ite (.t 3) (.seq (.dn (.reg (
      .op (some 4) (.bld [(.int .i64 0), (.int .i64 0), (.int .i64 0), (.str []), (.nil 6), (.nil 7)] [(0, 1, (.k (.int .i64 1))), (1, 1, (.k (.int .i64 1)))]) <|
      .op none (.sto (some 6) (.t 2) (.t 4)) <|
      .nil)) [3, 4]) <|
    .ret)
    (.skip)) [3]) <|
  .seq (.dn (.reg (
    .op (some 5) (.bld [(.int .i64 0), (.int .i64 0), (.int .i64 0), (.str []), (.nil 6), (.nil 7)] [(0, 1, (.k (.int .i64 1)))]) <|
    .op none (.sto (some 6) (.t 2) (.t 5)) <|
    .nil)) [5]) <|
  .ret
theorem ok123 : FnOk Tryz.prog 123 6 ir123 [.cell 2 (some 6)] := FnOk.of Tryz.func123 (by kernel_rfl) (by kernel_rfl) (by kernel_rfl) (by kernel_rfl)
/-- manifold/value.Decimal -/
def ir57 : Ic :=
  .seq (.reg (
    .op (some 4) (.new [(.int .i64 0), (.int .i64 0), (.int .i64 0), (.str []), (.nil 6), (.nil 7)]) <|
    .nil)) <|
  .seq (.dn (.reg (
    .op (some 5) (.mov (.t 0)) <|
    .op (some 6) (.mov (.t 1)) <|
    .op (some 7) (.bld [(.int .i64 0), (.int .i64 0), (.int .i64 0), (.str []), (.nil 6), (.nil 7)] [(0, 1, (.k (.int .i64 3))), (1, 1, (.t 5)), (2, 1, (.t 6))]) <|
    .op none (.sto (some 6) (.t 4) (.t 7)) <|
    .nil)) [0, 1, 5, 6, 7]) <|
  .ret
theorem ok57 : FnOk Tryz.prog 57 8 ir57 [.cell 4 (some 6)] := FnOk.of Tryz.func57 (by kernel_rfl) (by kernel_rfl) (by kernel_rfl) (by kernel_rfl)
/-- manifold/value.Int -/
def ir36 : Ic :=
  .seq (.reg (
    .op (some 2) (.new [(.int .i64 0), (.int .i64 0), (.int .i64 0), (.str []), (.nil 6), (.nil 7)]) <|
    .nil)) <|
  .seq (.dn (.reg (
    .op (some 3) (.mov (.t 0)) <|
    .op (some 4) (.bld [(.int .i64 0), (.int .i64 0), (.int .i64 0), (.str []), (.nil 6), (.nil 7)] [(0, 1, (.k (.int .i64 2))), (1, 1, (.t 3))]) <|
    .op none (.sto (some 6) (.t 2) (.t 4)) <|
    .nil)) [0, 3, 4]) <|
  .ret
theorem ok36 : FnOk Tryz.prog 36 5 ir36 [.cell 2 (some 6)] := FnOk.of Tryz.func36 (by kernel_rfl) (by kernel_rfl) (by kernel_rfl) (by kernel_rfl)
/-- manifold/decimal.Check -/
def ir21 : Ic :=
  .seq (.dn (.reg (
    .op (some 1) (.box (.t 0)) <|
    .op (some 2) (.mov (.k (.int .i64 0))) <|
    .nil)) [0, 2]) <|
  .seq (.seq (.dn (.reg (
    .op (some 3) (.fa (.t 1) 0) <|
    .op (some 4) (.ld none (.t 3)) <|
    .call (some 5) (.fn 58) [(.t 4)] <|
    .op (some 6) (.bin .gtr (.t 5) (.k (.int .i64 999999999999999))) <|
    .op (some 7) (.mov (.t 6)) <|
    .sc 7 false (
      .op (some 8) (.fa (.t 1) 0) <|
      .op (some 9) (.ld none (.t 8)) <|
      .op (some 10) (.bin .lss (.t 9) (.k (.int .i64 (-999999999999999)))) <|
      .nil) (.t 10) 11 <|
    .op (some 12) (.mov (.t 11)) <|
    .sc 12 false (
      .op (some 13) (.fa (.t 1) 1) <|
      .op (some 14) (.ld none (.t 13)) <|
      .op (some 15) (.bin .lss (.t 14) (.k (.int .i64 0))) <|
      .nil) (.t 15) 16 <|
    .op (some 17) (.mov (.t 16)) <|
    .sc 17 false (
      .op (some 18) (.fa (.t 1) 1) <|
      .op (some 19) (.ld none (.t 18)) <|
      .op (some 20) (.bin .gtr (.t 19) (.k (.int .i64 12))) <|
      .nil) (.t 20) 21 <|
    .nil)) [1, 3, 4, 5, 6, 7, 8, 9, 10, 11, 12, 13, 14, 15, 16, 17, 18, 19, 20]) <|
  .dn (.ite (.t 21) (.seq (.dn (.reg (
      .op (some 2) (.mov (.k (.int .i64 2))) <|
      .nil)) [21]) <|
    .ret)
    (.skip)) [2, 21]) <|
  .seq (.reg (
    .op (some 2) (.mov (.k (.int .i64 0))) <|
    .nil)) <|
  .ret
theorem ok21 : FnOk Tryz.prog 21 22 ir21 [.tmp 2] := FnOk.of Tryz.func21 (by kernel_rfl) (by kernel_rfl) (by kernel_rfl) (by kernel_rfl)
/-- manifold/decimal.Add -/
def ir22 : Ic :=
  .seq (.dn (.reg (
    .op (some 2) (.box (.t 0)) <|
    .op (some 3) (.box (.t 1)) <|
    .op (some 4) (.new [(.int .i64 0), (.int .i64 0)]) <|
    .op (some 5) (.mov (.k (.int .i64 0))) <|
    .nil)) [0, 1, 5]) <|
  .seq (.seq (.dn (.reg (
    .op (some 7) (.ld (some 2) (.t 2)) <|
    .op (some 8) (.ld (some 2) (.t 3)) <|
    .op (some 9) (.bls 2 [(.t 7), (.t 8)]) <|
    .call (some 10) (.fn 59) [(.t 9)] <|
    .op (some 6) (.mov (.t 10)) <|
    .nil)) [7, 8, 9, 10]) <|
  .seq (.dn (.reg (
    .op (some 11) (.mov (.t 6)) <|
    .op (some 12) (.bin .neq (.t 11) (.k (.int .i64 0))) <|
    .nil)) [11]) <|
  .dn (.ite (.t 12) (.seq (.dn (.reg (
      .op (some 13) (.bld [(.int .i64 0), (.int .i64 0)] []) <|
      .op (some 14) (.mov (.t 6)) <|
      .op none (.sto (some 2) (.t 4) (.t 13)) <|
      .op (some 5) (.mov (.t 14)) <|
      .nil)) [2, 3, 6, 12, 13, 14]) <|
    .ret)
    (.skip)) [5, 6, 12]) <|
  .seq (.dn (.reg (
    .op (some 15) (.ld (some 2) (.t 2)) <|
    .op (some 16) (.ld (some 2) (.t 3)) <|
    .op (some 17) (.bls 2 [(.t 15), (.t 16)]) <|
    .op (some 18) (.fa (.t 2) 1) <|
    .op (some 19) (.ld none (.t 18)) <|
    .op (some 20) (.fa (.t 3) 1) <|
    .op (some 21) (.ld none (.t 20)) <|
    .op (some 22) (.mx (.t 19) (.t 21)) <|
    .call (some 23) (.fn 60) [(.t 17), (.t 22)] <|
    .op (some 24) (.ext (.t 23) 0) <|
    .op (some 25) (.ext (.t 23) 1) <|
    .op none (.sto (some 2) (.t 4) (.t 24)) <|
    .op (some 5) (.mov (.t 25)) <|
    .nil)) [2, 3, 15, 16, 17, 18, 19, 20, 21, 22, 23, 24, 25]) <|
  .ret
theorem ok22 : FnOk Tryz.prog 22 26 ir22 [.cell 4 (some 2), .tmp 5] := FnOk.of Tryz.func22 (by kernel_rfl) (by kernel_rfl) (by kernel_rfl) (by kernel_rfl)
/-- manifold/decimal.Compare -/
def ir23 : Ic :=
  .seq (.dn (.reg (
    .op (some 2) (.box (.t 0)) <|
    .op (some 3) (.box (.t 1)) <|
    .op (some 4) (.mov (.k (.int .i64 0))) <|
    .op (some 5) (.mov (.k (.int .i64 0))) <|
    .nil)) [0, 1, 4, 5]) <|
  .seq (.seq (.dn (.reg (
    .op (some 11) (.ld (some 2) (.t 2)) <|
    .op (some 12) (.ld (some 2) (.t 3)) <|
    .op (some 13) (.bls 2 [(.t 11), (.t 12)]) <|
    .call (some 14) (.fn 59) [(.t 13)] <|
    .op (some 6) (.mov (.t 14)) <|
    .nil)) [11, 12, 13, 14]) <|
  .seq (.dn (.reg (
    .op (some 15) (.mov (.t 6)) <|
    .op (some 16) (.bin .neq (.t 15) (.k (.int .i64 0))) <|
    .nil)) [15]) <|
  .dn (.ite (.t 16) (.seq (.dn (.reg (
      .op (some 17) (.mov (.t 6)) <|
      .op (some 4) (.mov (.k (.int .i64 0))) <|
      .op (some 5) (.mov (.t 17)) <|
      .nil)) [2, 3, 6, 16, 17]) <|
    .ret)
    (.skip)) [4, 5, 6, 16]) <|
  .seq (.dn (.reg (
    .op (some 19) (.ld (some 2) (.t 2)) <|
    .call (some 20) (.fn 61) [(.t 19)] <|
    .op (some 18) (.mov (.t 20)) <|
    .op (some 21) (.ext (.t 18) 0) <|
    .op (some 22) (.ext (.t 18) 1) <|
    .op (some 7) (.mov (.t 21)) <|
    .op (some 8) (.mov (.t 22)) <|
    .nil)) [2, 19, 20, 18, 21, 22]) <|
  .seq (.dn (.reg (
    .op (some 24) (.ld (some 2) (.t 3)) <|
    .call (some 25) (.fn 61) [(.t 24)] <|
    .op (some 23) (.mov (.t 25)) <|
    .op (some 26) (.ext (.t 23) 0) <|
    .op (some 27) (.ext (.t 23) 1) <|
    .op (some 9) (.mov (.t 26)) <|
    .op (some 10) (.mov (.t 27)) <|
    .nil)) [3, 24, 25, 23, 26, 27]) <|
  .seq (.dn (.reg (
    .op (some 28) (.mov (.t 7)) <|
    .op (some 29) (.mov (.t 9)) <|
    .call (some 30) (.fn 63) [(.t 28), (.t 29)] <|
    .op (some 31) (.mov (.t 8)) <|
    .op (some 32) (.mov (.t 10)) <|
    .call (some 33) (.fn 63) [(.t 31), (.t 32)] <|
    .op (some 34) (.bls 1 [(.t 30), (.t 33)]) <|
    .call (some 35) (.fn 62) [(.t 34)] <|
    .op (some 4) (.mov (.t 35)) <|
    .op (some 5) (.mov (.k (.int .i64 0))) <|
    .nil)) [7, 8, 9, 10, 28, 29, 30, 31, 32, 33, 34, 35]) <|
  .ret
theorem ok23 : FnOk Tryz.prog 23 36 ir23 [.tmp 4, .tmp 5] := FnOk.of Tryz.func23 (by kernel_rfl) (by kernel_rfl) (by kernel_rfl) (by kernel_rfl)
/-- manifold/decimal.Div -/
def ir24 : Ic :=
  .seq (.dn (.reg (
    .op (some 3) (.box (.t 0)) <|
    .op (some 4) (.box (.t 1)) <|
    .op (some 6) (.new [(.int .i64 0), (.int .i64 0)]) <|
    .op (some 7) (.mov (.k (.int .i64 0))) <|
    .nil)) [0, 1, 7]) <|
  .seq (.seq (.dn (.reg (
    .op (some 10) (.ld (some 2) (.t 3)) <|
    .op (some 11) (.ld (some 2) (.t 4)) <|
    .op (some 12) (.bls 2 [(.t 10), (.t 11)]) <|
    .call (some 13) (.fn 59) [(.t 12)] <|
    .op (some 8) (.mov (.t 13)) <|
    .nil)) [10, 11, 12, 13]) <|
  .seq (.dn (.reg (
    .op (some 14) (.mov (.t 8)) <|
    .op (some 15) (.bin .neq (.t 14) (.k (.int .i64 0))) <|
    .nil)) [14]) <|
  .dn (.ite (.t 15) (.seq (.dn (.reg (
      .op (some 16) (.bld [(.int .i64 0), (.int .i64 0)] []) <|
      .op (some 17) (.mov (.t 8)) <|
      .op none (.sto (some 2) (.t 6) (.t 16)) <|
      .op (some 7) (.mov (.t 17)) <|
      .nil)) [2, 3, 4, 8, 15, 16, 17]) <|
    .ret)
    (.skip)) [7, 8, 15]) <|
  .seq (.dn (.block 0 (
    .seq (.dn (.reg (
      .op (some 19) (.mov (.t 2)) <|
      .op (some 20) (.bin .lss (.t 19) (.k (.int .i64 0))) <|
      .op (some 21) (.mov (.t 20)) <|
      .sc 21 false (
        .op (some 22) (.mov (.t 2)) <|
        .op (some 23) (.bin .gtr (.t 22) (.k (.int .i64 12))) <|
        .nil) (.t 23) 24 <|
      .op (some 18) (.mov (.t 24)) <|
      .nil)) [19, 20, 21, 22, 23, 24]) <|
    .dn (.ite (.t 18) (.seq (.dn (.reg (
        .op (some 25) (.bld [(.int .i64 0), (.int .i64 0)] []) <|
        .op none (.sto (some 2) (.t 6) (.t 25)) <|
        .op (some 7) (.mov (.k (.int .i64 2))) <|
        .nil)) [2, 3, 4, 18, 25]) <|
      .ret)
      (.seq (.dn (.reg (
        .op (some 27) (.fa (.t 4) 0) <|
        .op (some 28) (.ld none (.t 27)) <|
        .op (some 29) (.bin .eql (.t 28) (.k (.int .i64 0))) <|
        .op (some 26) (.mov (.t 29)) <|
        .nil)) [18, 27, 28, 29]) <|
      .dn (.ite (.t 26) (.seq (.dn (.reg (
          .op (some 30) (.bld [(.int .i64 0), (.int .i64 0)] []) <|
          .op none (.sto (some 2) (.t 6) (.t 30)) <|
          .op (some 7) (.mov (.k (.int .i64 15))) <|
          .nil)) [2, 3, 4, 26, 30]) <|
        .ret)
        (.skip)) [7, 26])) [7])) [19, 20, 21, 22, 23, 24, 18, 25, 7, 27, 28, 29, 26, 30]) <|
  .seq (.dn (.reg (
    .op (some 31) (.fa (.t 3) 0) <|
    .op (some 32) (.ld none (.t 31)) <|
    .op (some 33) (.fa (.t 4) 0) <|
    .op (some 34) (.ld none (.t 33)) <|
    .op (some 35) (.mov (.t 2)) <|
    .op (some 36) (.fa (.t 4) 1) <|
    .op (some 37) (.ld none (.t 36)) <|
    .op (some 38) (.bin .add (.t 35) (.t 37)) <|
    .op (some 39) (.fa (.t 3) 1) <|
    .op (some 40) (.ld none (.t 39)) <|
    .op (some 41) (.bin .sub (.t 38) (.t 40)) <|
    .call (some 42) (.fn 64) [(.t 32), (.t 34), (.t 41)] <|
    .op (some 9) (.mov (.t 42)) <|
    .nil)) [31, 32, 33, 34, 35, 36, 37, 38, 39, 40, 41, 42]) <|
  .seq (.seq (.dn (.reg (
    .op (some 43) (.fa (.t 3) 0) <|
    .op (some 44) (.ld none (.t 43)) <|
    .op (some 45) (.bin .lss (.t 44) (.k (.int .i64 0))) <|
    .op (some 46) (.fa (.t 4) 0) <|
    .op (some 47) (.ld none (.t 46)) <|
    .op (some 48) (.bin .lss (.t 47) (.k (.int .i64 0))) <|
    .op (some 49) (.bin .bne (.t 45) (.t 48)) <|
    .nil)) [3, 4, 43, 44, 45, 46, 47, 48]) <|
  .dn (.ite (.t 49) (.dn (.reg (
      .op (some 50) (.mov (.t 9)) <|
      .op (some 51) (.neg .i64 (.t 50)) <|
      .op (some 9) (.mov (.t 51)) <|
      .nil)) [49, 50, 51])
    (.skip)) [49]) <|
  .seq (.dn (.reg (
    .op (some 52) (.mov (.t 9)) <|
    .op (some 53) (.mov (.t 2)) <|
    .call (some 54) (.fn 65) [(.t 52), (.t 53)] <|
    .op (some 55) (.ext (.t 54) 0) <|
    .op (some 56) (.ext (.t 54) 1) <|
    .op none (.sto (some 2) (.t 6) (.t 55)) <|
    .op (some 7) (.mov (.t 56)) <|
    .nil)) [2, 9, 52, 53, 54, 55, 56]) <|
  .ret
theorem ok24 : FnOk Tryz.prog 24 57 ir24 [.cell 6 (some 2), .tmp 7] := FnOk.of Tryz.func24 (by kernel_rfl) (by kernel_rfl) (by kernel_rfl) (by kernel_rfl)
/-- manifold/decimal.abs -/
def ir58 : Ic :=
  .seq (.dn (.reg (
    .op (some 2) (.mov (.k (.int .i64 0))) <|
    .nil)) [2]) <|
  .seq (.dn (.reg (
    .op (some 3) (.mov (.t 0)) <|
    .op (some 4) (.mov (.t 0)) <|
    .op (some 5) (.neg .i64 (.t 4)) <|
    .op (some 6) (.mx (.t 3) (.t 5)) <|
    .op (some 2) (.mov (.t 6)) <|
    .nil)) [0, 3, 4, 5, 6]) <|
  .ret
theorem ok58 : FnOk Tryz.prog 58 7 ir58 [.tmp 2] := FnOk.of Tryz.func58 (by kernel_rfl) (by kernel_rfl) (by kernel_rfl) (by kernel_rfl)
/-- manifold/decimal.check -/
def ir59 : Ic :=
  .seq (.dn (.reg (
    .op (some 2) (.mov (.k (.int .i64 0))) <|
    .nil)) [2]) <|
  .seq (.seq (.dn (.reg (
    .op (some 6) (.mov (.t 0)) <|
    .op (some 7) (.len (.t 6)) <|
    .op (some 8) (.mov (.k (.int .i64 0))) <|
    .nil)) [0]) <|
  .dn (.block 0 (
    .loop (
      .seq (.reg (
        .op (some 9) (.bin .lss (.t 8) (.t 7)) <|
        .nil)) <|
      .seq (.dn (.ite (.t 9) (.skip)
        (.exit 0)) [9]) <|
      .seq (.dn (.block 1 (
        .seq (.dn (.reg (
          .op (some 10) (.ixa true 2 (.t 6) (.t 8)) <|
          .op (some 11) (.ld (some 2) (.t 10)) <|
          .op (some 4) (.new [(.int .i64 0), (.int .i64 0)]) <|
          .op none (.sto (some 2) (.t 4) (.t 11)) <|
          .nil)) [10, 11]) <|
        .seq (.dn (.reg (
          .op (some 12) (.ld (some 2) (.t 4)) <|
          .call (some 13) (.fn 21) [(.t 12)] <|
          .op (some 5) (.mov (.t 13)) <|
          .nil)) [4, 12, 13]) <|
        .seq (.dn (.reg (
          .op (some 14) (.mov (.t 5)) <|
          .op (some 15) (.bin .neq (.t 14) (.k (.int .i64 0))) <|
          .nil)) [14]) <|
        .dn (.ite (.t 15) (.seq (.dn (.reg (
            .op (some 16) (.mov (.t 5)) <|
            .op (some 2) (.mov (.t 16)) <|
            .nil)) [6, 7, 8, 5, 15, 16]) <|
          .ret)
          (.skip)) [2, 5, 15])) [10, 11, 4, 12, 13, 5, 14, 15, 16, 2]) <|
      .dn (.reg (
        .op (some 17) (.bin .add (.t 8) (.k (.int .i64 1))) <|
        .op (some 8) (.mov (.t 17)) <|
        .nil)) [17]))) [6, 7, 8, 9, 10, 11, 4, 12, 13, 5, 14, 15, 16, 2, 17]) <|
  .seq (.reg (
    .op (some 2) (.mov (.k (.int .i64 0))) <|
    .nil)) <|
  .ret
theorem ok59 : FnOk Tryz.prog 59 18 ir59 [.tmp 2] := FnOk.of Tryz.func59 (by kernel_rfl) (by kernel_rfl) (by kernel_rfl) (by kernel_rfl)
/-- manifold/decimal.total -/
def ir60 : Ic :=
  .seq (.dn (.reg (
    .op (some 4) (.new [(.int .i64 0), (.int .i64 0)]) <|
    .op (some 5) (.mov (.k (.int .i64 0))) <|
    .nil)) [5]) <|
  .seq (.dn (.reg (
    .call (some 13) (.fn 137) [(.k (.int .i64 12))] <|
    .op (some 6) (.mov (.t 13)) <|
    .nil)) [13]) <|
  .seq (.reg (
    .op (some 7) (.mov (.k (.int .i64 0))) <|
    .op (some 8) (.mov (.k (.int .i64 0))) <|
    .nil)) <|
  .seq (.seq (.dn (.reg (
    .op (some 14) (.mov (.t 0)) <|
    .op (some 15) (.len (.t 14)) <|
    .op (some 16) (.mov (.k (.int .i64 0))) <|
    .nil)) [0]) <|
  .dn (.block 0 (
    .loop (
      .seq (.reg (
        .op (some 17) (.bin .lss (.t 16) (.t 15)) <|
        .nil)) <|
      .seq (.dn (.ite (.t 17) (.skip)
        (.exit 0)) [17]) <|
      .seq (.dn (.block 1 (
        .seq (.dn (.reg (
          .op (some 18) (.ixa true 2 (.t 14) (.t 16)) <|
          .op (some 19) (.ld (some 2) (.t 18)) <|
          .op (some 10) (.new [(.int .i64 0), (.int .i64 0)]) <|
          .op none (.sto (some 2) (.t 10) (.t 19)) <|
          .nil)) [18, 19]) <|
        .seq (.dn (.reg (
          .op (some 21) (.ld (some 2) (.t 10)) <|
          .call (some 22) (.fn 61) [(.t 21)] <|
          .op (some 20) (.mov (.t 22)) <|
          .op (some 23) (.ext (.t 20) 0) <|
          .op (some 24) (.ext (.t 20) 1) <|
          .op (some 11) (.mov (.t 23)) <|
          .op (some 12) (.mov (.t 24)) <|
          .nil)) [10, 21, 22, 20, 23, 24]) <|
        .dn (.reg (
          .op (some 25) (.mov (.t 7)) <|
          .op (some 26) (.mov (.t 11)) <|
          .op (some 27) (.bin .add (.t 25) (.t 26)) <|
          .op (some 28) (.mov (.t 8)) <|
          .op (some 29) (.mov (.t 12)) <|
          .op (some 30) (.bin .add (.t 28) (.t 29)) <|
          .op (some 7) (.mov (.t 27)) <|
          .op (some 8) (.mov (.t 30)) <|
          .nil)) [11, 12, 25, 26, 27, 28, 29, 30])) [18, 19, 10, 21, 22, 20, 23, 24, 11, 12, 25, 26, 27, 28, 29, 30]) <|
      .dn (.reg (
        .op (some 31) (.bin .add (.t 16) (.k (.int .i64 1))) <|
        .op (some 16) (.mov (.t 31)) <|
        .nil)) [31]))) [14, 15, 16, 17, 18, 19, 10, 21, 22, 20, 23, 24, 11, 12, 25, 26, 27, 28, 29, 30, 31]) <|
  .seq (.dn (.reg (
    .op (some 32) (.mov (.t 7)) <|
    .op (some 33) (.mov (.t 8)) <|
    .op (some 34) (.mov (.t 6)) <|
    .op (some 35) (.bin .quo (.t 33) (.t 34)) <|
    .op (some 36) (.bin .add (.t 32) (.t 35)) <|
    .op (some 37) (.mov (.t 8)) <|
    .op (some 38) (.mov (.t 6)) <|
    .op (some 39) (.bin .rem (.t 37) (.t 38)) <|
    .op (some 7) (.mov (.t 36)) <|
    .op (some 8) (.mov (.t 39)) <|
    .nil)) [32, 33, 34, 35, 36, 37, 38, 39]) <|
  .seq (.dn (.block 2 (
    .seq (.dn (.reg (
      .op (some 41) (.mov (.t 7)) <|
      .op (some 42) (.bin .gtr (.t 41) (.k (.int .i64 0))) <|
      .op (some 43) (.mov (.t 42)) <|
      .sc 43 true (
        .op (some 44) (.mov (.t 8)) <|
        .op (some 45) (.bin .lss (.t 44) (.k (.int .i64 0))) <|
        .nil) (.t 45) 46 <|
      .op (some 40) (.mov (.t 46)) <|
      .nil)) [41, 42, 43, 44, 45, 46]) <|
    .ite (.t 40) (.dn (.reg (
        .op (some 47) (.mov (.t 7)) <|
        .op (some 48) (.bin .sub (.t 47) (.k (.int .i64 1))) <|
        .op (some 49) (.mov (.t 8)) <|
        .op (some 50) (.mov (.t 6)) <|
        .op (some 51) (.bin .add (.t 49) (.t 50)) <|
        .op (some 7) (.mov (.t 48)) <|
        .op (some 8) (.mov (.t 51)) <|
        .nil)) [6, 40, 47, 48, 49, 50, 51])
      (.seq (.dn (.reg (
        .op (some 53) (.mov (.t 7)) <|
        .op (some 54) (.bin .lss (.t 53) (.k (.int .i64 0))) <|
        .op (some 55) (.mov (.t 54)) <|
        .sc 55 true (
          .op (some 56) (.mov (.t 8)) <|
          .op (some 57) (.bin .gtr (.t 56) (.k (.int .i64 0))) <|
          .nil) (.t 57) 58 <|
        .op (some 52) (.mov (.t 58)) <|
        .nil)) [40, 53, 54, 55, 56, 57, 58]) <|
      .dn (.ite (.t 52) (.dn (.reg (
          .op (some 59) (.mov (.t 7)) <|
          .op (some 60) (.bin .add (.t 59) (.k (.int .i64 1))) <|
          .op (some 61) (.mov (.t 8)) <|
          .op (some 62) (.mov (.t 6)) <|
          .op (some 63) (.bin .sub (.t 61) (.t 62)) <|
          .op (some 7) (.mov (.t 60)) <|
          .op (some 8) (.mov (.t 63)) <|
          .nil)) [6, 52, 59, 60, 61, 62, 63])
        (.skip)) [6, 52]))) [6, 41, 42, 43, 44, 45, 46, 40, 47, 48, 49, 50, 51, 53, 54, 55, 56, 57, 58, 52, 59, 60, 61, 62, 63]) <|
  .seq (.seq (.dn (.reg (
    .op (some 64) (.mov (.t 7)) <|
    .call (some 65) (.fn 58) [(.t 64)] <|
    .op (some 66) (.mov (.t 1)) <|
    .call (some 67) (.fn 137) [(.t 66)] <|
    .op (some 68) (.bin .quo (.k (.int .i64 999999999999999)) (.t 67)) <|
    .op (some 69) (.bin .gtr (.t 65) (.t 68)) <|
    .nil)) [64, 65, 66, 67, 68]) <|
  .dn (.ite (.t 69) (.seq (.dn (.reg (
      .op (some 70) (.bld [(.int .i64 0), (.int .i64 0)] []) <|
      .op none (.sto (some 2) (.t 4) (.t 70)) <|
      .op (some 5) (.mov (.k (.int .i64 14))) <|
      .nil)) [1, 7, 8, 69, 70]) <|
    .ret)
    (.skip)) [5, 69]) <|
  .seq (.dn (.reg (
    .op (some 71) (.mov (.t 7)) <|
    .op (some 72) (.mov (.t 1)) <|
    .call (some 73) (.fn 137) [(.t 72)] <|
    .op (some 74) (.bin .mul (.t 71) (.t 73)) <|
    .op (some 75) (.mov (.t 8)) <|
    .op (some 76) (.mov (.t 1)) <|
    .op (some 77) (.bin .sub (.k (.int .i64 12)) (.t 76)) <|
    .call (some 78) (.fn 137) [(.t 77)] <|
    .op (some 79) (.bin .quo (.t 75) (.t 78)) <|
    .op (some 80) (.bin .add (.t 74) (.t 79)) <|
    .op (some 81) (.mov (.t 1)) <|
    .call (some 82) (.fn 65) [(.t 80), (.t 81)] <|
    .op (some 83) (.ext (.t 82) 0) <|
    .op (some 84) (.ext (.t 82) 1) <|
    .op none (.sto (some 2) (.t 4) (.t 83)) <|
    .op (some 5) (.mov (.t 84)) <|
    .nil)) [1, 7, 8, 71, 72, 73, 74, 75, 76, 77, 78, 79, 80, 81, 82, 83, 84]) <|
  .ret
theorem ok60 : FnOk Tryz.prog 60 85 ir60 [.cell 4 (some 2), .tmp 5] := FnOk.of Tryz.func60 (by kernel_rfl) (by kernel_rfl) (by kernel_rfl) (by kernel_rfl)
/-- manifold/decimal.parts -/
def ir61 : Ic :=
  .seq (.dn (.reg (
    .op (some 1) (.box (.t 0)) <|
    .op (some 2) (.mov (.k (.int .i64 0))) <|
    .op (some 3) (.mov (.k (.int .i64 0))) <|
    .nil)) [0, 2, 3]) <|
  .seq (.dn (.reg (
    .op (some 5) (.fa (.t 1) 1) <|
    .op (some 6) (.ld none (.t 5)) <|
    .call (some 7) (.fn 137) [(.t 6)] <|
    .op (some 4) (.mov (.t 7)) <|
    .nil)) [5, 6, 7]) <|
  .seq (.dn (.regd [(1, 11), (5, 11)] (
    .op (some 8) (.fa (.t 1) 0) <|
    .op (some 9) (.ld none (.t 8)) <|
    .op (some 10) (.mov (.t 4)) <|
    .op (some 11) (.bin .quo (.t 9) (.t 10)) <|
    .op (some 12) (.fa (.t 1) 0) <|
    .op (some 13) (.ld none (.t 12)) <|
    .op (some 14) (.mov (.t 4)) <|
    .op (some 15) (.bin .rem (.t 13) (.t 14)) <|
    .op (some 16) (.fa (.t 1) 1) <|
    .op (some 17) (.ld none (.t 16)) <|
    .op (some 18) (.bin .sub (.k (.int .i64 12)) (.t 17)) <|
    .call (some 19) (.fn 137) [(.t 18)] <|
    .op (some 20) (.bin .mul (.t 15) (.t 19)) <|
    .op (some 2) (.mov (.t 11)) <|
    .op (some 3) (.mov (.t 20)) <|
    .nil)) [1, 4, 8, 9, 10, 11, 12, 13, 14, 15, 16, 17, 18, 19, 20]) <|
  .ret
theorem ok61 : FnOk Tryz.prog 61 21 ir61 [.tmp 2, .tmp 3] := FnOk.of Tryz.func61 (by kernel_rfl) (by kernel_rfl) (by kernel_rfl) (by kernel_rfl)
/-- manifold/decimal.divide -/
def ir64 : Ic :=
  .seq (.dn (.reg (
    .op (some 6) (.mov (.k (.int .i64 0))) <|
    .nil)) [6]) <|
  .seq (.dn (.reg (
    .op (some 9) (.mov (.t 0)) <|
    .call (some 10) (.fn 58) [(.t 9)] <|
    .op (some 11) (.mov (.t 1)) <|
    .call (some 12) (.fn 58) [(.t 11)] <|
    .op (some 0) (.mov (.t 10)) <|
    .op (some 1) (.mov (.t 12)) <|
    .nil)) [9, 10, 11, 12]) <|
  .seq (.dn (.block 0 (
    .loop (
      .seq (.seq (.dn (.reg (
        .op (some 13) (.mov (.t 2)) <|
        .op (some 14) (.bin .lss (.t 13) (.k (.int .i64 0))) <|
        .op (some 15) (.mov (.t 14)) <|
        .sc 15 true (
          .op (some 16) (.mov (.t 1)) <|
          .op (some 17) (.bin .leq (.t 16) (.k (.int .i64 3999999999999996))) <|
          .nil) (.t 17) 18 <|
        .nil)) [13, 14, 15, 16, 17]) <|
      .dn (.ite (.t 18) (.skip)
        (.exit 0)) [18]) <|
      .seq (.dn (.block 1 (
        .dn (.reg (
          .op (some 21) (.mov (.t 1)) <|
          .op (some 22) (.bin .mul (.t 21) (.k (.int .i64 10))) <|
          .op (some 1) (.mov (.t 22)) <|
          .nil)) [21, 22])) [21, 22]) <|
      .dn (.reg (
        .op (some 19) (.mov (.t 2)) <|
        .op (some 20) (.bin .add (.t 19) (.k (.int .i64 1))) <|
        .op (some 2) (.mov (.t 20)) <|
        .nil)) [19, 20]))) [13, 14, 15, 16, 17, 18, 21, 22, 19, 20]) <|
  .seq (.seq (.dn (.reg (
    .op (some 23) (.mov (.t 2)) <|
    .op (some 24) (.bin .lss (.t 23) (.k (.int .i64 0))) <|
    .nil)) [23]) <|
  .dn (.ite (.t 24) (.seq (.dn (.reg (
      .op (some 6) (.mov (.k (.int .i64 0))) <|
      .nil)) [0, 1, 2, 24]) <|
    .ret)
    (.skip)) [6, 24]) <|
  .seq (.dn (.reg (
    .op (some 25) (.mov (.t 0)) <|
    .op (some 26) (.mov (.t 1)) <|
    .op (some 27) (.bin .quo (.t 25) (.t 26)) <|
    .op (some 28) (.mov (.t 0)) <|
    .op (some 29) (.mov (.t 1)) <|
    .op (some 30) (.bin .rem (.t 28) (.t 29)) <|
    .op (some 7) (.mov (.t 27)) <|
    .op (some 8) (.mov (.t 30)) <|
    .nil)) [0, 25, 26, 27, 28, 29, 30]) <|
  .seq (.dn (.block 2 (
    .loop (
      .seq (.seq (.dn (.reg (
        .op (some 31) (.mov (.t 2)) <|
        .op (some 32) (.bin .gtr (.t 31) (.k (.int .i64 0))) <|
        .op (some 33) (.mov (.t 32)) <|
        .sc 33 true (
          .op (some 34) (.mov (.t 7)) <|
          .op (some 35) (.bin .leq (.t 34) (.k (.int .i64 999999999999999))) <|
          .nil) (.t 35) 36 <|
        .nil)) [31, 32, 33, 34, 35]) <|
      .dn (.ite (.t 36) (.skip)
        (.exit 2)) [36]) <|
      .seq (.dn (.block 3 (
        .seq (.dn (.reg (
          .op (some 39) (.mov (.t 8)) <|
          .op (some 40) (.bin .mul (.t 39) (.k (.int .i64 10))) <|
          .op (some 8) (.mov (.t 40)) <|
          .nil)) [39, 40]) <|
        .dn (.reg (
          .op (some 41) (.mov (.t 7)) <|
          .op (some 42) (.bin .mul (.k (.int .i64 10)) (.t 41)) <|
          .op (some 43) (.mov (.t 8)) <|
          .op (some 44) (.mov (.t 1)) <|
          .op (some 45) (.bin .quo (.t 43) (.t 44)) <|
          .op (some 46) (.bin .add (.t 42) (.t 45)) <|
          .op (some 47) (.mov (.t 8)) <|
          .op (some 48) (.mov (.t 1)) <|
          .op (some 49) (.bin .rem (.t 47) (.t 48)) <|
          .op (some 7) (.mov (.t 46)) <|
          .op (some 8) (.mov (.t 49)) <|
          .nil)) [41, 42, 43, 44, 45, 46, 47, 48, 49])) [39, 40, 41, 42, 43, 44, 45, 46, 47, 48, 49]) <|
      .dn (.reg (
        .op (some 37) (.mov (.t 2)) <|
        .op (some 38) (.bin .sub (.t 37) (.k (.int .i64 1))) <|
        .op (some 2) (.mov (.t 38)) <|
        .nil)) [37, 38]))) [2, 31, 32, 33, 34, 35, 36, 39, 40, 41, 42, 43, 44, 45, 46, 47, 48, 49, 37, 38]) <|
  .seq (.seq (.dn (.reg (
    .op (some 50) (.mov (.t 8)) <|
    .op (some 51) (.bin .mul (.k (.int .i64 2)) (.t 50)) <|
    .op (some 52) (.mov (.t 1)) <|
    .op (some 53) (.bin .gtr (.t 51) (.t 52)) <|
    .op (some 54) (.mov (.t 53)) <|
    .sc 54 false (
      .op (some 55) (.mov (.t 8)) <|
      .op (some 56) (.bin .mul (.k (.int .i64 2)) (.t 55)) <|
      .op (some 57) (.mov (.t 1)) <|
      .op (some 58) (.bin .eql (.t 56) (.t 57)) <|
      .op (some 59) (.mov (.t 58)) <|
      .sc 59 true (
        .op (some 60) (.mov (.t 7)) <|
        .op (some 61) (.bin .rem (.t 60) (.k (.int .i64 2))) <|
        .op (some 62) (.bin .eql (.t 61) (.k (.int .i64 1))) <|
        .nil) (.t 62) 63 <|
      .nil) (.t 63) 64 <|
    .nil)) [1, 8, 50, 51, 52, 53, 54, 55, 56, 57, 58, 59, 60, 61, 62, 63]) <|
  .dn (.ite (.t 64) (.dn (.reg (
      .op (some 65) (.mov (.t 7)) <|
      .op (some 66) (.bin .add (.t 65) (.k (.int .i64 1))) <|
      .op (some 7) (.mov (.t 66)) <|
      .nil)) [64, 65, 66])
    (.skip)) [64]) <|
  .seq (.dn (.reg (
    .op (some 67) (.mov (.t 7)) <|
    .op (some 6) (.mov (.t 67)) <|
    .nil)) [7, 67]) <|
  .ret
theorem ok64 : FnOk Tryz.prog 64 68 ir64 [.tmp 6] := FnOk.of Tryz.func64 (by kernel_rfl) (by kernel_rfl) (by kernel_rfl) (by kernel_rfl)
/-- manifold/decimal.fit -/
def ir65 : Ic :=
  .seq (.dn (.reg (
    .op (some 4) (.new [(.int .i64 0), (.int .i64 0)]) <|
    .op (some 5) (.mov (.k (.int .i64 0))) <|
    .nil)) [5]) <|
  .seq (.seq (.dn (.reg (
    .op (some 6) (.mov (.t 0)) <|
    .call (some 7) (.fn 58) [(.t 6)] <|
    .op (some 8) (.bin .gtr (.t 7) (.k (.int .i64 999999999999999))) <|
    .nil)) [6, 7]) <|
  .dn (.ite (.t 8) (.seq (.dn (.reg (
      .op (some 9) (.bld [(.int .i64 0), (.int .i64 0)] []) <|
      .op none (.sto (some 2) (.t 4) (.t 9)) <|
      .op (some 5) (.mov (.k (.int .i64 14))) <|
      .nil)) [0, 1, 8, 9]) <|
    .ret)
    (.skip)) [5, 8]) <|
  .seq (.dn (.reg (
    .op (some 10) (.mov (.t 0)) <|
    .op (some 11) (.mov (.t 1)) <|
    .op (some 12) (.bld [(.int .i64 0), (.int .i64 0)] [(0, 1, (.t 10)), (1, 1, (.t 11))]) <|
    .op none (.sto (some 2) (.t 4) (.t 12)) <|
    .op (some 5) (.mov (.k (.int .i64 0))) <|
    .nil)) [0, 1, 10, 11, 12]) <|
  .ret
theorem ok65 : FnOk Tryz.prog 65 13 ir65 [.cell 4 (some 2), .tmp 5] := FnOk.of Tryz.func65 (by kernel_rfl) (by kernel_rfl) (by kernel_rfl) (by kernel_rfl)
/-- manifold/decimal.ten -/
def ir137 : Ic :=
  .seq (.dn (.reg (
    .op (some 2) (.mov (.k (.int .i64 0))) <|
    .nil)) [2]) <|
  .seq (.dn (.reg (
    .call (some 3) (.fn 197) [] <|
    .op (some 4) (.mov (.t 0)) <|
    .op (some 5) (.ixv none 13 1 (.t 3) (.t 4)) <|
    .op (some 2) (.mov (.t 5)) <|
    .nil)) [0, 3, 4, 5]) <|
  .ret
theorem ok137 : FnOk Tryz.prog 137 6 ir137 [.tmp 2] := FnOk.of Tryz.func137 (by kernel_rfl) (by kernel_rfl) (by kernel_rfl) (by kernel_rfl)
/-- manifold/decimal.powers -/
def ir197 : Ic :=
  .seq (.reg (
    .op (some 0) (.new [(.int .i64 0), (.int .i64 0), (.int .i64 0), (.int .i64 0), (.int .i64 0), (.int .i64 0), (.int .i64 0), (.int .i64 0), (.int .i64 0), (.int .i64 0), (.int .i64 0), (.int .i64 0), (.int .i64 0)]) <|
    .nil)) <|
  .seq (.dn (.reg (
    .op (some 3) (.bld [(.int .i64 0), (.int .i64 0), (.int .i64 0), (.int .i64 0), (.int .i64 0), (.int .i64 0), (.int .i64 0), (.int .i64 0), (.int .i64 0), (.int .i64 0), (.int .i64 0), (.int .i64 0), (.int .i64 0)] [(0, 1, (.k (.int .i64 1)))]) <|
    .op (some 1) (.new [(.int .i64 0), (.int .i64 0), (.int .i64 0), (.int .i64 0), (.int .i64 0), (.int .i64 0), (.int .i64 0), (.int .i64 0), (.int .i64 0), (.int .i64 0), (.int .i64 0), (.int .i64 0), (.int .i64 0)]) <|
    .op none (.sto (some 13) (.t 1) (.t 3)) <|
    .nil)) [3]) <|
  .seq (.seq (.reg (
    .op (some 2) (.mov (.k (.int .i64 1))) <|
    .nil)) <|
  .dn (.block 0 (
    .loop (
      .seq (.seq (.dn (.reg (
        .op (some 4) (.mov (.t 2)) <|
        .op (some 5) (.bin .lss (.t 4) (.k (.int .i64 13))) <|
        .nil)) [4]) <|
      .dn (.ite (.t 5) (.skip)
        (.exit 0)) [5]) <|
      .seq (.dn (.block 1 (
        .dn (.reg (
          .op (some 8) (.mov (.t 2)) <|
          .op (some 9) (.mov (.t 2)) <|
          .op (some 10) (.bin .sub (.t 9) (.k (.int .i64 1))) <|
          .op (some 11) (.ixr 13 1 (.t 1) (.t 10)) <|
          .op (some 12) (.ld none (.t 11)) <|
          .op (some 13) (.bin .mul (.k (.int .i64 10)) (.t 12)) <|
          .op (some 14) (.ixr 13 1 (.t 1) (.t 8)) <|
          .op none (.sto none (.t 14) (.t 13)) <|
          .nil)) [8, 9, 10, 11, 12, 13, 14])) [8, 9, 10, 11, 12, 13, 14]) <|
      .dn (.reg (
        .op (some 6) (.mov (.t 2)) <|
        .op (some 7) (.bin .add (.t 6) (.k (.int .i64 1))) <|
        .op (some 2) (.mov (.t 7)) <|
        .nil)) [6, 7]))) [2, 4, 5, 8, 9, 10, 11, 12, 13, 14, 6, 7]) <|
  .seq (.dn (.reg (
    .op (some 15) (.ld (some 13) (.t 1)) <|
    .op none (.sto (some 13) (.t 0) (.t 15)) <|
    .nil)) [1, 15]) <|
  .ret
theorem ok197 : FnOk Tryz.prog 197 16 ir197 [.cell 0 (some 13)] := FnOk.of Tryz.func197 (by kernel_rfl) (by kernel_rfl) (by kernel_rfl) (by kernel_rfl)
end Go.Proofs
/- The intermediate forms of functions (printed by a program). -/
namespace Go.Proofs
open Go Av
/-- manifold/decimal.Sub -/
def ir182 : Ic :=
  .seq (.dn (.reg (
    .op (some 2) (.box (.t 0)) <|
    .op (some 3) (.box (.t 1)) <|
    .op (some 4) (.new [(.int .i64 0), (.int .i64 0)]) <|
    .op (some 5) (.mov (.k (.int .i64 0))) <|
    .nil)) [0, 1, 5]) <|
  .seq (.seq (.dn (.reg (
    .op (some 7) (.ld (some 2) (.t 2)) <|
    .op (some 8) (.ld (some 2) (.t 3)) <|
    .op (some 9) (.bls 2 [(.t 7), (.t 8)]) <|
    .call (some 10) (.fn 59) [(.t 9)] <|
    .op (some 6) (.mov (.t 10)) <|
    .nil)) [7, 8, 9, 10]) <|
  .seq (.dn (.reg (
    .op (some 11) (.mov (.t 6)) <|
    .op (some 12) (.bin .neq (.t 11) (.k (.int .i64 0))) <|
    .nil)) [11]) <|
  .dn (.ite (.t 12) (.seq (.dn (.reg (
      .op (some 13) (.bld [(.int .i64 0), (.int .i64 0)] []) <|
      .op (some 14) (.mov (.t 6)) <|
      .op none (.sto (some 2) (.t 4) (.t 13)) <|
      .op (some 5) (.mov (.t 14)) <|
      .nil)) [2, 3, 6, 12, 13, 14]) <|
    .ret)
    (.skip)) [5, 6, 12]) <|
  .seq (.dn (.reg (
    .op (some 15) (.fa (.t 3) 0) <|
    .op (some 16) (.ld none (.t 15)) <|
    .op (some 17) (.neg .i64 (.t 16)) <|
    .op (some 18) (.fa (.t 3) 0) <|
    .op none (.sto none (.t 18) (.t 17)) <|
    .nil)) [15, 16, 17, 18]) <|
  .seq (.dn (.reg (
    .op (some 19) (.ld (some 2) (.t 2)) <|
    .op (some 20) (.ld (some 2) (.t 3)) <|
    .call (some 21) (.fn 22) [(.t 19), (.t 20)] <|
    .op (some 22) (.ext (.t 21) 0) <|
    .op (some 23) (.ext (.t 21) 1) <|
    .op none (.sto (some 2) (.t 4) (.t 22)) <|
    .op (some 5) (.mov (.t 23)) <|
    .nil)) [2, 3, 19, 20, 21, 22, 23]) <|
  .ret
theorem ok182 : FnOk Tryz.prog 182 24 ir182 [.cell 4 (some 2), .tmp 5] := FnOk.of Tryz.func182 (by kernel_rfl) (by kernel_rfl) (by kernel_rfl) (by kernel_rfl)
/-- manifold/decimal.Mul -/
def ir183 : Ic :=
  .seq (.dn (.reg (
    .op (some 2) (.box (.t 0)) <|
    .op (some 3) (.box (.t 1)) <|
    .op (some 4) (.new [(.int .i64 0), (.int .i64 0)]) <|
    .op (some 5) (.mov (.k (.int .i64 0))) <|
    .nil)) [0, 1, 5]) <|
  .seq (.seq (.dn (.reg (
    .op (some 8) (.ld (some 2) (.t 2)) <|
    .op (some 9) (.ld (some 2) (.t 3)) <|
    .op (some 10) (.bls 2 [(.t 8), (.t 9)]) <|
    .call (some 11) (.fn 59) [(.t 10)] <|
    .op (some 6) (.mov (.t 11)) <|
    .nil)) [8, 9, 10, 11]) <|
  .seq (.dn (.reg (
    .op (some 12) (.mov (.t 6)) <|
    .op (some 13) (.bin .neq (.t 12) (.k (.int .i64 0))) <|
    .nil)) [12]) <|
  .dn (.ite (.t 13) (.seq (.dn (.reg (
      .op (some 14) (.bld [(.int .i64 0), (.int .i64 0)] []) <|
      .op (some 15) (.mov (.t 6)) <|
      .op none (.sto (some 2) (.t 4) (.t 14)) <|
      .op (some 5) (.mov (.t 15)) <|
      .nil)) [2, 3, 6, 13, 14, 15]) <|
    .ret)
    (.skip)) [5, 6, 13]) <|
  .seq (.dn (.reg (
    .op (some 16) (.fa (.t 2) 1) <|
    .op (some 17) (.ld none (.t 16)) <|
    .op (some 18) (.fa (.t 3) 1) <|
    .op (some 19) (.ld none (.t 18)) <|
    .op (some 20) (.bin .add (.t 17) (.t 19)) <|
    .op (some 7) (.mov (.t 20)) <|
    .nil)) [16, 17, 18, 19, 20]) <|
  .seq (.seq (.dn (.regd [(9, 11)] (
    .op (some 21) (.mov (.t 7)) <|
    .op (some 22) (.bin .gtr (.t 21) (.k (.int .i64 12))) <|
    .op (some 23) (.mov (.t 22)) <|
    .sc 23 false (
      .op (some 24) (.fa (.t 3) 0) <|
      .op (some 25) (.ld none (.t 24)) <|
      .op (some 26) (.bin .neq (.t 25) (.k (.int .i64 0))) <|
      .op (some 27) (.mov (.t 26)) <|
      .sc 27 true (
        .op (some 28) (.fa (.t 2) 0) <|
        .op (some 29) (.ld none (.t 28)) <|
        .call (some 30) (.fn 58) [(.t 29)] <|
        .op (some 31) (.fa (.t 3) 0) <|
        .op (some 32) (.ld none (.t 31)) <|
        .call (some 33) (.fn 58) [(.t 32)] <|
        .op (some 34) (.bin .quo (.k (.int .i64 999999999999999)) (.t 33)) <|
        .op (some 35) (.bin .gtr (.t 30) (.t 34)) <|
        .nil) (.t 35) 36 <|
      .nil) (.t 36) 37 <|
    .nil)) [21, 22, 23, 24, 25, 26, 27, 28, 29, 30, 31, 32, 33, 34, 35, 36]) <|
  .dn (.ite (.t 37) (.seq (.dn (.reg (
      .op (some 38) (.bld [(.int .i64 0), (.int .i64 0)] []) <|
      .op none (.sto (some 2) (.t 4) (.t 38)) <|
      .op (some 5) (.mov (.k (.int .i64 14))) <|
      .nil)) [2, 3, 7, 37, 38]) <|
    .ret)
    (.skip)) [5, 37]) <|
  .seq (.dn (.reg (
    .op (some 39) (.fa (.t 2) 0) <|
    .op (some 40) (.ld none (.t 39)) <|
    .op (some 41) (.fa (.t 3) 0) <|
    .op (some 42) (.ld none (.t 41)) <|
    .op (some 43) (.bin .mul (.t 40) (.t 42)) <|
    .op (some 44) (.mov (.t 7)) <|
    .call (some 45) (.fn 65) [(.t 43), (.t 44)] <|
    .op (some 46) (.ext (.t 45) 0) <|
    .op (some 47) (.ext (.t 45) 1) <|
    .op none (.sto (some 2) (.t 4) (.t 46)) <|
    .op (some 5) (.mov (.t 47)) <|
    .nil)) [2, 3, 7, 39, 40, 41, 42, 43, 44, 45, 46, 47]) <|
  .ret
theorem ok183 : FnOk Tryz.prog 183 48 ir183 [.cell 4 (some 2), .tmp 5] := FnOk.of Tryz.func183 (by kernel_rfl) (by kernel_rfl) (by kernel_rfl) (by kernel_rfl)
end Go.Proofs
/- Great functions with their branches named (printed by a program). -/
set_option maxRecDepth 10000
namespace Go.Proofs
open Go Av
def b54_0 : Ic :=
  .seq (.dn (.reg (
      .op (some 43) (.mov (.t 0)) <|
      .op (some 44) (.fa (.t 3) 4) <|
      .op (some 45) (.ld none (.t 44)) <|
      .op (some 46) (.ixa true 5 (.t 45) (.k (.int .i64 0))) <|
      .op (some 47) (.ld (some 5) (.t 46)) <|
      .call (some 48) (.fn 122) [(.t 43), (.t 47)] <|
      .op (some 7) (.new [(.int .i64 0), (.int .i64 0), (.int .i64 0), (.str []), (.nil 6), (.nil 7)]) <|
      .op none (.sto (some 6) (.t 7) (.t 48)) <|
      .nil)) [42, 43, 44, 45, 46, 47, 48]) <|
    .seq (.dn (.reg (
      .op (some 49) (.mov (.t 0)) <|
      .op (some 50) (.fa (.t 3) 4) <|
      .op (some 51) (.ld none (.t 50)) <|
      .op (some 52) (.ixa true 5 (.t 51) (.k (.int .i64 1))) <|
      .op (some 53) (.ld (some 5) (.t 52)) <|
      .call (some 54) (.fn 122) [(.t 49), (.t 53)] <|
      .op (some 8) (.new [(.int .i64 0), (.int .i64 0), (.int .i64 0), (.str []), (.nil 6), (.nil 7)]) <|
      .op none (.sto (some 6) (.t 8) (.t 54)) <|
      .nil)) [3, 49, 50, 51, 52, 53, 54]) <|
    .seq (.dn (.reg (
      .op (some 55) (.mov (.t 5)) <|
      .op (some 56) (.mov (.t 0)) <|
      .op (some 57) (.ld (some 6) (.t 7)) <|
      .op (some 58) (.ld (some 6) (.t 8)) <|
      .call (some 59) (.fn 124) [(.t 56), (.t 57), (.t 58)] <|
      .call (some 60) (.dyn (.t 55)) [(.t 59)] <|
      .call (some 61) (.fn 123) [(.t 60)] <|
      .op none (.sto (some 6) (.t 4) (.t 61)) <|
      .nil)) [0, 5, 7, 8, 55, 56, 57, 58, 59, 60, 61]) <|
    .ret
def b54_1 : Ic :=
  .seq (.dn (.reg (
        .op (some 66) (.fa (.t 3) 3) <|
        .op (some 67) (.ld none (.t 66)) <|
        .op (some 68) (.ixa true 6 (.t 67) (.k (.int .i64 0))) <|
        .op (some 69) (.ld (some 6) (.t 68)) <|
        .call (some 70) (.fn 55) [(.t 69)] <|
        .op none (.sto (some 6) (.t 4) (.t 70)) <|
        .nil)) [0, 3, 63, 64, 66, 67, 68, 69, 70]) <|
      .ret
def b54_2 : Ic :=
  .seq (.dn (.reg (
            .op (some 95) (.mov (.t 0)) <|
            .op (some 96) (.mov (.t 12)) <|
            .call (some 97) (.fn 126) [(.t 95), (.t 96)] <|
            .op none (.sto (some 6) (.t 4) (.t 97)) <|
            .nil)) [0, 3, 11, 12, 94, 95, 96, 97]) <|
          .ret
def b54_3 : Ic :=
  .seq (.dn (.reg (
            .op (some 101) (.mov (.t 12)) <|
            .op (some 102) (.bin .eql (.t 101) (.k (.int .i64 0))) <|
            .call (some 103) (.fn 123) [(.t 102)] <|
            .op none (.sto (some 6) (.t 4) (.t 103)) <|
            .nil)) [11, 12, 100, 101, 102, 103]) <|
          .ret
def b54_4 : Ic :=
  .seq (.dn (.reg (
          .op (some 75) (.fa (.t 3) 2) <|
          .op (some 76) (.ld none (.t 75)) <|
          .call (some 77) (.fn 80) [(.t 76)] <|
          .op (some 74) (.mov (.t 77)) <|
          .op (some 78) (.ext (.t 74) 0) <|
          .op (some 79) (.ext (.t 74) 1) <|
          .op (some 9) (.mov (.t 78)) <|
          .op (some 10) (.mov (.t 79)) <|
          .nil)) [63, 71, 75, 76, 77, 74, 78, 79, 10]) <|
        .seq (.dn (.reg (
          .op (some 81) (.mov (.t 0)) <|
          .op (some 82) (.nck (.t 81)) <|
          .op (some 83) (.fa (.t 82) 0) <|
          .op (some 84) (.ld (some 6) (.t 83)) <|
          .op (some 85) (.mov (.t 9)) <|
          .call (some 86) (.fn 125) [(.t 84), (.t 85)] <|
          .op (some 80) (.mov (.t 86)) <|
          .op (some 87) (.ext (.t 80) 0) <|
          .op (some 88) (.ext (.t 80) 1) <|
          .op (some 11) (.new [(.int .i64 0), (.int .i64 0), (.int .i64 0), (.str []), (.nil 6), (.nil 7)]) <|
          .op none (.sto (some 6) (.t 11) (.t 87)) <|
          .op (some 12) (.mov (.t 88)) <|
          .nil)) [9, 81, 82, 83, 84, 85, 86, 80, 87, 88]) <|
        .seq (.seq (.dn (.reg (
          .op (some 89) (.mov (.t 12)) <|
          .op (some 90) (.bin .neq (.t 89) (.k (.int .i64 0))) <|
          .op (some 91) (.mov (.t 90)) <|
          .sc 91 true (
            .op (some 92) (.mov (.t 12)) <|
            .op (some 93) (.bin .neq (.t 92) (.k (.int .i64 19))) <|
            .nil) (.t 93) 94 <|
          .nil)) [89, 90, 91, 92, 93]) <|
        .dn (.ite (.t 94) b54_2
          (.skip)) [0, 94]) <|
        .seq (.seq (.dn (.reg (
          .op (some 98) (.fa (.t 3) 0) <|
          .op (some 99) (.ld none (.t 98)) <|
          .op (some 100) (.bin .eql (.t 99) (.k (.int .i64 22))) <|
          .nil)) [3, 98, 99]) <|
        .dn (.ite (.t 100) b54_3
          (.skip)) [12, 100]) <|
        .seq (.dn (.reg (
          .op (some 104) (.ld (some 6) (.t 11)) <|
          .op none (.sto (some 6) (.t 4) (.t 104)) <|
          .nil)) [11, 104]) <|
        .ret
def b54_5 : Ic :=
  .seq (.dn (.reg (
            .op (some 107) (.mov (.t 0)) <|
            .op (some 108) (.ld (some 5) (.t 3)) <|
            .call (some 109) (.fn 127) [(.t 107), (.t 108)] <|
            .op none (.sto (some 6) (.t 4) (.t 109)) <|
            .nil)) [0, 3, 63, 105, 107, 108, 109]) <|
          .ret
def b54_6 : Ic :=
  .seq (.dn (.reg (
              .op (some 112) (.mov (.t 0)) <|
              .op (some 113) (.fa (.t 3) 4) <|
              .op (some 114) (.ld none (.t 113)) <|
              .op (some 115) (.ixa true 5 (.t 114) (.k (.int .i64 0))) <|
              .op (some 116) (.ld (some 5) (.t 115)) <|
              .call (some 117) (.fn 128) [(.t 112), (.t 116)] <|
              .op (some 118) (.not (.t 117)) <|
              .call (some 119) (.fn 123) [(.t 118)] <|
              .op none (.sto (some 6) (.t 4) (.t 119)) <|
              .nil)) [0, 3, 63, 110, 112, 113, 114, 115, 116, 117, 118, 119]) <|
            .ret
def b54_7 : Ic :=
  .seq (.dn (.reg (
                .op (some 122) (.mov (.t 0)) <|
                .op (some 123) (.fa (.t 3) 4) <|
                .op (some 124) (.ld none (.t 123)) <|
                .op (some 125) (.ixa true 5 (.t 124) (.k (.int .i64 0))) <|
                .op (some 126) (.ld (some 5) (.t 125)) <|
                .call (some 127) (.fn 128) [(.t 122), (.t 126)] <|
                .op (some 128) (.mov (.t 127)) <|
                .sc 128 true (
                  .op (some 129) (.mov (.t 0)) <|
                  .op (some 130) (.fa (.t 3) 4) <|
                  .op (some 131) (.ld none (.t 130)) <|
                  .op (some 132) (.ixa true 5 (.t 131) (.k (.int .i64 1))) <|
                  .op (some 133) (.ld (some 5) (.t 132)) <|
                  .call (some 134) (.fn 128) [(.t 129), (.t 133)] <|
                  .nil) (.t 134) 135 <|
                .call (some 136) (.fn 123) [(.t 135)] <|
                .op none (.sto (some 6) (.t 4) (.t 136)) <|
                .nil)) [0, 3, 63, 120, 122, 123, 124, 125, 126, 127, 128, 129, 130, 131, 132, 133, 134, 135, 136]) <|
              .ret
def b54_8 : Ic :=
  .seq (.dn (.reg (
                  .op (some 139) (.mov (.t 0)) <|
                  .op (some 140) (.fa (.t 3) 4) <|
                  .op (some 141) (.ld none (.t 140)) <|
                  .op (some 142) (.ixa true 5 (.t 141) (.k (.int .i64 0))) <|
                  .op (some 143) (.ld (some 5) (.t 142)) <|
                  .call (some 144) (.fn 128) [(.t 139), (.t 143)] <|
                  .op (some 145) (.mov (.t 144)) <|
                  .sc 145 false (
                    .op (some 146) (.mov (.t 0)) <|
                    .op (some 147) (.fa (.t 3) 4) <|
                    .op (some 148) (.ld none (.t 147)) <|
                    .op (some 149) (.ixa true 5 (.t 148) (.k (.int .i64 1))) <|
                    .op (some 150) (.ld (some 5) (.t 149)) <|
                    .call (some 151) (.fn 128) [(.t 146), (.t 150)] <|
                    .nil) (.t 151) 152 <|
                  .call (some 153) (.fn 123) [(.t 152)] <|
                  .op none (.sto (some 6) (.t 4) (.t 153)) <|
                  .nil)) [0, 3, 63, 137, 139, 140, 141, 142, 143, 144, 145, 146, 147, 148, 149, 150, 151, 152, 153]) <|
                .ret
def b54_9 : Ic :=
  .seq (.dn (.reg (
                    .op (some 157) (.mov (.t 0)) <|
                    .op (some 158) (.fa (.t 3) 4) <|
                    .op (some 159) (.ld none (.t 158)) <|
                    .op (some 160) (.ixa true 5 (.t 159) (.k (.int .i64 0))) <|
                    .op (some 161) (.ld (some 5) (.t 160)) <|
                    .call (some 162) (.fn 122) [(.t 157), (.t 161)] <|
                    .op (some 13) (.new [(.int .i64 0), (.int .i64 0), (.int .i64 0), (.str []), (.nil 6), (.nil 7)]) <|
                    .op none (.sto (some 6) (.t 13) (.t 162)) <|
                    .nil)) [63, 154, 157, 158, 159, 160, 161, 162]) <|
                  .seq (.dn (.reg (
                    .op (some 163) (.mov (.t 0)) <|
                    .op (some 164) (.fa (.t 3) 4) <|
                    .op (some 165) (.ld none (.t 164)) <|
                    .op (some 166) (.ixa true 5 (.t 165) (.k (.int .i64 1))) <|
                    .op (some 167) (.ld (some 5) (.t 166)) <|
                    .call (some 168) (.fn 122) [(.t 163), (.t 167)] <|
                    .op (some 14) (.new [(.int .i64 0), (.int .i64 0), (.int .i64 0), (.str []), (.nil 6), (.nil 7)]) <|
                    .op none (.sto (some 6) (.t 14) (.t 168)) <|
                    .nil)) [163, 164, 165, 166, 167, 168]) <|
                  .seq (.dn (.regd [(3, 5)] (
                    .op (some 169) (.mov (.t 0)) <|
                    .op (some 170) (.ld (some 6) (.t 13)) <|
                    .op (some 171) (.ld (some 6) (.t 14)) <|
                    .call (some 172) (.fn 129) [(.t 169), (.t 170), (.t 171)] <|
                    .op (some 173) (.fa (.t 3) 0) <|
                    .op (some 174) (.ld none (.t 173)) <|
                    .op (some 175) (.bin .eql (.t 174) (.k (.int .i64 6))) <|
                    .op (some 176) (.bin .beq (.t 172) (.t 175)) <|
                    .call (some 177) (.fn 123) [(.t 176)] <|
                    .op none (.sto (some 6) (.t 4) (.t 177)) <|
                    .nil)) [0, 3, 13, 14, 169, 170, 171, 172, 173, 174, 175, 176, 177]) <|
                  .ret
def b54_10 : Ic :=
  .seq (.dn (.reg (
                      .op (some 180) (.mov (.t 0)) <|
                      .op (some 181) (.fa (.t 3) 4) <|
                      .op (some 182) (.ld none (.t 181)) <|
                      .op (some 183) (.ixa true 5 (.t 182) (.k (.int .i64 0))) <|
                      .op (some 184) (.ld (some 5) (.t 183)) <|
                      .call (some 185) (.fn 122) [(.t 180), (.t 184)] <|
                      .op (some 15) (.new [(.int .i64 0), (.int .i64 0), (.int .i64 0), (.str []), (.nil 6), (.nil 7)]) <|
                      .op none (.sto (some 6) (.t 15) (.t 185)) <|
                      .nil)) [63, 178, 180, 181, 182, 183, 184, 185]) <|
                    .seq (.reg (
                      .op (some 16) (.mov (.k (.bool false))) <|
                      .nil)) <|
                    .seq (.reg (
                      .op (some 17) (.mov (.k (.nil 6))) <|
                      .nil)) <|
                    .seq (.seq (.dn (.reg (
                      .op (some 186) (.fa (.t 3) 4) <|
                      .op (some 187) (.ld none (.t 186)) <|
                      .op (some 188) (.slc 5 (.t 187) (some (.k (.int .i64 1))) none none) <|
                      .op (some 189) (.len (.t 188)) <|
                      .op (some 190) (.mov (.k (.int .i64 0))) <|
                      .nil)) [3, 186, 187]) <|
                    .dn (.block 1 (
                      .loop (
                        .seq (.reg (
                          .op (some 191) (.bin .lss (.t 190) (.t 189)) <|
                          .nil)) <|
                        .seq (.dn (.ite (.t 191) (.skip)
                          (.exit 1)) [191]) <|
                        .seq (.dn (.block 2 (
                          .seq (.dn (.reg (
                            .op (some 192) (.ixa true 5 (.t 188) (.t 190)) <|
                            .op (some 193) (.ld (some 5) (.t 192)) <|
                            .op (some 19) (.new [(.int .i64 0), (.int .i64 0), (.str []), (.nil 6), (.nil 5)]) <|
                            .op none (.sto (some 5) (.t 19) (.t 193)) <|
                            .nil)) [192, 193]) <|
                          .dn (.reg (
                            .op (some 194) (.mov (.t 17)) <|
                            .op (some 195) (.mov (.t 0)) <|
                            .op (some 196) (.ld (some 5) (.t 19)) <|
                            .call (some 197) (.fn 122) [(.t 195), (.t 196)] <|
                            .op (some 198) (.bls 6 [(.t 197)]) <|
                            .op (some 199) (.app 6 (.t 194) (.t 198)) <|
                            .op (some 17) (.mov (.t 199)) <|
                            .nil)) [19, 194, 195, 196, 197, 198, 199])) [192, 193, 19, 194, 195, 196, 197, 198, 199]) <|
                        .dn (.reg (
                          .op (some 200) (.bin .add (.t 190) (.k (.int .i64 1))) <|
                          .op (some 190) (.mov (.t 200)) <|
                          .nil)) [200]))) [188, 189, 190, 191, 192, 193, 19, 194, 195, 196, 197, 198, 199, 200]) <|
                    .seq (.seq (.reg (
                      .op (some 20) (.mov (.k (.int .i64 0))) <|
                      .nil)) <|
                    .dn (.block 3 (
                      .loop (
                        .seq (.seq (.dn (.reg (
                          .op (some 201) (.mov (.t 20)) <|
                          .op (some 202) (.mov (.t 17)) <|
                          .op (some 203) (.len (.t 202)) <|
                          .op (some 204) (.bin .lss (.t 201) (.t 203)) <|
                          .op (some 205) (.mov (.t 204)) <|
                          .sc 205 true (
                            .op (some 206) (.mov (.t 16)) <|
                            .op (some 207) (.not (.t 206)) <|
                            .nil) (.t 207) 208 <|
                          .nil)) [201, 202, 203, 204, 205, 206, 207]) <|
                        .dn (.ite (.t 208) (.skip)
                          (.exit 3)) [16, 208]) <|
                        .seq (.dn (.block 4 (
                          .dn (.reg (
                            .op (some 211) (.mov (.t 0)) <|
                            .op (some 212) (.ld (some 6) (.t 15)) <|
                            .op (some 213) (.mov (.t 17)) <|
                            .op (some 214) (.mov (.t 20)) <|
                            .op (some 215) (.ixa true 6 (.t 213) (.t 214)) <|
                            .op (some 216) (.ld (some 6) (.t 215)) <|
                            .call (some 217) (.fn 129) [(.t 211), (.t 212), (.t 216)] <|
                            .op (some 16) (.mov (.t 217)) <|
                            .nil)) [211, 212, 213, 214, 215, 216, 217])) [211, 212, 213, 214, 215, 216, 217]) <|
                        .dn (.reg (
                          .op (some 209) (.mov (.t 20)) <|
                          .op (some 210) (.bin .add (.t 209) (.k (.int .i64 1))) <|
                          .op (some 20) (.mov (.t 210)) <|
                          .nil)) [209, 210]))) [0, 15, 17, 20, 201, 202, 203, 204, 205, 206, 207, 208, 211, 212, 213, 214, 215, 216, 217, 209, 210]) <|
                    .seq (.dn (.reg (
                      .op (some 218) (.mov (.t 16)) <|
                      .call (some 219) (.fn 123) [(.t 218)] <|
                      .op none (.sto (some 6) (.t 4) (.t 219)) <|
                      .nil)) [16, 218, 219]) <|
                    .ret
def b54_11 : Ic :=
  .seq (.dn (.reg (
                          .op (some 223) (.bin .eql (.t 63) (.k (.int .i64 14))) <|
                          .op (some 220) (.mov (.t 223)) <|
                          .nil)) [223]) <|
                        .ite (.t 220) (.skip)
                          (.dn (.reg (
                            .op (some 224) (.bin .eql (.t 63) (.k (.int .i64 15))) <|
                            .op (some 220) (.mov (.t 224)) <|
                            .nil)) [224])
def b54_12 : Ic :=
  .seq (.dn (.reg (
                        .op (some 225) (.mov (.t 0)) <|
                        .op (some 226) (.fa (.t 3) 4) <|
                        .op (some 227) (.ld none (.t 226)) <|
                        .op (some 228) (.ixa true 5 (.t 227) (.k (.int .i64 0))) <|
                        .op (some 229) (.ld (some 5) (.t 228)) <|
                        .call (some 230) (.fn 122) [(.t 225), (.t 229)] <|
                        .op (some 21) (.new [(.int .i64 0), (.int .i64 0), (.int .i64 0), (.str []), (.nil 6), (.nil 7)]) <|
                        .op none (.sto (some 6) (.t 21) (.t 230)) <|
                        .nil)) [63, 220, 225, 226, 227, 228, 229, 230]) <|
                      .seq (.dn (.reg (
                        .op (some 231) (.mov (.t 0)) <|
                        .op (some 232) (.fa (.t 3) 4) <|
                        .op (some 233) (.ld none (.t 232)) <|
                        .op (some 234) (.ixa true 5 (.t 233) (.k (.int .i64 1))) <|
                        .op (some 235) (.ld (some 5) (.t 234)) <|
                        .call (some 236) (.fn 122) [(.t 231), (.t 235)] <|
                        .op (some 22) (.new [(.int .i64 0), (.int .i64 0), (.int .i64 0), (.str []), (.nil 6), (.nil 7)]) <|
                        .op none (.sto (some 6) (.t 22) (.t 236)) <|
                        .nil)) [231, 232, 233, 234, 235, 236]) <|
                      .seq (.dn (.reg (
                        .op (some 237) (.mov (.t 0)) <|
                        .op (some 238) (.ld (some 5) (.t 3)) <|
                        .op (some 239) (.ld (some 6) (.t 21)) <|
                        .op (some 240) (.ld (some 6) (.t 22)) <|
                        .call (some 241) (.fn 130) [(.t 237), (.t 238), (.t 239), (.t 240)] <|
                        .op none (.sto (some 6) (.t 4) (.t 241)) <|
                        .nil)) [0, 3, 21, 22, 237, 238, 239, 240, 241]) <|
                      .ret
def b54_13 : Ic :=
  .seq (.dn (.reg (
                          .op (some 244) (.mov (.t 0)) <|
                          .op (some 245) (.fa (.t 3) 4) <|
                          .op (some 246) (.ld none (.t 245)) <|
                          .op (some 247) (.ixa true 5 (.t 246) (.k (.int .i64 0))) <|
                          .op (some 248) (.ld (some 5) (.t 247)) <|
                          .call (some 249) (.fn 122) [(.t 244), (.t 248)] <|
                          .op (some 23) (.new [(.int .i64 0), (.int .i64 0), (.int .i64 0), (.str []), (.nil 6), (.nil 7)]) <|
                          .op none (.sto (some 6) (.t 23) (.t 249)) <|
                          .nil)) [63, 242, 244, 245, 246, 247, 248, 249]) <|
                        .seq (.dn (.reg (
                          .op (some 250) (.mov (.t 0)) <|
                          .op (some 251) (.fa (.t 3) 4) <|
                          .op (some 252) (.ld none (.t 251)) <|
                          .op (some 253) (.ixa true 5 (.t 252) (.k (.int .i64 1))) <|
                          .op (some 254) (.ld (some 5) (.t 253)) <|
                          .call (some 255) (.fn 122) [(.t 250), (.t 254)] <|
                          .op (some 24) (.new [(.int .i64 0), (.int .i64 0), (.int .i64 0), (.str []), (.nil 6), (.nil 7)]) <|
                          .op none (.sto (some 6) (.t 24) (.t 255)) <|
                          .nil)) [3, 250, 251, 252, 253, 254, 255]) <|
                        .seq (.dn (.reg (
                          .op (some 256) (.mov (.t 0)) <|
                          .op (some 257) (.ld (some 6) (.t 23)) <|
                          .op (some 258) (.ld (some 6) (.t 24)) <|
                          .call (some 259) (.fn 131) [(.t 256), (.t 257), (.t 258)] <|
                          .op none (.sto (some 6) (.t 4) (.t 259)) <|
                          .nil)) [0, 23, 24, 256, 257, 258, 259]) <|
                        .ret
def b54_14 : Ic :=
  .seq (.dn (.reg (
                            .op (some 262) (.mov (.t 0)) <|
                            .op (some 263) (.fa (.t 3) 4) <|
                            .op (some 264) (.ld none (.t 263)) <|
                            .op (some 265) (.ixa true 5 (.t 264) (.k (.int .i64 0))) <|
                            .op (some 266) (.ld (some 5) (.t 265)) <|
                            .call (some 267) (.fn 122) [(.t 262), (.t 266)] <|
                            .op (some 25) (.new [(.int .i64 0), (.int .i64 0), (.int .i64 0), (.str []), (.nil 6), (.nil 7)]) <|
                            .op none (.sto (some 6) (.t 25) (.t 267)) <|
                            .nil)) [63, 260, 262, 263, 264, 265, 266, 267]) <|
                          .seq (.dn (.reg (
                            .op (some 268) (.mov (.t 0)) <|
                            .op (some 269) (.fa (.t 3) 4) <|
                            .op (some 270) (.ld none (.t 269)) <|
                            .op (some 271) (.ixa true 5 (.t 270) (.k (.int .i64 1))) <|
                            .op (some 272) (.ld (some 5) (.t 271)) <|
                            .call (some 273) (.fn 122) [(.t 268), (.t 272)] <|
                            .op (some 26) (.new [(.int .i64 0), (.int .i64 0), (.int .i64 0), (.str []), (.nil 6), (.nil 7)]) <|
                            .op none (.sto (some 6) (.t 26) (.t 273)) <|
                            .nil)) [268, 269, 270, 271, 272, 273]) <|
                          .seq (.dn (.reg (
                            .op (some 274) (.mov (.t 0)) <|
                            .op (some 275) (.fa (.t 3) 4) <|
                            .op (some 276) (.ld none (.t 275)) <|
                            .op (some 277) (.ixa true 5 (.t 276) (.k (.int .i64 2))) <|
                            .op (some 278) (.ld (some 5) (.t 277)) <|
                            .call (some 279) (.fn 122) [(.t 274), (.t 278)] <|
                            .op (some 27) (.new [(.int .i64 0), (.int .i64 0), (.int .i64 0), (.str []), (.nil 6), (.nil 7)]) <|
                            .op none (.sto (some 6) (.t 27) (.t 279)) <|
                            .nil)) [3, 274, 275, 276, 277, 278, 279]) <|
                          .seq (.dn (.reg (
                            .op (some 280) (.mov (.t 0)) <|
                            .op (some 281) (.ld (some 6) (.t 25)) <|
                            .op (some 282) (.ld (some 6) (.t 26)) <|
                            .op (some 283) (.ld (some 6) (.t 27)) <|
                            .call (some 284) (.fn 132) [(.t 280), (.t 281), (.t 282), (.t 283)] <|
                            .op none (.sto (some 6) (.t 4) (.t 284)) <|
                            .nil)) [0, 25, 26, 27, 280, 281, 282, 283, 284]) <|
                          .ret
def b54_15 : Ic :=
  .seq (.dn (.reg (
                                .op (some 303) (.ld (some 6) (.t 28)) <|
                                .op none (.sto (some 6) (.t 4) (.t 303)) <|
                                .nil)) [0, 3, 28, 302, 303]) <|
                              .ret
def b54_16 : Ic :=
  .seq (.seq (.dn (.reg (
                              .op (some 287) (.mov (.t 0)) <|
                              .op (some 288) (.fa (.t 3) 4) <|
                              .op (some 289) (.ld none (.t 288)) <|
                              .op (some 290) (.ixa true 5 (.t 289) (.k (.int .i64 0))) <|
                              .op (some 291) (.ld (some 5) (.t 290)) <|
                              .call (some 292) (.fn 54) [(.t 287), (.t 291)] <|
                              .op (some 28) (.new [(.int .i64 0), (.int .i64 0), (.int .i64 0), (.str []), (.nil 6), (.nil 7)]) <|
                              .op none (.sto (some 6) (.t 28) (.t 292)) <|
                              .nil)) [63, 285, 287, 288, 289, 290, 291, 292]) <|
                            .seq (.dn (.reg (
                              .op (some 293) (.mov (.t 0)) <|
                              .op (some 294) (.nck (.t 293)) <|
                              .op (some 295) (.fa (.t 294) 6) <|
                              .op (some 296) (.ld none (.t 295)) <|
                              .op (some 297) (.bin .neq (.t 296) (.k (.int .i64 0))) <|
                              .op (some 298) (.mov (.t 297)) <|
                              .sc 298 false (
                                .op (some 299) (.ld (some 6) (.t 28)) <|
                                .call (some 300) (.fn 13) [(.t 299)] <|
                                .op (some 301) (.not (.t 300)) <|
                                .nil) (.t 301) 302 <|
                              .nil)) [293, 294, 295, 296, 297, 298, 299, 300, 301]) <|
                            .dn (.ite (.t 302) b54_15
                              (.skip)) [28, 302]) <|
                            .seq (.dn (.reg (
                              .op (some 304) (.mov (.t 0)) <|
                              .op (some 305) (.fa (.t 3) 4) <|
                              .op (some 306) (.ld none (.t 305)) <|
                              .op (some 307) (.ixa true 5 (.t 306) (.k (.int .i64 1))) <|
                              .op (some 308) (.ld (some 5) (.t 307)) <|
                              .call (some 309) (.fn 54) [(.t 304), (.t 308)] <|
                              .op none (.sto (some 6) (.t 4) (.t 309)) <|
                              .nil)) [0, 3, 304, 305, 306, 307, 308, 309]) <|
                            .ret
def b54_17 : Ic :=
  .seq (.dn (.reg (
                                  .op (some 318) (.mov (.t 0)) <|
                                  .op (some 319) (.fa (.t 3) 4) <|
                                  .op (some 320) (.ld none (.t 319)) <|
                                  .op (some 321) (.ixa true 5 (.t 320) (.k (.int .i64 1))) <|
                                  .op (some 322) (.ld (some 5) (.t 321)) <|
                                  .call (some 323) (.fn 54) [(.t 318), (.t 322)] <|
                                  .op none (.sto (some 6) (.t 4) (.t 323)) <|
                                  .nil)) [0, 3, 317, 318, 319, 320, 321, 322, 323]) <|
                                .ret
def b54_18 : Ic :=
  .seq (.seq (.dn (.reg (
                                .op (some 312) (.mov (.t 0)) <|
                                .op (some 313) (.fa (.t 3) 4) <|
                                .op (some 314) (.ld none (.t 313)) <|
                                .op (some 315) (.ixa true 5 (.t 314) (.k (.int .i64 0))) <|
                                .op (some 316) (.ld (some 5) (.t 315)) <|
                                .call (some 317) (.fn 128) [(.t 312), (.t 316)] <|
                                .nil)) [310, 312, 313, 314, 315, 316]) <|
                              .dn (.ite (.t 317) b54_17
                                (.skip)) [317]) <|
                              .seq (.dn (.reg (
                                .op (some 324) (.mov (.t 0)) <|
                                .op (some 325) (.fa (.t 3) 4) <|
                                .op (some 326) (.ld none (.t 325)) <|
                                .op (some 327) (.ixa true 5 (.t 326) (.k (.int .i64 2))) <|
                                .op (some 328) (.ld (some 5) (.t 327)) <|
                                .call (some 329) (.fn 54) [(.t 324), (.t 328)] <|
                                .op none (.sto (some 6) (.t 4) (.t 329)) <|
                                .nil)) [0, 3, 324, 325, 326, 327, 328, 329]) <|
                              .ret
def b54_19 : Ic :=
  .seq (.dn (.reg (
                              .op (some 311) (.bin .eql (.t 63) (.k (.int .i64 24))) <|
                              .op (some 310) (.mov (.t 311)) <|
                              .nil)) [63, 285, 311]) <|
                            .dn (.ite (.t 310) b54_18
                              (.skip)) [310]
def b54_20 : Ic :=
  .seq (.dn (.reg (
                            .op (some 286) (.bin .eql (.t 63) (.k (.int .i64 23))) <|
                            .op (some 285) (.mov (.t 286)) <|
                            .nil)) [260, 286]) <|
                          .ite (.t 285) b54_16 b54_19
def b54_21 : Ic :=
  .seq (.dn (.reg (
                          .op (some 261) (.bin .eql (.t 63) (.k (.int .i64 21))) <|
                          .op (some 260) (.mov (.t 261)) <|
                          .nil)) [242, 261]) <|
                        .ite (.t 260) b54_14 b54_20
def b54_22 : Ic :=
  .seq (.dn (.reg (
                        .op (some 243) (.bin .eql (.t 63) (.k (.int .i64 17))) <|
                        .op (some 242) (.mov (.t 243)) <|
                        .nil)) [220, 243]) <|
                      .ite (.t 242) b54_13 b54_21
def b54_23 : Ic :=
  .seq (.seq (.dn (.reg (
                      .op (some 221) (.bin .eql (.t 63) (.k (.int .i64 12))) <|
                      .op (some 220) (.mov (.t 221)) <|
                      .nil)) [178, 221]) <|
                    .ite (.t 220) (.skip)
                      (.seq (.dn (.reg (
                        .op (some 222) (.bin .eql (.t 63) (.k (.int .i64 13))) <|
                        .op (some 220) (.mov (.t 222)) <|
                        .nil)) [222]) <|
                      .ite (.t 220) (.skip) b54_11)) <|
                    .ite (.t 220) b54_12 b54_22
def b54_24 : Ic :=
  .seq (.seq (.dn (.reg (
                  .op (some 155) (.bin .eql (.t 63) (.k (.int .i64 6))) <|
                  .op (some 154) (.mov (.t 155)) <|
                  .nil)) [137, 155]) <|
                .ite (.t 154) (.skip)
                  (.dn (.reg (
                    .op (some 156) (.bin .eql (.t 63) (.k (.int .i64 7))) <|
                    .op (some 154) (.mov (.t 156)) <|
                    .nil)) [156])) <|
                .ite (.t 154) b54_9
                  (.seq (.dn (.reg (
                    .op (some 179) (.bin .eql (.t 63) (.k (.int .i64 25))) <|
                    .op (some 178) (.mov (.t 179)) <|
                    .nil)) [154, 179]) <|
                  .ite (.t 178) b54_10 b54_23)
def b54_25 : Ic :=
  .seq (.dn (.reg (
              .op (some 121) (.bin .eql (.t 63) (.k (.int .i64 4))) <|
              .op (some 120) (.mov (.t 121)) <|
              .nil)) [110, 121]) <|
            .ite (.t 120) b54_7
              (.seq (.dn (.reg (
                .op (some 138) (.bin .eql (.t 63) (.k (.int .i64 5))) <|
                .op (some 137) (.mov (.t 138)) <|
                .nil)) [120, 138]) <|
              .ite (.t 137) b54_8 b54_24)
def b54_26 : Ic :=
  .seq (.dn (.reg (
          .op (some 106) (.bin .eql (.t 63) (.k (.int .i64 26))) <|
          .op (some 105) (.mov (.t 106)) <|
          .nil)) [71, 106]) <|
        .ite (.t 105) b54_5
          (.seq (.dn (.reg (
            .op (some 111) (.bin .eql (.t 63) (.k (.int .i64 3))) <|
            .op (some 110) (.mov (.t 111)) <|
            .nil)) [105, 111]) <|
          .ite (.t 110) b54_6 b54_25)
def b54_27 : Ic :=
  .seq (.seq (.dn (.reg (
        .op (some 72) (.bin .eql (.t 63) (.k (.int .i64 2))) <|
        .op (some 71) (.mov (.t 72)) <|
        .nil)) [64, 72]) <|
      .ite (.t 71) (.skip)
        (.dn (.reg (
          .op (some 73) (.bin .eql (.t 63) (.k (.int .i64 22))) <|
          .op (some 71) (.mov (.t 73)) <|
          .nil)) [73])) <|
      .ite (.t 71) b54_4 b54_26
def ir54c : Ic :=
  .seq (.dn (.reg (
    .op (some 3) (.box (.t 1)) <|
    .op (some 4) (.new [(.int .i64 0), (.int .i64 0), (.int .i64 0), (.str []), (.nil 6), (.nil 7)]) <|
    .nil)) [1]) <|
  .seq (.seq (.dn (.reg (
    .op (some 29) (.mov (.t 0)) <|
    .op (some 30) (.nck (.t 29)) <|
    .op (some 31) (.fa (.t 30) 6) <|
    .op (some 32) (.ld none (.t 31)) <|
    .op (some 33) (.bin .neq (.t 32) (.k (.int .i64 0))) <|
    .nil)) [29, 30, 31, 32]) <|
  .dn (.ite (.t 33) (.seq (.dn (.reg (
      .op (some 34) (.bld [(.int .i64 0), (.int .i64 0), (.int .i64 0), (.str []), (.nil 6), (.nil 7)] []) <|
      .op none (.sto (some 6) (.t 4) (.t 34)) <|
      .nil)) [0, 3, 33, 34]) <|
    .ret)
    (.skip)) [33]) <|
  .seq (.seq (.dn (.regd [(0, 2)] (
    .call (some 36) (.fn 121) [] <|
    .op (some 37) (.fa (.t 3) 0) <|
    .op (some 38) (.ld none (.t 37)) <|
    .op (some 39) (.lkp .i .nilFn (.t 36) (.t 38) true) <|
    .op (some 35) (.mov (.t 39)) <|
    .op (some 40) (.ext (.t 35) 0) <|
    .op (some 41) (.ext (.t 35) 1) <|
    .op (some 5) (.mov (.t 40)) <|
    .op (some 6) (.mov (.t 41)) <|
    .nil)) [36, 37, 38, 39, 35, 40, 41]) <|
  .seq (.dn (.reg (
    .op (some 42) (.mov (.t 6)) <|
    .nil)) [6]) <|
  .dn (.ite (.t 42) b54_0
    (.skip)) [5, 42]) <|
  .seq (.seq (.dn (.reg (
    .op (some 62) (.fa (.t 3) 0) <|
    .op (some 63) (.ld none (.t 62)) <|
    .nil)) [62]) <|
  .dn (.block 0 (
    .seq (.dn (.reg (
      .op (some 65) (.bin .eql (.t 63) (.k (.int .i64 1))) <|
      .op (some 64) (.mov (.t 65)) <|
      .nil)) [65]) <|
    .ite (.t 64) b54_1 b54_27)) [63, 65, 64, 66, 67, 68, 69, 70, 72, 71, 73, 75, 76, 77, 74, 78, 79, 9, 10, 81, 82, 83, 84, 85, 86, 80, 87, 88, 11, 12, 89, 90, 91, 92, 93, 94, 95, 96, 97, 98, 99, 100, 101, 102, 103, 104, 106, 105, 107, 108, 109, 111, 110, 112, 113, 114, 115, 116, 117, 118, 119, 121, 120, 122, 123, 124, 125, 126, 127, 128, 129, 130, 131, 132, 133, 134, 135, 136, 138, 137, 139, 140, 141, 142, 143, 144, 145, 146, 147, 148, 149, 150, 151, 152, 153, 155, 154, 156, 157, 158, 159, 160, 161, 162, 13, 163, 164, 165, 166, 167, 168, 14, 169, 170, 171, 172, 173, 174, 175, 176, 177, 179, 178, 180, 181, 182, 183, 184, 185, 15, 16, 17, 186, 187, 188, 189, 190, 191, 192, 193, 19, 194, 195, 196, 197, 198, 199, 200, 20, 201, 202, 203, 204, 205, 206, 207, 208, 211, 212, 213, 214, 215, 216, 217, 209, 210, 218, 219, 221, 220, 222, 223, 224, 225, 226, 227, 228, 229, 230, 21, 231, 232, 233, 234, 235, 236, 22, 237, 238, 239, 240, 241, 243, 242, 244, 245, 246, 247, 248, 249, 23, 250, 251, 252, 253, 254, 255, 24, 256, 257, 258, 259, 261, 260, 262, 263, 264, 265, 266, 267, 25, 268, 269, 270, 271, 272, 273, 26, 274, 275, 276, 277, 278, 279, 27, 280, 281, 282, 283, 284, 286, 285, 287, 288, 289, 290, 291, 292, 28, 293, 294, 295, 296, 297, 298, 299, 300, 301, 302, 303, 304, 305, 306, 307, 308, 309, 311, 310, 312, 313, 314, 315, 316, 317, 318, 319, 320, 321, 322, 323, 324, 325, 326, 327, 328, 329]) <|
  .seq (.dn (.regd [(2, 8)] (
    .op (some 330) (.mov (.t 0)) <|
    .op (some 331) (.fa (.t 3) 0) <|
    .op (some 332) (.ld none (.t 331)) <|
    .op (some 333) (.mov (.t 0)) <|
    .op (some 334) (.fa (.t 3) 4) <|
    .op (some 335) (.ld none (.t 334)) <|
    .op (some 336) (.ixa true 5 (.t 335) (.k (.int .i64 0))) <|
    .op (some 337) (.ld (some 5) (.t 336)) <|
    .call (some 338) (.fn 122) [(.t 333), (.t 337)] <|
    .call (some 339) (.fn 133) [(.t 330), (.t 332), (.t 338)] <|
    .op none (.sto (some 6) (.t 4) (.t 339)) <|
    .nil)) [0, 3, 330, 331, 332, 333, 334, 335, 336, 337, 338, 339]) <|
  .ret
theorem ir54_cut : ir54 = ir54c := rfl
theorem ok54c : FnOk Tryz.prog 54 340 ir54c [.cell 4 (some 6)] := ir54_cut ▸ ok54
end Go.Proofs
