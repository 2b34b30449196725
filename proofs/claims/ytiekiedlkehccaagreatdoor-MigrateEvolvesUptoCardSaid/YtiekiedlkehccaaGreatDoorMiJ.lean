/- Part J of a proof. -/
import Derived.Test.YtiekiedlkehccaaGreatDoorMiD
import Derived.Test.YtiekiedlkehccaaGreatDoorMiA
import Derived.Test.YtiekiedlkehccaaGreatDoorMiI
import Derived.Test.YtiekiedlkehccaaGreatDoorMiE
import Derived.Shelf.SlSortCmp.InsertionK
import Derived.Lib.Bytealg
import Derived.Shelf.SlGeneric
import Derived.Shelf.SlLaysF0
import Derived.Shelf.Small.Strs
import Derived.Ground.SlsfProg
import Derived.Ground.NamesProg
import Derived.Test.YtiekiedlkehccaaGreatDoorProg
import Derived.Shelf.SlSortCmp.NoneTotal
import Derived.Shelf.Slices.Clone
import Derived.Ground.Names2Prog
set_option linter.unusedVariables false
set_option linter.unusedSimpArgs false
set_option linter.unusedSectionVars false
set_option linter.constructorNameAsVariable false
set_option linter.unnecessarySimpa false
set_option maxRecDepth 100000
namespace Go.Proofs
open Go Av
open Av.Y
def ir352 : Ic := q (R (ow 6 false<|N) [6])<|q (R (om 7 0<|om 8 1<|ot 9 .geq 7 8<|om 10 9<|.sc 10 true (om 11 0<|om 12 2<|ot 13 .leq 11 12<|N) (t 13) 14 (om 6 14<|N)) [0,1,2,7,8,9,10,14])<|.ret
theorem ok352 : FT 352 15 ir352 [.tmp 6] := .o Tryz.func352
def ir354 : Ic := q (R (ox 2 0<|ox 3 1<|oz 4 0<|N) [0,1,4])<|q (D (.block 0<|q (q (R (of 6 3 3<|ol 7 6<|og 8 7<|om 9 8<|.sc 9 true (of 10 2 1<|ol 11 10<|oi 12 .neq 11 0<|om 13 12<|.sc 13 false (of 14 2 2<|ol 15 14<|oi 16 .neq 15 0<|N) (t 16) 17 N) (t 17) 18 (om 5 18<|N)) [6,7,8,9,18])<|D (I 5 S (q (R (of 19 3 4<|ol 20 19<|og 21 20<|om 22 21<|.sc 22 true (of 23 2 3<|ol 24 23<|oi 25 .neq 24 0<|N) (t 25) 26 (om 5 26<|N)) [19,20,21,22,26])<|D (I 5 S (q (R (of 27 3 5<|ol 28 27<|og 29 28<|om 30 29<|.sc 30 true (of 31 2 4<|ol 32 31<|oh 33 32<|oi 34 .gtr 33 0<|N) (t 34) 35 (om 5 35<|N)) [27,28,29,30,35])<|D (I 5 S (q (R (of 36 3 6<|ol 37 36<|og 38 37<|om 39 38<|.sc 39 true (of 40 2 5<|ol 41 40<|oh 42 41<|oi 43 .gtr 42 0<|N) (t 43) 44 (om 5 44<|N)) [36,37,38,39,44])<|D (I 5 S (R (of 45 3 7<|ol 46 45<|og 47 46<|om 48 47<|.sc 48 true (of 49 2 6<|ol 50 49<|oh 51 50<|oi 52 .gtr 51 0<|N) (t 52) 53 (om 5 53<|N)) [2,3,45,46,47,48,53])) [2,3])) [2,3])) [2,3])) [2,3])<|D (I 5 (q (R (oz 4 3<|N) [5])<|.ret) S) [5]) [])<|q (.reg (oz 4 0<|N))<|.ret
theorem ok354 : FT 354 54 ir354 [.tmp 4] := .o Tryz.func354
def ir289 : Ic := q (R (ox 1 0<|ok 2 (.k (.nil 7))<|N) [0,2])<|q (q (R (of 6 1 0<|ol 7 6<|N) [6])<|D (.block 0<|q (R (oi 9 .eql 7 8<|om 8 9<|N) [9])<|D (I 8 (q (R (of 10 1 5<|ol 11 10<|om 2 11<|N) [1,7,8,10,11])<|.ret) (q (q (R (oi 13 .eql 7 9<|om 12 13<|N) [8,13])<|D (I 12 S (R (oi 14 .eql 7 10<|om 12 14<|N) [7,14])) [7])<|D (I 12 (q (R (of 15 1 6<|ol 16 15<|oh 17 16<|oo 18 (.mks 7 [.int .i64 0,.int .i64 0,.int .i64 0,.int .i64 0,.nil 1,.nil 7,.nil 11] (i 0) (t 17))<|om 3 18<|N) [12,15,16,17,18])<|q (q (R (of 19 1 6<|ol 20 19<|oh 21 20<|oz 22 0<|N) [1,19])<|D (.block 1<|.loop (q (.reg (ot 23 .lss 22 21<|N))<|q (D (I 23 S (E 1)) [23])<|q (D (.block 2<|q (R (oa true 24 11 20 22<|oL 25 11 24<|oN 5 vG<|oS 11 5 25<|N) [24,25])<|R (om 26 3<|of 27 5 3<|oL 28 7 27<|oo 29 (.bls 7 [t 28])<|oo 30 (.app 7 (t 26) (t 29))<|om 3 30<|N) [5,26,27,28,29,30]) [])<|R (oi 31 .add 22 1<|om 22 31<|N) [31])) [20,21,22,23,5])<|q (R (om 32 3<|om 2 32<|N) [3,32])<|.ret) S) [1,12])) []) [10,11,3,5])<|q (.reg (ok 2 (.k (.nil 7))<|N))<|.ret
theorem ok289 : FT 289 33 ir289 [.tmp 2] := .o Tryz.func289
def ir355 : Ic := q (R (ox 1 0<|oz 2 0<|N) [0,2])<|q (D (.block 0<|q (R (of 7 1 1<|ol 8 7<|oi 9 .neq 8 0<|om 10 9<|.sc 10 false (of 11 1 2<|ol 12 11<|oi 13 .neq 12 0<|N) (t 13) 14 (om 6 14<|N)) [7,8,9,10,14])<|D (I 6 (q (R (oz 2 3<|N) [1,6])<|.ret) (q (R (of 16 1 4<|ol 17 16<|oh 18 17<|oi 19 .gtr 18 64<|om 15 19<|N) [6,16,17,18,19])<|D (I 15 (q (R (oz 2 9<|N) [1,15])<|.ret) S) [15])) []) [])<|q (q (R (of 20 1 4<|ol 21 20<|oh 22 21<|oz 23 0<|N) [20])<|D (.block 1<|.loop (q (.reg (ot 24 .lss 23 22<|N))<|q (D (I 24 S (E 1)) [24])<|q (D (.block 2<|q (R (om 25 23<|oa false 26 1 21 23<|ol 27 26<|om 3 25<|om 4 27<|N) [25,26,27])<|q (q (R (om 28 4<|cl 29 216 [t 28]<|cl 30 30 [t 29]<|om 5 30<|N) [28,29,30])<|q (R (om 31 5<|oi 32 .neq 31 0<|N) [31])<|D (I 32 (q (R (om 33 5<|om 2 33<|N) [1,21,22,23,3,4,5,32,33])<|.ret) S) [5,32])<|q (q (R (om 34 3<|oi 35 .gtr 34 0<|om 36 35<|.sc 36 true (om 37 4<|of 38 1 4<|ol 39 38<|om 40 3<|oi 41 .sub 40 1<|oa false 42 1 39 41<|ol 43 42<|ot 44 .seq 37 43<|N) (t 44) 45 N) [34,35,36])<|D (I 45 (q (R (oz 2 7<|N) [1,21,22,23,3,4,45])<|.ret) S) [45])<|q (R (om 46 3<|oi 47 .gtr 46 0<|om 48 47<|.sc 48 true (om 49 4<|of 50 1 4<|ol 51 50<|om 52 3<|oi 53 .sub 52 1<|oa false 54 1 51 53<|ol 55 54<|ot 56 .slt 49 55<|N) (t 56) 57 N) [3,4,46,47,48])<|D (I 57 (q (R (oz 2 24<|N) [1,21,22,23,57])<|.ret) S) [57]) [])<|R (oi 58 .add 23 1<|om 23 58<|N) [58])) [1,21,22,23,24,3,4,5])<|q (.reg (oz 2 0<|N))<|.ret
theorem ok355 : FT 355 59 ir355 [.tmp 2] := .o Tryz.func355
def ir356 : Ic := q (R (ox 2 0<|oz 4 0<|N) [0,4])<|q (R (of 6 2 6<|ol 7 6<|om 8 1<|oa true 9 11 7 8<|oL 10 11 9<|oN 5 vG<|oS 11 5 10<|N) [6,7,8,9,10])<|q (D (.block 0<|q (R (of 12 5 1<|ol 13 12<|cl 14 151 [t 13]<|og 15 14<|om 11 15<|N) [12,13,14,15])<|D (I 11 (q (R (oz 4 12<|N) [1,2,5,11])<|.ret) (q (R (of 17 5 0<|ol 18 17<|cl 19 352 [t 18,i 1,i 9999]<|og 20 19<|om 16 20<|N) [11,17,18,19,20])<|D (I 16 (q (R (oz 4 2<|N) [1,2,5,16])<|.ret) (q (R (of 22 2 6<|ol 23 22<|om 24 1<|oo 25 (.slc 11 (t 23) none (some (t 24)) none)<|oo 26 (.fnv (.func 396) [] [t 5])<|cl 27 122 [t 25,t 26]<|om 21 27<|N) [1,16,22,23,24,25,26,27])<|D (I 21 (q (R (oz 4 7<|N) [2,5,21])<|.ret) (q (R (of 29 5 2<|ol 30 29<|cl 31 352 [t 30,i 1,i 3]<|og 32 31<|om 33 32<|.sc 33 false (of 34 2 0<|ol 35 34<|oi 36 .eql 35 10<|om 37 36<|.sc 37 true (of 38 5 2<|ol 39 38<|oi 40 .neq 39 1<|N) (t 40) 41 N) (t 41) 42 (om 28 42<|N)) [2,21,29,30,31,32,33,42])<|D (I 28 (q (R (oz 4 11<|N) [5,28])<|.ret) (q (R (of 44 5 2<|ol 45 44<|oi 46 .eql 45 3<|om 47 46<|.sc 47 true (of 48 5 10<|ol 49 48<|oh 50 49<|oi 51 .eql 50 0<|N) (t 51) 52 (om 43 52<|N)) [28,44,45,46,47,52])<|D (I 43 (q (R (oz 4 4<|N) [5,43])<|.ret) (q (R (of 54 5 10<|ol 55 54<|oh 56 55<|oi 57 .gtr 56 1<|om 58 57<|.sc 58 false (of 59 5 2<|ol 60 59<|oi 61 .neq 60 3<|om 62 61<|.sc 62 true (of 63 5 10<|ol 64 63<|oh 65 64<|oi 66 .gtr 65 0<|N) (t 66) 67 N) (t 67) 68 (om 53 68<|N)) [5,43,54,55,56,57,58,68])<|D (I 53 (q (R (oz 4 3<|N) [53])<|.ret) S) [53])) [])) [])) [])) [])) []) [])<|q (.reg (oz 4 0<|N))<|.ret
theorem ok356 : FT 356 69 ir356 [.tmp 4] := .o Tryz.func356
def ir396 : Ic := q (R (ox 2 0<|ow 3 false<|N) [0,3])<|q (R (of 4 2 1<|ol 5 4<|of 6 1 1<|ol 7 6<|ot 8 .seq 5 7<|om 9 8<|.sc 9 false (of 10 2 0<|ol 11 10<|of 12 1 0<|ol 13 12<|ot 14 .eql 11 13<|N) (t 14) 15 (om 3 15<|N)) [2,4,5,6,7,8,9,15])<|.ret
theorem ok396 : FT 396 16 ir396 [.tmp 3] := .o Tryz.func396
def ir288 : Ic := q (R (ox 1 0<|oz 2 0<|N) [0,2])<|q (q (R (of 8 1 0<|ol 9 8<|cl 10 352 [t 9,i 1,i 10]<|og 11 10<|N) [8,9,10])<|D (I 11 (q (R (oz 2 11<|N) [1,11])<|.ret) S) [11])<|q (D (.regd [(0,2),(0,4),(2,4)] (cl 12 353 []<|of 13 1 0<|ol 14 13<|oo 15 (.ixv (some 8) 11 8 (t 12) (t 14))<|oN 3 [.str [],.int .i64 0,.int .i64 0,.bool false,.bool false,.bool false,.bool false,.bool false]<|oS 8 3 15<|N)) [12,13,14,15])<|q (q (R (oL 16 7 1<|oL 17 8 3<|cl 18 354 [t 16,t 17]<|om 4 18<|N) [16,17,18])<|q (R (om 19 4<|oi 20 .neq 19 0<|N) [19])<|D (I 20 (q (R (om 21 4<|om 2 21<|N) [1,3,4,20,21])<|.ret) S) [4,20])<|q (D (.block 0<|q (R (of 23 1 0<|ol 24 23<|oi 25 .eql 24 4<|om 26 25<|.sc 26 true (of 27 1 4<|ol 28 27<|oh 29 28<|oi 30 .gtr 29 0<|N) (t 30) 31 (om 22 31<|N)) [23,24,25,26,31])<|I 22 (q (R (oL 32 7 1<|cl 33 355 [t 32]<|om 5 33<|N) [3,22,32,33])<|q (R (om 34 5<|oi 35 .neq 34 0<|N) [34])<|D (I 35 (q (R (om 36 5<|om 2 36<|N) [1,5,35,36])<|.ret) S) [5,35]) (q (q (R (of 38 3 3<|ol 39 38<|om 40 39<|.sc 40 true (of 41 1 1<|ol 42 41<|of 43 1 2<|ol 44 43<|ot 45 .gtr 42 44<|om 46 45<|.sc 46 false (of 47 1 1<|ol 48 47<|of 49 3 1<|ol 50 49<|ot 51 .lss 48 50<|N) (t 51) 52 (om 53 52<|.sc 53 false (of 54 1 2<|ol 55 54<|of 56 3 2<|ol 57 56<|ot 58 .gtr 55 57<|N) (t 58) 59 N)) (t 59) 60 (om 37 60<|N)) [22,38,39,40,60])<|D (I 37 S (R (of 61 3 4<|ol 62 61<|om 63 62<|.sc 63 true (of 64 1 3<|ol 65 64<|cl 66 352 [t 65,i 0,i 12]<|og 67 66<|N) (t 67) 68 (om 37 68<|N)) [3,61,62,63,68])) [3])<|D (I 37 (q (R (oz 2 2<|N) [1,37])<|.ret) S) [37])) [5])<|q (D (.block 1<|q (q (R (of 70 1 0<|ol 71 70<|oi 72 .eql 71 8<|om 73 72<|.sc 73 true (of 74 1 5<|ol 75 74<|oh 76 75<|oi 77 .eql 76 0<|N) (t 77) 78 (om 69 78<|N)) [70,71,72,73,78])<|I 69 S (R (of 79 1 0<|ol 80 79<|oi 81 .eql 80 10<|om 82 81<|.sc 82 true (of 83 1 6<|ol 84 83<|oh 85 84<|oi 86 .eql 85 0<|N) (t 86) 87 (om 69 87<|N)) [79,80,81,82,87]))<|D (I 69 (q (R (oz 2 4<|N) [1,69])<|.ret) (q (R (of 89 1 0<|ol 90 89<|oi 91 .eql 90 8<|om 92 91<|.sc 92 true (of 93 1 5<|ol 94 93<|oh 95 94<|oi 96 .gtr 95 1<|N) (t 96) 97 (om 88 97<|N)) [69,89,90,91,92,97])<|D (I 88 (q (R (oz 2 3<|N) [1,88])<|.ret) (q (R (of 99 1 6<|ol 100 99<|oh 101 100<|oi 102 .gtr 101 64<|om 98 102<|N) [88,99,100,101,102])<|D (I 98 (q (R (oz 2 9<|N) [1,98])<|.ret) S) [98])) [])) []) [])<|q (q (R (of 103 1 6<|ol 104 103<|oh 105 104<|oz 106 0<|N) [103,104])<|D (.block 2<|.loop (q (.reg (ot 107 .lss 106 105<|N))<|q (D (I 107 S (E 2)) [107])<|q (D (.block 3<|q (R (om 108 106<|om 6 108<|N) [108])<|q (R (oL 109 7 1<|om 110 6<|cl 111 356 [t 109,t 110]<|om 7 111<|N) [6,109,110,111])<|q (R (om 112 7<|oi 113 .neq 112 0<|N) [112])<|D (I 113 (q (R (om 114 7<|om 2 114<|N) [1,105,106,7,113,114])<|.ret) S) [7,113]) [])<|R (oi 115 .add 106 1<|om 106 115<|N) [115])) [1,105,106,107,6,7])<|q (.reg (oz 2 0<|N))<|.ret
theorem ok288 : FT 288 116 ir288 [.tmp 2] := .o Tryz.func288
def ir211 : Ic := q (R (ox 3 0<|oz 6 0<|N) [0,6])<|q (D (.block 0<|q (R (om 12 2<|oc 13 12<|ol 14 13<|oi 15 .eql 14 0<|om 11 15<|N) [12,13,14,15])<|D (I 11 (q (R (oz 6 9<|N) [1,2,3,11])<|.ret) (q (R (om 17 1<|oi 18 .gtr 17 8<|om 16 18<|N) [11,17,18])<|D (I 16 (q (R (oz 6 23<|N) [1,2,3,16])<|.ret) S) [16])) []) [])<|q (R (om 19 2<|oc 20 19<|ol 21 20<|oi 22 .sub 21 1<|oc 23 19<|os 23 22<|N) [19,20,21,22,23])<|q (q (R (oL 24 7 3<|cl 25 288 [t 24]<|om 7 25<|N) [24,25])<|q (R (om 26 7<|oi 27 .neq 26 0<|N) [26])<|D (I 27 (q (R (om 28 7<|om 6 28<|N) [1,2,3,7,27,28])<|.ret) S) [7,27])<|q (q (R (oL 29 7 3<|cl 30 289 [t 29]<|oh 31 30<|oz 32 0<|N) [29])<|D (.block 1<|.loop (q (.reg (ot 33 .lss 32 31<|N))<|q (D (I 33 S (E 1)) [33])<|q (D (.block 2<|q (R (om 34 32<|oa true 35 7 30 32<|oL 36 7 35<|oN 9 vT<|om 8 34<|oS 7 9 36<|N) [34,35,36])<|q (q (R (oL 37 7 9<|om 38 1<|oi 39 .add 38 1<|om 40 2<|cl 41 211 [t 37,t 39,t 40]<|om 10 41<|N) [37,38,39,40,41])<|q (R (om 42 10<|oi 43 .neq 42 0<|N) [42])<|D (I 43 (q (R (om 44 10<|om 6 44<|N) [1,2,3,30,31,32,9,8,10,43,44])<|.ret) S) [10,43])<|q (R (of 45 3 0<|ol 46 45<|oi 47 .eql 46 9<|om 48 47<|.sc 48 true (of 49 3 6<|ol 50 49<|om 51 8<|oa true 52 11 50 51<|of 53 52 2<|ol 54 53<|oi 55 .eql 54 3<|N) (t 55) 56 (om 57 56<|.sc 57 true (oL 58 7 9<|of 59 3 6<|ol 60 59<|om 61 8<|oa true 62 11 60 61<|of 63 62 10<|ol 64 63<|oo 65 (.ixa true 6 (t 64) (i 0))<|oL 66 6 65<|cl 67 290 [t 58,t 66]<|og 68 67<|N) (t 68) 69 N)) [9,8,45,46,47,48,56,57])<|D (I 69 (q (R (oz 6 18<|N) [1,2,3,30,31,32,69])<|.ret) S) [69]) [])<|R (oi 70 .add 32 1<|om 32 70<|N) [70])) [1,2,3,30,31,32,33,9,8,10])<|q (.reg (oz 6 0<|N))<|.ret
theorem ok211 : FT 211 71 ir211 [.tmp 6] := .o Tryz.func211
def ir212 : Ic := q (R (ox 1 0<|oz 2 0<|N) [0,2])<|q (R (oL 8 7 1<|cl 9 291 [t 8]<|om 3 9<|N) [8,9])<|q (q (R (of 10 1 5<|ol 11 10<|oh 12 11<|oz 13 0<|N) [10])<|D (.block 0<|.loop (q (.reg (ot 14 .lss 13 12<|N))<|q (D (I 14 S (E 0)) [14])<|q (D (.block 1<|q (R (oa true 15 7 11 13<|oL 16 7 15<|oN 5 vT<|oS 7 5 16<|N) [15,16])<|R (om 17 3<|oL 18 7 5<|cl 19 212 [t 18]<|oo 20 (.mx (t 17) (t 19))<|om 3 20<|N) [5,17,18,19,20]) [])<|R (oi 21 .add 13 1<|om 13 21<|N) [21])) [11,12,13,14,5])<|q (q (R (of 22 1 6<|ol 23 22<|oh 24 23<|oz 25 0<|N) [1,22])<|D (.block 2<|.loop (q (.reg (ot 26 .lss 25 24<|N))<|q (D (I 26 S (E 2)) [26])<|q (D (.block 3<|q (R (oa true 27 11 23 25<|oL 28 11 27<|oN 7 vG<|oS 11 7 28<|N) [27,28])<|R (om 29 3<|of 30 7 3<|oL 31 7 30<|cl 32 212 [t 31]<|oo 33 (.mx (t 29) (t 32))<|om 3 33<|N) [7,29,30,31,32,33]) [])<|R (oi 34 .add 25 1<|om 25 34<|N) [34])) [23,24,25,26,7])<|q (R (om 35 3<|om 2 35<|N) [3,35])<|.ret
theorem ok212 : FT 212 36 ir212 [.tmp 2] := .o Tryz.func212
def ir291 : Ic := q (R (ox 1 0<|oz 2 0<|N) [0,2])<|q (.reg (oz 3 1<|N))<|q (q (R (of 6 1 0<|ol 7 6<|N) [6])<|D (.block 0<|q (R (oi 9 .eql 7 8<|om 8 9<|N) [9])<|I 8 (q (R (of 10 1 1<|ol 11 10<|oi 12 .gtr 11 0<|N) [7,8,10,11])<|D (I 12 (D (.regd [(2,7)] (om 13 3<|of 14 1 1<|ol 15 14<|of 16 1 5<|ol 17 16<|oo 18 (.ixa true 7 (t 17) (i 0))<|oL 19 7 18<|cl 20 291 [t 19]<|ot 21 .mul 15 20<|ot 22 .add 13 21<|om 3 22<|N)) [1,12,13,14,15,16,17,18,19,20,21,22]) S) [1,12]) (q (R (oi 24 .eql 7 10<|om 23 24<|N) [8,24])<|I 23 (R (om 25 3<|of 26 1 6<|ol 27 26<|oo 28 (.ixa true 11 (t 27) (i 0))<|of 29 28 3<|oL 30 7 29<|cl 31 291 [t 30]<|ot 32 .add 25 31<|om 3 32<|N) [1,7,23,25,26,27,28,29,30,31,32]) (q (R (oi 34 .eql 7 9<|om 33 34<|N) [7,23,34])<|D (I 33 (q (R (of 35 1 6<|ol 36 35<|oh 37 36<|oz 38 0<|N) [1,33,35])<|D (.block 1<|.loop (q (.reg (ot 39 .lss 38 37<|N))<|q (D (I 39 S (E 1)) [39])<|q (D (.block 2<|q (R (oa true 40 11 36 38<|oL 41 11 40<|oN 5 vG<|oS 11 5 41<|N) [40,41])<|q (R (of 42 5 2<|ol 43 42<|N) [42])<|D (.block 3<|q (R (oi 45 .eql 43 1<|om 44 45<|N) [45])<|I 44 (R (om 46 3<|of 47 5 3<|oL 48 7 47<|cl 49 291 [t 48]<|ot 50 .add 46 49<|om 3 50<|N) [5,43,44,46,47,48,49,50]) (q (R (oi 52 .eql 43 3<|om 51 52<|N) [43,44,52])<|D (I 51 (R (om 53 3<|of 54 5 10<|ol 55 54<|oo 56 (.ixa true 6 (t 55) (i 0))<|oL 57 6 56<|cl 58 358 [t 57]<|ot 59 .add 53 58<|om 3 59<|N) [5,51,53,54,55,56,57,58,59]) S) [5,51])) []) [])<|R (oi 60 .add 38 1<|om 38 60<|N) [60])) [36,37,38,39,5]) S) [1,33]))) [10,11,5])<|q (R (om 61 3<|oo 62 (.mn (t 61) (i 4097))<|om 2 62<|N) [3,61,62])<|.ret
theorem ok291 : FT 291 63 ir291 [.tmp 2] := .o Tryz.func291
def ir290 : Ic := q (R (ox 2 0<|ox 3 1<|ow 4 false<|N) [0,1,4])<|q (R (oL 5 6 3<|cl 6 30 [t 5]<|oi 7 .eql 6 0<|om 8 7<|.sc 8 true (oL 9 7 2<|oL 10 6 3<|cl 11 357 [t 9,t 10]<|N) (t 11) 12 (om 4 12<|N)) [2,3,5,6,7,8,12])<|.ret
theorem ok290 : FT 290 13 ir290 [.tmp 4] := .o Tryz.func290
def ir357 : Ic := q (R (ox 2 0<|ox 3 1<|ow 4 false<|N) [0,1,4])<|q (q (R (of 11 3 0<|ol 12 11<|of 13 2 0<|ol 14 13<|ot 15 .neq 12 14<|N) [11,12,13,14])<|D (I 15 (q (R (ow 4 false<|N) [2,3,15])<|.ret) S) [15])<|q (q (R (of 16 2 0<|ol 17 16<|N) [16])<|D (.block 0<|q (q (R (oi 19 .eql 17 2<|om 18 19<|N) [19])<|I 18 S (q (R (oi 20 .eql 17 6<|om 18 20<|N) [20])<|I 18 S (q (R (oi 21 .eql 17 7<|om 18 21<|N) [21])<|I 18 S (R (oi 22 .eql 17 3<|om 18 22<|N) [22]))))<|D (I 18 (q (R (of 23 3 1<|ol 24 23<|of 25 2 1<|ol 26 25<|of 27 2 2<|ol 28 27<|cl 29 352 [t 24,t 26,t 28]<|om 30 29<|.sc 30 true (of 31 3 2<|ol 32 31<|of 33 2 3<|ol 34 33<|ot 35 .eql 32 34<|N) (t 35) 36 (om 4 36<|N)) [2,3,17,18,23,24,25,26,27,28,29,30,36])<|.ret) (q (R (oi 38 .eql 17 4<|om 37 38<|N) [18,38])<|D (I 37 (q (q (R (of 39 2 4<|ol 40 39<|oh 41 40<|oi 42 .gtr 41 0<|N) [17,37,39,40,41])<|D (I 42 (q (R (of 43 2 4<|ol 44 43<|of 45 3 3<|ol 46 45<|cl 47 99 [t 44,t 46]<|om 4 47<|N) [2,3,42,43,44,45,46,47])<|.ret) S) [42])<|q (R (of 48 3 3<|ol 49 48<|oj 50 49<|of 51 2 1<|ol 52 51<|of 53 2 2<|ol 54 53<|cl 55 352 [t 50,t 52,t 54]<|om 4 55<|N) [2,3,48,49,50,51,52,53,54,55])<|.ret) (q (R (oi 57 .eql 17 5<|om 56 57<|N) [37,57])<|D (I 56 (q (R (of 58 3 3<|ol 59 58<|oj 60 59<|of 61 2 1<|ol 62 61<|of 63 2 2<|ol 64 63<|cl 65 352 [t 60,t 62,t 64]<|om 4 65<|N) [2,3,17,56,58,59,60,61,62,63,64,65])<|.ret) (q (R (oi 67 .eql 17 8<|om 66 67<|N) [56,67])<|D (I 66 (q (R (of 68 3 4<|ol 69 68<|oh 70 69<|of 71 2 1<|ol 72 71<|of 73 2 2<|ol 74 73<|cl 75 352 [t 70,t 72,t 74]<|om 76 75<|.sc 76 true (of 77 3 4<|ol 78 77<|oo 79 (.fnv (.func 398) [] [t 2])<|cl 80 397 [t 78,t 79]<|og 81 80<|N) (t 81) 82 (om 4 82<|N)) [2,3,17,66,68,69,70,71,72,73,74,75,76,82])<|.ret) (q (R (oi 84 .eql 17 10<|om 83 84<|N) [66,84])<|D (I 83 (q (R (oL 86 7 2<|of 87 3 3<|ol 88 87<|cl 89 131 [t 86,t 88]<|om 85 89<|oe 90 85 0<|oe 91 85 1<|oN 5 vG<|oS 11 5 90<|om 6 91<|N) [2,17,83,86,87,88,89,85,90,91])<|q (R (om 92 6<|om 93 92<|.sc 93 true (of 94 5 3<|oL 95 7 94<|of 96 3 4<|ol 97 96<|oo 98 (.ixa true 6 (t 97) (i 0))<|oL 99 6 98<|cl 100 357 [t 95,t 99]<|N) (t 100) 101 (om 4 101<|N)) [3,5,6,92,93,101])<|.ret) (q (R (oi 103 .eql 17 9<|om 102 103<|N) [17,83,103])<|D (I 102 (q (q (R (of 104 3 5<|ol 105 104<|oh 106 105<|oz 107 0<|N) [102,104])<|D (.block 1<|.loop (q (.reg (ot 108 .lss 107 106<|N))<|q (D (I 108 S (E 1)) [108])<|q (D (.block 2<|q (R (oa true 109 7 105 107<|oL 110 7 109<|oN 8 v7<|oS 7 8 110<|N) [109,110])<|q (R (oL 112 7 2<|of 113 8 0<|ol 114 113<|cl 115 131 [t 112,t 114]<|om 111 115<|oe 116 111 0<|oe 117 111 1<|oN 9 vG<|oS 11 9 116<|om 10 117<|N) [112,113,114,115,111,116,117])<|q (R (om 118 10<|og 119 118<|om 120 119<|.sc 120 false (of 121 9 3<|oL 122 7 121<|of 123 8 1<|oL 124 6 123<|cl 125 357 [t 122,t 124]<|og 126 125<|N) (t 126) 127 N) [8,9,10,118,119,120])<|D (I 127 (q (R (ow 4 false<|N) [2,3,105,106,107,127])<|.ret) S) [127]) [])<|R (oi 128 .add 107 1<|om 107 128<|N) [128])) [105,106,107,108,8,9,10])<|q (R (of 129 2 6<|ol 130 129<|oo 131 (.fnv (.func 399) [] [t 3])<|cl 132 122 [t 130,t 131]<|og 133 132<|om 4 133<|N) [2,3,129,130,131,132,133])<|.ret) S) [2,3,102])) [])) [])) [])) [])) []) [5,6,8,9,10])<|q (.reg (ow 4 true<|N))<|.ret
theorem ok357 : FT 357 134 ir357 [.tmp 4] := .o Tryz.func357
def ir398 : Ic := q (R (ox 2 0<|ow 3 false<|N) [0,3])<|q (R (of 4 1 5<|ol 5 4<|oo 6 (.ixa true 7 (t 5) (i 0))<|oL 7 7 6<|oL 8 6 2<|cl 9 357 [t 7,t 8]<|og 10 9<|om 3 10<|N) [2,4,5,6,7,8,9,10])<|.ret
theorem ok398 : FT 398 11 ir398 [.tmp 3] := .o Tryz.func398
def ir399 : Ic := q (R (ox 2 0<|ow 3 false<|N) [0,3])<|q (R (oL 7 6 1<|of 8 2 1<|ol 9 8<|cl 10 201 [t 7,t 9]<|om 6 10<|oe 11 6 0<|oe 12 6 1<|oN 4 v6<|oS 6 4 11<|om 5 12<|N) [7,8,9,10,6,11,12,4])<|q (R (om 13 5<|og 14 13<|om 15 14<|.sc 15 true (of 16 2 2<|ol 17 16<|oi 18 .neq 17 2<|N) (t 18) 19 (om 3 19<|N)) [2,5,13,14,15,19])<|.ret
theorem ok399 : FT 399 20 ir399 [.tmp 3] := .o Tryz.func399
def ir117 : Ic := q (R (ox 1 0<|oz 2 0<|N) [0,2])<|q (.reg (oN 3 [.int .i64 0]<|on (.sto none (t 3) (i 4096))<|N))<|q (q (R (oL 5 7 1<|cl 6 211 [t 5,i 1,t 3]<|om 4 6<|N) [3,5,6])<|q (R (om 7 4<|oi 8 .neq 7 0<|N) [7])<|D (I 8 (q (R (om 9 4<|om 2 9<|N) [1,4,8,9])<|.ret) S) [4,8])<|q (q (R (oL 10 7 1<|cl 11 212 [t 10]<|oi 12 .gtr 11 4096<|N) [1,10,11])<|D (I 12 (q (R (oz 2 9<|N) [12])<|.ret) S) [12])<|q (.reg (oz 2 0<|N))<|.ret
theorem ok117 : FT 117 13 ir117 [.tmp 2] := .o Tryz.func117
def ir15 : Ic := q (R (ox 2 0<|ox 3 1<|ow 4 false<|N) [0,1,4])<|q (R (of 5 2 0<|ol 6 5<|of 7 3 0<|ol 8 7<|ot 9 .eql 6 8<|om 10 9<|.sc 10 true (of 11 2 1<|ol 12 11<|of 13 3 1<|ol 14 13<|ot 15 .eql 12 14<|N) (t 15) 16 (om 17 16<|.sc 17 true (of 18 2 2<|ol 19 18<|of 20 3 2<|ol 21 20<|ot 22 .eql 19 21<|N) (t 22) 23 (om 24 23<|.sc 24 true (of 25 2 3<|ol 26 25<|of 27 3 3<|ol 28 27<|ot 29 .eql 26 28<|N) (t 29) 30 (om 31 30<|.sc 31 true (of 32 2 4<|ol 33 32<|of 34 3 4<|ol 35 34<|cl 36 55 [t 33,t 35]<|N) (t 36) 37 (om 38 37<|.sc 38 true (of 39 2 5<|ol 40 39<|of 41 3 5<|ol 42 41<|cl 43 56 [t 40,t 42,.k (.fn (.func 15) [] [])]<|N) (t 43) 44 (om 45 44<|.sc 45 true (of 46 2 6<|ol 47 46<|of 48 3 6<|ol 49 48<|cl 50 57 [t 47,t 49,.k (.fn (.func 58) [] [])]<|N) (t 50) 51 (om 4 51<|N))))))) [2,3,5,6,7,8,9,10,16,17,23,24,30,31,37,38,44,45,51])<|.ret
theorem ok15 : FT 15 52 ir15 [.tmp 4] := .o Tryz.func15
def ir58 : Ic := q (R (ox 2 0<|ox 3 1<|ow 4 false<|N) [0,1,4])<|q (R (of 5 2 0<|ol 6 5<|of 7 3 0<|ol 8 7<|ot 9 .eql 6 8<|om 10 9<|.sc 10 true (of 11 2 1<|ol 12 11<|of 13 3 1<|ol 14 13<|ot 15 .seq 12 14<|N) (t 15) 16 (om 17 16<|.sc 17 true (of 18 2 2<|ol 19 18<|of 20 3 2<|ol 21 20<|ot 22 .eql 19 21<|N) (t 22) 23 (om 24 23<|.sc 24 true (of 25 2 3<|oL 26 7 25<|of 27 3 3<|oL 28 7 27<|cl 29 15 [t 26,t 28]<|N) (t 29) 30 (om 31 30<|.sc 31 true (of 32 2 10<|ol 33 32<|of 34 3 10<|ol 35 34<|cl 36 59 [t 33,t 35,.k (.fn (.func 17) [] [])]<|N) (t 36) 37 (om 4 37<|N))))) [2,3,5,6,7,8,9,10,16,17,23,24,30,31,37])<|.ret
theorem ok58 : FT 58 38 ir58 [.tmp 4] := .o Tryz.func58
def ir122 : Ic := q (R (ow 4 false<|N) [4])<|q (R (om 5 0<|om 6 1<|cl 7 203 [t 5,t 6]<|oi 8 .geq 7 0<|om 4 8<|N) [0,1,5,6,7,8])<|.ret
theorem ok122 : FT 122 9 ir122 [.tmp 4] := .o Tryz.func122
def ir51 : Ic := q (R (ox 2 0<|ox 3 1<|ow 4 false<|N) [0,1,4])<|q (q (R (of 5 2 0<|ol 6 5<|of 7 3 0<|ol 8 7<|cl 9 118 [t 6,t 8]<|og 10 9<|N) [5,6,7,8,9])<|D (I 10 (q (R (ow 4 false<|N) [2,3,10])<|.ret) S) [10])<|q (q (R (of 11 3 0<|ol 12 11<|N) [11])<|D (.block 0<|q (q (R (oi 14 .eql 12 2<|om 13 14<|N) [14])<|I 13 S (R (oi 15 .eql 12 3<|om 13 15<|N) [15]))<|D (I 13 (q (R (oL 16 7 2<|oL 17 7 3<|cl 18 119 [t 16,t 17]<|om 4 18<|N) [2,3,12,13,16,17,18])<|.ret) (q (R (oi 20 .eql 12 1<|om 19 20<|N) [13,20])<|D (I 19 (q (R (ow 4 true<|N) [2,3,12,19])<|.ret) (q (R (oi 22 .eql 12 4<|om 21 22<|N) [19,22])<|D (I 21 (q (R (oL 23 7 2<|oL 24 7 3<|cl 25 120 [t 23,t 24]<|om 4 25<|N) [2,3,12,21,23,24,25])<|.ret) (q (R (oi 27 .eql 12 8<|om 26 27<|N) [21,27])<|D (I 26 (q (R (oL 28 7 2<|oL 29 7 3<|cl 30 121 [t 28,t 29]<|om 31 30<|.sc 31 true (of 32 2 2<|ol 33 32<|oi 34 .eql 33 0<|om 35 34<|.sc 35 false (of 36 2 5<|ol 37 36<|oo 38 (.ixa true 7 (t 37) (i 0))<|oL 39 7 38<|of 40 3 5<|ol 41 40<|oo 42 (.ixa true 7 (t 41) (i 0))<|oL 43 7 42<|cl 44 51 [t 39,t 43]<|N) (t 44) 45 N) (t 45) 46 (om 4 46<|N)) [2,3,12,26,28,29,30,31,46])<|.ret) (q (R (oi 48 .eql 12 9<|om 47 48<|N) [26,48])<|D (I 47 (q (R (of 49 3 6<|ol 50 49<|oo 51 (.fnv (.func 123) [] [t 2])<|cl 52 122 [t 50,t 51]<|og 53 52<|om 4 53<|N) [2,3,12,47,49,50,51,52,53])<|.ret) (q (R (oi 55 .eql 12 10<|om 54 55<|N) [12,47,55])<|D (I 54 (q (R (of 56 2 6<|ol 57 56<|oo 58 (.fnv (.func 125) [] [t 3])<|cl 59 122 [t 57,t 58]<|og 60 59<|om 4 60<|N) [2,3,54,56,57,58,59,60])<|.ret) S) [54])) [])) [])) [])) [])) []) [])<|q (R (oL 61 7 2<|oL 62 7 3<|cl 63 121 [t 61,t 62]<|om 4 63<|N) [2,3,61,62,63])<|.ret
theorem ok51 : FT 51 64 ir51 [.tmp 4] := .o Tryz.func51
def ir53 : Ic := q (R (ox 3 0<|ox 4 1<|ox 5 2<|oN 6 v6<|ow 7 false<|N) [0,1,2,7])<|q (q (R (of 20 3 0<|ol 21 20<|of 22 4 0<|ol 23 22<|cl 24 118 [t 21,t 23]<|og 25 24<|N) [20,21,22,23,24])<|D (I 25 (q (R (oo 26 (.bld v6 [])<|oS 6 6 26<|ow 7 false<|N) [3,4,5,25,26])<|.ret) S) [25])<|q (q (R (of 27 4 0<|ol 28 27<|N) [27])<|D (.block 0<|q (q (R (oi 30 .eql 28 2<|om 29 30<|N) [30])<|I 29 S (R (oi 31 .eql 28 3<|om 29 31<|N) [31]))<|D (I 29 (q (R (of 33 5 1<|ol 34 33<|of 35 3 3<|ol 36 35<|of 37 4 3<|ol 38 37<|cl 39 128 [t 34,t 36,t 38]<|om 32 39<|oe 40 32 0<|oe 41 32 1<|om 8 40<|om 9 41<|N) [3,5,28,29,33,34,35,36,37,38,39,32,40,41])<|q (D (.regd [(1,10),(4,10)] (of 42 4 0<|ol 43 42<|om 44 8<|of 45 4 3<|ol 46 45<|oo 47 (.bld v6 [(0,1,t 43),(1,1,t 44),(2,1,t 46)])<|om 48 9<|om 49 48<|.sc 49 true (om 50 8<|oL 51 7 4<|cl 52 129 [t 50,t 51]<|N) (t 52) 53 (oS 6 6 47<|om 7 53<|N))) [4,8,9,42,43,44,45,46,47,48,49,53])<|.ret) (q (q (R (oi 55 .eql 28 6<|om 54 55<|N) [29,55])<|I 54 S (R (oi 56 .eql 28 7<|om 54 56<|N) [56]))<|D (I 54 (q (D (.regd [(0,4)] (oL 57 6 5<|of 58 5 1<|ol 59 58<|oL 60 7 4<|cl 61 129 [t 59,t 60]<|oS 6 6 57<|om 7 61<|N)) [3,4,5,28,54,57,58,59,60,61])<|.ret) (q (R (oi 63 .eql 28 5<|om 62 63<|N) [54,63])<|D (I 62 (q (D (.regd [(0,5)] (oL 64 6 5<|of 65 5 3<|ol 66 65<|oj 67 66<|oL 68 7 4<|cl 69 129 [t 67,t 68]<|oS 6 6 64<|om 7 69<|N)) [3,4,5,28,62,64,65,66,67,68,69])<|.ret) (q (R (oi 71 .eql 28 4<|om 70 71<|N) [62,71])<|D (I 70 (q (q (R (of 72 4 4<|ol 73 72<|oh 74 73<|oi 75 .gtr 74 0<|N) [3,28,70,72,73,74])<|D (I 75 (q (D (.regd [(0,5)] (oL 76 6 5<|of 77 4 4<|ol 78 77<|of 79 5 3<|ol 80 79<|cl 81 99 [t 78,t 80]<|oS 6 6 76<|om 7 81<|N)) [4,5,75,76,77,78,79,80,81])<|.ret) S) [75])<|q (D (.regd [(0,5)] (oL 82 6 5<|of 83 5 3<|ol 84 83<|oj 85 84<|oL 86 7 4<|cl 87 129 [t 85,t 86]<|oS 6 6 82<|om 7 87<|N)) [4,5,82,83,84,85,86,87])<|.ret) (q (R (oi 89 .eql 28 8<|om 88 89<|N) [70,89])<|D (I 88 (q (R (oo 90 (.bld v6 [(0,1,i 8)])<|oN 10 v6<|oS 6 10 90<|N) [28,88,90])<|q (q (R (of 91 5 4<|ol 92 91<|oh 93 92<|oz 94 0<|N) [91])<|D (.block 1<|.loop (q (.reg (ot 95 .lss 94 93<|N))<|q (D (I 95 S (E 1)) [95])<|q (D (.block 2<|q (R (oa true 96 6 92 94<|oL 97 6 96<|oN 12 v6<|oS 6 12 97<|N) [96,97])<|q (D (.regd [(1,13),(2,13),(3,13),(5,13),(6,13),(7,13),(8,13),(9,13)] (of 99 3 5<|ol 100 99<|oo 101 (.ixa true 7 (t 100) (i 0))<|oL 102 7 101<|of 103 4 5<|ol 104 103<|oo 105 (.ixa true 7 (t 104) (i 0))<|oL 106 7 105<|oL 107 6 12<|cl 108 53 [t 102,t 106,t 107]<|om 98 108<|oe 109 98 0<|oe 110 98 1<|oN 13 v6<|oS 6 13 109<|om 14 110<|N)) [12,99,100,101,102,103,104,105,106,107,108,98,109,110])<|q (q (R (om 111 14<|og 112 111<|N) [14,111])<|D (I 112 (q (R (oo 113 (.bld v6 [])<|oS 6 6 113<|ow 7 false<|N) [3,4,5,10,92,93,94,13,112,113])<|.ret) S) [112])<|R (of 114 10 4<|ol 115 114<|oL 116 6 13<|oo 117 (.bls 6 [t 116])<|oo 118 (.app 6 (t 115) (t 117))<|of 119 10 4<|os 119 118<|N) [13,114,115,116,117,118,119]) [])<|R (oi 120 .add 94 1<|om 94 120<|N) [120])) [3,92,93,94,95])<|q (D (.regd [(0,5)] (oL 121 6 10<|of 122 5 4<|ol 123 122<|oh 124 123<|oL 125 7 4<|cl 126 129 [t 124,t 125]<|oS 6 6 121<|om 7 126<|N)) [4,5,10,121,122,123,124,125,126])<|.ret) (q (R (oi 128 .eql 28 9<|om 127 128<|N) [88,128])<|D (I 127 (q (R (oL 129 7 3<|oL 130 7 4<|oL 131 6 5<|cl 132 130 [t 129,t 130,t 131]<|oe 133 132 0<|oe 134 132 1<|oS 6 6 133<|om 7 134<|N) [3,4,5,28,127,129,130,131,132,133,134])<|.ret) (q (R (oi 136 .eql 28 10<|om 135 136<|N) [28,127,136])<|D (I 135 (q (R (oL 138 7 3<|of 139 5 3<|ol 140 139<|cl 141 131 [t 138,t 140]<|om 137 141<|oe 142 137 0<|oe 143 137 1<|oN 15 vG<|oS 11 15 142<|om 16 143<|N) [3,135,138,139,140,141,137,142,143,16])<|q (R (of 145 4 6<|ol 146 145<|of 147 15 0<|ol 148 147<|cl 149 132 [t 146,t 148]<|om 144 149<|oe 150 144 0<|oe 151 144 1<|oN 17 vG<|oS 11 17 150<|om 18 151<|N) [4,145,146,147,148,149,144,150,151])<|q (q (R (om 152 18<|og 153 152<|N) [18,152])<|D (I 153 (q (R (oo 154 (.bld v6 [])<|oS 6 6 154<|ow 7 false<|N) [5,15,17,153,154])<|.ret) S) [153])<|q (D (.regd [(1,12),(3,12),(5,12),(6,12),(7,12),(8,12)] (of 156 15 3<|oL 157 7 156<|of 158 17 3<|oL 159 7 158<|of 160 5 4<|ol 161 160<|oo 162 (.ixa true 6 (t 161) (i 0))<|oL 163 6 162<|cl 164 53 [t 157,t 159,t 163]<|om 155 164<|oe 165 155 0<|oe 166 155 1<|oN 19 v6<|oS 6 19 165<|om 18 166<|N)) [5,15,156,157,158,159,160,161,162,163,164,155,165,166])<|q (R (of 167 17 1<|ol 168 167<|oL 169 6 19<|cl 170 133 [t 168,t 169]<|om 171 18<|oS 6 6 170<|om 7 171<|N) [17,19,18,167,168,169,170,171])<|.ret) S) [3,4,135])) [])) [])) [])) [])) [])) []) [8,9,10])<|q (R (oL 172 6 5<|oS 6 6 172<|ow 7 true<|N) [5,172])<|.ret
theorem ok53 : FT 53 173 ir53 [.cell 6 (some 6), .tmp 7] := .o Tryz.func53
def ir118 : Ic := q (R (ow 4 false<|N) [4])<|q (R (om 5 0<|om 6 1<|ot 7 .eql 5 6<|om 8 7<|.sc 8 false (om 9 0<|cl 10 213 [t 9]<|om 11 10<|.sc 11 true (om 12 1<|cl 13 213 [t 12]<|N) (t 13) 14 N) (t 14) 15 (om 4 15<|N)) [0,1,5,6,7,8,15])<|.ret
theorem ok118 : FT 118 16 ir118 [.tmp 4] := .o Tryz.func118
def ir119 : Ic := q (R (ox 2 0<|ox 3 1<|ow 4 false<|N) [0,1,4])<|q (R (of 10 2 1<|ol 11 10<|of 12 2 3<|ol 13 12<|of 14 3 3<|ol 15 14<|cl 16 128 [t 11,t 13,t 15]<|om 9 16<|oe 17 9 0<|oe 18 9 1<|om 5 17<|om 6 18<|N) [10,11,12,13,14,15,16,9,17,18])<|q (R (of 20 2 2<|ol 21 20<|of 22 2 3<|ol 23 22<|of 24 3 3<|ol 25 24<|cl 26 128 [t 21,t 23,t 25]<|om 19 26<|oe 27 19 0<|oe 28 19 1<|om 7 27<|om 8 28<|N) [20,21,22,23,24,25,26,19,27,28])<|q (R (om 29 6<|om 30 29<|.sc 30 true (om 31 8<|N) (t 31) 32 (om 33 32<|.sc 33 true (om 34 5<|oL 35 7 3<|cl 36 129 [t 34,t 35]<|N) (t 36) 37 (om 38 37<|.sc 38 true (om 39 7<|oL 40 7 3<|cl 41 129 [t 39,t 40]<|N) (t 41) 42 (om 43 42<|.sc 43 true (of 44 3 3<|ol 45 44<|of 46 2 3<|ol 47 46<|ot 48 .geq 45 47<|om 49 48<|.sc 49 false (of 50 2 1<|ol 51 50<|of 52 2 2<|ol 53 52<|ot 54 .eql 51 53<|N) (t 54) 55 N) (t 55) 56 (om 4 56<|N))))) [2,3,5,6,7,8,29,30,32,33,37,38,42,43,56])<|.ret
theorem ok119 : FT 119 57 ir119 [.tmp 4] := .o Tryz.func119
def ir120 : Ic := q (R (ox 2 0<|ox 3 1<|ow 4 false<|N) [0,1,4])<|q (D (.block 0<|q (R (of 6 2 4<|ol 7 6<|oh 8 7<|oi 9 .gtr 8 0<|om 5 9<|N) [6,7,8,9])<|D (I 5 (q (R (of 10 2 4<|ol 11 10<|oo 12 (.fnv (.func 215) [] [t 2,t 3])<|cl 13 214 [t 11,t 12]<|og 14 13<|om 4 14<|N) [2,3,5,10,11,12,13,14])<|.ret) (q (R (of 16 3 4<|ol 17 16<|oh 18 17<|oi 19 .gtr 18 0<|om 15 19<|N) [5,16,17,18,19])<|D (I 15 (q (R (of 20 2 2<|ol 21 20<|oi 22 .eql 21 0<|om 23 22<|.sc 23 true (of 24 3 4<|ol 25 24<|cl 26 99 [t 25,.k (.str [])]<|N) (t 26) 27 (om 4 27<|N)) [2,3,15,20,21,22,23,27])<|.ret) S) [15])) []) [10,11])<|q (R (oL 28 7 2<|oL 29 7 3<|cl 30 121 [t 28,t 29]<|om 4 30<|N) [2,3,28,29,30])<|.ret
theorem ok120 : FT 120 31 ir120 [.tmp 4] := .o Tryz.func120
def ir121 : Ic := q (R (ox 2 0<|ox 3 1<|ow 4 false<|N) [0,1,4])<|q (R (of 5 2 1<|ol 6 5<|of 7 3 1<|ol 8 7<|ot 9 .geq 6 8<|om 10 9<|.sc 10 true (of 11 2 2<|ol 12 11<|of 13 3 2<|ol 14 13<|ot 15 .leq 12 14<|N) (t 15) 16 (om 4 16<|N)) [2,3,5,6,7,8,9,10,16])<|.ret
theorem ok121 : FT 121 17 ir121 [.tmp 4] := .o Tryz.func121
def ir123 : Ic := q (R (ox 2 0<|ow 3 false<|N) [0,3])<|q (R (oL 4 7 1<|oL 5 11 2<|cl 6 124 [t 4,t 5]<|og 7 6<|om 3 7<|N) [2,4,5,6,7])<|.ret
theorem ok123 : FT 123 8 ir123 [.tmp 3] := .o Tryz.func123
def ir124 : Ic := q (R (ox 2 0<|ox 3 1<|ow 4 false<|N) [0,1,4])<|q (R (of 8 2 6<|ol 9 8<|of 10 3 0<|ol 11 10<|cl 12 132 [t 9,t 11]<|om 7 12<|oe 13 7 0<|oe 14 7 1<|oN 5 vG<|oS 11 5 13<|om 6 14<|N) [2,8,9,10,11,12,7,13,14])<|q (q (R (om 15 6<|og 16 15<|N) [6,15])<|D (I 16 (q (R (of 17 3 2<|ol 18 17<|oi 19 .neq 18 1<|om 4 19<|N) [3,5,16,17,18,19])<|.ret) S) [16])<|q (R (of 20 5 3<|oL 21 7 20<|of 22 3 3<|oL 23 7 22<|cl 24 51 [t 21,t 23]<|om 25 24<|.sc 25 true (of 26 3 2<|ol 27 26<|oi 28 .eql 27 1<|om 29 28<|.sc 29 true (of 30 5 2<|ol 31 30<|oi 32 .eql 31 2<|N) (t 32) 33 (og 34 33<|N)) (t 34) 35 (om 4 35<|N)) [3,5,20,21,22,23,24,25,35])<|.ret
theorem ok124 : FT 124 36 ir124 [.tmp 4] := .o Tryz.func124
def ir125 : Ic := q (R (ox 2 0<|ow 3 false<|N) [0,3])<|q (R (oL 4 11 2<|oL 5 7 1<|cl 6 126 [t 4,t 5]<|og 7 6<|om 3 7<|N) [2,4,5,6,7])<|.ret
theorem ok125 : FT 125 8 ir125 [.tmp 3] := .o Tryz.func125
def ir126 : Ic := q (R (ox 2 0<|ox 3 1<|ow 4 false<|N) [0,1,4])<|q (R (of 8 3 6<|ol 9 8<|of 10 2 0<|ol 11 10<|cl 12 132 [t 9,t 11]<|om 7 12<|oe 13 7 0<|oe 14 7 1<|oN 5 vG<|oS 11 5 13<|om 6 14<|N) [3,8,9,10,11,12,7,13,14])<|q (R (om 15 6<|om 16 15<|.sc 16 true (of 17 2 3<|oL 18 7 17<|of 19 5 3<|oL 20 7 19<|cl 21 51 [t 18,t 20]<|N) (t 21) 22 (om 4 22<|N)) [2,5,6,15,16,22])<|.ret
theorem ok126 : FT 126 23 ir126 [.tmp 4] := .o Tryz.func126
def ir128 : Ic := q (R (oz 6 0<|ow 7 false<|N) [6,7])<|q (D (.block 0<|.loop (q (q (R (om 8 1<|om 9 2<|ot 10 .lss 8 9<|N) [8,9])<|D (I 10 S (E 0)) [10])<|q (D (.block 1<|q (R (om 13 0<|oi 14 .mul 13 10<|om 0 14<|N) [13,14])<|q (R (om 15 0<|oi 16 .gtr 15 999999999999999<|om 17 16<|.sc 17 false (om 18 0<|oi 19 .lss 18 (-999999999999999)<|N) (t 19) 20 N) [15,16,17])<|D (I 20 (q (R (oz 6 0<|ow 7 false<|N) [0,1,2,20])<|.ret) S) [20]) [])<|R (om 11 1<|oi 12 .add 11 1<|om 1 12<|N) [11,12])) [10,11])<|q (D (.block 2<|.loop (q (q (R (om 21 1<|om 22 2<|ot 23 .gtr 21 22<|N) [21,22])<|D (I 23 S (E 2)) [23])<|q (D (.block 3<|q (q (R (om 26 0<|oi 27 .rem 26 10<|oi 28 .neq 27 0<|N) [26,27])<|D (I 28 (q (R (oz 6 0<|ow 7 false<|N) [0,1,2,28])<|.ret) S) [28])<|R (om 29 0<|oi 30 .quo 29 10<|om 0 30<|N) [29,30]) [])<|R (om 24 1<|oi 25 .sub 24 1<|om 1 25<|N) [24,25])) [1,2,23])<|q (R (om 31 0<|om 6 31<|ow 7 true<|N) [0,31])<|.ret
theorem ok128 : FT 128 32 ir128 [.tmp 6, .tmp 7] := .o Tryz.func128
def ir129 : Ic := q (R (ox 3 1<|ow 4 false<|N) [1,4])<|q (R (om 5 0<|of 6 3 1<|ol 7 6<|ot 8 .geq 5 7<|om 9 8<|.sc 9 true (om 10 0<|of 11 3 2<|ol 12 11<|ot 13 .leq 10 12<|N) (t 13) 14 (om 4 14<|N)) [0,3,5,6,7,8,9,14])<|.ret
theorem ok129 : FT 129 15 ir129 [.tmp 4] := .o Tryz.func129
def ir130 : Ic := q (R (ox 3 0<|ox 4 1<|ox 5 2<|oN 6 v6<|ow 7 false<|N) [0,1,2,7])<|q (.reg (ok 8 (.k (.nil 7))<|N))<|q (q (R (of 17 4 6<|ol 18 17<|oh 19 18<|oz 20 0<|N) [4,17])<|D (.block 0<|.loop (q (.reg (ot 21 .lss 20 19<|N))<|q (D (I 21 S (E 0)) [21])<|q (D (.block 1<|q (R (oa true 22 11 18 20<|oL 23 11 22<|oN 10 vG<|oS 11 10 23<|N) [22,23])<|q (R (of 25 3 6<|ol 26 25<|of 27 10 0<|ol 28 27<|cl 29 132 [t 26,t 28]<|om 24 29<|oe 30 24 0<|oe 31 24 1<|oN 11 vG<|oS 11 11 30<|om 12 31<|N) [25,26,27,28,29,24,30,31])<|q (R (oL 33 6 5<|of 34 11 1<|ol 35 34<|cl 36 201 [t 33,t 35]<|om 32 36<|oe 37 32 0<|oe 38 32 1<|oN 13 v6<|oS 6 13 37<|om 14 38<|N) [33,34,35,36,32,37,38])<|D (.block 2<|q (R (om 40 12<|om 41 40<|.sc 41 true (om 42 14<|N) (t 42) 43 (om 39 43<|N)) [12,14,40,41,43])<|I 39 (q (R (of 45 11 3<|oL 46 7 45<|of 47 10 3<|oL 48 7 47<|oL 49 6 13<|cl 50 53 [t 46,t 48,t 49]<|om 44 50<|oe 51 44 0<|oe 52 44 1<|oN 15 v6<|oS 6 15 51<|om 16 52<|N) [11,13,39,45,46,47,48,49,50,44,51,52])<|q (q (R (om 53 16<|og 54 53<|N) [16,53])<|D (I 54 (q (R (oo 55 (.bld v6 [])<|oS 6 6 55<|ow 7 false<|N) [3,5,8,18,19,20,10,15,54,55])<|.ret) S) [54])<|R (om 56 8<|of 57 10 1<|ol 58 57<|oL 59 6 15<|oo 60 (.bld v7 [(0,1,t 58),(1,6,t 59)])<|oo 61 (.bls 7 [t 60])<|oo 62 (.app 7 (t 56) (t 61))<|om 8 62<|N) [10,15,56,57,58,59,60,61,62]) (q (R (of 64 10 2<|ol 65 64<|oi 66 .eql 65 1<|om 63 66<|N) [11,13,39,64,65,66])<|D (I 63 (q (R (oo 67 (.bld v6 [])<|oS 6 6 67<|ow 7 false<|N) [3,5,8,18,19,20,10,63,67])<|.ret) (q (R (of 69 10 2<|ol 70 69<|oi 71 .eql 70 3<|om 68 71<|N) [63,69,70,71])<|D (I 68 (R (om 72 8<|of 73 10 1<|ol 74 73<|of 75 10 10<|ol 76 75<|oo 77 (.ixa true 6 (t 76) (i 0))<|oL 78 6 77<|oo 79 (.bld v7 [(0,1,t 74),(1,6,t 78)])<|oo 80 (.bls 7 [t 79])<|oo 81 (.app 7 (t 72) (t 80))<|om 8 81<|N) [10,68,72,73,74,75,76,77,78,79,80,81]) S) [10,68])) [])) []) [])<|R (oi 82 .add 20 1<|om 20 82<|N) [82])) [3,5,18,19,20,21,10,11])<|q (R (om 83 8<|cl 84 37 [t 83]<|oS 6 6 84<|ow 7 true<|N) [8,83,84])<|.ret
theorem ok130 : FT 130 85 ir130 [.cell 6 (some 6), .tmp 7] := .o Tryz.func130
def ir132 : Ic := q (R (ox 3 1<|oN 4 vG<|ow 5 false<|N) [1,5])<|q (R (om 7 0<|oo 8 (.fnv (.func 222) [] [t 3])<|cl 9 203 [t 7,t 8]<|om 6 9<|N) [3,7,8,9])<|q (q (R (om 10 6<|oi 11 .lss 10 0<|N) [10])<|D (I 11 (q (R (oo 12 (.bld vG [])<|oS 11 4 12<|ow 5 false<|N) [0,6,11,12])<|.ret) S) [11])<|q (R (om 13 0<|om 14 6<|oa true 15 11 13 14<|oL 16 11 15<|oS 11 4 16<|ow 5 true<|N) [0,6,13,14,15,16])<|.ret
theorem ok132 : FT 132 17 ir132 [.cell 4 (some 11), .tmp 5] := .o Tryz.func132
def ir133 : Ic := q (R (ox 3 1<|oN 4 v6<|N) [1])<|q (R (om 5 0<|oL 6 6 3<|oo 7 (.bls 6 [t 6])<|oo 8 (.bld v6 [(0,1,i 10),(3,1,t 5),(4,1,t 7)])<|cl 9 54 [t 8]<|oS 6 4 9<|N) [0,3,5,6,7,8,9])<|.ret
theorem ok133 : FT 133 10 ir133 [.cell 4 (some 6)] := .o Tryz.func133
def ir213 : Ic := q (R (ow 2 false<|N) [2])<|q (R (om 3 0<|oi 4 .eql 3 2<|om 5 4<|.sc 5 false (om 6 0<|oi 7 .eql 6 3<|N) (t 7) 8 (om 2 8<|N)) [0,3,4,5,8])<|.ret
theorem ok213 : FT 213 9 ir213 [.tmp 2] := .o Tryz.func213
def ir214 : Ic := q (R (ow 4 false<|N) [4])<|q (R (om 5 0<|om 6 1<|cl 7 292 [t 5,t 6]<|oi 8 .geq 7 0<|om 4 8<|N) [0,1,5,6,7,8])<|.ret
theorem ok214 : FT 214 9 ir214 [.tmp 4] := .o Tryz.func214
def ir215 : Ic := q (R (ow 4 false<|N) [4])<|q (D (.regd [(0,3),(1,3),(0,8),(1,8),(3,8),(4,8)] (oL 8 7 1<|oL 9 7 2<|om 10 0<|cl 11 216 [t 10]<|cl 12 53 [t 8,t 9,t 11]<|om 7 12<|oe 13 7 0<|oe 14 7 1<|oN 5 v6<|oS 6 5 13<|om 6 14<|N)) [0,8,9,10,11,12,7,13,14,5])<|q (R (om 15 6<|og 16 15<|om 4 16<|N) [6,15,16])<|.ret
theorem ok215 : FT 215 17 ir215 [.tmp 4] := .o Tryz.func215
def ir222 : Ic := q (R (ox 2 0<|ow 3 false<|N) [0,3])<|q (R (of 4 2 0<|ol 5 4<|ol 6 1<|ot 7 .eql 5 6<|om 3 7<|N) [2,4,5,6,7])<|.ret
theorem ok222 : FT 222 8 ir222 [.tmp 3] := .o Tryz.func222
def ir50 : Ic := q (R (ox 2 0<|ox 3 1<|oz 4 0<|N) [0,1,4])<|q (q (R (oL 6 7 2<|cl 7 117 [t 6]<|om 5 7<|N) [2,6,7])<|q (R (om 8 5<|oi 9 .neq 8 0<|N) [8])<|D (I 9 (q (R (om 10 5<|om 4 10<|N) [3,5,9,10])<|.ret) S) [5,9])<|q (R (oL 11 7 3<|cl 12 117 [t 11]<|om 4 12<|N) [3,11,12])<|.ret
theorem ok50 : FT 50 13 ir50 [.tmp 4] := .o Tryz.func50
def ir13 : Ic := q (R (ox 2 0<|ox 3 1<|ow 4 false<|N) [0,1,4])<|q (R (oL 5 7 2<|oL 6 7 3<|cl 7 50 [t 5,t 6]<|oi 8 .eql 7 0<|om 9 8<|.sc 9 true (oL 10 7 2<|oL 11 7 3<|cl 12 51 [t 10,t 11]<|N) (t 12) 13 (om 4 13<|N)) [2,3,5,6,7,8,9,13])<|.ret
theorem ok13 : FT 13 14 ir13 [.tmp 4] := .o Tryz.func13
def ir14 : Ic := q (R (ox 3 0<|ox 4 1<|ox 5 2<|oN 6 v6<|oz 7 0<|N) [0,1,2,7])<|q (q (R (oL 12 7 3<|oL 13 7 4<|cl 14 50 [t 12,t 13]<|om 8 14<|N) [12,13,14])<|q (R (om 15 8<|oi 16 .neq 15 0<|N) [15])<|D (I 16 (q (R (oo 17 (.bld v6 [])<|om 18 8<|oS 6 6 17<|om 7 18<|N) [3,4,5,8,16,17,18])<|.ret) S) [8,16])<|q (R (oL 20 7 3<|oL 21 6 5<|cl 22 52 [t 20,t 21]<|om 19 22<|oe 23 19 0<|oe 24 19 1<|oS 6 5 23<|om 9 24<|N) [20,21,22,19,23,24])<|q (q (R (om 25 9<|oi 26 .neq 25 0<|N) [25])<|D (I 26 (q (R (oo 27 (.bld v6 [])<|om 28 9<|oS 6 6 27<|om 7 28<|N) [3,4,5,9,26,27,28])<|.ret) S) [9,26])<|q (R (oL 30 7 3<|oL 31 7 4<|oL 32 6 5<|cl 33 53 [t 30,t 31,t 32]<|om 29 33<|oe 34 29 0<|oe 35 29 1<|oN 10 v6<|oS 6 10 34<|om 11 35<|N) [3,4,5,30,31,32,33,29,34,35])<|q (D (.block 0<|q (R (om 37 11<|og 38 37<|om 36 38<|N) [11,37,38])<|D (I 36 (q (R (oo 39 (.bld v6 [])<|oS 6 6 39<|oz 7 20<|N) [10,36,39])<|.ret) (q (R (oL 41 6 10<|cl 42 30 [t 41]<|oi 43 .neq 42 0<|om 40 43<|N) [36,41,42,43])<|D (I 40 (q (R (oo 44 (.bld v6 [])<|oS 6 6 44<|oz 7 9<|N) [10,40,44])<|.ret) S) [40])) []) [])<|q (R (oL 45 6 10<|cl 46 54 [t 45]<|oS 6 6 46<|oz 7 0<|N) [10,45,46])<|.ret
theorem ok14 : FT 14 47 ir14 [.cell 6 (some 6), .tmp 7] := .o Tryz.func14
end Go.Proofs
namespace Go.Proofs
open Go Av
def inI (n a b : Int) : Bool := decide (n ≥ a) && decide (n ≤ b)
theorem walk352 (n a b : Int) : PT 352 [.int .i64 n, .int .i64 a, .int .i64 b] (.d (.bool (inI n a b))) := by
 refine ok352.pc ?_;simp only [go_sem, ir352, simprocAttr];refine sq (decide (n ≤ b)) ?_ ?_
 all_goals simp only [go_sem, inI, simprocAttr]
structure Lim where
 name : Str
 low : Int
 high : Int
 bounds : Bool
 scale : Bool
 text : Bool
 list : Bool
 fields : Bool
def encLim (l : Lim) : List Dat := [.str l.name, .int .i64 l.low, .int .i64 l.high, .bool l.bounds, .bool l.scale, .bool l.text, .bool l.list, .bool l.fields]
def lim0 : Lim := ⟨[], 0, 0, false, false, false, false, false⟩
def limA : List Lim := [lim0,
 ⟨[98, 111, 111, 108], 0, 0, false, false, false, false, false⟩,
 ⟨[105, 110, 116], -999999999999999, 999999999999999, true, false, false, false, false⟩,
 ⟨[100, 101, 99, 105, 109, 97, 108], -999999999999999, 999999999999999, true, true, false, false, false⟩,
 ⟨[116, 101, 120, 116], 0, 1024, true, false, true, false, false⟩,
 ⟨[98, 121, 116, 101, 115], 0, 1024, true, false, false, false, false⟩,
 ⟨[100, 97, 116, 101], -719162, 2932896, true, false, false, false, false⟩,
 ⟨[116, 105, 109, 101], -62135596800000, 253402300799999, true, false, false, false, false⟩,
 ⟨[108, 105, 115, 116], 0, 256, true, false, false, true, false⟩,
 ⟨[114, 101, 99, 111, 114, 100], 0, 0, false, false, false, false, true⟩,
 ⟨[118, 97, 114, 105, 97, 110, 116], 0, 0, false, false, false, false, true⟩]
def kindsL : List Dat := limA.flatMap encLim
theorem walk353 : PT 353 [] (.d (.agg kindsL)) := tbl_one X1_ok kR
def limK (k : Int) : Lim := limA.getD k.toNat lim0
theorem kindsL_len : kindsL.length = 88 := rfl
theorem kindsL_at {k : Int} (h0 : 1 ≤ k) (h1 : k ≤ 10) : (kindsL.drop (k.toNat * 8)).take 8 = encLim (limK k) := by
 obtain ⟨n, rfl⟩ : ∃ n : Nat, k = n := ⟨k.toNat, oM⟩;have h : n = 1 ∨ n = 2 ∨ n = 3 ∨ n = 4 ∨ n = 5 ∨ n = 6 ∨ n = 7 ∨ n = 8 ∨ n = 9 ∨ n = 10 := oM;rcases h with rfl | rfl | rfl | rfl | rfl | rfl | rfl | rfl | rfl | rfl <;> rfl
def formC (t : Typ) (L : Lim) : Bool := ((((!L.bounds && (t.min != 0 || t.max != 0)) || (!L.scale && t.scale != 0)) || (!L.text && decide (((t.words.length : Nat) : Int) > 0))) || (!L.list && decide (((t.elem.length : Nat) : Int) > 0))) || (!L.fields && decide (((t.fields.length : Nat) : Int) > 0))
theorem walk354 (t : Typ) (L : Lim) : PT 354 [encT t, .agg (encLim L)] (.d (.int .i64 (if formC t L = true then 3 else 0))) := by
 refine ok354.pc ?_;generalize hR : (if formC t L = true then (3 : Int) else 0) = R;unfold formC at hR;rw [encT_eq];simp only [go_sem, ir354, encLim, simprocAttr];refine sq (t.min != 0 || t.max != 0) ?_ ?_
 ·refine zz ?_;refine sq (t.max != 0) ?_ ?_
  all_goals simp only [go_sem, simprocAttr]
 refine zz ?_;apply ik <;> intro h
 ·simp only [h, Bool.true_or, ↓reduceIte] at hR;subst hR;exact zz26 trivial
 rw [h, Bool.false_or] at hR;refine sq (t.scale != 0) ?_ ?_
 ·exact zz4 trivial
 refine zz4 ?_;apply ik <;> intro h
 ·simp only [h, Bool.true_or, ↓reduceIte] at hR;subst hR;exact zz26 trivial
 rw [h, Bool.false_or] at hR;refine sq (decide (((t.words.length : Nat) : Int) > 0)) ?_ ?_
 ·exact zz4 trivial
 refine zz4 ?_;apply ik <;> intro h
 ·simp only [h, Bool.true_or, ↓reduceIte] at hR;subst hR;exact zz26 trivial
 rw [h, Bool.false_or] at hR;refine sq (decide (((t.elem.length : Nat) : Int) > 0)) ?_ ?_
 ·exact zz4 trivial
 refine zz4 ?_;apply ik <;> intro h
 ·simp only [h, Bool.true_or, ↓reduceIte] at hR;subst hR;exact zz26 trivial
 rw [h, Bool.false_or] at hR;refine sq (decide (((t.fields.length : Nat) : Int) > 0)) ?_ ?_
 ·exact zz4 trivial
 refine zz4 ?_;apply ik <;> intro h
 ·simp only [h, ↓reduceIte] at hR;subst hR;rfl
 ·simp only [h, Bool.false_eq_true, ↓reduceIte] at hR;subst hR;rfl
def wordsF : Option Str → List Str → Int
 | _, [] => 0
 | p, w :: r =>
  if chkV (.mk 4 0 0 w [] []) != 0 then chkV (.mk 4 0 0 w [] [])
  else if (match p with | some q => w == q | none => false) = true then 7
  else if (match p with | some q => strLt w q | none => false) = true then 24
  else wordsF (some w) r
def wordsT (t : Typ) : Int := if (t.min != 0 || t.max != 0) = true then 3 else if decide (((t.words.length : Nat) : Int) > 64) = true then 9 else wordsF none t.words
def prevW (l : List Str) (k : Nat) : Option Str := if k = 0 then none else l[k - 1]?
def isP (f : Str → Str → Bool) (w : Str) (p : Option Str) : Bool := match p with | some q => f w q | none => false
theorem wordsF_cons (p : Option Str) (w : Str) (r : List Str) : wordsF p (w :: r) = if chkV (.mk 4 0 0 w [] []) != 0 then chkV (.mk 4 0 0 w [] []) else if isP (fun a b => a == b) w p = true then 7 else if isP strLt w p = true then 24 else wordsF (some w) r := by
 cases p <;> rfl
theorem nth_strs {xs : List Str} {k : Nat} (h : k < xs.length) : nth (xs.map .str) k = .str xs[k] := by rw [nth_eq (sX h), List.getElem_map]
theorem dec_isP (f : Str → Str → Bool) (w : Str) (l : List Str) (k : Nat) : (decide ((k : Int) > 0) && isP f w (prevW l k)) = isP f w (prevW l k) := by
 by_cases h : k = 0
 ·subst h; rfl
 ·have : decide ((k : Int) > 0) = true := sO;rw [this, Bool.true_and]
theorem walk355 (t : Typ) (hw : t.words.length ≤ 68719476736) : PT 355 [encT t] (.d (.int .i64 (wordsT t))) := by
 refine ok355.pc ?_;generalize hR : wordsT t = R;unfold wordsT at hR;rw [encT_eq];simp only [go_sem, ir355, simprocAttr];refine sq (t.max != 0) ?_ ?_
 ·exact zz trivial
 refine zz4 ?_;apply ik <;> intro h
 ·simp only [h, ↓reduceIte] at hR;subst hR;rfl
 rw [if_neg (nF h)] at hR;clear h;apply ik <;> intro h
 ·simp only [h, ↓reduceIte] at hR;subst hR;rfl
 rw [if_neg (nF h)] at hR;refine wpc_loop (fun n s => ∃ k : Nat, k ≤ t.words.length ∧ n = t.words.length - k ∧ wordsF (prevW t.words k) (t.words.drop k) = R ∧
  s = ⟨[(1, .ref 1 0), (21, .d (.list 1 (t.words.map .str))), (22, .d (.int .i64 t.words.length)), (23, .d (.int .i64 k))],
   [(1, .box [.d (.int .i64 t.kind), .d (.int .i64 t.min), .d (.int .i64 t.max), .d (.int .i64 t.scale), .d (.list 1 (t.words.map .str)), .d (.list 7 (t.elem.map encT)), .d (.list 11 (t.fields.map encG))])]⟩) ?_ ?_
 ·exact ⟨_, _, Wk.refl _, 0, Nat.zero_le _, rfl, hR, rfl⟩
 ·clear hR;rintro n s ⟨k, hk, rfl, hinv, rfl⟩;by_cases hlt : k < t.words.length
  ·have hx := nth_strs hlt;have hd := dT hlt;have c216 := (walk216 t.words[k]).call trivial;have c30 := (walk30 (.mk 4 0 0 t.words[k] [] [])).call trivial;rw [List.drop_eq_getElem_cons hlt, wordsF_cons] at hinv;have hp1 : prevW t.words (k + 1) = some t.words[k] := by simp [prevW, List.getElem?_eq_getElem hlt]
   have hq : 0 < k → ∃ q, prevW t.words k = some q ∧ nth (t.words.map .str) ((k : Int) - 1).toNat = .str q := by
    intro h0;have h1 : k - 1 < t.words.length := oM;refine ⟨t.words[k - 1], ?_, ?_⟩
    ·rw [prevW, if_neg oM, List.getElem?_eq_getElem h1]
    ·have : ((k : Int) - 1).toNat = k - 1 := oM;rw [this, nth_strs h1]
   have hw1 : 0 < k → IntKind.i64.wrap ((k : Int) - 1) = (k : Int) - 1 := fun h0 => wrap64 oM oM
   have hdd := dec_isP (fun a b => a == b) t.words[k] t.words k;have hdl := dec_isP strLt t.words[k] t.words k;generalize chkV (.mk 4 0 0 t.words[k] [] []) = cv at *;rw [encV_eq] at c216 c30;refine zz6 ?_;refine ⟨oM, dC, wn c216 ?_⟩;refine zz ?_;refine wc c30 ?_;apply ik <;> intro h
   ·rw [if_pos h] at hinv;subst hinv;rfl
   rw [if_neg (nF h)] at hinv;clear h;refine scQ_pure (isP (fun a b => a == b) t.words[k] (prevW t.words k)) (fun h0 => ?_) ?_
   ·have h0 : 0 < k := sX h0;obtain ⟨q, e1, e2⟩ := hq h0;refine zz51 ?_;exact ⟨oM, dC⟩
   simp only [go_sem, hdd, simprocAttr];apply ik <;> intro h
   ·rw [if_pos h] at hinv;subst hinv;rfl
   rw [if_neg (nF h)] at hinv;clear h
   try refine zz ?_
   refine scQ_pure (isP strLt t.words[k] (prevW t.words k)) (fun h0 => ?_) ?_
   ·have h0 : 0 < k := sX h0;obtain ⟨q, e1, e2⟩ := hq h0;refine zz51 ?_;exact ⟨oM, dC⟩
   simp only [go_sem, hdl, simprocAttr];apply ik <;> intro h
   ·rw [if_pos h] at hinv;subst hinv;rfl
   rw [if_neg (nF h), ← hp1] at hinv;clear h;refine ⟨t.words.length - (k + 1), _, oM, Wk.less ?_, k + 1, oM, rfl, hinv, rfl⟩;exact zz7 trivial
  ·have hd := dF hlt;rw [List.drop_eq_nil_of_le oM, wordsF] at hinv;subst hinv;exact zz5 trivial
def partsT (t : Typ) : List Typ := if t.kind = 8 then t.elem else if t.kind = 9 ∨ t.kind = 10 then t.fields.map TFl.type else []
theorem encT_cells (t : Typ) : (encT t).cells = [.int .i64 t.kind, .int .i64 t.min, .int .i64 t.max, .int .i64 t.scale, .list 1 (t.words.map .str), .list 7 (t.elem.map encT), .list 11 (t.fields.map encG)] := by rw [encT_eq]; rfl
theorem walk289 (t : Typ) (hf : t.fields.length ≤ 68719476736) : PT 289 [encT t] (.d (.list 7 ((partsT t).map encT))) := by
 refine ok289.pc ?_;generalize hR : partsT t = R;unfold partsT at hR;rw [encT_eq];simp only [go_sem, ir289, simprocAttr];apply ik <;> intro h
 ·rw [if_pos (sX h)] at hR;subst hR;exact zz trivial
 rw [if_neg (sX h)] at hR;by_cases h9 : t.kind = 9 ∨ t.kind = 10
 ·rw [if_pos h9] at hR;have e : (t.kind == 9) = true ∨ (t.kind == 9) = false ∧ (t.kind == 10) = true := by
   rcases h9 with h9 | h9
   ·exact .inl (by rw [h9]; rfl)
   ·exact .inr ⟨by rw [h9]; rfl, by rw [h9]; rfl⟩
  rcases e with e | ⟨e, e'⟩
  all_goals
   simp only [go_sem, e, List.length_map, simprocAttr]
   try simp only [go_sem, e', List.length_map, simprocAttr]
   refine ⟨oM, ?_⟩;refine wpc_loop (fun n s => ∃ k : Nat, k ≤ t.fields.length ∧ n = t.fields.length - k ∧
    s = ⟨[(3, .ms 18 k), (20, .d (.list 11 (t.fields.map encG))), (21, .d (.int .i64 t.fields.length)), (22, .d (.int .i64 k))], [(18, .row k 7 (((t.fields.take k).map TFl.type).map encT))]⟩) ?_ ?_
   ·refine ⟨_, _, Wk.less ?_, 0, Nat.zero_le _, rfl, rfl⟩;simp [put, go_sem]
   ·rintro n s ⟨k, hk, rfl, rfl⟩;by_cases hlt : k < t.fields.length
    ·have hx := nth_encG hlt;have hd := dT hlt;refine zz6 ?_;refine ⟨oM, by simp [Dat.cells], sO, t.fields.length - (k + 1), _, oM, Wk.less ?_, k + 1, oM, rfl, rfl⟩;rw [List.take_succ_eq_append_getElem hlt, List.map_append, List.map_append];simp only [go_sem, wrap64s k oM, List.map_cons, List.map_nil, encT_eq t.fields[k].type, Nat.reduceAdd, Nat.reduceEqDiff, Nat.reduceBEq, Nat.reduceLeDiff, reduceCtorEq, ↓reduceIte]
    ·have hd := dF hlt;obtain rfl : k = t.fields.length := oM;subst hR;exact zz14 trivial
 ·rw [if_neg h9] at hR;subst hR;have e1 : (t.kind == 9) = false := sO;have e2 : (t.kind == 10) = false := sO;simp only [go_sem, e1, e2, simprocAttr]
theorem ix203 {g : Nat} {cs : List Dat} {q : TFl → Bool} (l : List TFl) (hq : ∀ x ∈ l, PT g [encG x, .ptr cs] (.d (.bool (q x)))) (hl : l.length ≤ 68719476736) :
  PT 203 [.list 11 (l.map encG), cloD g cs] (.d (.int .i64 (ixG q l))) := by
 refine ok203.pc ?_;refine zz39 ?_;refine wpc_loop (fun n s => ∃ k : Nat, k ≤ l.length ∧ n = l.length - k ∧ (∀ (j : Nat) (h1 : j < l.length), j < k → q l[j] = false) ∧
  s = ⟨[(0, .d (.list 11 (l.map encG))), (1, .d (cloD g cs)), (7, .d (.int .i64 l.length)), (8, .d (.int .i64 k))], []⟩) ?_ ?_
 ·exact ⟨_, _, Wk.refl _, 0, Nat.zero_le _, rfl, sP, rfl⟩
 ·rintro n s ⟨k, hk, rfl, hinv, rfl⟩;by_cases hlt : k < l.length
  ·have hx := nth_encG hlt;have hd := dT hlt;have hc := (hq l[k] (List.getElem_mem _)).call trivial;rw [encG_eq] at hc;refine zz6 ?_;refine ⟨oM, wn hc ?_⟩;refine zz ?_;apply ik <;> intro hf
   ·have : l.findIdx? q = some k := by
     rw [List.findIdx?_eq_some_iff_getElem];exact ⟨hlt, hf, fun j hj => by rw [hinv j oM hj]; decide⟩
    simp only [ixG, this]
   ·refine ⟨l.length - (k + 1), _, oM, Wk.less ?_, k + 1, oM, rfl, ?_, rfl⟩
    ·exact zz7 trivial
    ·intro j h1 hj;by_cases e : j = k
     ·subst e; exact hf
     ·exact hinv j h1 oM
  ·have hd := dF hlt;refine zz5 ?_;have : l.findIdx? q = none := by
    rw [List.findIdx?_eq_none_iff];intro x hx;obtain ⟨j, hj, rfl⟩ := List.getElem_of_mem hx;exact hinv j hj oM
   simp only [ixG, this]
theorem ixG_any (q : TFl → Bool) (l : List TFl) : decide (ixG q l ≥ 0) = l.any q := by
 unfold ixG;cases e : l.findIdx? q with
 | none =>
  rw [List.findIdx?_eq_none_iff] at e;have : l.any q = false := by rw [List.any_eq_false]; intro x hx; rw [e x hx]; decide
  rw [this]; rfl
 | some k =>
  obtain ⟨h1, h2, _⟩ := List.findIdx?_eq_some_iff_getElem.1 e;have : l.any q = true := List.any_eq_true.2 ⟨_, List.getElem_mem h1, h2⟩;rw [this];simp
theorem walk122 {g : Nat} {cs : List Dat} {q : TFl → Bool} (l : List TFl) (hq : ∀ x ∈ l, PT g [encG x, .ptr cs] (.d (.bool (q x)))) (hl : l.length ≤ 68719476736) :
  PT 122 [.list 11 (l.map encG), cloD g cs] (.d (.bool (l.any q))) := by
 refine ok122.pc ?_;have c := (ix203 l hq hl).call trivial;rw [← ixG_any];simp only [go_sem, ir122, simprocAttr];refine wc c trivial
theorem encG_cells (f : TFl) : (encG f).cells = [.int .i64 f.number, .str f.name, .int .i64 f.need, .int .i64 f.type.kind, .int .i64 f.type.min, .int .i64 f.type.max, .int .i64 f.type.scale,
  .list 1 (f.type.words.map .str), .list 7 (f.type.elem.map encT), .list 11 (f.type.fields.map encG), .list 6 (f.dflt.map encV)] := by rw [encG_eq]; rfl
def samG (f g : TFl) : Bool := g.name == f.name || g.number == f.number
theorem walk396 (g f : TFl) : PT 396 [encG g, .ptr (encG f).cells] (.d (.bool (samG f g))) := by
 refine ok396.pc ?_;rw [encG_cells, encG_eq];simp only [go_sem, ir396, Nat.reduceAdd, Nat.reduceEqDiff, Nat.reduceBEq, Nat.reduceLeDiff, reduceCtorEq, ↓reduceIte];refine ⟨by decide, ?_⟩;refine sq (g.number == f.number) ?_ ?_
 ·refine zz ?_;decide
 simp only [go_sem, samG, Nat.reduceAdd, Nat.reduceEqDiff, Nat.reduceBEq, Nat.reduceLeDiff, reduceCtorEq, ↓reduceIte]
def fldT (t : Typ) (i : Nat) (f : TFl) : Int :=
 if (!nameS f.name) = true then 12 else if (!inI f.number 1 9999) = true then 2 else if ((t.fields.take i).any (samG f)) = true then 7
 else if (!inI f.need 1 3 || (t.kind == 10 && f.need != 1)) = true then 11
 else if (f.need == 3 && ((f.dflt.length : Nat) : Int) == 0) = true then 4
 else if (decide (((f.dflt.length : Nat) : Int) > 1) || (f.need != 3 && decide (((f.dflt.length : Nat) : Int) > 0))) = true then 3 else 0
theorem walk356 (t : Typ) (i : Nat) (hi : i < t.fields.length) (hf : t.fields.length ≤ 68719476736) : PT 356 [encT t, .int .i64 i] (.d (.int .i64 (fldT t i t.fields[i]))) := by
 refine ok356.pc ?_;have hx := nth_encG hi;have c151 := (p151 t.fields[i].name).call trivial;have cn := (walk352 t.fields[i].number 1 9999).call trivial;have cd := (walk352 t.fields[i].need 1 3).call trivial;have cu := CallOK.clo (ds := [.list 11 ((t.fields.take i).map encG)]) (walk122 (t.fields.take i) (fun x _ => walk396 x t.fields[i]) (by simp; omega)) rfl 5;have hsl : (List.drop (Int.toNat 0) (t.fields.map encG)).take ((i : Int) - 0).toNat = (t.fields.take i).map encG := by
  have : ((i : Int) - 0).toNat = i := by omega
  rw [this, List.map_take]; rfl
 generalize hR : fldT t i t.fields[i] = R;unfold fldT at hR;generalize t.fields[i] = f at *;rw [encG_cells] at cu;simp only [List.map_cons, List.map_nil, List.cons_append, List.nil_append] at cu;rw [encT_eq];simp only [go_sem, ir356, hx, Int.toNat_natCast, List.length_map, Nat.reduceAdd, Nat.reduceEqDiff, Nat.reduceBEq, Nat.reduceLeDiff, reduceCtorEq, ↓reduceIte];refine ⟨by omega, wn c151 ?_⟩;refine zz ?_;apply ik <;> intro h
 ·rw [if_pos h] at hR;subst hR;rfl
 rw [if_neg (by rw [h]; exact Bool.false_ne_true)] at hR;clear h
 try refine zz ?_
 refine wc cn ?_;apply ik <;> intro h
 ·rw [if_pos h] at hR;subst hR;rfl
 rw [if_neg (by rw [h]; exact Bool.false_ne_true)] at hR;clear h
 try simp only [go_sem, hsl, Int.toNat_natCast, List.length_map, Nat.reduceAdd, Nat.reduceEqDiff, Nat.reduceBEq, Nat.reduceLeDiff, reduceCtorEq, ↓reduceIte]
 refine ⟨by omega, wn cu ?_⟩;refine zz ?_;apply ik <;> intro h
 ·rw [if_pos h] at hR;subst hR;rfl
 rw [if_neg (by rw [h]; exact Bool.false_ne_true)] at hR;clear h
 try refine zz ?_
 refine wc cd ?_;refine sq (t.kind == 10 && f.need != 1) ?_ ?_
 ·refine zz ?_;refine sq (f.need != 1) ?_ ?_
  all_goals simp only [go_sem, Nat.reduceAdd, Nat.reduceEqDiff, Nat.reduceBEq, Nat.reduceLeDiff, reduceCtorEq, ↓reduceIte]
 refine zz ?_;apply ik <;> intro h
 ·rw [if_pos h] at hR;subst hR;rfl
 rw [if_neg (by rw [h]; exact Bool.false_ne_true)] at hR;clear h
 try refine zz ?_
 refine sq (((f.dflt.length : Nat) : Int) == 0) ?_ ?_
 ·exact zz4 trivial
 refine zz ?_;apply ik <;> intro h
 ·rw [if_pos h] at hR;subst hR;rfl
 rw [if_neg (by rw [h]; exact Bool.false_ne_true)] at hR;clear h
 try refine zz4 ?_
 refine sq (f.need != 3 && decide (((f.dflt.length : Nat) : Int) > 0)) ?_ ?_
 ·refine zz4 ?_;refine sq (decide (((f.dflt.length : Nat) : Int) > 0)) ?_ ?_
  all_goals simp only [go_sem, List.length_map, Nat.reduceAdd, Nat.reduceEqDiff, Nat.reduceBEq, Nat.reduceLeDiff, reduceCtorEq, ↓reduceIte]
 refine zz4 ?_;apply ik <;> intro h
 ·rw [if_pos h] at hR;subst hR;rfl
 ·rw [if_neg (by rw [h]; exact Bool.false_ne_true)] at hR;subst hR;rfl
def fldsF (t : Typ) : Nat → List TFl → Int
 | _, [] => 0
 | i, f :: r => if (fldT t i f != 0) = true then fldT t i f else fldsF t (i + 1) r
def own2 (t : Typ) : Int :=
 if ((t.kind == 8 && ((t.elem.length : Nat) : Int) == 0) || (t.kind == 10 && ((t.fields.length : Nat) : Int) == 0)) = true then 4
 else if (t.kind == 8 && decide (((t.elem.length : Nat) : Int) > 1)) = true then 3
 else if decide (((t.fields.length : Nat) : Int) > 64) = true then 9 else fldsF t 0 t.fields
def bndC (t : Typ) (L : Lim) : Bool := (L.bounds && ((decide (t.min > t.max) || decide (t.min < L.low)) || decide (t.max > L.high))) || (L.scale && !inI t.scale 0 12)
def ownT (t : Typ) : Int :=
 if (!inI t.kind 1 10) = true then 11 else if formC t (limK t.kind) = true then 3
 else if (t.kind == 4 && decide (((t.words.length : Nat) : Int) > 0)) = true then (if (wordsT t != 0) = true then wordsT t else own2 t)
 else if bndC t (limK t.kind) = true then 2 else own2 t
theorem walk288 (t : Typ) : PT 288 [encT t] (.d (.int .i64 (ownT t))) := by
 refine PCon.of_fits ok288.has fun hfit => ?_
 obtain ⟨hw, he, hf⟩ := fits_T (hfit _ (List.mem_cons_self));refine ok288.pc ?_;have ci := (walk352 t.kind 1 10).call trivial;have c353 := walk353.call trivial;have c354 := (walk354 t (limK t.kind)).call trivial;have c355 := (walk355 t hw).call trivial;have cs := (walk352 t.scale 0 12).call trivial;have c356 := fun i (hi : i < t.fields.length) => (walk356 t i hi hf).call trivial
 have hlen := kindsL_len;generalize hR : ownT t = R;unfold ownT at hR;have hkk := fun h0 h1 => kindsL_at (k := t.kind) h0 h1
 simp only [encLim] at hkk c354;rw [encT_eq] at c354 c355;simp only [encT_eq t] at c356;rw [encT_eq];simp only [go_sem, ir288, simprocAttr];refine wc ci ?_;apply ik <;> intro h
 ·rw [if_pos h] at hR;subst hR;rfl
 rw [if_neg (nF h)] at hR;have hk : 1 ≤ t.kind ∧ t.kind ≤ 10 := by
  simp only [inI, Bool.not_eq_false', Bool.and_eq_true, decide_eq_true_eq] at h;omega
 clear h;have hkk := hkk hk.1 hk.2;generalize limK t.kind = L at *
 try refine zz ?_
 refine wpsL_call rfl c353 trivial ?_;simp only [go_sem, hkk, hlen, simprocAttr];refine ⟨oM, dC, ?_⟩;by_cases hc : formC t L = true
 ·rw [if_pos hc] at c354 hR;subst hR;refine wn c354 ?_;exact zz9 trivial
 rw [if_neg hc] at c354 hR;refine wn c354 ?_;refine zz9 ?_;refine sq (decide (((t.words.length : Nat) : Int) > 0)) ?_ ?_
 ·exact zz4 trivial
 refine zz9 ?_;apply ik <;> intro h;rw [if_pos h] at hR;clear h
 try refine zz9 ?_
 refine wn c355 ?_;refine zz9 ?_;apply ik <;> intro h
 ·rw [if_pos h] at hR;subst hR;rfl
 rw [if_neg (nF h)] at hR;clear h
 rotate_left
 rw [if_neg (nF h)] at hR;clear h;unfold bndC at hR;refine sq ((decide (t.min > t.max) || decide (t.min < L.low)) || decide (t.max > L.high)) ?_ ?_
 ·refine zz9 ?_;refine sq (decide (t.min < L.low)) ?_ ?_
  ·exact zz9 trivial
  refine zz9 ?_;refine sq (decide (t.max > L.high)) ?_ ?_
  all_goals simp only [go_sem, Int.reduceBNe, bne_self_eq_false, simprocAttr]
 refine zz9 ?_;apply ik <;> intro h
 ·simp only [h, Bool.true_or, ↓reduceIte] at hR;subst hR;simp only [go_sem, h, ↓reduceIte]
 rw [h, Bool.false_or] at hR;clear h;refine sq (!inI t.scale 0 12) ?_ ?_
 ·refine zz9 ?_;refine wn cs ?_;exact zz9 trivial
 refine zz9 ?_;apply ik <;> intro h
 ·rw [if_pos h] at hR;subst hR;simp only [go_sem, h, ↓reduceIte]
 rw [if_neg (nF h)] at hR
 try simp only [go_sem, h, Bool.false_eq_true, ↓reduceIte]
 clear h
 all_goals
  clear c354 c355 cs ci c353 hkk;unfold own2 at hR;refine sq (((t.elem.length : Nat) : Int) == 0) ?_ ?_
  ·exact zz12 trivial
  refine zz12 ?_;apply ik <;> intro h
  ·simp only [h, Bool.true_or, ↓reduceIte] at hR;subst hR;simp only [go_sem, h, ↓reduceIte]
  rw [h, Bool.false_or] at hR;clear h
  try refine zz12 ?_
  refine sq (((t.fields.length : Nat) : Int) == 0) ?_ ?_
  ·exact zz12 trivial
  refine zz12 ?_;apply ik <;> intro h
  ·rw [if_pos h] at hR;subst hR;simp only [go_sem, h, ↓reduceIte]
  rw [if_neg (nF h)] at hR
  try simp only [go_sem, h, Bool.false_eq_true, ↓reduceIte]
  clear h;refine sq (decide (((t.elem.length : Nat) : Int) > 1)) ?_ ?_
  ·exact zz12 trivial
  refine zz12 ?_;apply ik <;> intro h
  ·rw [if_pos h] at hR;subst hR;rfl
  rw [if_neg (nF h)] at hR;clear h
  try refine zz12 ?_
  apply ik <;> intro h
  ·rw [if_pos h] at hR;subst hR;rfl
  rw [if_neg (nF h)] at hR;clear h
  try refine zz12 ?_
  refine wpc_loop (fun n s => ∃ k : Nat, k ≤ t.fields.length ∧ n = t.fields.length - k ∧ fldsF t k (t.fields.drop k) = R ∧
   s = ⟨[(1, .ref 1 0), (105, .d (.int .i64 t.fields.length)), (106, .d (.int .i64 k))], [(1, .box [.d (.int .i64 t.kind), .d (.int .i64 t.min), .d (.int .i64 t.max), .d (.int .i64 t.scale), .d (.list 1 (t.words.map .str)), .d (.list 7 (t.elem.map encT)), .d (.list 11 (t.fields.map encG))])]⟩) ?_ ?_
  ·refine ⟨_, _, Wk.less ?_, 0, Nat.zero_le _, rfl, hR, rfl⟩;simp [put, go_sem]
  ·clear hR;rintro n s ⟨k, hk2, rfl, hinv, rfl⟩;by_cases hlt : k < t.fields.length
   ·have hd := dT hlt;have c := c356 k hlt;rw [List.drop_eq_getElem_cons hlt, fldsF] at hinv;generalize fldT t k t.fields[k] = e at *;refine zz5 ?_;refine wn c ?_;refine zz12 ?_;apply ik <;> intro h
    ·rw [if_pos h] at hinv;subst hinv;rfl
    rw [if_neg (nF h)] at hinv;clear h;refine ⟨t.fields.length - (k + 1), _, oM, Wk.less ?_, k + 1, oM, rfl, hinv, rfl⟩;exact zz7 trivial
   ·have hd := dF hlt;rw [List.drop_eq_nil_of_le oM, fldsF] at hinv;subst hinv;exact zz5 trivial
end Go.Proofs
namespace Go.Proofs
open Go Av
open Av.Y
def ir397 : Ic := q (R (ow 4 false<|N) [4])<|q (R (om 5 0<|om 6 1<|cl 7 419 [t 5,t 6]<|oi 8 .geq 7 0<|om 4 8<|N) [0,1,5,6,7,8])<|.ret
theorem ok397 : FT 397 9 ir397 [.tmp 4] := .o Tryz.func397
def ir419 : Ic := q (R (oz 4 0<|N) [4])<|q (q (R (om 6 0<|oh 7 6<|oz 8 0<|N) [6])<|D (.block 0<|.loop (q (.reg (ot 9 .lss 8 7<|N))<|q (D (I 9 S (E 0)) [9])<|q (D (.block 1<|q (R (om 10 8<|om 5 10<|N) [10])<|q (R (om 11 1<|om 12 0<|om 13 5<|oa true 14 6 12 13<|oL 15 6 14<|.call (some 16) (.dyn (t 11)) [t 15] N) [11,12,13,14,15])<|D (I 16 (q (R (om 17 5<|om 4 17<|N) [0,1,7,8,5,16,17])<|.ret) S) [5,16]) [])<|R (oi 18 .add 8 1<|om 8 18<|N) [18])) [0,1,7,8,9,10,5,11])<|q (.reg (oz 4 (-1)<|N))<|.ret
theorem ok419 : FT 419 19 ir419 [.tmp 4] := .o Tryz.func419
def ir292 : Ic := q (R (oz 4 0<|N) [4])<|q (q (R (om 6 0<|oh 7 6<|oz 8 0<|N) [6])<|D (.block 0<|.loop (q (.reg (ot 9 .lss 8 7<|N))<|q (D (I 9 S (E 0)) [9])<|q (D (.block 1<|q (R (om 10 8<|om 5 10<|N) [10])<|q (R (om 11 1<|om 12 0<|om 13 5<|oa false 14 1 12 13<|ol 15 14<|.call (some 16) (.dyn (t 11)) [t 15] N) [11,12,13,14,15])<|D (I 16 (q (R (om 17 5<|om 4 17<|N) [0,1,7,8,5,16,17])<|.ret) S) [5,16]) [])<|R (oi 18 .add 8 1<|om 8 18<|N) [18])) [0,1,7,8,9,10,5,11])<|q (.reg (oz 4 (-1)<|N))<|.ret
theorem ok292 : FT 292 19 ir292 [.tmp 4] := .o Tryz.func292
end Go.Proofs
namespace Go.Proofs
open Go Av
def ixV (q : Val → Bool) (l : List Val) : Int := match l.findIdx? q with
 | some k => (k : Int)
 | none => -1
theorem ix419 {g : Nat} {cs : List Dat} {q : Val → Bool} (l : List Val) (hq : ∀ x ∈ l, PT g [encV x, .ptr cs] (.d (.bool (q x)))) (hl : l.length ≤ 68719476736) :
  PT 419 [.list 6 (l.map encV), cloD g cs] (.d (.int .i64 (ixV q l))) := by
 refine ok419.pc ?_;simp only [go_sem, ir419, List.length_map, simprocAttr];refine wpc_loop (fun n s => ∃ k : Nat, k ≤ l.length ∧ n = l.length - k ∧ (∀ (j : Nat) (h1 : j < l.length), j < k → q l[j] = false) ∧
  s = ⟨[(0, .d (.list 6 (l.map encV))), (1, .d (cloD g cs)), (7, .d (.int .i64 l.length)), (8, .d (.int .i64 k))], []⟩) ?_ ?_
 ·exact ⟨_, _, Wk.refl _, 0, Nat.zero_le _, rfl, sP, rfl⟩
 ·rintro n s ⟨k, hk, rfl, hinv, rfl⟩;by_cases hlt : k < l.length
  ·have hx := nth_encV hlt;have hd := dT hlt;have hc := (hq l[k] (List.getElem_mem _)).call trivial;rw [encV_eq] at hc;refine zz6 ?_;refine ⟨oM, wn hc ?_⟩;refine zz ?_;apply ik <;> intro hf
   ·have : l.findIdx? q = some k := by
     rw [List.findIdx?_eq_some_iff_getElem];exact ⟨hlt, hf, fun j hj => by rw [hinv j oM hj]; decide⟩
    simp only [ixV, this]
   ·refine ⟨l.length - (k + 1), _, oM, Wk.less ?_, k + 1, oM, rfl, ?_, rfl⟩
    ·exact zz7 trivial
    ·intro j h1 hj;by_cases e : j = k
     ·subst e; exact hf
     ·exact hinv j h1 oM
  ·have hd := dF hlt;refine zz5 ?_;have : l.findIdx? q = none := by
    rw [List.findIdx?_eq_none_iff];intro x hx;obtain ⟨j, hj, rfl⟩ := List.getElem_of_mem hx;exact hinv j hj oM
   simp only [ixV, this]
theorem ixV_any (q : Val → Bool) (l : List Val) : decide (ixV q l ≥ 0) = l.any q := by
 unfold ixV;cases e : l.findIdx? q with
 | none =>
  rw [List.findIdx?_eq_none_iff] at e;have : l.any q = false := by rw [List.any_eq_false]; intro x hx; rw [e x hx]; decide
  rw [this]; rfl
 | some k =>
  obtain ⟨h1, h2, _⟩ := List.findIdx?_eq_some_iff_getElem.1 e;have : l.any q = true := List.any_eq_true.2 ⟨_, List.getElem_mem h1, h2⟩;rw [this];simp
theorem walk397 {g : Nat} {cs : List Dat} {q : Val → Bool} (l : List Val) (hq : ∀ x ∈ l, PT g [encV x, .ptr cs] (.d (.bool (q x)))) (hl : l.length ≤ 68719476736) :
  PT 397 [.list 6 (l.map encV), cloD g cs] (.d (.bool (l.any q))) := by
 refine ok397.pc ?_;have c := (ix419 l hq hl).call trivial;rw [← ixV_any];simp only [go_sem, ir397, simprocAttr];refine wc c trivial
def ixS (q : Str → Bool) (l : List Str) : Int := match l.findIdx? q with
 | some k => (k : Int)
 | none => -1
theorem ixS_any (q : Str → Bool) (l : List Str) : decide (ixS q l ≥ 0) = l.any q := by
 unfold ixS;cases e : l.findIdx? q with
 | none =>
  rw [List.findIdx?_eq_none_iff] at e;have : l.any q = false := by rw [List.any_eq_false]; intro x hx; rw [e x hx]; decide
  rw [this]; rfl
 | some k =>
  obtain ⟨h1, h2, _⟩ := List.findIdx?_eq_some_iff_getElem.1 e;have : l.any q = true := List.any_eq_true.2 ⟨_, List.getElem_mem h1, h2⟩;rw [this];simp
theorem encV_cells (v : Val) : (encV v).cells = [.int .i64 v.kind, .int .i64 v.int, .int .i64 v.scale, .str v.text, .list 6 (v.list.map encV), .list 7 (v.fields.map encF)] := by rw [encV_eq]; rfl
def lackB (v : Val) (g : TFl) : Bool := !(fieldR v g.name).2 && g.need != 2
theorem walk399 (g : TFl) (v : Val) : PT 399 [encG g, .ptr (encV v).cells] (.d (.bool (lackB v g))) := by
 refine ok399.pc ?_;have c := (walk201 v g.name).call (by simp [pureR]);generalize hR : lackB v g = R;unfold lackB at hR;generalize fieldR v g.name = F at *;rw [encV_eq v, encV_eq F.1] at c;rw [encG_eq, encV_cells];simp only [go_sem, ir399, simprocAttr];refine wc c ?_;refine sq (g.need != 2) ?_ ?_
 ·exact zz trivial
 simp only [go_sem, hR, simprocAttr]
theorem walk398 (e : Typ) (b : Bool) (t : Typ) (x : Val) (he : t.elem = [e]) (h : PT 357 [encT e, encV x] (.d (.bool b))) : PT 398 [encV x, .ptr (encT t).cells] (.d (.bool (!b))) := by
 refine ok398.pc ?_;have c := h.call trivial;have h0 : 0 < t.elem.length := by rw [he]; simp
 have hx := nth_encT h0;have e0 : t.elem[0] = e := by simp [he]
 rw [e0] at hx;rw [encT_eq, encV_eq] at c;rw [encV_eq, encT_cells];simp only [go_sem, ir398, hx, Int.toNat_zero, List.length_map, Nat.reduceAdd, Nat.reduceEqDiff, Nat.reduceBEq, Nat.reduceLeDiff, reduceCtorEq, ↓reduceIte];refine ⟨by omega, ⟨by omega, by omega⟩, wn c ?_⟩;exact zz trivial
def hasS (ft : Typ → Val → Bool) (t : Typ) (v : Val) : Bool :=
 if (v.kind != t.kind) = true then false
 else if t.kind = 2 ∨ t.kind = 6 ∨ t.kind = 7 ∨ t.kind = 3 then inI v.int t.min t.max && v.scale == t.scale
 else if t.kind = 4 then (if decide (((t.words.length : Nat) : Int) > 0) = true then decide (v.text ∈ t.words) else inI v.text.length t.min t.max)
 else if t.kind = 5 then inI v.text.length t.min t.max
 else if t.kind = 8 then inI v.list.length t.min t.max && !(v.list.any fun x => !ft ((t.elem[0]?).getD ty0) x)
 else if t.kind = 10 then (fldR t v.text).2 && ft (fldR t v.text).1.type ((v.list[0]?).getD zeroV)
 else if t.kind = 9 then (v.fields.all fun x => !(!(fldR t x.name).2 || !ft (fldR t x.name).1.type x.value)) && !(t.fields.any (lackB v))
 else true
theorem fldR_mem {t : Typ} {n : Str} (h : (fldR t n).2 = true) : (fldR t n).1 ∈ t.fields := by
 unfold fldR at h ⊢;split
 ·rename_i e; rw [if_pos e] at h; cases h
 ·rename_i e; rw [if_neg e] at h; exact tfR_mem h
theorem step357 (ft : Typ → Val → Bool) (t : Typ) (v : Val) (hk : 1 ≤ t.kind ∧ t.kind ≤ 10) (h8e : t.kind = 8 → t.elem.length = 1) (h10v : v.kind = 10 → v.list.length = 1)
  (h8 : t.kind = 8 → ∀ e ∈ t.elem, ∀ x ∈ v.list, PT 357 [encT e, encV x] (.d (.bool (ft e x))))
  (h9 : t.kind = 9 → ∀ g ∈ t.fields, ∀ x ∈ v.fields, PT 357 [encT g.type, encV x.value] (.d (.bool (ft g.type x.value))))
  (h10 : t.kind = 10 → ∀ g ∈ t.fields, ∀ x ∈ v.list, PT 357 [encT g.type, encV x] (.d (.bool (ft g.type x)))) :
  PT 357 [encT t, encV v] (.d (.bool (hasS ft t v))) := by
 refine PCon.of_fits ok357.has fun hfit => ?_
 obtain ⟨hw, he, hf⟩ := fits_T (hfit (encT t) sP);obtain ⟨v1, v2, v3⟩ := fits_V3 (hfit (encV v) sP);refine ok357.pc ?_;generalize hR : hasS ft t v = R;unfold hasS at hR;rw [encT_eq t, encV_eq v];simp only [go_sem, ir357, simprocAttr];apply ik <;> intro h
 ·rw [if_pos h] at hR;subst hR;rfl
 rw [if_neg (nF h)] at hR;have hvk : v.kind = t.kind := sX h;clear h;have hks : t.kind = 1 ∨ t.kind = 2 ∨ t.kind = 3 ∨ t.kind = 4 ∨ t.kind = 5 ∨ t.kind = 6 ∨ t.kind = 7 ∨ t.kind = 8 ∨ t.kind = 9 ∨ t.kind = 10 := oM;have ci := (walk352 v.int t.min t.max).call trivial;have ct := (walk352 v.text.length t.min t.max).call trivial;have cl := (walk352 v.list.length t.min t.max).call trivial;have c99 := (walk99 t.words v.text hw).call trivial;rcases hks with hk | hk | hk | hk | hk | hk | hk | hk | hk | hk
 all_goals
  have e2 : (t.kind == 2) = decide (t.kind = 2) := rfl;have e3 : (t.kind == 3) = decide (t.kind = 3) := rfl;have e4 : (t.kind == 4) = decide (t.kind = 4) := rfl;have e5 : (t.kind == 5) = decide (t.kind = 5) := rfl;have e6 : (t.kind == 6) = decide (t.kind = 6) := rfl;have e7 : (t.kind == 7) = decide (t.kind = 7) := rfl;have e8 : (t.kind == 8) = decide (t.kind = 8) := rfl;have e9 : (t.kind == 9) = decide (t.kind = 9) := rfl;have e10 : (t.kind == 10) = decide (t.kind = 10) := rfl;rw [hk] at e2 e3 e4 e5 e6 e7 e8 e9 e10;simp only [Int.reduceEq, decide_false, decide_true, hk] at e2 e3 e4 e5 e6 e7 e8 e9 e10;simp only [hk, Int.reduceEq, or_false, or_true, false_or, true_or, ↓reduceIte] at hR;refine zz34 ?_
  try (subst hR; rfl)
 ·subst hR;refine wn ci ?_;refine zz1 ?_;refine sq (v.scale == t.scale) ?_ ?_
  all_goals simp only [go_sem, Int.reduceBEq, List.length_map, simprocAttr]
 ·subst hR;refine wn ci ?_;refine zz1 ?_;refine sq (v.scale == t.scale) ?_ ?_
  all_goals simp only [go_sem, Int.reduceBEq, List.length_map, simprocAttr]
 ·apply ik <;> intro h
  ·rw [if_pos h] at hR;subst hR
   try refine zz1 ?_
   refine wn c99 ?_;exact zz1 trivial
  ·rw [if_neg (nF h)] at hR;subst hR
   try refine zz1 ?_
   refine wn ct ?_;exact zz1 trivial
 ·subst hR;refine wn ct ?_;exact zz1 trivial
 ·subst hR;refine wn ci ?_;refine zz1 ?_;refine sq (v.scale == t.scale) ?_ ?_
  all_goals simp only [go_sem, Int.reduceBEq, List.length_map, simprocAttr]
 ·subst hR;refine wn ci ?_;refine zz1 ?_;refine sq (v.scale == t.scale) ?_ ?_
  all_goals simp only [go_sem, Int.reduceBEq, List.length_map, simprocAttr]
 ·have hl1 := h8e hk;obtain ⟨e, hee⟩ : ∃ e, t.elem = [e] := List.length_eq_one_iff.1 hl1;have hmem : e ∈ t.elem := by rw [hee]; exact List.mem_singleton.2 rfl
  have cw := CallOK.clo (ds := [.list 6 (v.list.map encV)]) (walk397 (q := fun x => !ft e x) v.list (fun x hx => walk398 e (ft e x) t x hee (h8 hk e hmem x hx)) v2) rfl 2;rw [encT_cells, hk] at cw;simp only [List.map_cons, List.map_nil, List.cons_append, List.nil_append] at cw;have e0 : (t.elem[0]?).getD ty0 = e := by simp [hee]
  rw [e0] at hR;subst hR;refine wn cl ?_;refine zz1 ?_;refine sq (!(v.list.any fun x => !ft e x)) ?_ ?_
  ·refine zz1 ?_;refine wn cw ?_;exact zz1 trivial
  exact zz1 trivial
 ·have cw := CallOK.clo (ds := [.list 11 (t.fields.map encG)]) (walk122 (q := lackB v) t.fields (fun g _ => walk399 g v) hf) rfl 3;rw [encV_cells] at cw;simp only [List.map_cons, List.map_nil, List.cons_append, List.nil_append] at cw;refine wpc_loop (fun n s => ∃ k : Nat, k ≤ v.fields.length ∧ n = v.fields.length - k ∧ (((v.fields.drop k).all fun x => !(!(fldR t x.name).2 || !ft (fldR t x.name).1.type x.value)) && !(t.fields.any (lackB v))) = R ∧
   s = ⟨[(2, .ref 2 0), (3, .ref 3 0), (105, .d (.list 7 (v.fields.map encF))), (106, .d (.int .i64 v.fields.length)), (107, .d (.int .i64 k))],
    [(2, .box [.d (.int .i64 9), .d (.int .i64 t.min), .d (.int .i64 t.max), .d (.int .i64 t.scale), .d (.list 1 (t.words.map .str)), .d (.list 7 (t.elem.map encT)), .d (.list 11 (t.fields.map encG))]),
     (3, .box [.d (.int .i64 v.kind), .d (.int .i64 v.int), .d (.int .i64 v.scale), .d (.str v.text), .d (.list 6 (v.list.map encV)), .d (.list 7 (v.fields.map encF))])]⟩) ?_ ?_
  ·exact ⟨_, _, Wk.refl _, 0, Nat.zero_le _, rfl, hR, rfl⟩
  ·clear hR;rintro n s ⟨k, hk2, rfl, hinv, rfl⟩;by_cases hlt : k < v.fields.length
   ·have hx := nth_encF hlt;have hd := dT hlt;have hmem := List.getElem_mem hlt;have c131 := (walk131 t v.fields[k].name).call (by simp [pureR]);have cr : (fldR t v.fields[k].name).2 = true → CT 357 [.d (encT (fldR t v.fields[k].name).1.type), .d (encV v.fields[k].value)] [] (.d (.bool (ft (fldR t v.fields[k].name).1.type v.fields[k].value))) [] := fun h => (h9 hk _ (fldR_mem h) v.fields[k] hmem).call trivial
    rw [List.drop_eq_getElem_cons hlt, List.all_cons] at hinv;generalize fldR t v.fields[k].name = F at *;generalize hB : ft F.1.type v.fields[k].value = B at *;rw [encT_eq t, encG_eq F.1, hk] at c131;rw [encT_eq, encV_eq] at cr;refine zz6 ?_;refine ⟨oM, wn c131 ?_⟩;refine zz1 ?_;refine scQ_pure (!B) (fun h => ?_) ?_
    ·refine zz1 ?_;refine wn (cr (sX h)) ?_;exact zz1 trivial
    refine zz1 ?_;apply ik <;> intro h
    ·rw [h, Bool.not_true, Bool.false_and, Bool.false_and] at hinv;subst hinv;rfl
    ·rw [h, Bool.not_false, Bool.true_and] at hinv;clear h;refine ⟨v.fields.length - (k + 1), _, oM, Wk.less ?_, k + 1, oM, rfl, hinv, rfl⟩;exact zz7 trivial
   ·have hd := dF hlt;rw [List.drop_eq_nil_of_le oM, List.all_nil, Bool.true_and] at hinv;subst hinv;refine zz5 ?_;refine wn cw ?_;exact zz1 trivial
 ·have hl1 := h10v (hvk.trans hk);have h0 : 0 < v.list.length := oM;have hx0 := nth_encV h0;have c131 := (walk131 t v.text).call (by simp [pureR]);have cr : (fldR t v.text).2 = true → CT 357 [.d (encT (fldR t v.text).1.type), .d (encV v.list[0])] [] (.d (.bool (ft (fldR t v.text).1.type v.list[0]))) [] := fun h => (h10 hk _ (fldR_mem h) v.list[0] (List.getElem_mem h0)).call trivial
  rw [List.getElem?_eq_getElem h0, Option.getD_some] at hR;generalize fldR t v.text = F at *;rw [encT_eq t, encG_eq F.1, hk] at c131;rw [encT_eq, encV_eq] at cr;subst hR;refine wn c131 ?_;refine zz1 ?_;refine scQ_pure (ft F.1.type v.list[0]) (fun h => ?_) ?_
  ·simp only [go_sem, hx0, Int.toNat_zero, Int.reduceBEq, List.length_map, simprocAttr];refine ⟨oM, wn (cr h) ?_⟩;exact zz1 trivial
  exact zz1 trivial
def hasF : Nat → Typ → Val → Bool
 | 0, _, _ => true
 | k + 1, t, v => hasS (hasF k) t v
end Go.Proofs
namespace Go.Proofs
open Go Av
variable {v : Val}
theorem szE_le {n m e : Int} (he : e ≠ 0) (h : szE n m e = 0) : n ≤ m := by
 unfold szE at h;split at h
 ·exact absurd h he
 ·rename_i h1; simpa using h1
theorem chkE_ok {n level : Int} (h : chkE n level v = 0) : usesV v = true ∧ ruleE v = 0 := by
 unfold chkE at h;split at h
 ·cases h
 split at h
 ·cases h
 split at h
 ·cases h
 split at h
 ·cases h
 split at h
 ·cases h
 ·rename_i hu; exact ⟨by simpa using hu, h⟩
theorem recE_names : ∀ {l : List Fld} {o : Option Str}, recE o l = 0 → ∀ f ∈ l, nameS f.name = true
 | [], _, _, f, hf => by cases hf
 | g :: r, none, h, f, hf => by
  simp only [recE] at h;split at h
  ·cases h
  ·rename_i hn;rcases List.mem_cons.1 hf with rfl | hf
   ·simpa using hn
   ·exact recE_names h f hf
 | g :: r, some p, h, f, hf => by
  simp only [recE] at h;split at h
  ·cases h
  split at h
  ·cases h
  split at h
  ·cases h
  ·rename_i hn _ _;rcases List.mem_cons.1 hf with rfl | hf
   ·simpa using hn
   ·exact recE_names h f hf
theorem uses_ok (h : usesV v = true) : ((v.kind = 8 ∨ v.kind = 10) ∨ v.list = []) ∧ (v.kind = 9 ∨ v.fields = []) ∧ (v.kind = 4 ∨ v.kind = 5 ∨ v.kind = 10 ∨ v.text = []) := by
 simp only [usesV, useT, useL, Bool.and_eq_true, Bool.or_eq_true, beq_iff_eq] at h;obtain ⟨⟨⟨_, h1⟩, h2⟩, h3⟩ := h;refine ⟨?_, ?_, ?_⟩
 ·rcases h2 with h2 | h2
  ·exact .inl h2
  ·exact .inr (List.length_eq_zero_iff.1 oM)
 ·rcases h3 with h3 | h3
  ·exact .inl h3
  ·exact .inr (List.length_eq_zero_iff.1 oM)
 ·rcases h1 with ((h1 | h1) | h1) | h1
  ·exact .inl h1
  ·exact .inr (.inl h1)
  ·exact .inr (.inr (.inl h1))
  ·exact .inr (.inr (.inr h1))
theorem rule_text (hu : usesV v = true) (h : ruleE v = 0) : v.text.length ≤ 4096 := by
 obtain ⟨_, _, h3⟩ := uses_ok hu;unfold ruleE at h;rcases h3 with e | e | e | e
 ·rw [if_neg oM, if_neg oM, if_neg oM, if_pos e] at h;unfold textE at h;split at h
  ·cases h
  ·have := szE_le dC h; omega
 ·rw [if_neg oM, if_neg oM, if_neg oM, if_neg oM, if_pos e] at h;have := szE_le dC h; omega
 ·rw [if_neg oM, if_neg oM, if_neg oM, if_neg oM, if_neg oM, if_neg oM, if_neg oM, if_neg oM, if_neg oM] at h;unfold varE at h;split at h
  ·cases h
  ·rename_i hn;have := nameS_len (s := v.text) (sX hn);omega
 ·rw [e]; exact Nat.zero_le _
theorem rule_names (e : v.kind = 9) (h : ruleE v = 0) : ∀ f ∈ v.fields, f.name.length ≤ 4096 := by
 unfold ruleE at h;rw [if_neg oM, if_neg oM, if_neg oM, if_neg oM, if_neg oM, if_neg oM, if_neg oM, if_neg oM, if_pos e] at h;unfold recV at h;split at h
 ·rename_i h1; rw [h] at h1; cases h1
 ·intro f hf;have := nameS_len (recE_names h f hf);omega
theorem foldV_sz {f : Int → Val → Int × Int} (hf : ∀ n v, (f n v).1 = 0 → (f n v).2 = n + szV v ∧ okT v) : ∀ (l : List Val) (n : Int), (foldV f n l).1 = 0 → (foldV f n l).2 = n + szVs l ∧ okTs l
 | [], n, _ => by simp [foldV, szVs, okTs]
 | v :: r, n, h => by
  simp only [foldV] at h ⊢;split at h
  ·rename_i hx; exact absurd h hx
  ·rename_i hx;rw [if_neg hx];simp only [ne_eq, Decidable.not_not] at hx;obtain ⟨h1, h2⟩ := hf n v hx;obtain ⟨h3, h4⟩ := foldV_sz hf r _ h;simp only [szVs, okTs];exact ⟨by rw [h3, h1]; push_cast; omega, h2, h4⟩
theorem szFs_map : ∀ l : List Fld, szFs l = szVs (l.map Fld.value)
 | [] => rfl
 | .mk n v :: r => by simp only [szFs, List.map_cons, szVs, szFs_map r, Fld.value]
theorem okTf_of : ∀ {l : List Fld}, (∀ f ∈ l, f.name.length ≤ 4096) → okTs (l.map Fld.value) → okTf l
 | [], _, _ => trivial
 | .mk n v :: r, h, h2 => ⟨h _ List.mem_cons_self, h2.1, okTf_of (fun f hf => h f (List.mem_cons_of_mem _ hf)) h2.2⟩
theorem visF_sz : ∀ (k : Nat) (n : Int) (v : Val), (visF k n v).1 = 0 → (visF k n v).2 = n + szV v ∧ okT v
 | 0, n, v, h => absurd h (chk9 _ _)
 | k + 1, n, v, h => by
  simp only [visF] at h ⊢;split at h
  ·rename_i hx; exact absurd h hx
  ·rename_i hx;rw [if_neg hx];simp only [ne_eq, Decidable.not_not] at hx;obtain ⟨hu, hr⟩ := chkE_ok hx;obtain ⟨u1, u2, u3⟩ := uses_ok hu;obtain ⟨h1, h2⟩ := foldV_sz (visF_sz k) _ _ h;have ht := rule_text hu hr;rw [h1, szV_eq, okT_eq];unfold partsV at h2 ⊢;by_cases e : v.kind = 8 ∨ v.kind = 10
   ·have hf : v.fields = [] := by rcases u2 with u2 | u2 <;> first | exact u2 | omega
    rw [if_pos e] at h2 ⊢;rw [hf];refine ⟨by simp only [szFs]; push_cast; omega, ht, h2, trivial⟩
   ·have hl : v.list = [] := by rcases u1 with u1 | u1 <;> first | exact u1 | exact absurd u1 e
    rw [if_neg e] at h2 ⊢;rw [hl];by_cases e9 : v.kind = 9
    ·rw [if_pos e9] at h2 ⊢;rw [szFs_map];exact ⟨by simp only [szVs]; push_cast; omega, ht, trivial, okTf_of (rule_names e9 hr) h2⟩
    ·have hf : v.fields = [] := by rcases u2 with u2 | u2 <;> first | exact u2 | omega
     rw [if_neg e9] at h2 ⊢;rw [hf];exact ⟨by simp only [szVs, szFs]; push_cast; omega, ht, trivial, trivial⟩
theorem chkV_sz (h : chkV v = 0) : szV v ≤ 4096 ∧ okT v := by
 obtain ⟨h1, h2⟩ := visF_sz 8 0 v h;have h3 := (visF_n 8 0 v oM oM h).2;exact ⟨oM, h2⟩
end Go.Proofs
namespace Go.Proofs
open Go Av
mutual
def okW : Val → Prop
 | .mk k _ _ _ l f => (k = 10 → l.length = 1) ∧ okWs l ∧ okWf f
def okWs : List Val → Prop
 | [] => True
 | v :: r => okW v ∧ okWs r
def okWf : List Fld → Prop
 | [] => True
 | .mk _ v :: r => okW v ∧ okWf r
end
theorem okW_eq (v : Val) : okW v ↔ (v.kind = 10 → v.list.length = 1) ∧ okWs v.list ∧ okWf v.fields := by cases v; rfl
theorem okWs_mem : ∀ {l : List Val}, okWs l → ∀ x ∈ l, okW x
 | v :: r, h, x, hx => by
  rcases List.mem_cons.1 hx with rfl | hx
  ·exact h.1
  ·exact okWs_mem h.2 x hx
theorem okWf_mem : ∀ {l : List Fld}, okWf l → ∀ x ∈ l, okW x.value
 | .mk n v :: r, h, x, hx => by
  rcases List.mem_cons.1 hx with rfl | hx
  ·exact h.1
  ·exact okWf_mem h.2 x hx
theorem okWf_of : ∀ {l : List Fld}, okWs (l.map Fld.value) → okWf l
 | [], _ => trivial
 | .mk n v :: r, h => ⟨h.1, okWf_of h.2⟩
theorem foldV_va {f : Int → Val → Int × Int} (hf : ∀ n v, (f n v).1 = 0 → okW v) : ∀ (l : List Val) (n : Int), (foldV f n l).1 = 0 → okWs l
 | [], n, _ => trivial
 | v :: r, n, h => by
  simp only [foldV] at h;split at h
  ·rename_i hx; exact absurd h hx
  ·rename_i hx;simp only [ne_eq, Decidable.not_not] at hx;exact ⟨hf n v hx, foldV_va hf r _ h⟩
theorem rule_var {v : Val} (e : v.kind = 10) (h : ruleE v = 0) : v.list.length = 1 := by
 unfold ruleE at h;rw [if_neg oM, if_neg oM, if_neg oM, if_neg oM, if_neg oM, if_neg oM, if_neg oM, if_neg oM, if_neg oM] at h;unfold varE at h;split at h
 ·cases h
 split at h
 ·cases h
 ·rename_i h2;have := szE_le dC h;simp only [beq_iff_eq] at h2;omega
theorem visF_va : ∀ (k : Nat) (n : Int) (v : Val), (visF k n v).1 = 0 → okW v
 | 0, n, v, h => absurd h (chk9 _ _)
 | k + 1, n, v, h => by
  simp only [visF] at h;split at h
  ·rename_i hx; exact absurd h hx
  ·rename_i hx;simp only [ne_eq, Decidable.not_not] at hx;obtain ⟨hu, hr⟩ := chkE_ok hx;obtain ⟨u1, u2, u3⟩ := uses_ok hu;have h2 := foldV_va (visF_va k) _ _ h;rw [okW_eq];refine ⟨fun e => rule_var e hr, ?_⟩;unfold partsV at h2;by_cases e : v.kind = 8 ∨ v.kind = 10
   ·have hf : v.fields = [] := by rcases u2 with u2 | u2 <;> first | exact u2 | omega
    rw [if_pos e] at h2;rw [hf];exact ⟨h2, trivial⟩
   ·have hl : v.list = [] := by rcases u1 with u1 | u1 <;> first | exact u1 | exact absurd u1 e
    rw [if_neg e] at h2;rw [hl];by_cases e9 : v.kind = 9
    ·rw [if_pos e9] at h2;exact ⟨trivial, okWf_of h2⟩
    ·have hf : v.fields = [] := by rcases u2 with u2 | u2 <;> first | exact u2 | omega
     rw [hf];exact ⟨trivial, trivial⟩
theorem chkV_okW {v : Val} (h : chkV v = 0) : okW v := visF_va 8 0 v h
mutual
def vTy : Typ → Prop
 | .mk k _ _ s _ e f => (1 ≤ k ∧ k ≤ 10) ∧ (k = 8 → e.length = 1) ∧ (k = 10 → f ≠ []) ∧ (0 ≤ s ∧ s ≤ 12) ∧ vTs e ∧ vTf k f
def vTs : List Typ → Prop
 | [] => True
 | v :: r => vTy v ∧ vTs r
def vTf : Int → List TFl → Prop
 | _, [] => True
 | k, .mk _ _ d t df :: r => ((d = 3 → df.length = 1 ∧ ∀ x ∈ df, chkV x = 0) ∧ (k = 10 → d = 1) ∧ vTy t) ∧ vTf k r
end
theorem vT_eq (t : Typ) : vTy t ↔ (1 ≤ t.kind ∧ t.kind ≤ 10) ∧ (t.kind = 8 → t.elem.length = 1) ∧ (t.kind = 10 → t.fields ≠ []) ∧ (0 ≤ t.scale ∧ t.scale ≤ 12) ∧ vTs t.elem ∧ vTf t.kind t.fields := by cases t; rfl
theorem vTs_mem : ∀ {l : List Typ}, vTs l → ∀ x ∈ l, vTy x
 | v :: r, h, x, hx => by
  rcases List.mem_cons.1 hx with rfl | hx
  ·exact h.1
  ·exact vTs_mem h.2 x hx
theorem vTf_mem : ∀ {k : Int} {l : List TFl}, vTf k l → ∀ x ∈ l, (x.need = 3 → x.dflt.length = 1 ∧ ∀ y ∈ x.dflt, chkV y = 0) ∧ (k = 10 → x.need = 1) ∧ vTy x.type
 | k, .mk a n d t df :: r, h, x, hx => by
  rcases List.mem_cons.1 hx with rfl | hx
  ·exact h.1
  ·exact vTf_mem h.2 x hx
theorem vTs_of : ∀ {l : List Typ}, (∀ x ∈ l, vTy x) → vTs l
 | [], _ => trivial
 | v :: r, h => ⟨h _ List.mem_cons_self, vTs_of fun x hx => h x (List.mem_cons_of_mem _ hx)⟩
theorem vTf_of : ∀ {k : Int} {l : List TFl}, (∀ x ∈ l, (x.need = 3 → x.dflt.length = 1 ∧ ∀ y ∈ x.dflt, chkV y = 0) ∧ (k = 10 → x.need = 1) ∧ vTy x.type) → vTf k l
 | _, [], _ => trivial
 | _, .mk a n d t df :: r, h => ⟨h _ List.mem_cons_self, vTf_of fun x hx => h x (List.mem_cons_of_mem _ hx)⟩
theorem walk357 : ∀ (k : Nat) (t : Typ) (v : Val), szT t ≤ k → vTy t → okW v → PT 357 [encT t, encV v] (.d (.bool (hasF k t v)))
 | 0, t, v, h, _, _ => by rw [szT_eq] at h; omega
 | k + 1, t, v, h, ht, hv => by
  have e := szT_eq t;obtain ⟨t1, t2, t3, t4, t5, t6⟩ := (vT_eq t).1 ht;obtain ⟨v1, v2, v3⟩ := (okW_eq v).1 hv;refine step357 (hasF k) t v t1 t2 v1 (fun h8 e he x hx => ?_) (fun h9 g hg x hx => ?_) (fun h10 g hg x hx => ?_)
  ·have := szTs_mem e he;exact walk357 k e x oM (vTs_mem t5 e he) (okWs_mem v2 x hx)
  ·have := szGs_mem g hg;exact walk357 k g.type x.value oM (vTf_mem t6 g hg).2.2 (okWf_mem v3 x hx)
  ·have := szGs_mem g hg;exact walk357 k g.type x oM (vTf_mem t6 g hg).2.2 (okWs_mem v2 x hx)
def accB (t : Typ) (v : Val) : Bool := chkV v == 0 && hasF (szT t) t v
theorem walk290 (t : Typ) (v : Val) (ht : vTy t) : PT 290 [encT t, encV v] (.d (.bool (accB t v))) := by
 refine ok290.pc ?_;have c30 := (walk30 v).call trivial;have c357 : chkV v = 0 → CT 357 [.d (encT t), .d (encV v)] [] (.d (.bool (hasF (szT t) t v))) [] := fun h => (walk357 (szT t) t v (Nat.le_refl _) ht (chkV_okW h)).call trivial
 generalize hR : accB t v = R;unfold accB at hR;generalize hasF (szT t) t v = H at *;generalize chkV v = E at *;rw [encV_eq v] at c30 c357;rw [encT_eq t] at c357;rw [encT_eq t, encV_eq v];simp only [go_sem, ir290, simprocAttr];refine wc c30 ?_;refine scQ_pure H (fun h => ?_) ?_
 ·refine zz ?_;refine wc (c357 (sX h)) trivial
 simp only [go_sem, hR, simprocAttr]
end Go.Proofs
namespace Go.Proofs
open Go Av
variable {t : Typ}
theorem fldsF_ok : ∀ (l : List TFl) (i : Nat), fldsF t i l = 0 → ∀ (j : Nat) (hj : j < l.length), fldT t (i + j) l[j] = 0
 | [], _, _, j, hj => by simp at hj
 | f :: r, i, h, j, hj => by
  rw [fldsF] at h;split at h
  ·rename_i h1; rw [h] at h1; cases h1
  ·rename_i h1;cases j with
   | zero => simpa using h1
   | succ j =>
    have := fldsF_ok r (i + 1) h j (sX hj);rw [Nat.add_assoc, Nat.add_comm 1 j] at this;simpa using this
theorem own2_ok (h : own2 t = 0) : (t.kind = 8 → t.elem.length = 1) ∧ (t.kind = 10 → t.fields ≠ []) ∧ t.fields.length ≤ 64 ∧ ∀ (j : Nat) (hj : j < t.fields.length), fldT t j t.fields[j] = 0 := by
 unfold own2 at h;split at h
 ·cases h
 rename_i h1;split at h
 ·cases h
 rename_i h2;split at h
 ·cases h
 rename_i h3;simp only [Bool.or_eq_true, Bool.and_eq_true, beq_iff_eq, decide_eq_true_eq, not_or, not_and] at h1 h2 h3;refine ⟨fun e => ?_, fun e e2 => ?_, oM, fun j hj => ?_⟩
 ·have a := h1.1 e;have b := h2 e;omega
 ·have := h1.2 e;rw [e2] at this;exact this rfl
 ·have := fldsF_ok t.fields 0 h j hj;rwa [Nat.zero_add] at this
theorem len0 {α : Type} {l : List α} (h : ¬ ((l.length : Nat) : Int) > 0) : l = [] := by
 apply List.eq_nil_of_length_eq_zero;omega
theorem own_ok (h : ownT t = 0) : (1 ≤ t.kind ∧ t.kind ≤ 10) ∧ (t.kind = 8 → t.elem.length = 1) ∧ (t.kind ≠ 8 → t.elem = []) ∧ (t.kind = 10 → t.fields ≠ []) ∧ (t.kind ≠ 9 → t.kind ≠ 10 → t.fields = []) ∧
  (0 ≤ t.scale ∧ t.scale ≤ 12) ∧ t.fields.length ≤ 64 ∧ ∀ (j : Nat) (hj : j < t.fields.length), fldT t j t.fields[j] = 0 := by
 unfold ownT at h;split at h
 ·cases h
 rename_i h1;split at h
 ·cases h
 rename_i h2;have hk : 1 ≤ t.kind ∧ t.kind ≤ 10 := by
  simp only [inI, Bool.not_eq_true', Bool.and_eq_false_iff, decide_eq_false_iff_not, not_or] at h1;omega
 have key : own2 t = 0 ∧ (t.kind = 3 → inI t.scale 0 12 = true) := by
  split at h
  ·rename_i h3;simp only [Bool.and_eq_true, beq_iff_eq] at h3;split at h
   ·rename_i h4; rw [h] at h4; cases h4
   ·exact ⟨h, fun e => by omega⟩
  ·split at h
   ·cases h
   ·rename_i h4;refine ⟨h, fun e => ?_⟩;unfold bndC at h4;rw [e] at h4;simp only [Bool.or_eq_true, not_or] at h4;have := h4.2;simpa [limK, limA] using this
 obtain ⟨o1, o2, o3, o4⟩ := own2_ok key.1;have hsc := key.2;unfold formC at h2;simp only [Bool.or_eq_true, Bool.and_eq_true, not_or, not_and, bne_iff_ne, ne_eq, Decidable.not_not, decide_eq_true_eq, Bool.not_eq_true', Bool.not_eq_eq_eq_not, Bool.not_true] at h2;obtain ⟨⟨⟨⟨f1, f2⟩, f3⟩, f4⟩, f5⟩ := h2;have hks : t.kind = 1 ∨ t.kind = 2 ∨ t.kind = 3 ∨ t.kind = 4 ∨ t.kind = 5 ∨ t.kind = 6 ∨ t.kind = 7 ∨ t.kind = 8 ∨ t.kind = 9 ∨ t.kind = 10 := oM;refine ⟨hk, o1, fun e => ?_, o2, fun e e2 => ?_, ?_, o3, o4⟩
 ·refine len0 (f4 ?_);rcases hks with h | h | h | h | h | h | h | h | h | h <;> first | omega | (rw [h]; rfl)
 ·refine len0 (f5 ?_);rcases hks with h | h | h | h | h | h | h | h | h | h <;> first | omega | (rw [h]; rfl)
 ·by_cases e : t.kind = 3
  ·have := hsc e;simp only [inI, Bool.and_eq_true, decide_eq_true_eq] at this;omega
  ·have := f2 (by rcases hks with h | h | h | h | h | h | h | h | h | h <;> first | omega | (rw [h]; rfl));omega
def dfl0 (g : TFl) : Val := (g.dflt[0]?).getD zeroV
def chkPs (f : Int → Typ → Int × Int) (t : Typ) : Nat → Int → List Typ → Int × Int
 | _, n, [] => (0, n)
 | i, n, p :: r =>
  if ((f n p).1 != 0) = true then f n p
  else if ((t.kind == 9 && (t.fields.getD i tf0).need == 3) && !accB p (dfl0 (t.fields.getD i tf0))) = true then (18, (f n p).2)
  else chkPs f t (i + 1) (f n p).2 r
def chkT : Nat → Int → Typ → Int × Int
 | 0, n, t => if (n == 0) = true then (9, n) else (23, n)
 | k + 1, n, t => if (n == 0) = true then (9, n) else if (ownT t != 0) = true then (ownT t, n - 1) else chkPs (chkT k) t 0 (n - 1) (partsT t)
theorem chkPs_ok {f : Int → Typ → Int × Int} (hf : ∀ n p, 0 ≤ n → (f n p).1 = 0 → vTy p ∧ (f n p).2 + szT p = n ∧ 0 ≤ (f n p).2) : ∀ (l : List Typ) (i : Nat) (n : Int), 0 ≤ n → (chkPs f t i n l).1 = 0 →
  (∀ x ∈ l, vTy x) ∧ (chkPs f t i n l).2 + szTs l = n ∧ 0 ≤ (chkPs f t i n l).2 ∧ ∀ (j : Nat) (hj : j < l.length), t.kind = 9 → (t.fields.getD (i + j) tf0).need = 3 → accB l[j] (dfl0 (t.fields.getD (i + j) tf0)) = true
 | [], i, n, hn, h => ⟨sP, by simp [chkPs, szTs], by simpa [chkPs] using hn, fun j hj => by simp at hj⟩
 | p :: r, i, n, hn, h => by
  rw [chkPs] at h ⊢;split at h
  ·rename_i h1; rw [h] at h1; cases h1
  rename_i h1;split at h
  ·cases h
  rename_i h2;rw [if_neg h1, if_neg h2];obtain ⟨a1, a2, a3⟩ := hf n p hn (sX h1);obtain ⟨b1, b2, b3, b4⟩ := chkPs_ok hf r (i + 1) (f n p).2 a3 h;refine ⟨fun x hx => ?_, ?_, b3, fun j hj e9 hn3 => ?_⟩
  ·rcases List.mem_cons.1 hx with rfl | hx
   ·exact a1
   ·exact b1 x hx
  ·simp only [szTs]; push_cast; omega
  ·cases j with
   | zero =>
    simp only [Nat.add_zero] at hn3 ⊢;simp only [e9, beq_self_eq_true, Bool.true_and, Bool.and_eq_true, beq_iff_eq, Bool.not_eq_true', not_and, Bool.not_eq_false] at h2;exact h2 hn3
   | succ j =>
    have := b4 j (sX hj) e9;rw [Nat.add_assoc, Nat.add_comm 1 j] at this;exact this hn3
theorem szTs_map : ∀ l : List TFl, szTs (l.map TFl.type) ≤ szGs l ∧ szGs l ≤ szTs (l.map TFl.type)
 | [] => by simp [szTs, szGs]
 | .mk a n d t df :: r => by
  have := szTs_map r;simp only [List.map_cons, szTs, szGs, TFl.type];omega
theorem fld_ok {i : Nat} {f : TFl} (h : fldT t i f = 0) : nameS f.name = true ∧ (1 ≤ f.need ∧ f.need ≤ 3) ∧ (t.kind = 10 → f.need = 1) ∧ (f.need = 3 → f.dflt.length = 1) ∧ (f.need ≠ 3 → f.dflt = []) := by
 unfold fldT at h;split at h
 ·cases h
 rename_i h1;split at h
 ·cases h
 split at h
 ·cases h
 split at h
 ·cases h
 rename_i h4;split at h
 ·cases h
 rename_i h5;split at h
 ·cases h
 rename_i h6;simp only [inI, Bool.or_eq_true, Bool.and_eq_true, Bool.not_eq_true', Bool.and_eq_false_iff, decide_eq_false_iff_not, beq_iff_eq, bne_iff_ne, ne_eq, decide_eq_true_eq, not_or, not_and, Decidable.not_not] at h4 h5 h6;refine ⟨by simpa using h1, oM, h4.2, fun e => ?_, fun e => ?_⟩
 ·have := h5 e; omega
 ·exact len0 (h6.2 e)
theorem chkT_ok : ∀ (k : Nat) (n : Int) (t : Typ), 0 ≤ n → (chkT k n t).1 = 0 → vTy t ∧ (chkT k n t).2 + szT t = n ∧ 0 ≤ (chkT k n t).2
 | 0, n, t, hn, h => by
  rw [chkT] at h;split at h <;> cases h
 | k + 1, n, t, hn, h => by
  rw [chkT] at h ⊢;split at h
  ·cases h
  rename_i h1;split at h
  ·rename_i h2; rw [show ownT t = 0 from h] at h2; cases h2
  rename_i h2;rw [if_neg h1, if_neg h2];obtain ⟨o1, o2, o3, o4, o5, o6, o7, o8⟩ := own_ok (t := t) (sX h2);have hn0 : n ≠ 0 := sX h1;obtain ⟨b1, b2, b3, b4⟩ := chkPs_ok (chkT_ok k) (partsT t) 0 (n - 1) oM h;have e := szT_eq t;have hsz : szTs (partsT t) + 1 = szT t := by
   unfold partsT;by_cases e8 : t.kind = 8
   ·rw [if_pos e8, e, o5 oM oM];simp [szGs]; omega
   ·rw [if_neg e8, e, o3 e8];by_cases e9 : t.kind = 9 ∨ t.kind = 10
    ·rw [if_pos e9];have := szTs_map t.fields;simp [szTs]; omega
    ·rw [if_neg e9, o5 oM oM];simp [szTs, szGs]
  refine ⟨(vT_eq t).2 ⟨o1, o2, o4, o6, ?_, ?_⟩, oM, b3⟩
  ·by_cases e8 : t.kind = 8
   ·refine vTs_of fun x hx => b1 x ?_
    rw [partsT, if_pos e8]; exact hx
   ·rw [o3 e8]; trivial
  ·by_cases e9 : t.kind = 9 ∨ t.kind = 10
   case neg => rw [o5 oM oM]; trivial
   have hp : partsT t = t.fields.map TFl.type := by rw [partsT, if_neg oM, if_pos e9]
   refine vTf_of fun x hx => ?_
   obtain ⟨j, hj, rfl⟩ := List.getElem_of_mem hx;obtain ⟨g1, g2, g3, g4, g5⟩ := fld_ok (o8 j hj);refine ⟨fun hn3 => ⟨g4 hn3, fun y hy => ?_⟩, g3, b1 _ (by rw [hp]; exact List.mem_map_of_mem (List.getElem_mem hj))⟩;have h9 : t.kind = 9 := by
    rcases e9 with h | h
    ·exact h
    ·have := g3 h; omega
   have hgd : t.fields.getD j tf0 = t.fields[j] := by rw [List.getD_eq_getElem?_getD, List.getElem?_eq_getElem hj]; rfl
   have := b4 j (by rw [hp, List.length_map]; exact hj) h9 (by rw [Nat.zero_add, hgd]; exact hn3);rw [Nat.zero_add, hgd] at this;have hl := g4 hn3;obtain ⟨d, hd⟩ := List.length_eq_one_iff.1 hl;rw [hd] at hy;rw [List.mem_singleton.1 hy];unfold accB dfl0 at this;rw [hd] at this;simp only [List.getElem?_cons_zero, Option.getD_some, Bool.and_eq_true, beq_iff_eq] at this;exact this.1
theorem walk211 : ∀ (k : Nat) (n : Int) (t : Typ), k ≤ 8 → 0 ≤ n → n ≤ 4096 →
  KT 211 [.d (encT t), .d (.int .i64 (9 - k)), .ref 1000 0] [(1000, .box [.d (.int .i64 n)])] (.d (.int .i64 (chkT k n t).1)) [(1000, .box [.d (.int .i64 (chkT k n t).2)])]
 | 0, n, t, hk, h0, h1 => by
  refine Con.of_fits ok211.has fun hfit => ?_
  refine ok211.co (k := false) (closed_puts (by simp [puts, put, closedH, objIn, idsInL, idsIn])) trivial ?_;generalize hR : chkT 0 n t = R;rw [chkT] at hR;rw [encT_eq];simp only [go_sem, ir211, Nat.reduceAdd, Nat.reduceEqDiff, Nat.reduceBEq, Nat.reduceLeDiff, reduceCtorEq, ↓reduceIte];apply ik <;> intro h
  ·rw [if_pos h] at hR;subst hR;exact zz trivial
  ·rw [if_neg (by rw [h]; exact Bool.false_ne_true)] at hR;subst hR;have h9 : decide ((9 : Int) - ((0 : Nat) : Int) > 8) = true := by decide
   simp only [go_sem, h9, Nat.reduceAdd, Nat.reduceEqDiff, Nat.reduceBEq, Nat.reduceLeDiff, reduceCtorEq, ↓reduceIte]
 | k + 1, n, t, hk, h0, h1 => by
  refine Con.of_fits ok211.has fun hfit => ?_
  obtain ⟨hw, he, hf⟩ := fits_T (hfit (encT t) (by simp));refine ok211.co (k := false) (closed_puts (by simp [puts, put, closedH, objIn, idsInL, idsIn])) trivial ?_;have c288 := (walk288 t).call trivial;have c289 := (walk289 t hf).call trivial;generalize hR : chkT (k + 1) n t = R;rw [chkT] at hR;have hown := @own_ok t;have h9 : decide ((9 : Int) - ((k + 1 : Nat) : Int) > 8) = false := by simp; omega
  rw [encT_eq t] at c288 c289;rw [encT_eq];simp only [go_sem, ir211, Nat.reduceAdd, Nat.reduceEqDiff, Nat.reduceBEq, Nat.reduceLeDiff, reduceCtorEq, ↓reduceIte];apply ik <;> intro h
  ·rw [if_pos h] at hR;subst hR;exact zz trivial
  rw [if_neg (by rw [h]; exact Bool.false_ne_true)] at hR;have hn0 : n ≠ 0 := by simpa using h
  have hw1 : IntKind.i64.wrap (n - 1) = n - 1 := wrap64 (by omega) (by omega);clear h;simp only [go_sem, h9, hw1, Nat.reduceAdd, Nat.reduceEqDiff, Nat.reduceBEq, Nat.reduceLeDiff, reduceCtorEq, ↓reduceIte];refine wn c288 ?_;refine zz1 ?_;apply ik <;> intro h
  ·rw [if_pos h] at hR;subst hR;exact zz1 trivial
  rw [if_neg (by rw [h]; exact Bool.false_ne_true)] at hR;obtain ⟨o1, o2, o3, o4, o5, o6, o7, o8⟩ := hown (by simpa using h);clear h hown
  try refine zz1 ?_
  refine wn c289 ?_;refine zz1 ?_;have hpl : (partsT t).length ≤ 68719476736 := by
   unfold partsT;split
   ·exact he
   split
   ·rw [List.length_map]; exact hf
   ·exact Nat.zero_le _
  have hp9 : t.kind = 9 → (partsT t).length = t.fields.length := by
   intro e9;rw [partsT, if_neg (by omega), if_pos (.inl e9), List.length_map]
  generalize partsT t = ps at *;refine wpc_loop (fun r s => ∃ (j : Nat) (m : Int), j ≤ ps.length ∧ r = ps.length - j ∧ 0 ≤ m ∧ m ≤ 4096 ∧ chkPs (chkT k) t j m (ps.drop j) = R ∧
   s = ⟨[(1, .d (.int .i64 (9 - ((k + 1 : Nat) : Int)))), (2, .ref 1000 0), (3, .ref 3 0), (30, .d (.list 7 (ps.map encT))), (31, .d (.int .i64 ps.length)), (32, .d (.int .i64 j))],
    [(1000, .box [.d (.int .i64 m)]), (3, .box [.d (.int .i64 t.kind), .d (.int .i64 t.min), .d (.int .i64 t.max), .d (.int .i64 t.scale), .d (.list 1 (t.words.map .str)), .d (.list 7 (t.elem.map encT)), .d (.list 11 (t.fields.map encG))])]⟩) ?_ ?_
  ·exact ⟨_, _, Wk.refl _, 0, n - 1, Nat.zero_le _, rfl, by omega, by omega, hR, rfl⟩
  ·clear hR;rintro r s ⟨j, m, hj, rfl, hm0, hm1, hinv, rfl⟩;by_cases hlt : j < ps.length
   ·have hx := nth_encT hlt;have hd : decide ((j : Int) < (ps.length : Int)) = true := by simp; omega
    have hwl : IntKind.i64.wrap (9 - ((k + 1 : Nat) : Int) + 1) = 9 - k := by rw [wrap64 (by omega) (by omega)]; push_cast; omega
    have hc := (walk211 k m ps[j] (by omega) hm0 hm1).cnt (ds := [encT ps[j], .int .i64 (9 - k)]) 1000;have hok := chkT_ok k m ps[j] hm0;rw [List.drop_eq_getElem_cons hlt, chkPs] at hinv;have c290 := fun (h : vTy ps[j]) => (walk290 ps[j] (dfl0 (t.fields.getD j tf0)) h).call trivial
    have hfd : t.kind = 9 → ∃ h : j < t.fields.length, t.fields.getD j tf0 = t.fields[j] := by
     intro e9;have := hp9 e9;exact ⟨by omega, by rw [List.getD_eq_getElem?_getD, List.getElem?_eq_getElem (by omega)]; rfl⟩
    generalize hX : chkT k m ps[j] = X at *;generalize hB : accB ps[j] (dfl0 (t.fields.getD j tf0)) = B at *;simp only [List.map_cons, List.map_nil, List.cons_append, List.nil_append] at hc;rw [encT_eq] at hc c290;simp only [go_sem, hx, hd, hwl, Int.toNat_natCast, List.length_map, Nat.reduceAdd, Nat.reduceEqDiff, Nat.reduceBEq, Nat.reduceLeDiff, reduceCtorEq, ↓reduceIte];refine ⟨by omega, wn hc ?_⟩;refine zz1 ?_;apply ik <;> intro h
    ·rw [if_pos h] at hinv;subst hinv;exact zz1 trivial
    rw [if_neg (by rw [h]; exact Bool.false_ne_true)] at hinv;obtain ⟨w1, w2, w3⟩ := hok (by simpa using h);clear h hok
    try refine zz1 ?_
    refine scQ_pure ((t.fields.getD j tf0).need == 3) (fun h => ?_) ?_
    ·obtain ⟨hjf, hgd⟩ := hfd (by simpa using h);have hx2 := nth_encG hjf;simp only [go_sem, hgd, hx2, Int.toNat_natCast, List.length_map, Nat.reduceAdd, Nat.reduceEqDiff, Nat.reduceBEq, Nat.reduceLeDiff, reduceCtorEq, ↓reduceIte];omega
    refine zz1 ?_;refine scQ_pure (!B) (fun h => ?_) ?_
    ·simp only [Bool.and_eq_true, beq_iff_eq] at h;obtain ⟨hjf, hgd⟩ := hfd h.1;have hx2 := nth_encG hjf;have hn3 := h.2;rw [hgd] at hn3;have hl1 := (fld_ok (o8 j hjf)).2.2.2.1 hn3;have h0 : 0 < t.fields[j].dflt.length := by omega
     have hx3 := nth_encV h0;have hc2 := c290 w1;rw [hgd] at hc2;have hdf : dfl0 t.fields[j] = t.fields[j].dflt[0] := by rw [dfl0, List.getElem?_eq_getElem h0]; rfl
     rw [hdf, encV_eq] at hc2;simp only [go_sem, hx2, hx3, Int.toNat_natCast, Int.toNat_zero, List.length_map, Nat.reduceAdd, Nat.reduceEqDiff, Nat.reduceBEq, Nat.reduceLeDiff, reduceCtorEq, ↓reduceIte];refine ⟨by omega, by omega, ⟨by omega, by omega⟩, wn hc2 ?_⟩;exact zz1 trivial
    refine zz1 ?_;apply ik <;> intro h
    ·rw [if_pos h] at hinv;subst hinv;exact zz1 trivial
    rw [if_neg (by rw [h]; exact Bool.false_ne_true)] at hinv;clear h;refine ⟨ps.length - (j + 1), _, by omega, Wk.less ?_, j + 1, X.2, by omega, rfl, w3, by omega, hinv, rfl⟩;exact zz18 trivial
   ·have hd : decide ((j : Int) < (ps.length : Int)) = false := by simp; omega
    rw [List.drop_eq_nil_of_le (by omega), chkPs] at hinv;subst hinv;exact zz5 trivial
end Go.Proofs
namespace Go.Proofs
open Go Av
open Av.Y
def asg358 : Ic := S
def body358 : Ic := D (.block 1<|R (ol 8 3<|oi 9 .add 8 1<|os 3 9<|N) [2,3,5,6,7,8,9]) [2,3,5,6,7,8,9]
noncomputable def ir358 : Ic := q (R (ox 1 0<|oz 2 0<|N) [0])<|q (.reg (oN 3 [.int .i64 0]<|on (.sto none (t 3) (i 0))<|N))<|q (q (R (oL 4 6 1<|cl 5 87 [t 4]<|N) [1,4])<|D (.block 0<|D (.rng (t 5) 11 17 #[6,7] (subC (codeOf Tryz.f358) [1,1,0,1,0,0]) (subC (codeOf Tryz.f358) [1,1,0,1,0,1]) asg358 body358) [2,5]) [2,5])<|q (R (ol 10 3<|om 2 10<|N) [3,10])<|.ret
theorem ok358 : FT 358 11 ir358 [.tmp 2] := .o Tryz.func358
end Go.Proofs
namespace Go.Proofs
open Go Av
variable {c : Dat} {n : Int}
def sizF : Nat → Val → Nat
 | 0, _ => 0
 | k + 1, v => 1 + ((partsV v).map (sizF k)).sum
theorem sz_parts (v : Val) : szVs (partsV v) + 1 ≤ szV v := by
 have e := szV_eq v;unfold partsV;split
 ·omega
 split
 ·rw [← szFs_map]; omega
 ·simp only [szVs]; omega
theorem sum_sz {f : Val → Nat} (hf : ∀ v, f v ≤ szV v) : ∀ l : List Val, (l.map f).sum ≤ szVs l
 | [] => by simp
 | v :: r => by
  have := hf v;have := sum_sz hf r;simp only [List.map_cons, List.sum_cons, szVs];omega
theorem sizF_le : ∀ (k : Nat) (v : Val), sizF k v ≤ szV v
 | 0, v => Nat.zero_le _
 | k + 1, v => by
  have := sum_sz (sizF_le k) (partsV v);have := sz_parts v;rw [sizF];omega
noncomputable def lpS (tm : List (Nat × Av)) (s : LoopState) (j : Option Code) : Lp := ⟨tm, 11, #[6, 7], subC (codeOf Tryz.f358) [1, 1, 0, 1, 0, 0], subC (codeOf Tryz.f358) [1, 1, 0, 1, 0, 1], s, j⟩
def tmS (c : Dat) : List (Nat × Av) := [(2, .d (.int .i64 0)), (3, .ref 1003 0), (5, .d c)]
noncomputable abbrev TS (c : Dat) (n : Int) : List (Nat × Av.Obj) := [(1000, .lp (lpS (tmS c) .ready none)), (1003, .box [.d (.int .i64 n)])]
theorem closedS (c : Dat) (n : Int) : closed (get (TS c n)) := by
 refine closed_of ?_;simp [TS, closedH, objIn, idsInL, idsIn, idsInT, tmS, lpS, Av.get]
theorem closedSu (c : Dat) (n m : Int) : closed (hputs (get (TS c n)) (TS c m)) := by
 refine closed_puts ?_;simp [TS, puts, put, closedH, objIn, idsInL, idsIn, idsInT, tmS, lpS, Av.get]
theorem TS_dom {i : Nat} (h : (get (TS c n) i).isSome = true) : i = 1000 ∨ i = 1003 := by
 simp only [TS, Av.get] at h;split at h
 ·rename_i e; exact .inl e.symm
 ·split at h
  ·rename_i e; exact .inr e.symm
  ·cases h
theorem TSu_dom {m : Int} {i : Nat} (h : (hputs (get (TS c n)) (TS c m) i).isSome = true) : i = 1000 ∨ i = 1003 := by
 simp only [TS, hputs, upd] at h;split at h
 ·exact .inr (by assumption)
 ·split at h
  ·exact .inl (by assumption)
  ·exact TS_dom h
theorem round358 (c : Dat) (n level : Int) (v : Val) (h0 : 0 ≤ n) (h1 : n ≤ 1000000000000) :
  RCon Tryz.prog 1000 [.d (.int .i64 level), .d (encV v)] (TS c n) (.d (.bool true)) (TS c (n + 1)) := by
 refine RCon.of_code (asg := asg358) (body := body358) rfl rfl kR kR rfl (show ∀ p ∈ [6, 7], p < 11 by decide) (closedSu c n _) ?_;have hw : IntKind.i64.wrap (n + 1) = n + 1 := wrap64 oM oM;generalize hD : (fun i => (get (TS c n) i).isSome = true) = D;generalize hK : RoundEnds 1000 (TS c n) D (.d (.bool true)) _ = K;have leaf : K .normal ⟨[], [(1000, .lp (lpS (tmS c) .busy none)), (1003, .box [.d (.int .i64 (n + 1))])]⟩ := by
  rw [← hK, ← hD];refine ⟨_, _, rfl, rfl, ⟨[], [(1000, .lp (lpS (tmS c) .ready none)), (1003, .box [.d (.int .i64 (n + 1))])]⟩, Wk.less ?_, ?_⟩
  ·simp [put, tmS, lpS, go_sem]
  ·intro i o h;rw [← h, ← get_puts];simp [puts, put]
 clear hK hD;simp only [TS, lpS, tmS, asg358, body358, hw, go_sem, simprocAttr];exact ⟨_, rfl, rfl, leaf⟩
theorem yield358 (c : Dat) (n level : Int) (v : Val) (h0 : 0 ≤ n) (h1 : n ≤ 1000000000000) :
  CT .yld [.mp 1000, .d (.int .i64 level), .d (encV v)] ((TS c n).map fun x => (x.1, some x.2)) (.d (.bool true)) (TS c (n + 1)) := by
 have := (round358 c n level v h0 h1).call (fun i => i) ⟨_, rfl⟩ (fun i j _ _ h => h) (by simp [idsIn]) (closedS c n) [] (by simp [Av.get]) (closedSu c n _) trivial;simp only [TS, List.map_cons, List.map_nil] at this;simp only [TS, List.map_cons, List.map_nil, Obj.ren, Av.ren, renL, ren_id_dat, lpS, tmS, renT, List.append_nil] at this ⊢;exact this
theorem call181s {level m : Int} {v : Val} (h : KT 181 [.d (encV v), .d (.int .i64 level), .mp 1000] (TS c n) (.d (.bool true)) (TS c m)) :
  CT 181 [.d (encV v), .d (.int .i64 level), .mp 1000] ((TS c n).map fun x => (x.1, some x.2)) (.d (.bool true)) (TS c m) := by
 have := h.call (fun i => i) (fun i hi => by rcases TS_dom hi with rfl | rfl <;> decide) (fun i j _ _ h => h) (by simp [idsIn, Av.get]) (closedS c n) [] (by simp [Av.get]) (closedSu c n _) trivial;simp only [TS, List.map_cons, List.map_nil] at this;simp only [TS, List.map_cons, List.map_nil, Obj.ren, Av.ren, renL, ren_id_dat, lpS, tmS, renT, List.append_nil] at this ⊢;exact this
theorem visit358 (c : Dat) : ∀ (k : Nat) (level n : Int) (v : Val), szV v ≤ k → 0 ≤ level → level + k ≤ 1000000000000 → 0 ≤ n → n + szV v ≤ 1000000000000 →
  KT 181 [.d (encV v), .d (.int .i64 level), .mp 1000] (TS c n) (.d (.bool true)) (TS c (n + sizF k v))
 | 0, level, n, v, h, _, _, _, _ => by have := szV_eq v; omega
 | k + 1, level, n, v, h, hl, hlk, h0, h1 => by
  refine Con.of_fits ok181.has fun hfit => ?_
  obtain ⟨_, f2, f3, _⟩ := fits_V (hfit (encV v) sP);have hps := sz_parts v;generalize hF : n + (sizF (k + 1) v : Int) = F;rw [sizF] at hF;refine ok181.co (k := false) (closedSu c n _) trivial ?_;have hy := yield358 c n level v h0 oM;have h217 := (walk241 v f3).call trivial;have hpl := partsV_len v f2 f3;rw [encV_eq] at hy h217 ⊢;simp only [TS, go_sem, ir181, simprocAttr];refine wn hy ?_;refine zz19 ?_;refine wc h217 ?_;clear h217 hy hfit;generalize hP : partsV v = ps at *;simp only [List.length_map];refine wpc_loop (fun r s => ∃ (j : Nat) (m : Int), j ≤ ps.length ∧ r = ps.length - j ∧ 0 ≤ m ∧ m + szVs (ps.drop j) ≤ 1000000000000 ∧ m + (((ps.drop j).map (sizF k)).sum : Nat) = F ∧
   s = ⟨[(1, .d (.int .i64 level)), (2, .mp 1000), (15, .d (.list 6 (ps.map encV))), (16, .d (.int .i64 ps.length)), (17, .d (.int .i64 j))],
    [(1000, .lp (lpS (tmS c) .ready none)), (1003, .box [.d (.int .i64 m)])]⟩) ?_ ?_
  ·refine ⟨_, _, Wk.less ?_, 0, n + 1, Nat.zero_le _, rfl, oM, by rw [List.drop_zero]; omega, by rw [← hF, List.drop_zero]; push_cast; omega, rfl⟩;simp [go_sem, lpS, tmS]
  ·rintro r s ⟨j, m, hj, rfl, hm0, hm1, hinv, rfl⟩;by_cases hlt : j < ps.length
   ·have hx' := nth_encV hlt;have hd := dT hlt;have hw : IntKind.i64.wrap (level + 1) = level + 1 := wrap64 oM oM;rw [List.drop_eq_getElem_cons hlt, szVs] at hm1;rw [List.drop_eq_getElem_cons hlt, List.map_cons, List.sum_cons] at hinv;have hmem : szV ps[j] ≤ k := by
     have : szV ps[j] ≤ szVs ps := szVs_mem (List.getElem_mem hlt);omega
    have hc := call181s (visit358 c k (level + 1) m ps[j] hmem oM (by push_cast at hlk; omega) hm0 (by push_cast at hm1; omega));have hle := sizF_le k ps[j];generalize sizF k ps[j] = V at *;rw [encV_eq] at hc;refine zz38 ?_;refine ⟨oM, wn hc ?_⟩;refine zz19 ?_;refine ⟨ps.length - (j + 1), _, oM, Wk.less ?_, j + 1, m + V, oM, rfl, oM, by push_cast at hm1; omega, by rw [← hinv]; push_cast; omega, rfl⟩;simp [go_sem, wrap64s j oM, lpS, tmS]
   ·have hd := dF hlt;obtain rfl : j = ps.length := oM;rw [List.drop_length] at hinv;simp only [List.map_nil, List.sum_nil] at hinv;obtain rfl : m = F := oM;exact zz5 trivial
theorem walk180s (v : Val) (c : Dat) (hv : szV v ≤ 1000000) : KT 180 [.mp 1000, .d (.ptr (encV v).cells)] (TS c 0) (.tup []) (TS c (0 + sizF (szV v) v)) := by
 refine ok180.co (k := false) (closedSu c 0 _) trivial ?_;have hc := call181s (visit358 c (szV v) 1 0 v (Nat.le_refl _) dC oM dC oM);generalize sizF (szV v) v = V at *;rw [encV_eq] at hc ⊢;simp only [TS, go_sem, ir180, simprocAttr];refine wc hc trivial
noncomputable def lp358 (c : Dat) : Av.Obj := .lp ⟨[(2, .d (.int .i64 0)), (3, .ref 3 0), (5, .d c)], 11, #[6, 7], subC (codeOf Tryz.f358) [1, 1, 0, 1, 0, 0], subC (codeOf Tryz.f358) [1, 1, 0, 1, 0, 1], .ready, none⟩
theorem call180s (v : Val) (c : Dat) (hv : szV v ≤ 1000000) :
  CT 180 [.mp 17, .d (.ptr (encV v).cells)] [(17, some (lp358 c)), (3, some (.box [.d (.int .i64 0)]))] (.tup []) [(17, lp358 c), (3, .box [.d (.int .i64 (0 + sizF (szV v) v))])] := by
 have := (walk180s v c hv).call (fun i => if i = 1000 then 17 else i - 1000) (fun i hi => by rcases TS_dom hi with rfl | rfl <;> decide)
  (fun i j hi hj h => by rcases TSu_dom hi with rfl | rfl <;> rcases TSu_dom hj with rfl | rfl <;> first | rfl | simp at h) (by simp [idsIn, Av.get]) (closedS c 0) [] (by simp [Av.get]) (closedSu c 0 _) trivial
 simp only [TS, List.map_cons, List.map_nil] at this;simp only [Obj.ren, Av.ren, renL, lpS, tmS, renT, List.append_nil, Nat.reduceSub, simprocAttr] at this;exact this
theorem walk358 (v : Val) (hv : szV v ≤ 1000000) : PT 358 [encV v] (.d (.int .i64 (sizF (szV v) v))) := by
 refine ok358.pc ?_;have h91 := (walk87 v).call trivial;have h180 := call180s v (.fn (.func 180) [] [.ptr (encV v).cells]) hv;rw [Int.zero_add] at h180;generalize sizF (szV v) v = V at *;rw [encV_eq] at h91 h180 ⊢;simp only [go_sem, ir358, simprocAttr];refine wc h91 ?_;refine wpc_rng rfl rfl ok180.has h180 ⟨rfl, rfl, trivial⟩ rfl sP (.inl ⟨rfl, ?_⟩);exact zz trivial
end Go.Proofs
namespace Go.Proofs
open Go Av
abbrev w64 (n : Int) : Int := IntKind.i64.wrap n
def szD (g : TFl) : Int := (sizF (szV (dfl0 g)) (dfl0 g) : Nat)
def lsR (f : Typ → Int) : Int → List TFl → Int
 | n, [] => n
 | n, g :: r => lsR f (if g.need = 1 then w64 (n + f g.type) else if g.need = 3 then w64 (n + szD g) else n) r
def lsB (f : Typ → Int) (t : Typ) : Int :=
 if t.kind = 8 then (if decide (t.min > 0) = true then w64 (1 + w64 (t.min * f ((t.elem[0]?).getD ty0))) else 1)
 else if t.kind = 10 then w64 (1 + f ((t.fields[0]?).getD tf0).type)
 else if t.kind = 9 then lsR f 1 t.fields else 1
def lsF : Nat → Typ → Int
 | 0, _ => 0
 | k + 1, t => if 4097 < lsB (lsF k) t then 4097 else lsB (lsF k) t
theorem walk291 : ∀ (k : Nat) (t : Typ), szT t ≤ k → vTy t → PT 291 [encT t] (.d (.int .i64 (lsF k t)))
 | 0, t, h, _ => by rw [szT_eq] at h; omega
 | k + 1, t, h, ht => by
  refine PCon.of_fits ok291.has fun hfit => ?_
  obtain ⟨hw, he, hf⟩ := fits_T (hfit (encT t) sP);have e := szT_eq t;obtain ⟨t1, t2, t3, t4, t5, t6⟩ := (vT_eq t).1 ht;refine ok291.pc ?_;generalize hR : lsF (k + 1) t = R;rw [lsF] at hR;have cE : ∀ x ∈ t.elem, CT 291 [.d (encT x)] [] (.d (.int .i64 (lsF k x))) [] := fun x hx => (walk291 k x (by have := szTs_mem x hx; omega) (vTs_mem t5 x hx)).call trivial
  have cG : ∀ g ∈ t.fields, CT 291 [.d (encT g.type)] [] (.d (.int .i64 (lsF k g.type))) [] := fun g hg => (walk291 k g.type (by have := szGs_mem g hg; omega) (vTf_mem t6 g hg).2.2).call trivial
  have hD := fun g (hg : g ∈ t.fields) => (vTf_mem t6 g hg).1
  generalize hB : lsB (lsF k) t = B at *;unfold lsB at hB;rw [encT_eq];have hks : t.kind = 8 ∨ t.kind = 9 ∨ t.kind = 10 ∨ (t.kind ≠ 8 ∧ t.kind ≠ 9 ∧ t.kind ≠ 10) := oM;rcases hks with hk | hk | hk | ⟨k8, k9, k10⟩
  ·rw [if_pos hk] at hB;have hl := t2 hk;have h0 : 0 < t.elem.length := oM;have hx := nth_encT h0;rw [List.getElem?_eq_getElem h0, Option.getD_some] at hB;have c := cE t.elem[0] (List.getElem_mem h0);generalize lsF k t.elem[0] = X at *;rw [encT_eq] at c;simp only [go_sem, ir291, hk, hx, Int.reduceBEq, Int.toNat_zero, List.length_map, Nat.reduceAdd, Nat.reduceEqDiff, Nat.reduceBEq, Nat.reduceLeDiff, reduceCtorEq, ↓reduceIte];refine ⟨fun h => ?_, fun h => ?_⟩
   ·rw [if_pos h] at hB;subst hB;subst hR;refine ⟨oM, wpsL_call rfl c trivial ?_⟩;refine zz ?_;decide
   ·rw [if_neg (nF h)] at hB;subst hB;subst hR
    try refine zz ?_
    exact zf
  ·rw [if_neg oM, if_neg oM, if_pos hk] at hB;have e8 : (t.kind == 8) = false := by rw [hk]; rfl
   have e9 : (t.kind == 9) = true := by rw [hk]; rfl
   have e10 : (t.kind == 10) = false := by rw [hk]; rfl
   simp only [go_sem, ir291, e8, e9, e10, List.length_map, Nat.reduceAdd, Nat.reduceEqDiff, Nat.reduceBEq, Nat.reduceLeDiff, reduceCtorEq, ↓reduceIte];refine wpc_loop (fun n s => ∃ (j : Nat) (m : Int), j ≤ t.fields.length ∧ n = t.fields.length - j ∧ lsR (lsF k) m (t.fields.drop j) = B ∧
    s = ⟨[(3, .d (.int .i64 m)), (36, .d (.list 11 (t.fields.map encG))), (37, .d (.int .i64 t.fields.length)), (38, .d (.int .i64 j))], []⟩) ?_ ?_
   ·refine ⟨_, _, Wk.less ?_, 0, 1, Nat.zero_le _, rfl, hB, rfl⟩;simp [put, go_sem]
   ·clear hB;rintro n s ⟨j, m, hj, rfl, hinv, rfl⟩;by_cases hlt : j < t.fields.length
    ·have hx := nth_encG hlt;have hd := dT hlt;have hmem := List.getElem_mem hlt;rw [List.drop_eq_getElem_cons hlt, lsR] at hinv;have c := cG t.fields[j] hmem;have hd3 := hD t.fields[j] hmem;generalize t.fields[j] = g at *;generalize lsF k g.type = X at *;rw [encT_eq] at c;refine zz6 ?_;refine ⟨oM, ⟨fun h => ?_, fun h => ⟨fun h2 => ?_, fun h2 => ?_⟩⟩⟩
     ·rw [if_pos (sX h)] at hinv;refine wc c ?_;refine ⟨t.fields.length - (j + 1), _, oM, Wk.less ?_, j + 1, _, oM, rfl, hinv, rfl⟩;exact zz18 trivial
     ·rw [if_neg (sX h), if_pos (sX h2)] at hinv;obtain ⟨q1, q2⟩ := hd3 (sX h2);have h0 : 0 < g.dflt.length := oM;have hx3 := nth_encV h0;have hdf : dfl0 g = g.dflt[0] := by rw [dfl0, List.getElem?_eq_getElem h0]; rfl
      have hsz := (chkV_sz (q2 _ (List.getElem_mem h0))).1;have cs := (walk358 g.dflt[0] oM).call trivial;unfold szD at hinv;rw [hdf] at hinv;rw [encV_eq] at cs;simp only [go_sem, hx3, Int.toNat_zero, List.length_map, Nat.reduceAdd, Nat.reduceEqDiff, Nat.reduceBEq, Nat.reduceLeDiff, reduceCtorEq, ↓reduceIte];refine ⟨oM, wn cs ?_⟩;refine zz ?_;refine ⟨t.fields.length - (j + 1), _, oM, Wk.less ?_, j + 1, _, oM, rfl, hinv, rfl⟩;exact zz18 trivial
     ·rw [if_neg (sX h), if_neg (sX h2)] at hinv
      try refine zz ?_
      refine ⟨t.fields.length - (j + 1), _, oM, Wk.less ?_, j + 1, _, oM, rfl, hinv, rfl⟩;exact zz18 trivial
    ·have hd := dF hlt;rw [List.drop_eq_nil_of_le oM, lsR] at hinv;subst hinv;subst hR;exact zz5 trivial
  ·rw [if_neg oM, if_pos hk] at hB;have hne := t3 hk;have h0 : 0 < t.fields.length := List.length_pos_iff.2 hne;have hx := nth_encG h0;rw [List.getElem?_eq_getElem h0, Option.getD_some] at hB;have c := cG t.fields[0] (List.getElem_mem h0);generalize lsF k t.fields[0].type = X at *;rw [encT_eq] at c;have e8 : (t.kind == 8) = false := by rw [hk]; rfl
   have e10 : (t.kind == 10) = true := by rw [hk]; rfl
   simp only [go_sem, ir291, e8, e10, hx, Int.toNat_zero, List.length_map, Nat.reduceAdd, Nat.reduceEqDiff, Nat.reduceBEq, Nat.reduceLeDiff, reduceCtorEq, ↓reduceIte];subst hB;subst hR;refine ⟨⟨oM, oM⟩, wn c ?_⟩;exact zz trivial
  ·rw [if_neg k8, if_neg k10, if_neg k9] at hB;have e8 : (t.kind == 8) = false := sX k8;have e9 : (t.kind == 9) = false := sX k9;have e10 : (t.kind == 10) = false := sX k10;subst hB;subst hR;simp only [go_sem, ir291, e8, e9, e10, Nat.reduceAdd, Nat.reduceEqDiff, Nat.reduceBEq, Nat.reduceLeDiff, reduceCtorEq, ↓reduceIte]
   try rfl
def gsR (f : Typ → Int) : Int → List Typ → Int
 | n, [] => n
 | n, x :: r => gsR f (if f x > n then f x else n) r
def gsF : Nat → Typ → Int
 | 0, _ => 0
 | k + 1, t => gsR (gsF k) (gsR (gsF k) (lsF (szT t) t) t.elem) (t.fields.map TFl.type)
theorem walk212 : ∀ (k : Nat) (t : Typ), szT t ≤ k → vTy t → PT 212 [encT t] (.d (.int .i64 (gsF k t)))
 | 0, t, h, _ => by rw [szT_eq] at h; omega
 | k + 1, t, h, ht => by
  refine PCon.of_fits ok212.has fun hfit => ?_
  obtain ⟨hw, he, hf⟩ := fits_T (hfit (encT t) sP);have e := szT_eq t;obtain ⟨t1, t2, t3, t4, t5, t6⟩ := (vT_eq t).1 ht;refine ok212.pc ?_;generalize hR : gsF (k + 1) t = R;rw [gsF] at hR;have c0 := (walk291 (szT t) t (Nat.le_refl _) ht).call trivial;have cE : ∀ x ∈ t.elem, CT 212 [.d (encT x)] [] (.d (.int .i64 (gsF k x))) [] := fun x hx => (walk212 k x (by have := szTs_mem x hx; omega) (vTs_mem t5 x hx)).call trivial
  have cG : ∀ g ∈ t.fields, CT 212 [.d (encT g.type)] [] (.d (.int .i64 (gsF k g.type))) [] := fun g hg => (walk212 k g.type (by have := szGs_mem g hg; omega) (vTf_mem t6 g hg).2.2).call trivial
  generalize lsF (szT t) t = L at *;rw [encT_eq] at c0;rw [encT_eq];simp only [go_sem, ir212, List.length_map, simprocAttr];refine wn c0 ?_;refine zz4 ?_;refine wpc_loop (fun n s => ∃ (j : Nat) (m : Int), j ≤ t.elem.length ∧ n = t.elem.length - j ∧ gsR (gsF k) (gsR (gsF k) m (t.elem.drop j)) (t.fields.map TFl.type) = R ∧
   s = ⟨[(1, .ref 1 0), (3, .d (.int .i64 m)), (11, .d (.list 7 (t.elem.map encT))), (12, .d (.int .i64 t.elem.length)), (13, .d (.int .i64 j))], [(1, .box [.d (.int .i64 t.kind), .d (.int .i64 t.min), .d (.int .i64 t.max), .d (.int .i64 t.scale), .d (.list 1 (t.words.map .str)), .d (.list 7 (t.elem.map encT)), .d (.list 11 (t.fields.map encG))])]⟩) ?_ ?_
  ·exact ⟨_, _, Wk.refl _, 0, L, Nat.zero_le _, rfl, hR, rfl⟩
  ·clear hR c0;rintro n s ⟨j, m, hj, rfl, hinv, rfl⟩;by_cases hlt : j < t.elem.length
   ·have hx := nth_encT hlt;have hd := dT hlt;rw [List.drop_eq_getElem_cons hlt, gsR] at hinv;have c := cE t.elem[j] (List.getElem_mem hlt);generalize gsF k t.elem[j] = X at *;rw [encT_eq] at c;refine zz6 ?_;refine ⟨oM, wn c ?_⟩;refine zz ?_;refine ⟨t.elem.length - (j + 1), _, oM, Wk.less ?_, j + 1, _, oM, rfl, hinv, rfl⟩;exact zz18 trivial
   ·have hd := dF hlt;rw [List.drop_eq_nil_of_le oM, gsR] at hinv;refine zz22 ?_;refine wpc_loop (fun n s => ∃ (j : Nat) (m : Int), j ≤ t.fields.length ∧ n = t.fields.length - j ∧ gsR (gsF k) m ((t.fields.drop j).map TFl.type) = R ∧
     s = ⟨[(3, .d (.int .i64 m)), (23, .d (.list 11 (t.fields.map encG))), (24, .d (.int .i64 t.fields.length)), (25, .d (.int .i64 j))], []⟩) ?_ ?_
    ·refine ⟨_, _, Wk.less ?_, 0, m, Nat.zero_le _, rfl, hinv, rfl⟩;simp [put, go_sem]
    ·clear hinv;rintro n s ⟨j, m, hj, rfl, hinv, rfl⟩;by_cases hlt : j < t.fields.length
     ·have hx := nth_encG hlt;have hd := dT hlt;rw [List.drop_eq_getElem_cons hlt, List.map_cons, gsR] at hinv;have c := cG t.fields[j] (List.getElem_mem hlt);generalize gsF k t.fields[j].type = X at *;rw [encT_eq] at c;refine zz6 ?_;refine ⟨oM, wn c ?_⟩;refine zz ?_;refine ⟨t.fields.length - (j + 1), _, oM, Wk.less ?_, j + 1, _, oM, rfl, hinv, rfl⟩;exact zz18 trivial
     ·have hd := dF hlt;rw [List.drop_eq_nil_of_le oM, List.map_nil, gsR] at hinv;subst hinv;exact zz5 trivial
def chkY (t : Typ) : Int := if ((chkT 8 4096 t).1 != 0) = true then (chkT 8 4096 t).1 else if decide (gsF (szT t) t > 4096) = true then 9 else 0
theorem chkY_ok {t : Typ} (h : chkY t = 0) : vTy t ∧ szT t ≤ 4096 := by
 unfold chkY at h;split at h
 ·rename_i h1; rw [h] at h1; cases h1
 ·rename_i h1;obtain ⟨a, b, c⟩ := chkT_ok 8 4096 t dC (sX h1);exact ⟨a, oM⟩
theorem walk117 (t : Typ) : PT 117 [encT t] (.d (.int .i64 (chkY t))) := by
 refine ok117.pc ?_;have hc := (walk211 8 4096 t dC dC dC).cnt (ds := [encT t, .int .i64 1]) 3;have hok := chkT_ok 8 4096 t dC;have hg := fun h => (walk212 (szT t) t (Nat.le_refl _) h).call trivial
 generalize hR : chkY t = R;unfold chkY at hR;generalize chkT 8 4096 t = X at *;generalize gsF (szT t) t = G at *;simp only [List.map_cons, List.map_nil, List.cons_append, List.nil_append] at hc;rw [encT_eq] at hc hg;rw [encT_eq];simp only [go_sem, ir117, simprocAttr];refine wc hc ?_;apply ik <;> intro h
 ·rw [if_pos h] at hR;subst hR;exact zz trivial
 rw [if_neg (nF h)] at hR;obtain ⟨a, b, c⟩ := hok (sX h);clear h
 try refine zz ?_
 refine wc (hg a) ?_;apply ik <;> intro h
 ·rw [if_pos h] at hR;subst hR;rfl
 ·rw [if_neg (nF h)] at hR;subst hR;rfl
def numK (k : Int) : Bool := k == 2 || k == 3
theorem walk213 (k : Int) : PT 213 [.int .i64 k] (.d (.bool (numK k))) := by
 refine ok213.pc ?_;simp only [go_sem, ir213, simprocAttr];refine sq (k == 3) ?_ ?_
 all_goals simp only [go_sem, numK, simprocAttr]
def akin (a b : Int) : Bool := a == b || (numK a && numK b)
theorem walk118 (a b : Int) : PT 118 [.int .i64 a, .int .i64 b] (.d (.bool (akin a b))) := by
 refine ok118.pc ?_;have c1 := (walk213 a).call trivial;have c2 := (walk213 b).call trivial;simp only [go_sem, ir118, simprocAttr];refine sq (numK a && numK b) ?_ ?_
 ·refine zz ?_;refine wc c1 ?_;refine sq (numK b) ?_ ?_
  ·refine zz ?_;refine wc c2 trivial
  all_goals simp only [go_sem, simprocAttr]
 all_goals simp only [go_sem, akin, simprocAttr]
def btwn (n : Int) (t : Typ) : Bool := decide (n ≥ t.min) && decide (n ≤ t.max)
theorem walk129 (n : Int) (t : Typ) : PT 129 [.int .i64 n, encT t] (.d (.bool (btwn n t))) := by
 refine ok129.pc ?_;rw [encT_eq];simp only [go_sem, ir129, simprocAttr];refine sq (decide (n ≤ t.max)) ?_ ?_
 all_goals simp only [go_sem, btwn, simprocAttr]
def widr (o t : Typ) : Bool := decide (o.min ≥ t.min) && decide (o.max ≤ t.max)
theorem walk121 (o t : Typ) : PT 121 [encT o, encT t] (.d (.bool (widr o t))) := by
 refine ok121.pc ?_;rw [encT_eq o, encT_eq t];simp only [go_sem, ir121, simprocAttr];refine sq (decide (o.max ≤ t.max)) ?_ ?_
 all_goals simp only [go_sem, widr, simprocAttr]
def upS : Nat → Int → Option Int
 | 0, n => some n
 | k + 1, n => if (decide (w64 (n * 10) > 999999999999999) || decide (w64 (n * 10) < -999999999999999)) = true then none else upS k (w64 (n * 10))
def dnS : Nat → Int → Option Int
 | 0, n => some n
 | k + 1, n => if (n.tmod 10 != 0) = true then none else dnS k (w64 (n.tdiv 10))
def rsO (n a b : Int) : Option Int := (upS (b - a).toNat n).bind (dnS (a - b).toNat)
def oI : Option Int → Int × Bool
 | none => (0, false)
 | some n => (n, true)
theorem walk128 (n a b : Int) (ha : 0 ≤ a ∧ a ≤ 12) (hb : 0 ≤ b ∧ b ≤ 12) :
  PT 128 [.int .i64 n, .int .i64 a, .int .i64 b] (.tup [.d (.int .i64 (oI (rsO n a b)).1), .d (.bool (oI (rsO n a b)).2)]) := by
 refine ok128.pcon (Nat.le_of_ble_eq_true rfl) (by simp [inTR, idsIn, idsInL])  ?_;generalize hR : oI (rsO n a b) = R;unfold rsO at hR;simp only [go_sem, ir128, simprocAttr];refine wpc_loop (fun k s => ∃ (f m : Int), a ≤ f ∧ (f ≤ b ∨ f = a) ∧ k = (b - f).toNat ∧ (upS (b - a).toNat n) = upS (b - f).toNat m ∧
  s = ⟨[(0, .d (.int .i64 m)), (1, .d (.int .i64 f)), (2, .d (.int .i64 b))], []⟩) ?_ ?_
 ·exact ⟨_, _, Wk.refl _, a, n, oM, Or.inr rfl, rfl, rfl, rfl⟩
 ·rintro k s ⟨f, m, h1, h2, rfl, hinv, rfl⟩;by_cases hlt : f < b
  ·have hd : decide (f < b) = true := sX hlt;refine zz5 ?_;have eb : (b - f).toNat = (b - (f + 1)).toNat + 1 := oM;rw [eb, upS] at hinv;have hw : IntKind.i64.wrap (f + 1) = f + 1 := wrap64 oM oM;refine sq (decide (w64 (m * 10) < -999999999999999)) ?_ ?_
   ·exact zz trivial
   refine zz ?_;apply ik <;> intro h
   ·rw [if_pos h] at hinv;rw [hinv] at hR;subst hR;rfl
   ·rw [if_neg (nF h)] at hinv;refine ⟨(b - (f + 1)).toNat, _, oM, Wk.refl _, f + 1, _, oM, oM, rfl, hinv, ?_⟩;rw [hw]
  ·have hd : decide (f < b) = false := sX hlt;refine zz5 ?_;have e0 : (b - f).toNat = 0 := oM;rw [e0, upS] at hinv;rw [hinv, Option.bind_some] at hR;have e1 : (a - b).toNat = (f - b).toNat := oM;rw [e1] at hR;clear hinv e1;refine wpc_loop (fun k s => ∃ (g p : Int), b ≤ g ∧ g ≤ 12 ∧ k = (g - b).toNat ∧ oI (dnS (g - b).toNat p) = R ∧
    s = ⟨[(0, .d (.int .i64 p)), (1, .d (.int .i64 g)), (2, .d (.int .i64 b))], []⟩) ?_ ?_
   ·exact ⟨_, _, Wk.refl _, f, m, oM, oM, rfl, hR, rfl⟩
   ·rintro k s ⟨g, p, g1, g2, rfl, hinv, rfl⟩;by_cases hg : b < g
    ·have hd : decide (g > b) = true := sX hg;refine zz5 ?_;have eb : (g - b).toNat = (g - 1 - b).toNat + 1 := oM;rw [eb, dnS] at hinv;have hw : IntKind.i64.wrap (g - 1) = g - 1 := wrap64 oM oM;refine ⟨dC, fun h => ?_, fun h => ⟨dC, ?_⟩⟩
     ·rw [if_pos h] at hinv;subst hinv;rfl
     ·rw [if_neg (nF h)] at hinv;refine ⟨(g - 1 - b).toNat, _, oM, Wk.refl _, g - 1, _, oM, oM, rfl, hinv, ?_⟩;rw [hw]
    ·have hd : decide (g > b) = false := sX hg;refine zz5 ?_;have e0 : (g - b).toNat = 0 := oM;rw [e0, dnS, oI] at hinv;subst hinv;rfl
def numG (n : Int) (g : TFl) : Bool := g.number == n
theorem walk222 (g : TFl) (n : Int) : PT 222 [encG g, .ptr [.int .i64 n]] (.d (.bool (numG n g))) := by
 refine ok222.pc ?_;rw [encG_eq];simp only [go_sem, ir222, numG, Nat.reduceAdd, Nat.reduceEqDiff, Nat.reduceBEq, Nat.reduceLeDiff, reduceCtorEq, ↓reduceIte];decide
def samF (l : List TFl) (n : Int) : TFl × Bool := match l.findIdx? (numG n) with
 | some k => ((l[k]?).getD tf0, true)
 | none => (tf0, false)
theorem walk132 (l : List TFl) (n : Int) : PT 132 [.list 11 (l.map encG), .int .i64 n] (.tup [.d (encG (samF l n).1), .d (.bool (samF l n).2)]) := by
 refine PCon.of_fits ok132.has fun hfit => ?_
 have hl : l.length ≤ 68719476736 := by have := (hfit (.list 11 (l.map encG)) sP); simpa using this.1
 refine ok132.pc ?_;have cu := CallOK.clo (ds := [.list 11 (l.map encG)]) (ix203 (q := numG n) l (fun g _ => walk222 g n) hl) rfl 3;simp only [List.map_cons, List.map_nil, List.cons_append, List.nil_append] at cu;cases e : l.findIdx? (numG n) with
 | none =>
  have e1 : ixG (numG n) l = -1 := by simp only [ixG, e]
  have e2 : samF l n = (tf0, false) := by simp only [samF, e]
  rw [e1] at cu;rw [e2];refine zz52 ?_;refine wn cu ?_;have hd : decide ((-1 : Int) < 0) = true := rfl;refine zz22 ?_;exact zf
 | some k =>
  obtain ⟨hk, _, _⟩ := List.findIdx?_eq_some_iff_getElem.1 e;have e1 : ixG (numG n) l = k := by simp only [ixG, e]
  have e2 : samF l n = (l[k], true) := by simp only [samF, e, List.getElem?_eq_getElem hk, Option.getD_some]
  rw [e1] at cu;rw [e2];have hx := nth_encG hk;rw [encG_eq l[k]];have hd : decide ((k : Int) < 0) = false := sP;refine zz52 ?_;refine wn cu ?_;simp only [go_sem, hd, hx, Int.toNat_natCast, List.length_map, simprocAttr];omega
def varV (n : Str) (x : Val) : Val := .mk 10 0 0 n [x] []
theorem walk133 (n : Str) (x : Val) : PT 133 [.str n, encV x] (.d (encV (varV n x))) := by
 refine ok133.pc ?_;have e : encV (varV n x) = .agg [.int .i64 10, .int .i64 0, .int .i64 0, .str n, .list 6 [encV x], .list 7 []] := (encV_eq _).trans rfl;have c : CT (.fn 54) [.d (.agg [.int .i64 10, .int .i64 0, .int .i64 0, .str n, .list 6 [encV x], .nil 7])] [] (.d (encV (varV n x))) [] := by
  refine CallOK.canon ?_;have := (p54 (varV n x)).call trivial;rw [e] at this ⊢;simpa only [List.map_cons, List.map_nil, Av.canon, Dat.canon, canonL, canon_encV] using this
 rw [e] at c ⊢;rw [encV_eq x] at c ⊢;simp only [go_sem, ir133, simprocAttr];refine ⟨fun y hy => by rw [List.mem_singleton.1 hy]; rfl, ?_⟩;refine wc c trivial
def nbrs (o t : Typ) : Bool := (((((oI (rsO o.min o.scale t.scale)).2 && (oI (rsO o.max o.scale t.scale)).2) && btwn (oI (rsO o.min o.scale t.scale)).1 t) && btwn (oI (rsO o.max o.scale t.scale)).1 t)) && (decide (t.scale ≥ o.scale) || o.min == o.max)
theorem walk119 (o t : Typ) (ho : 0 ≤ o.scale ∧ o.scale ≤ 12) (ht : 0 ≤ t.scale ∧ t.scale ≤ 12) : PT 119 [encT o, encT t] (.d (.bool (nbrs o t))) := by
 refine ok119.pc ?_;have c1 := (walk128 o.min o.scale t.scale ho ht).call (by simp [pureR]);have c2 := (walk128 o.max o.scale t.scale ho ht).call (by simp [pureR]);unfold nbrs;generalize oI (rsO o.min o.scale t.scale) = A at *;generalize oI (rsO o.max o.scale t.scale) = B at *;have c3 := (walk129 A.1 t).call trivial;have c4 := (walk129 B.1 t).call trivial;rw [encT_eq t] at c3 c4;generalize btwn A.1 t = C at *;generalize btwn B.1 t = D at *;rw [encT_eq o, encT_eq t];simp only [go_sem, ir119, simprocAttr];refine wc c1 ?_;refine wc c2 ?_;refine scQ_pure B.2 (fun _ => ?_) ?_
 ·exact zz trivial
 refine zz ?_;refine scQ_pure C (fun _ => ?_) ?_
 ·refine zz ?_;refine wc c3 trivial
 refine zz ?_;refine scQ_pure D (fun _ => ?_) ?_
 ·refine zz ?_;refine wc c4 trivial
 refine zz ?_;refine sq (decide (t.scale ≥ o.scale) || o.min == o.max) ?_ ?_
 ·refine zz ?_;refine sq (o.min == o.max) ?_ ?_
  ·exact zz trivial
  exact zz trivial
 exact zz trivial
end Go.Proofs
set_option maxHeartbeats 2000000
namespace Go.Proofs
open Go Av
abbrev rVB (r : Val × Bool) : Av := .tup [.d (encV r.1), .d (.bool r.2)]
theorem akin_self {a b : Int} (h : akin a b = true) (hb : b ≠ 2) (hb3 : b ≠ 3) : a = b := by
 unfold akin numK at h;rw [Bool.or_eq_true, Bool.and_eq_true] at h;rcases h with h | ⟨_, h⟩
 ·exact of_decide_eq_true h
 ·rw [Bool.or_eq_true] at h;rcases h with h | h
  ·exact absurd (of_decide_eq_true h) hb
  ·exact absurd (of_decide_eq_true h) hb3
def upgS (up : Typ → Typ → Val → Val × Bool) (upR : Typ → Typ → Val → Val × Bool) (o t : Typ) (v : Val) : Val × Bool :=
 if (!akin o.kind t.kind) = true then (zeroV, false)
 else if t.kind = 2 ∨ t.kind = 3 then (.mk t.kind (oI (rsO v.int o.scale t.scale)).1 t.scale [] [] [], (oI (rsO v.int o.scale t.scale)).2 && btwn (oI (rsO v.int o.scale t.scale)).1 t)
 else if t.kind = 6 ∨ t.kind = 7 then (v, btwn v.int t)
 else if t.kind = 5 then (v, btwn v.text.length t)
 else if t.kind = 4 then (if decide (((t.words.length : Nat) : Int) > 0) = true then (v, decide (v.text ∈ t.words)) else (v, btwn v.text.length t))
 else if t.kind = 8 then (if (v.list.all fun x => (up ((o.elem[0]?).getD ty0) ((t.elem[0]?).getD ty0) x).2) = true then
   (.mk 8 0 0 [] (v.list.map fun x => (up ((o.elem[0]?).getD ty0) ((t.elem[0]?).getD ty0) x).1) [], btwn v.list.length t) else (zeroV, false))
 else if t.kind = 9 then upR o t v
 else if t.kind = 10 then (if (samF t.fields (fldR o v.text).1.number).2 = true then
   (varV (samF t.fields (fldR o v.text).1.number).1.name (up (fldR o v.text).1.type (samF t.fields (fldR o v.text).1.number).1.type ((v.list[0]?).getD zeroV)).1,
    (up (fldR o v.text).1.type (samF t.fields (fldR o v.text).1.number).1.type ((v.list[0]?).getD zeroV)).2) else (zeroV, false))
 else (v, true)
theorem samF_mem {l : List TFl} {n : Int} (h : (samF l n).2 = true) : (samF l n).1 ∈ l := by
 unfold samF at h ⊢;cases e : l.findIdx? (numG n) with
 | none => rw [e] at h; cases h
 | some k =>
  obtain ⟨hk, _, _⟩ := List.findIdx?_eq_some_iff_getElem.1 e;simp only [List.getElem?_eq_getElem hk, Option.getD_some];exact List.getElem_mem hk
theorem encV_mk (k i s : Int) (t : Str) (l : List Val) (f : List Fld) : encV (.mk k i s t l f) = .agg [.int .i64 k, .int .i64 i, .int .i64 s, .str t, .list 6 (l.map encV), .list 7 (f.map encF)] := (encV_eq _).trans rfl
theorem step53 (up upR : Typ → Typ → Val → Val × Bool) (o t : Typ) (v : Val) (ho : 0 ≤ o.scale ∧ o.scale ≤ 12) (ht : 0 ≤ t.scale ∧ t.scale ≤ 12)
    (o8 : o.kind = 8 → o.elem.length = 1) (t8 : o.kind = 8 → t.kind = 8 → t.elem.length = 1)
    (h8 : o.kind = 8 → t.kind = 8 → ∀ a ∈ o.elem, ∀ b ∈ t.elem, ∀ x ∈ v.list, PCon Tryz.prog 53 [encT a, encT b, encV x] (rVB (up a b x)))
    (h9 : o.kind = 9 → t.kind = 9 → PCon Tryz.prog 130 [encT o, encT t, encV v] (rVB (upR o t v)))
    (h10 : o.kind = 10 → t.kind = 10 → v.list ≠ [] ∧ ∀ g ∈ t.fields, ∀ x ∈ v.list, PCon Tryz.prog 53 [encT (fldR o v.text).1.type, encT g.type, encV x] (rVB (up (fldR o v.text).1.type g.type x))) :
    PCon Tryz.prog 53 [encT o, encT t, encV v] (rVB (upgS up upR o t v)) := by
  refine PCon.of_fits ok53.has fun hfit => ?_
  obtain ⟨hw, he, hf⟩ := fits_T (hfit (encT t) (by simp))
  obtain ⟨v1, v2, v3⟩ := fits_V3 (hfit (encV v) (by simp))
  refine ok53.pcon (Nat.le_of_ble_eq_true rfl) (by simp [inTR, idsIn, idsInL]) ?_
  have ca := (walk118 o.kind t.kind).call trivial
  generalize hR : upgS up upR o t v = R
  unfold rVB
  unfold upgS at hR
  rw [encT_eq o, encT_eq t, encV_eq v]
  simp only [go_sem, ir53, List.length_map, Nat.reduceAdd, Nat.reduceEqDiff, Nat.reduceBEq, Nat.reduceLeDiff, reduceCtorEq, ↓reduceIte]
  refine wps_call rfl ca trivial ?_
  simp only [go_sem, Int.reduceBEq, List.length_map, Nat.reduceAdd, Nat.reduceEqDiff, Nat.reduceBEq, Nat.reduceLeDiff, reduceCtorEq, ↓reduceIte]
  refine ⟨fun h => ?_, fun h => ?_⟩
  · rw [if_pos h] at hR
    subst hR
    rfl
  rw [if_neg (by rw [h]; exact Bool.false_ne_true)] at hR
  have hak : akin o.kind t.kind = true := by simpa using h
  clear h ca
  have cb := fun n => (walk129 n t).call trivial
  rw [encT_eq t] at cb
  have c99 := (walk99 t.words v.text hw).call trivial
  have hks : t.kind = 2 ∨ t.kind = 3 ∨ t.kind = 4 ∨ t.kind = 5 ∨ t.kind = 6 ∨ t.kind = 7 ∨ t.kind = 8 ∨ t.kind = 9 ∨ t.kind = 10 ∨ (t.kind ≠ 2 ∧ t.kind ≠ 3 ∧ t.kind ≠ 4 ∧ t.kind ≠ 5 ∧ t.kind ≠ 6 ∧ t.kind ≠ 7 ∧ t.kind ≠ 8 ∧ t.kind ≠ 9 ∧ t.kind ≠ 10) := by omega
  rcases hks with hk | hk | hk | hk | hk | hk | hk | hk | hk | hk
  rotate_left 9
  · obtain ⟨k2, k3, k4, k5, k6, k7, k8, k9, k10⟩ := hk
    simp only [k2, k3, k4, k5, k6, k7, k8, k9, k10, or_self, ↓reduceIte] at hR
    subst hR
    have e2 : (t.kind == 2) = false := by simpa using k2
    have e3 : (t.kind == 3) = false := by simpa using k3
    have e4 : (t.kind == 4) = false := by simpa using k4
    have e5 : (t.kind == 5) = false := by simpa using k5
    have e6 : (t.kind == 6) = false := by simpa using k6
    have e7 : (t.kind == 7) = false := by simpa using k7
    have e8 : (t.kind == 8) = false := by simpa using k8
    have e9 : (t.kind == 9) = false := by simpa using k9
    have e10 : (t.kind == 10) = false := by simpa using k10
    simp only [go_sem, e2, e3, e4, e5, e6, e7, e8, e9, e10, List.length_map, Nat.reduceAdd, Nat.reduceEqDiff, Nat.reduceBEq, Nat.reduceLeDiff, reduceCtorEq, ↓reduceIte]
    rw [encV_eq v]
  all_goals
    simp only [hk, Int.reduceEq, or_false, or_true, false_or, true_or, or_self, ↓reduceIte] at hR
    simp only [hk] at cb
    simp only [go_sem, hk, Int.reduceBEq, List.length_map, Nat.reduceAdd, Nat.reduceEqDiff, Nat.reduceBEq, Nat.reduceLeDiff, reduceCtorEq, ↓reduceIte]
  · have c1 := (walk128 v.int o.scale t.scale ho ht).call (by simp [pureR])
    generalize oI (rsO v.int o.scale t.scale) = A at *
    subst hR
    simp only [encV_mk]
    refine wps_call rfl c1 trivial ?_
    simp only [go_sem, Int.reduceBEq, List.length_map, Nat.reduceAdd, Nat.reduceEqDiff, Nat.reduceBEq, Nat.reduceLeDiff, reduceCtorEq, ↓reduceIte]
    refine ⟨btwn A.1 t, _, [([], []), ([4], []), ([], [])], rfl, fun _ => wpsL_call rfl (cb A.1) trivial ?_, fun _ => rfl, ?_⟩
    · simp only [go_sem, Int.reduceBEq, List.length_map, Nat.reduceAdd, Nat.reduceEqDiff, Nat.reduceBEq, Nat.reduceLeDiff, reduceCtorEq, ↓reduceIte]
    simp only [go_sem, List.map_nil, Nat.reduceAdd, Nat.reduceEqDiff, Nat.reduceBEq, Nat.reduceLeDiff, reduceCtorEq, ↓reduceIte]
    decide
  · have c1 := (walk128 v.int o.scale t.scale ho ht).call (by simp [pureR])
    generalize oI (rsO v.int o.scale t.scale) = A at *
    subst hR
    simp only [encV_mk]
    refine wps_call rfl c1 trivial ?_
    simp only [go_sem, Int.reduceBEq, List.length_map, Nat.reduceAdd, Nat.reduceEqDiff, Nat.reduceBEq, Nat.reduceLeDiff, reduceCtorEq, ↓reduceIte]
    refine ⟨btwn A.1 t, _, [([], []), ([4], []), ([], [])], rfl, fun _ => wpsL_call rfl (cb A.1) trivial ?_, fun _ => rfl, ?_⟩
    · simp only [go_sem, Int.reduceBEq, List.length_map, Nat.reduceAdd, Nat.reduceEqDiff, Nat.reduceBEq, Nat.reduceLeDiff, reduceCtorEq, ↓reduceIte]
    simp only [go_sem, List.map_nil, Nat.reduceAdd, Nat.reduceEqDiff, Nat.reduceBEq, Nat.reduceLeDiff, reduceCtorEq, ↓reduceIte]
    decide
  · refine ⟨fun h => ?_, fun h => ?_⟩
    · rw [if_pos h] at hR
      subst hR
      simp only [encV_eq v]
      refine wpsL_call rfl c99 trivial ?_
      simp only [go_sem, Int.reduceBEq, List.length_map, Nat.reduceAdd, Nat.reduceEqDiff, Nat.reduceBEq, Nat.reduceLeDiff, reduceCtorEq, ↓reduceIte]
      try decide
    · rw [if_neg (by rw [h]; exact Bool.false_ne_true)] at hR
      subst hR
      simp only [encV_eq v]
      refine wpsL_call rfl (cb _) trivial ?_
      simp only [go_sem, Int.reduceBEq, List.length_map, Nat.reduceAdd, Nat.reduceEqDiff, Nat.reduceBEq, Nat.reduceLeDiff, reduceCtorEq, ↓reduceIte]
      try decide
  · subst hR
    simp only [encV_eq v]
    refine wpsL_call rfl (cb v.text.length) trivial ?_
    simp only [go_sem, Int.reduceBEq, List.length_map, Nat.reduceAdd, Nat.reduceEqDiff, Nat.reduceBEq, Nat.reduceLeDiff, reduceCtorEq, ↓reduceIte]
    try decide
  · subst hR
    simp only [encV_eq v]
    refine wpsL_call rfl (cb v.int) trivial ?_
    simp only [go_sem, Int.reduceBEq, List.length_map, Nat.reduceAdd, Nat.reduceEqDiff, Nat.reduceBEq, Nat.reduceLeDiff, reduceCtorEq, ↓reduceIte]
    try decide
  · subst hR
    simp only [encV_eq v]
    refine wpsL_call rfl (cb v.int) trivial ?_
    simp only [go_sem, Int.reduceBEq, List.length_map, Nat.reduceAdd, Nat.reduceEqDiff, Nat.reduceBEq, Nat.reduceLeDiff, reduceCtorEq, ↓reduceIte]
    try decide
  · have hok : o.kind = 8 := akin_self (hk ▸ hak) (by decide) (by decide)
    obtain ⟨a, ha⟩ : ∃ a, o.elem = [a] := List.length_eq_one_iff.1 (o8 hok)
    obtain ⟨b, hb⟩ : ∃ b, t.elem = [b] := List.length_eq_one_iff.1 (t8 hok hk)
    have hcx := fun x hx => (h8 hok hk a (by rw [ha]; exact List.mem_singleton.2 rfl) b (by rw [hb]; exact List.mem_singleton.2 rfl) x hx).call (by simp [pureR])
    have e0 : (o.elem[0]?).getD ty0 = a := by simp [ha]
    have e1 : (t.elem[0]?).getD ty0 = b := by simp [hb]
    have xa : nth (o.elem.map encT) 0 = encT a := by rw [ha]; rfl
    have xb : nth (t.elem.map encT) 0 = encT b := by rw [hb]; rfl
    have la : o.elem.length = 1 := o8 hok
    have lb : t.elem.length = 1 := t8 hok hk
    rw [e0, e1] at hR
    rw [encT_eq a] at xa hcx
    rw [encT_eq b] at xb hcx
    clear e0 e1 ha hb
    refine wpc_loop (fun n s => ∃ k : Nat, k ≤ v.list.length ∧ n = v.list.length - k ∧ ((v.list.take k).all fun x => (up a b x).2) = true ∧
      s = ⟨[(3, .ref 3 0), (4, .ref 4 0), (5, .ref 5 0), (6, .ref 6 0), (10, .ref 10 0), (92, .d (.list 6 (v.list.map encV))), (93, .d (.int .i64 v.list.length)), (94, .d (.int .i64 k))],
        [(3, .box [.d (.int .i64 o.kind), .d (.int .i64 o.min), .d (.int .i64 o.max), .d (.int .i64 o.scale), .d (.list 1 (o.words.map .str)), .d (.list 7 (o.elem.map encT)), .d (.list 11 (o.fields.map encG))]), (4, .box [.d (.int .i64 8), .d (.int .i64 t.min), .d (.int .i64 t.max), .d (.int .i64 t.scale), .d (.list 1 (t.words.map .str)), .d (.list 7 (t.elem.map encT)), .d (.list 11 (t.fields.map encG))]), (5, .box [.d (.int .i64 v.kind), .d (.int .i64 v.int), .d (.int .i64 v.scale), .d (.str v.text), .d (.list 6 (v.list.map encV)), .d (.list 7 (v.fields.map encF))]), (6, .box [.d (.int .i64 0), .d (.int .i64 0), .d (.int .i64 0), .d (.str []), .d (.nil 6), .d (.nil 7)]),
         (10, .box [.d (.int .i64 8), .d (.int .i64 0), .d (.int .i64 0), .d (.str []), .ms 200 k, .d (.nil 7)]), (200, .row k 6 (((v.list.take k).map fun x => (up a b x).1).map encV))]⟩) ?_ ?_
    · refine ⟨_, _, (Wk.nilB 10 4 200 6 _ rfl rfl rfl (by decide)).trans (Wk.less ?_), 0, Nat.zero_le _, rfl, rfl, rfl⟩
      simp [put, go_sem]
    · rintro n s ⟨k, hkl, rfl, hinv, rfl⟩
      by_cases hlt : k < v.list.length
      · have hx := nth_encV hlt
        have hd : decide ((k : Int) < (v.list.length : Int)) = true := by simp; omega
        have c := hcx v.list[k] (List.getElem_mem hlt)
        have hmem := List.getElem_mem hlt
        have htk := List.take_succ_eq_append_getElem hlt
        generalize v.list[k] = x at *
        simp only [rVB] at c
        generalize hY : up a b x = Y at *
        rw [encV_eq x, encV_eq Y.1] at c
        simp only [go_sem, hx, hd, xa, xb, la, lb, Int.toNat_natCast, Int.toNat_zero, List.length_map, Nat.reduceAdd, Nat.reduceEqDiff, Nat.reduceBEq, Nat.reduceLeDiff, reduceCtorEq, ↓reduceIte]
        refine ⟨⟨by omega, by omega⟩, ⟨by decide, by decide⟩, ⟨by decide, by decide⟩, wpsL_call rfl c trivial ?_⟩
        simp only [go_sem, Int.reduceBEq, List.length_map, Nat.reduceAdd, Nat.reduceEqDiff, Nat.reduceBEq, Nat.reduceLeDiff, reduceCtorEq, ↓reduceIte]
        refine ⟨by decide, fun h => ?_, fun h => ⟨fun y hy => by rw [List.mem_singleton.1 hy]; rfl, by simp; omega, v.list.length - (k + 1), _, by omega, Wk.less ?_, k + 1, by omega, rfl, ?_, rfl⟩⟩
        · have hn : ¬ (v.list.all fun x => (up a b x).2) = true := by
            intro hall
            have := List.all_eq_true.1 hall x hmem
            simp only [hY] at this
            rw [this] at h
            cases h
          rw [if_neg hn] at hR
          subst hR
          rfl
        · rw [htk, List.map_append, List.map_append]
          simp only [go_sem, wrap64s k (by omega), hY, List.map_cons, List.map_nil, encV_eq Y.1, Nat.reduceAdd, Nat.reduceEqDiff, Nat.reduceBEq, Nat.reduceLeDiff, reduceCtorEq, ↓reduceIte]
        · rw [htk, List.all_append, hinv, List.all_cons, hY]
          simpa using h
      · have hd : decide ((k : Int) < (v.list.length : Int)) = false := by simp; omega
        obtain rfl : k = v.list.length := by omega
        rw [List.take_length] at hinv
        rw [if_pos hinv] at hR
        subst hR
        simp only [encV_mk]
        simp only [go_sem, hd, List.take_length, List.length_map, Nat.reduceAdd, Nat.reduceEqDiff, Nat.reduceBEq, Nat.reduceLeDiff, reduceCtorEq, ↓reduceIte]
        refine wpsL_call rfl (cb _) trivial ?_
        simp only [go_sem, Int.reduceBEq, List.length_map, Nat.reduceAdd, Nat.reduceEqDiff, Nat.reduceBEq, Nat.reduceLeDiff, reduceCtorEq, ↓reduceIte]
        try rw [canonL_vals]
        try (refine ⟨by decide, ?_⟩)
        try rw [canonL_vals]
        try rfl
  · have hok : o.kind = 9 := akin_self (hk ▸ hak) (by decide) (by decide)
    have c := (h9 hok hk).call (by simp [pureR])
    rw [hR] at c
    clear hR
    rw [encT_eq o, encT_eq t, encV_eq v, hk] at c
    simp only [rVB] at c
    rw [encV_eq R.1] at c ⊢
    refine wps_call rfl c trivial ?_
    simp only [go_sem, Int.reduceBEq, List.length_map, Nat.reduceAdd, Nat.reduceEqDiff, Nat.reduceBEq, Nat.reduceLeDiff, reduceCtorEq, ↓reduceIte]
  · have hok : o.kind = 10 := akin_self (hk ▸ hak) (by decide) (by decide)
    obtain ⟨hv, hcx⟩ := h10 hok hk
    have c1 := (walk131 o v.text).call (by simp [pureR])
    have c2 := (walk132 t.fields (fldR o v.text).1.number).call (by simp [pureR])
    have hsm := @samF_mem t.fields (fldR o v.text).1.number
    generalize fldR o v.text = F at *
    generalize samF t.fields F.1.number = G at *
    have hl : 0 < v.list.length := List.length_pos_iff.2 hv
    have hx := nth_encV hl
    rw [List.getElem?_eq_getElem hl, Option.getD_some] at hR
    have hc3 := fun h => (hcx G.1 (hsm h) v.list[0] (List.getElem_mem hl)).call (by simp [pureR])
    generalize v.list[0] = x at *
    have c4 := (walk133 G.1.name (up F.1.type G.1.type x).1).call trivial
    generalize up F.1.type G.1.type x = Y at *
    rw [encT_eq o, encG_eq F.1] at c1
    rw [encG_eq G.1] at c2
    simp only [rVB] at hc3
    have hx2 := hx
    rw [encT_eq F.1.type, encT_eq G.1.type, encV_eq x, encV_eq Y.1] at hc3
    rw [encV_eq Y.1] at c4
    refine wps_call rfl c1 trivial ?_
    simp only [go_sem, Int.reduceBEq, List.length_map, Nat.reduceAdd, Nat.reduceEqDiff, Nat.reduceBEq, Nat.reduceLeDiff, reduceCtorEq, ↓reduceIte]
    refine wps_call rfl c2 trivial ?_
    simp only [go_sem, Int.reduceBEq, List.length_map, Nat.reduceAdd, Nat.reduceEqDiff, Nat.reduceBEq, Nat.reduceLeDiff, reduceCtorEq, ↓reduceIte]
    refine ⟨fun h => ?_, fun h => ?_⟩
    · rw [if_neg (by simpa using h)] at hR
      subst hR
      rfl
    have hg : G.2 = true := by simpa using h
    rw [if_pos hg] at hR
    subst hR
    have c3 := hc3 hg
    simp only [go_sem, hx2, Int.toNat_zero, List.length_map, Nat.reduceAdd, Nat.reduceEqDiff, Nat.reduceBEq, Nat.reduceLeDiff, reduceCtorEq, ↓reduceIte]
    refine ⟨⟨by decide, by omega⟩, wpsL_call rfl c3 trivial ?_⟩
    simp only [go_sem, Int.reduceBEq, List.length_map, Nat.reduceAdd, Nat.reduceEqDiff, Nat.reduceBEq, Nat.reduceLeDiff, reduceCtorEq, ↓reduceIte]
    refine ⟨by decide, wps_call rfl c4 trivial ?_⟩
    rw [encV_eq (varV _ _)]
    simp only [go_sem, Int.reduceBEq, List.length_map, Nat.reduceAdd, Nat.reduceEqDiff, Nat.reduceBEq, Nat.reduceLeDiff, reduceCtorEq, ↓reduceIte]
end Go.Proofs
set_option maxHeartbeats 2000000
namespace Go.Proofs
open Go Av
def Rec0 : Prop := ∀ l : List Fld, l.length ≤ 4096 → ∃ r : Val, PT 37 [.list 7 (l.map encF)] (.d (encV r))
open Classical in
noncomputable def rcV (l : List Fld) : Val := if h : ∃ r : Val, PT 37 [.list 7 (l.map encF)] (.d (encV r)) then h.choose else zeroV
theorem rcV_ok (hr : Rec0) {l : List Fld} (h : l.length ≤ 4096) : PT 37 [.list 7 (l.map encF)] (.d (encV (rcV l))) := by
 unfold rcV;rw [dif_pos (hr l h)];exact (hr l h).choose_spec
def upF (up : Typ → Typ → Val → Val × Bool) (o : Typ) (v : Val) : List Fld → List TFl → Option (List Fld)
 | acc, [] => some acc
 | acc, g :: r =>
  if ((samF o.fields g.number).2 && (fieldR v (samF o.fields g.number).1.name).2) = true then
   (if (!(up (samF o.fields g.number).1.type g.type (fieldR v (samF o.fields g.number).1.name).1).2) = true then none
    else upF up o v (acc ++ [.mk g.name (up (samF o.fields g.number).1.type g.type (fieldR v (samF o.fields g.number).1.name).1).1]) r)
  else if (g.need == 1) = true then none
  else if (g.need == 3) = true then upF up o v (acc ++ [.mk g.name (dfl0 g)]) r
  else upF up o v acc r
noncomputable def upgR (up : Typ → Typ → Val → Val × Bool) (o t : Typ) (v : Val) : Val × Bool := match upF up o v [] t.fields with
 | none => (zeroV, false)
 | some l => (rcV l, true)
theorem encF_mk (n : Str) (x : Val) : encF (.mk n x) = .agg [.str n, .int .i64 x.kind, .int .i64 x.int, .int .i64 x.scale, .str x.text, .list 6 (x.list.map encV), .list 7 (x.fields.map encF)] := (encF_eq _).trans rfl
theorem step130 (hr : Rec0) (up : Typ → Typ → Val → Val × Bool) (o t : Typ) (v : Val) (ht : t.fields.length ≤ 4096) (hd : ∀ g ∈ t.fields, g.need = 3 → g.dflt.length = 1)
  (hc : ∀ f ∈ o.fields, ∀ g ∈ t.fields, (fieldR v f.name).2 = true → PT 53 [encT f.type, encT g.type, encV (fieldR v f.name).1] (rVB (up f.type g.type (fieldR v f.name).1))) :
  PT 130 [encT o, encT t, encV v] (rVB (upgR up o t v)) := by
 refine ok130.pc ?_;generalize hR : upgR up o t v = R;unfold upgR at hR;generalize hU : upF up o v [] t.fields = U at hR;unfold rVB;rw [encT_eq o, encT_eq t, encV_eq v];simp only [go_sem, ir130, List.length_map, Nat.reduceAdd, Nat.reduceEqDiff, Nat.reduceBEq, Nat.reduceLeDiff, reduceCtorEq, ↓reduceIte];refine wpc_loop (fun n s => ∃ (k : Nat) (acc : List Fld), k ≤ t.fields.length ∧ n = t.fields.length - k ∧ acc.length ≤ k ∧ upF up o v acc (t.fields.drop k) = U ∧
  s = ⟨[(3, .ref 3 0), (5, .ref 5 0), (6, .ref 6 0), (8, .ms 200 acc.length), (18, .d (.list 11 (t.fields.map encG))), (19, .d (.int .i64 t.fields.length)), (20, .d (.int .i64 k))],
   [(3, .box [.d (.int .i64 o.kind), .d (.int .i64 o.min), .d (.int .i64 o.max), .d (.int .i64 o.scale), .d (.list 1 (o.words.map .str)), .d (.list 7 (o.elem.map encT)), .d (.list 11 (o.fields.map encG))]), (5, .box [.d (.int .i64 v.kind), .d (.int .i64 v.int), .d (.int .i64 v.scale), .d (.str v.text), .d (.list 6 (v.list.map encV)), .d (.list 7 (v.fields.map encF))]), (6, .box [.d (.int .i64 0), .d (.int .i64 0), .d (.int .i64 0), .d (.str []), .d (.nil 6), .d (.nil 7)]),
    (200, .row acc.length 7 (acc.map encF))]⟩) ?_ ?_
 ·refine ⟨_, _, (Wk.nilT 8 200 7 rfl rfl dC).trans (Wk.less ?_), 0, [], Nat.zero_le _, rfl, Nat.le_refl _, hU, rfl⟩;simp [put, go_sem]
 ·clear hU;rintro n s ⟨k, acc, hk, rfl, hac, hinv, rfl⟩;by_cases hlt : k < t.fields.length
  ·have hx := nth_encG hlt;have hd1 : decide ((k : Int) < (t.fields.length : Int)) = true := sO;have hmem := List.getElem_mem hlt;rw [List.drop_eq_getElem_cons hlt, upF] at hinv;generalize t.fields[k] = g at *;have c1 := (walk132 o.fields g.number).call (by simp [pureR]);have hsm := @samF_mem o.fields g.number;generalize samF o.fields g.number = F at *;have c2 := (walk201 v F.1.name).call (by simp [pureR]);have hc3 := fun h1 h2 => (hc F.1 (hsm h1) g hmem h2).call (by simp [pureR])
   generalize fieldR v F.1.name = X at *;generalize up F.1.type g.type X.1 = Y at *;simp only [rVB] at hc3;rw [encG_eq F.1] at c1;rw [encV_eq v, encV_eq X.1] at c2;simp only [encT_eq F.1.type, encT_eq g.type, encV_eq X.1, encV_eq Y.1] at hc3;have hdg := hd g hmem;simp only [go_sem, hx, hd1, Int.toNat_natCast, List.length_map, Nat.reduceAdd, Nat.reduceEqDiff, Nat.reduceBEq, Nat.reduceLeDiff, reduceCtorEq, ↓reduceIte];refine ⟨⟨oM, oM⟩, wn c1 ?_⟩;refine zz1 ?_;refine wn c2 ?_;refine zz1 ?_;refine scQ_pure X.2 (fun _ => ?_) ?_
   ·exact zz1 trivial
   refine zz1 ?_;refine ⟨fun h => ?_, fun h => ?_⟩
   ·rw [if_pos h] at hinv;rw [Bool.and_eq_true] at h;have c3 := hc3 h.1 h.2;refine wn c3 ?_;refine zz1 ?_;refine ⟨fun h2 => ?_, fun h2 => ?_⟩
    ·rw [if_pos h2] at hinv;subst hinv;subst hR
     try rfl
    ·rw [if_neg (nF h2)] at hinv;refine ⟨fun y hy => by rw [List.mem_singleton.1 hy]; rfl, oM, t.fields.length - (k + 1), _, oM, Wk.less ?_, k + 1, _, oM, rfl, ?_, hinv, rfl⟩
     ·exact zz54 trivial
     ·simp; omega
   ·rw [if_neg (nF h)] at hinv;refine ⟨fun h2 => ?_, fun h2 => ?_⟩
    ·rw [if_pos h2] at hinv;subst hinv;subst hR
     try rfl
    ·rw [if_neg (nF h2)] at hinv;refine ⟨fun h3 => ?_, fun h3 => ?_⟩
     ·rw [if_pos h3] at hinv;have hl := hdg (sX h3);have hy := nth_encV (xs := g.dflt) (k := 0) oM;have h0 : 0 < g.dflt.length := oM;have hg0 : dfl0 g = g.dflt[0] := by unfold dfl0; rw [List.getElem?_eq_getElem h0, Option.getD_some]
      rw [hg0] at hinv;generalize g.dflt[0] = D at *;simp only [go_sem, hy, Int.toNat_zero, List.length_map, Nat.reduceAdd, Nat.reduceEqDiff, Nat.reduceBEq, Nat.reduceLeDiff, reduceCtorEq, ↓reduceIte];refine ⟨⟨dC, oM⟩, fun y hy => by rw [List.mem_singleton.1 hy]; rfl, oM, t.fields.length - (k + 1), _, oM, Wk.less ?_, k + 1, _, oM, rfl, ?_, hinv, rfl⟩
      ·exact zz54 trivial
      ·simp; omega
     ·rw [if_neg (nF h3)] at hinv;refine ⟨t.fields.length - (k + 1), _, oM, Wk.less ?_, k + 1, _, oM, rfl, ?_, hinv, rfl⟩
      ·exact zz7 trivial
      ·omega
  ·have hd1 : decide ((k : Int) < (t.fields.length : Int)) = false := sO;obtain rfl : k = t.fields.length := oM;rw [List.drop_length, upF] at hinv;subst hinv;subst hR;have c := PCon.callFr (i := 200) (v := acc.length) (rcV_ok hr (l := acc) oM) trivial;rw [encV_eq (rcV acc)] at c;simp only [encV_eq (rcV acc)];simp only [go_sem, hd1, List.length_map, Nat.reduceAdd, Nat.reduceEqDiff, Nat.reduceBEq, Nat.reduceLeDiff, reduceCtorEq, ↓reduceIte];refine wn c ?_;exact zz1 trivial
end Go.Proofs
set_option maxHeartbeats 2000000
namespace Go.Proofs
open Go Av
variable {ft : Typ → Val → Bool} {t : Typ} {v : Val}
noncomputable def upgF : Nat → Typ → Typ → Val → Val × Bool
 | 0, _, _, v => (v, true)
 | k + 1, o, t, v => upgS (upgF k) (upgR (upgF k)) o t v
theorem fit_kind (h : fitS ft t v = true) : v.kind = t.kind ∧ formB v = true := by
 unfold fitS at h;split at h
 ·cases h
 rename_i h1;split at h
 ·cases h
 rename_i h2;refine ⟨?_, by simpa using h2⟩;simp only [Bool.or_eq_true, not_or] at h1;simpa using h1.2
theorem form10 (h : v.kind = 10) (hf : formB v = true) : v.list.length = 1 := by
 unfold formB at hf;rw [h] at hf;simp only [Int.reduceBEq, Bool.false_eq_true, ↓reduceIte, Bool.and_eq_true, Bool.not_eq_true', bne_eq_false_iff_eq] at hf;have := hf.1;omega
theorem fit_8 {e : Typ} (h : fitS ft t v = true) (hk : t.kind = 8) (he : t.elem = [e]) : ∀ x ∈ v.list, ft e x = true := by
 obtain ⟨h1, h2⟩ := fit_kind h;unfold fitS at h;have a1 : (decide (t.kind < 1) || decide (t.kind > 10) || v.kind != t.kind) = false := by rw [h1, hk]; rfl
 rw [a1] at h;simp only [h2, hk, he, Bool.false_eq_true, Bool.true_eq_false, Int.reduceEq, or_self, ↓reduceIte, Bool.and_eq_true, List.all_eq_true, List.length_cons, List.length_nil] at h;intro x hx;simpa using h.2 x hx
theorem fit_9 (h : fitS ft t v = true) (hk : t.kind = 9) {g : TFl} (hg : g ∈ t.fields) (hx : (fieldR v g.name).2 = true) : ft g.type (fieldR v g.name).1 = true := by
 obtain ⟨h1, h2⟩ := fit_kind h;unfold fitS at h;have a1 : (decide (t.kind < 1) || decide (t.kind > 10) || v.kind != t.kind) = false := by rw [h1, hk]; rfl
 rw [a1] at h;simp only [h2, hk, Bool.false_eq_true, Bool.true_eq_false, Int.reduceEq, or_self, ↓reduceIte] at h;unfold recB at h;rw [Bool.and_eq_true, List.all_eq_true] at h;have := h.1 g hg;rw [if_pos hx] at this;exact this
theorem fit_10 (h : fitS ft t v = true) (hk : t.kind = 10) : v.list.length = 1 ∧ (fldR t v.text).2 = true ∧ ∀ x ∈ v.list, ft (fldR t v.text).1.type x = true := by
 obtain ⟨h1, h2⟩ := fit_kind h;have hl := form10 (h1.trans hk) h2;unfold fitS at h;have a1 : (decide (t.kind < 1) || decide (t.kind > 10) || v.kind != t.kind) = false := by rw [h1, hk]; rfl
 rw [a1] at h;simp only [h2, hk, Bool.false_eq_true, Bool.true_eq_false, Int.reduceEq, or_self, ↓reduceIte] at h;have e : fldR t v.text = tfR t v.text := by unfold fldR; rw [if_neg oM]
 rw [e];split at h
 ·rename_i h3;refine ⟨hl, h3, fun x hx => ?_⟩;obtain ⟨y, hy⟩ := List.length_eq_one_iff.1 hl;rw [hy] at hx h;rw [List.mem_singleton.1 hx];simpa using h
 ·cases h
theorem walk53 (hr : Rec0) : ∀ (k : Nat) (o t : Typ) (v : Val), szT o ≤ k → vTy o → vTy t → szT t ≤ 4096 → fitF k o v = true → PT 53 [encT o, encT t, encV v] (rVB (upgF k o t v))
 | 0, o, t, v, h, _, _, _, _ => by rw [szT_eq] at h; omega
 | k + 1, o, t, v, h, ho, ht, hs, hf => by
  have e := szT_eq o;have e2 := szT_eq t;rw [fitF] at hf;rw [upgF];obtain ⟨o1, o2, o3, o4, o5, o6⟩ := (vT_eq o).1 ho;obtain ⟨t1, t2, t3, t4, t5, t6⟩ := (vT_eq t).1 ht;refine step53 (upgF k) (upgR (upgF k)) o t v o4 t4 o2 (fun _ => t2) ?_ ?_ ?_
  ·intro ok tk a ha b hb x hx;obtain ⟨a', hoe⟩ : ∃ a', o.elem = [a'] := List.length_eq_one_iff.1 (o2 ok);have haa : a = a' := by rw [hoe] at ha; exact List.mem_singleton.1 ha
   subst haa;exact walk53 hr k a b x (by have := szTs_mem a ha; omega) (vTs_mem o5 a ha) (vTs_mem t5 b hb) (by have := szTs_mem b hb; omega) (fit_8 hf ok hoe x hx)
  ·intro ok tk;refine step130 hr (upgF k) o t v (by have := szGs_len t.fields; omega) (fun g hg hn => (( vTf_mem t6 g hg).1 hn).1) ?_;intro f hfm g hg hx;exact walk53 hr k f.type g.type _ (by have := szGs_mem f hfm; omega) (vTf_mem o6 f hfm).2.2 (vTf_mem t6 g hg).2.2 (by have := szGs_mem g hg; omega) (fit_9 hf ok hfm hx)
  ·intro ok tk;obtain ⟨h1, h2, h3⟩ := fit_10 hf ok;have hm := fldR_mem h2;refine ⟨(by intro hn; rw [hn] at h1; cases h1), fun g hg x hx => ?_⟩;exact walk53 hr k _ g.type x (by have := szGs_mem _ hm; omega) (vTf_mem o6 _ hm).2.2 (vTf_mem t6 g hg).2.2 (by have := szGs_mem g hg; omega) (h3 x hx)
end Go.Proofs
set_option maxHeartbeats 2000000
namespace Go.Proofs
open Go Av
variable {g : Nat} {c1 c2 : List Dat}
theorem PCon.callClo2s {P : Program} {f : Nat} {ds : List Dat} {r : Av} (h : PCon P f (ds ++ [.fn (.func g) [] [.ptr c1, .ptr c2]]) r) (hr : pureR r) (i j : Nat) (hij : i ≠ j) :
  CallOK P f (ds.map .d ++ [.clo (.func g) [] [.ref i 0, .ref j 0]]) [(i, some (.box (c1.map .d))), (j, some (.box (c2.map .d)))] r [(i, .fbox c1), (j, .fbox c2)] := by
 intro β A w H vs hT hc hvs;have hi : H i = some (.box (c1.map .d)) := hT (i, _) sP;have hj : H j = some (.box (c2.map .d)) := hT (j, _) sP;have st1 := Stp.freezeBox hc hi (allD_map c1);have hj1 : upd H i (some (.fbox c1)) j = some (.box (c2.map .d)) := by rw [upd_ne _ _ (Ne.symm hij)]; exact hj
 have st2 := Stp.freezeBox st1.core hj1 (allD_map c2);have st := st1.trans st2;have hlen : (ds.map Av.d).length = ds.length := sP;have hc' := h.call hr β _ w (upd (upd H i (some (.fbox c1))) j (some (.fbox c2))) vs sP st.core ⟨by have := hvs.1; simp at this ⊢; omega, fun k c v h1 h2 => by
  rw [List.getElem?_map] at h1;cases e : (ds ++ [Dat.fn (.func g) [] [.ptr c1, .ptr c2]])[k]? with
  | none => simp [e] at h1
  | some x =>
   simp only [e, Option.map_some, Option.some.injEq] at h1;subst h1;by_cases hk : k < ds.length
   ·rw [List.getElem?_append_left hk] at e;have := hvs.2 k (.d x) v (by rw [List.getElem?_append_left (sX hk), List.getElem?_map, e]; rfl) h2;exact st.vals _ _ this
   ·rw [List.getElem?_append_right oM] at e;have hk0 : k - ds.length = 0 := by
     rcases Nat.eq_zero_or_pos (k - ds.length) with h | h
     ·exact h
     ·rw [List.getElem?_eq_none sO] at e; cases e
    rw [hk0] at e;cases e;have := hvs.2 k (.clo (.func g) [] [.ref i 0, .ref j 0]) v (by rw [List.getElem?_append_right sO, hlen, hk0]; rfl) h2;have h3 := st.vals _ _ this;cases h3 with
    | clo _ _ _ a1 a2 l1 l2 hf hvv =>
     refine .d _ _ (.fn _ _ _ a1 a2 l1 (sX l2) (by intro j c v hj; cases hj) ?_);intro k c v hk hkv
     match k, hk with
     | 0, hk =>
      cases hk;have hrf := hvv 0 _ v rfl hkv;cases hrf with
      | ref _ _ _ _ _ hu g0 g1 g2 =>
       have := g2 c1 (by rw [upd_ne _ _ hij, upd_same]);simpa using this
     | 1, hk =>
      cases hk;have hrf := hvv 1 _ v rfl hkv;cases hrf with
      | ref _ _ _ _ _ hu g0 g1 g2 =>
       have := g2 c2 (upd_same _ _ _);simpa using this
     | k + 2, hk => cases hk⟩
 rcases hc' with ⟨a1, a2⟩ | ⟨u, w', a1, β', A', a2, a3⟩
 ·refine .inl ⟨a1, a2.mono ?_⟩;rintro e w' ⟨u, rfl, β', A', b1, b2⟩;exact ⟨u, rfl, β', A', st.trans b1, b2⟩
 ·exact .inr ⟨u, w', a1, β', A', st.trans a2, a3⟩
abbrev cloE (g : Nat) (c1 c2 : List Dat) : Dat := .fn (.func g) [] [.ptr c1, .ptr c2]
theorem ix292b {q : Str → Bool} (l : List Str) (hq : ∀ x ∈ l, PT g [.str x, .ptr c1, .ptr c2] (.d (.bool (q x)))) (hl : l.length ≤ 68719476736) :
  PT 292 [.list 1 (l.map .str), cloE g c1 c2] (.d (.int .i64 (ixS q l))) := by
 refine ok292.pc ?_;simp only [go_sem, ir292, List.length_map, simprocAttr];refine wpc_loop (fun n s => ∃ k : Nat, k ≤ l.length ∧ n = l.length - k ∧ (∀ (j : Nat) (h1 : j < l.length), j < k → q l[j] = false) ∧
  s = ⟨[(0, .d (.list 1 (l.map .str))), (1, .d (cloE g c1 c2)), (7, .d (.int .i64 l.length)), (8, .d (.int .i64 k))], []⟩) ?_ ?_
 ·exact ⟨_, _, Wk.refl _, 0, Nat.zero_le _, rfl, sP, rfl⟩
 ·rintro n s ⟨k, hk, rfl, hinv, rfl⟩;by_cases hlt : k < l.length
  ·have hx := nth_strs hlt;have hd := dT hlt;have hc := (hq l[k] (List.getElem_mem _)).call trivial;refine zz6 ?_;refine ⟨oM, dC, wn hc ?_⟩;refine zz ?_;apply ik <;> intro hf
   ·have : l.findIdx? q = some k := by
     rw [List.findIdx?_eq_some_iff_getElem];exact ⟨hlt, hf, fun j hj => by rw [hinv j oM hj]; decide⟩
    simp only [ixS, this]
   ·refine ⟨l.length - (k + 1), _, oM, Wk.less ?_, k + 1, oM, rfl, ?_, rfl⟩
    ·exact zz7 trivial
    ·intro j h1 hj;by_cases e : j = k
     ·subst e; exact hf
     ·exact hinv j h1 oM
  ·have hd := dF hlt;refine zz5 ?_;have : l.findIdx? q = none := by
    rw [List.findIdx?_eq_none_iff];intro x hx;obtain ⟨j, hj, rfl⟩ := List.getElem_of_mem hx;exact hinv j hj oM
   simp only [ixS, this]
theorem walk214b {q : Str → Bool} (l : List Str) (hq : ∀ x ∈ l, PT g [.str x, .ptr c1, .ptr c2] (.d (.bool (q x)))) (hl : l.length ≤ 68719476736) :
  PT 214 [.list 1 (l.map .str), cloE g c1 c2] (.d (.bool (l.any q))) := by
 refine ok214.pc ?_;have c := (ix292b l hq hl).call trivial;rw [← ixS_any];simp only [go_sem, ir214, simprocAttr];refine wc c trivial
def idU : Typ → Typ → Val → Val × Bool := fun _ _ v => (v, true)
def txU (o t : Typ) (w : Str) : Bool := (upgS idU idU o t (.mk 4 0 0 w [] [])).2
theorem walk215 (o t : Typ) (w : Str) (ho : 0 ≤ o.scale ∧ o.scale ≤ 12) (ht : 0 ≤ t.scale ∧ t.scale ≤ 12) (hk : o.kind = 4) :
  PT 215 [.str w, .ptr (encT o).cells, .ptr (encT t).cells] (.d (.bool (!txU o t w))) := by
 refine ok215.pc ?_;have c1 := (walk216 w).call trivial;have c2 := (step53 idU idU o t (.mk 4 0 0 w [] []) ho ht oM oM oM oM oM).call (by simp [pureR]);unfold txU;generalize upgS idU idU o t (.mk 4 0 0 w [] []) = Y at *;simp only [rVB] at c2;rw [encV_eq Y.1] at c2;rw [encV_mk] at c1 c2;simp only [List.map_nil] at c1 c2;rw [encT_eq o, encT_eq t] at c2;rw [encT_cells, encT_cells];simp only [go_sem, ir215, List.length_map, simprocAttr];refine wpsL_call rfl c1 trivial ?_;refine zz1 ?_;refine wpsL_call rfl c2 trivial ?_;refine zz1 ?_;decide
def txts (o t : Typ) : Bool :=
 if decide (((o.words.length : Nat) : Int) > 0) = true then !(o.words.any fun w => !txU o t w)
 else if decide (((t.words.length : Nat) : Int) > 0) = true then o.max == 0 && decide ([] ∈ t.words) else widr o t
theorem walk120 (o t : Typ) (ho : 0 ≤ o.scale ∧ o.scale ≤ 12) (ht : 0 ≤ t.scale ∧ t.scale ≤ 12) (hk : o.kind = 4) : PT 120 [encT o, encT t] (.d (.bool (txts o t))) := by
 refine PCon.of_fits ok120.has fun hfit => ?_
 obtain ⟨hw, he, hf⟩ := fits_T (hfit (encT o) sP);obtain ⟨hw2, _, _⟩ := fits_T (hfit (encT t) sP);refine ok120.pc ?_;have cu := PCon.callClo2s (ds := [.list 1 (o.words.map .str)]) (walk214b (c1 := (encT o).cells) (c2 := (encT t).cells) o.words (fun w _ => walk215 o t w ho ht hk) hw) (by simp [pureR]) 2 3 dC;have c99 := (walk99 t.words [] hw2).call trivial;have c121 := (walk121 o t).call trivial;rw [encT_cells, encT_cells] at cu;simp only [List.map_cons, List.map_nil, List.cons_append, List.nil_append] at cu;rw [encT_eq o, encT_eq t] at c121;generalize hR : txts o t = R;unfold txts at hR;rw [encT_eq o, encT_eq t];simp only [go_sem, ir120, List.length_map, simprocAttr];apply ik <;> intro h
 ·rw [if_pos h] at hR;subst hR;refine wn cu ?_;exact zz1 trivial
 rw [if_neg (nF h)] at hR;apply ik <;> intro h
 ·rw [if_pos h] at hR;subst hR;refine sq (decide ([] ∈ t.words)) ?_ ?_
  ·refine zz1 ?_;refine wn c99 ?_;exact zz1 trivial
  exact zz1 trivial
 rw [if_neg (nF h)] at hR;subst hR;refine wn c121 ?_;exact zz1 trivial
end Go.Proofs
set_option maxHeartbeats 2000000
namespace Go.Proofs
open Go Av
def keptB (c : Typ → Typ → Bool) (o : Typ) (g : TFl) : Bool :=
 if (!(samF o.fields g.number).2) = true then g.need != 1
 else c (samF o.fields g.number).1.type g.type && !(g.need == 1 && (samF o.fields g.number).1.need == 2)
def foundB (c : Typ → Typ → Bool) (f : TFl) (t : Typ) : Bool := (samF t.fields f.number).2 && c f.type (samF t.fields f.number).1.type
def cptS (c : Typ → Typ → Bool) (o t : Typ) : Bool :=
 if (!akin o.kind t.kind) = true then false
 else if t.kind = 2 ∨ t.kind = 3 then nbrs o t
 else if t.kind = 1 then true
 else if t.kind = 4 then txts o t
 else if t.kind = 8 then widr o t && (o.max == 0 || c ((o.elem[0]?).getD ty0) ((t.elem[0]?).getD ty0))
 else if t.kind = 9 then !(t.fields.any fun g => !keptB c o g)
 else if t.kind = 10 then !(o.fields.any fun f => !foundB c f t)
 else widr o t
theorem step124 (c : Typ → Typ → Bool) (o : Typ) (g : TFl) (hc : ∀ f ∈ o.fields, PT 51 [encT f.type, encT g.type] (.d (.bool (c f.type g.type)))) :
  PT 124 [encT o, encG g] (.d (.bool (keptB c o g))) := by
 refine ok124.pc ?_;have c1 := (walk132 o.fields g.number).call (by simp [pureR]);have hsm := @samF_mem o.fields g.number;generalize hR : keptB c o g = R;unfold keptB at hR;generalize samF o.fields g.number = F at *;have hc2 := fun h => (hc F.1 (hsm h)).call trivial
 generalize c F.1.type g.type = Y at *;rw [encG_eq F.1] at c1;rw [encT_eq F.1.type, encT_eq g.type] at hc2;rw [encT_eq, encG_eq];simp only [go_sem, ir124, List.length_map, simprocAttr];refine wn c1 ?_;refine zz1 ?_;apply ik <;> intro h
 ·rw [if_pos h] at hR;subst hR;rfl
 rw [if_neg (nF h)] at hR;subst hR;refine wn (hc2 (sX h)) ?_;refine zz1 ?_;refine sq (!(g.need == 1 && F.1.need == 2)) ?_ ?_
 ·refine zz1 ?_;refine sq (F.1.need == 2) ?_ ?_
  ·exact zz1 trivial
  exact zz1 trivial
 exact zz1 trivial
theorem step123 (c : Typ → Typ → Bool) (o : Typ) (g : TFl) (h : PT 124 [encT o, encG g] (.d (.bool (keptB c o g)))) :
  PT 123 [encG g, .ptr (encT o).cells] (.d (.bool (!keptB c o g))) := by
 refine ok123.pc ?_;have c1 := h.call trivial;generalize keptB c o g = R at *;rw [encT_eq, encG_eq] at c1;rw [encT_cells, encG_eq];simp only [go_sem, ir123, List.length_map, simprocAttr];refine wn c1 ?_;exact zz1 trivial
theorem step126 (c : Typ → Typ → Bool) (f : TFl) (t : Typ) (hc : ∀ g ∈ t.fields, PT 51 [encT f.type, encT g.type] (.d (.bool (c f.type g.type)))) :
  PT 126 [encG f, encT t] (.d (.bool (foundB c f t))) := by
 refine ok126.pc ?_;have c1 := (walk132 t.fields f.number).call (by simp [pureR]);have hsm := @samF_mem t.fields f.number;unfold foundB;generalize samF t.fields f.number = F at *;have hc2 := fun h => (hc F.1 (hsm h)).call trivial
 generalize c f.type F.1.type = Y at *;rw [encG_eq F.1] at c1;rw [encT_eq F.1.type, encT_eq f.type] at hc2;rw [encT_eq, encG_eq];simp only [go_sem, ir126, List.length_map, simprocAttr];refine wn c1 ?_;refine zz1 ?_;refine scQ_pure Y (fun h => ?_) ?_
 ·refine zz1 ?_;refine wn (hc2 h) ?_;exact zz1 trivial
 exact zz1 trivial
theorem step125 (c : Typ → Typ → Bool) (f : TFl) (t : Typ) (h : PT 126 [encG f, encT t] (.d (.bool (foundB c f t)))) :
  PT 125 [encG f, .ptr (encT t).cells] (.d (.bool (!foundB c f t))) := by
 refine ok125.pc ?_;have c1 := h.call trivial;generalize foundB c f t = R at *;rw [encT_eq, encG_eq] at c1;rw [encT_cells, encG_eq];simp only [go_sem, ir125, List.length_map, simprocAttr];refine wn c1 ?_;exact zz1 trivial
theorem step51 (c : Typ → Typ → Bool) (o t : Typ) (ho : 0 ≤ o.scale ∧ o.scale ≤ 12) (ht : 0 ≤ t.scale ∧ t.scale ≤ 12)
    (o8 : o.kind = 8 → o.elem.length = 1) (t8 : o.kind = 8 → t.kind = 8 → t.elem.length = 1)
    (h8 : o.kind = 8 → t.kind = 8 → ∀ a ∈ o.elem, ∀ b ∈ t.elem, PCon Tryz.prog 51 [encT a, encT b] (.d (.bool (c a b))))
    (h9 : o.kind = 9 → t.kind = 9 → ∀ g ∈ t.fields, PCon Tryz.prog 123 [encG g, .ptr (encT o).cells] (.d (.bool (!keptB c o g))))
    (h10 : o.kind = 10 → t.kind = 10 → ∀ f ∈ o.fields, PCon Tryz.prog 125 [encG f, .ptr (encT t).cells] (.d (.bool (!foundB c f t)))) :
    PCon Tryz.prog 51 [encT o, encT t] (.d (.bool (cptS c o t))) := by
  refine PCon.of_fits ok51.has fun hfit => ?_
  obtain ⟨hw, he, hf⟩ := fits_T (hfit (encT t) (by simp))
  obtain ⟨hw2, he2, hf2⟩ := fits_T (hfit (encT o) (by simp))
  refine ok51.pcon (Nat.le_of_ble_eq_true rfl) trivial ?_
  have ca := (walk118 o.kind t.kind).call trivial
  have cn := (walk119 o t ho ht).call trivial
  have cw := (walk121 o t).call trivial
  have ct := fun h => (walk120 o t ho ht h).call trivial
  generalize hR : cptS c o t = R
  unfold cptS at hR
  rw [encT_eq o, encT_eq t] at cn cw ct
  rw [encT_eq o, encT_eq t]
  simp only [go_sem, ir51, List.length_map, Nat.reduceAdd, Nat.reduceEqDiff, Nat.reduceBEq, Nat.reduceLeDiff, reduceCtorEq, ↓reduceIte]
  refine wps_call rfl ca trivial ?_
  simp only [go_sem, Int.reduceBEq, List.length_map, Nat.reduceAdd, Nat.reduceEqDiff, Nat.reduceBEq, Nat.reduceLeDiff, reduceCtorEq, ↓reduceIte]
  refine ⟨fun h => ?_, fun h => ?_⟩
  · rw [if_pos h] at hR
    subst hR
    rfl
  rw [if_neg (by rw [h]; exact Bool.false_ne_true)] at hR
  have hak : akin o.kind t.kind = true := by simpa using h
  clear h ca
  have hks : t.kind = 1 ∨ t.kind = 2 ∨ t.kind = 3 ∨ t.kind = 4 ∨ t.kind = 8 ∨ t.kind = 9 ∨ t.kind = 10 ∨ (t.kind ≠ 1 ∧ t.kind ≠ 2 ∧ t.kind ≠ 3 ∧ t.kind ≠ 4 ∧ t.kind ≠ 8 ∧ t.kind ≠ 9 ∧ t.kind ≠ 10) := by omega
  rcases hks with hk | hk | hk | hk | hk | hk | hk | hk
  rotate_left 7
  · obtain ⟨k1, k2, k3, k4, k8, k9, k10⟩ := hk
    simp only [k1, k2, k3, k4, k8, k9, k10, or_self, ↓reduceIte] at hR
    subst hR
    have e1 : (t.kind == 1) = false := by simpa using k1
    have e2 : (t.kind == 2) = false := by simpa using k2
    have e3 : (t.kind == 3) = false := by simpa using k3
    have e4 : (t.kind == 4) = false := by simpa using k4
    have e8 : (t.kind == 8) = false := by simpa using k8
    have e9 : (t.kind == 9) = false := by simpa using k9
    have e10 : (t.kind == 10) = false := by simpa using k10
    simp only [go_sem, e1, e2, e3, e4, e8, e9, e10, List.length_map, Nat.reduceAdd, Nat.reduceEqDiff, Nat.reduceBEq, Nat.reduceLeDiff, reduceCtorEq, ↓reduceIte]
    refine wps_call rfl cw trivial ?_
    simp only [go_sem, Int.reduceBEq, List.length_map, Nat.reduceAdd, Nat.reduceEqDiff, Nat.reduceBEq, Nat.reduceLeDiff, reduceCtorEq, ↓reduceIte]
  all_goals
    simp only [hk, Int.reduceEq, or_false, or_true, false_or, true_or, or_self, ↓reduceIte] at hR
    simp only [hk] at cn cw ct
    simp only [go_sem, hk, Int.reduceBEq, List.length_map, Nat.reduceAdd, Nat.reduceEqDiff, Nat.reduceBEq, Nat.reduceLeDiff, reduceCtorEq, ↓reduceIte]
  · subst hR
    try rfl
  · subst hR
    refine wps_call rfl cn trivial ?_
    simp only [go_sem, Int.reduceBEq, List.length_map, Nat.reduceAdd, Nat.reduceEqDiff, Nat.reduceBEq, Nat.reduceLeDiff, reduceCtorEq, ↓reduceIte]
  · subst hR
    refine wps_call rfl cn trivial ?_
    simp only [go_sem, Int.reduceBEq, List.length_map, Nat.reduceAdd, Nat.reduceEqDiff, Nat.reduceBEq, Nat.reduceLeDiff, reduceCtorEq, ↓reduceIte]
  · subst hR
    refine wps_call rfl (ct (akin_self (hk ▸ hak) (by decide) (by decide))) trivial ?_
    simp only [go_sem, Int.reduceBEq, List.length_map, Nat.reduceAdd, Nat.reduceEqDiff, Nat.reduceBEq, Nat.reduceLeDiff, reduceCtorEq, ↓reduceIte]
  · have hok : o.kind = 8 := akin_self (hk ▸ hak) (by decide) (by decide)
    obtain ⟨a, ha⟩ : ∃ a, o.elem = [a] := List.length_eq_one_iff.1 (o8 hok)
    obtain ⟨b, hb⟩ : ∃ b, t.elem = [b] := List.length_eq_one_iff.1 (t8 hok hk)
    have hcx := (h8 hok hk a (by rw [ha]; exact List.mem_singleton.2 rfl) b (by rw [hb]; exact List.mem_singleton.2 rfl)).call trivial
    have e0 : (o.elem[0]?).getD ty0 = a := by simp [ha]
    have e1 : (t.elem[0]?).getD ty0 = b := by simp [hb]
    have xa : nth (o.elem.map encT) 0 = encT a := by rw [ha]; rfl
    have xb : nth (t.elem.map encT) 0 = encT b := by rw [hb]; rfl
    have la : o.elem.length = 1 := o8 hok
    have lb : t.elem.length = 1 := t8 hok hk
    rw [e0, e1] at hR
    rw [encT_eq a] at xa hcx
    rw [encT_eq b] at xb hcx
    clear e0 e1 ha hb
    subst hR
    refine wps_call rfl cw trivial ?_
    simp only [go_sem, Int.reduceBEq, List.length_map, Nat.reduceAdd, Nat.reduceEqDiff, Nat.reduceBEq, Nat.reduceLeDiff, reduceCtorEq, ↓reduceIte]
    refine scQ_pure (o.max == 0 || c a b) (fun _ => ?_) ?_
    · simp only [go_sem, Int.reduceBEq, List.length_map, Nat.reduceAdd, Nat.reduceEqDiff, Nat.reduceBEq, Nat.reduceLeDiff, reduceCtorEq, ↓reduceIte]
      refine scQ_pure (c a b) (fun _ => ?_) ?_
      · simp only [go_sem, xa, xb, la, lb, Int.toNat_zero, Int.reduceBEq, List.length_map, Nat.reduceAdd, Nat.reduceEqDiff, Nat.reduceBEq, Nat.reduceLeDiff, reduceCtorEq, ↓reduceIte]
        refine ⟨⟨by decide, by decide⟩, ⟨by decide, by decide⟩, wps_call rfl hcx trivial ?_⟩
        simp only [go_sem, Int.reduceBEq, List.length_map, Nat.reduceAdd, Nat.reduceEqDiff, Nat.reduceBEq, Nat.reduceLeDiff, reduceCtorEq, ↓reduceIte]
      simp only [go_sem, Int.reduceBEq, List.length_map, Nat.reduceAdd, Nat.reduceEqDiff, Nat.reduceBEq, Nat.reduceLeDiff, reduceCtorEq, ↓reduceIte]
    simp only [go_sem, Int.reduceBEq, List.length_map, Nat.reduceAdd, Nat.reduceEqDiff, Nat.reduceBEq, Nat.reduceLeDiff, reduceCtorEq, ↓reduceIte]
  · have hok : o.kind = 9 := akin_self (hk ▸ hak) (by decide) (by decide)
    subst hR
    have cu := CallOK.clo (ds := [.list 11 (t.fields.map encG)]) (walk122 (q := fun g => !keptB c o g) t.fields (fun g hg => h9 hok hk g hg) hf) rfl 2
    rw [encT_cells] at cu
    simp only [List.map_cons, List.map_nil, List.cons_append, List.nil_append] at cu
    refine wps_call rfl cu ⟨rfl, trivial⟩ ?_
    simp only [go_sem, Int.reduceBEq, List.length_map, Nat.reduceAdd, Nat.reduceEqDiff, Nat.reduceBEq, Nat.reduceLeDiff, reduceCtorEq, ↓reduceIte]
  · have hok : o.kind = 10 := akin_self (hk ▸ hak) (by decide) (by decide)
    subst hR
    have cu := CallOK.clo (ds := [.list 11 (o.fields.map encG)]) (walk122 (q := fun f => !foundB c f t) o.fields (fun f hf => h10 hok hk f hf) hf2) rfl 3
    rw [encT_cells, hk] at cu
    simp only [List.map_cons, List.map_nil, List.cons_append, List.nil_append] at cu
    refine wps_call rfl cu ⟨rfl, trivial⟩ ?_
    simp only [go_sem, Int.reduceBEq, List.length_map, Nat.reduceAdd, Nat.reduceEqDiff, Nat.reduceBEq, Nat.reduceLeDiff, reduceCtorEq, ↓reduceIte]
def cptF : Nat → Typ → Typ → Bool
 | 0, _, _ => true
 | k + 1, o, t => cptS (cptF k) o t
theorem walk51 : ∀ (k : Nat) (o t : Typ), szT o ≤ k → vTy o → vTy t → PT 51 [encT o, encT t] (.d (.bool (cptF k o t)))
 | 0, o, t, h, _, _ => by rw [szT_eq] at h; omega
 | k + 1, o, t, h, ho, ht => by
  have e := szT_eq o;rw [cptF];obtain ⟨o1, o2, o3, o4, o5, o6⟩ := (vT_eq o).1 ho;obtain ⟨t1, t2, t3, t4, t5, t6⟩ := (vT_eq t).1 ht;refine step51 (cptF k) o t o4 t4 o2 (fun _ => t2) ?_ ?_ ?_
  ·intro ok tk a ha b hb;exact walk51 k a b (by have := szTs_mem a ha; omega) (vTs_mem o5 a ha) (vTs_mem t5 b hb)
  ·intro ok tk g hg;exact step123 _ o g (step124 _ o g fun f hf => walk51 k f.type g.type (by have := szGs_mem f hf; omega) (vTf_mem o6 f hf).2.2 (vTf_mem t6 g hg).2.2)
  ·intro ok tk f hf;exact step125 _ f t (step126 _ f t fun g hg => walk51 k f.type g.type (by have := szGs_mem f hf; omega) (vTf_mem o6 f hf).2.2 (vTf_mem t6 g hg).2.2)
def chk2 (o t : Typ) : Int := if (chkY o != 0) = true then chkY o else chkY t
theorem walk50 (o t : Typ) : PT 50 [encT o, encT t] (.d (.int .i64 (chk2 o t))) := by
 refine ok50.pc ?_;have c1 := (walk117 o).call trivial;have c2 := (walk117 t).call trivial;generalize hR : chk2 o t = R;unfold chk2 at hR;rw [encT_eq o] at c1;rw [encT_eq t] at c2;rw [encT_eq o, encT_eq t];generalize chkY o = A at *;generalize chkY t = B at *;simp only [go_sem, ir50, List.length_map, simprocAttr];refine wn c1 ?_;refine zz1 ?_;apply ik <;> intro h
 ·rw [if_pos h] at hR;subst hR
  try rfl
 rw [if_neg (nF h)] at hR;subst hR;refine wn c2 ?_;exact zz1 trivial
theorem chk2_ok {o t : Typ} (h : chk2 o t = 0) : (vTy o ∧ szT o ≤ 4096) ∧ (vTy t ∧ szT t ≤ 4096) := by
 unfold chk2 at h;split at h
 ·rename_i h1;rw [h] at h1;cases h1
 ·rename_i h1;exact ⟨chkY_ok (sX h1), chkY_ok h⟩
def cpt (o t : Typ) : Bool := chk2 o t == 0 && cptF 4096 o t
theorem walk13 (o t : Typ) : PT 13 [encT o, encT t] (.d (.bool (cpt o t))) := by
 refine ok13.pc ?_;have c1 := (walk50 o t).call trivial;have hc2 := fun h => (walk51 4096 o t (chk2_ok h).1.2 (chk2_ok h).1.1 (chk2_ok h).2.1).call trivial
 unfold cpt;generalize chk2 o t = A at *;generalize cptF 4096 o t = B at *;rw [encT_eq o, encT_eq t] at c1 hc2;rw [encT_eq o, encT_eq t];simp only [go_sem, ir13, List.length_map, simprocAttr];refine wn c1 ?_;refine zz1 ?_;refine scQ_pure B (fun h => ?_) ?_
 ·refine zz1 ?_;refine wn (hc2 (sX h)) ?_;exact zz1 trivial
 exact zz1 trivial
end Go.Proofs
set_option maxHeartbeats 2000000
namespace Go.Proofs
open Go Av
noncomputable def upgT (o t : Typ) (v : Val) : Val × Int :=
 if (chk2 o t != 0) = true then (zeroV, chk2 o t)
 else if ((cmpR 4096 o v).2 != 0) = true then (zeroV, (cmpR 4096 o v).2)
 else if (!(upgF 4096 o t (cmpR 4096 o v).1).2) = true then (zeroV, 20)
 else if (chkV (upgF 4096 o t (cmpR 4096 o v).1).1 != 0) = true then (zeroV, 9)
 else ((upgF 4096 o t (cmpR 4096 o v).1).1, 0)
theorem cmpR_fit {N : Nat} {t : Typ} {v : Val} (h : (cmpR N t v).2 = 0) : fitF N t (cmpR N t v).1 = true := by
 unfold cmpR at h ⊢;split at h
 ·rename_i h1; rw [if_pos h1]; exact h1
 ·cases h
theorem walk14 (hr : Rec0) (o t : Typ) (v : Val) (hb : bY o ≤ 60000000000) (hy : okY o) (hn : nmW v) (hv : szV v ≤ 400000000) :
  PT 14 [encT o, encT t, encV v] (.tup [.d (encV (upgT o t v).1), .d (.int .i64 (upgT o t v).2)]) := by
 refine ok14.pc ?_;have c1 := (walk50 o t).call trivial;have hc2 := fun h => (walk52 4096 o v (chk2_ok (o := o) (t := t) h).1.2 oM hb hy hn hv).call (by simp [pureR])
 have hft := @cmpR_fit 4096 o v;generalize hR : upgT o t v = R;unfold upgT at hR;generalize cmpR 4096 o v = C at *;have hc3 := fun h h2 => (walk53 hr 4096 o t C.1 (chk2_ok (o := o) (t := t) h).1.2 (chk2_ok h).1.1 (chk2_ok h).2.1 (chk2_ok h).2.2 (hft h2)).call (by simp [pureR])
 generalize upgF 4096 o t C.1 = Y at *;have c4 := (walk30 Y.1).call trivial;have c5 := (p54 Y.1).call trivial;simp only [rVB] at hc3;simp only [encT_eq o, encT_eq t, encV_eq v, encV_eq C.1, encV_eq Y.1] at c1 hc2 hc3 c4 c5;rw [encT_eq o, encT_eq t, encV_eq v, encV_eq R.1];generalize chk2 o t = A at *;simp only [go_sem, ir14, List.length_map, simprocAttr];refine wn c1 ?_;refine zz1 ?_;apply ik <;> intro h
 ·rw [if_pos h] at hR;subst hR;rfl
 rw [if_neg (nF h)] at hR;have hA : A = 0 := sX h;refine wn (hc2 hA) ?_;refine zz1 ?_;apply ik <;> intro h
 ·rw [if_pos h] at hR;subst hR;rfl
 rw [if_neg (nF h)] at hR;have hC : C.2 = 0 := sX h;refine wn (hc3 hA hC) ?_;refine zz1 ?_;apply ik <;> intro h
 ·rw [if_pos h] at hR;subst hR;rfl
 rw [if_neg (nF h)] at hR;refine wn c4 ?_;refine zz1 ?_;apply ik <;> intro h
 ·rw [if_pos h] at hR;subst hR;rfl
 rw [if_neg (nF h)] at hR;subst hR;refine wn c5 ?_;exact zz1 trivial
end Go.Proofs
namespace Go.Proofs
open Go Av
open Av.Y
def ir55 : Ic := q (R (ow 4 false<|N) [4])<|q (q (R (om 6 0<|oh 7 6<|om 8 1<|oh 9 8<|ot 10 .neq 7 9<|N) [6,7,8,9])<|D (I 10 (q (R (ow 4 false<|N) [0,1,10])<|.ret) S) [10])<|q (q (R (om 11 0<|oh 12 11<|oz 13 0<|N) [11])<|D (.block 0<|.loop (q (.reg (ot 14 .lss 13 12<|N))<|q (D (I 14 S (E 0)) [14])<|q (D (.block 1<|q (R (om 15 13<|om 5 15<|N) [15])<|q (R (om 16 0<|om 17 5<|oa false 18 1 16 17<|ol 19 18<|om 20 1<|om 21 5<|oa false 22 1 20 21<|ol 23 22<|ot 24 .sne 19 23<|N) [5,16,17,18,19,20,21,22,23])<|D (I 24 (q (R (ow 4 false<|N) [0,1,12,13,24])<|.ret) S) [24]) [])<|R (oi 25 .add 13 1<|om 13 25<|N) [25])) [0,1,12,13,14,5])<|q (.reg (ow 4 true<|N))<|.ret
theorem ok55 : FT 55 26 ir55 [.tmp 4] := .o Tryz.func55
end Go.Proofs
namespace Go.Proofs
open Go Av
theorem walk55 (xs ys : List Str) (hl : xs.length ≤ 68719476736) :
  PT 55 [.list 1 (xs.map .str), .list 1 (ys.map .str)] (.d (.bool (eqF (fun (x y : Str) => x == y) xs ys))) := by
 refine ok55.pc ?_;simp only [go_sem, ir55, simprocAttr];refine ⟨fun hne => ?_, fun heq => ?_⟩
 ·simp only [List.length_map, bne_iff_ne, ne_eq, Int.ofNat_inj] at hne;simp [eqF, hne]
 simp only [List.length_map, bne_eq_false_iff_eq, Int.ofNat_inj] at heq;refine wpc_loop (fun n s => ∃ k : Nat, k ≤ xs.length ∧ n = xs.length - k ∧ (∀ (j : Nat) (h1 : j < xs.length) (h2 : j < ys.length), j < k → (xs[j] == ys[j]) = true) ∧
  s = ⟨[(0, .d (.list 1 (xs.map .str))), (1, .d (.list 1 (ys.map .str))), (12, .d (.int .i64 xs.length)), (13, .d (.int .i64 k))], []⟩) ?_ ?_
 ·refine ⟨_, _, Wk.refl _, 0, Nat.zero_le _, rfl, sP, ?_⟩;simp
 ·rintro n s ⟨k, hk, rfl, hinv, rfl⟩;by_cases hlt : k < xs.length
  ·have hlty : k < ys.length := oM;have hx := nth_strs hlt;have hy := nth_strs hlty;have hd := dT hlt;refine zz23 ?_;refine ⟨sO, dC, sO, dC, ?_⟩;refine ⟨fun hne => ?_, fun heq' => ?_⟩
   ·have : eqF (fun (x y : Str) => x == y) xs ys = false := by
     cases h0 : eqF (fun (x y : Str) => x == y) xs ys with
     | false => rfl
     | true => rw [(eqF_iff heq).1 h0 k hlt oM] at hne; cases hne
    rw [this]
   ·refine zz7 ?_;refine ⟨xs.length - (k + 1), _, oM, Wk.less ?_, k + 1, oM, rfl, ?_, rfl⟩
    ·exact zz trivial
    ·intro j h1 h2 hj;by_cases e : j = k
     ·subst e; simpa using heq'
     ·exact hinv j h1 h2 oM
  ·have hd := dF hlt;refine zz5 ?_;rw [(eqF_iff heq).2 fun j h1 h2 => hinv j h1 h2 oM]
theorem walk56 (xs ys : List Typ) (eq : Typ → Typ → Bool) (g : Nat) (hl : xs.length ≤ 68719476736)
  (h : ∀ x ∈ xs, ∀ y ∈ ys, CT g [.d (encT x), .d (encT y)] [] (.d (.bool (eq x y))) []) :
  PT 56 [.list 7 (xs.map encT), .list 7 (ys.map encT), .fn (.func g) [] []] (.d (.bool (eqF eq xs ys))) := by
 refine ok56.pc ?_;simp only [go_sem, ir56, simprocAttr];refine ⟨fun hne => ?_, fun heq => ?_⟩
 ·simp only [List.length_map, bne_iff_ne, ne_eq, Int.ofNat_inj] at hne;simp [eqF, hne]
 simp only [List.length_map, bne_eq_false_iff_eq, Int.ofNat_inj] at heq;refine wpc_loop (fun n s => ∃ k : Nat, k ≤ xs.length ∧ n = xs.length - k ∧ (∀ (j : Nat) (h1 : j < xs.length) (h2 : j < ys.length), j < k → eq xs[j] ys[j] = true) ∧
  s = ⟨[(1, .d (.list 7 (ys.map encT))), (2, .d (.fn (.func g) [] [])), (15, .d (.list 7 (xs.map encT))), (16, .d (.int .i64 xs.length)), (17, .d (.int .i64 k))], []⟩) ?_ ?_
 ·refine ⟨_, _, Wk.refl _, 0, Nat.zero_le _, rfl, sP, ?_⟩;simp
 ·rintro n s ⟨k, hk, rfl, hinv, rfl⟩;by_cases hlt : k < xs.length
  ·have hlty : k < ys.length := oM;have hx := nth_encT hlt;have hy := nth_encT hlty;have hd := dT hlt;refine zz23 ?_;have hc := h xs[k] (List.getElem_mem _) ys[k] (List.getElem_mem _);rw [encT_eq, encT_eq] at hc;refine ⟨sO, sO, wn hc ?_⟩;refine zz ?_;refine ⟨fun hne => ?_, fun heq' => ?_⟩
   ·have : eqF eq xs ys = false := by
     cases h0 : eqF eq xs ys with
     | false => rfl
     | true => rw [(eqF_iff heq).1 h0 k hlt oM] at hne; cases hne
    rw [this]
   ·refine zz7 ?_;refine ⟨xs.length - (k + 1), _, oM, Wk.less ?_, k + 1, oM, rfl, ?_, rfl⟩
    ·exact zz trivial
    ·intro j h1 h2 hj;by_cases e : j = k
     ·subst e; simpa using heq'
     ·exact hinv j h1 h2 oM
  ·have hd := dF hlt;refine zz5 ?_;rw [(eqF_iff heq).2 fun j h1 h2 => hinv j h1 h2 oM]
theorem walk57 (xs ys : List TFl) (eq : TFl → TFl → Bool) (g : Nat) (hl : xs.length ≤ 68719476736)
  (h : ∀ x ∈ xs, ∀ y ∈ ys, CT g [.d (encG x), .d (encG y)] [] (.d (.bool (eq x y))) []) :
  PT 57 [.list 11 (xs.map encG), .list 11 (ys.map encG), .fn (.func g) [] []] (.d (.bool (eqF eq xs ys))) := by
 refine ok57.pc ?_;simp only [go_sem, ir57, simprocAttr];refine ⟨fun hne => ?_, fun heq => ?_⟩
 ·simp only [List.length_map, bne_iff_ne, ne_eq, Int.ofNat_inj] at hne;simp [eqF, hne]
 simp only [List.length_map, bne_eq_false_iff_eq, Int.ofNat_inj] at heq;refine wpc_loop (fun n s => ∃ k : Nat, k ≤ xs.length ∧ n = xs.length - k ∧ (∀ (j : Nat) (h1 : j < xs.length) (h2 : j < ys.length), j < k → eq xs[j] ys[j] = true) ∧
  s = ⟨[(1, .d (.list 11 (ys.map encG))), (2, .d (.fn (.func g) [] [])), (15, .d (.list 11 (xs.map encG))), (16, .d (.int .i64 xs.length)), (17, .d (.int .i64 k))], []⟩) ?_ ?_
 ·refine ⟨_, _, Wk.refl _, 0, Nat.zero_le _, rfl, sP, ?_⟩;simp
 ·rintro n s ⟨k, hk, rfl, hinv, rfl⟩;by_cases hlt : k < xs.length
  ·have hlty : k < ys.length := oM;have hx := nth_encG hlt;have hy := nth_encG hlty;have hd := dT hlt;refine zz23 ?_;have hc := h xs[k] (List.getElem_mem _) ys[k] (List.getElem_mem _);rw [encG_eq, encG_eq] at hc;refine ⟨sO, sO, wn hc ?_⟩;refine zz ?_;refine ⟨fun hne => ?_, fun heq' => ?_⟩
   ·have : eqF eq xs ys = false := by
     cases h0 : eqF eq xs ys with
     | false => rfl
     | true => rw [(eqF_iff heq).1 h0 k hlt oM] at hne; cases hne
    rw [this]
   ·refine zz7 ?_;refine ⟨xs.length - (k + 1), _, oM, Wk.less ?_, k + 1, oM, rfl, ?_, rfl⟩
    ·exact zz trivial
    ·intro j h1 h2 hj;by_cases e : j = k
     ·subst e; simpa using heq'
     ·exact hinv j h1 h2 oM
  ·have hd := dF hlt;refine zz5 ?_;rw [(eqF_iff heq).2 fun j h1 h2 => hinv j h1 h2 oM]
def eqG (f : Typ → Typ → Bool) (x y : TFl) : Bool := (((x.number == y.number && x.name == y.name) && x.need == y.need) && f x.type y.type) && eqF (fun a b => cmpV a b == 0) x.dflt y.dflt
def eqTs (f : Typ → Typ → Bool) (x y : Typ) : Bool := (((((x.kind == y.kind && x.min == y.min) && x.max == y.max) && x.scale == y.scale) && eqF (fun (a b : Str) => a == b) x.words y.words) && eqF f x.elem y.elem) && eqF (eqG f) x.fields y.fields
theorem step58 (f : Typ → Typ → Bool) (x y : TFl) (h : PT 15 [encT x.type, encT y.type] (.d (.bool (f x.type y.type)))) : PT 58 [encG x, encG y] (.d (.bool (eqG f x y))) := by
 refine PCon.of_fits ok58.has fun hfit => ?_
 have hdl : x.dflt.length ≤ 68719476736 := by
  have := hfit _ (List.mem_cons_self);rw [encG_eq] at this;simp only [fits, fitsL, List.length_map, and_true] at this;exact this.2.2.2.2.2.2.2.2.2.2.1
 refine ok58.pc ?_;have c1 := h.call trivial;have c2 := (walk59 x.dflt y.dflt (fun a b => cmpV a b == 0) 17 hdl (fun a _ b _ => (p17 a b).call trivial)).call trivial;unfold eqG;generalize f x.type y.type = F at *;generalize eqF (fun a b => cmpV a b == 0) x.dflt y.dflt = D at *;rw [encT_eq x.type, encT_eq y.type] at c1;rw [encG_eq, encG_eq];simp only [go_sem, ir58, simprocAttr];refine sq (x.name == y.name) ?_ ?_
 ·exact zz4 trivial
 refine zz4 ?_;refine sq (x.need == y.need) ?_ ?_
 ·exact zz4 trivial
 refine zz4 ?_;refine scQ_pure F (fun _ => ?_) ?_
 ·refine zz4 ?_;refine wn c1 ?_;exact zz4 trivial
 refine zz4 ?_;refine scQ_pure D (fun _ => ?_) ?_
 ·refine zz4 ?_;refine wn c2 ?_;exact zz4 trivial
 exact zz4 trivial
theorem step15 (f : Typ → Typ → Bool) (x y : Typ) (h1 : ∀ a ∈ x.elem, ∀ b ∈ y.elem, PT 15 [encT a, encT b] (.d (.bool (f a b))))
  (h2 : ∀ a ∈ x.fields, ∀ b ∈ y.fields, PT 58 [encG a, encG b] (.d (.bool (eqG f a b)))) : PT 15 [encT x, encT y] (.d (.bool (eqTs f x y))) := by
 refine PCon.of_fits ok15.has fun hfit => ?_
 obtain ⟨hw, he, hf⟩ := fits_T (hfit (encT x) sP);refine ok15.pc ?_;have c1 := (walk55 x.words y.words hw).call trivial;have c2 := (walk56 x.elem y.elem f 15 he (fun a ha b hb => (h1 a ha b hb).call trivial)).call trivial;have c3 := (walk57 x.fields y.fields (eqG f) 58 hf (fun a ha b hb => (h2 a ha b hb).call trivial)).call trivial;unfold eqTs;generalize eqF (fun (a b : Str) => a == b) x.words y.words = A at *;generalize eqF f x.elem y.elem = B at *;generalize eqF (eqG f) x.fields y.fields = C at *;rw [encT_eq, encT_eq];simp only [go_sem, ir15, simprocAttr];refine sq (x.min == y.min) ?_ ?_
 ·exact zz4 trivial
 refine zz4 ?_;refine sq (x.max == y.max) ?_ ?_
 ·exact zz4 trivial
 refine zz4 ?_;refine sq (x.scale == y.scale) ?_ ?_
 ·exact zz4 trivial
 refine zz4 ?_;refine scQ_pure A (fun _ => ?_) ?_
 ·refine zz4 ?_;refine wn c1 ?_;exact zz4 trivial
 refine zz4 ?_;refine scQ_pure B (fun _ => ?_) ?_
 ·refine zz4 ?_;refine wn c2 ?_;exact zz4 trivial
 refine zz4 ?_;refine scQ_pure C (fun _ => ?_) ?_
 ·refine zz4 ?_;refine wn c3 ?_;exact zz4 trivial
 exact zz4 trivial
def eqTF : Nat → Typ → Typ → Bool
 | 0, _, _ => true
 | k + 1, x, y => eqTs (eqTF k) x y
theorem walk15 : ∀ (k : Nat) (x y : Typ), szT x ≤ k → PT 15 [encT x, encT y] (.d (.bool (eqTF k x y)))
 | 0, x, y, h => by rw [szT_eq] at h; omega
 | k + 1, x, y, h => by
  have e := szT_eq x;rw [eqTF];exact step15 (eqTF k) x y (fun a ha b _ => walk15 k a b (by have := szTs_mem a ha; omega)) (fun a ha b _ => step58 (eqTF k) a b (walk15 k a.type b.type (by have := szGs_mem a ha; omega)))
end Go.Proofs
namespace Av
open Go Go.Sort Go.Proofs
variable [Glb] [Rls]
theorem putRowK_setRow {w : World} {b : Nat} {C : Array Value} {T : TypeId} {fr : Nat × Nat} (F : Array Value) (hh : w.heap[b]? = some (.cells C T fr)) : putRow id w b 0 F = w.setRow b (putCells id 0 F C) := by
 unfold putRow mapBlock World.setRow;congr 1;apply Array.ext_getElem?;intro k;simp only [Array.getElem?_modify];by_cases hk : b = k
 ·subst hk;rw [hh];rfl
 ·simp [hk]
theorem putCells_id (F C : Array Value) (k : Nat) : (putCells id 0 F C)[k]? = (C[k]?).map fun x => if k < F.size then F[k]! else x := by
 simp only [putCells, Array.getElem?_mapIdx, Nat.zero_le, true_and, Nat.zero_add, Nat.sub_zero, id_eq]
section
variable {β : Blocks} {A : Nat → Prop} {w : World} {H : Heap}
theorem Stp.rowPutK (hc : Core β A w H) {i b ver cap n sz : Nat} {xs xs' : List Dat} {C F : Array Value} {T : TypeId} (os : Array Go.Obj) (hi : H i = some (.row ver sz xs)) (hb : β i = some b)
  (hh : w.heap[b]? = some (.cells C T (0, 0))) (hcap : C.size = cap * sz) (hF : F.size = xs.length * sz) (hle : xs.length ≤ cap) (hlen : xs'.length = xs.length) (hs : ∀ x ∈ xs', x.cells.length = sz) (hbnd : xs.length ≤ 68719476736)
  (h1 : ∀ (j : Nat) v, F[j]? = some v → v.oneCell' = true) (hv : ∀ (j : Nat) c v, (flat xs')[j]? = some c → F[j]? = some v → Rep A w c v) :
  Stp β A w H β A (grow (putRow id (ahead w n) b 0 F) os) (upd H i (some (.row ver sz xs'))) := by
 have h0 : Stp β A w H β A (ahead w n) H := Stp.draw hc rfl rfl rfl rfl;have hh' : (ahead w n).heap[b]? = some (.cells C T (0, 0)) := hh;rw [putRowK_setRow _ hh'];have hsz : (putCells id 0 F C).size = C.size := by simp [putCells]
 have hfl : (flat xs').length = F.size := by rw [flat_length hs, hF, hlen]
 have hcell : ∀ (j : Nat) v, j < (flat xs').length → (putCells id 0 F C)[j]? = some v → F[j]? = some v := by
  intro j v hj hv;rw [putCells_id] at hv;cases hC : C[j]? with
  | none => rw [hC] at hv; cases hv
  | some x =>
   rw [hC] at hv;have hj' : j < F.size := oM;simp only [Option.map_some, if_pos hj', Option.some.injEq] at hv;rw [← hv];simp [hj']
 have h2 := Stp.rowSet h0.core (ver' := ver) (xs' := xs') (C' := putCells id 0 F C) hi hb hh' hcap hsz (Nat.le_refl _) (fun _ => hlen) hs oM oM
  (fun j v hj hv => h1 j v (hcell j v hj hv))
  (fun j c v hc' hv' => by
   have hj : j < (flat xs').length := by
    rcases Nat.lt_or_ge j (flat xs').length with h | h
    ·exact h
    ·rw [List.getElem?_eq_none h] at hc'; cases hc'
   exact (hv j c v hc' (hcell j v hj hv')).mono (fun _ _ => rfl) (fun _ h => h))
 have hsame : ∀ k, k < ((ahead w n).setRow b (putCells id 0 F C)).heap.size → (grow ((ahead w n).setRow b (putCells id 0 F C)) os).heap[k]? = ((ahead w n).setRow b (putCells id 0 F C)).heap[k]? := by
  intro k hk;show (_ ++ os)[k]? = _;rw [Array.getElem?_append_left hk]
 have h3 : Stp β A ((ahead w n).setRow b (putCells id 0 F C)) (upd H i (some (.row ver sz xs'))) β A (grow ((ahead w n).setRow b (putCells id 0 F C)) os) (upd H i (some (.row ver sz xs'))) :=
  Stp.new h2.core rfl rfl rfl (by simp [grow]) hsame (fun _ h => h) (fun _ h => .inl h) (fun k h => by have := h2.core.old k h; simp [grow] at this ⊢; omega)
 exact (h0.trans h2).trans h3
end
end Av
namespace Go.Proofs
open Go Av Go.Sort Go.RowKit
theorem cb_lt : ∀ a b : List UInt8, Lib.compareBytes a b < 0 ↔ a < b
 | [], [] => by simp [Lib.compareBytes]
 | [], _ :: _ => by simp [Lib.compareBytes]
 | _ :: _, [] => by simp [Lib.compareBytes]
 | a :: xs, b :: bs => by
  rw [Lib.compareBytes, List.cons_lt_cons_iff];split
  ·simp [*]
  ·rename_i h;split
   ·rename_i h2;have : a ≠ b := by rintro rfl; exact absurd h2 (UInt8.lt_irrefl a)
    simp [h, this]
   ·rename_i h2;have : a = b := UInt8.le_antisymm (UInt8.not_lt.1 h2) (UInt8.not_lt.1 h);rw [cb_lt xs bs];simp [h, this]
def srtF (fs : List Fld) : List Fld := fs.mergeSort fun x y => !decide (Lib.compareBytes y.name x.name < 0)
theorem swoB {α : Type} (f : α → List UInt8) : SWO (ltOf fun x y : α => Lib.compareBytes (f x) (f y)) where
 irrefl x := by simp only [ltOf, decide_eq_false_iff_not, cb_lt]; exact List.lt_irrefl _
 trans x y z h1 h2 := by
  simp only [ltOf, decide_eq_true_eq, cb_lt] at *;exact List.lt_trans h1 h2
 ntrans x y z h1 h2 := by
  simp only [ltOf, decide_eq_false_iff_not, cb_lt] at *;rw [List.not_lt] at *;exact List.le_trans h2 h1
theorem eqB {a b : List UInt8} (h1 : ¬ Lib.compareBytes a b < 0) (h2 : ¬ Lib.compareBytes b a < 0) : a = b := by
 rw [cb_lt, List.not_lt] at *;exact List.le_antisymm h2 h1
def cellsL (fs : List Fld) (C : Array Value) : List (Fld × List Value) := fs.mapIdx fun i f => (f, (List.range 7).map fun c => C[i * 7 + c]!)
theorem cellsL_len (fs : List Fld) (C : Array Value) : (cellsL fs C).length = fs.length := by simp [cellsL]
theorem cellsL_get (fs : List Fld) (C : Array Value) (i : Nat) (h : i < fs.length) : (cellsL fs C)[i]'(by rw [cellsL_len]; exact h) = (fs[i], (List.range 7).map fun c => C[i * 7 + c]!) := by simp [cellsL]
theorem cellsL_mem {fs : List Fld} {C : Array Value} {p : Fld × List Value} (h : p ∈ cellsL fs C) : ∃ (i : Nat) (hi : i < fs.length), p = (fs[i], (List.range 7).map fun c => C[i * 7 + c]!) := by
 obtain ⟨i, hi, rfl⟩ := List.getElem_of_mem h;rw [cellsL_len] at hi;exact ⟨i, hi, cellsL_get fs C i hi⟩
theorem sort_map (fs : List Fld) (C : Array Value) : ((cellsL fs C).attach.mergeSort fun x y => !(ltOf fun (x y : { p // p ∈ cellsL fs C }) => Lib.compareBytes x.1.1.name y.1.1.name) y x).map (fun p => p.1.1) = srtF fs := by
 have h : (cellsL fs C).attach.map (fun p => p.1.1) = fs := by
  rw [show (fun p : { p // p ∈ cellsL fs C } => p.1.1) = Prod.fst ∘ Subtype.val from rfl, ← List.map_map, List.attach_map_subtype_val];apply List.ext_getElem
  ·simp [cellsL]
  ·intro i h1 h2;simp [cellsL]
 have := List.map_mergeSort (r := fun x y => !(ltOf fun (x y : { p // p ∈ cellsL fs C }) => Lib.compareBytes x.1.1.name y.1.1.name) y x) (s := fun (x y : Fld) => !decide (Lib.compareBytes y.name x.name < 0)) (f := fun p => p.1.1) (l := (cellsL fs C).attach) (fun a _ b _ => rfl);rw [this, h];rfl
@[reducible] def sub_inh {α : Type} {l : List α} (h : l ≠ []) : Inhabited { p // p ∈ l } := ⟨⟨l.head h, List.head_mem h⟩⟩
end Go.Proofs
namespace Av
open Go Go.Sort Go.Proofs
variable [Glb] [Rls]
theorem encF_len7 (f : Fld) : (encF f).cells.length = 7 := by rw [encF_eq]; rfl
theorem CallOK.sortF {P : Program} {f g : Nat} (hh : Has P f)
  (hS : ∀ (α : Type) [Inhabited α] (enc : α → List Value) (cf : α → α → Int) (b cap : Nat) (d : Array α) (w : World), (∀ x, (enc x).length = 7) → (∀ x, ∀ v ∈ enc x, v.oneCell' = true) → SWO (ltOf cf) →
   CmpLays P g #[] enc 7 cf b 0 d.size w → HoldsK enc 7 w b 0 d → b < w.heap.size → d.size < 4611686018427387904 → (∀ x y, (ltOf cf) x y = false → (ltOf cf) y x = false → x = y) →
   Calls P f #[.slice (some ⟨b, 0, none⟩) d.size cap, .func (.func g) #[] #[]] w fun e w' => e = .returned (.tuple #[]) ∧ ∃ n os, w' = sortWorldK enc 7 w b 0 n (d.toList.mergeSort fun x y => !(ltOf cf) y x).toArray os)
  (hN : ∀ (p : Option Addr) (cap : Nat) (fv : Value) (w : World), Calls P f #[.slice p 0 cap, fv] w fun e w' => e = .returned (.tuple #[]) ∧ w' = w)
  (hC : ∀ (a b : List UInt8) (u v : List Value) (w : World), u.length = 6 → v.length = 6 → Calls P g #[.agg (.string ⟨a.toArray⟩ :: u).toArray, .agg (.string ⟨b.toArray⟩ :: v).toArray] w fun e w' => e = .returned (.int .i64 (Lib.compareBytes a b)) ∧ ∃ q os', w' = grow (w.drewN q) os')
  (i v : Nat) (fs : List Fld) (hnd : fs.Pairwise fun x y => x.name ≠ y.name) :
  CallOK P f [.ms i v, .d (.fn (.func g) [] [])] [(i, some (.row v 7 (fs.map encF)))] (.tup []) [(i, .row v 7 ((srtF fs).map encF))] := by
 intro β A w H vs hT hc hvs;have hi : H i = some (.row v 7 (fs.map encF)) := hT _ (List.mem_singleton.2 rfl);obtain ⟨_, hcell, hbnd, hrow⟩ := hc.objs i _ hi;obtain ⟨u, fv, rfl⟩ : ∃ x y, vs = #[x, y] := by
  have h2 : 2 = vs.size := hvs.1;refine ⟨vs[0], vs[1], ?_⟩;apply Array.ext
  ·simp [← h2]
  ·intro k h1 h3
   match k, h1 with
   | 0, _ => rfl
   | 1, _ => rfl
   | k + 2, h1 => omega
 have hu := hvs.2 0 (.ms i v) u rfl rfl;have hf := hvs.2 1 (.d (.fn (.func g) [] [])) fv rfl rfl;have hfv : fv = .func (.func g) #[] #[] := by
  cases hf with
  | d _ _ h =>
   cases h with
   | fn _ _ _ a1 a2 l1 l2 _ _ =>
    have e1 : a1 = #[] := Array.eq_empty_of_size_eq_zero (sX l1.symm);have e2 : a2 = #[] := Array.eq_empty_of_size_eq_zero (sX l2.symm);rw [e1, e2]
 subst hfv;refine .inl ⟨hh, ?_⟩;have hnil : ∀ a cap, fs = [] → u = .slice a 0 cap → Calls P f #[u, .func (.func g) #[] #[]] w fun e w' => ∃ r β' A', e = .returned r ∧ Stp β A w H β' A' w' (hputs H [(i, .row v 7 ((srtF fs).map encF))]) ∧ VRep β' A' w' (hputs H [(i, .row v 7 ((srtF fs).map encF))]) (.tup []) r := by
  intro a cap hfs hua;subst hua;refine (hN a cap _ w).mono ?_;rintro e w' ⟨rfl, rfl⟩;have : hputs H [(i, .row v 7 ((srtF fs).map encF))] = H := by
   have hs : srtF fs = [] := by rw [hfs]; simp [srtF]
   rw [hs];simp only [hputs, List.map_nil];exact upd_self _ _ _ (by rw [hi, hfs]; rfl)
  rw [this];exact ⟨_, β, A, rfl, Stp.refl hc, .tup [] #[] rfl sP⟩
 have hfin : ∀ {Q}, (∀ e w', (∃ r β' A', e = .returned r ∧ Stp β A w H β' A' w' (hputs H [(i, .row v 7 ((srtF fs).map encF))]) ∧ VRep β' A' w' (hputs H [(i, .row v 7 ((srtF fs).map encF))]) (.tup []) r) → Q e w') →
   (Calls P f #[u, .func (.func g) #[] #[]] w fun e w' => ∃ r β' A', e = .returned r ∧ Stp β A w H β' A' w' (hputs H [(i, .row v 7 ((srtF fs).map encF))]) ∧ VRep β' A' w' (hputs H [(i, .row v 7 ((srtF fs).map encF))]) (.tup []) r) → Calls P f #[u, .func (.func g) #[] #[]] w Q := fun h1 h2 => h2.mono h1
 refine hfin (fun e w' ⟨r, β', A', a, b, c⟩ => ⟨r, a, β', A', b, c⟩) ?_;cases hu with
 | ms _ _ _ hoc h0 h1 h2 =>
  obtain ⟨_, hrv⟩ := h1 _ _ _ hi;have hrv := hrv rfl;rcases hrv with ⟨hbn, hn, a, rfl⟩ | ⟨b, C, T, fz, cap, hb, hheap, hCs, hle, rfl⟩
  ·exact hnil a 0 (sX hn) rfl
  ·rcases Nat.eq_zero_or_pos fs.length with hz | hpos
   ·have hz' := List.eq_nil_of_length_eq_zero hz;exact hnil (some ⟨b, 0, none⟩) cap hz' (by rw [hz']; rfl)
   ·rcases hrow with ⟨hbn, _⟩ | ⟨b', C', T', cap', hb', hh', hC', hle', h1c, h2c⟩
    ·rw [hb] at hbn; cases hbn
    ·rw [hb] at hb';cases hb';rw [hheap] at hh';cases hh';have hs7 : ∀ x ∈ fs.map encF, x.cells.length = 7 := by
      intro x hx;obtain ⟨y, _, rfl⟩ := List.mem_map.1 hx;exact encF_len7 y
     have hln : (fs.map encF).length = fs.length := sP;have hfl : (flat (fs.map encF)).length = fs.length * 7 := by rw [flat_length hs7, hln]
     have hCz : C.size = cap * 7 := hCs;have hle2 : fs.length ≤ cap := sX hle;have hin : ∀ m c, m < fs.length → c < 7 → m * 7 + c < C.size ∧ m * 7 + c < (flat (fs.map encF)).length := by
      intro m c hm hc7;rw [hfl, hCz];omega
     have hget : ∀ m c, m < fs.length → c < 7 → C[m * 7 + c]? = some C[m * 7 + c]! := by
      intro m c hm hc7;have := (hin m c hm hc7).1;simp [this]
     have hcl : ∀ m c (hm : m < fs.length), c < 7 → ∃ d, (encF fs[m]).cells[c]? = some d ∧ Rep A w d C[m * 7 + c]! := by
      intro m c hm hc7;have h7 := encF_len7 fs[m];refine ⟨(encF fs[m]).cells[c], List.getElem?_eq_getElem oM, ?_⟩;refine h2c (m * 7 + c) _ _ ?_ (hget m c hm hc7);rw [flatT_cell hs7 hc7];simp [cellAt, hm, h7, hc7]
     have hone : ∀ m c, m < fs.length → c < 7 → (C[m * 7 + c]!).oneCell' = true := fun m c hm hc7 => h1c _ _ (hin m c hm hc7).2 (hget m c hm hc7)
     have hstr : ∀ m (hm : m < fs.length), C[m * 7 + 0]! = .string ⟨fs[m].name.toArray⟩ := by
      intro m hm;obtain ⟨d, hd, hr⟩ := hcl m 0 hm dC;rw [encF_eq] at hd;cases hd;generalize C[m * 7 + 0]! = z at hr;cases hr with
      | str _ _ => rfl
     have hnl : cellsL fs C ≠ [] := by intro h; have := congrArg List.length h; rw [cellsL_len, List.length_nil] at this; omega
     letI := sub_inh hnl
     let enc : { p // p ∈ cellsL fs C } → List Value := fun p => p.1.2
     let cf : { p // p ∈ cellsL fs C } → { p // p ∈ cellsL fs C } → Int := fun x y => Lib.compareBytes x.1.1.name y.1.1.name
     have hk : ∀ x, (enc x).length = 7 := by
      intro x;obtain ⟨m, hm, e⟩ := cellsL_mem x.2;show x.1.2.length = 7;rw [e]; simp
     have hec : ∀ (x : { p // p ∈ cellsL fs C }), ∃ m, ∃ hm : m < fs.length, x.1.1 = fs[m] ∧ ∀ c, c < 7 → (enc x)[c]? = some C[m * 7 + c]! := by
      intro x;obtain ⟨m, hm, e⟩ := cellsL_mem x.2;refine ⟨m, hm, by rw [e], fun c hc7 => ?_⟩;show x.1.2[c]? = _;rw [e];simp [hc7]
     have ho : ∀ x, ∀ v ∈ enc x, v.oneCell' = true := by
      intro x v hv;obtain ⟨m, hm, _, e⟩ := hec x;obtain ⟨c, hc7, rfl⟩ := List.getElem_of_mem hv;rw [hk x] at hc7;have := e c hc7;rw [List.getElem?_eq_getElem (by rw [hk x]; exact hc7), Option.some.injEq] at this;rw [this];exact hone m c hm hc7
     have hsh : ∀ x, ∃ u, u.length = 6 ∧ enc x = .string ⟨x.1.1.name.toArray⟩ :: u := by
      intro x;obtain ⟨m, hm, e1, e⟩ := hec x;have h0 := e 0 dC;have hl := hk x;cases hx : enc x with
      | nil => rw [hx] at hl; cases hl
      | cons y r =>
       rw [hx] at h0 hl;refine ⟨r, by simpa using hl, ?_⟩;simp only [List.getElem?_cons_zero, Option.some.injEq] at h0;rw [h0, hstr m hm, e1]
     have hcmp : ∀ n W, CmpLays P g #[] enc 7 cf b 0 n W := by
      intro n W m os dk _ x y;obtain ⟨u1, l1, q1⟩ := hsh x;obtain ⟨u2, l2, q2⟩ := hsh y;rw [q1, q2];exact hC x.1.1.name y.1.1.name u1 u2 _ l1 l2
     have hT2 : ∀ x y, ltOf cf x y = false → ltOf cf y x = false → x = y := by
      intro x y a1 a2;have hn : x.1.1.name = y.1.1.name := eqB (by simpa [ltOf, cf] using a1) (by simpa [ltOf, cf] using a2);obtain ⟨m, hm, e1⟩ := cellsL_mem x.2;obtain ⟨m2, hm2, e2⟩ := cellsL_mem y.2;have hmm : m = m2 := by
       rcases Nat.lt_trichotomy m m2 with h | h | h
       ·exact absurd (by rw [e1, e2] at hn; exact hn) (List.pairwise_iff_getElem.1 hnd m m2 hm hm2 h)
       ·exact h
       ·exact absurd (by rw [e1, e2] at hn; exact hn.symm) (List.pairwise_iff_getElem.1 hnd m2 m hm2 hm h)
      subst hmm;exact Subtype.ext (e1.trans e2.symm)
     have hds : (cellsL fs C).attach.toArray.size = fs.length := by simp [cellsL_len]
     have hHK : HoldsK enc 7 w b 0 (cellsL fs C).attach.toArray := by
      intro j hj;have hj : j < fs.length * 7 := by simpa [cellsL_len] using hj
      have hm : j / 7 < fs.length := oM;have hc7 : j % 7 < 7 := Nat.mod_lt _ dC;have hjj : j / 7 * 7 + j % 7 = j := oM;refine ⟨?_, by simp [World.frozen?, hheap]⟩;rw [get_flatK _ _ _ _ (by rw [hds]; exact hj)];have e1 : ((cellsL fs C).attach.toArray[j / 7]!).1 = (fs[j / 7], (List.range 7).map fun c => C[j / 7 * 7 + c]!) := by
       rw [getElem!_pos _ _ (by rw [hds]; exact hm)];simp only [List.getElem_toArray, List.getElem_attach];exact cellsL_get fs C _ hm
      show w.cell? ⟨b, 0 + j, none⟩ = some (((cellsL fs C).attach.toArray[j / 7]!).1.2[j % 7]!);rw [e1];have := hget _ _ hm hc7;rw [hjj] at this;simp [World.cell?, hheap, hc7, hjj, this]
     have hcall := hS _ enc cf b cap (cellsL fs C).attach.toArray w hk ho (swoB _) (hcmp _ _) hHK (Array.getElem?_eq_some_iff.1 hheap).1 (by rw [hds]; simp at hbnd; omega) hT2;rw [hds] at hcall;have hlen0 : (fs.map encF).length = fs.length := sP;rw [hlen0];refine hcall.mono ?_;rintro e w' ⟨rfl, n, os, rfl⟩;refine ⟨_, β, A, rfl, ?_, .tup [] #[] rfl sP⟩;have hD : ((cellsL fs C).attach.mergeSort fun x y => !(ltOf cf) y x).map (fun p => p.1.1) = srtF fs := sort_map fs C;have e2 : (cellsL fs C).attach.toArray.toList = (cellsL fs C).attach := rfl;rw [e2];have hDl : ((cellsL fs C).attach.mergeSort fun x y => !(ltOf cf) y x).length = fs.length := by rw [List.length_mergeSort, List.length_attach, cellsL_len]
     generalize ((cellsL fs C).attach.mergeSort fun x y => !(ltOf cf) y x) = D at hD hDl;rw [← hD];have hxs : ∀ x ∈ (D.map fun p => p.1.1).map encF, x.cells.length = 7 := by
      intro x hx;obtain ⟨y, _, rfl⟩ := List.mem_map.1 hx;exact encF_len7 y
     have hFz : (flatK enc 7 D.toArray).size = fs.length * 7 := by simp [hDl]
     have hFg : ∀ (j : Nat) v, (flatK enc 7 D.toArray)[j]? = some v → ∃ p ∈ D, D[j / 7]? = some p ∧ (enc p)[j % 7]? = some v := by
      intro j v hj;have hj2 : j < fs.length * 7 := by rw [← hFz]; exact (Array.getElem?_eq_some_iff.1 hj).1
      have hm : j / 7 < D.length := by rw [hDl]; omega
      have hc7 : j % 7 < 7 := Nat.mod_lt _ dC;have h1 : (flatK enc 7 D.toArray)[j]! = v := by rw [getElem!_def, hj]
      rw [get_flatK _ _ _ _ (by simp [hDl]; exact hj2), getElem!_pos D.toArray _ (sX hm)] at h1;simp only [List.getElem_toArray] at h1;refine ⟨D[j / 7], List.getElem_mem hm, List.getElem?_eq_getElem hm, ?_⟩;have hl := hk D[j / 7];rw [getElem!_pos _ _ (by rw [hl]; exact hc7)] at h1;rw [List.getElem?_eq_getElem (by rw [hl]; exact hc7), h1]
     refine Stp.rowPutK hc os hi hb hheap hCs (by rw [hFz]; simp) (sX hle) (by simp [hDl]) hxs hbnd ?_ ?_
     ·intro j v hj;obtain ⟨p, _, _, hp⟩ := hFg j v hj;exact ho p v (List.mem_of_getElem? hp)
     ·intro j c v hc' hj;obtain ⟨p, _, hp1, hp⟩ := hFg j v hj;obtain ⟨m, hm, e3, e4⟩ := hec p;have hc7 : j % 7 < 7 := Nat.mod_lt _ dC;have hjj : j / 7 * 7 + j % 7 = j := oM;obtain ⟨d, hd, hr⟩ := hcl m (j % 7) hm hc7;rw [e4 _ hc7, Option.some.injEq] at hp;have hcc := flatT_cell (k := j / 7) (c := j % 7) hxs hc7;rw [hjj, hc'] at hcc;simp only [cellAt, List.getElem?_map, hp1, Option.map_some, Option.bind_some, e3, hd, Option.some.injEq] at hcc;rw [hcc, ← hp];exact hr
end Av
namespace Go.Proofs
open Go.Shelf
def Tryz.laysSF_ren : Go.Shelf.Ren := ⟨fun | 6 => 105 | 15 => 185 | 14 => 205 | 28 => 255 | 29 => 256 | 20 => 279 | 21 => 280 | 22 => 281 | 23 => 282 | 24 => 283 | 25 => 284 | 26 => 285 | 27 => 286 | 46 => 349 | 47 => 322 | 48 => 323 | 49 => 350 | 50 => 351 | 57 => 395 | n => n, fun | 22 => 28 | 24 => 113 | 25 => 196 | 3 => 3 | 39 => 257 | 0 => 0 | 53 => 318 | 55 => 320 | 4 => 4 | 46 => 312 | 45 => 311 | 50 => 124 | 5 => 5 | 9 => 9 | 66 => 367 | 70 => 281 | 76 => 417 | 77 => 238 | n => n, fun | n => n⟩
theorem Tryz.laysSF : Go.Proofs.SlLaysF0.n6 Tryz.prog Tryz.laysSF_ren := {
 mixed := kR
 f6 := ⟨Tryz.f105.name, dC, Tryz.func105.trans (congrArg some kR)⟩
 f14 := ⟨Tryz.f205.name, dC, Tryz.func205.trans (congrArg some kR)⟩
 f15 := Tryz.func185.trans (congrArg some kR)
 f20 := ⟨Tryz.f279.name, dC, Tryz.func279.trans (congrArg some kR)⟩
 f21 := ⟨Tryz.f280.name, dC, Tryz.func280.trans (congrArg some kR)⟩
 f22 := ⟨Tryz.f281.name, dC, Tryz.func281.trans (congrArg some kR)⟩
 f23 := ⟨Tryz.f282.name, dC, Tryz.func282.trans (congrArg some kR)⟩
 f24 := ⟨Tryz.f283.name, dC, Tryz.func283.trans (congrArg some kR)⟩
 f25 := ⟨Tryz.f284.name, dC, Tryz.func284.trans (congrArg some kR)⟩
 f26 := ⟨Tryz.f285.name, dC, Tryz.func285.trans (congrArg some kR)⟩
 f27 := ⟨Tryz.f286.name, dC, Tryz.func286.trans (congrArg some kR)⟩
 f28 := Tryz.func255.trans (congrArg some kR)
 f29 := Tryz.func256.trans (congrArg some kR)
 f46 := ⟨Tryz.f349.name, dC, Tryz.func349.trans (congrArg some kR)⟩
 f47 := Tryz.func322.trans (congrArg some kR)
 f48 := Tryz.func323.trans (congrArg some kR)
 f49 := ⟨Tryz.f350.name, dC, Tryz.func350.trans (congrArg some kR)⟩
 f50 := ⟨Tryz.f351.name, dC, Tryz.func351.trans (congrArg some kR)⟩
 f57 := ⟨Tryz.f395.name, dC, Tryz.func395.trans (congrArg some kR)⟩
 t0 := Tryz.underlying0
 a0 := Tryz.isAgg0
 z0 := Tryz.sizeOf0
 v0 := Tryz.zeroValue0
 t3 := Tryz.underlying3
 a3 := Tryz.isAgg3
 z3 := Tryz.sizeOf3
 v3 := Tryz.zeroValue3
 t4 := Tryz.underlying4
 a4 := Tryz.isAgg4
 z4 := Tryz.sizeOf4
 v4 := Tryz.zeroValue4
 t5 := Tryz.underlying5
 a5 := Tryz.isAgg5
 z5 := Tryz.sizeOf5
 v5 := Tryz.zeroValue5
 t9 := Tryz.underlying9
 a9 := Tryz.isAgg9
 z9 := Tryz.sizeOf9
 v9 := Tryz.zeroValue9
 t22 := Tryz.underlying28
 a22 := Tryz.isAgg28
 z22 := Tryz.sizeOf28
 v22 := Tryz.zeroValue28
 t25 := Tryz.underlying196
 a25 := Tryz.isAgg196
 z25 := Tryz.sizeOf196
 v25 := Tryz.zeroValue196
 t39 := Tryz.underlying257
 a39 := Tryz.isAgg257
 z39 := Tryz.sizeOf257
 v39 := Tryz.zeroValue257
 t45 := Tryz.underlying311
 a45 := Tryz.isAgg311
 z45 := Tryz.sizeOf311
 v45 := Tryz.zeroValue311
 t46 := Tryz.underlying312
 a46 := Tryz.isAgg312
 z46 := Tryz.sizeOf312
 v46 := Tryz.zeroValue312
 t50 := Tryz.underlying124
 a50 := Tryz.isAgg124
 z50 := Tryz.sizeOf124
 v50 := Tryz.zeroValue124
 t53 := Tryz.underlying318
 a53 := Tryz.isAgg318
 z53 := Tryz.sizeOf318
 v53 := Tryz.zeroValue318
 t55 := Tryz.underlying320
 a55 := Tryz.isAgg320
 z55 := Tryz.sizeOf320
 v55 := Tryz.zeroValue320
 t66 := Tryz.underlying367
 a66 := Tryz.isAgg367
 z66 := Tryz.sizeOf367
 v66 := Tryz.zeroValue367
 t70 := Tryz.underlying281
 a70 := Tryz.isAgg281
 z70 := Tryz.sizeOf281
 v70 := Tryz.zeroValue281
 t76 := Tryz.underlying417
 a76 := Tryz.isAgg417
 z76 := Tryz.sizeOf417
 v76 := Tryz.zeroValue417
 t77 := Tryz.underlying238
 a77 := Tryz.isAgg238
 z77 := Tryz.sizeOf238
 v77 := Tryz.zeroValue238 }
def Tryz.laysCmp_ren : Go.Shelf.Ren := ⟨fun | 106 => 107 | 213 => 206 | 265 => 287 | n => n, fun | 9 => 9 | 3 => 3 | n => n, fun | n => n⟩
theorem Tryz.laysCmp : Go.Proofs.Lays.n106 Tryz.prog Tryz.laysCmp_ren := {
 mixed := kR
 f106 := Tryz.func107.trans (congrArg some kR)
 f213 := Tryz.func206.trans (congrArg some kR)
 f265 := Tryz.func287.trans (congrArg some kR)
 t3 := Tryz.underlying3
 a3 := Tryz.isAgg3
 z3 := Tryz.sizeOf3
 v3 := Tryz.zeroValue3
 t9 := Tryz.underlying9
 a9 := Tryz.isAgg9
 z9 := Tryz.sizeOf9
 v9 := Tryz.zeroValue9 }
end Go.Proofs
namespace Go.Proofs
open Go Av Go.Shelf Go.RowKit Go.Lib Go.Sort
theorem len6 {u : List Value} (h : u.length = 6) : ∃ a b c d e f, u = [a, b, c, d, e, f] := by
 match u, h with
 | [a, b, c, d, e, f], _ => exact ⟨a, b, c, d, e, f, rfl⟩
set_option maxHeartbeats 2000000 in
theorem clo106 (a b : List UInt8) (u v : List Value) (W : World) (hu : u.length = 6) (hv : v.length = 6) : Calls Tryz.prog 106 #[.agg (.string ⟨a.toArray⟩ :: u).toArray, .agg (.string ⟨b.toArray⟩ :: v).toArray] W fun e w' =>
  e = .returned (.int .i64 (Lib.compareBytes a b)) ∧ ∃ q os', w' = grow (W.drewN q) os' := by
 have hcon := fun W' => Any.strings_Compare Tryz.laysCmp ⟨a.toArray⟩ ⟨b.toArray⟩ W'
 change ∀ W', Calls Tryz.prog 107 _ _ _ at hcon;simp only at hcon;generalize Lib.compareBytes a b = r at hcon ⊢;obtain ⟨u1, u2, u3, u4, u5, u6, rfl⟩ := len6 hu;obtain ⟨v1, v2, v3, v4, v5, v6, rfl⟩ := len6 hv
 go_enter Tryz.func106, Tryz.ntmps106
 go_wp2_with (go_at_call 107; refine (hcon _).mono ?_; rintro e w' ⟨rfl, rfl⟩)
 go_ret
 exact ⟨rfl, 0, _, by rw [alloc_eq_grow, alloc_eq_grow, grow_grow]; rfl⟩
end Go.Proofs
namespace Go.Proofs
open Go Av
open Av.Y
def ir37 : Ic := q (.reg (oN 2 v6<|N))<|q (R (oo 7 (.bld v6 [(0,1,i 9)])<|oN 3 v6<|oS 6 3 7<|N) [7])<|q (q (.reg (om 8 0<|oh 9 8<|oz 10 0<|N))<|D (.block 0<|.loop (q (.reg (ot 11 .lss 10 9<|N))<|q (D (I 11 S (E 0)) [11])<|q (D (.block 1<|q (R (om 12 10<|oa true 13 7 8 10<|oL 14 7 13<|oN 5 v7<|om 4 12<|oS 7 5 14<|N) [12,13,14])<|q (R (om 15 0<|om 16 4<|oi 17 .add 16 1<|oo 18 (.slc 7 (t 15) (some (t 17)) none none)<|oo 19 (.fnv (.func 104) [] [t 5])<|cl 20 103 [t 18,t 19]<|om 6 20<|N) [4,15,16,17,18,19,20])<|q (R (of 21 5 1<|oL 22 6 21<|cl 23 88 [t 22]<|og 24 23<|om 25 24<|.sc 25 true (om 26 6<|og 27 26<|N) (t 27) 28 N) [6,21,22,23,24,25])<|D (I 28 (R (of 29 3 5<|ol 30 29<|oL 31 7 5<|oo 32 (.bls 7 [t 31])<|oo 33 (.app 7 (t 30) (t 32))<|of 34 3 5<|os 34 33<|N) [5,28,29,30,31,32,33,34]) S) [5,28]) [])<|R (oi 35 .add 10 1<|om 10 35<|N) [35])) [0,8,9,10,11,5,4,6])<|q (R (of 36 3 5<|ol 37 36<|cl 38 105 [t 37,.k (.fn (.func 106) [] [])]<|N) [36,37,38])<|q (R (oL 39 6 3<|cl 40 54 [t 39]<|oS 6 2 40<|N) [3,39,40])<|.ret
theorem ok37 : FT 37 41 ir37 [.cell 2 (some 6)] := .o Tryz.func37
def ir103 : Ic := q (R (ow 4 false<|N) [4])<|q (R (om 5 0<|om 6 1<|cl 7 160 [t 5,t 6]<|oi 8 .geq 7 0<|om 4 8<|N) [0,1,5,6,7,8])<|.ret
theorem ok103 : FT 103 9 ir103 [.tmp 4] := .o Tryz.func103
def ir104 : Ic := q (R (ox 2 0<|ow 3 false<|N) [0,3])<|q (R (of 4 2 0<|ol 5 4<|of 6 1 0<|ol 7 6<|ot 8 .seq 5 7<|om 9 8<|.sc 9 true (of 10 2 1<|oL 11 6 10<|cl 12 88 [t 11]<|og 13 12<|N) (t 13) 14 (om 3 14<|N)) [2,4,5,6,7,8,9,14])<|.ret
theorem ok104 : FT 104 15 ir104 [.tmp 3] := .o Tryz.func104
end Go.Proofs
set_option maxHeartbeats 2000000
namespace Av
open Go
variable [Glb] [Rls]
theorem PCon.callDat {P : Program} {f : Nat} {args : List Av} {ds : List Dat} {r : Av} {T : List (Nat × Option Obj)} {ups : List (Nat × Obj)} {p : Prop} (h : PCon P f ds r) (hr : pureR r)
  (hd : ∀ H : Heap, (∀ e ∈ T, H e.1 = e.2) → datumAll H args = some (p, ds, ups)) (hp : p) : CallOK P f args T r ups := by
 intro β A w H vs hT hc hvs;obtain ⟨A1, s1, l1, r1, m1⟩ := datumAll_ok hc (hd H hT) hp (us := vs.toList) (sX hvs.1) (fun k c u h1 h2 => hvs.2 k c u h1 (sX h2));have := h.call hr β A1 w _ vs sP s1.core ⟨by simpa using l1, fun k c u h1 h2 => by
  rw [List.getElem?_map] at h1;cases hq : ds[k]? with
  | none => rw [hq] at h1; cases h1
  | some x =>
   rw [hq] at h1;cases h1;exact .d _ _ (r1 k x u hq (sX h2))⟩
 rcases this with ⟨a1, a2⟩ | ⟨u, w', a1, β', A', a2, a3⟩
 ·refine .inl ⟨a1, a2.mono ?_⟩;rintro e w' ⟨u, rfl, β', A', b1, b2⟩;exact ⟨u, rfl, β', A', s1.trans b1, b2⟩
 ·exact .inr ⟨u, w', a1, β', A', s1.trans a2, a3⟩
theorem PCon.canon {P : Program} {f : Nat} {ds : List Dat} {v : Av} (h : PCon P f (ds.map Dat.canon) v) : PCon P f ds v := ⟨h.1, fun β A w vs hc hvs => h.2 β A w vs hc ⟨by simpa using hvs.1, fun k c u h1 h2 => by
 rw [List.getElem?_map, List.getElem?_map] at h1;cases e : ds[k]? with
 | none => rw [e] at h1; cases h1
 | some x =>
  rw [e] at h1;cases h1;exact VRep.canon (hvs.2 k (.d x) u (by rw [List.getElem?_map, e]; rfl) h2)⟩⟩
end Av
namespace Go.Proofs
open Go Av
theorem ixF_any (q : Fld → Bool) (l : List Fld) : decide (ixF q l ≥ 0) = l.any q := by
 unfold ixF;cases e : l.findIdx? q with
 | none =>
  rw [List.findIdx?_eq_none_iff] at e;have : l.any q = false := by rw [List.any_eq_false]; intro x hx; rw [e x hx]; decide
  rw [this]; rfl
 | some k =>
  obtain ⟨h1, h2, _⟩ := List.findIdx?_eq_some_iff_getElem.1 e;have : l.any q = true := List.any_eq_true.2 ⟨_, List.getElem_mem h1, h2⟩;rw [this];simp
theorem walk103 {g : Nat} {cs : List Dat} {q : Fld → Bool} (hq : ∀ x, PT g [encF x, .ptr cs] (.d (.bool (q x)))) (l : List Fld) (hl : l.length ≤ 68719476736) :
  PT 103 [.list 7 (l.map encF), cloD g cs] (.d (.bool (l.any q))) := by
 refine ok103.pc ?_;have c := (walk160 hq l hl).call trivial;rw [← ixF_any];simp only [go_sem, ir103, simprocAttr];refine wc c trivial
theorem encF_cells (f : Fld) : (encF f).cells = [.str f.name, .int .i64 f.value.kind, .int .i64 f.value.int, .int .i64 f.value.scale, .str f.value.text, .list 6 (f.value.list.map encV), .list 7 (f.value.fields.map encF)] := by rw [encF_eq]; rfl
def shdB (f g : Fld) : Bool := g.name == f.name && !nullV g.value
theorem walk104 (g f : Fld) : PT 104 [encF g, .ptr (encF f).cells] (.d (.bool (shdB f g))) := by
 refine ok104.pc ?_;have c := (walk88 g.value).call trivial;unfold shdB;generalize nullV g.value = N at *;rw [encV_eq] at c;rw [encF_eq g, encF_cells];simp only [go_sem, ir104, Nat.reduceAdd, Nat.reduceEqDiff, Nat.reduceBEq, Nat.reduceLeDiff, reduceCtorEq, ↓reduceIte];refine ⟨by decide, ?_⟩;refine sq (!N) ?_ ?_
 ·refine zz ?_;refine wc c trivial
 exact zz trivial
def kepR : List Fld → List Fld
 | [] => []
 | f :: r => if (!nullV f.value && !(r.any (shdB f))) = true then f :: kepR r else kepR r
theorem kepR_mem : ∀ {l : List Fld} {g : Fld}, g ∈ kepR l → g ∈ l ∧ nullV g.value = false
 | f :: r, g, h => by
  rw [kepR] at h;split at h
  ·rename_i h1;rcases List.mem_cons.1 h with rfl | h
   ·rw [Bool.and_eq_true] at h1;exact ⟨List.mem_cons_self, by simpa using h1.1⟩
   ·have := kepR_mem h;exact ⟨List.mem_cons_of_mem _ this.1, this.2⟩
  ·have := kepR_mem h;exact ⟨List.mem_cons_of_mem _ this.1, this.2⟩
theorem kepR_nd : ∀ l : List Fld, (kepR l).Pairwise fun x y => x.name ≠ y.name
 | [] => List.Pairwise.nil
 | f :: r => by
  rw [kepR];split
  ·rename_i h1;rw [Bool.and_eq_true] at h1;refine List.Pairwise.cons (fun g hg he => ?_) (kepR_nd r);obtain ⟨a, b⟩ := kepR_mem hg;have : r.any (shdB f) = true := List.any_eq_true.2 ⟨g, a, by unfold shdB; rw [b, ← he]; simp⟩;rw [this] at h1;cases h1.2
  ·exact kepR_nd r
theorem kepR_len : ∀ l : List Fld, (kepR l).length ≤ l.length
 | [] => Nat.le_refl _
 | f :: r => by
  rw [kepR];have := kepR_len r;split <;> simp only [List.length_cons] <;> omega
theorem step37 (l : List Fld) (hl : l.length ≤ 68719476735)
  (hs : ∀ (i v : Nat) (fs : List Fld), fs.Pairwise (fun x y => x.name ≠ y.name) → CT 105 [.ms i v, .d (.fn (.func 106) [] [])] [(i, some (.row v 7 (fs.map encF)))] (.tup []) [(i, .row v 7 ((srtF fs).map encF))]) :
  PT 37 [.list 7 (l.map encF)] (.d (encV (.mk 9 0 0 [] [] (srtF (kepR l))))) := by
 refine ok37.pc ?_;simp only [go_sem, ir37, List.length_map, simprocAttr];refine wpc_loop (fun n s => ∃ (k : Nat) (acc : List Fld), k ≤ l.length ∧ n = l.length - k ∧ acc ++ kepR (l.drop k) = kepR l ∧
  s = ⟨[(0, .d (.list 7 (l.map encF))), (2, .ref 2 0), (3, .ref 3 0), (8, .d (.list 7 (l.map encF))), (9, .d (.int .i64 l.length)), (10, .d (.int .i64 k))],
   [(2, .box [.d (.int .i64 0), .d (.int .i64 0), .d (.int .i64 0), .d (.str []), .d (.nil 6), .d (.nil 7)]),
    (3, .box [.d (.int .i64 9), .d (.int .i64 0), .d (.int .i64 0), .d (.str []), .d (.nil 6), .ms 200 acc.length]), (200, .row acc.length 7 (acc.map encF))]⟩) ?_ ?_
 ·refine ⟨_, _, (Wk.nilB 3 5 200 7 _ rfl rfl rfl dC).trans (Wk.less ?_), 0, [], Nat.zero_le _, rfl, rfl, rfl⟩;simp [put, go_sem]
 ·rintro n s ⟨k, acc, hk, rfl, hinv, rfl⟩;by_cases hlt : k < l.length
  ·have hx := nth_encF hlt;have hd := dT hlt;have hdr := List.drop_eq_getElem_cons hlt;rw [hdr, kepR] at hinv;have hal : acc.length ≤ 68719476735 := by
    have h1 := congrArg List.length hinv;have h2 := kepR_len l;rw [List.length_append] at h1;omega
   have cu := CallOK.clo (ds := [.list 7 ((l.drop (k + 1)).map encF)]) (walk103 (fun x => walk104 x l[k]) (l.drop (k + 1)) sO) rfl 5;have c88 := (walk88 l[k].value).call trivial;rw [encF_cells] at cu;simp only [List.map_cons, List.map_nil, List.cons_append, List.nil_append, List.map_drop] at cu;have ht : List.take ((l.length : Int) - ((k + 1 : Nat) : Int)).toNat (List.drop (k + 1) (l.map encF)) = List.drop (k + 1) (l.map encF) := List.take_of_length_le sO;generalize l[k] = f at *;rw [encV_eq] at c88;simp only [go_sem, hx, hd, wrap64s k oM, ht, Int.toNat_natCast, List.length_map, simprocAttr];refine ⟨⟨oM, oM⟩, ⟨oM, oM, oM⟩, ?_⟩;refine wn cu ?_;refine zz4 ?_;refine wn c88 ?_;refine zz4 ?_;refine sq (!((l.drop (k + 1)).any (shdB f))) ?_ ?_
   ·exact zz4 trivial
   refine zz4 ?_;apply ik <;> intro h
   ·rw [if_pos h] at hinv;refine ⟨fun y hy => by rw [List.mem_singleton.1 hy]; rfl, by simpa using hal, l.length - (k + 1), _, oM, Wk.less ?_, k + 1, acc ++ [f], oM, rfl, by rw [List.append_assoc]; exact hinv, rfl⟩;simp only [go_sem, wrap64s k oM, List.length_append, List.length_cons, List.length_nil, List.map_append, List.map_cons, List.map_nil, encF_eq f, Nat.zero_add, simprocAttr]
   ·rw [if_neg (nF h)] at hinv;refine ⟨l.length - (k + 1), _, oM, Wk.less ?_, k + 1, acc, oM, rfl, hinv, rfl⟩;exact zz7 trivial
  ·have hd := dF hlt;obtain rfl : k = l.length := oM;rw [List.drop_length, kepR, List.append_nil] at hinv;subst hinv;refine zz22 ?_;refine wc (hs 200 _ _ (kepR_nd l)) ?_;have e54 : encV (.mk 9 0 0 [] [] (srtF (kepR l))) = .agg [.int .i64 9, .int .i64 0, .int .i64 0, .str [], .list 6 [], .list 7 ((srtF (kepR l)).map encF)] := (encV_eq _).trans rfl;have c54 : CT (.fn 54) [.agg [.d (.int .i64 9), .d (.int .i64 0), .d (.int .i64 0), .d (.str []), .d (.nil 6), .ms 200 (kepR l).length]] [(200, some (.row (kepR l).length 7 ((srtF (kepR l)).map encF)))] (.d (encV (.mk 9 0 0 [] [] (srtF (kepR l))))) [(200, .frz (kepR l).length 7 ((srtF (kepR l)).map encF))] := by
    have h54 : PT 54 [.agg [.int .i64 9, .int .i64 0, .int .i64 0, .str [], .nil 6, .list 7 ((srtF (kepR l)).map encF)]] (.d (encV (.mk 9 0 0 [] [] (srtF (kepR l))))) := by
     refine PCon.canon ?_;have := p54 (.mk 9 0 0 [] [] (srtF (kepR l)));rw [e54] at this ⊢;simpa only [List.map_cons, List.map_nil, Dat.canon, canonL, canonL_flds] using this
    refine PCon.callDat (p := (True ∧ True ∧ True ∧ True ∧ True ∧ (kepR l).length = (kepR l).length ∧ True) ∧ True) h54 trivial (fun H hT => ?_) ?_
    ·have hi := hT _ (List.mem_singleton.2 rfl);simp only at hi;simp only [datumAll, datum, datums, datum1, hi, hputs, List.append_nil, List.nil_append]
    ·simp
   rw [e54] at c54 ⊢;refine wc c54 trivial
end Go.Proofs
namespace Go.Proofs
open Go Av
open Av.Y
def ir105 : Ic := q (R (om 5 0<|oh 6 5<|om 4 6<|N) [5,6])<|R (om 7 0<|om 8 4<|om 9 4<|oo 10 (.cvi .u64 (t 9))<|cl 11 185 [t 10]<|om 12 1<|cl 13 205 [t 7,i 0,t 8,t 11,t 12]<|N) [0,1,4,7,8,9,10,11,12,13]
theorem ok105 : FT 105 14 ir105 [] := .o Tryz.func105
end Go.Proofs
namespace Go.Proofs
open Go Av Go.Shelf Go.RowKit Go.Lib Go.Sort
theorem sort105 (i v : Nat) (fs : List Fld) (hnd : fs.Pairwise fun x y => x.name ≠ y.name) :
  CT 105 [.ms i v, .d (.fn (.func 106) [] [])] [(i, some (.row v 7 (fs.map encF)))] (.tup []) [(i, .row v 7 ((srtF fs).map encF))] := by
 have eg : ∀ args w, (callFunc 106 args).run Tryz.prog w = .ok (.enter 106 args) w := enters_of Tryz.func106 kR rfl;exact CallOK.sortF ok105.has (fun α _ enc cf b cap d w hk h1 hO hcmp hH hblk hsz hT => AnyQ.slices_SortFunc_total Tryz.laysSF 7 Tryz.isAgg113 Tryz.sizeOf113 enc hk h1 cf hO 106 #[] b 0 cap d w eg hcmp hH hblk hsz hT)
  (fun p cap fv w => AnyF.slices_SortFunc_none Tryz.laysSF p cap fv w) clo106 i v fs hnd
theorem walk37 (l : List Fld) (hl : l.length ≤ 68719476735) : PT 37 [.list 7 (l.map encF)] (.d (encV (.mk 9 0 0 [] [] (srtF (kepR l))))) := step37 l hl sort105
theorem rec0 : Rec0 := fun l hl => ⟨_, walk37 l oM⟩
end Go.Proofs
namespace Go.Proofs
open Go.Shelf
def Tryz.laysCloneI_ren : Go.Shelf.Ren := ⟨fun | 15 => 135 | n => n, fun | 22 => 42 | 3 => 3 | 4 => 4 | n => n, fun | n => n⟩
theorem Tryz.laysCloneI : Go.Proofs.Lays2.n15 Tryz.prog Tryz.laysCloneI_ren := {
 mixed := kR
 f15 := Tryz.func135.trans (congrArg some kR)
 t3 := Tryz.underlying3
 a3 := Tryz.isAgg3
 z3 := Tryz.sizeOf3
 v3 := Tryz.zeroValue3
 t4 := Tryz.underlying4
 a4 := Tryz.isAgg4
 z4 := Tryz.sizeOf4
 v4 := Tryz.zeroValue4
 t22 := Tryz.underlying42
 a22 := Tryz.isAgg42
 z22 := Tryz.sizeOf42
 v22 := Tryz.zeroValue42
 i3 := by kernel_rfl }
end Go.Proofs
namespace Av
open Go Go.RowKit
variable [Glb] [Rls]
theorem flat_ints (ss : List Int) : flat (ss.map (.int .i64)) = ss.map (.int .i64) := by
 induction ss with
 | nil => rfl
 | cons x r ih => simp only [flat, List.map_cons, List.flatMap_cons, Dat.cells, List.singleton_append, List.cons.injEq, true_and]; exact ih
theorem rep_ownsI {A : Nat → Prop} {w w' : World} {e : TypeId} {v : Value} {n : Nat} {ss : List Int} (hn : n = ss.length) (hs : ∀ s ∈ ss, IntKind.i64.min ≤ s ∧ s ≤ IntKind.i64.max) (hl : ss.length ≤ 68719476736)
  (h : w'.ownsRow w.heap.size e 1 v n (ss.map (Value.int .i64))) : Rep (fun b => A b ∨ (w.heap.size ≤ b ∧ b < w'.heap.size)) w' (.list 1 (ss.map (.int .i64))) v := by
 obtain ⟨h1, ⟨rfl, h0⟩ | ⟨g, cap, cur, rfl, hg, hh, hcap, _, hcur, htake⟩⟩ := h
 ·have : ss = [] := by cases ss with
   | nil => rfl
   | cons a r => simp at hn; omega
  subst this;exact .emp 1 none 0
 ·have hlt : g < w'.heap.size := (Array.getElem?_eq_some_iff.1 hh).1;refine .list 1 _ g 0 n cap (ss.map (Value.int .i64)) (sX hn) (.inr ⟨hg, hlt⟩) sO (sX hl) ?_ ?_ ?_ ?_ ?_
  ·intro u hu; obtain ⟨s, _, rfl⟩ := List.mem_map.1 hu; rfl
  ·intro x hx; obtain ⟨s, _, rfl⟩ := List.mem_map.1 hx; rfl
  ·intro i u hu;have : (cur.toList.take (n * 1))[i]? = some u := by rw [htake]; exact hu
   rw [List.getElem?_take] at this;split at this
   ·simp only [World.cell?, hh, Nat.zero_add];simpa using this
   ·cases this
  ·rw [flat_ints]; simp
  ·intro i c u hc hu;rw [flat_ints, List.getElem?_map] at hc;rw [List.getElem?_map] at hu;cases hq : ss[i]? with
   | none => rw [hq] at hc; cases hc
   | some s =>
    rw [hq] at hc hu;cases hc;cases hu;exact .int _ _ (hs s (List.mem_of_getElem? hq))
end Av
namespace Go.Proofs
open Go Av Go.RowKit
theorem clone135 (ss : List Int) : CT 135 [.d (.list 1 (ss.map (.int .i64)))] [] (.d (.list 1 (ss.map (.int .i64)))) [] := by
 refine CallOK.of_callsN (ds := [.list 1 (ss.map (.int .i64))]) ⟨_, Tryz.func135, kR, kR⟩ fun A w vs hl hv => ?_
 obtain ⟨v, rfl⟩ := size_one (sX hl);have hr := hv 0 _ v rfl rfl;have hf := hr.fits;simp only [fits, List.length_map] at hf;have hfl : (flat (ss.map (Dat.int .i64))) = ss.map (.int .i64) := flat_ints ss;have hs : ∀ s ∈ ss, IntKind.i64.min ≤ s ∧ s ≤ IntKind.i64.max := fun s h => fitsL_iff.1 hf.2 (.int .i64 s) (List.mem_map.2 ⟨s, h, rfl⟩)
 generalize hD : ss.map (Dat.int .i64) = D at hr hfl;cases hr with
 | emp _ a cap =>
  obtain rfl : ss = [] := List.map_eq_nil_iff.1 hD;cases a with
  | none => exact (Any.slices_Clone_int_nil Tryz.laysCloneI 0 cap w).mono fun e w' ⟨h1, h2⟩ => ⟨_, h1, by rw [h2]; exact Below.refl _ _, .emp 1 none 0⟩
  | some a =>
   refine (Any.slices_Clone_int_zero Tryz.laysCloneI a cap w).mono ?_;rintro e w' ⟨v', rfl, h, _, hb⟩;exact ⟨_, rfl, hb, rep_ownsI (ss := []) rfl sP sP h⟩
 | list _ _ b o n cap vs hn hA hcap hc h1 hsz hh hvl hvv =>
  subst hD;have hlen : n = ss.length := sX hn;have hcell : ∀ j (h : j < ss.length), vs[j]? = some (.int .i64 ss[j]) := by
   intro j h;rw [flat_ints] at hvl;have hj : j < vs.length := by simp at hvl; omega
   have := hvv j (.int .i64 ss[j]) vs[j] (by rw [flat_ints]; simp [h]) (by simp [hj]);rw [List.getElem?_eq_getElem hj];generalize vs[j] = z at this;cases this;rfl
  refine (Any.slices_Clone_int Tryz.laysCloneI b o n cap ss w oM oM ?_).mono ?_
  ·intro j hj;have := hh j _ (hcell j hj);rw [this];simp [hj]
  ·rintro e w' ⟨v', rfl, h, _, hb⟩;rw [List.take_of_length_le oM] at h;exact ⟨_, rfl, hb, rep_ownsI hlen hs hf.1 h⟩
end Go.Proofs
set_option maxHeartbeats 2000000
namespace Go.Proofs
open Go Av
structure Nod where
 name : Str
 kind : Int
 res : Int
 num : Int
 time : Int
 lim : Int
 text : Str
 next : List Int
def encNd (n : Nod) : Dat := .agg [.str n.name, .int .i64 n.kind, .int .i64 0, .int .i64 n.res, .int .i64 n.num, .int .i64 n.time, .int .i64 n.lim, .str n.text, .int .i64 0, .int .i64 0, .int .i64 0, .int .i64 0, .list 1 [], .list 7 [], .list 11 [],
 .list 7 [], .list 5 [], .list 6 [], .list 2 [], .list 1 (n.next.map (.int .i64))]
def encSc (t : Typ) : Dat := .agg [.str [110, 111, 116, 101], .int .i64 1, .int .i64 t.kind, .int .i64 t.min, .int .i64 t.max, .int .i64 t.scale, .list 1 (t.words.map .str), .list 7 (t.elem.map encT), .list 11 (t.fields.map encG)]
def encPl (t : Typ) (ns : List Nod) : Dat := .agg [.int .i64 1, .list 9 [encSc t], .list 7 [], .list 4 [], .list 20 (ns.map encNd)]
theorem nth_encNd {xs : List Nod} {k : Nat} (h : k < xs.length) : nth (xs.map encNd) k = encNd xs[k] := by rw [nth_eq (sX h), List.getElem_map]
def stpN (n : Nod) : Bool := decide (n.kind ≥ 1) && decide (n.kind ≤ 14)
theorem walk41 (n : Nod) : PT 41 [encNd n] (.d (.bool (stpN n))) := by
 refine ok41.pc ?_;simp only [go_sem, encNd, ir41, simprocAttr];refine sq (decide (n.kind ≤ 14)) ?_ ?_
 all_goals simp only [go_sem, stpN, simprocAttr]
def samN (a n : Nod) : Bool := stpN n && n.name == a.name
theorem walk40 (n a : Nod) : PT 40 [encNd n, .ptr (encNd a).cells] (.d (.bool (samN a n))) := by
 refine ok40.pc ?_;have c := (walk41 n).call trivial;unfold samN;generalize stpN n = S at *;simp only [encNd, Dat.cells] at c ⊢;simp only [go_sem, ir40, simprocAttr];refine wc c ?_;refine sq (n.name == a.name) ?_ ?_
 ·refine zz ?_;decide
 exact zz trivial
theorem walk43 (t : Typ) (ns : List Nod) (n : Nod) : PT 43 [encPl t ns, encNd n] (.d (encT t)) := by
 refine ok43.pc ?_;rw [encT_eq];simp only [go_sem, encNd, encPl, encSc, ir43, Nat.reduceAdd, Nat.reduceEqDiff, Nat.reduceBEq, Nat.reduceLeDiff, reduceCtorEq, ↓reduceIte];have h1 : decide ((0 : Int) < 0) = false := rfl;have h0 : ∀ x : Dat, nth [x] 0 = x := fun _ => rfl
 have h2 : decide ((0 : Int) ≥ ((1 : Nat) : Int)) = false := by decide
 refine scQ_pure false (fun _ => ?_) ?_
 ·simp only [go_sem, List.length_cons, List.length_nil, Nat.zero_add, h2, Nat.reduceAdd, Nat.reduceEqDiff, Nat.reduceBEq, Nat.reduceLeDiff, reduceCtorEq, ↓reduceIte]
  try rfl
 simp only [go_sem, h1, h0, Bool.or_false, List.length_cons, List.length_nil, Nat.zero_add, Int.toNat_zero, Nat.reduceAdd, Nat.reduceEqDiff, Nat.reduceBEq, Nat.reduceLeDiff, reduceCtorEq, ↓reduceIte];exact ⟨by decide, by decide⟩
def ixNd (q : Nod → Bool) (l : List Nod) : Int := match l.findIdx? q with
 | some k => (k : Int)
 | none => -1
theorem ix39 {g : Nat} {cs : List Dat} {q : Nod → Bool} (l : List Nod) (hq : ∀ x ∈ l, PT g [encNd x, .ptr cs] (.d (.bool (q x)))) (hl : l.length ≤ 68719476736) :
  PT 39 [.list 20 (l.map encNd), cloD g cs] (.d (.int .i64 (ixNd q l))) := by
 refine ok39.pc ?_;simp only [go_sem, ir39, List.length_map, simprocAttr];refine wpc_loop (fun n s => ∃ k : Nat, k ≤ l.length ∧ n = l.length - k ∧ (∀ (j : Nat) (h1 : j < l.length), j < k → q l[j] = false) ∧
  s = ⟨[(0, .d (.list 20 (l.map encNd))), (1, .d (cloD g cs)), (7, .d (.int .i64 l.length)), (8, .d (.int .i64 k))], []⟩) ?_ ?_
 ·exact ⟨_, _, Wk.refl _, 0, Nat.zero_le _, rfl, sP, rfl⟩
 ·rintro n s ⟨k, hk, rfl, hinv, rfl⟩;by_cases hlt : k < l.length
  ·have hx := nth_encNd hlt;have hd := dT hlt;have hc := (hq l[k] (List.getElem_mem _)).call trivial;simp only [encNd] at hc hx;refine zz6 ?_;refine ⟨oM, wn hc ?_⟩;refine zz ?_;apply ik <;> intro hf
   ·have : l.findIdx? q = some k := by
     rw [List.findIdx?_eq_some_iff_getElem];exact ⟨hlt, hf, fun j hj => by rw [hinv j oM hj]; decide⟩
    simp only [ixNd, this]
   ·refine ⟨l.length - (k + 1), _, oM, Wk.less ?_, k + 1, oM, rfl, ?_, rfl⟩
    ·exact zz7 trivial
    ·intro j h1 hj;by_cases e : j = k
     ·subst e; exact hf
     ·exact hinv j h1 oM
  ·have hd := dF hlt;refine zz5 ?_;have : l.findIdx? q = none := by
    rw [List.findIdx?_eq_none_iff];intro x hx;obtain ⟨j, hj, rfl⟩ := List.getElem_of_mem hx;exact hinv j hj oM
   simp only [ixNd, this]
theorem walk209 (l : List Int) (x : Int) (hl : l.length ≤ 68719476736) : PT 209 [.list 1 (l.map (.int .i64)), .int .i64 x] (.d (.int .i64 (match l.findIdx? (x == ·) with | some k => (k : Int) | none => -1))) := by
 refine ok209.pc ?_;simp only [go_sem, ir209, List.length_map, simprocAttr];refine wpc_loop (fun n s => ∃ k : Nat, k ≤ l.length ∧ n = l.length - k ∧ (∀ (j : Nat) (h1 : j < l.length), j < k → (x == l[j]) = false) ∧
  s = ⟨[(0, .d (.list 1 (l.map (.int .i64)))), (1, .d (.int .i64 x)), (7, .d (.int .i64 l.length)), (8, .d (.int .i64 k))], []⟩) ?_ ?_
 ·exact ⟨_, _, Wk.refl _, 0, Nat.zero_le _, rfl, sP, rfl⟩
 ·rintro n s ⟨k, hk, rfl, hinv, rfl⟩;by_cases hlt : k < l.length
  ·have hx : nth (l.map (.int .i64)) k = .int .i64 l[k] := by rw [nth_eq (sX hlt), List.getElem_map]
   have hd := dT hlt;refine zz6 ?_;refine ⟨oM, dC, fun hf => ?_, fun hf => ?_⟩
   ·have : l.findIdx? (x == ·) = some k := by
     rw [List.findIdx?_eq_some_iff_getElem];exact ⟨hlt, hf, fun j hj => by rw [hinv j oM hj]; decide⟩
    simp only [this]
   ·refine ⟨l.length - (k + 1), _, oM, Wk.less ?_, k + 1, oM, rfl, ?_, rfl⟩
    ·exact zz7 trivial
    ·intro j h1 hj;by_cases e : j = k
     ·subst e; exact hf
     ·exact hinv j h1 oM
  ·have hd := dF hlt;refine zz5 ?_;have : l.findIdx? (x == ·) = none := by
    rw [List.findIdx?_eq_none_iff];intro y hy;obtain ⟨j, hj, rfl⟩ := List.getElem_of_mem hy;exact hinv j hj oM
   simp only [this]
theorem walk112 (l : List Int) (x : Int) (hl : l.length ≤ 68719476736) : PT 112 [.list 1 (l.map (.int .i64)), .int .i64 x] (.d (.bool (l.any (x == ·)))) := by
 refine ok112.pc ?_;have c := (walk209 l x hl).call trivial;have h : decide ((match l.findIdx? (x == ·) with | some k => (k : Int) | none => -1) ≥ 0) = l.any (x == ·) := by
  cases e : l.findIdx? (x == ·) with
  | none =>
   rw [List.findIdx?_eq_none_iff] at e;have : l.any (x == ·) = false := by rw [List.any_eq_false]; intro y hy; rw [e y hy]; decide
   rw [this]; rfl
  | some k =>
   obtain ⟨h1, h2, _⟩ := List.findIdx?_eq_some_iff_getElem.1 e;have : l.any (x == ·) = true := List.any_eq_true.2 ⟨_, List.getElem_mem h1, h2⟩;rw [this];simp
 rw [← h];simp only [go_sem, ir112, simprocAttr];refine wc c trivial
def hldN (n : Nod) : Bool := [4, 5, 7, 8, 9, 10].any (n.kind == ·)
theorem walk42 (n : Nod) : PT 42 [encNd n] (.d (.bool (hldN n))) := by
 refine ok42.pc ?_;have c := (walk112 [4, 5, 7, 8, 9, 10] n.kind dC).call trivial;unfold hldN;generalize ([4, 5, 7, 8, 9, 10].any (n.kind == ·)) = R at *;simp only [List.map_cons, List.map_nil] at c;simp only [go_sem, encNd, ir42, simprocAttr];refine ⟨fun y hy => ?_, ?_⟩
 ·simp only [List.mem_cons, List.not_mem_nil, or_false] at hy;rcases hy with rfl | rfl | rfl | rfl | rfl | rfl <;> rfl
 refine wc c trivial
def rulM : List (Dat × Dat) := [(.int .i64 4, .fn (.func 108) [] []), (.int .i64 6, .fn (.func 108) [] []), (.int .i64 5, .fn (.func 110) [] []), (.int .i64 9, .fn (.func 111) [] []), (.int .i64 10, .fn (.func 111) [] [])]
theorem walk38 : PT 38 [] (.d (.map rulM)) := by
 refine ok38.pc ?_;simp only [go_sem, ir38, findM, putM, keyOk, cellEq, Int.reduceBEq, simprocAttr];rfl
structure Msg where
 entry : Int
 path : List Int
 mass : Int
 orig : List Int
 body : Val
def encM (m : Msg) : Dat := .agg [.int .i64 m.entry, .list 1 (m.path.map (.int .i64)), .int .i64 m.mass, .list 1 (m.orig.map (.int .i64)), .int .i64 m.body.kind, .int .i64 m.body.int, .int .i64 m.body.scale, .str m.body.text, .list 6 (m.body.list.map encV), .list 7 (m.body.fields.map encF)]
theorem canonL_i64 (l : List Int) : canonL (l.map (.int .i64)) = l.map (.int .i64) := by
 rw [canonL_map, List.map_map];exact List.map_congr_left fun p _ => by simp [Dat.canon]
theorem walk134 (e : Int) (l : List Int) : PT 134 [.agg [.int .i64 e, .list 1 (l.map (.int .i64))]] (.d (.agg [.int .i64 e, .list 1 (l.map (.int .i64))])) := by
 refine ok134.pc ?_;simp only [go_sem, ir134, simprocAttr];refine wpsL_call rfl (clone135 l) trivial ?_;refine zz ?_;exact ⟨dC, by rw [canonL_i64]⟩
theorem walk60 (m : Msg) : PT 60 [encM m] (.d (encM m)) := by
 refine ok60.pc ?_;have c1 := (walk134 m.entry m.path).call trivial;have c2 := (p54 m.body).call trivial;rw [encV_eq] at c2;simp only [go_sem, encM, ir60, simprocAttr];refine wpsL_call rfl c1 trivial ?_;refine zz ?_;refine wpsL_call rfl (clone135 m.orig) trivial ?_;refine zz ?_;refine wpsL_call rfl c2 trivial ?_;refine zz ?_;exact ⟨dC, by rw [canonL_i64, canonL_i64]⟩
noncomputable def bodR (N : Nat) (o t : Typ) (v : Val) : Val × Int := if eqTF N o t = true then (v, 0) else upgT o t v
theorem walk49 (N : Nat) (o t : Typ) (v : Val) (hN : szT o ≤ N) (hb : bY o ≤ 60000000000) (hy : okY o) (hn : nmW v) (hv : szV v ≤ 400000000) :
  PT 49 [encT o, encT t, encV v] (.tup [.d (encV (bodR N o t v).1), .d (.int .i64 (bodR N o t v).2)]) := by
 refine ok49.pc ?_;have c1 := (walk15 N o t hN).call trivial;have c2 := (p54 v).call trivial;have c3 := (walk14 rec0 o t v hb hy hn hv).call (by simp [pureR]);generalize hR : bodR N o t v = R;unfold bodR at hR;generalize upgT o t v = U at *;rw [encT_eq o, encT_eq t] at c1 c3;rw [encV_eq v] at c2 c3;rw [encV_eq U.1] at c3;rw [encT_eq o, encT_eq t, encV_eq v, encV_eq R.1];simp only [go_sem, ir49, simprocAttr];refine wc c1 ?_;apply ik <;> intro h
 ·rw [if_pos h] at hR;subst hR;refine wc c2 trivial
 ·rw [if_neg (nF h)] at hR;subst hR;refine wc c3 trivial
theorem walk48 (N : Nat) (o t : Typ) (v : Val) (hN : szT o ≤ N) (hb : bY o ≤ 60000000000) (hy : okY o) (hn : nmW v) (hv : szV v ≤ 400000000) :
  PT 48 [encV v, .ptr (encT o).cells, .ptr (encT t).cells] (.tup [.d (encV (bodR N o t v).1), .d (.int .i64 (bodR N o t v).2)]) := by
 refine ok48.pc ?_;have c1 := (walk49 N o t v hN hb hy hn hv).call (by simp [pureR]);generalize bodR N o t v = R at *;rw [encT_eq o, encT_eq t, encV_eq v, encV_eq R.1] at c1;rw [encT_cells, encT_cells, encV_eq v, encV_eq R.1];simp only [go_sem, ir48, simprocAttr];refine wc c1 trivial
end Go.Proofs
set_option maxHeartbeats 2000000
namespace Go.Proofs
open Go Av
structure Slt where
 key : Val
 num : Int
 time : Int
 items : List Msg
 vals : List Val
def encL (s : Slt) : Dat := .agg [.int .i64 s.key.kind, .int .i64 s.key.int, .int .i64 s.key.scale, .str s.key.text, .list 6 (s.key.list.map encV), .list 7 (s.key.fields.map encF), .int .i64 s.num, .int .i64 s.time, .list 10 (s.items.map encM), .list 6 (s.vals.map encV)]
theorem nth_encM {xs : List Msg} {k : Nat} (h : k < xs.length) : nth (xs.map encM) k = encM xs[k] := by rw [nth_eq (sX h), List.getElem_map]
theorem nth_encL {xs : List Slt} {k : Nat} (h : k < xs.length) : nth (xs.map encL) k = encL xs[k] := by rw [nth_eq (sX h), List.getElem_map]
theorem canonL_msgs (l : List Msg) : canonL (l.map encM) = l.map encM := by
 rw [canonL_map, List.map_map];exact List.map_congr_left fun p _ => by simp only [Function.comp, encM, Dat.canon, canonL, canonL_i64, canonL_vals, canonL_flds]
theorem canonL_slts (l : List Slt) : canonL (l.map encL) = l.map encL := by
 rw [canonL_map, List.map_map];exact List.map_congr_left fun p _ => by simp only [Function.comp, encL, Dat.canon, canonL, canonL_msgs, canonL_vals, canonL_flds]
theorem walk116 (s : Slt) (h1 : s.items.length ≤ 1000000000) (h2 : s.vals.length ≤ 1000000000) : PT 116 [encL s] (.d (encL s)) := by
 refine ok116.pc ?_;have c54 := (p54 s.key).call trivial;rw [encV_eq s.key] at c54;refine zz55 ?_;refine ⟨⟨Int.le_refl _, oM, oM⟩, ?_⟩;refine wpc_loop (fun n st => ∃ k : Nat, k ≤ s.items.length ∧ n = s.items.length - k ∧
  st = ⟨[(1, .ref 1 0), (2, .ref 2 0), (3, .ms 12 k), (14, .d (.list 10 (s.items.map encM))), (15, .d (.int .i64 s.items.length)), (16, .d (.int .i64 k))],
   [(1, .box [.d (.int .i64 s.key.kind), .d (.int .i64 s.key.int), .d (.int .i64 s.key.scale), .d (.str s.key.text), .d (.list 6 (s.key.list.map encV)), .d (.list 7 (s.key.fields.map encF)), .d (.int .i64 s.num), .d (.int .i64 s.time), .d (.list 10 (s.items.map encM)), .d (.list 6 (s.vals.map encV))]),
    (2, .box [.d (.int .i64 0), .d (.int .i64 0), .d (.int .i64 0), .d (.str []), .d (.nil 6), .d (.nil 7), .d (.int .i64 0), .d (.int .i64 0), .d (.nil 10), .d (.nil 6)]), (12, .row k 10 ((s.items.take k).map encM))]⟩) ?_ ?_
 ·exact ⟨_, _, Wk.refl _, 0, Nat.zero_le _, rfl, sP⟩
 ·rintro n st ⟨k, hk, rfl, rfl⟩;by_cases hlt : k < s.items.length
  ·have hx := nth_encM hlt;have hd := dT hlt;have c := (walk60 s.items[k]).call trivial;have htk := List.take_succ_eq_append_getElem hlt;generalize s.items[k] = m at *;simp only [encM] at c hx;refine zz6 ?_;refine ⟨⟨oM, oM⟩, wn c ?_⟩;refine zz ?_;refine ⟨fun y hy => by rw [List.mem_singleton.1 hy]; rfl, sO, ?_⟩;refine ⟨s.items.length - (k + 1), _, oM, Wk.less ?_, k + 1, oM, rfl, rfl⟩;rw [htk, List.map_append];exact zz56 trivial
  ·have hd := dF hlt;obtain rfl : k = s.items.length := oM;refine zz14 ?_;refine ⟨⟨Int.le_refl _, oM, oM⟩, ?_⟩;refine wpc_loop (fun n st => ∃ k : Nat, k ≤ s.vals.length ∧ n = s.vals.length - k ∧
    st = ⟨[(1, .ref 1 0), (2, .ref 2 0), (3, .ms 12 s.items.length), (6, .ms 29 k), (31, .d (.list 6 (s.vals.map encV))), (32, .d (.int .i64 s.vals.length)), (33, .d (.int .i64 k))],
     [(1, .box [.d (.int .i64 s.key.kind), .d (.int .i64 s.key.int), .d (.int .i64 s.key.scale), .d (.str s.key.text), .d (.list 6 (s.key.list.map encV)), .d (.list 7 (s.key.fields.map encF)), .d (.int .i64 s.num), .d (.int .i64 s.time), .d (.list 10 (s.items.map encM)), .d (.list 6 (s.vals.map encV))]),
      (2, .box [.d (.int .i64 0), .d (.int .i64 0), .d (.int .i64 0), .d (.str []), .d (.nil 6), .d (.nil 7), .d (.int .i64 0), .d (.int .i64 0), .d (.nil 10), .d (.nil 6)]), (12, .row s.items.length 10 (s.items.map encM)), (29, .row k 6 ((s.vals.take k).map encV))]⟩) ?_ ?_
   ·refine ⟨_, _, Wk.less ?_, 0, Nat.zero_le _, rfl, rfl⟩;simp [put, go_sem]
   ·rintro n st ⟨k, hk, rfl, rfl⟩;by_cases hlt : k < s.vals.length
    ·have hx := nth_encV hlt;have hd := dT hlt;have c := (p54 s.vals[k]).call trivial;have htk := List.take_succ_eq_append_getElem hlt;generalize s.vals[k] = m at *;rw [encV_eq] at c;refine zz6 ?_;refine ⟨⟨oM, oM⟩, wn c ?_⟩;refine zz ?_;refine ⟨fun y hy => by rw [List.mem_singleton.1 hy]; rfl, sO, ?_⟩;refine ⟨s.vals.length - (k + 1), _, oM, Wk.less ?_, k + 1, oM, rfl, rfl⟩;rw [htk, List.map_append];exact zz57 trivial
    ·have hd := dF hlt;obtain rfl : k = s.vals.length := oM;refine zz14 ?_;refine wc c54 ?_;rw [canonL_msgs]
structure Sta where
 num : Int
 time : Int
 slots : List Slt
def encU (s : Sta) : Dat := .agg [.int .i64 s.num, .int .i64 s.time, .list 10 (s.slots.map encL)]
theorem walk46 (s : Sta) (h0 : s.slots.length ≤ 1000000000) (h1 : ∀ x ∈ s.slots, x.items.length ≤ 1000000000 ∧ x.vals.length ≤ 1000000000) : PT 46 [encU s] (.d (encU s)) := by
 refine ok46.pc ?_;refine zz58 ?_;refine ⟨⟨Int.le_refl _, oM, oM⟩, ?_⟩;refine wpc_loop (fun n st => ∃ k : Nat, k ≤ s.slots.length ∧ n = s.slots.length - k ∧
  st = ⟨[(1, .ref 1 0), (2, .ref 2 0), (3, .ms 9 k), (11, .d (.list 10 (s.slots.map encL))), (12, .d (.int .i64 s.slots.length)), (13, .d (.int .i64 k))],
   [(1, .box [.d (.int .i64 s.num), .d (.int .i64 s.time), .d (.list 10 (s.slots.map encL))]),
    (2, .box [.d (.int .i64 0), .d (.int .i64 0), .d (.nil 10)]), (9, .row k 10 ((s.slots.take k).map encL))]⟩) ?_ ?_
 ·exact ⟨_, _, Wk.refl _, 0, Nat.zero_le _, rfl, sP⟩
 ·rintro n st ⟨k, hk, rfl, rfl⟩;by_cases hlt : k < s.slots.length
  ·have hx := nth_encL hlt;have hd := dT hlt;obtain ⟨b1, b2⟩ := h1 s.slots[k] (List.getElem_mem hlt);have c := (walk116 s.slots[k] b1 b2).call trivial;have htk := List.take_succ_eq_append_getElem hlt;generalize s.slots[k] = m at *;simp only [encL] at c hx;refine zz6 ?_;refine ⟨⟨oM, oM⟩, wn c ?_⟩;refine zz ?_;refine ⟨fun y hy => by rw [List.mem_singleton.1 hy]; rfl, sO, ?_⟩;refine ⟨s.slots.length - (k + 1), _, oM, Wk.less ?_, k + 1, oM, rfl, rfl⟩;rw [htk, List.map_append];simp only [go_sem, wrap64s k oM, List.map_cons, List.map_nil, encL, simprocAttr]
  ·have hd := dF hlt;obtain rfl : k = s.slots.length := oM;refine zz14 ?_;rw [canonL_slts]
def wtgS (s : Sta) : List Msg := s.slots.flatMap Slt.items
theorem walk16 (s : Sta) (h0 : s.slots.length ≤ 1000000000) (h1 : (wtgS s).length ≤ 1000000000) : PT 16 [encU s] (.d (.list 10 ((wtgS s).map encM))) := by
 refine ok16.pc ?_;simp only [go_sem, encU, ir16, List.length_map, simprocAttr];refine wpc_loop (fun n st => ∃ (k : Nat) (acc : List Msg), k ≤ s.slots.length ∧ n = s.slots.length - k ∧ acc ++ (s.slots.drop k).flatMap Slt.items = wtgS s ∧
  st = ⟨[(3, .ms 200 acc.length), (9, .d (.list 10 (s.slots.map encL))), (10, .d (.int .i64 s.slots.length)), (11, .d (.int .i64 k))], [(200, .row acc.length 10 (acc.map encM))]⟩) ?_ ?_
 ·refine ⟨_, _, (Wk.nilT 3 200 10 rfl rfl dC).trans (Wk.less ?_), 0, [], Nat.zero_le _, rfl, rfl, rfl⟩;simp [put, go_sem]
 ·rintro n st ⟨k, acc, hk, rfl, hinv, rfl⟩;by_cases hlt : k < s.slots.length
  ·have hx := nth_encL hlt;have hd := dT hlt;rw [List.drop_eq_getElem_cons hlt, List.flatMap_cons] at hinv;generalize s.slots[k] = m at *;simp only [encL] at hx;refine zz6 ?_;refine ⟨⟨oM, oM⟩, ?_⟩;refine wpc_loop (fun n st => ∃ (j : Nat), j ≤ m.items.length ∧ n = m.items.length - j ∧
    st = ⟨[(3, .ms 200 (acc.length + j)), (9, .d (.list 10 (s.slots.map encL))), (10, .d (.int .i64 s.slots.length)), (11, .d (.int .i64 k)), (16, .d (.list 10 (m.items.map encM))), (17, .d (.int .i64 m.items.length)), (18, .d (.int .i64 j))],
     [(200, .row (acc.length + j) 10 ((acc ++ m.items.take j).map encM))]⟩) ?_ ?_
   ·refine ⟨_, _, Wk.less ?_, 0, Nat.zero_le _, rfl, rfl⟩;simp [put, go_sem]
   ·rintro n st ⟨j, hj, rfl, rfl⟩;have hlen : acc.length + m.items.length ≤ 1000000000 := by
     have := congrArg List.length hinv;rw [List.length_append, List.length_append] at this;omega
    by_cases hlt2 : j < m.items.length
    ·have hx2 := nth_encM hlt2;have hd2 : decide ((j : Int) < (m.items.length : Int)) = true := sO;have c := (walk60 m.items[j]).call trivial;have htk := List.take_succ_eq_append_getElem hlt2;generalize m.items[j] = y at *;simp only [encM] at c hx2;simp only [go_sem, hx2, hd2, Int.toNat_natCast, List.length_map, simprocAttr];refine ⟨⟨oM, oM⟩, wn c ?_⟩;refine zz ?_;refine ⟨fun y hy => by rw [List.mem_singleton.1 hy]; rfl, sO, ?_⟩;refine ⟨m.items.length - (j + 1), _, oM, Wk.less ?_, j + 1, oM, rfl, rfl⟩;rw [htk, ← List.append_assoc, List.map_append];simp only [go_sem, wrap64s j oM, List.map_cons, List.map_nil, encM, Nat.add_assoc, simprocAttr]
    ·have hd2 : decide ((j : Int) < (m.items.length : Int)) = false := sO;obtain rfl : j = m.items.length := oM;simp only [go_sem, hd2, List.take_length, List.length_map, simprocAttr];refine ⟨s.slots.length - (k + 1), _, oM, Wk.less ?_, k + 1, acc ++ m.items, oM, rfl, by rw [List.append_assoc]; exact hinv, rfl⟩;simp only [go_sem, wrap64s k oM, List.length_append, simprocAttr]
  ·have hd := dF hlt;obtain rfl : k = s.slots.length := oM;rw [List.drop_length, List.flatMap_nil, List.append_nil] at hinv;subst hinv;refine zz22 ?_
   try rw [canonL_msgs]
end Go.Proofs
set_option maxHeartbeats 2000000
namespace Go.Proofs
open Go Av
abbrev Ent := Str × Int × Int
def keyD (s : Str) (k : Int) : Dat := .agg [.str s, .int .i64 k]
def encK (e : Ent) : Dat × Dat := (keyD e.1 e.2.1, .int .i64 e.2.2)
def fndK : List Ent → Str → Int → Option Int
 | [], _, _ => none
 | e :: r, s, k => if (s == e.1 && k == e.2.1) = true then some e.2.2 else fndK r s k
def setK : List Ent → Str → Int → Int → List Ent
 | [], s, k, v => [(s, k, v)]
 | e :: r, s, k, v => if (s == e.1 && k == e.2.1) = true then (s, k, v) :: r else e :: setK r s k v
theorem findM_K (s : Str) (k : Int) : ∀ es : List Ent, findM (.p .s .i) (es.map encK) (keyD s k) = some ((fndK es s k).map (.int .i64))
 | [] => rfl
 | e :: r => by
  rw [List.map_cons, encK, findM, fndK];have h : cellEq (.p .s .i) (keyD s k) (keyD e.1 e.2.1) = some (s == e.1 && k == e.2.1) := by simp [keyD, cellEq]
  rw [h];cases hb : (s == e.1 && k == e.2.1) with
  | true => simp
  | false => simpa using findM_K s k r
theorem putM_K (s : Str) (k v : Int) : ∀ es : List Ent, putM (.p .s .i) (es.map encK) (keyD s k) (.int .i64 v) = (setK es s k v).map encK
 | [] => rfl
 | e :: r => by
  rw [List.map_cons, setK];have h : cellEq (.p .s .i) (keyD s k) (keyD e.1 e.2.1) = some (s == e.1 && k == e.2.1) := by simp [keyD, cellEq]
  cases hb : (s == e.1 && k == e.2.1) with
  | true => rw [hb] at h; simp [putM, encK, h]
  | false => rw [hb] at h; simp [putM, encK, h, putM_K s k v r]
noncomputable def lpK (tm : List (Nat × Av)) (s : LoopState) (j : Option Code) : Lp := ⟨tm, 20, #[10, 11], subC (codeOf Tryz.f44) [1, 1, 0, 1, 0, 0], subC (codeOf Tryz.f44) [1, 1, 0, 1, 0, 1], s, j⟩
def tmK (c : Dat) : List (Nat × Av) := [(2, .d .nilMap), (3, .ref 1003 0), (9, .d c)]
noncomputable abbrev TK (c : Dat) (es : List (Dat × Dat)) : List (Nat × Av.Obj) := [(1000, .lp (lpK (tmK c) .ready none)), (1003, .box [.mp 1006]), (1006, .mapo es)]
theorem closedK (c : Dat) (es : List (Dat × Dat)) : closed (get (TK c es)) := by
 refine closed_of ?_;simp [TK, closedH, objIn, idsInL, idsIn, idsInT, tmK, lpK, Av.get]
theorem closedKu (c : Dat) (es es' : List (Dat × Dat)) : closed (hputs (get (TK c es)) (TK c es')) := by
 refine closed_puts ?_;simp [TK, puts, put, closedH, objIn, idsInL, idsIn, idsInT, tmK, lpK, Av.get]
theorem TK_dom {c : Dat} {es : List (Dat × Dat)} {i : Nat} (h : (get (TK c es) i).isSome = true) : i = 1000 ∨ i = 1003 ∨ i = 1006 := by
 simp only [TK, Av.get] at h;split at h
 ·rename_i e; exact .inl e.symm
 ·split at h
  ·rename_i e; exact .inr (.inl e.symm)
  ·split at h
   ·rename_i e; exact .inr (.inr e.symm)
   ·cases h
theorem TKu_dom {c : Dat} {es es' : List (Dat × Dat)} {i : Nat} (h : (hputs (get (TK c es)) (TK c es') i).isSome = true) : i = 1000 ∨ i = 1003 ∨ i = 1006 := by
 simp only [TK, hputs, upd] at h;split at h
 ·exact .inr (.inr (by assumption))
 ·split at h
  ·exact .inr (.inl (by assumption))
  ·split at h
   ·exact .inl (by assumption)
   ·exact TK_dom h
theorem round44 (c : Dat) (es : List Ent) (i : Int) (n : Nod) :
  RCon Tryz.prog 1000 [.d (.int .i64 i), .d (encNd n)] (TK c (es.map encK)) (.d (.bool true)) (TK c ((setK es n.name n.kind i).map encK)) := by
 refine RCon.of_code (asg := asg44) (body := body44) rfl rfl kR kR rfl (show ∀ p ∈ [10, 11], p < 20 by decide) (closedKu c _ _) ?_;have hf := findM_K n.name n.kind es;have hp := putM_K n.name n.kind i es;simp only [keyD] at hf hp;generalize hD : (fun i => (get (TK c (es.map encK)) i).isSome = true) = D;generalize hK : RoundEnds 1000 (TK c (es.map encK)) D (.d (.bool true)) _ = K;have leaf : ∀ x : List Av, K .normal ⟨[], [(1000, .lp (lpK (tmK c) .busy none)), (1003, .box [.mp 1006]), (1006, .mapo ((setK es n.name n.kind i).map encK)), (5, .box x)]⟩ := by
  intro x;rw [← hK, ← hD];refine ⟨_, _, rfl, rfl, ⟨[], [(1000, .lp (lpK (tmK c) .ready none)), (1003, .box [.mp 1006]), (1006, .mapo ((setK es n.name n.kind i).map encK))]⟩, Wk.less ?_, ?_⟩
  ·simp [put, tmK, lpK, go_sem]
  ·intro i o h;rw [← h, ← get_puts];simp [puts, put]
 clear hK hD;simp only [encNd, TK, lpK, tmK, asg44, body44, hf, hp, go_sem, simprocAttr];exact ⟨_, rfl, rfl, leaf _⟩
theorem yield44 (c : Dat) (es : List Ent) (i : Int) (n : Nod) :
  CT .yld [.mp 1000, .d (.int .i64 i), .d (encNd n)] ((TK c (es.map encK)).map fun x => (x.1, some x.2)) (.d (.bool true)) (TK c ((setK es n.name n.kind i).map encK)) := by
 have := (round44 c es i n).call (fun i => i) ⟨_, rfl⟩ (fun i j _ _ h => h) (by simp [idsIn]) (closedK c _) [] (by simp [Av.get]) (closedKu c _ _) trivial;simp only [TK, List.map_cons, List.map_nil] at this;simp only [TK, List.map_cons, List.map_nil, Obj.ren, Av.ren, renL, ren_id_dat, lpK, tmK, renT, List.append_nil] at this ⊢;exact this
def krun (ns : List Nod) : Nat → List Ent → List Ent
 | 0, es => es
 | j + 1, es => krun ns j (match ns[j]? with | some n => setK es n.name n.kind j | none => es)
theorem walk210 (ns : List Nod) (c : Dat) (hl : ns.length ≤ 1000000000) : Con Tryz.prog 210 [.mp 1000, .d (.ptr [.list 20 (ns.map encNd)])] (TK c []) (.tup []) (TK c ((krun ns ns.length []).map encK)) := by
  refine ok210.con (k := false) (Nat.le_of_ble_eq_true rfl) (closedKu c [] _) trivial ?_
  have hw : IntKind.i64.wrap ((ns.length : Int) - 1) = (ns.length : Int) - 1 := wrap64 (by omega) (by omega)
  simp only [TK, go_sem, ir210, hw, List.length_map, Nat.reduceAdd, Nat.reduceEqDiff, Nat.reduceBEq, Nat.reduceLeDiff, reduceCtorEq, ↓reduceIte]
  generalize hF : krun ns ns.length [] = F
  refine ⟨by decide, ?_⟩
  refine wpc_loop (fun r s => ∃ (j : Nat) (es : List Ent), j ≤ ns.length ∧ r = j ∧ krun ns j es = F ∧
    s = ⟨[(0, .mp 1000), (1, .d (.ptr [.list 20 (ns.map encNd)])), (3, .d (.int .i64 ((j : Int) - 1)))],
      [(1000, .lp (lpK (tmK c) .ready none)), (1003, .box [.mp 1006]), (1006, .mapo (es.map encK))]⟩) ?_ ?_
  · refine ⟨_, _, Wk.less ?_, ns.length, [], Nat.le_refl _, rfl, hF, rfl⟩
    simp [go_sem, lpK, tmK]
  · rintro r s ⟨j, es, hj, rfl, hinv, rfl⟩
    cases r with
    | zero =>
      rw [krun] at hinv
      subst hinv
      have hd : decide (((0 : Nat) : Int) - 1 ≥ 0) = false := by decide
      simp only [go_sem, hd, Nat.reduceAdd, Nat.reduceEqDiff, Nat.reduceBEq, Nat.reduceLeDiff, reduceCtorEq, ↓reduceIte]
      trace_state
    | succ j =>
      have hlt : j < ns.length := by omega
      have hx := nth_encNd hlt
      have e1 : ((j + 1 : Nat) : Int) - 1 = (j : Int) := by omega
      have hd : decide ((j : Int) ≥ 0) = true := by simp
      have hw2 : IntKind.i64.wrap ((j : Int) - 1) = (j : Int) - 1 := wrap64 (by omega) (by omega)
      rw [krun, List.getElem?_eq_getElem hlt] at hinv
      generalize ns[j] = m at *
      have hy := yield44 c es j m
      simp only [TK, List.map_cons, List.map_nil] at hy
      simp only [encNd] at hy hx
      simp only [go_sem, e1, hx, hd, Int.toNat_natCast, List.length_map, Nat.reduceAdd, Nat.reduceEqDiff, Nat.reduceBEq, Nat.reduceLeDiff, reduceCtorEq, ↓reduceIte]
      refine ⟨by decide, ⟨by omega, by omega⟩, ?_⟩
      refine wps_call rfl hy ⟨rfl, rfl, rfl, trivial⟩ ?_
      simp only [go_sem, hw2, Bool.not_true, Nat.reduceAdd, Nat.reduceEqDiff, Nat.reduceBEq, Nat.reduceLeDiff, reduceCtorEq, ↓reduceIte]
      refine ⟨j, _, by omega, Wk.less ?_, j, _, by omega, rfl, hinv, rfl⟩
      simp [go_sem, lpK, tmK]
theorem canonL_nds (l : List Nod) : canonL (l.map encNd) = l.map encNd := by
 rw [canonL_map, List.map_map];exact List.map_congr_left fun p _ => by simp only [Function.comp, encNd, Dat.canon, canonL, canonL_i64]
theorem walk113 (ns : List Nod) : PT 113 [.list 20 (ns.map encNd)] (.d (.fn (.func 210) [] [.ptr [.list 20 (ns.map encNd)]])) := by
 refine ok113.pc ?_;simp only [go_sem, ir113, simprocAttr];simp [go_sem, canonL_nds]
noncomputable def lp44 (c : Dat) : Av.Obj := .lp ⟨[(2, .d .nilMap), (3, .ref 3 0), (9, .d c)], 20, #[10, 11], subC (codeOf Tryz.f44) [1, 1, 0, 1, 0, 0], subC (codeOf Tryz.f44) [1, 1, 0, 1, 0, 1], .ready, none⟩
theorem call210 (ns : List Nod) (c : Dat) (hl : ns.length ≤ 1000000000) :
  CT 210 [.mp 30, .d (.ptr [.list 20 (ns.map encNd)])] [(30, some (lp44 c)), (3, some (.box [.mp 6])), (6, some (.mapo []))] (.tup []) [(30, lp44 c), (3, .box [.mp 6]), (6, .mapo ((krun ns ns.length []).map encK))] := by
 have := (walk210 ns c hl).call (fun i => if i = 1000 then 30 else i - 1000) (fun i hi => by rcases TK_dom hi with rfl | rfl | rfl <;> decide)
  (fun i j hi hj h => by rcases TKu_dom hi with rfl | rfl | rfl <;> rcases TKu_dom hj with rfl | rfl | rfl <;> first | rfl | simp at h) (by simp [idsIn, Av.get]) (closedK c []) [] (by simp [Av.get]) (closedKu c [] _) trivial
 simp only [TK, List.map_cons, List.map_nil] at this;simp only [Obj.ren, Av.ren, renL, lpK, tmK, renT, List.append_nil, Nat.reduceSub, simprocAttr] at this;exact this
theorem walk44 (t : Typ) (ns : List Nod) (hl : ns.length ≤ 1000000000) : PT 44 [encPl t ns] (.d (.map ((krun ns ns.length []).map encK))) := by
 refine ok44.pc ?_;have c1 := (walk113 ns).call trivial;have c2 := call210 ns (.fn (.func 210) [] [.ptr [.list 20 (ns.map encNd)]]) hl;generalize krun ns ns.length [] = F at *;simp only [encPl, go_sem, ir44, simprocAttr];refine wc c1 ?_;refine wpc_rng rfl rfl ok210.has c2 ⟨rfl, rfl, rfl, trivial⟩ rfl sP (.inl ⟨rfl, ?_⟩);exact zz trivial
end Go.Proofs
namespace Av
open Go
variable [Glb] [Rls]
section
variable {β : Blocks} {A : Nat → Prop} {w : World} {H : Heap} {D : Nat → Prop}
theorem CallOK.borrow {P : Program} {f : Nat} {ds : List Dat} {r : Dat} (h : PCon P f ds (.d r)) (hr : scalar r = true) (cs : List Av) (T : List (Nat × Option Obj))
  (hds : ∀ H : Heap, (∀ e ∈ T, H e.1 = e.2) → ∃ p ups, datumAll H cs = some (p, ds, ups) ∧ p) : CallOK P f cs T (.d r) [] := by
 intro β A w H vs hT hc hvs;obtain ⟨p, ups, hd, hp⟩ := hds H hT;obtain ⟨A1, s1, l1, r1, m1⟩ := datumAll_ok hc hd hp (us := vs.toList) (sX hvs.1) (fun k c u h1 h2 => hvs.2 k c u h1 (sX h2));have hc0 : Core β A1 w (get []) := ⟨(by intro i o hi; cases hi), (by intro i j o o' b hi; cases hi), (by intro i o b hi; cases hi), s1.core.old, s1.core.glob⟩;refine .inl ⟨h.1, (h.2 β A1 w vs hc0 ⟨by simpa using l1, ?_⟩).mono ?_⟩
 ·intro k c v h1 h2;rw [List.getElem?_map] at h1;cases e : ds[k]? with
  | none => simp [e] at h1
  | some x =>
   simp only [e, Option.map_some, Option.some.injEq] at h1;subst h1;exact .d _ _ (r1 k x v e (sX h2))
 ·rintro e w' ⟨v, β1, A2, rfl, hsince, hc1, hv⟩;obtain ⟨s1, s2, s3, s4, s5, sl, s6, s7, s8⟩ := hsince;dsimp only at s1 s2 s3 s4 s5 sl;have hsame : ∀ b, b < w.heap.size → w'.heap[b]? = w.heap[b]? := fun b hb => s5 b hb (by intro i o hi; cases hi)
  have hst : Stp β A w H β A w' H := Stp.new hc s1 s2 s3 s4 hsame (fun _ h => h) (fun _ h => .inl h) (fun b hb => by have := hc.old b hb; omega);exact ⟨v, rfl, β, A, hst, .d _ _ (hv.of_d.scalar hr)⟩
end
end Av
namespace Av
open Go
variable [Glb] [Rls]
variable {sz : Nat} {xs : List Dat}
section
variable {β : Blocks} {A : Nat → Prop} {w : World} {H : Heap} {D : Nat → Prop}
theorem own_data (A : Nat → Prop) (w : World) {n cap b : Nat} {C : Array Value} {T : TypeId} (hs : 0 < sz) (hsz : ∀ x ∈ xs, x.cells.length = sz) (hb : xs.length ≤ 68719476736) (hh : w.heap[b]? = some (.cells C T (0, 0)))
  (hC : C.size = cap * sz) (hle : xs.length ≤ cap) (h1 : ∀ (j : Nat) v, j < (flat xs).length → C[j]? = some v → v.oneCell' = true) (hv : ∀ (j : Nat) c v, (flat xs)[j]? = some c → C[j]? = some v → Rep A w c v) (hn : n = xs.length) :
  Own A w [b] (.own sz xs) (.slice (some ⟨b, 0, none⟩) n cap) := by
 have := Own.row (A := A) (w := w) sz xs b C T cap n (List.replicate (flat xs).length []) hh hC hn hle hb hs hsz sP h1 (fun j c v F hc hv' hF => by
  rw [List.getElem?_replicate] at hF;split at hF
  ·cases hF;exact .dat _ _ (hv j c v hc hv')
  ·cases hF)
 rwa [show (List.replicate (flat xs).length ([] : List Nat)).flatten = [] by simp] at this
theorem Stp.rowTr (hc : Core β A w H) {i k v : Nat} (hi : H i = some (.row v sz xs)) (hk : H k = none) : Stp β A w H (upd β k (β i)) A w (upd (upd H i (some .gone)) k (some (.tre v 0 sz xs))) := by
 have hne : i ≠ k := fun e => by subst e; rw [hk] at hi; cases hi
 have hHi : upd (upd H i (some .gone)) k (some (.tre v 0 sz xs)) i = some .gone := by rw [upd_ne _ _ hne, upd_same]
 have hHk : upd (upd H i (some .gone)) k (some (.tre v 0 sz xs)) k = some (.tre v 0 sz xs) := upd_same _ _ _;have hβi : upd β k (β i) i = β i := upd_ne _ _ hne;have hβk : upd β k (β i) k = β i := upd_same _ _ _;refine Stp.many hc (fun t => t = i ∨ t = k) ?_ ?_ rfl rfl rfl (Nat.le_refl _) (fun _ _ _ => rfl) (fun _ h => h) (fun _ h => .inl h) hc.old ?_ ?_ ?_ ?_ ?_
 ·intro t ht;rw [upd_ne _ _ (fun e => ht (.inr e)), upd_ne _ _ (fun e => ht (.inl e))]
 ·intro t ht;exact upd_ne _ _ (fun e => ht (.inr e))
 ·rintro t o b (rfl | rfl) ho hl hb
  ·rw [hHi] at ho; cases ho; cases hl
  ·rw [hβk] at hb;exact ⟨.inr ⟨i, _, .inl rfl, hi, rfl, hb⟩, hc.sep i _ b hi rfl hb⟩
 ·rintro t t' o o' b (rfl | rfl) (rfl | rfl) ho hl ho' hl' _ _
  ·rfl
  ·rw [hHi] at ho; cases ho; cases hl
  ·rw [hHi] at ho'; cases ho'; cases hl'
  ·rfl
 ·rintro t c u (rfl | rfl) hh hvr
  ·exact handle_gone hHi hh hvr
  ·exact handle_tre (v := v) (s := 0) (sz := sz) (xs := xs) (.inr hk) hHk (Nat.le_refl _) (Nat.le_refl _) hh hvr (fun h => by rw [hk] at h; cases h)
 ·rintro _ t o (rfl | rfl) ho
  ·rw [hHi] at ho; cases ho; trivial
  ·rw [hHk] at ho;cases ho;obtain ⟨hs, hsz, hbnd, hrow⟩ := hc.objs i _ hi;rcases hrow with ⟨hbn, rfl⟩ | ⟨b, C, T, cap, hb, hh, hC, hle, h1, h2⟩
   ·refine ⟨.slice none 0 0, ?_, ?_, ?_, ?_⟩
    ·rw [hβk, hbn]; exact .nil sz none hs
    ·rw [hβk, hbn]; exact List.Pairwise.nil
    ·exact .inl ⟨by rw [hβk, hbn], rfl, none, rfl⟩
    ·rw [hβk, hbn]; rfl
   ·refine ⟨.slice (some ⟨b, 0, none⟩) xs.length cap, ?_, ?_, ?_, ?_⟩
    ·rw [hβk, hb]; exact own_data A w hs hsz hbnd hh hC hle h1 h2 rfl
    ·rw [hβk, hb]; exact List.pairwise_singleton _ _
    ·exact .inr ⟨b, C, T, (0, 0), cap, by rw [hβk, hb], hh, hC, hle, rfl⟩
    ·rw [hβk, hb]; rfl
 ·rintro b r hr _;exact ⟨r, hr⟩
theorem VRep.rowTr {i k v : Nat} {u : Value} (hi : H i = some (.row v sz xs)) (hr : VRep β A w H (.ms i v) u) : VRep (upd β k (β i)) A w (upd (upd H i (some .gone)) k (some (.tre v 0 sz xs))) (.tr k ⟨v, 0, [], none⟩) u := by
 cases hr with
 | ms _ _ _ hu h0 h1 h2 =>
  obtain ⟨_, hv⟩ := h1 _ _ _ hi;have hv := hv rfl;refine .tr _ _ _ hu sU (fun h => by cases h) ?_;intro v3 s3 sz3 xs3 h3;rw [upd_same] at h3;cases h3;refine ⟨Nat.le_refl _, Nat.le_refl _, fun _ _ => ⟨u, u, ?_, rfl, rfl⟩⟩;rcases hv with ⟨hb, hn, a, e⟩ | ⟨b, C, T, fz, cap, hb, hh, hC, hle, e⟩
  ·exact .inl ⟨by rw [upd_same, hb], hn, a, e⟩
  ·exact .inr ⟨b, C, T, fz, cap, by rw [upd_same, hb], hh, hC, hle, e⟩
theorem Wk.rowT {st : St} (t i k v sz : Nat) (xs : List Dat) (ht : get st.tm t = some (.ms i v)) (hi : get st.hp i = some (.row v sz xs)) (hk : get st.hp k = none) :
  Wk D st ⟨put st.tm t (.tr k ⟨v, 0, [], none⟩), put (put st.hp i .gone) k (.tre v 0 sz xs)⟩ := by
 refine Wk.of_stp ?_;intro β A w a hc htr;have hh : get (put (put st.hp i .gone) k (.tre v 0 sz xs)) = upd (upd (get st.hp) i (some .gone)) k (some (.tre v 0 sz xs)) := funext fun j => by rw [get_put, get_put]; rfl
 rw [hh];have hst := Stp.rowTr (β := β) hc hi hk;refine ⟨_, A, hst, ?_⟩;intro t' v' hv;rw [get_put] at hv;split at hv
 ·rename_i e;subst e;cases hv;obtain ⟨u, q1, q2⟩ := htr t' _ ht;exact ⟨u, q1, VRep.rowTr hi q2⟩
 ·obtain ⟨u, q1, q2⟩ := htr t' v' hv;exact ⟨u, q1, hst.vals _ _ q2⟩
end
end Av
namespace Av
open Go
variable [Glb]
section
variable {z sz s k c c1 : Nat} {xs ys V : List Dat} {p : List (Nat × Nat)} {y0 y1 : Dat}
end
theorem Con.two {P : Program} {f : Nat} {ds : List Dat} {x y a1 b1 s1 a2 b2 s2 : Nat} [Rls] {X Y : List Dat} {v : Av} (h : Con P f (ds.map .d) [] v [(x, .tre a1 b1 s1 X), (y, .tre a2 b2 s2 Y)]) (hxy : x ≠ y)
  (hv : inT (hputs (get []) [(x, .tre a1 b1 s1 X), (y, .tre a2 b2 s2 Y)]) v) (i j : Nat) (hij : i ≠ j) :
  CallOK P f (ds.map .d) [(i, none), (j, none)] (v.ren fun n => if n = x then i else j) [(i, .tre a1 b1 s1 X), (j, .tre a2 b2 s2 Y)] := by
 have hput : ∀ n, (hputs (get []) [(x, Obj.tre a1 b1 s1 X), (y, .tre a2 b2 s2 Y)] n).isSome = true ↔ n = x ∨ n = y := by
  intro n;simp only [hputs, upd, get];by_cases h1 : n = y
  ·simp [h1]
  ·by_cases h2 : n = x
   ·subst h2; simp [h1]
   ·simp [h1, h2]
 have := Con.call h (fun n => if n = x then i else j) (by intro n h; cases h) (by
   intro m n hm hn e;rcases (hput m).1 hm with rfl | rfl <;> rcases (hput n).1 hn with rfl | rfl
   ·rfl
   ·simp only [if_true, if_neg (Ne.symm hxy)] at e; exact absurd e hij
   ·simp only [if_true, if_neg (Ne.symm hxy)] at e; exact absurd e.symm hij
   ·rfl) (by intro c hc; obtain ⟨d, _, rfl⟩ := List.mem_map.1 hc; trivial) (by intro n o h; cases h) [x, y] (by
   intro e he;simp only [List.mem_cons, List.not_mem_nil, or_false] at he;rcases he with rfl | rfl
   ·exact .inr sP
   ·exact .inr sP) (by
   intro n o hn;simp only [hputs, upd, get] at hn;split at hn
   ·cases hn; trivial
   ·split at hn
    ·cases hn; trivial
    ·cases hn) hv
 have e0 : (ds.map Av.d).map (Av.ren fun n => if n = x then i else j) = ds.map .d := by simp [Av.ren]
 simp only [e0, List.map_cons, List.map_nil, Obj.ren, if_true, if_neg (Ne.symm hxy), List.nil_append] at this;exact this
end Av
