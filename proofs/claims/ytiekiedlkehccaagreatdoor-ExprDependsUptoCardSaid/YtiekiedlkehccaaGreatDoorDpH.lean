/- Part H of a proof. -/
import Derived.Test.YtiekiedlkehccaaGreatDoorDpC
import Derived.Test.YtiekiedlkehccaaGreatDoorProg
import Derived.Test.YtiekiedlkehccaaGreatDoorDpA
import Derived.Test.YtiekiedlkehccaaGreatDoorDpD
import Derived.Shelf.Strings.BuilderK
import Derived.Shelf.Strings.BuilderRune
import Derived.Shelf.Strings.Repeat
import Derived.Shelf.Unicode.DecodeAny
import Derived.Ground.Names2Prog
import Derived.Shelf.SlGeneric
import Derived.Shelf.Sort.Plain
import Derived.Shelf.Slices.In.SortNone
import Derived.Shelf.Slices.CompactS
set_option linter.unusedVariables false
set_option linter.unusedSimpArgs false
set_option linter.unusedSectionVars false
set_option maxRecDepth 10000
namespace Go.Proofs
open Go Av
open Av.Y
def ir5 : Ic := q (R (ox 3 0<|ox 4 1<|ox 5 2<|ow 6 false<|N) [0,1,2,6])<|q (R (of 22 5 0<|ol 23 22<|cl 24 26 [t 23]<|om 21 24<|oe 25 21 0<|oe 26 21 1<|om 7 25<|om 8 26<|N) [22,23,24,21,25,26])<|q (q (R (cl 27 20 []<|og 28 27<|om 29 28<|.sc 29 false (om 30 8<|oi 31 .neq 30 0<|N) (t 31) 32 (om 33 32<|.sc 33 false (oL 34 5 3<|cl 35 27 [t 34]<|oi 36 .neq 35 0<|N) (t 36) 37 N)) [8,27,28,29,32,33])<|D (I 37 (q (R (cl 38 20 []<|om 6 38<|N) [3,4,5,7,37,38])<|.ret) S) [37])<|q (q (R (om 39 7<|oh 40 39<|oi 41 .gtr 40 1<|N) [39,40])<|D (I 41 (q (D (.regd [(0,10),(3,10),(5,10),(6,10)] (oL 43 6 4<|om 44 7<|om 45 7<|oh 46 45<|oi 47 .sub 46 1<|oo 48 (.slc 3 (t 44) none (some (t 47)) none)<|cl 49 28 [t 43,t 48]<|om 42 49<|oe 50 42 0<|oe 51 42 1<|oN 9 v6<|oS 6 9 50<|om 10 51<|N)) [41,43,44,45,46,47,48,49,42,50,51,9])<|q (R (om 52 10<|oi 53 .neq 52 0<|N) [10,52])<|D (I 53 (q (R (ow 6 true<|N) [3,4,5,7,53])<|.ret) S) [53]) S) [41])<|q (R (oL 55 6 4<|om 56 7<|of 57 5 1<|oL 58 6 57<|cl 59 29 [t 55,t 56,t 58]<|om 54 59<|oe 60 54 0<|oe 61 54 1<|oN 11 v6<|oS 6 11 60<|om 12 61<|N) [5,55,56,57,58,59,54,60,61])<|q (q (R (om 62 12<|oi 63 .neq 62 0<|om 64 63<|.sc 64 false (oL 65 6 4<|cl 66 30 [t 65]<|oi 67 .neq 66 0<|N) (t 67) 68 (om 69 68<|.sc 69 false (oL 70 6 11<|cl 71 30 [t 70]<|oi 72 .neq 71 0<|N) (t 72) 73 N)) [12,62,63,64,68,69])<|D (I 73 (q (R (ow 6 true<|N) [3,4,7,11,73])<|.ret) S) [73])<|q (R (oL 74 5 3<|cl 75 31 [t 74]<|om 13 75<|N) [74,75])<|q (q (.reg (oz 14 0<|N))<|D (.block 0<|.loop (q (q (R (om 76 14<|om 77 13<|oh 78 77<|ot 79 .lss 76 78<|N) [76,77,78])<|D (I 79 S (E 0)) [79])<|q (D (.block 1<|q (R (om 83 13<|om 84 14<|oa false 85 1 83 84<|ol 86 85<|cl 87 26 [t 86]<|om 82 87<|oe 88 82 0<|oe 89 82 1<|om 15 88<|om 16 89<|N) [83,84,85,86,87,82,88,89,16])<|q (R (om 90 7<|om 91 15<|cl 92 32 [t 90,t 91]<|N) [15,90,91])<|D (I 92 (q (R (ow 6 true<|N) [3,4,7,11,13,14,92])<|.ret) S) [92]) [])<|R (om 80 14<|oi 81 .add 80 1<|om 14 81<|N) [80,81])) [7,13,14,79])<|q (R (oL 94 5 3<|oL 95 6 4<|cl 96 33 [t 94,t 95]<|om 93 96<|oe 97 93 0<|oe 98 93 1<|oN 17 v6<|oS 6 17 97<|om 18 98<|N) [4,94,95,96,93,97,98])<|q (R (oL 100 5 3<|oL 101 6 11<|cl 102 33 [t 100,t 101]<|om 99 102<|oe 103 99 0<|oe 104 99 1<|oN 19 v6<|oS 6 19 103<|om 20 104<|N) [3,11,100,101,102,99,103,104])<|q (R (om 105 18<|om 106 20<|ot 107 .eql 105 106<|om 108 107<|.sc 108 true (oL 109 6 17<|oL 110 6 19<|cl 111 17 [t 109,t 110]<|N) (t 111) 112 (om 6 112<|N)) [17,18,19,20,105,106,107,108,112])<|.ret
theorem ok5 : FT 5 113 ir5 [.tmp 6] := .o Tryz.func5
def ir29 : Ic := q (R (ox 3 0<|ox 5 2<|oN 6 v6<|oz 7 0<|N) [0,2,7])<|q (q (R (om 11 1<|cl 12 78 [t 11]<|oi 13 .neq 12 0<|om 14 13<|.sc 14 false (om 15 1<|cl 16 77 [t 15]<|N) (t 16) 17 N) [11,12,13,14])<|D (I 17 (q (R (oo 18 (.bld v6 [])<|oS 6 6 18<|oz 7 3<|N) [1,3,5,17,18])<|.ret) S) [17])<|q (.reg (oN 8 [.nilFn]<|on (.sto none (t 8) (.k (.fn (.func 79) [] [])))<|N))<|q (D (.regd [(0,4),(0,10),(2,10),(4,10),(6,10)] (oL 20 6 3<|om 21 1<|ol 22 8<|oo 23 (.bld v6 [(0,1,i 9)])<|.call (some 24) (.dyn (t 22)) [t 23] (oo 25 (.fnv (.func 83) [] [t 8,t 5])<|cl 26 82 [t 20,t 21,t 24,t 25]<|om 19 26<|oe 27 19 0<|oe 28 19 1<|oN 9 v6<|oS 6 9 27<|om 10 28<|N))) [1,3,5,8,20,21,22,23,24,25,26,19,27,28])<|q (R (oL 29 6 9<|cl 30 54 [t 29]<|om 31 10<|oS 6 6 30<|om 7 31<|N) [9,10,29,30,31])<|.ret
theorem ok29 : FT 29 32 ir29 [.cell 6 (some 6), .tmp 7] := .o Tryz.func29
def ir32 : Ic := q (R (ow 4 false<|N) [4])<|q (q (.reg (oz 5 0<|N))<|D (.block 0<|.loop (q (q (R (om 7 5<|om 8 0<|oh 9 8<|ot 10 .lss 7 9<|om 11 10<|.sc 11 true (om 12 5<|om 13 1<|oh 14 13<|ot 15 .lss 12 14<|N) (t 15) 16 N) [7,8,9,10,11])<|D (I 16 S (E 0)) [16])<|q (D (.block 1<|q (R (om 19 0<|om 20 5<|oa true 21 3 19 20<|of 22 21 0<|ol 23 22<|oi 24 .eql 23 3<|om 25 24<|.sc 25 true (om 26 1<|om 27 5<|oa true 28 3 26 27<|of 29 28 0<|ol 30 29<|oi 31 .eql 30 2<|N) (t 31) 32 (om 33 32<|.sc 33 false (om 34 0<|om 35 5<|oa true 36 3 34 35<|of 37 36 0<|ol 38 37<|oi 39 .eql 38 2<|om 40 39<|.sc 40 true (om 41 1<|om 42 5<|oa true 43 3 41 42<|of 44 43 0<|ol 45 44<|oi 46 .eql 45 3<|N) (t 46) 47 N) (t 47) 48 (om 6 48<|N))) [19,20,21,22,23,24,25,32,33,48])<|q (R (om 49 0<|om 50 5<|oa true 51 3 49 50<|oL 52 3 51<|om 53 1<|om 54 5<|oa true 55 3 53 54<|oL 56 3 55<|ot 57 (.tne [.i,.i,.s]) 52 56<|om 58 57<|.sc 58 true (om 59 6<|og 60 59<|N) (t 60) 61 N) [6,49,50,51,52,53,54,55,56,57,58])<|D (I 61 (q (R (ow 4 false<|N) [0,1,5,61])<|.ret) S) [61]) [])<|R (om 17 5<|oi 18 .add 17 1<|om 5 18<|N) [17,18])) [0,1,5,16,6])<|q (.reg (ow 4 true<|N))<|.ret
theorem ok32 : FT 32 62 ir32 [.tmp 4] := .o Tryz.func32
def ir79 : Ic := q (R (ox 1 0<|ok 2 (.k .nilFn)<|N) [0,2])<|q (R (oo 3 (.fnv (.func 80) [] [t 1])<|om 2 3<|N) [1,3])<|.ret
theorem ok79 : FT 79 4 ir79 [.tmp 2] := .o Tryz.func79
def ir80 : Ic := q (R (ox 3 0<|ox 4 1<|oN 5 v6<|oz 6 0<|N) [0,1,6])<|q (q (R (of 7 4 0<|ol 8 7<|oi 9 .neq 8 1<|N) [7,8])<|D (I 9 (q (R (oo 10 (.bld v6 [])<|oS 6 5 10<|oz 6 19<|N) [3,4,9,10])<|.ret) S) [9])<|q (R (oL 11 6 3<|of 12 4 2<|ol 13 12<|oL 14 6 2<|cl 15 81 [t 11,t 13,t 14]<|oe 16 15 0<|oe 17 15 1<|oS 6 5 16<|om 6 17<|N) [3,4,11,12,13,14,15,16,17])<|.ret
theorem ok80 : FT 80 18 ir80 [.cell 5 (some 6), .tmp 6] := .o Tryz.func80
def ir81 : Ic := q (R (ox 3 0<|ox 4 1<|ox 5 2<|oN 6 v6<|oz 7 0<|N) [0,1,2,7])<|q (q (R (of 9 3 5<|ol 10 9<|oh 11 10<|oi 12 .geq 11 64<|N) [9,10,11])<|D (I 12 (q (R (oo 13 (.bld v6 [])<|oS 6 6 13<|oz 7 9<|N) [3,4,5,12,13])<|.ret) S) [12])<|q (R (of 14 3 5<|ol 15 14<|oo 16 (.fnv (.func 161) [] [t 4])<|cl 17 160 [t 15,t 16]<|om 8 17<|N) [14,15,16,17])<|q (q (R (om 18 8<|oi 19 .lss 18 0<|N) [18])<|D (I 19 (R (of 20 3 5<|ol 21 20<|oh 22 21<|om 8 22<|N) [19,20,21,22]) S) [19])<|q (D (.regd [(2,4),(2,5),(1,7),(2,7)] (of 23 3 5<|ol 24 23<|cl 25 163 [t 24]<|om 26 8<|ol 27 4<|oL 28 6 5<|oo 29 (.bld v7 [(0,1,t 27),(1,6,t 28)])<|oo 30 (.bls 7 [t 29])<|cl 31 162 [t 25,t 26,t 30]<|of 32 3 5<|os 32 31<|N)) [4,5,8,23,24,25,26,27,28,29,30,31,32])<|q (R (oL 33 6 3<|oS 6 6 33<|oz 7 0<|N) [3,33])<|.ret
theorem ok81 : FT 81 34 ir81 [.cell 6 (some 6), .tmp 7] := .o Tryz.func81
def ir82 : Ic := q (R (ox 4 0<|oN 8 v6<|oz 9 0<|N) [0,9])<|q (R (om 16 1<|oo 17 (.ixa true 3 (t 16) (i 0))<|oL 18 3 17<|oN 10 [.int .i64 0,.int .i64 0,.str []]<|oS 3 10 18<|N) [16,17,18])<|q (q (R (oL 19 3 10<|oL 20 6 4<|cl 21 156 [t 19,t 20]<|og 22 21<|N) [19,20,21])<|D (I 22 (q (R (oo 23 (.bld v6 [])<|oS 6 8 23<|oz 9 22<|N) [1,2,3,4,10,22,23])<|.ret) S) [22])<|q (q (R (om 24 1<|oh 25 24<|oi 26 .eql 25 1<|N) [24,25])<|D (I 26 (q (R (om 27 3<|oL 28 6 4<|oL 29 3 10<|.call (some 30) (.dyn (t 27)) [t 28,t 29] (oe 31 30 0<|oe 32 30 1<|oS 6 8 31<|om 9 32<|N)) [1,2,3,4,10,26,27,28,29,30,31,32])<|.ret) S) [26])<|q (R (oL 33 3 10<|oL 34 6 4<|cl 35 84 [t 33,t 34]<|om 11 35<|N) [33,34,35])<|q (q (R (om 36 11<|oh 37 36<|oi 38 .eql 37 0<|N) [36,37])<|D (I 38 (q (R (om 40 2<|oL 41 6 4<|oL 42 3 10<|.call (some 43) (.dyn (t 40)) [t 41,t 42] (om 39 43<|oe 44 39 0<|oe 45 39 1<|oN 12 v6<|oS 6 12 44<|om 13 45<|N)) [4,10,11,38,40,41,42,43,39,44,45])<|q (q (R (om 46 13<|oi 47 .neq 46 0<|N) [46])<|D (I 47 (q (R (oo 48 (.bld v6 [])<|om 49 13<|oS 6 8 48<|om 9 49<|N) [1,2,3,12,13,47,48,49])<|.ret) S) [13,47])<|q (R (oL 50 6 12<|om 51 1<|om 52 2<|om 53 3<|cl 54 82 [t 50,t 51,t 52,t 53]<|oe 55 54 0<|oe 56 54 1<|oS 6 8 55<|om 9 56<|N) [1,2,3,12,50,51,52,53,54,55,56])<|.ret) S) [38])<|q (D (.regd [(1,11),(2,11),(4,11),(7,11)] (om 58 11<|oo 59 (.ixa true 6 (t 58) (i 0))<|oL 60 6 59<|om 61 1<|oo 62 (.slc 3 (t 61) (some (i 1)) none none)<|om 63 2<|om 64 3<|cl 65 82 [t 60,t 62,t 63,t 64]<|om 57 65<|oe 66 57 0<|oe 67 57 1<|oN 14 v6<|oS 6 14 66<|om 15 67<|N)) [1,2,3,11,58,59,60,61,62,63,64,65,57,66,67])<|q (q (R (om 68 15<|oi 69 .neq 68 0<|N) [68])<|D (I 69 (q (R (oo 70 (.bld v6 [])<|om 71 15<|oS 6 8 70<|om 9 71<|N) [4,10,14,15,69,70,71])<|.ret) S) [15,69])<|q (R (oL 72 6 4<|oL 73 3 10<|oL 74 6 14<|cl 75 85 [t 72,t 73,t 74]<|oS 6 8 75<|oz 9 0<|N) [4,10,14,72,73,74,75])<|.ret
theorem ok82 : FT 82 76 ir82 [.cell 8 (some 6), .tmp 9] := .o Tryz.func82
def ir83 : Ic := q (R (ox 4 0<|ox 5 1<|oN 6 v6<|oz 7 0<|N) [0,1,7])<|q (q (R (oL 8 3 5<|oL 9 6 4<|cl 10 84 [t 8,t 9]<|oh 11 10<|oi 12 .eql 11 0<|N) [8,9,10,11])<|D (I 12 (q (D (.regd [(2,3),(2,4)] (ol 13 2<|oL 14 6 3<|.call (some 15) (.dyn (t 13)) [t 14] (oL 16 6 4<|oL 17 3 5<|.call (some 18) (.dyn (t 15)) [t 16,t 17] (oe 19 18 0<|oe 20 18 1<|oS 6 6 19<|om 7 20<|N)))) [4,5,12,13,14,15,16,17,18,19,20])<|.ret) S) [12])<|q (R (oL 21 6 4<|oL 22 3 5<|oL 23 6 3<|cl 24 85 [t 21,t 22,t 23]<|oS 6 6 24<|oz 7 0<|N) [4,5,21,22,23,24])<|.ret
theorem ok83 : FT 83 25 ir83 [.cell 6 (some 6), .tmp 7] := .o Tryz.func83
def ir85 : Ic := q (R (ox 3 0<|ox 4 1<|ox 5 2<|oN 6 v6<|N) [0,1,2])<|q (q (R (of 7 4 0<|ol 8 7<|oi 9 .eql 8 1<|N) [7,8])<|D (I 9 (q (R (of 10 3 5<|ol 11 10<|cl 12 163 [t 11]<|of 13 3 5<|os 13 12<|N) [9,10,11,12,13])<|q (D (.regd [(1,5),(5,6)] (of 14 3 5<|ol 15 14<|oL 16 6 3<|of 17 4 2<|ol 18 17<|cl 19 164 [t 16,t 18]<|oL 20 6 5<|oa true 21 7 15 19<|of 22 21 1<|oS 6 22 20<|N)) [4,5,14,15,16,17,18,19,20,21,22])<|q (R (oL 23 6 3<|oS 6 6 23<|N) [3,23])<|.ret) S) [9])<|q (R (of 24 3 4<|ol 25 24<|cl 26 165 [t 25]<|of 27 3 4<|os 27 26<|N) [24,25,26,27])<|q (R (of 28 3 4<|ol 29 28<|of 30 4 1<|ol 31 30<|oL 32 6 5<|oa true 33 6 29 31<|oS 6 33 32<|N) [4,5,28,29,30,31,32,33])<|q (R (oL 34 6 3<|oS 6 6 34<|N) [3,34])<|.ret
theorem ok85 : FT 85 35 ir85 [.cell 6 (some 6)] := .o Tryz.func85
end Go.Proofs
namespace Go.Proofs
open Go Av
end Go.Proofs
namespace Go.Proofs
open Go Av
open Av.Y
def ir88 : Ic := q (R (ox 1 0<|ow 2 false<|N) [0,2])<|q (R (of 3 1 0<|ol 4 3<|oi 5 .eql 4 0<|om 6 5<|.sc 6 true (of 7 1 1<|ol 8 7<|oi 9 .eql 8 0<|N) (t 9) 10 (om 11 10<|.sc 11 true (of 12 1 2<|ol 13 12<|oi 14 .eql 13 0<|N) (t 14) 15 (om 16 15<|.sc 16 true (of 17 1 3<|ol 18 17<|ob 19 .seq (t 18) (.k (.str []))<|N) (t 19) 20 (om 21 20<|.sc 21 true (of 22 1 4<|ol 23 22<|oh 24 23<|oi 25 .eql 24 0<|N) (t 25) 26 (om 27 26<|.sc 27 true (of 28 1 5<|ol 29 28<|oh 30 29<|oi 31 .eql 30 0<|N) (t 31) 32 (om 2 32<|N)))))) [1,3,4,5,6,10,11,15,16,20,21,26,27,32])<|.ret
theorem ok88 : FT 88 33 ir88 [.tmp 2] := .o Tryz.func88
def asg30 : Ic := q (R (om 5 11<|N) [10,11])<|R (oN 6 v6<|oS 6 6 12<|N) [12]
def body30 : Ic := D (.block 1<|q (R (ol 13 4<|oi 14 .add 13 1<|os 4 14<|N) [13,14])<|q (D (.block 2<|q (R (ol 16 4<|oi 17 .gtr 16 4096<|om 15 17<|N) [4,16,17])<|I 15 (q (R (on (.sto none (t 2) (i 9))<|N) [2,3,5,6,15])<|.ret) (q (R (om 19 5<|oi 20 .gtr 19 8<|om 18 20<|N) [5,15,19,20])<|I 18 (q (R (on (.sto none (t 2) (i 23))<|N) [2,3,6,18])<|.ret) (q (R (oL 22 6 6<|cl 23 88 [t 22]<|om 21 23<|N) [18,22,23])<|I 21 (q (R (on (.sto none (t 2) (i 19))<|N) [2,3,6,21])<|.ret) (q (R (of 25 6 0<|ol 26 25<|oi 27 .lss 26 1<|om 28 27<|.sc 28 false (of 29 6 0<|ol 30 29<|oi 31 .gtr 30 10<|N) (t 31) 32 (om 24 32<|N)) [21,25,26,27,28,29,30,31,32])<|I 24 (q (R (on (.sto none (t 2) (i 11))<|N) [2,3,6,24])<|.ret) (q (R (oL 34 6 6<|cl 35 89 [t 34]<|og 36 35<|om 33 36<|N) [24,34,35,36])<|D (I 33 (q (R (on (.sto none (t 2) (i 3))<|N) [2,3,6,33])<|.ret) S) [33]))))) [4,5,16,17,15,19,20,18,22,23,21,25,26,27,28,29,30,31,32,24,34,35,36,33])<|q (R (of 37 6 0<|ol 38 37<|oo 39 (.ixr 11 1 (t 3) (t 38))<|ol 40 39<|oL 41 6 6<|.call (some 42) (.dyn (t 40)) [t 41] (om 7 42<|N)) [3,6,37,38,39,40,41,42])<|q (R (om 43 7<|oi 44 .neq 43 0<|N) [43])<|D (I 44 (q (R (om 45 7<|os 2 45<|N) [2,7,44,45])<|.ret) S) [2,7,44]) [2,3,4,5,6,13,14,16,17,15,19,20,18,22,23,21,25,26,27,28,29,30,31,32,24,34,35,36,33,37,38,39,40,41,42,7,43,44,45]
noncomputable def ir30 : Ic := q (R (ox 1 0<|oN 2 [.int .i64 0]<|N) [0])<|q (R (cl 8 86 []<|oN 3 [.nilFn,.nilFn,.nilFn,.nilFn,.nilFn,.nilFn,.nilFn,.nilFn,.nilFn,.nilFn,.nilFn]<|oS 11 3 8<|N) [8])<|q (.reg (oN 4 [.int .i64 0]<|on (.sto none (t 4) (i 0))<|N))<|q (q (R (oL 9 6 1<|cl 10 87 [t 9]<|N) [1,9])<|D (.block 0<|D (.rng (t 10) 46 57 #[11,12] (subC (codeOf Tryz.f30) [1,1,1,0,1,0,0]) (subC (codeOf Tryz.f30) [1,1,1,0,1,0,1]) asg30 body30) [3,4,10]) [3,4,10])<|q (.reg (on (.sto none (t 2) (i 0))<|N))<|.ret
theorem ok30 : FT 30 46 ir30 [.cell 2 none] := .o Tryz.func30
def ir31 : Ic := q (R (ox 1 0<|ok 2 (.k (.nil 1))<|N) [0,2])<|q (q (R (oL 5 5 1<|cl 6 90 [t 5]<|oi 7 .neq 6 0<|N) [5,6])<|D (I 7 (q (R (ok 2 (.k (.nil 1))<|N) [1,7])<|.ret) S) [7])<|q (.reg (oN 3 [.nil 1]<|N))<|q (.reg (oN 4 [.nilFn]<|N))<|q (R (oo 8 (.fnv (.func 91) [] [t 3,t 4])<|os 4 8<|N) [8])<|q (R (ol 9 4<|oL 10 5 1<|.call (some 11) (.dyn (t 9)) [t 10] N) [1,4,9,10,11])<|q (R (ol 12 3<|cl 13 93 [t 12]<|N) [12,13])<|q (R (ol 14 3<|cl 15 94 [t 14]<|om 2 15<|N) [3,14,15])<|.ret
theorem ok31 : FT 31 16 ir31 [.tmp 2] := .o Tryz.func31
def ir86 : Ic := q (.reg (oN 0 [.nilFn,.nilFn,.nilFn,.nilFn,.nilFn,.nilFn,.nilFn,.nilFn,.nilFn,.nilFn,.nilFn]<|N))<|q (R (oo 1 (.bld [.nilFn,.nilFn,.nilFn,.nilFn,.nilFn,.nilFn,.nilFn,.nilFn,.nilFn,.nilFn,.nilFn] [(1,1,.k (.fn (.func 166) [] [])),(2,1,.k (.fn (.func 168) [] [])),(3,1,.k (.fn (.func 169) [] [])),(4,1,.k (.fn (.func 171) [] [])),(5,1,.k (.fn (.func 174) [] [])),(6,1,.k (.fn (.func 175) [] [])),(7,1,.k (.fn (.func 176) [] [])),(8,1,.k (.fn (.func 177) [] [])),(9,1,.k (.fn (.func 178) [] [])),(10,1,.k (.fn (.func 179) [] []))])<|oS 11 0 1<|N) [1])<|.ret
theorem ok86 : FT 86 2 ir86 [.cell 0 (some 11)] := .o Tryz.func86
def ir87 : Ic := q (R (ox 1 0<|ok 2 (.k .nilFn)<|N) [0,2])<|q (R (oo 3 (.fnv (.func 180) [] [t 1])<|om 2 3<|N) [1,3])<|.ret
theorem ok87 : FT 87 4 ir87 [.tmp 2] := .o Tryz.func87
def ir89 : Ic := q (R (ox 1 0<|ow 2 false<|N) [0,2])<|q (R (of 6 1 0<|ol 7 6<|oi 8 .eql 7 1<|om 9 8<|.sc 9 false (of 10 1 0<|ol 11 10<|oi 12 .eql 11 2<|N) (t 12) 13 (om 14 13<|.sc 14 false (of 15 1 0<|ol 16 15<|oi 17 .eql 16 6<|N) (t 17) 18 (om 19 18<|.sc 19 false (of 20 1 0<|ol 21 20<|oi 22 .eql 21 7<|N) (t 22) 23 (om 24 23<|.sc 24 false (of 25 1 0<|ol 26 25<|oi 27 .eql 26 3<|N) (t 27) 28 (om 3 28<|N))))) [6,7,8,9,13,14,18,19,23,24,28])<|q (R (of 29 1 0<|ol 30 29<|oi 31 .eql 30 4<|om 32 31<|.sc 32 false (of 33 1 0<|ol 34 33<|oi 35 .eql 34 5<|N) (t 35) 36 (om 37 36<|.sc 37 false (of 38 1 0<|ol 39 38<|oi 40 .eql 39 10<|N) (t 40) 41 (om 4 41<|N))) [29,30,31,32,36,37,41])<|q (R (of 42 1 0<|ol 43 42<|oi 44 .eql 43 8<|om 45 44<|.sc 45 false (of 46 1 0<|ol 47 46<|oi 48 .eql 47 10<|N) (t 48) 49 (om 5 49<|N)) [42,43,44,45,49])<|q (R (om 50 3<|om 51 50<|.sc 51 false (of 52 1 1<|ol 53 52<|oi 54 .eql 53 0<|N) (t 54) 55 (om 56 55<|.sc 56 true (of 57 1 0<|ol 58 57<|oi 59 .eql 58 3<|om 60 59<|.sc 60 false (of 61 1 2<|ol 62 61<|oi 63 .eql 62 0<|N) (t 63) 64 N) (t 64) 65 (om 66 65<|.sc 66 true (om 67 4<|om 68 67<|.sc 68 false (of 69 1 3<|ol 70 69<|ob 71 .seq (t 70) (.k (.str []))<|N) (t 71) 72 N) (t 72) 73 (om 74 73<|.sc 74 true (om 75 5<|om 76 75<|.sc 76 false (of 77 1 4<|ol 78 77<|oh 79 78<|oi 80 .eql 79 0<|N) (t 80) 81 N) (t 81) 82 (om 83 82<|.sc 83 true (of 84 1 0<|ol 85 84<|oi 86 .eql 85 9<|om 87 86<|.sc 87 false (of 88 1 5<|ol 89 88<|oh 90 89<|oi 91 .eql 90 0<|N) (t 91) 92 N) (t 92) 93 (om 2 93<|N)))))) [1,3,4,5,50,51,55,56,65,66,73,74,82,83,93])<|.ret
theorem ok89 : FT 89 94 ir89 [.tmp 2] := .o Tryz.func89
def ir90 : Ic := q (R (ox 1 0<|oz 2 0<|N) [0,2])<|q (.reg (oN 3 [.int .i64 0]<|on (.sto none (t 3) (i 0))<|N))<|q (.reg (oN 4 [.nilFn]<|N))<|q (R (oo 5 (.fnv (.func 182) [] [t 3,t 4])<|os 4 5<|N) [3,5])<|q (R (ol 6 4<|oL 7 5 1<|.call (some 8) (.dyn (t 6)) [t 7,i 1] (om 2 8<|N)) [1,4,6,7,8])<|.ret
theorem ok90 : FT 90 9 ir90 [.tmp 2] := .o Tryz.func90
def ir91 : Ic := q (R (ox 3 0<|N) [0])<|q (q (R (of 6 3 0<|ol 7 6<|cl 8 92 [t 7]<|N) [6,7])<|D (I 8 (R (ol 9 1<|of 10 3 2<|ol 11 10<|oo 12 (.bls 1 [t 11])<|oo 13 (.app 1 (t 9) (t 12))<|os 1 13<|N) [8,9,10,11,12,13]) S) [8])<|q (R (of 14 3 4<|ol 15 14<|oh 16 15<|oz 17 0<|N) [3,14])<|D (.block 0<|.loop (q (.reg (ot 18 .lss 17 16<|N))<|q (D (I 18 S (E 0)) [18])<|q (D (.block 1<|q (R (oa true 19 5 15 17<|oL 20 5 19<|oN 5 [.int .i64 0,.int .i64 0,.str [],.nil 6,.nil 5]<|oS 5 5 20<|N) [19,20])<|R (ol 21 2<|oL 22 5 5<|.call (some 23) (.dyn (t 21)) [t 22] N) [5,21,22,23]) [])<|R (oi 24 .add 17 1<|om 17 24<|N) [24])) [15,16,17,18,5]
theorem ok91 : FT 91 25 ir91 [] := .o Tryz.func91
def ir92 : Ic := q (R (ow 2 false<|N) [2])<|q (R (om 3 0<|oi 4 .eql 3 2<|om 5 4<|.sc 5 false (om 6 0<|oi 7 .eql 6 22<|N) (t 7) 8 (om 9 8<|.sc 9 false (om 10 0<|oi 11 .eql 10 26<|N) (t 11) 12 (om 2 12<|N))) [0,3,4,5,8,9,12])<|.ret
theorem ok92 : FT 92 13 ir92 [.tmp 2] := .o Tryz.func92
def ir166 : Ic := q (R (ox 1 0<|oz 2 0<|N) [0,2])<|q (R (of 3 1 1<|ol 4 3<|cl 5 167 [t 4,i 0,i 1]<|om 2 5<|N) [1,3,4,5])<|.ret
theorem ok166 : FT 166 6 ir166 [.tmp 2] := .o Tryz.func166
def ir167 : Ic := q (R (oz 6 0<|N) [6])<|q (q (R (om 7 0<|om 8 1<|ot 9 .lss 7 8<|om 10 9<|.sc 10 false (om 11 0<|om 12 2<|ot 13 .gtr 11 12<|N) (t 13) 14 N) [0,1,2,7,8,9,10])<|D (I 14 (q (R (oz 6 2<|N) [14])<|.ret) S) [14])<|q (.reg (oz 6 0<|N))<|.ret
theorem ok167 : FT 167 15 ir167 [.tmp 6] := .o Tryz.func167
def ir168 : Ic := q (R (ox 1 0<|oz 2 0<|N) [0,2])<|q (R (of 3 1 1<|ol 4 3<|cl 5 167 [t 4,i (-999999999999999),i 999999999999999]<|om 2 5<|N) [1,3,4,5])<|.ret
theorem ok168 : FT 168 6 ir168 [.tmp 2] := .o Tryz.func168
def ir169 : Ic := q (R (ox 1 0<|oz 2 0<|N) [0,2])<|q (D (.regd [(2,4)] (of 3 1 1<|ol 4 3<|cl 5 167 [t 4,i (-999999999999999),i 999999999999999]<|of 6 1 2<|ol 7 6<|cl 8 167 [t 7,i 0,i 12]<|oo 9 (.bls 1 [t 5,t 8])<|cl 10 170 [t 9]<|om 2 10<|N)) [1,3,4,5,6,7,8,9,10])<|.ret
theorem ok169 : FT 169 11 ir169 [.tmp 2] := .o Tryz.func169
def ir170 : Ic := q (R (oz 2 0<|N) [2])<|q (q (R (om 5 0<|oh 6 5<|oz 7 0<|N) [0])<|D (.block 0<|.loop (q (.reg (ot 8 .lss 7 6<|N))<|q (D (I 8 S (E 0)) [8])<|q (D (.block 1<|q (R (oa false 9 1 5 7<|ol 10 9<|om 4 10<|N) [9,10])<|q (R (om 11 4<|oi 12 .neq 11 0<|N) [11])<|D (I 12 (q (R (om 13 4<|om 2 13<|N) [5,6,7,4,12,13])<|.ret) S) [4,12]) [])<|R (oi 14 .add 7 1<|om 7 14<|N) [14])) [5,6,7,8,9,10,4,11])<|q (.reg (oz 2 0<|N))<|.ret
theorem ok170 : FT 170 15 ir170 [.tmp 2] := .o Tryz.func170
def ir171 : Ic := q (R (ox 1 0<|oz 2 0<|N) [0,2])<|q (R (of 4 1 3<|ol 5 4<|oj 6 5<|cl 7 172 [t 6,i 1024,i 5]<|om 3 7<|N) [4,5,6,7])<|q (q (R (om 8 3<|oi 9 .eql 8 0<|om 10 9<|.sc 10 true (of 11 1 3<|ol 12 11<|cl 13 173 [t 12]<|og 14 13<|N) (t 14) 15 N) [1,8,9,10])<|D (I 15 (R (oz 3 16<|N) [15]) S) [15])<|q (R (om 16 3<|om 2 16<|N) [3,16])<|.ret
theorem ok171 : FT 171 17 ir171 [.tmp 2] := .o Tryz.func171
def ir172 : Ic := q (R (oz 6 0<|N) [6])<|q (q (R (om 7 0<|om 8 1<|ot 9 .gtr 7 8<|N) [0,1,7,8])<|D (I 9 (q (R (om 10 2<|om 6 10<|N) [2,9,10])<|.ret) S) [2,9])<|q (.reg (oz 6 0<|N))<|.ret
theorem ok172 : FT 172 11 ir172 [.tmp 6] := .o Tryz.func172
def ir174 : Ic := q (R (ox 1 0<|oz 2 0<|N) [0,2])<|q (R (of 3 1 3<|ol 4 3<|oj 5 4<|cl 6 172 [t 5,i 1024,i 5]<|om 2 6<|N) [1,3,4,5,6])<|.ret
theorem ok174 : FT 174 7 ir174 [.tmp 2] := .o Tryz.func174
def ir175 : Ic := q (R (ox 1 0<|oz 2 0<|N) [0,2])<|q (R (of 3 1 1<|ol 4 3<|cl 5 167 [t 4,i (-719162),i 2932896]<|om 2 5<|N) [1,3,4,5])<|.ret
theorem ok175 : FT 175 6 ir175 [.tmp 2] := .o Tryz.func175
def ir176 : Ic := q (R (ox 1 0<|oz 2 0<|N) [0,2])<|q (R (of 3 1 1<|ol 4 3<|cl 5 167 [t 4,i (-62135596800000),i 253402300799999]<|om 2 5<|N) [1,3,4,5])<|.ret
theorem ok176 : FT 176 6 ir176 [.tmp 2] := .o Tryz.func176
def ir177 : Ic := q (R (ox 1 0<|oz 2 0<|N) [0,2])<|q (R (of 3 1 4<|ol 4 3<|oh 5 4<|cl 6 172 [t 5,i 256,i 9]<|om 2 6<|N) [1,3,4,5,6])<|.ret
theorem ok177 : FT 177 7 ir177 [.tmp 2] := .o Tryz.func177
def ir178 : Ic := q (R (ox 1 0<|oz 2 0<|N) [0,2])<|q (q (R (of 6 1 5<|ol 7 6<|oh 8 7<|cl 9 172 [t 8,i 64,i 9]<|om 3 9<|N) [6,7,8,9])<|q (R (om 10 3<|oi 11 .neq 10 0<|N) [10])<|D (I 11 (q (R (om 12 3<|om 2 12<|N) [1,3,11,12])<|.ret) S) [3,11])<|q (q (R (of 13 1 5<|ol 14 13<|oh 15 14<|oz 16 0<|N) [13])<|D (.block 0<|.loop (q (.reg (ot 17 .lss 16 15<|N))<|q (D (I 17 S (E 0)) [17])<|q (D (.block 1<|q (R (om 18 16<|oa true 19 7 14 16<|oL 20 7 19<|oN 5 v7<|om 4 18<|oS 7 5 20<|N) [18,19,20])<|D (.block 2<|q (R (of 22 5 0<|ol 23 22<|cl 24 151 [t 23]<|og 25 24<|om 21 25<|N) [22,23,24,25])<|D (I 21 (q (R (oz 2 12<|N) [1,14,15,16,5,4,21])<|.ret) (q (R (om 27 4<|oi 28 .gtr 27 0<|om 29 28<|.sc 29 true (of 30 5 0<|ol 31 30<|of 32 1 5<|ol 33 32<|om 34 4<|oi 35 .sub 34 1<|oa true 36 7 33 35<|of 37 36 0<|ol 38 37<|ot 39 .seq 31 38<|N) (t 39) 40 (om 26 40<|N)) [21,27,28,29,40])<|D (I 26 (q (R (oz 2 7<|N) [1,14,15,16,5,4,26])<|.ret) (q (R (om 42 4<|oi 43 .gtr 42 0<|om 44 43<|.sc 44 true (of 45 5 0<|ol 46 45<|of 47 1 5<|ol 48 47<|om 49 4<|oi 50 .sub 49 1<|oa true 51 7 48 50<|of 52 51 0<|ol 53 52<|ot 54 .slt 46 53<|N) (t 54) 55 (om 41 55<|N)) [5,4,26,42,43,44,55])<|D (I 41 (q (R (oz 2 24<|N) [1,14,15,16,41])<|.ret) S) [41])) [])) []) []) [])<|R (oi 56 .add 16 1<|om 16 56<|N) [56])) [1,14,15,16,17,5,4])<|q (.reg (oz 2 0<|N))<|.ret
theorem ok178 : FT 178 57 ir178 [.tmp 2] := .o Tryz.func178
def ir179 : Ic := q (R (ox 1 0<|oz 2 0<|N) [0,2])<|q (D (.block 0<|q (R (of 4 1 3<|ol 5 4<|cl 6 151 [t 5]<|og 7 6<|om 3 7<|N) [4,5,6,7])<|D (I 3 (q (R (oz 2 12<|N) [1,3])<|.ret) (q (R (of 9 1 4<|ol 10 9<|oh 11 10<|oi 12 .eql 11 0<|om 8 12<|N) [3,9,10,11,12])<|D (I 8 (q (R (oz 2 4<|N) [1,8])<|.ret) S) [8])) []) [])<|q (R (of 13 1 4<|ol 14 13<|oh 15 14<|cl 16 172 [t 15,i 1,i 3]<|om 2 16<|N) [1,13,14,15,16])<|.ret
theorem ok179 : FT 179 17 ir179 [.tmp 2] := .o Tryz.func179
def ir180 : Ic := R (oL 3 6 1<|om 4 0<|cl 5 181 [t 3,i 1,t 4]<|N) [0,3,4,5]
theorem ok180 : FT 180 6 ir180 [] := .o Tryz.func180
def ir181 : Ic := q (R (ox 3 0<|ow 6 false<|N) [0,6])<|q (q (R (om 9 2<|om 10 1<|oL 11 6 3<|.call (some 12) (.dyn (t 9)) [t 10,t 11] (og 13 12<|N)) [9,10,11,12])<|D (I 13 (q (R (ow 6 false<|N) [1,2,3,13])<|.ret) S) [13])<|q (q (R (oL 14 6 3<|cl 15 241 [t 14]<|oh 16 15<|oz 17 0<|N) [3,14])<|D (.block 0<|.loop (q (.reg (ot 18 .lss 17 16<|N))<|q (D (I 18 S (E 0)) [18])<|q (D (.block 1<|q (R (oa true 19 6 15 17<|oL 20 6 19<|oN 8 v6<|oS 6 8 20<|N) [19,20])<|q (R (oL 21 6 8<|om 22 1<|oi 23 .add 22 1<|om 24 2<|cl 25 181 [t 21,t 23,t 24]<|og 26 25<|N) [8,21,22,23,24,25])<|D (I 26 (q (R (ow 6 false<|N) [1,2,15,16,17,26])<|.ret) S) [26]) [])<|R (oi 27 .add 17 1<|om 17 27<|N) [27])) [1,2,15,16,17,18,8])<|q (.reg (ow 6 true<|N))<|.ret
theorem ok181 : FT 181 28 ir181 [.tmp 6] := .o Tryz.func181
def ir182 : Ic := q (R (ox 4 0<|oz 6 0<|N) [0,6])<|q (q (R (ol 11 2<|oi 12 .eql 11 256<|N) [11])<|D (I 12 (q (R (oz 6 9<|N) [1,4,12])<|.ret) S) [12])<|q (R (ol 13 2<|oi 14 .add 13 1<|os 2 14<|N) [13,14])<|q (q (R (om 15 1<|oi 16 .gtr 15 8<|N) [15])<|D (I 16 (q (R (oz 6 23<|N) [1,4,16])<|.ret) S) [16])<|q (q (R (oL 17 5 4<|cl 18 183 [t 17]<|om 7 18<|N) [17,18])<|q (R (om 19 7<|oi 20 .neq 19 0<|N) [19])<|D (I 20 (q (R (om 21 7<|om 6 21<|N) [1,4,7,20,21])<|.ret) S) [7,20])<|q (q (R (of 22 4 4<|ol 23 22<|oh 24 23<|oz 25 0<|N) [4,22])<|D (.block 0<|.loop (q (.reg (ot 26 .lss 25 24<|N))<|q (D (I 26 S (E 0)) [26])<|q (D (.block 1<|q (R (oa true 27 5 23 25<|oL 28 5 27<|oN 9 [.int .i64 0,.int .i64 0,.str [],.nil 6,.nil 5]<|oS 5 9 28<|N) [27,28])<|q (R (ol 29 3<|oL 30 5 9<|om 31 1<|oi 32 .add 31 1<|.call (some 33) (.dyn (t 29)) [t 30,t 32] (om 10 33<|N)) [9,29,30,31,32,33])<|q (R (om 34 10<|oi 35 .neq 34 0<|N) [34])<|D (I 35 (q (R (om 36 10<|om 6 36<|N) [1,23,24,25,10,35,36])<|.ret) S) [10,35]) [])<|R (oi 37 .add 25 1<|om 25 37<|N) [37])) [1,23,24,25,26,9,10])<|q (.reg (oz 6 0<|N))<|.ret
theorem ok182 : FT 182 38 ir182 [.tmp 6] := .o Tryz.func182
def ir183 : Ic := q (R (ox 1 0<|oz 2 0<|N) [0,2])<|q (q (R (of 8 1 0<|ol 9 8<|oi 10 .lss 9 1<|om 11 10<|.sc 11 false (of 12 1 0<|ol 13 12<|oi 14 .gtr 13 28<|N) (t 14) 15 N) [8,9,10,11])<|D (I 15 (q (R (oz 2 11<|N) [1,15])<|.ret) S) [15])<|q (R (of 17 1 0<|ol 18 17<|cl 19 242 [t 18]<|om 16 19<|oe 20 16 0<|oe 21 16 1<|om 3 20<|om 4 21<|N) [17,18,19,16,20,21])<|q (D (.block 0<|q (R (of 23 1 0<|ol 24 23<|oi 25 .neq 24 1<|om 26 25<|.sc 26 true (of 27 1 3<|ol 28 27<|oh 29 28<|oi 30 .gtr 29 0<|N) (t 30) 31 (om 32 31<|.sc 32 false (of 33 1 0<|ol 34 33<|cl 35 92 [t 34]<|og 36 35<|om 37 36<|.sc 37 true (of 38 1 2<|ol 39 38<|ob 40 .sne (t 39) (.k (.str []))<|N) (t 40) 41 N) (t 41) 42 (om 43 42<|.sc 43 false (of 44 1 0<|ol 45 44<|cl 46 243 [t 45]<|og 47 46<|om 48 47<|.sc 48 true (of 49 1 1<|ol 50 49<|oi 51 .neq 50 0<|N) (t 51) 52 N) (t 52) 53 (om 22 53<|N)))) [23,24,25,26,31,32,42,43,53])<|D (I 22 (q (R (oz 2 3<|N) [1,3,4,22])<|.ret) (q (R (om 55 4<|oi 56 .eql 55 0<|om 57 56<|.sc 57 true (of 58 1 4<|ol 59 58<|oh 60 59<|oi 61 .gtr 60 0<|N) (t 61) 62 (om 54 62<|N)) [22,55,56,57,62])<|D (I 54 (q (R (oz 2 3<|N) [1,3,4,54])<|.ret) (q (R (of 64 1 4<|ol 65 64<|oh 66 65<|om 67 3<|ot 68 .lss 66 67<|om 63 68<|N) [3,54,64,65,66,67,68])<|D (I 63 (q (R (oz 2 4<|N) [1,4,63])<|.ret) (q (R (of 70 1 4<|ol 71 70<|oh 72 71<|om 73 4<|ot 74 .gtr 72 73<|om 75 74<|.sc 75 true (of 76 1 0<|ol 77 76<|oi 78 .neq 77 25<|N) (t 78) 79 (om 69 79<|N)) [4,63,70,71,72,73,74,75,79])<|D (I 69 (q (R (oz 2 3<|N) [1,69])<|.ret) (q (R (of 81 1 0<|ol 82 81<|oi 83 .eql 82 1<|om 80 83<|N) [69,81,82,83])<|D (I 80 (q (R (of 84 1 3<|ol 85 84<|cl 86 244 [t 85]<|om 2 86<|N) [1,80,84,85,86])<|.ret) (q (R (of 88 1 0<|ol 89 88<|cl 90 92 [t 89]<|om 87 90<|N) [80,88,89,90])<|D (I 87 (q (R (of 92 1 2<|ol 93 92<|cl 94 26 [t 93]<|om 91 94<|oe 95 91 0<|oe 96 91 1<|om 5 95<|om 6 96<|N) [87,92,93,94,91,95,96])<|q (q (R (om 97 6<|oi 98 .neq 97 0<|N) [97])<|D (I 98 (q (R (om 99 6<|om 2 99<|N) [1,5,6,98,99])<|.ret) S) [6,98])<|q (R (om 100 5<|cl 101 157 [t 100,.k (.fn (.func 245) [] [])]<|om 7 101<|N) [5,100,101])<|q (R (om 102 7<|of 103 1 0<|ol 104 103<|oi 105 .eql 104 26<|ot 106 .bne 102 105<|N) [7,102,103,104,105])<|D (I 106 (q (R (oz 2 22<|N) [1,106])<|.ret) S) [106]) S) [87])) [])) [])) [])) [])) []) [5,6,7])<|q (q (R (of 107 1 0<|ol 108 107<|cl 109 243 [t 108]<|om 110 109<|.sc 110 true (of 111 1 1<|ol 112 111<|oi 113 .lss 112 0<|om 114 113<|.sc 114 false (of 115 1 1<|ol 116 115<|oi 117 .gtr 116 12<|N) (t 117) 118 N) (t 118) 119 N) [1,107,108,109,110])<|D (I 119 (q (R (oz 2 2<|N) [119])<|.ret) S) [119])<|q (.reg (oz 2 0<|N))<|.ret
theorem ok183 : FT 183 120 ir183 [.tmp 2] := .o Tryz.func183
def ir241 : Ic := q (R (ox 1 0<|ok 2 (.k (.nil 6))<|N) [0,2])<|q (q (R (of 6 1 0<|ol 7 6<|N) [6])<|D (.block 0<|q (q (R (oi 9 .eql 7 8<|om 8 9<|N) [9])<|I 8 S (R (oi 10 .eql 7 10<|om 8 10<|N) [10]))<|D (I 8 (q (R (of 11 1 4<|ol 12 11<|om 2 12<|N) [1,7,8,11,12])<|.ret) (q (R (oi 14 .eql 7 9<|om 13 14<|N) [7,8,14])<|D (I 13 (q (R (ok 3 (.k (.nil 6))<|N) [13])<|q (q (R (of 15 1 5<|ol 16 15<|oh 17 16<|oz 18 0<|N) [1,15])<|D (.block 1<|.loop (q (.reg (ot 19 .lss 18 17<|N))<|q (D (I 19 S (E 1)) [19])<|q (D (.block 2<|q (R (oa true 20 7 16 18<|oL 21 7 20<|oN 5 v7<|oS 7 5 21<|N) [20,21])<|R (om 22 3<|of 23 5 1<|oL 24 6 23<|oo 25 (.bls 6 [t 24])<|oo 26 (.app 6 (t 22) (t 25))<|om 3 26<|N) [5,22,23,24,25,26]) [])<|R (oi 27 .add 18 1<|om 18 27<|N) [27])) [16,17,18,19,5])<|q (R (om 28 3<|om 2 28<|N) [3,28])<|.ret) S) [1,13])) []) [10,11,3,5])<|q (.reg (ok 2 (.k (.nil 6))<|N))<|.ret
theorem ok241 : FT 241 29 ir241 [.tmp 2] := .o Tryz.func241
def ir242 : Ic := q (R (oz 2 0<|oz 3 0<|N) [2,3])<|q (q (R (om 4 0<|N) [0])<|D (.block 0<|q (q (R (oi 6 .eql 4 1<|om 5 6<|N) [6])<|I 5 S (q (R (oi 7 .eql 4 2<|om 5 7<|N) [7])<|I 5 S (q (R (oi 8 .eql 4 22<|om 5 8<|N) [8])<|I 5 S (R (oi 9 .eql 4 26<|om 5 9<|N) [9]))))<|D (I 5 (q (R (oz 2 0<|oz 3 0<|N) [4,5])<|.ret) (q (q (R (oi 11 .eql 4 3<|om 10 11<|N) [5,11])<|I 10 S (q (R (oi 12 .eql 4 16<|om 10 12<|N) [12])<|I 10 S (q (R (oi 13 .eql 4 18<|om 10 13<|N) [13])<|I 10 S (q (R (oi 14 .eql 4 19<|om 10 14<|N) [14])<|I 10 S (q (R (oi 15 .eql 4 20<|om 10 15<|N) [15])<|I 10 S (q (R (oi 16 .eql 4 27<|om 10 16<|N) [16])<|I 10 S (R (oi 17 .eql 4 28<|om 10 17<|N) [17])))))))<|D (I 10 (q (R (oz 2 1<|oz 3 1<|N) [4,10])<|.ret) (q (q (R (oi 19 .eql 4 21<|om 18 19<|N) [10,19])<|I 18 S (R (oi 20 .eql 4 24<|om 18 20<|N) [20]))<|D (I 18 (q (R (oz 2 3<|oz 3 3<|N) [4,18])<|.ret) (q (R (oi 22 .eql 4 25<|om 21 22<|N) [4,18,22])<|D (I 21 (q (R (oz 2 2<|oz 3 256<|N) [21])<|.ret) S) [21])) [])) [])) []) [7,8,9])<|q (.reg (oz 2 2<|oz 3 2<|N))<|.ret
theorem ok242 : FT 242 23 ir242 [.tmp 2, .tmp 3] := .o Tryz.func242
def ir243 : Ic := q (R (ow 2 false<|N) [2])<|q (R (om 3 0<|oi 4 .eql 3 15<|om 5 4<|.sc 5 false (om 6 0<|oi 7 .eql 6 26<|N) (t 7) 8 (om 2 8<|N)) [0,3,4,5,8])<|.ret
theorem ok243 : FT 243 9 ir243 [.tmp 2] := .o Tryz.func243
def ir244 : Ic := q (R (oz 2 0<|N) [2])<|q (q (R (om 4 0<|oh 5 4<|N) [4])<|D (.block 0<|q (R (oi 7 .eql 5 0<|om 6 7<|N) [7])<|D (I 6 (q (R (oz 2 4<|N) [0,5,6])<|.ret) (q (R (oi 9 .eql 5 1<|om 8 9<|N) [5,6,9])<|D (I 8 (q (q (R (om 10 0<|oo 11 (.ixa true 6 (t 10) (i 0))<|oL 12 6 11<|cl 13 30 [t 12]<|om 3 13<|N) [8,10,11,12,13])<|q (R (om 14 3<|oi 15 .neq 14 0<|N) [14])<|D (I 15 (q (R (om 16 3<|om 2 16<|N) [0,3,15,16])<|.ret) S) [3,15])<|q (q (R (om 17 0<|oo 18 (.ixa true 6 (t 17) (i 0))<|of 19 18 0<|ol 20 19<|cl 21 320 [t 20]<|og 22 21<|N) [0,17,18,19,20,21])<|D (I 22 (q (R (oz 2 18<|N) [22])<|.ret) S) [22])<|q (.reg (oz 2 0<|N))<|.ret) S) [0,8])) []) [10,11,3])<|q (.reg (oz 2 3<|N))<|.ret
theorem ok244 : FT 244 23 ir244 [.tmp 2] := .o Tryz.func244
def ir245 : Ic := q (R (ox 1 0<|ow 2 false<|N) [0,2])<|q (R (of 3 1 0<|ol 4 3<|oi 5 .eql 4 3<|om 2 5<|N) [1,3,4,5])<|.ret
theorem ok245 : FT 245 6 ir245 [.tmp 2] := .o Tryz.func245
def ir320 : Ic := q (R (ow 2 false<|N) [2])<|q (R (om 3 0<|oi 4 .geq 3 1<|om 5 4<|.sc 5 true (om 6 0<|oi 7 .leq 6 7<|N) (t 7) 8 (om 2 8<|N)) [0,3,4,5,8])<|.ret
theorem ok320 : FT 320 9 ir320 [.tmp 2] := .o Tryz.func320
end Go.Proofs
namespace Go.Proofs
open Go Av Go.RowKit
def btw (n lo hi : Int) : Int := if decide (n < lo) || decide (n > hi) then 2 else 0
theorem walk167 (n lo hi : Int) : PT 167 [.int .i64 n, .int .i64 lo, .int .i64 hi] (.d (.int .i64 (btw n lo hi))) := by
 refine ok167.pc ?_;simp only [go_sem, ir167, simprocAttr];refine sq (decide (n > hi)) ?_ ?_
 ·exact zz trivial
 refine zz ?_;apply ik <;> intro h
 ·rw [btw, if_pos h]
 ·rw [btw, if_neg (by simp [h])]
def szE (n m e : Int) : Int := if decide (n > m) then e else 0
theorem walk172 (n m e : Int) : PT 172 [.int .i64 n, .int .i64 m, .int .i64 e] (.d (.int .i64 (szE n m e))) := by
 refine ok172.pc ?_;simp only [go_sem, ir172, simprocAttr];apply ik <;> intro h
 ·rw [szE, if_pos h]
 ·rw [szE, if_neg (by simp [h])]
theorem walk166 (v : Val) : PT 166 [encV v] (.d (.int .i64 (btw v.int 0 1))) := by
 refine ok166.pc ?_;rw [encV_eq];simp only [go_sem, ir166, List.length_map, simprocAttr];refine wc ((walk167 _ _ _).call trivial) trivial
theorem walk168 (v : Val) : PT 168 [encV v] (.d (.int .i64 (btw v.int (-999999999999999) 999999999999999))) := by
 refine ok168.pc ?_;rw [encV_eq];simp only [go_sem, ir168, List.length_map, simprocAttr];refine wc ((walk167 _ _ _).call trivial) trivial
theorem walk175 (v : Val) : PT 175 [encV v] (.d (.int .i64 (btw v.int (-719162) 2932896))) := by
 refine ok175.pc ?_;rw [encV_eq];simp only [go_sem, ir175, List.length_map, simprocAttr];refine wc ((walk167 _ _ _).call trivial) trivial
theorem walk176 (v : Val) : PT 176 [encV v] (.d (.int .i64 (btw v.int (-62135596800000) 253402300799999))) := by
 refine ok176.pc ?_;rw [encV_eq];simp only [go_sem, ir176, List.length_map, simprocAttr];refine wc ((walk167 _ _ _).call trivial) trivial
theorem walk174 (v : Val) : PT 174 [encV v] (.d (.int .i64 (szE v.text.length 1024 5))) := by
 refine ok174.pc ?_;rw [encV_eq];simp only [go_sem, ir174, List.length_map, simprocAttr];refine wc ((walk172 _ _ _).call trivial) trivial
theorem walk177 (v : Val) : PT 177 [encV v] (.d (.int .i64 (szE v.list.length 256 9))) := by
 refine ok177.pc ?_;rw [encV_eq];simp only [go_sem, ir177, List.length_map, simprocAttr];refine wc ((walk172 _ _ _).call trivial) trivial
def fstE : List Int → Int
 | [] => 0
 | x :: r => if x != 0 then x else fstE r
theorem walk170 (l : List Int) (hl : l.length ≤ 68719476736) : PT 170 [.list 1 (l.map fun x => .int .i64 x)] (.d (.int .i64 (fstE l))) := by
 refine ok170.pc ?_;simp only [go_sem, ir170, List.length_map, simprocAttr];generalize hR : fstE l = R;refine wpc_loop (fun n s => ∃ k : Nat, k ≤ l.length ∧ n = l.length - k ∧ R = fstE (l.drop k) ∧
  s = ⟨[(5, .d (.list 1 (l.map fun x => .int .i64 x))), (6, .d (.int .i64 l.length)), (7, .d (.int .i64 k))], []⟩) ?_ ?_
 ·exact ⟨_, _, Wk.refl _, 0, Nat.zero_le _, rfl, hR.symm, rfl⟩
 ·rintro n s ⟨k, hk, rfl, hinv, rfl⟩;by_cases hlt : k < l.length
  ·have hx : nth (l.map fun x => Dat.int .i64 x) k = .int .i64 l[k] := by rw [nth_eq (sX hlt)]; simp
   have hd := dT hlt;rw [List.drop_eq_getElem_cons hlt, fstE] at hinv;refine zz8 ?_;refine ⟨oM, dC, fun hf => ?_, fun hf => ?_⟩
   ·rw [if_pos hf] at hinv;rw [hinv]
   ·rw [if_neg (by simp [hf])] at hinv;refine ⟨l.length - (k + 1), _, oM, Wk.less ?_, k + 1, oM, rfl, hinv, rfl⟩;exact zz10 trivial
  ·have hd := dF hlt;obtain rfl : k = l.length := oM;rw [List.drop_length, fstE] at hinv;exact zz55 trivial
theorem walk169 (v : Val) : PT 169 [encV v] (.d (.int .i64 (fstE [btw v.int (-999999999999999) 999999999999999, btw v.scale 0 12]))) := by
 refine ok169.pc ?_;rw [encV_eq];simp only [go_sem, ir169, simprocAttr];refine wpsL_call rfl ((walk167 _ _ _).call trivial) trivial ?_;refine zz ?_;refine wpsL_call rfl ((walk167 _ _ _).call trivial) trivial ?_;refine zz ?_;refine ⟨sP, ?_⟩;refine wpsL_call rfl ((walk170 [btw v.int (-999999999999999) 999999999999999, btw v.scale 0 12] sP).call trivial) trivial ?_;refine zz ?_;rfl
def nullV (v : Val) : Bool := (v.kind == 0) && (v.int == 0) && (v.scale == 0) && (v.text == []) && (((v.list.length : Nat) : Int) == 0) && (((v.fields.length : Nat) : Int) == 0)
theorem walk88 (v : Val) : PT 88 [encV v] (.d (.bool (nullV v))) := by
 refine ok88.pc ?_;rw [encV_eq];simp only [go_sem, ir88, simprocAttr];refine sq (v.int == 0) ?_ ?_
 ·exact zz trivial
 refine zz ?_;refine sq (v.scale == 0) ?_ ?_
 ·exact zz trivial
 refine zz ?_;refine sq (v.text == []) ?_ ?_
 ·exact zz trivial
 refine zz ?_;refine sq (((v.list.length : Nat) : Int) == 0) ?_ ?_
 ·exact zz7 trivial
 refine zz ?_;refine sq (((v.fields.length : Nat) : Int) == 0) ?_ ?_
 ·exact zz7 trivial
 simp only [go_sem, nullV, simprocAttr]
def useN (v : Val) : Bool := (v.kind == 1) || (v.kind == 2) || (v.kind == 6) || (v.kind == 7) || (v.kind == 3)
def useT (v : Val) : Bool := (v.kind == 4) || (v.kind == 5) || (v.kind == 10)
def useL (v : Val) : Bool := (v.kind == 8) || (v.kind == 10)
def usesV (v : Val) : Bool := (useN v || (v.int == 0)) && ((v.kind == 3) || (v.scale == 0)) && (useT v || (v.text == [])) && (useL v || (((v.list.length : Nat) : Int) == 0)) && ((v.kind == 9) || (((v.fields.length : Nat) : Int) == 0))
theorem walk89 (v : Val) : PT 89 [encV v] (.d (.bool (usesV v))) := by
 refine ok89.pc ?_;rw [encV_eq];simp only [go_sem, ir89, simprocAttr];refine sq (v.kind == 2) ?_ ?_
 ·exact zz trivial
 refine zz ?_;refine sq (v.kind == 6) ?_ ?_
 ·exact zz trivial
 refine zz ?_;refine sq (v.kind == 7) ?_ ?_
 ·exact zz trivial
 refine zz ?_;refine sq (v.kind == 3) ?_ ?_
 ·exact zz trivial
 refine zz ?_;refine sq (v.kind == 5) ?_ ?_
 ·exact zz trivial
 refine zz ?_;refine sq (v.kind == 10) ?_ ?_
 ·exact zz trivial
 refine zz ?_;refine sq (v.kind == 10) ?_ ?_
 ·exact zz trivial
 refine zz ?_;refine sq (v.int == 0) ?_ ?_
 ·exact zz trivial
 refine zz ?_;refine sq ((v.kind == 3) || (v.scale == 0)) ?_ ?_
 ·refine zz ?_;refine sq (v.scale == 0) ?_ ?_
  ·exact zz trivial
  exact zz trivial
 refine zz ?_;refine sq (useT v || (v.text == [])) ?_ ?_
 ·refine zz ?_;refine sq (v.text == []) ?_ ?_
  ·exact zz trivial
  simp only [go_sem, useT, simprocAttr]
 refine zz ?_;refine sq (useL v || (((v.list.length : Nat) : Int) == 0)) ?_ ?_
 ·refine zz ?_;refine sq (((v.list.length : Nat) : Int) == 0) ?_ ?_
  ·exact zz7 trivial
  simp only [go_sem, useL, simprocAttr]
 refine zz ?_;refine sq ((v.kind == 9) || (((v.fields.length : Nat) : Int) == 0)) ?_ ?_
 ·refine zz ?_;refine sq (((v.fields.length : Nat) : Int) == 0) ?_ ?_
  ·exact zz7 trivial
  exact zz trivial
 simp only [go_sem, usesV, useN, simprocAttr]
def partsV (v : Val) : List Val := if v.kind = 8 ∨ v.kind = 10 then v.list else if v.kind = 9 then v.fields.map Fld.value else []
theorem partsV_len (v : Val) (h : v.list.length ≤ 68719476736) (h2 : v.fields.length ≤ 68719476736) : (partsV v).length ≤ 68719476736 := by
 unfold partsV;split
 ·exact h
 ·split
  ·simpa using h2
  ·simp
theorem walk241 (v : Val) (h2 : v.fields.length ≤ 68719476736) : PT 241 [encV v] (.d (.list 6 ((partsV v).map encV))) := by
 refine ok241.pc ?_;rw [encV_eq];by_cases h : v.kind = 8 ∨ v.kind = 10
 ·have hp : partsV v = v.list := by unfold partsV; rw [if_pos h]
  rw [hp];rcases h with h | h
  ·rw [h];simp only [go_sem, ir241, beq_self_eq_true, simprocAttr]
  ·rw [h];have q : ((10 : Int) == 8) = false := rfl;simp only [go_sem, ir241, q, beq_self_eq_true, simprocAttr]
 ·have q8 : (v.kind == 8) = false := sO;have q10 : (v.kind == 10) = false := sO;by_cases h9 : v.kind = 9
  ·have hp : partsV v = v.fields.map Fld.value := by unfold partsV; rw [if_neg h, if_pos h9]
   rw [hp];have q9 : (v.kind == 9) = true := by simp [h9]
   simp only [go_sem, ir241, q8, q9, q10, List.length_map, simprocAttr];refine wpc_loop (fun n s => ∃ k : Nat, k ≤ v.fields.length ∧ n = v.fields.length - k ∧
    s = ⟨[(3, .ms 26 k), (16, .d (.list 7 (v.fields.map encF))), (17, .d (.int .i64 v.fields.length)), (18, .d (.int .i64 k))], [(26, .row k 6 (((v.fields.take k).map Fld.value).map encV))]⟩) ?_ ?_
   ·refine ⟨_, _, (Wk.nilT 3 26 6 rfl rfl dC).trans (Wk.less ?_), 0, Nat.zero_le _, rfl, rfl⟩;simp [put, go_sem]
   ·rintro n s ⟨k, hk, rfl, rfl⟩;by_cases hlt : k < v.fields.length
    ·have hx := nth_encF hlt;have hd := dT hlt;refine zz8 ?_;refine ⟨⟨oM, oM⟩, sP, sO, v.fields.length - (k + 1), _, oM, Wk.less ?_, k + 1, oM, rfl, rfl⟩;simp only [go_sem, wrap64s k oM, List.take_succ_eq_append_getElem hlt, List.map_append, List.map_cons, List.map_nil, encV_eq, simprocAttr]
    ·have hd := dF hlt;obtain rfl : k = v.fields.length := oM;exact zz77 trivial
  ·have hp : partsV v = [] := by unfold partsV; rw [if_neg h, if_neg h9]
   rw [hp];have q9 : (v.kind == 9) = false := by simp [h9]
   simp only [go_sem, ir241, q8, q9, q10, List.map_nil, simprocAttr]
end Go.Proofs
namespace Go.Proofs
open Go Av
open Av.Y
def ir27 : Ic := q (R (ox 1 0<|oz 2 0<|N) [0,2])<|q (R (oL 8 5 1<|oo 9 (.bld [.int .i64 0,.int .i64 0,.str [],.nil 6,.nil 5,.int .i64 0] [(0,5,t 8),(5,1,i 1)])<|oo 10 (.bls 6 [t 9])<|om 3 10<|N) [1,8,9,10])<|q (q (.reg (oz 4 0<|N))<|D (.block 0<|.loop (q (q (R (om 11 3<|oh 12 11<|oi 13 .gtr 12 0<|N) [11,12])<|D (I 13 S (E 0)) [13])<|q (D (.block 1<|q (R (om 16 3<|om 17 3<|oh 18 17<|oi 19 .sub 18 1<|oa true 20 6 16 19<|oL 21 6 20<|oN 5 [.int .i64 0,.int .i64 0,.str [],.nil 6,.nil 5,.int .i64 0]<|oS 6 5 21<|N) [16,17,18,19,20,21])<|q (R (om 22 3<|om 23 3<|oh 24 23<|oi 25 .sub 24 1<|oo 26 (.slc 6 (t 22) none (some (t 25)) none)<|om 3 26<|N) [22,23,24,25,26])<|q (D (.block 2<|q (R (om 28 4<|oi 29 .geq 28 256<|om 27 29<|N) [28,29])<|D (I 27 (q (R (oz 2 9<|N) [3,4,5,27])<|.ret) (q (R (of 31 5 5<|ol 32 31<|oi 33 .gtr 32 8<|om 30 33<|N) [27,31,32,33])<|D (I 30 (q (R (oz 2 23<|N) [3,4,5,30])<|.ret) S) [30])) []) [])<|q (q (R (of 34 5 0<|oL 35 5 34<|cl 36 75 [t 35]<|om 6 36<|N) [34,35,36])<|q (R (om 37 6<|oi 38 .neq 37 0<|N) [37])<|D (I 38 (q (R (om 39 6<|om 2 39<|N) [3,4,5,6,38,39])<|.ret) S) [6,38])<|q (R (of 40 5 0<|of 41 40 4<|ol 42 41<|oh 43 42<|oi 44 .sub 43 1<|om 7 44<|N) [40,41,42,43,44])<|D (.block 3<|.loop (q (q (R (om 45 7<|oi 46 .geq 45 0<|N) [45])<|D (I 46 S (E 3)) [46])<|q (D (.block 4<|R (om 49 3<|of 50 5 0<|of 51 50 4<|ol 52 51<|om 53 7<|oa true 54 5 52 53<|oL 55 5 54<|of 56 5 5<|ol 57 56<|oi 58 .add 57 1<|oo 59 (.bld [.int .i64 0,.int .i64 0,.str [],.nil 6,.nil 5,.int .i64 0] [(0,5,t 55),(5,1,t 58)])<|oo 60 (.bls 6 [t 59])<|oo 61 (.app 6 (t 49) (t 60))<|om 3 61<|N) [49,50,51,52,53,54,55,56,57,58,59,60,61]) [])<|R (om 47 7<|oi 48 .sub 47 1<|om 7 48<|N) [47,48])) [5,7,46]) [])<|R (om 14 4<|oi 15 .add 14 1<|om 4 15<|N) [14,15])) [3,4,13,5,6,7])<|q (.reg (oz 2 0<|N))<|.ret
theorem ok27 : FT 27 62 ir27 [.tmp 2] := .o Tryz.func27
def ir75 : Ic := q (R (ox 1 0<|oz 2 0<|N) [0,2])<|q (R (of 9 1 0<|ol 10 9<|cl 11 152 [t 10]<|om 8 11<|oe 12 8 0<|oe 13 8 1<|om 3 12<|om 4 13<|N) [9,10,11,8,12,13])<|q (D (.block 0<|q (R (of 15 1 0<|ol 16 15<|oi 17 .lss 16 1<|om 18 17<|.sc 18 false (of 19 1 0<|ol 20 19<|oi 21 .gtr 20 28<|N) (t 21) 22 (om 14 22<|N)) [15,16,17,18,22])<|D (I 14 (q (R (oz 2 11<|N) [1,3,4,14])<|.ret) (q (R (of 24 1 0<|ol 25 24<|cl 26 153 [t 25]<|og 27 26<|om 28 27<|.sc 28 true (of 29 1 2<|ol 30 29<|ob 31 .sne (t 30) (.k (.str []))<|N) (t 31) 32 (om 33 32<|.sc 33 false (of 34 1 0<|ol 35 34<|cl 36 154 [t 35]<|og 37 36<|om 38 37<|.sc 38 true (of 39 1 1<|ol 40 39<|oi 41 .neq 40 0<|N) (t 41) 42 N) (t 42) 43 (om 44 43<|.sc 44 false (of 45 1 0<|ol 46 45<|oi 47 .neq 46 1<|om 48 47<|.sc 48 true (of 49 1 3<|ol 50 49<|oh 51 50<|oi 52 .gtr 51 0<|N) (t 52) 53 N) (t 53) 54 (om 55 54<|.sc 55 false (om 56 4<|oi 57 .eql 56 0<|om 58 57<|.sc 58 true (of 59 1 4<|ol 60 59<|oh 61 60<|oi 62 .gtr 61 0<|N) (t 62) 63 N) (t 63) 64 (om 23 64<|N))))) [14,24,25,26,27,28,32,33,43,44,54,55,64])<|D (I 23 (q (R (oz 2 3<|N) [1,3,4,23])<|.ret) (q (R (of 66 1 4<|ol 67 66<|oh 68 67<|om 69 3<|ot 70 .lss 68 69<|om 65 70<|N) [3,23,66,67,68,69,70])<|D (I 65 (q (R (oz 2 4<|N) [1,4,65])<|.ret) (q (R (of 72 1 4<|ol 73 72<|oh 74 73<|om 75 4<|ot 76 .gtr 74 75<|om 71 76<|N) [4,65,72,73,74,75,76])<|D (I 71 (q (R (oz 2 3<|N) [1,71])<|.ret) S) [71])) [])) [])) []) [])<|q (q (R (of 77 1 0<|ol 78 77<|oi 79 .eql 78 1<|N) [77,78])<|D (I 79 (q (D (.block 1<|q (R (of 81 1 3<|ol 82 81<|oh 83 82<|oi 84 .eql 83 0<|om 80 84<|N) [79,81,82,83,84])<|D (I 80 (q (R (oz 2 4<|N) [1,80])<|.ret) (q (R (of 86 1 3<|ol 87 86<|oh 88 87<|oi 89 .gtr 88 1<|om 85 89<|N) [80,86,87,88,89])<|D (I 85 (q (R (oz 2 3<|N) [1,85])<|.ret) S) [85])) []) [])<|q (q (R (of 90 1 3<|ol 91 90<|oo 92 (.ixa true 6 (t 91) (i 0))<|oL 93 6 92<|cl 94 30 [t 93]<|om 5 94<|N) [90,91,92,93,94])<|q (R (om 95 5<|oi 96 .neq 95 0<|N) [95])<|D (I 96 (q (R (om 97 5<|om 2 97<|N) [1,5,96,97])<|.ret) S) [5,96])<|q (R (of 98 1 3<|ol 99 98<|oo 100 (.ixa true 6 (t 99) (i 0))<|of 101 100 0<|ol 102 101<|oi 103 .gtr 102 7<|N) [98,99,100,101,102])<|D (I 103 (q (R (oz 2 18<|N) [1,103])<|.ret) S) [103]) S) [79])<|q (q (R (of 104 1 0<|ol 105 104<|cl 106 153 [t 105]<|N) [104,105])<|D (I 106 (q (R (of 108 1 2<|ol 109 108<|cl 110 26 [t 109]<|om 107 110<|oe 111 107 0<|oe 112 107 1<|om 6 111<|om 7 112<|N) [106,108,109,110,107,111,112])<|q (q (R (om 113 7<|oi 114 .neq 113 0<|N) [113])<|D (I 114 (q (R (om 115 7<|om 2 115<|N) [1,6,7,114,115])<|.ret) S) [7,114])<|q (D (.regd [(1,4)] (om 116 6<|cl 117 155 [t 116]<|oi 118 .gtr 117 0<|of 119 1 0<|ol 120 119<|oi 121 .eql 120 26<|ot 122 .bne 118 121<|N)) [6,116,117,118,119,120,121])<|D (I 122 (q (R (oz 2 22<|N) [1,122])<|.ret) S) [122]) S) [106])<|q (q (R (of 123 1 0<|ol 124 123<|cl 125 154 [t 124]<|om 126 125<|.sc 126 true (of 127 1 1<|ol 128 127<|oi 129 .lss 128 0<|om 130 129<|.sc 130 false (of 131 1 1<|ol 132 131<|oi 133 .gtr 132 12<|N) (t 133) 134 N) (t 134) 135 N) [1,123,124,125,126])<|D (I 135 (q (R (oz 2 2<|N) [135])<|.ret) S) [135])<|q (.reg (oz 2 0<|N))<|.ret
theorem ok75 : FT 75 136 ir75 [.tmp 2] := .o Tryz.func75
def ir153 : Ic := q (R (ow 2 false<|N) [2])<|q (R (om 3 0<|oi 4 .eql 3 2<|om 5 4<|.sc 5 false (om 6 0<|oi 7 .eql 6 22<|N) (t 7) 8 (om 9 8<|.sc 9 false (om 10 0<|oi 11 .eql 10 26<|N) (t 11) 12 (om 2 12<|N))) [0,3,4,5,8,9,12])<|.ret
theorem ok153 : FT 153 13 ir153 [.tmp 2] := .o Tryz.func153
def ir152 : Ic := q (R (oz 2 0<|oz 3 0<|N) [2,3])<|q (q (R (om 4 0<|N) [0])<|D (.block 0<|q (q (R (oi 6 .eql 4 1<|om 5 6<|N) [6])<|I 5 S (q (R (oi 7 .eql 4 2<|om 5 7<|N) [7])<|I 5 S (q (R (oi 8 .eql 4 22<|om 5 8<|N) [8])<|I 5 S (R (oi 9 .eql 4 26<|om 5 9<|N) [9]))))<|D (I 5 (q (R (oz 2 0<|oz 3 0<|N) [4,5])<|.ret) (q (q (R (oi 11 .eql 4 3<|om 10 11<|N) [5,11])<|I 10 S (q (R (oi 12 .eql 4 16<|om 10 12<|N) [12])<|I 10 S (q (R (oi 13 .eql 4 18<|om 10 13<|N) [13])<|I 10 S (q (R (oi 14 .eql 4 19<|om 10 14<|N) [14])<|I 10 S (q (R (oi 15 .eql 4 20<|om 10 15<|N) [15])<|I 10 S (q (R (oi 16 .eql 4 27<|om 10 16<|N) [16])<|I 10 S (R (oi 17 .eql 4 28<|om 10 17<|N) [17])))))))<|D (I 10 (q (R (oz 2 1<|oz 3 1<|N) [4,10])<|.ret) (q (q (R (oi 19 .eql 4 21<|om 18 19<|N) [10,19])<|I 18 S (R (oi 20 .eql 4 24<|om 18 20<|N) [20]))<|D (I 18 (q (R (oz 2 3<|oz 3 3<|N) [4,18])<|.ret) (q (R (oi 22 .eql 4 25<|om 21 22<|N) [4,18,22])<|D (I 21 (q (R (oz 2 2<|oz 3 4611686018427387904<|N) [21])<|.ret) S) [21])) [])) [])) []) [7,8,9])<|q (.reg (oz 2 2<|oz 3 2<|N))<|.ret
theorem ok152 : FT 152 23 ir152 [.tmp 2, .tmp 3] := .o Tryz.func152
def ir154 : Ic := q (R (ow 2 false<|N) [2])<|q (R (om 3 0<|oi 4 .eql 3 15<|om 5 4<|.sc 5 false (om 6 0<|oi 7 .eql 6 26<|N) (t 7) 8 (om 2 8<|N)) [0,3,4,5,8])<|.ret
theorem ok154 : FT 154 9 ir154 [.tmp 2] := .o Tryz.func154
def ir155 : Ic := q (R (oz 2 0<|N) [2])<|q (.reg (oz 3 0<|N))<|q (q (.reg (oz 4 0<|N))<|D (.block 0<|.loop (q (q (R (om 5 4<|om 6 0<|oh 7 6<|ot 8 .lss 5 7<|N) [5,6,7])<|D (I 8 S (E 0)) [8])<|q (D (.block 1<|q (R (om 11 0<|om 12 4<|oa true 13 3 11 12<|of 14 13 0<|ol 15 14<|oi 16 .eql 15 3<|N) [11,12,13,14,15])<|D (I 16 (R (om 17 3<|oi 18 .add 17 1<|om 3 18<|N) [16,17,18]) S) [16]) [])<|R (om 9 4<|oi 10 .add 9 1<|om 4 10<|N) [9,10])) [0,4,8,11,9,10])<|q (R (om 19 3<|om 2 19<|N) [3,19])<|.ret
theorem ok155 : FT 155 20 ir155 [.tmp 2] := .o Tryz.func155
end Go.Proofs
namespace Go.Proofs
open Go Av
open Av.Y
def ir33 : Ic := q (R (ox 2 0<|ox 3 1<|oN 4 v6<|oz 5 0<|N) [0,1,5])<|q (q (R (oL 9 5 2<|cl 10 90 [t 9]<|om 6 10<|N) [9,10])<|q (R (om 11 6<|oi 12 .neq 11 0<|N) [11])<|D (I 12 (q (R (oo 13 (.bld v6 [])<|om 14 6<|oS 6 4 13<|om 5 14<|N) [2,3,6,12,13,14])<|.ret) S) [6,12])<|q (q (R (of 15 3 0<|ol 16 15<|oi 17 .neq 16 9<|N) [15,16])<|D (I 17 (q (R (oo 18 (.bld v6 [])<|oS 6 4 18<|oz 5 11<|N) [2,3,17,18])<|.ret) S) [17])<|q (R (oL 19 6 3<|oo 20 (.bld [.int .i64 0,.int .i64 0,.int .i64 0,.str [],.nil 6,.nil 7,.int .i64 0] [(0,6,t 19)])<|ox 21 20<|om 7 21<|N) [3,19,20,21])<|q (R (om 22 7<|oL 23 5 2<|cl 24 95 [t 22,t 23]<|oN 8 v6<|oS 6 8 24<|N) [2,22,23,24])<|q (q (R (om 25 7<|oc 26 25<|of 27 26 6<|ol 28 27<|oi 29 .neq 28 0<|N) [25,26,27,28])<|D (I 29 (q (D (.regd [(4,5)] (oo 30 (.bld v6 [])<|om 31 7<|oc 32 31<|of 33 32 6<|ol 34 33<|oS 6 4 30<|om 5 34<|N)) [7,8,29,30,31,32,33,34])<|.ret) S) [7,29])<|q (R (oL 35 6 8<|cl 36 54 [t 35]<|oS 6 4 36<|oz 5 0<|N) [8,35,36])<|.ret
theorem ok33 : FT 33 37 ir33 [.cell 4 (some 6), .tmp 5] := .o Tryz.func33
def ir187 : Ic := q (R (ox 3 1<|oN 4 v6<|N) [1])<|q (R (om 6 0<|oL 7 5 3<|cl 8 95 [t 6,t 7]<|oN 5 v6<|oS 6 5 8<|N) [3,6,7,8])<|q (q (R (om 9 0<|oc 10 9<|of 11 10 6<|ol 12 11<|oi 13 .eql 12 0<|om 14 13<|.sc 14 true (oL 15 6 5<|cl 16 88 [t 15]<|N) (t 16) 17 N) [9,10,11,12,13,14])<|D (I 17 (q (R (om 18 0<|cl 19 190 [t 18,i 19]<|oS 6 4 19<|N) [0,5,17,18,19])<|.ret) S) [0,17])<|q (R (oL 20 6 5<|oS 6 4 20<|N) [5,20])<|.ret
theorem ok187 : FT 187 21 ir187 [.cell 4 (some 6)] := .o Tryz.func187
def ir186 : Ic := q (R (ok 0 (.k .nilMap)<|N) [0])<|q (R (oo 1 .mkm<|on (.mpu .i (t 1) (i 8) (.k (.fn (.func 257) [] [])))<|on (.mpu .i (t 1) (i 9) (.k (.fn (.func 258) [] [])))<|on (.mpu .i (t 1) (i 10) (.k (.fn (.func 259) [] [])))<|on (.mpu .i (t 1) (i 11) (.k (.fn (.func 260) [] [])))<|om 2 1<|om 0 2<|N) [1,2])<|.ret
theorem ok186 : FT 186 3 ir186 [.tmp 0] := .o Tryz.func186
def ir257 : Ic := q (R (ow 2 false<|N) [2])<|q (R (om 3 0<|oi 4 .lss 3 0<|om 2 4<|N) [0,3,4])<|.ret
theorem ok257 : FT 257 5 ir257 [.tmp 2] := .o Tryz.func257
def ir258 : Ic := q (R (ow 2 false<|N) [2])<|q (R (om 3 0<|oi 4 .leq 3 0<|om 2 4<|N) [0,3,4])<|.ret
theorem ok258 : FT 258 5 ir258 [.tmp 2] := .o Tryz.func258
def ir259 : Ic := q (R (ow 2 false<|N) [2])<|q (R (om 3 0<|oi 4 .gtr 3 0<|om 2 4<|N) [0,3,4])<|.ret
theorem ok259 : FT 259 5 ir259 [.tmp 2] := .o Tryz.func259
def ir260 : Ic := q (R (ow 2 false<|N) [2])<|q (R (om 3 0<|oi 4 .geq 3 0<|om 2 4<|N) [0,3,4])<|.ret
theorem ok260 : FT 260 5 ir260 [.tmp 2] := .o Tryz.func260
def ir189 : Ic := q (R (ox 4 1<|ox 5 2<|oz 6 0<|N) [1,2,6])<|q (D (.block 0<|q (R (om 10 0<|oc 11 10<|of 12 11 6<|ol 13 12<|oi 14 .neq 13 0<|om 9 14<|N) [10,11,12,13,14])<|D (I 9 (q (R (oz 6 0<|N) [0,4,5,9])<|.ret) (q (R (oL 16 6 4<|cl 17 261 [t 16]<|om 18 17<|.sc 18 true (oL 19 6 5<|cl 20 261 [t 19]<|N) (t 20) 21 (om 15 21<|N)) [9,16,17,18,21])<|D (I 15 (q (D (.regd [(1,2)] (oL 23 6 4<|cl 24 263 [t 23]<|oL 25 6 5<|cl 26 263 [t 25]<|cl 27 262 [t 24,t 26]<|om 22 27<|oe 28 22 0<|oe 29 22 1<|om 7 28<|om 8 29<|N)) [4,5,15,23,24,25,26,27,22,28,29])<|q (q (R (om 30 8<|oi 31 .neq 30 0<|N) [30])<|D (I 31 (R (om 32 0<|om 33 8<|cl 34 190 [t 32,t 33]<|N) [0,8,31,32,33,34]) S) [0,8,31])<|q (R (om 35 7<|om 6 35<|N) [7,35])<|.ret) (q (R (of 37 4 0<|ol 38 37<|oi 39 .eql 38 4<|om 40 39<|.sc 40 true (of 41 5 0<|ol 42 41<|oi 43 .eql 42 4<|N) (t 43) 44 (om 36 44<|N)) [15,37,38,39,40,44])<|D (I 36 (q (R (of 45 4 3<|ol 46 45<|of 47 5 3<|ol 48 47<|cl 49 107 [t 46,t 48]<|om 6 49<|N) [0,4,5,36,45,46,47,48,49])<|.ret) (q (R (of 51 4 0<|ol 52 51<|of 53 5 0<|ol 54 53<|ot 55 .eql 52 54<|om 56 55<|.sc 56 true (of 57 4 0<|ol 58 57<|oi 59 .eql 58 6<|om 60 59<|.sc 60 false (of 61 4 0<|ol 62 61<|oi 63 .eql 62 7<|N) (t 63) 64 (om 65 64<|.sc 65 false (of 66 4 0<|ol 67 66<|oi 68 .eql 67 1<|N) (t 68) 69 N)) (t 69) 70 (om 50 70<|N)) [36,51,52,53,54,55,56,70])<|D (I 50 (q (R (of 71 4 1<|ol 72 71<|of 73 5 1<|ol 74 73<|cl 75 137 [t 72,t 74]<|om 6 75<|N) [0,4,5,50,71,72,73,74,75])<|.ret) S) [4,5,50])) [])) [])) []) [7,8])<|q (R (om 76 0<|cl 77 190 [t 76,i 18]<|N) [0,76,77])<|q (.reg (oz 6 0<|N))<|.ret
theorem ok189 : FT 189 78 ir189 [.tmp 6] := .o Tryz.func189
def ir194 : Ic := q (R (ox 5 1<|ox 6 2<|ox 7 3<|oN 8 v6<|N) [1,2,3])<|q (q (R (om 12 0<|oc 13 12<|of 14 13 6<|ol 15 14<|oi 16 .neq 15 0<|N) [12,13,14,15])<|D (I 16 (q (R (oo 17 (.bld v6 [])<|oS 6 8 17<|N) [0,5,6,7,16,17])<|.ret) S) [16])<|q (q (R (oL 18 6 6<|cl 19 261 [t 18]<|og 20 19<|om 21 20<|.sc 21 false (oL 22 6 7<|cl 23 261 [t 22]<|og 24 23<|N) (t 24) 25 N) [18,19,20,21])<|D (I 25 (q (R (om 26 0<|cl 27 190 [t 26,i 18]<|oS 6 8 27<|N) [0,5,6,7,25,26,27])<|.ret) S) [25])<|q (R (of 28 6 0<|ol 29 28<|oi 30 .eql 29 2<|om 31 30<|.sc 31 true (of 32 7 0<|ol 33 32<|oi 34 .eql 33 2<|N) (t 34) 35 (om 9 35<|N)) [28,29,30,31,35])<|q (.reg (oN 10 [.int .i64 0,.int .i64 0]<|N))<|q (R (oz 11 0<|N) [11])<|q (q (R (of 36 5 0<|ol 37 36<|N) [36])<|D (.block 0<|q (R (oi 49 .eql 37 12<|om 48 49<|N) [49])<|I 48 (D (.regd [(1,2)] (oL 51 6 6<|cl 52 263 [t 51]<|oL 53 6 7<|cl 54 263 [t 53]<|cl 55 266 [t 52,t 54]<|om 50 55<|oe 56 50 0<|oe 57 50 1<|oS 2 10 56<|om 11 57<|N)) [5,6,7,37,48,51,52,53,54,55,50,56,57]) (q (R (oi 59 .eql 37 13<|om 58 59<|N) [48,59])<|I 58 (D (.regd [(1,2)] (oL 61 6 6<|cl 62 263 [t 61]<|oL 63 6 7<|cl 64 263 [t 63]<|cl 65 267 [t 62,t 64]<|om 60 65<|oe 66 60 0<|oe 67 60 1<|oS 2 10 66<|om 11 67<|N)) [5,6,7,37,58,61,62,63,64,65,60,66,67]) (q (R (oi 69 .eql 37 14<|om 68 69<|N) [37,58,69])<|I 68 (D (.regd [(1,2)] (oL 71 6 6<|cl 72 263 [t 71]<|oL 73 6 7<|cl 74 263 [t 73]<|cl 75 268 [t 72,t 74]<|om 70 75<|oe 76 70 0<|oe 77 70 1<|oS 2 10 76<|om 11 77<|N)) [5,6,7,68,71,72,73,74,75,70,76,77]) (q (D (.regd [(1,2),(1,5),(3,5)] (oL 39 6 6<|cl 40 263 [t 39]<|oL 41 6 7<|cl 42 263 [t 41]<|of 43 5 1<|ol 44 43<|cl 45 269 [t 40,t 42,t 44]<|om 38 45<|oe 46 38 0<|oe 47 38 1<|oS 2 10 46<|om 11 47<|N)) [5,6,7,9,68,39,40,41,42,43,44,45,38,46,47])<|.reg (ow 9 false<|N))))) [])<|q (R (om 78 0<|om 79 9<|oL 80 2 10<|om 81 11<|cl 82 265 [t 78,t 79,t 80,t 81]<|oS 6 8 82<|N) [0,9,10,11,78,79,80,81,82])<|.ret
theorem ok194 : FT 194 83 ir194 [.cell 8 (some 6)] := .o Tryz.func194
def ir265 : Ic := q (R (ox 6 2<|oN 8 v6<|N) [2])<|q (D (.block 0<|q (R (om 10 3<|oi 11 .neq 10 0<|om 9 11<|N) [10,11])<|I 9 (q (R (om 12 0<|om 13 3<|cl 14 190 [t 12,t 13]<|oS 6 8 14<|N) [0,1,3,6,9,12,13,14])<|.ret) (q (R (om 16 1<|om 15 16<|N) [0,1,3,9,16])<|D (I 15 (q (R (of 17 6 0<|ol 18 17<|cl 19 10 [t 18]<|oS 6 8 19<|N) [6,15,17,18,19])<|.ret) S) [15])) [])<|q (R (of 20 6 0<|ol 21 20<|of 22 6 1<|ol 23 22<|cl 24 71 [t 21,t 23]<|oS 6 8 24<|N) [6,20,21,22,23,24])<|.ret
theorem ok265 : FT 265 25 ir265 [.cell 8 (some 6)] := .o Tryz.func265
def ir261 : Ic := q (R (ox 1 0<|ow 2 false<|N) [0,2])<|q (R (of 3 1 0<|ol 4 3<|oi 5 .eql 4 2<|om 6 5<|.sc 6 false (of 7 1 0<|ol 8 7<|oi 9 .eql 8 3<|N) (t 9) 10 (om 2 10<|N)) [1,3,4,5,6,10])<|.ret
theorem ok261 : FT 261 11 ir261 [.tmp 2] := .o Tryz.func261
def ir263 : Ic := q (R (ox 1 0<|oN 2 [.int .i64 0,.int .i64 0]<|N) [0])<|q (q (R (of 3 1 0<|ol 4 3<|oi 5 .eql 4 2<|N) [3,4])<|D (I 5 (q (R (of 6 1 1<|ol 7 6<|oo 8 (.bld [.int .i64 0,.int .i64 0] [(0,1,t 7)])<|oS 2 2 8<|N) [1,5,6,7,8])<|.ret) S) [5])<|q (R (of 9 1 1<|ol 10 9<|of 11 1 2<|ol 12 11<|oo 13 (.bld [.int .i64 0,.int .i64 0] [(0,1,t 10),(1,1,t 12)])<|oS 2 2 13<|N) [1,9,10,11,12,13])<|.ret
theorem ok263 : FT 263 14 ir263 [.cell 2 (some 2)] := .o Tryz.func263
def ir190 : Ic := q (.reg (oN 4 v6<|N))<|q (q (R (om 5 0<|oc 6 5<|of 7 6 6<|ol 8 7<|oi 9 .eql 8 0<|N) [5,6,7,8])<|D (I 9 (R (om 10 0<|om 11 1<|oc 12 10<|of 13 12 6<|os 13 11<|N) [0,1,9,10,11,12,13]) S) [0,1,9])<|q (R (oo 14 (.bld v6 [])<|oS 6 4 14<|N) [14])<|.ret
theorem ok190 : FT 190 15 ir190 [.cell 4 (some 6)] := .o Tryz.func190
def ir188 : Ic := q (.reg (oN 2 v6<|N))<|q (q (R (om 3 0<|N) [0])<|D (I 3 (q (R (oo 4 (.bld v6 [(0,1,i 1),(1,1,i 1)])<|oS 6 2 4<|N) [3,4])<|.ret) S) [3])<|q (R (oo 5 (.bld v6 [(0,1,i 1)])<|oS 6 2 5<|N) [5])<|.ret
theorem ok188 : FT 188 6 ir188 [.cell 2 (some 6)] := .o Tryz.func188
def ir71 : Ic := q (.reg (oN 4 v6<|N))<|q (R (om 5 0<|om 6 1<|oo 7 (.bld v6 [(0,1,i 3),(1,1,t 5),(2,1,t 6)])<|oS 6 4 7<|N) [0,1,5,6,7])<|.ret
theorem ok71 : FT 71 8 ir71 [.cell 4 (some 6)] := .o Tryz.func71
def ir10 : Ic := q (.reg (oN 2 v6<|N))<|q (R (om 3 0<|oo 4 (.bld v6 [(0,1,i 2),(1,1,t 3)])<|oS 6 2 4<|N) [0,3,4])<|.ret
theorem ok10 : FT 10 5 ir10 [.cell 2 (some 6)] := .o Tryz.func10
def ir337 : Ic := q (R (ox 1 0<|oz 2 0<|N) [0,2])<|q (q (R (of 3 1 0<|ol 4 3<|cl 5 330 [t 4]<|oi 6 .gtr 5 999999999999999<|om 7 6<|.sc 7 false (of 8 1 0<|ol 9 8<|oi 10 .lss 9 (-999999999999999)<|N) (t 10) 11 (om 12 11<|.sc 12 false (of 13 1 1<|ol 14 13<|oi 15 .lss 14 0<|N) (t 15) 16 (om 17 16<|.sc 17 false (of 18 1 1<|ol 19 18<|oi 20 .gtr 19 12<|N) (t 20) 21 N))) [1,3,4,5,6,7,11,12,16,17])<|D (I 21 (q (R (oz 2 2<|N) [21])<|.ret) S) [21])<|q (.reg (oz 2 0<|N))<|.ret
theorem ok337 : FT 337 22 ir337 [.tmp 2] := .o Tryz.func337
def ir266 : Ic := q (R (ox 2 0<|ox 3 1<|oN 4 [.int .i64 0,.int .i64 0]<|oz 5 0<|N) [0,1,5])<|q (q (R (oL 7 2 2<|oL 8 2 3<|oo 9 (.bls 2 [t 7,t 8])<|cl 10 327 [t 9]<|om 6 10<|N) [7,8,9,10])<|q (R (om 11 6<|oi 12 .neq 11 0<|N) [11])<|D (I 12 (q (R (oo 13 (.bld [.int .i64 0,.int .i64 0] [])<|om 14 6<|oS 2 4 13<|om 5 14<|N) [2,3,6,12,13,14])<|.ret) S) [6,12])<|q (R (oL 15 2 2<|oL 16 2 3<|oo 17 (.bls 2 [t 15,t 16])<|of 18 2 1<|ol 19 18<|of 20 3 1<|ol 21 20<|oo 22 (.mx (t 19) (t 21))<|cl 23 329 [t 17,t 22]<|oe 24 23 0<|oe 25 23 1<|oS 2 4 24<|om 5 25<|N) [2,3,15,16,17,18,19,20,21,22,23,24,25])<|.ret
theorem ok266 : FT 266 26 ir266 [.cell 4 (some 2), .tmp 5] := .o Tryz.func266
def ir262 : Ic := q (R (ox 2 0<|ox 3 1<|oz 4 0<|oz 5 0<|N) [0,1,4,5])<|q (q (R (oL 11 2 2<|oL 12 2 3<|oo 13 (.bls 2 [t 11,t 12])<|cl 14 327 [t 13]<|om 6 14<|N) [11,12,13,14])<|q (R (om 15 6<|oi 16 .neq 15 0<|N) [15])<|D (I 16 (q (R (om 17 6<|oz 4 0<|om 5 17<|N) [2,3,6,16,17])<|.ret) S) [6,16])<|q (R (oL 19 2 2<|cl 20 328 [t 19]<|om 18 20<|oe 21 18 0<|oe 22 18 1<|om 7 21<|om 8 22<|N) [2,19,20,18,21,22])<|q (R (oL 24 2 3<|cl 25 328 [t 24]<|om 23 25<|oe 26 23 0<|oe 27 23 1<|om 9 26<|om 10 27<|N) [3,24,25,23,26,27])<|q (R (om 28 7<|om 29 9<|cl 30 137 [t 28,t 29]<|om 31 8<|om 32 10<|cl 33 137 [t 31,t 32]<|oo 34 (.bls 1 [t 30,t 33])<|cl 35 136 [t 34]<|om 4 35<|oz 5 0<|N) [7,8,9,10,28,29,30,31,32,33,34,35])<|.ret
theorem ok262 : FT 262 36 ir262 [.tmp 4, .tmp 5] := .o Tryz.func262
def ir269 : Ic := q (R (ox 3 0<|ox 4 1<|oN 6 [.int .i64 0,.int .i64 0]<|oz 7 0<|N) [0,1,7])<|q (q (R (oL 10 2 3<|oL 11 2 4<|oo 12 (.bls 2 [t 10,t 11])<|cl 13 327 [t 12]<|om 8 13<|N) [10,11,12,13])<|q (R (om 14 8<|oi 15 .neq 14 0<|N) [14])<|D (I 15 (q (R (oo 16 (.bld [.int .i64 0,.int .i64 0] [])<|om 17 8<|oS 2 6 16<|om 7 17<|N) [2,3,4,8,15,16,17])<|.ret) S) [8,15])<|q (D (.block 0<|q (R (om 19 2<|oi 20 .lss 19 0<|om 21 20<|.sc 21 false (om 22 2<|oi 23 .gtr 22 12<|N) (t 23) 24 (om 18 24<|N)) [19,20,21,24])<|D (I 18 (q (R (oo 25 (.bld [.int .i64 0,.int .i64 0] [])<|oS 2 6 25<|oz 7 2<|N) [2,3,4,18,25])<|.ret) (q (R (of 27 4 0<|ol 28 27<|oi 29 .eql 28 0<|om 26 29<|N) [18,27,28,29])<|D (I 26 (q (R (oo 30 (.bld [.int .i64 0,.int .i64 0] [])<|oS 2 6 30<|oz 7 15<|N) [2,3,4,26,30])<|.ret) S) [26])) []) [])<|q (R (of 31 3 0<|ol 32 31<|of 33 4 0<|ol 34 33<|om 35 2<|of 36 4 1<|ol 37 36<|ot 38 .add 35 37<|of 39 3 1<|ol 40 39<|ot 41 .sub 38 40<|cl 42 332 [t 32,t 34,t 41]<|om 9 42<|N) [31,32,33,34,35,36,37,38,39,40,41,42])<|q (q (R (of 43 3 0<|ol 44 43<|oi 45 .lss 44 0<|of 46 4 0<|ol 47 46<|oi 48 .lss 47 0<|ot 49 .bne 45 48<|N) [3,4,43,44,45,46,47,48])<|D (I 49 (R (om 50 9<|oo 51 (.neg .i64 (t 50))<|om 9 51<|N) [49,50,51]) S) [49])<|q (R (om 52 9<|om 53 2<|cl 54 331 [t 52,t 53]<|oe 55 54 0<|oe 56 54 1<|oS 2 6 55<|om 7 56<|N) [2,9,52,53,54,55,56])<|.ret
theorem ok269 : FT 269 57 ir269 [.cell 6 (some 2), .tmp 7] := .o Tryz.func269
def ir330 : Ic := q (R (oz 2 0<|N) [2])<|q (R (om 3 0<|om 4 0<|oo 5 (.neg .i64 (t 4))<|oo 6 (.mx (t 3) (t 5))<|om 2 6<|N) [0,3,4,5,6])<|.ret
theorem ok330 : FT 330 7 ir330 [.tmp 2] := .o Tryz.func330
def ir327 : Ic := q (R (oz 2 0<|N) [2])<|q (q (R (om 6 0<|oh 7 6<|oz 8 0<|N) [0])<|D (.block 0<|.loop (q (.reg (ot 9 .lss 8 7<|N))<|q (D (I 9 S (E 0)) [9])<|q (D (.block 1<|q (R (oa true 10 2 6 8<|oL 11 2 10<|oN 4 [.int .i64 0,.int .i64 0]<|oS 2 4 11<|N) [10,11])<|q (R (oL 12 2 4<|cl 13 337 [t 12]<|om 5 13<|N) [4,12,13])<|q (R (om 14 5<|oi 15 .neq 14 0<|N) [14])<|D (I 15 (q (R (om 16 5<|om 2 16<|N) [6,7,8,5,15,16])<|.ret) S) [5,15]) [])<|R (oi 17 .add 8 1<|om 8 17<|N) [17])) [6,7,8,9,10,11,4,5])<|q (.reg (oz 2 0<|N))<|.ret
theorem ok327 : FT 327 18 ir327 [.tmp 2] := .o Tryz.func327
def ir329 : Ic := q (R (oN 4 [.int .i64 0,.int .i64 0]<|oz 5 0<|N) [5])<|q (R (cl 13 381 [i 12]<|om 6 13<|N) [13])<|q (.reg (oz 7 0<|oz 8 0<|N))<|q (q (R (om 14 0<|oh 15 14<|oz 16 0<|N) [0])<|D (.block 0<|.loop (q (.reg (ot 17 .lss 16 15<|N))<|q (D (I 17 S (E 0)) [17])<|q (D (.block 1<|q (R (oa true 18 2 14 16<|oL 19 2 18<|oN 10 [.int .i64 0,.int .i64 0]<|oS 2 10 19<|N) [18,19])<|q (R (oL 21 2 10<|cl 22 328 [t 21]<|om 20 22<|oe 23 20 0<|oe 24 20 1<|om 11 23<|om 12 24<|N) [10,21,22,20,23,24])<|R (om 25 7<|om 26 11<|ot 27 .add 25 26<|om 28 8<|om 29 12<|ot 30 .add 28 29<|om 7 27<|om 8 30<|N) [11,12,25,26,27,28,29,30]) [])<|R (oi 31 .add 16 1<|om 16 31<|N) [31])) [14,15,16,17,10,11])<|q (R (om 32 7<|om 33 8<|om 34 6<|ot 35 .quo 33 34<|ot 36 .add 32 35<|om 37 8<|om 38 6<|ot 39 .rem 37 38<|om 7 36<|om 8 39<|N) [32,33,34,35,36,37,38,39])<|q (D (.block 2<|q (R (om 41 7<|oi 42 .gtr 41 0<|om 43 42<|.sc 43 true (om 44 8<|oi 45 .lss 44 0<|N) (t 45) 46 (om 40 46<|N)) [41,42,43,46])<|I 40 (R (om 47 7<|oi 48 .sub 47 1<|om 49 8<|om 50 6<|ot 51 .add 49 50<|om 7 48<|om 8 51<|N) [6,40,47,48,49,50,51]) (q (R (om 53 7<|oi 54 .lss 53 0<|om 55 54<|.sc 55 true (om 56 8<|oi 57 .gtr 56 0<|N) (t 57) 58 (om 52 58<|N)) [40,53,54,55,58])<|D (I 52 (R (om 59 7<|oi 60 .add 59 1<|om 61 8<|om 62 6<|ot 63 .sub 61 62<|om 7 60<|om 8 63<|N) [6,52,59,60,61,62,63]) S) [6,52])) [])<|q (q (R (om 64 7<|cl 65 330 [t 64]<|om 66 1<|cl 67 381 [t 66]<|ob 68 .quo (i 999999999999999) (t 67)<|ot 69 .gtr 65 68<|N) [64,65,66,67,68])<|D (I 69 (q (R (oo 70 (.bld [.int .i64 0,.int .i64 0] [])<|oS 2 4 70<|oz 5 14<|N) [1,7,8,69,70])<|.ret) S) [69])<|q (R (om 71 7<|om 72 1<|cl 73 381 [t 72]<|ot 74 .mul 71 73<|om 75 8<|om 76 1<|ob 77 .sub (i 12) (t 76)<|cl 78 381 [t 77]<|ot 79 .quo 75 78<|ot 80 .add 74 79<|om 81 1<|cl 82 331 [t 80,t 81]<|oe 83 82 0<|oe 84 82 1<|oS 2 4 83<|om 5 84<|N) [1,7,8,71,72,73,74,75,76,77,78,79,80,81,82,83,84])<|.ret
theorem ok329 : FT 329 85 ir329 [.cell 4 (some 2), .tmp 5] := .o Tryz.func329
def ir328 : Ic := q (R (ox 1 0<|oz 2 0<|oz 3 0<|N) [0,2,3])<|q (R (of 5 1 1<|ol 6 5<|cl 7 381 [t 6]<|om 4 7<|N) [5,6,7])<|q (D (.regd [(1,11),(5,11)] (of 8 1 0<|ol 9 8<|om 10 4<|ot 11 .quo 9 10<|of 12 1 0<|ol 13 12<|om 14 4<|ot 15 .rem 13 14<|of 16 1 1<|ol 17 16<|ob 18 .sub (i 12) (t 17)<|cl 19 381 [t 18]<|ot 20 .mul 15 19<|om 2 11<|om 3 20<|N)) [1,4,8,9,10,11,12,13,14,15,16,17,18,19,20])<|.ret
theorem ok328 : FT 328 21 ir328 [.tmp 2, .tmp 3] := .o Tryz.func328
def ir332 : Ic := q (R (oz 6 0<|N) [6])<|q (R (om 9 0<|cl 10 330 [t 9]<|om 11 1<|cl 12 330 [t 11]<|om 0 10<|om 1 12<|N) [9,10,11,12])<|q (D (.block 0<|.loop (q (q (R (om 13 2<|oi 14 .lss 13 0<|om 15 14<|.sc 15 true (om 16 1<|oi 17 .leq 16 3999999999999996<|N) (t 17) 18 N) [13,14,15])<|D (I 18 S (E 0)) [18])<|q (D (.block 1<|R (om 21 1<|oi 22 .mul 21 10<|om 1 22<|N) [21,22]) [])<|R (om 19 2<|oi 20 .add 19 1<|om 2 20<|N) [19,20])) [18])<|q (q (R (om 23 2<|oi 24 .lss 23 0<|N) [23])<|D (I 24 (q (R (oz 6 0<|N) [0,1,2,24])<|.ret) S) [24])<|q (R (om 25 0<|om 26 1<|ot 27 .quo 25 26<|om 28 0<|om 29 1<|ot 30 .rem 28 29<|om 7 27<|om 8 30<|N) [0,25,26,27,28,29,30])<|q (D (.block 2<|.loop (q (q (R (om 31 2<|oi 32 .gtr 31 0<|om 33 32<|.sc 33 true (om 34 7<|oi 35 .leq 34 999999999999999<|N) (t 35) 36 N) [31,32,33])<|D (I 36 S (E 2)) [36])<|q (D (.block 3<|q (R (om 39 8<|oi 40 .mul 39 10<|om 8 40<|N) [39,40])<|R (om 41 7<|ob 42 .mul (i 10) (t 41)<|om 43 8<|om 44 1<|ot 45 .quo 43 44<|ot 46 .add 42 45<|om 47 8<|om 48 1<|ot 49 .rem 47 48<|om 7 46<|om 8 49<|N) [41,42,43,44,45,46,47,48,49]) [])<|R (om 37 2<|oi 38 .sub 37 1<|om 2 38<|N) [37,38])) [2,36])<|q (q (R (om 50 8<|ob 51 .mul (i 2) (t 50)<|om 52 1<|ot 53 .gtr 51 52<|om 54 53<|.sc 54 false (om 55 8<|ob 56 .mul (i 2) (t 55)<|om 57 1<|ot 58 .eql 56 57<|om 59 58<|.sc 59 true (om 60 7<|oi 61 .rem 60 2<|oi 62 .eql 61 1<|N) (t 62) 63 N) (t 63) 64 N) [1,8,50,51,52,53,54])<|D (I 64 (R (om 65 7<|oi 66 .add 65 1<|om 7 66<|N) [64,65,66]) S) [64])<|q (R (om 67 7<|om 6 67<|N) [7,67])<|.ret
theorem ok332 : FT 332 68 ir332 [.tmp 6] := .o Tryz.func332
def ir331 : Ic := q (R (oN 4 [.int .i64 0,.int .i64 0]<|oz 5 0<|N) [5])<|q (q (R (om 6 0<|cl 7 330 [t 6]<|oi 8 .gtr 7 999999999999999<|N) [6,7])<|D (I 8 (q (R (oo 9 (.bld [.int .i64 0,.int .i64 0] [])<|oS 2 4 9<|oz 5 14<|N) [0,1,8,9])<|.ret) S) [8])<|q (R (om 10 0<|om 11 1<|oo 12 (.bld [.int .i64 0,.int .i64 0] [(0,1,t 10),(1,1,t 11)])<|oS 2 4 12<|oz 5 0<|N) [0,1,10,11,12])<|.ret
theorem ok331 : FT 331 13 ir331 [.cell 4 (some 2), .tmp 5] := .o Tryz.func331
end Go.Proofs
namespace Go.Proofs
open Go Av
def tenI (n : Int) : Int := ((10 ^ n.toNat : Nat) : Int)
def tenT : Tbl := (List.range 13).map fun (n : Nat) => (381, [.int .i64 (n : Int)], .d (.int .i64 ((10 ^ n : Nat) : Int)))
theorem tenT_ok : tblOK Tryz.prog X1 tenT = true := kR
theorem call381 (n : Int) (h0 : 0 ≤ n) (h1 : n ≤ 12) : CT 381 [.d (.int .i64 n)] [] (.d (.int .i64 (tenI n))) [] := by
 have hX := ext_ok X1_ok tenT_ok;have : ext tenT X1 381 [.int .i64 n] = some (.d (.int .i64 (tenI n))) := by
  obtain ⟨k, rfl⟩ : ∃ k : Nat, n = k := ⟨n.toNat, oM⟩;have hk : k ≤ 12 := oM
  match k, hk with
  | 0, _ | 1, _ | 2, _ | 3, _ | 4, _ | 5, _ | 6, _ | 7, _ | 8, _ | 9, _ | 10, _ | 11, _ | 12, _ => rfl
 exact hX _ _ _ this
theorem tenI_pos (n : Int) : 0 < tenI n := by
 unfold tenI;have : 0 < 10 ^ n.toNat := Nat.pow_pos dC;omega
theorem tenI_ne (n : Int) : tenI n ≠ 0 := by have := tenI_pos n; omega
def absW (n : Int) : Int := if IntKind.i64.wrap (0 - n) > n then IntKind.i64.wrap (0 - n) else n
theorem walk330 (n : Int) : PT 330 [.int .i64 n] (.d (.int .i64 (absW n))) := by
 refine ok330.pc ?_;simp only [go_sem, ir330, absW, simprocAttr]
def encN (p : Int × Int) : Dat := .agg [.int .i64 p.1, .int .i64 p.2]
theorem nth_encN {xs : List (Int × Int)} {k : Nat} (h : k < xs.length) : nth (xs.map encN) k = .agg [.int .i64 xs[k].1, .int .i64 xs[k].2] := by
 rw [nth_eq (sX h), List.getElem_map, encN]
def chkN (p : Int × Int) : Int := if ((decide (absW p.1 > 999999999999999) || decide (p.1 < -999999999999999)) || decide (p.2 < 0)) || decide (p.2 > 12) then 2 else 0
theorem walk337 (p : Int × Int) : PT 337 [encN p] (.d (.int .i64 (chkN p))) := by
 refine ok337.pc ?_;simp only [go_sem, ir337, encN, simprocAttr];refine wc ((walk330 p.1).call trivial) ?_;refine sq (decide (p.1 < -999999999999999)) ?_ ?_
 ·exact zz trivial
 refine zz ?_;refine sq (decide (p.2 < 0)) ?_ ?_
 ·exact zz trivial
 refine zz ?_;refine sq (decide (p.2 > 12)) ?_ ?_
 ·exact zz trivial
 refine zz ?_;apply ik <;> intro h
 ·rw [chkN, if_pos h]
 ·rw [chkN, if_neg (nF h)]
def fstN : List (Int × Int) → Int
 | [] => 0
 | p :: r => if chkN p ≠ 0 then chkN p else fstN r
theorem walk327 (l : List (Int × Int)) (hl : l.length ≤ 68719476736) : PT 327 [.list 2 (l.map encN)] (.d (.int .i64 (fstN l))) := by
 refine ok327.pc ?_;simp only [go_sem, ir327, simprocAttr];generalize hR : fstN l = R;simp only [List.length_map];refine wpc_loop (fun r s => ∃ (k : Nat), k ≤ l.length ∧ r = l.length - k ∧ fstN (l.drop k) = R ∧
  s = ⟨[(6, .d (.list 2 (l.map encN))), (7, .d (.int .i64 l.length)), (8, .d (.int .i64 k))], []⟩) ?_ ?_
 ·exact ⟨_, _, Wk.refl _, 0, Nat.zero_le _, rfl, hR, rfl⟩
 ·rintro r s ⟨k, hk, rfl, hinv, rfl⟩;by_cases hlt : k < l.length
  ·have hx := nth_encN hlt;have hd := dT hlt;have hc := (walk337 l[k]).call trivial;rw [encN] at hc;rw [List.drop_eq_getElem_cons hlt, fstN] at hinv;refine zz8 ?_;refine ⟨oM, wn hc ?_⟩;refine zz ?_;apply ik <;> intro h
   ·rw [if_pos (sX h)] at hinv;rw [hinv]
   ·rw [if_neg (sX h)] at hinv;refine ⟨l.length - (k + 1), _, oM, Wk.less ?_, k + 1, oM, rfl, hinv, rfl⟩;exact zz10 trivial
  ·have hd := dF hlt;obtain rfl : k = l.length := oM;rw [List.drop_length, fstN] at hinv;subst hinv;exact zz15 trivial
def fitN (n s : Int) : (Int × Int) × Int := if decide (absW n > 999999999999999) then ((0, 0), 14) else ((n, s), 0)
theorem walk331 (n s : Int) : PT 331 [.int .i64 n, .int .i64 s] (.tup [.d (encN (fitN n s).1), .d (.int .i64 (fitN n s).2)]) := by
 refine ok331.pc ?_;simp only [go_sem, ir331, simprocAttr];refine wc ((walk330 n).call trivial) ?_;apply ik <;> intro h
 ·simp only [fitN, h, encN, ↓reduceIte]
 ·simp only [fitN, h, encN, Bool.false_eq_true, ↓reduceIte]
def partsN (p : Int × Int) : Int × Int := (IntKind.i64.wrap (p.1.tdiv (tenI p.2)), IntKind.i64.wrap (p.1.tmod (tenI p.2) * tenI (12 - p.2)))
theorem walk328 (p : Int × Int) (h0 : 0 ≤ p.2) (h1 : p.2 ≤ 12) : PT 328 [encN p] (.tup [.d (.int .i64 (partsN p).1), .d (.int .i64 (partsN p).2)]) := by
 refine ok328.pc ?_;simp only [go_sem, ir328, encN, simprocAttr];refine wn (call381 p.2 h0 h1) ?_;have hw : IntKind.i64.wrap (12 - p.2) = 12 - p.2 := wrap64 oM oM;have hne := tenI_ne p.2;simp only [go_sem, hw, simprocAttr];refine ⟨hne, hne, wpsL_call rfl (call381 (12 - p.2) oM oM) trivial ?_⟩;simp only [go_sem, partsN, simprocAttr]
 try rfl
def sumN : List (Int × Int) → Int → Int → Int × Int
 | [], w, r => (w, r)
 | p :: l, w, r => sumN l (IntKind.i64.wrap (w + (partsN p).1)) (IntKind.i64.wrap (r + (partsN p).2))
def signN (w r : Int) : Int × Int :=
 if decide (w > 0) && decide (r < 0) then (IntKind.i64.wrap (w - 1), IntKind.i64.wrap (r + tenI 12))
 else if decide (w < 0) && decide (r > 0) then (IntKind.i64.wrap (w + 1), IntKind.i64.wrap (r - tenI 12)) else (w, r)
def endN (w r s : Int) : (Int × Int) × Int :=
 if decide (absW w > IntKind.i64.wrap (Int.tdiv 999999999999999 (tenI s))) then ((0, 0), 14) else fitN (IntKind.i64.wrap (IntKind.i64.wrap (w * tenI s) + IntKind.i64.wrap (r.tdiv (tenI (12 - s))))) s
def totN (l : List (Int × Int)) (s : Int) : (Int × Int) × Int :=
 endN (signN (IntKind.i64.wrap ((sumN l 0 0).1 + IntKind.i64.wrap ((sumN l 0 0).2.tdiv (tenI 12)))) ((sumN l 0 0).2.tmod (tenI 12))).1
  (signN (IntKind.i64.wrap ((sumN l 0 0).1 + IntKind.i64.wrap ((sumN l 0 0).2.tdiv (tenI 12)))) ((sumN l 0 0).2.tmod (tenI 12))).2 s
theorem walk329 (l : List (Int × Int)) (s : Int) (hl : l.length ≤ 68719476736) (hp : ∀ p ∈ l, 0 ≤ p.2 ∧ p.2 ≤ 12) (h0 : 0 ≤ s) (h1 : s ≤ 12) :
  PT 329 [.list 2 (l.map encN), .int .i64 s] (.tup [.d (encN (totN l s).1), .d (.int .i64 (totN l s).2)]) := by
 refine ok329.pc ?_;have cOLD12 := call381 12 dC dC;have cs := call381 s h0 h1;have hws : IntKind.i64.wrap (12 - s) = 12 - s := wrap64 oM oM;have cs2 := call381 (12 - s) oM oM;have n12 := tenI_ne 12;have ns := tenI_ne s;have ns2 := tenI_ne (12 - s);generalize hT : totN l s = T;unfold totN at hT;simp only [go_sem, ir329, simprocAttr];refine wn cOLD12 ?_;refine zz7 ?_;refine wpc_loop (fun r st => ∃ (k : Nat) (w q : Int), k ≤ l.length ∧ r = l.length - k ∧ sumN (l.drop k) w q = sumN l 0 0 ∧
  st = ⟨[(1, .d (.int .i64 s)), (6, .d (.int .i64 (tenI 12))), (7, .d (.int .i64 w)), (8, .d (.int .i64 q)), (14, .d (.list 2 (l.map encN))), (15, .d (.int .i64 l.length)), (16, .d (.int .i64 k)), (4, .ref 4 0)], [(4, .box [.d (.int .i64 0), .d (.int .i64 0)])]⟩) ?_ ?_
 ·refine ⟨_, _, Wk.less ?_, 0, 0, 0, Nat.zero_le _, rfl, rfl, rfl⟩;simp [go_sem]
 ·rintro r st ⟨k, w, q, hk, rfl, hinv, rfl⟩;by_cases hlt : k < l.length
  ·have hx := nth_encN hlt;have hd := dT hlt;obtain ⟨p0, p1⟩ := hp l[k] (List.getElem_mem _);have hc := (walk328 l[k] p0 p1).call (by simp [pureR]);rw [encN] at hc;rw [List.drop_eq_getElem_cons hlt, sumN] at hinv;refine zz8 ?_;refine ⟨oM, wn hc ?_⟩;refine zz ?_;refine ⟨l.length - (k + 1), _, oM, Wk.less ?_, k + 1, _, _, oM, rfl, hinv, rfl⟩;simp [go_sem, wrap64s k oM]
  ·have hd := dF hlt;obtain rfl : k = l.length := oM;rw [List.drop_length, sumN] at hinv;rw [← hinv] at hT;simp only at hT;refine zz15 ?_;refine ⟨n12, n12, ?_⟩;generalize IntKind.i64.wrap (w + IntKind.i64.wrap (q.tdiv (tenI 12))) = w1 at *;generalize q.tmod (tenI 12) = r1 at *;refine sq (decide (r1 < 0)) ?_ ?_
   ·exact zz trivial
   refine zz ?_;unfold signN at hT;have fin : True := trivial;apply ik <;> intro ha
   ·rw [if_pos ha] at hT;simp only at hT;generalize IntKind.i64.wrap (w1 - 1) = w2 at *;generalize IntKind.i64.wrap (r1 + tenI 12) = r2 at *;unfold endN at hT;refine wc ((walk330 w2).call trivial) ?_;refine wc cs ?_;refine ⟨ns, fun hc => ?_, fun hc => ?_⟩
    ·rw [if_pos hc] at hT;rw [← hT];rfl
    rw [if_neg (nF hc)] at hT;refine wn cs ?_;refine zz57 ?_;refine wc cs2 ?_;refine ⟨ns2, wn ((walk331 _ s).call (by simp [pureR])) ?_⟩;rw [hT];exact zz34 trivial
   ·rw [if_neg (nF ha)] at hT;refine sq (decide (r1 > 0)) ?_ ?_
    ·exact zz trivial
    refine zz ?_;apply ik <;> intro hb
    ·rw [if_pos hb] at hT;simp only at hT;generalize IntKind.i64.wrap (w1 + 1) = w2 at *;generalize IntKind.i64.wrap (r1 - tenI 12) = r2 at *;unfold endN at hT;refine wc ((walk330 w2).call trivial) ?_;refine wc cs ?_;refine ⟨ns, fun hc => ?_, fun hc => ?_⟩
     ·rw [if_pos hc] at hT;rw [← hT];rfl
     rw [if_neg (nF hc)] at hT;refine wn cs ?_;refine zz57 ?_;refine wc cs2 ?_;refine ⟨ns2, wn ((walk331 _ s).call (by simp [pureR])) ?_⟩;rw [hT];exact zz34 trivial
    ·rw [if_neg (nF hb)] at hT;simp only at hT;generalize w1 = w2 at *;generalize r1 = r2 at *;unfold endN at hT;refine wc ((walk330 w2).call trivial) ?_;refine wc cs ?_;refine ⟨ns, fun hc => ?_, fun hc => ?_⟩
     ·rw [if_pos hc] at hT;rw [← hT];rfl
     rw [if_neg (nF hc)] at hT;refine wn cs ?_;refine zz57 ?_;refine wc cs2 ?_;refine ⟨ns2, wn ((walk331 _ s).call (by simp [pureR])) ?_⟩;rw [hT];exact zz34 trivial
def addN (a b : Int × Int) : (Int × Int) × Int := if fstN [a, b] ≠ 0 then ((0, 0), fstN [a, b]) else totN [a, b] (if b.2 > a.2 then b.2 else a.2)
theorem fstN_ok {l : List (Int × Int)} (h : fstN l = 0) : ∀ p ∈ l, chkN p = 0 := by
 induction l with
 | nil => intro p hp; cases hp
 | cons a r ih =>
  simp only [fstN] at h;split at h
  ·rename_i h1; exact absurd h h1
  ·rename_i h1;intro p hp;rcases List.mem_cons.1 hp with rfl | hp
   ·simpa using h1
   ·exact ih h p hp
theorem chkN_ok {p : Int × Int} (h : chkN p = 0) : 0 ≤ p.2 ∧ p.2 ≤ 12 ∧ -999999999999999 ≤ p.1 ∧ p.1 ≤ 999999999999999 := by
 unfold chkN at h;split at h
 ·cases h
 ·rename_i h1;simp only [Bool.or_eq_true, decide_eq_true_eq, not_or, Int.not_lt, gt_iff_lt] at h1;obtain ⟨⟨⟨a, b⟩, c⟩, d⟩ := h1;refine ⟨c, d, b, ?_⟩;unfold absW at a;split at a
  ·omega
  ·exact a
theorem walk266 (a b : Int × Int) : PT 266 [encN a, encN b] (.tup [.d (encN (addN a b).1), .d (.int .i64 (addN a b).2)]) := by
 refine ok266.pc ?_;have h59 := (walk327 [a, b] sP).call trivial;simp only [List.map_cons, List.map_nil, encN] at h59;by_cases hf : fstN [a, b] = 0
 ·have hv := fstN_ok hf;have ha := chkN_ok (hv a sP);have hb := chkN_ok (hv b sP);have hT : addN a b = totN [a, b] (if b.2 > a.2 then b.2 else a.2) := by rw [addN, if_neg (by simp [hf])]
  have h60 := (walk329 [a, b] (if b.2 > a.2 then b.2 else a.2) sP (fun p hp => by
   rcases List.mem_cons.1 hp with rfl | hp
   ·exact ⟨ha.1, ha.2.1⟩
   ·obtain rfl := List.mem_singleton.1 hp; exact ⟨hb.1, hb.2.1⟩) (by split <;> omega) (by split <;> omega)).call (by simp [pureR])
  rw [hT];generalize totN [a, b] (if b.2 > a.2 then b.2 else a.2) = T at *;rw [hf] at h59;simp only [List.map_cons, List.map_nil, encN] at h60;simp only [go_sem, ir266, encN, simprocAttr];refine ⟨sP, wn h59 ?_⟩;have q0 : ((0 : Int) != 0) = false := rfl;refine zz23 ?_;refine ⟨sP, wn h60 ?_⟩;exact zz trivial
 ·have hT : addN a b = ((0, 0), fstN [a, b]) := by rw [addN, if_pos hf]
  rw [hT];have q0 : (fstN [a, b] != 0) = true := by simp [hf]
  generalize fstN [a, b] = F at *;simp only [go_sem, ir266, encN, simprocAttr];refine ⟨sP, wn h59 ?_⟩;exact zz23 trivial
def cprN (a b : Int × Int) : Int × Int := if fstN [a, b] ≠ 0 then (0, fstN [a, b]) else (orI [cmpI (partsN a).1 (partsN b).1, cmpI (partsN a).2 (partsN b).2], 0)
theorem walk262 (a b : Int × Int) : PT 262 [encN a, encN b] (.tup [.d (.int .i64 (cprN a b).1), .d (.int .i64 (cprN a b).2)]) := by
 refine ok262.pc ?_;have h59 := (walk327 [a, b] sP).call trivial;simp only [List.map_cons, List.map_nil, encN] at h59;by_cases hf : fstN [a, b] = 0
 ·have hv := fstN_ok hf;have ha := chkN_ok (hv a sP);have hb := chkN_ok (hv b sP);have ca := (walk328 a ha.1 ha.2.1).call (by simp [pureR]);have cb := (walk328 b hb.1 hb.2.1).call (by simp [pureR]);rw [cprN, if_neg (by simp [hf])];rw [hf] at h59;simp only [encN] at ca cb;simp only [go_sem, ir262, encN, simprocAttr];refine ⟨sP, wn h59 ?_⟩;have q0 : ((0 : Int) != 0) = false := rfl;refine zz23 ?_;refine wc ca ?_;refine wc cb ?_;refine wc ((walk137 _ _).call trivial) ?_;refine wc ((walk137 _ _).call trivial) ?_;refine ⟨by simp [Dat.cells], wn ((walk136 [cmpI (partsN a).1 (partsN b).1, cmpI (partsN a).2 (partsN b).2] sP).call trivial) ?_⟩;exact zz trivial
 ·rw [cprN, if_pos hf];have q0 : (fstN [a, b] != 0) = true := by simp [hf]
  generalize fstN [a, b] = F at *;simp only [go_sem, ir262, encN, simprocAttr];refine ⟨sP, wn h59 ?_⟩;exact zz23 trivial
def dv1 : Nat → Int → Int → Int × Int
 | 0, b, e => (b, e)
 | k + 1, b, e => if decide (e < 0) && decide (b ≤ 3999999999999996) then dv1 k (IntKind.i64.wrap (b * 10)) (IntKind.i64.wrap (e + 1)) else (b, e)
def dv2 : Nat → Int → Int → Int → Int → Int × Int
 | 0, _, q, r, _ => (q, r)
 | k + 1, b, q, r, e => if decide (e > 0) && decide (q ≤ 999999999999999) then dv2 k b (IntKind.i64.wrap (IntKind.i64.wrap (10 * q) + IntKind.i64.wrap ((IntKind.i64.wrap (r * 10)).tdiv b))) ((IntKind.i64.wrap (r * 10)).tmod b) (IntKind.i64.wrap (e - 1)) else (q, r)
def rndN (b q r : Int) : Int := if decide (IntKind.i64.wrap (2 * r) > b) || (IntKind.i64.wrap (2 * r) == b && q.tmod 2 == 1) then IntKind.i64.wrap (q + 1) else q
def dvN (a b e : Int) : Int :=
 if decide ((dv1 64 (absW b) e).2 < 0) then 0 else
  rndN (dv1 64 (absW b) e).1 (dv2 64 (dv1 64 (absW b) e).1 (IntKind.i64.wrap ((absW a).tdiv (dv1 64 (absW b) e).1)) ((absW a).tmod (dv1 64 (absW b) e).1) (dv1 64 (absW b) e).2).1
   (dv2 64 (dv1 64 (absW b) e).1 (IntKind.i64.wrap ((absW a).tdiv (dv1 64 (absW b) e).1)) ((absW a).tmod (dv1 64 (absW b) e).1) (dv1 64 (absW b) e).2).2
theorem absW_pos {b : Int} (h : b ≠ 0) (h0 : -999999999999999 ≤ b) (h1 : b ≤ 999999999999999) : 0 < absW b ∧ absW b ≤ 999999999999999 := by
 unfold absW;have hw : IntKind.i64.wrap (0 - b) = 0 - b := wrap64 oM oM;rw [hw];split <;> omega
theorem walk332 (a b e : Int) (hb : b ≠ 0) (hb0 : -999999999999999 ≤ b) (hb1 : b ≤ 999999999999999) (he0 : -60 ≤ e) (he1 : e ≤ 60) :
  PT 332 [.int .i64 a, .int .i64 b, .int .i64 e] (.d (.int .i64 (dvN a b e))) := by
 refine ok332.pc ?_;obtain ⟨p0, p1⟩ := absW_pos hb hb0 hb1;generalize hT : dvN a b e = T;unfold dvN at hT;simp only [go_sem, ir332, simprocAttr];refine wc ((walk330 a).call trivial) ?_;refine wc ((walk330 b).call trivial) ?_;generalize absW a = a1 at *;generalize absW b = b1 at *;generalize hF0 : dv1 64 b1 e = F at *;refine wpc_loop (fun r st => ∃ (k : Nat) (x y : Int), r = k ∧ 0 < x ∧ x ≤ 99999999999999999 ∧ -60 ≤ y ∧ y ≤ 60 ∧ (y < 0 → -y ≤ k) ∧ F = dv1 k x y ∧
  st = ⟨[(0, .d (.int .i64 a1)), (1, .d (.int .i64 x)), (2, .d (.int .i64 y))], []⟩) ?_ ?_
 ·refine ⟨_, _, Wk.less ?_, 64, b1, e, rfl, p0, oM, he0, he1, oM, hF0.symm, rfl⟩;simp [go_sem]
 ·rintro r st ⟨k, x, y, hr, hx0, hx1, hy0, hy1, hyk, hinv, rfl⟩;refine zz ?_;refine sq (decide (x ≤ 3999999999999996)) ?_ ?_
  ·exact zz trivial
  refine zz ?_;apply ik <;> intro hc
  ·cases k with
   | zero => simp at hc; omega
   | succ k =>
    rw [dv1, if_pos hc] at hinv;have hc' : y < 0 ∧ x ≤ 3999999999999996 := sX hc;have w1 : IntKind.i64.wrap (x * 10) = x * 10 := wrap64 oM oM;have w2 : IntKind.i64.wrap (y + 1) = y + 1 := wrap64 oM oM;rw [w1, w2] at hinv;refine ⟨k, _, oM, Wk.less ?_, k, x * 10, y + 1, rfl, oM, oM, oM, oM, oM, hinv, rfl⟩;simp [go_sem, w1, w2]
  ·have hF : F = (x, y) := by
    rw [hinv];cases k with
    | zero => rfl
    | succ k => rw [dv1, if_neg (nF hc)]
   rw [hF] at hT;simp only at hT
   try refine zz ?_
   apply ik <;> intro hd
   ·rw [if_pos hd] at hT;rw [hT]
   rw [if_neg (nF hd)] at hT;have hxne : x ≠ 0 := oM
   try refine zz ?_
   refine ⟨hxne, hxne, ?_⟩;generalize IntKind.i64.wrap (a1.tdiv x) = q0 at *;generalize a1.tmod x = r0 at *;generalize hG0 : dv2 64 x q0 r0 y = G at *;refine wpc_loop (fun r st => ∃ (k : Nat) (q z y' : Int), r = k ∧ -60 ≤ y' ∧ y' ≤ 60 ∧ (y' > 0 → y' ≤ k) ∧ G = dv2 k x q z y' ∧
    st = ⟨[(1, .d (.int .i64 x)), (2, .d (.int .i64 y')), (7, .d (.int .i64 q)), (8, .d (.int .i64 z))], []⟩) ?_ ?_
   ·refine ⟨_, _, Wk.less ?_, 64, q0, r0, y, rfl, hy0, hy1, oM, hG0.symm, rfl⟩;simp [go_sem]
   ·rintro r st ⟨k, q, z, y', hr, hz0, hz1, hzk, hinv2, rfl⟩;refine zz ?_;refine sq (decide (q ≤ 999999999999999)) ?_ ?_
    ·exact zz trivial
    refine zz ?_;apply ik <;> intro hc
    ·cases k with
     | zero => simp at hc; omega
     | succ k =>
      rw [dv2, if_pos hc] at hinv2;have hc' : y' > 0 ∧ q ≤ 999999999999999 := sX hc;have w2 : IntKind.i64.wrap (y' - 1) = y' - 1 := wrap64 oM oM;rw [w2] at hinv2;refine ⟨hxne, hxne, k, _, oM, Wk.less ?_, k, _, _, y' - 1, rfl, oM, oM, oM, hinv2, rfl⟩;simp [go_sem, w2]
    ·have hF2 : G = (q, z) := by
      rw [hinv2];cases k with
      | zero => rfl
      | succ k => rw [dv2, if_neg (nF hc)]
     rw [hF2] at hT;simp only [rndN] at hT
     try refine zz ?_
     refine sq (IntKind.i64.wrap (2 * z) == x && q.tmod 2 == 1) ?_ ?_
     ·refine zz ?_;refine sq (q.tmod 2 == 1) ?_ ?_
      ·refine zz ?_
       try decide
      exact zz trivial
     refine zz ?_;apply ik <;> intro hg
     ·rw [if_pos hg] at hT;rw [hT]
     ·rw [if_neg (nF hg)] at hT;rw [hT]
def divN (a b : Int × Int) (s : Int) : (Int × Int) × Int :=
 if fstN [a, b] ≠ 0 then ((0, 0), fstN [a, b]) else if decide (s < 0) || decide (s > 12) then ((0, 0), 2) else if b.1 == 0 then ((0, 0), 15)
 else fitN (if !(decide (a.1 < 0) == decide (b.1 < 0)) then IntKind.i64.wrap (0 - dvN a.1 b.1 (IntKind.i64.wrap (IntKind.i64.wrap (s + b.2) - a.2))) else dvN a.1 b.1 (IntKind.i64.wrap (IntKind.i64.wrap (s + b.2) - a.2))) s
theorem walk269 (a b : Int × Int) (s : Int) : PT 269 [encN a, encN b, .int .i64 s] (.tup [.d (encN (divN a b s).1), .d (.int .i64 (divN a b s).2)]) := by
 refine ok269.pc ?_;have h59 := (walk327 [a, b] sP).call trivial;simp only [List.map_cons, List.map_nil, encN] at h59;generalize hT : divN a b s = T;unfold divN at hT;by_cases hf : fstN [a, b] = 0
 ·have hv := fstN_ok hf;have ha := chkN_ok (hv a sP);have hb := chkN_ok (hv b sP);rw [if_neg (by simp [hf])] at hT;rw [hf] at h59;simp only [go_sem, ir269, encN, simprocAttr];refine ⟨sP, wn h59 ?_⟩;have q0 : ((0 : Int) != 0) = false := rfl;refine zz23 ?_;refine sq (decide (s > 12)) ?_ ?_
  ·exact zz trivial
  refine zz ?_;refine ⟨fun h1 => ?_, fun h1 => ⟨fun h2 => ?_, fun h2 => ?_⟩⟩
  ·rw [if_pos h1] at hT;rw [← hT]
  ·rw [if_neg (nF h1), if_pos h2] at hT;rw [← hT]
  rw [if_neg (nF h1), if_neg (nF h2)] at hT;have hs : 0 ≤ s ∧ s ≤ 12 := by simp at h1; omega
  have hbne : b.1 ≠ 0 := sX h2;have w1 : IntKind.i64.wrap (s + b.2) = s + b.2 := wrap64 oM oM;have w2 : IntKind.i64.wrap (s + b.2 - a.2) = s + b.2 - a.2 := wrap64 oM oM;have c332 := (walk332 a.1 b.1 (s + b.2 - a.2) hbne hb.2.2.1 hb.2.2.2 oM oM).call trivial;rw [w1, w2] at hT;simp only [go_sem, w1, w2, simprocAttr];refine wn c332 ?_;generalize dvN a.1 b.1 (s + b.2 - a.2) = D at *;refine zz ?_;apply ik <;> intro h3
  ·rw [if_pos h3] at hT;refine wn ((walk331 _ s).call (by simp [pureR])) ?_;rw [hT];exact zz34 trivial
  ·rw [if_neg (nF h3)] at hT;refine wn ((walk331 _ s).call (by simp [pureR])) ?_;rw [hT];exact zz34 trivial
 ·rw [if_pos hf] at hT;rw [← hT];have q0 : (fstN [a, b] != 0) = true := by simp [hf]
  generalize fstN [a, b] = F at *;simp only [go_sem, ir269, encN, simprocAttr];refine ⟨sP, wn h59 ?_⟩;exact zz23 trivial
def zeroV : Val := .mk 0 0 0 [] [] []
end Go.Proofs
namespace Go.Proofs
open Go Av
open Av.Y
def ir267 : Ic := q (R (ox 2 0<|ox 3 1<|oN 4 [.int .i64 0,.int .i64 0]<|oz 5 0<|N) [0,1,5])<|q (q (R (oL 7 2 2<|oL 8 2 3<|oo 9 (.bls 2 [t 7,t 8])<|cl 10 327 [t 9]<|om 6 10<|N) [7,8,9,10])<|q (R (om 11 6<|oi 12 .neq 11 0<|N) [11])<|D (I 12 (q (R (oo 13 (.bld [.int .i64 0,.int .i64 0] [])<|om 14 6<|oS 2 4 13<|om 5 14<|N) [2,3,6,12,13,14])<|.ret) S) [6,12])<|q (R (of 15 3 0<|ol 16 15<|oo 17 (.neg .i64 (t 16))<|of 18 3 0<|os 18 17<|N) [15,16,17,18])<|q (R (oL 19 2 2<|oL 20 2 3<|cl 21 266 [t 19,t 20]<|oe 22 21 0<|oe 23 21 1<|oS 2 4 22<|om 5 23<|N) [2,3,19,20,21,22,23])<|.ret
theorem ok267 : FT 267 24 ir267 [.cell 4 (some 2), .tmp 5] := .o Tryz.func267
def ir268 : Ic := q (R (ox 2 0<|ox 3 1<|oN 4 [.int .i64 0,.int .i64 0]<|oz 5 0<|N) [0,1,5])<|q (q (R (oL 8 2 2<|oL 9 2 3<|oo 10 (.bls 2 [t 8,t 9])<|cl 11 327 [t 10]<|om 6 11<|N) [8,9,10,11])<|q (R (om 12 6<|oi 13 .neq 12 0<|N) [12])<|D (I 13 (q (R (oo 14 (.bld [.int .i64 0,.int .i64 0] [])<|om 15 6<|oS 2 4 14<|om 5 15<|N) [2,3,6,13,14,15])<|.ret) S) [6,13])<|q (R (of 16 2 1<|ol 17 16<|of 18 3 1<|ol 19 18<|ot 20 .add 17 19<|om 7 20<|N) [16,17,18,19,20])<|q (q (D (.regd [(9,11)] (om 21 7<|oi 22 .gtr 21 12<|om 23 22<|.sc 23 false (of 24 3 0<|ol 25 24<|oi 26 .neq 25 0<|om 27 26<|.sc 27 true (of 28 2 0<|ol 29 28<|cl 30 330 [t 29]<|of 31 3 0<|ol 32 31<|cl 33 330 [t 32]<|ob 34 .quo (i 999999999999999) (t 33)<|ot 35 .gtr 30 34<|N) (t 35) 36 N) (t 36) 37 N)) [21,22,23])<|D (I 37 (q (R (oo 38 (.bld [.int .i64 0,.int .i64 0] [])<|oS 2 4 38<|oz 5 14<|N) [2,3,7,37,38])<|.ret) S) [37])<|q (R (of 39 2 0<|ol 40 39<|of 41 3 0<|ol 42 41<|ot 43 .mul 40 42<|om 44 7<|cl 45 331 [t 43,t 44]<|oe 46 45 0<|oe 47 45 1<|oS 2 4 46<|om 5 47<|N) [2,3,7,39,40,41,42,43,44,45,46,47])<|.ret
theorem ok268 : FT 268 48 ir268 [.cell 4 (some 2), .tmp 5] := .o Tryz.func268
end Go.Proofs
namespace Go.Proofs
open Go Av
def mC (env : Val) (x : Int) : List Dat := [.int .i64 env.kind, .int .i64 env.int, .int .i64 env.scale, .str env.text, .list 6 (env.list.map encV), .list 7 (env.fields.map encF), .int .i64 x]
abbrev mO (env : Val) (x : Int) : Av.Obj := .box ((mC env x).map .d)
theorem mO_closed (env : Val) (x y : Int) : closed (hputs (get [(1000, mO env x)]) [(1000, mO env y)]) := closed_puts (by simp [puts, put, closedH, objIn, idsInL_dats])
abbrev MCon (f : Nat) (ds : List Dat) (env : Val) (x : Int) (v : Av) (y : Int) : Prop := KT f (.ref 1000 0 :: ds.map .d) [(1000, mO env x)] v [(1000, mO env y)]
theorem MCon.to {f : Nat} {ds : List Dat} {env : Val} {x y : Int} {v : Av} (h : MCon f ds env x v y) (hv : pureR v) : CT f (.ref 1000 0 :: ds.map .d) [(1000, some (mO env x))] v [(1000, mO env y)] := Con.rw1 h hv 1000
def failE (x y : Int) : Int := if x == 0 then y else x
theorem walk190 (env : Val) (x y : Int) : MCon 190 [.int .i64 y] env x (.d (encV zeroV)) (failE x y) := by
 refine ok190.co (k := false) (mO_closed _ _ _) trivial ?_;simp only [go_sem, ir190, mC, List.map_cons, List.map_nil, simprocAttr];apply ik <;> intro h
 ·simp only [failE, h, ↓reduceIte];exact ⟨rfl, rfl⟩
 ·simp only [failE, h, Bool.false_eq_true, ↓reduceIte];exact ⟨rfl, trivial⟩
def isN (v : Val) : Bool := (v.kind == 2) || (v.kind == 3)
theorem walk261 (v : Val) : PT 261 [encV v] (.d (.bool (isN v))) := by
 refine ok261.pc ?_;rw [encV_eq];simp only [go_sem, ir261, simprocAttr];refine sq (v.kind == 3) ?_ ?_
 ·exact zz trivial
 simp only [go_sem, isN, simprocAttr]
def ofN (v : Val) : Int × Int := if v.kind == 2 then (v.int, 0) else (v.int, v.scale)
theorem walk263 (v : Val) : PT 263 [encV v] (.d (encN (ofN v))) := by
 refine ok263.pc ?_;rw [encV_eq];simp only [go_sem, ir263, encN, simprocAttr];apply ik <;> intro h
 ·simp only [ofN, h, ↓reduceIte]
 ·simp only [ofN, h, Bool.false_eq_true, ↓reduceIte]
def boolV (b : Bool) : Val := if b then .mk 1 1 0 [] [] [] else .mk 1 0 0 [] [] []
theorem walk188 (b : Bool) : PT 188 [.bool b] (.d (encV (boolV b))) := by
 refine ok188.pc ?_;cases b
 ·simp only [go_sem, ir188, boolV, simprocAttr];rfl
 ·simp only [go_sem, ir188, boolV, simprocAttr];rfl
theorem walk10 (n : Int) : PT 10 [.int .i64 n] (.d (encV (.mk 2 n 0 [] [] []))) := by
 refine ok10.pc ?_;simp only [go_sem, ir10, simprocAttr];rfl
theorem walk71 (n s : Int) : PT 71 [.int .i64 n, .int .i64 s] (.d (encV (.mk 3 n s [] [] []))) := by
 refine ok71.pc ?_;simp only [go_sem, ir71, simprocAttr];rfl
def numV (wh : Bool) (n : Int × Int) (er : Int) : Val := if er != 0 then zeroV else if wh then .mk 2 n.1 0 [] [] [] else .mk 3 n.1 n.2 [] [] []
def numE (er x : Int) : Int := if er != 0 then failE x er else x
theorem walk265 (wh : Bool) (n : Int × Int) (er : Int) (env : Val) (x : Int) : MCon 265 [.bool wh, encN n, .int .i64 er] env x (.d (encV (numV wh n er))) (numE er x) := by
 refine ok265.co (k := false) (mO_closed _ _ _) trivial ?_;have c190 := (walk190 env x er).to trivial;have c10 := (walk10 n.1).call trivial;have c71 := (walk71 n.1 n.2).call trivial;simp only [go_sem, ir265, mC, encN, List.map_cons, List.map_nil, simprocAttr];apply ik <;> intro h
 ·simp only [numV, numE, h, ↓reduceIte];refine wn c190 ?_;generalize zeroV = z at *;rw [encV_eq];refine zz1 ?_;exact zf
 ·simp only [numV, numE, h, Bool.false_eq_true, ↓reduceIte];cases wh
  ·simp only [go_sem, Bool.false_eq_true, simprocAttr];refine wn c71 ?_;rw [encV_eq];refine zz1 ?_;exact zf
  ·refine zz ?_;refine wn c10 ?_;rw [encV_eq];refine zz1 ?_;exact zf
def subN (a b : Int × Int) : (Int × Int) × Int := if fstN [a, b] ≠ 0 then ((0, 0), fstN [a, b]) else addN a (IntKind.i64.wrap (0 - b.1), b.2)
theorem walk267 (a b : Int × Int) : PT 267 [encN a, encN b] (.tup [.d (encN (subN a b).1), .d (.int .i64 (subN a b).2)]) := by
 refine ok267.pc ?_;have h59 := (walk327 [a, b] sP).call trivial;simp only [List.map_cons, List.map_nil, encN] at h59;by_cases hf : fstN [a, b] = 0
 ·have h22 := (walk266 a (IntKind.i64.wrap (0 - b.1), b.2)).call (by simp [pureR]);have hT : subN a b = addN a (IntKind.i64.wrap (0 - b.1), b.2) := by rw [subN, if_neg (by simp [hf])]
  rw [hT];generalize addN a (IntKind.i64.wrap (0 - b.1), b.2) = T at *;rw [hf] at h59;have q0 : ((0 : Int) != 0) = false := rfl;simp only [encN] at h22;simp only [go_sem, ir267, encN, simprocAttr];refine ⟨sP, wn h59 ?_⟩;refine zz23 ?_;refine wc h22 trivial
 ·have hT : subN a b = ((0, 0), fstN [a, b]) := by rw [subN, if_pos hf]
  rw [hT];have q0 : (fstN [a, b] != 0) = true := by simp [hf]
  generalize fstN [a, b] = F at *;simp only [go_sem, ir267, encN, simprocAttr];refine ⟨sP, wn h59 ?_⟩;exact zz23 trivial
def bigN (a b : Int × Int) : Bool := decide (IntKind.i64.wrap (a.2 + b.2) > 12) || ((b.1 != 0) && decide (absW a.1 > IntKind.i64.wrap (Int.tdiv 999999999999999 (absW b.1))))
def mulN (a b : Int × Int) : (Int × Int) × Int := if fstN [a, b] ≠ 0 then ((0, 0), fstN [a, b]) else if bigN a b then ((0, 0), 14) else fitN (IntKind.i64.wrap (a.1 * b.1)) (IntKind.i64.wrap (a.2 + b.2))
theorem walk268 (a b : Int × Int) : PT 268 [encN a, encN b] (.tup [.d (encN (mulN a b).1), .d (.int .i64 (mulN a b).2)]) := by
 refine ok268.pc ?_;have h59 := (walk327 [a, b] sP).call trivial;simp only [List.map_cons, List.map_nil, encN] at h59;by_cases hf : fstN [a, b] = 0
 ·have hv := fstN_ok hf;have hb := chkN_ok (hv b sP);generalize hT : mulN a b = T;rw [mulN, if_neg (by simp [hf])] at hT;have h65 := (walk331 (IntKind.i64.wrap (a.1 * b.1)) (IntKind.i64.wrap (a.2 + b.2))).call (by simp [pureR]);rw [hf] at h59;have q0 : ((0 : Int) != 0) = false := rfl;simp only [go_sem, ir268, encN, simprocAttr];refine ⟨sP, wn h59 ?_⟩;refine zz23 ?_;refine ⟨(b.1 != 0) && decide (absW a.1 > IntKind.i64.wrap (Int.tdiv 999999999999999 (absW b.1))), [(2, .box [.d (.int .i64 a.1), .d (.int .i64 a.2)]), (3, .box [.d (.int .i64 b.1), .d (.int .i64 b.2)]), (4, .box [.d (.int .i64 0), .d (.int .i64 0)])],
   ([], []) :: ([3], []) :: ([], []) :: ([], []) :: ([([], []), ([2], []), ([], []), ([], []), ([3], []), ([], []), ([], []), ([], [])] ++ [([], [])]), rfl, fun h1 => ?_, fun _ => rfl, rfl, ?_⟩
  ·refine ⟨decide (absW a.1 > IntKind.i64.wrap (Int.tdiv 999999999999999 (absW b.1))), [(2, .box [.d (.int .i64 a.1), .d (.int .i64 a.2)]), (3, .box [.d (.int .i64 b.1), .d (.int .i64 b.2)]), (4, .box [.d (.int .i64 0), .d (.int .i64 0)])], [([], []), ([2], []), ([], []), ([], []), ([3], []), ([], []), ([], []), ([], [])], rfl, fun h2 => ?_, fun _ => rfl, rfl, rfl, rfl⟩;have hb0 : b.1 ≠ 0 := sX h2;have hp0 := (absW_pos hb0 hb.2.2.1 hb.2.2.2).1;have hne : absW b.1 ≠ 0 := oM;refine wpsL_call rfl ((walk330 a.1).call trivial) trivial ?_;refine zz ?_;refine wpsL_call rfl ((walk330 b.1).call trivial) trivial ?_;refine zz ?_;exact hne
  refine zz ?_;have hbig : bigN a b = (decide (IntKind.i64.wrap (a.2 + b.2) > 12) || ((b.1 != 0) && decide (absW a.1 > IntKind.i64.wrap (Int.tdiv 999999999999999 (absW b.1))))) := rfl;rw [← hbig];apply ik <;> intro h
  ·rw [if_pos h] at hT;rw [← hT]
  ·rw [if_neg (nF h)] at hT;rw [hT] at h65;refine wn h65 ?_;exact zz34 trivial
 ·have hT : mulN a b = ((0, 0), fstN [a, b]) := by rw [mulN, if_pos hf]
  rw [hT];have q0 : (fstN [a, b] != 0) = true := by simp [hf]
  generalize fstN [a, b] = F at *;simp only [go_sem, ir268, encN, simprocAttr];refine ⟨sP, wn h59 ?_⟩;exact zz23 trivial
def opN (op sc : Int) (a b : Int × Int) : (Int × Int) × Int := if op == 12 then addN a b else if op == 13 then subN a b else if op == 14 then mulN a b else divN a b sc
def isQ (op : Int) : Bool := !((op == 12) || (op == 13) || (op == 14))
def ariV (op sc : Int) (a b : Val) (x : Int) : Val × Int :=
 if x != 0 then (zeroV, x) else if !isN a || !isN b then (zeroV, failE x 18) else
  (numV (!isQ op && ((a.kind == 2) && (b.kind == 2))) (opN op sc (ofN a) (ofN b)).1 (opN op sc (ofN a) (ofN b)).2, numE (opN op sc (ofN a) (ofN b)).2 x)
theorem walk194 (e : Exp) (a b env : Val) (x : Int) : MCon 194 [encE e, encV a, encV b] env x (.d (encV (ariV e.op e.int a b x).1)) (ariV e.op e.int a b x).2 := by
 refine ok194.co (k := false) (mO_closed _ _ _) trivial ?_;have c33 := (walk190 env x 18).to trivial;have ca := (walk261 a).call trivial;have cb := (walk261 b).call trivial;have oa := (walk263 a).call trivial;have ob := (walk263 b).call trivial;have cN := fun (wh : Bool) (n : Int × Int) (er : Int) => (walk265 wh n er env x).to trivial
 generalize hT : ariV e.op e.int a b x = T;unfold ariV at hT;rw [encV_eq] at ca cb oa ob;rw [encE_eq, encV_eq a, encV_eq b];simp only [encN] at oa ob cN;simp only [go_sem, ir194, mC, List.map_cons, List.map_nil, simprocAttr];apply ik <;> intro h0
 ·rw [if_pos h0] at hT;rw [← hT]
  try exact ⟨rfl, rfl⟩
 rw [if_neg (nF h0)] at hT;refine wn ca ?_;refine zz1 ?_;refine sq (!isN b) ?_ ?_
 ·refine zz ?_;refine wc cb trivial
 refine zz ?_;apply ik <;> intro h1
 ·rw [if_pos h1] at hT;rw [← hT];refine wn c33 ?_;generalize zeroV = z at *;rw [encV_eq];refine zz1 ?_;exact zf
 rw [if_neg (nF h1)] at hT;refine sq (b.kind == 2) ?_ ?_
 ·exact zz trivial
 refine zz ?_;generalize (a.kind == 2 && b.kind == 2) = wh at *;have hqs : isQ e.op = !((e.op == 12) || (e.op == 13) || (e.op == 14)) := rfl;apply ik <;> intro h2
 ·rw [hqs, opN, if_pos h2, h2, Bool.true_or, Bool.true_or, Bool.not_true, Bool.not_false, Bool.true_and] at hT;have h22 := (walk266 (ofN a) (ofN b)).call (by simp [pureR]);simp only [encN] at h22;rw [← hT];have cM := cN wh (addN (ofN a) (ofN b)).1 (addN (ofN a) (ofN b)).2;clear hT;generalize numV _ _ _ = z at *;generalize numE _ _ = y at *;refine wpsL_call rfl oa trivial ?_;refine zz ?_;refine wpsL_call rfl ob trivial ?_;refine zz ?_;refine wpsL_call rfl h22 trivial ?_;refine zz ?_;refine ⟨rfl, wn cM ?_⟩;rw [encV_eq];refine zz1 ?_;exact zf
 apply ik <;> intro h3
 ·rw [hqs, opN, if_neg (nF h2), if_pos h3, h3, Bool.or_true, Bool.true_or, Bool.not_true, Bool.not_false, Bool.true_and] at hT;have h22 := (walk267 (ofN a) (ofN b)).call (by simp [pureR]);simp only [encN] at h22;rw [← hT];have cM := cN wh (subN (ofN a) (ofN b)).1 (subN (ofN a) (ofN b)).2;clear hT;generalize numV _ _ _ = z at *;generalize numE _ _ = y at *;refine wpsL_call rfl oa trivial ?_;refine zz ?_;refine wpsL_call rfl ob trivial ?_;refine zz ?_;refine wpsL_call rfl h22 trivial ?_;refine zz ?_;refine ⟨rfl, wn cM ?_⟩;rw [encV_eq];refine zz1 ?_;exact zf
 apply ik <;> intro h4
 ·rw [hqs, opN, if_neg (nF h2), if_neg (nF h3), if_pos h4, h4, Bool.or_true, Bool.not_true, Bool.not_false, Bool.true_and] at hT;have h22 := (walk268 (ofN a) (ofN b)).call (by simp [pureR]);simp only [encN] at h22;rw [← hT];have cM := cN wh (mulN (ofN a) (ofN b)).1 (mulN (ofN a) (ofN b)).2;clear hT;generalize numV _ _ _ = z at *;generalize numE _ _ = y at *;refine wpsL_call rfl oa trivial ?_;refine zz ?_;refine wpsL_call rfl ob trivial ?_;refine zz ?_;refine wpsL_call rfl h22 trivial ?_;refine zz ?_;refine ⟨rfl, wn cM ?_⟩;rw [encV_eq];refine zz1 ?_;exact zf
 ·rw [hqs, opN, if_neg (nF h2), if_neg (nF h3), if_neg (nF h4), h2, h3, h4, Bool.false_or, Bool.false_or, Bool.not_false, Bool.not_true, Bool.false_and] at hT;have h22 := (walk269 (ofN a) (ofN b) e.int).call (by simp [pureR]);simp only [encN] at h22;rw [← hT];have cM := cN false (divN (ofN a) (ofN b) e.int).1 (divN (ofN a) (ofN b) e.int).2;clear hT;generalize numV _ _ _ = z at *;generalize numE _ _ = y at *;refine wpsL_call rfl oa trivial ?_;refine zz ?_;refine wpsL_call rfl ob trivial ?_;refine zz ?_;refine wpsL_call rfl h22 trivial ?_;refine zz ?_;refine ⟨rfl, wn cM ?_⟩;rw [encV_eq];refine zz1 ?_;exact zf
def relM : Dat := .map [(.int .i64 8, .fn (.func 257) [] []), (.int .i64 9, .fn (.func 258) [] []), (.int .i64 10, .fn (.func 259) [] []), (.int .i64 11, .fn (.func 260) [] [])]
theorem walk186 : PT 186 [] (.d relM) := by
 refine ok186.pc ?_;simp only [go_sem, ir186, relM, simprocAttr];refine ⟨trivial, trivial, trivial, trivial, trivial, rfl⟩
theorem walk257 (n : Int) : PT 257 [.int .i64 n] (.d (.bool (decide (n < 0)))) := by
 refine ok257.pc ?_;simp only [go_sem, ir257, simprocAttr]
theorem walk258 (n : Int) : PT 258 [.int .i64 n] (.d (.bool (decide (n ≤ 0)))) := by
 refine ok258.pc ?_;simp only [go_sem, ir258, simprocAttr]
theorem walk259 (n : Int) : PT 259 [.int .i64 n] (.d (.bool (decide (n > 0)))) := by
 refine ok259.pc ?_;simp only [go_sem, ir259, simprocAttr]
theorem walk260 (n : Int) : PT 260 [.int .i64 n] (.d (.bool (decide (n ≥ 0)))) := by
 refine ok260.pc ?_;simp only [go_sem, ir260, simprocAttr]
def needE (v : Val) (y : Int) : Int := if (y == 0) && nullV v then failE y 19 else y
def needV (v : Val) (y : Int) : Val := if (y == 0) && nullV v then zeroV else v
theorem walk187 (e : Exp) (env v : Val) (x y : Int) (h : MCon 95 [encE e] env x (.d (encV v)) y) : MCon 187 [encE e] env x (.d (encV (needV v y))) (needE v y) := by
 refine ok187.co (k := false) (mO_closed _ _ _) trivial ?_;have c95 := h.to trivial;have c88 := (walk88 v).call trivial;have c190 := (walk190 env y 19).to trivial;unfold needV needE;rw [encE_eq] at c95 ⊢;rw [encV_eq v] at c95 c88;simp only [go_sem, ir187, mC, List.map_cons, List.map_nil, simprocAttr];refine wn c95 ?_;refine zz1 ?_;refine sq (nullV v) ?_ ?_
 ·refine zz ?_;refine wc c88 trivial
 refine zz ?_;apply ik <;> intro h1
 ·rw [if_pos h1, if_pos h1];generalize zeroV = z at *;refine wn c190 ?_;rw [encV_eq];refine zz1 ?_;exact zf
 ·rw [if_neg (nF h1), if_neg (nF h1)];rw [encV_eq];refine zz1 ?_;exact zf
def cprM (a b : Val) (x : Int) : Int × Int :=
 if x != 0 then (0, x) else if isN a && isN b then ((cprN (ofN a) (ofN b)).1, if (cprN (ofN a) (ofN b)).2 != 0 then failE x (cprN (ofN a) (ofN b)).2 else x)
 else if (a.kind == 4) && (b.kind == 4) then (cmpS a.text b.text, x)
 else if (a.kind == b.kind) && (((a.kind == 6) || (a.kind == 7)) || (a.kind == 1)) then (cmpI a.int b.int, x) else (0, failE x 18)
theorem walk189 (a b env : Val) (x : Int) : MCon 189 [encV a, encV b] env x (.d (.int .i64 (cprM a b x).1)) (cprM a b x).2 := by
 refine ok189.co (k := false) (mO_closed _ _ _) trivial ?_;have c33 := (walk190 env x 18).to trivial;have ca := (walk261 a).call trivial;have cb := (walk261 b).call trivial;have oa := (walk263 a).call trivial;have ob := (walk263 b).call trivial;have cf := fun y => (walk190 env x y).to trivial
 have h23 := (walk262 (ofN a) (ofN b)).call (by simp [pureR]);have c107 := (walk107 a.text b.text).call trivial;have c137 := (walk137 a.int b.int).call trivial;generalize hT : cprM a b x = T;unfold cprM at hT;rw [encV_eq] at ca cb oa ob;rw [encV_eq a, encV_eq b];simp only [encN] at oa ob h23;simp only [go_sem, ir189, mC, List.map_cons, List.map_nil, simprocAttr];apply ik <;> intro h0
 ·rw [if_pos h0] at hT;rw [← hT]
  try exact ⟨rfl, rfl⟩
 rw [if_neg (nF h0)] at hT;refine wn ca ?_;refine zz1 ?_;refine sq (isN b) ?_ ?_
 ·refine zz ?_;refine wc cb trivial
 refine zz ?_;apply ik <;> intro h1
 ·rw [if_pos h1] at hT;generalize cprN (ofN a) (ofN b) = R at *;rw [← hT];refine wpsL_call rfl oa trivial ?_;refine zz ?_;refine wpsL_call rfl ob trivial ?_;refine zz ?_;refine wpsL_call rfl h23 trivial ?_;refine zz ?_;refine ⟨rfl, fun h2 => ?_, fun h2 => ?_⟩
  ·rw [if_pos h2];refine wn (cf R.2) ?_;refine zz1 ?_;exact zf
  ·rw [if_neg (nF h2)]
   try exact ⟨rfl, rfl⟩
 rw [if_neg (nF h1)] at hT
 try refine zz ?_
 refine sq (b.kind == 4) ?_ ?_
 ·exact zz trivial
 refine zz ?_;apply ik <;> intro h2
 ·rw [if_pos h2] at hT;rw [← hT];refine wn c107 ?_;refine zz1 ?_;exact zf
 rw [if_neg (nF h2)] at hT
 try refine zz ?_
 refine sq (((a.kind == 6) || (a.kind == 7)) || (a.kind == 1)) ?_ ?_
 ·refine zz ?_;refine sq (a.kind == 7) ?_ ?_
  ·exact zz trivial
  refine zz ?_;refine sq (a.kind == 1) ?_ ?_
  ·exact zz trivial
  exact zz trivial
 refine zz ?_;apply ik <;> intro h3
 ·rw [if_pos h3] at hT;rw [← hT];refine wn c137 ?_;refine zz1 ?_;exact zf
 rw [if_neg (nF h3)] at hT;rw [← hT];refine wn c33 ?_;refine zz1 ?_;exact zf
end Go.Proofs
namespace Go.Proofs
open Go Av
open Av.Y
def b95_0 : Ic := q (R (om 43 0<|of 44 3 4<|ol 45 44<|oo 46 (.ixa true 5 (t 45) (i 0))<|oL 47 5 46<|cl 48 187 [t 43,t 47]<|oN 7 v6<|oS 6 7 48<|N) [42,43,44,45,46,47,48])<|q (R (om 49 0<|of 50 3 4<|ol 51 50<|oo 52 (.ixa true 5 (t 51) (i 1))<|oL 53 5 52<|cl 54 187 [t 49,t 53]<|oN 8 v6<|oS 6 8 54<|N) [3,49,50,51,52,53,54])<|q (R (om 55 5<|om 56 0<|oL 57 6 7<|oL 58 6 8<|cl 59 189 [t 56,t 57,t 58]<|.call (some 60) (.dyn (t 55)) [t 59] (cl 61 188 [t 60]<|oS 6 4 61<|N)) [0,5,7,8,55,56,57,58,59,60,61])<|.ret
def b95_1 : Ic := q (R (of 66 3 3<|ol 67 66<|oo 68 (.ixa true 6 (t 67) (i 0))<|oL 69 6 68<|cl 70 54 [t 69]<|oS 6 4 70<|N) [0,3,63,64,66,67,68,69,70])<|.ret
def b95_2 : Ic := q (R (om 95 0<|om 96 12<|cl 97 190 [t 95,t 96]<|oS 6 4 97<|N) [0,3,11,12,94,95,96,97])<|.ret
def b95_3 : Ic := q (R (om 101 12<|oi 102 .eql 101 0<|cl 103 188 [t 102]<|oS 6 4 103<|N) [11,12,100,101,102,103])<|.ret
def b95_4 : Ic := q (R (of 75 3 2<|ol 76 75<|cl 77 26 [t 76]<|om 74 77<|oe 78 74 0<|oe 79 74 1<|om 9 78<|om 10 79<|N) [63,71,75,76,77,74,78,79,10])<|q (R (om 81 0<|oc 82 81<|of 83 82 0<|oL 84 6 83<|om 85 9<|cl 86 28 [t 84,t 85]<|om 80 86<|oe 87 80 0<|oe 88 80 1<|oN 11 v6<|oS 6 11 87<|om 12 88<|N) [9,81,82,83,84,85,86,80,87,88])<|q (q (R (om 89 12<|oi 90 .neq 89 0<|om 91 90<|.sc 91 true (om 92 12<|oi 93 .neq 92 19<|N) (t 93) 94 N) [89,90,91,92,93])<|D (I 94 b95_2 S) [0,94])<|q (q (R (of 98 3 0<|ol 99 98<|oi 100 .eql 99 22<|N) [3,98,99])<|D (I 100 b95_3 S) [12,100])<|q (R (oL 104 6 11<|oS 6 4 104<|N) [11,104])<|.ret
def b95_5 : Ic := q (R (om 107 0<|oL 108 5 3<|cl 109 191 [t 107,t 108]<|oS 6 4 109<|N) [0,3,63,105,107,108,109])<|.ret
def b95_6 : Ic := q (R (om 112 0<|of 113 3 4<|ol 114 113<|oo 115 (.ixa true 5 (t 114) (i 0))<|oL 116 5 115<|cl 117 192 [t 112,t 116]<|og 118 117<|cl 119 188 [t 118]<|oS 6 4 119<|N) [0,3,63,110,112,113,114,115,116,117,118,119])<|.ret
def b95_7 : Ic := q (R (om 122 0<|of 123 3 4<|ol 124 123<|oo 125 (.ixa true 5 (t 124) (i 0))<|oL 126 5 125<|cl 127 192 [t 122,t 126]<|om 128 127<|.sc 128 true (om 129 0<|of 130 3 4<|ol 131 130<|oo 132 (.ixa true 5 (t 131) (i 1))<|oL 133 5 132<|cl 134 192 [t 129,t 133]<|N) (t 134) 135 (cl 136 188 [t 135]<|oS 6 4 136<|N)) [0,3,63,120,122,123,124,125,126,127,128,129,130,131,132,133,134,135,136])<|.ret
def b95_8 : Ic := q (R (om 139 0<|of 140 3 4<|ol 141 140<|oo 142 (.ixa true 5 (t 141) (i 0))<|oL 143 5 142<|cl 144 192 [t 139,t 143]<|om 145 144<|.sc 145 false (om 146 0<|of 147 3 4<|ol 148 147<|oo 149 (.ixa true 5 (t 148) (i 1))<|oL 150 5 149<|cl 151 192 [t 146,t 150]<|N) (t 151) 152 (cl 153 188 [t 152]<|oS 6 4 153<|N)) [0,3,63,137,139,140,141,142,143,144,145,146,147,148,149,150,151,152,153])<|.ret
def b95_9 : Ic := q (R (om 157 0<|of 158 3 4<|ol 159 158<|oo 160 (.ixa true 5 (t 159) (i 0))<|oL 161 5 160<|cl 162 187 [t 157,t 161]<|oN 13 v6<|oS 6 13 162<|N) [63,154,157,158,159,160,161,162])<|q (R (om 163 0<|of 164 3 4<|ol 165 164<|oo 166 (.ixa true 5 (t 165) (i 1))<|oL 167 5 166<|cl 168 187 [t 163,t 167]<|oN 14 v6<|oS 6 14 168<|N) [163,164,165,166,167,168])<|q (D (.regd [(3,5)] (om 169 0<|oL 170 6 13<|oL 171 6 14<|cl 172 193 [t 169,t 170,t 171]<|of 173 3 0<|ol 174 173<|oi 175 .eql 174 6<|ot 176 .beq 172 175<|cl 177 188 [t 176]<|oS 6 4 177<|N)) [0,3,13,14,169,170,171,172,173,174,175,176,177])<|.ret
def b95_10 : Ic := q (R (om 180 0<|of 181 3 4<|ol 182 181<|oo 183 (.ixa true 5 (t 182) (i 0))<|oL 184 5 183<|cl 185 187 [t 180,t 184]<|oN 15 v6<|oS 6 15 185<|N) [63,178,180,181,182,183,184,185])<|q (.reg (ow 16 false<|N))<|q (.reg (ok 17 (.k (.nil 6))<|N))<|q (q (R (of 186 3 4<|ol 187 186<|oo 188 (.slc 5 (t 187) (some (i 1)) none none)<|oh 189 188<|oz 190 0<|N) [3,186,187])<|D (.block 1<|.loop (q (.reg (ot 191 .lss 190 189<|N))<|q (D (I 191 S (E 1)) [191])<|q (D (.block 2<|q (R (oa true 192 5 188 190<|oL 193 5 192<|oN 19 [.int .i64 0,.int .i64 0,.str [],.nil 6,.nil 5]<|oS 5 19 193<|N) [192,193])<|R (om 194 17<|om 195 0<|oL 196 5 19<|cl 197 187 [t 195,t 196]<|oo 198 (.bls 6 [t 197])<|oo 199 (.app 6 (t 194) (t 198))<|om 17 199<|N) [19,194,195,196,197,198,199]) [192,193,19,194,195,196,197,198,199])<|R (oi 200 .add 190 1<|om 190 200<|N) [200])) [188,189,190,191,192,193,19,194,195,196,197,198,199,200])<|q (q (.reg (oz 20 0<|N))<|D (.block 3<|.loop (q (q (R (om 201 20<|om 202 17<|oh 203 202<|ot 204 .lss 201 203<|om 205 204<|.sc 205 true (om 206 16<|og 207 206<|N) (t 207) 208 N) [201,202,203,204,205,206,207])<|D (I 208 S (E 3)) [16,208])<|q (D (.block 4<|R (om 211 0<|oL 212 6 15<|om 213 17<|om 214 20<|oa true 215 6 213 214<|oL 216 6 215<|cl 217 193 [t 211,t 212,t 216]<|om 16 217<|N) [211,212,213,214,215,216,217]) [211,212,213,214,215,216,217])<|R (om 209 20<|oi 210 .add 209 1<|om 20 210<|N) [209,210])) [0,15,17,20,201,202,203,204,205,206,207,208,211,212,213,214,215,216,217,209,210])<|q (R (om 218 16<|cl 219 188 [t 218]<|oS 6 4 219<|N) [16,218,219])<|.ret
def b95_11 : Ic := q (R (oi 223 .eql 63 14<|om 220 223<|N) [223])<|I 220 S (R (oi 224 .eql 63 15<|om 220 224<|N) [224])
def b95_12 : Ic := q (R (om 225 0<|of 226 3 4<|ol 227 226<|oo 228 (.ixa true 5 (t 227) (i 0))<|oL 229 5 228<|cl 230 187 [t 225,t 229]<|oN 21 v6<|oS 6 21 230<|N) [63,220,225,226,227,228,229,230])<|q (R (om 231 0<|of 232 3 4<|ol 233 232<|oo 234 (.ixa true 5 (t 233) (i 1))<|oL 235 5 234<|cl 236 187 [t 231,t 235]<|oN 22 v6<|oS 6 22 236<|N) [231,232,233,234,235,236])<|q (R (om 237 0<|oL 238 5 3<|oL 239 6 21<|oL 240 6 22<|cl 241 194 [t 237,t 238,t 239,t 240]<|oS 6 4 241<|N) [0,3,21,22,237,238,239,240,241])<|.ret
def b95_13 : Ic := q (R (om 244 0<|of 245 3 4<|ol 246 245<|oo 247 (.ixa true 5 (t 246) (i 0))<|oL 248 5 247<|cl 249 187 [t 244,t 248]<|oN 23 v6<|oS 6 23 249<|N) [63,242,244,245,246,247,248,249])<|q (R (om 250 0<|of 251 3 4<|ol 252 251<|oo 253 (.ixa true 5 (t 252) (i 1))<|oL 254 5 253<|cl 255 187 [t 250,t 254]<|oN 24 v6<|oS 6 24 255<|N) [3,250,251,252,253,254,255])<|q (R (om 256 0<|oL 257 6 23<|oL 258 6 24<|cl 259 195 [t 256,t 257,t 258]<|oS 6 4 259<|N) [0,23,24,256,257,258,259])<|.ret
def b95_14 : Ic := q (R (om 262 0<|of 263 3 4<|ol 264 263<|oo 265 (.ixa true 5 (t 264) (i 0))<|oL 266 5 265<|cl 267 187 [t 262,t 266]<|oN 25 v6<|oS 6 25 267<|N) [63,260,262,263,264,265,266,267])<|q (R (om 268 0<|of 269 3 4<|ol 270 269<|oo 271 (.ixa true 5 (t 270) (i 1))<|oL 272 5 271<|cl 273 187 [t 268,t 272]<|oN 26 v6<|oS 6 26 273<|N) [268,269,270,271,272,273])<|q (R (om 274 0<|of 275 3 4<|ol 276 275<|oo 277 (.ixa true 5 (t 276) (i 2))<|oL 278 5 277<|cl 279 187 [t 274,t 278]<|oN 27 v6<|oS 6 27 279<|N) [3,274,275,276,277,278,279])<|q (R (om 280 0<|oL 281 6 25<|oL 282 6 26<|oL 283 6 27<|cl 284 196 [t 280,t 281,t 282,t 283]<|oS 6 4 284<|N) [0,25,26,27,280,281,282,283,284])<|.ret
def b95_15 : Ic := q (R (oL 303 6 28<|oS 6 4 303<|N) [0,3,28,302,303])<|.ret
def b95_16 : Ic := q (q (R (om 287 0<|of 288 3 4<|ol 289 288<|oo 290 (.ixa true 5 (t 289) (i 0))<|oL 291 5 290<|cl 292 95 [t 287,t 291]<|oN 28 v6<|oS 6 28 292<|N) [63,285,287,288,289,290,291,292])<|q (R (om 293 0<|oc 294 293<|of 295 294 6<|ol 296 295<|oi 297 .neq 296 0<|om 298 297<|.sc 298 false (oL 299 6 28<|cl 300 88 [t 299]<|og 301 300<|N) (t 301) 302 N) [293,294,295,296,297,298,299,300,301])<|D (I 302 b95_15 S) [28,302])<|q (R (om 304 0<|of 305 3 4<|ol 306 305<|oo 307 (.ixa true 5 (t 306) (i 1))<|oL 308 5 307<|cl 309 95 [t 304,t 308]<|oS 6 4 309<|N) [0,3,304,305,306,307,308,309])<|.ret
def b95_17 : Ic := q (R (om 318 0<|of 319 3 4<|ol 320 319<|oo 321 (.ixa true 5 (t 320) (i 1))<|oL 322 5 321<|cl 323 95 [t 318,t 322]<|oS 6 4 323<|N) [0,3,317,318,319,320,321,322,323])<|.ret
def b95_18 : Ic := q (q (R (om 312 0<|of 313 3 4<|ol 314 313<|oo 315 (.ixa true 5 (t 314) (i 0))<|oL 316 5 315<|cl 317 192 [t 312,t 316]<|N) [310,312,313,314,315,316])<|D (I 317 b95_17 S) [317])<|q (R (om 324 0<|of 325 3 4<|ol 326 325<|oo 327 (.ixa true 5 (t 326) (i 2))<|oL 328 5 327<|cl 329 95 [t 324,t 328]<|oS 6 4 329<|N) [0,3,324,325,326,327,328,329])<|.ret
def b95_19 : Ic := q (R (oi 311 .eql 63 24<|om 310 311<|N) [63,285,311])<|D (I 310 b95_18 S) [310]
def b95_20 : Ic := q (R (oi 286 .eql 63 23<|om 285 286<|N) [260,286])<|I 285 b95_16 b95_19
def b95_21 : Ic := q (R (oi 261 .eql 63 21<|om 260 261<|N) [242,261])<|I 260 b95_14 b95_20
def b95_22 : Ic := q (R (oi 243 .eql 63 17<|om 242 243<|N) [220,243])<|I 242 b95_13 b95_21
def b95_23 : Ic := q (q (R (oi 221 .eql 63 12<|om 220 221<|N) [178,221])<|I 220 S (q (R (oi 222 .eql 63 13<|om 220 222<|N) [222])<|I 220 S b95_11))<|I 220 b95_12 b95_22
def b95_24 : Ic := q (q (R (oi 155 .eql 63 6<|om 154 155<|N) [137,155])<|I 154 S (R (oi 156 .eql 63 7<|om 154 156<|N) [156]))<|I 154 b95_9 (q (R (oi 179 .eql 63 25<|om 178 179<|N) [154,179])<|I 178 b95_10 b95_23)
def b95_25 : Ic := q (R (oi 121 .eql 63 4<|om 120 121<|N) [110,121])<|I 120 b95_7 (q (R (oi 138 .eql 63 5<|om 137 138<|N) [120,138])<|I 137 b95_8 b95_24)
def b95_26 : Ic := q (R (oi 106 .eql 63 26<|om 105 106<|N) [71,106])<|I 105 b95_5 (q (R (oi 111 .eql 63 3<|om 110 111<|N) [105,111])<|I 110 b95_6 b95_25)
def b95_27 : Ic := q (q (R (oi 72 .eql 63 2<|om 71 72<|N) [64,72])<|I 71 S (R (oi 73 .eql 63 22<|om 71 73<|N) [73]))<|I 71 b95_4 b95_26
def ir95c : Ic := q (R (ox 3 1<|oN 4 v6<|N) [1])<|q (q (R (om 29 0<|oc 30 29<|of 31 30 6<|ol 32 31<|oi 33 .neq 32 0<|N) [29,30,31,32])<|D (I 33 (q (R (oo 34 (.bld v6 [])<|oS 6 4 34<|N) [0,3,33,34])<|.ret) S) [33])<|q (q (D (.regd [(0,2)] (cl 36 186 []<|of 37 3 0<|ol 38 37<|oo 39 (.lkp .i .nilFn (t 36) (t 38) true)<|om 35 39<|oe 40 35 0<|oe 41 35 1<|om 5 40<|om 6 41<|N)) [36,37,38,39,35,40,41])<|q (R (om 42 6<|N) [6])<|D (I 42 b95_0 S) [5,42])<|q (q (R (of 62 3 0<|ol 63 62<|N) [62])<|D (.block 0<|q (R (oi 65 .eql 63 1<|om 64 65<|N) [65])<|I 64 b95_1 b95_27) [63,65,64,66,67,68,69,70,72,71,73,75,76,77,74,78,79,9,10,81,82,83,84,85,86,80,87,88,11,12,89,90,91,92,93,94,95,96,97,98,99,100,101,102,103,104,106,105,107,108,109,111,110,112,113,114,115,116,117,118,119,121,120,122,123,124,125,126,127,128,129,130,131,132,133,134,135,136,138,137,139,140,141,142,143,144,145,146,147,148,149,150,151,152,153,155,154,156,157,158,159,160,161,162,13,163,164,165,166,167,168,14,169,170,171,172,173,174,175,176,177,179,178,180,181,182,183,184,185,15,16,17,186,187,188,189,190,191,192,193,19,194,195,196,197,198,199,200,20,201,202,203,204,205,206,207,208,211,212,213,214,215,216,217,209,210,218,219,221,220,222,223,224,225,226,227,228,229,230,21,231,232,233,234,235,236,22,237,238,239,240,241,243,242,244,245,246,247,248,249,23,250,251,252,253,254,255,24,256,257,258,259,261,260,262,263,264,265,266,267,25,268,269,270,271,272,273,26,274,275,276,277,278,279,27,280,281,282,283,284,286,285,287,288,289,290,291,292,28,293,294,295,296,297,298,299,300,301,302,303,304,305,306,307,308,309,311,310,312,313,314,315,316,317,318,319,320,321,322,323,324,325,326,327,328,329])<|q (D (.regd [(2,8)] (om 330 0<|of 331 3 0<|ol 332 331<|om 333 0<|of 334 3 4<|ol 335 334<|oo 336 (.ixa true 5 (t 335) (i 0))<|oL 337 5 336<|cl 338 187 [t 333,t 337]<|cl 339 197 [t 330,t 332,t 338]<|oS 6 4 339<|N)) [0,3,330,331,332,333,334,335,336,337,338,339])<|.ret
theorem ok95c : FT 95 340 ir95c [.cell 4 (some 6)] := .o Tryz.func95
end Go.Proofs
namespace Go.Proofs
open Go Av
theorem nthA (a : Dat) (l : List Dat) : nth (a :: l) (Int.toNat 0) = a := rfl
theorem nthB (a b : Dat) (l : List Dat) : nth (a :: b :: l) (Int.toNat 1) = b := rfl
theorem ev_x (e : Exp) (env : Val) (x : Int) (hx : x ≠ 0) : MCon 95 [encE e] env x (.d (encV zeroV)) x := by
 refine ok95c.co (k := false) (mO_closed _ _ _) trivial ?_;have hb : (x != 0) = true := by simp [hx]
 generalize hz : zeroV = z;rw [encE_eq, encV_eq z];simp only [go_sem, ir95c, mC, hb, List.map_cons, List.map_nil, simprocAttr];subst hz;exact rfl
theorem ev_1 (n : Int) (t : Str) (v : Val) (vs : List Val) (es : List Exp) (hv : okV v) (env : Val) : MCon 95 [encE (.mk 1 n t (v :: vs) es)] env 0 (.d (encV v)) 0 := by
 refine ok95c.co (k := false) (mO_closed _ _ _) trivial ?_;have hb : ((0 : Int) != 0) = false := rfl;have b1 : ((1 : Int) == 1) = true := rfl;have c54 := (walk54 v hv).call trivial;have c186 := walk186.call trivial;have hl : findM .i [(.int .i64 8, .fn (.func 257) [] []), (.int .i64 9, .fn (.func 258) [] []), (.int .i64 10, .fn (.func 259) [] []), (.int .i64 11, .fn (.func 260) [] [])] (.int .i64 1) = some none := rfl;rw [relM] at c186;rw [encE_eq];rw [encV_eq v] at c54 ⊢;simp only [Exp.op, Exp.int, Exp.text, Exp.value, Exp.args, List.map_cons, List.map_nil];rw [encV_eq v];simp only [go_sem, ir95c, mC, hb, List.map_cons, List.map_nil, Nat.reduceAdd, Nat.reduceEqDiff, Nat.reduceBEq, Nat.reduceLeDiff, reduceCtorEq, ↓reduceIte];refine wpsL_call rfl c186 trivial ?_;simp only [go_sem, hl, b1, b95_1, nthA, Nat.reduceAdd, Nat.reduceEqDiff, Nat.reduceBEq, Nat.reduceLeDiff, reduceCtorEq, ↓reduceIte];refine ⟨rfl, sP, ?_⟩;refine wn c54 ?_;refine zz1 ?_;exact zf
theorem ev_A12 (n : Int) (t : Str) (vs : List Val) (p q : Exp) (env va vb : Val) (y1 y2 : Int) (hp : MCon 95 [encE p] env 0 (.d (encV va)) y1) (hq : MCon 95 [encE q] env (needE va y1) (.d (encV vb)) y2) :
    MCon 95 [encE (.mk 12 n t vs [p, q])] env 0 (.d (encV (ariV 12 n (needV va y1) (needV vb y2) (needE vb y2)).1)) (ariV 12 n (needV va y1) (needV vb y2) (needE vb y2)).2 := by
  refine ok95c.con (k := false) (Nat.le_of_ble_eq_true rfl) (mO_closed _ _ _) trivial ?_
  have hb : ((0 : Int) != 0) = false := rfl
  have n1 := (walk187 p env va 0 y1 hp).to trivial
  have n2 := (walk187 q env vb (needE va y1) y2 hq).to trivial
  have c194 := (walk194 (.mk 12 n t vs [p, q]) (needV va y1) (needV vb y2) env (needE vb y2)).to trivial
  have c186 := walk186.call trivial
  have hl : findM .i [(.int .i64 8, .fn (.func 257) [] []), (.int .i64 9, .fn (.func 258) [] []), (.int .i64 10, .fn (.func 259) [] []), (.int .i64 11, .fn (.func 260) [] [])] (.int .i64 12) = some none := rfl
  rw [relM] at c186
  simp only [Exp.op, Exp.int] at c194
  generalize ariV 12 n (needV va y1) (needV vb y2) (needE vb y2) = R at *
  generalize needV va y1 = wa at *
  generalize needV vb y2 = wb at *
  generalize needE vb y2 = x2 at *
  generalize needE va y1 = x1 at *
  rw [encE_eq] at c194 ⊢
  simp only [Exp.op, Exp.int, Exp.text, Exp.value, Exp.args, List.map_cons, List.map_nil] at c194 ⊢
  rw [encE_eq p] at n1 c194 ⊢
  rw [encE_eq q] at n2 c194 ⊢
  rw [encV_eq] at n1 n2
  rw [encV_eq wa, encV_eq wb, encV_eq R.1] at c194
  rw [encV_eq R.1]
  simp only [go_sem, ir95c, mC, hb, List.map_cons, List.map_nil, Int.reduceBEq, Nat.reduceAdd, Nat.reduceEqDiff, Nat.reduceBEq, Nat.reduceLeDiff, reduceCtorEq, ↓reduceIte]
  refine wpsL_call rfl c186 trivial ?_
  simp only [go_sem, hl, Int.reduceBEq, Nat.reduceAdd, Nat.reduceEqDiff, Nat.reduceBEq, Nat.reduceLeDiff, reduceCtorEq, ↓reduceIte]
  refine ⟨rfl, ?_⟩
  simp only [go_sem, b95_27, Int.reduceBEq, Nat.reduceAdd, Nat.reduceEqDiff, Nat.reduceBEq, Nat.reduceLeDiff, reduceCtorEq, ↓reduceIte]
  simp only [go_sem, b95_26, Int.reduceBEq, Nat.reduceAdd, Nat.reduceEqDiff, Nat.reduceBEq, Nat.reduceLeDiff, reduceCtorEq, ↓reduceIte]
  simp only [go_sem, b95_25, Int.reduceBEq, Nat.reduceAdd, Nat.reduceEqDiff, Nat.reduceBEq, Nat.reduceLeDiff, reduceCtorEq, ↓reduceIte]
  simp only [go_sem, b95_24, Int.reduceBEq, Nat.reduceAdd, Nat.reduceEqDiff, Nat.reduceBEq, Nat.reduceLeDiff, reduceCtorEq, ↓reduceIte]
  simp only [go_sem, b95_23, Int.reduceBEq, Nat.reduceAdd, Nat.reduceEqDiff, Nat.reduceBEq, Nat.reduceLeDiff, reduceCtorEq, ↓reduceIte]
  simp only [go_sem, b95_12, nthA, nthB, Int.reduceBEq, Nat.reduceAdd, Nat.reduceEqDiff, Nat.reduceBEq, Nat.reduceLeDiff, reduceCtorEq, ↓reduceIte]
  refine ⟨by simp, wps_call rfl n1 ⟨rfl, trivial⟩ ?_⟩
  simp only [go_sem, mC, nthA, nthB, List.map_cons, List.map_nil, Int.reduceBEq, Nat.reduceAdd, Nat.reduceEqDiff, Nat.reduceBEq, Nat.reduceLeDiff, reduceCtorEq, ↓reduceIte]
  refine ⟨by simp, wps_call rfl n2 ⟨rfl, trivial⟩ ?_⟩
  simp only [go_sem, mC, nthA, nthB, List.map_cons, List.map_nil, Int.reduceBEq, Nat.reduceAdd, Nat.reduceEqDiff, Nat.reduceBEq, Nat.reduceLeDiff, reduceCtorEq, ↓reduceIte]
  refine wps_call rfl c194 ⟨rfl, trivial⟩ ?_
  simp only [go_sem, mC, List.map_cons, List.map_nil, Int.reduceBEq, Nat.reduceAdd, Nat.reduceEqDiff, Nat.reduceBEq, Nat.reduceLeDiff, reduceCtorEq, ↓reduceIte]
  try exact ⟨rfl, rfl⟩
theorem ev_A13 (n : Int) (t : Str) (vs : List Val) (p q : Exp) (env va vb : Val) (y1 y2 : Int) (hp : MCon 95 [encE p] env 0 (.d (encV va)) y1) (hq : MCon 95 [encE q] env (needE va y1) (.d (encV vb)) y2) :
    MCon 95 [encE (.mk 13 n t vs [p, q])] env 0 (.d (encV (ariV 13 n (needV va y1) (needV vb y2) (needE vb y2)).1)) (ariV 13 n (needV va y1) (needV vb y2) (needE vb y2)).2 := by
  refine ok95c.con (k := false) (Nat.le_of_ble_eq_true rfl) (mO_closed _ _ _) trivial ?_
  have hb : ((0 : Int) != 0) = false := rfl
  have n1 := (walk187 p env va 0 y1 hp).to trivial
  have n2 := (walk187 q env vb (needE va y1) y2 hq).to trivial
  have c194 := (walk194 (.mk 13 n t vs [p, q]) (needV va y1) (needV vb y2) env (needE vb y2)).to trivial
  have c186 := walk186.call trivial
  have hl : findM .i [(.int .i64 8, .fn (.func 257) [] []), (.int .i64 9, .fn (.func 258) [] []), (.int .i64 10, .fn (.func 259) [] []), (.int .i64 11, .fn (.func 260) [] [])] (.int .i64 13) = some none := rfl
  rw [relM] at c186
  simp only [Exp.op, Exp.int] at c194
  generalize ariV 13 n (needV va y1) (needV vb y2) (needE vb y2) = R at *
  generalize needV va y1 = wa at *
  generalize needV vb y2 = wb at *
  generalize needE vb y2 = x2 at *
  generalize needE va y1 = x1 at *
  rw [encE_eq] at c194 ⊢
  simp only [Exp.op, Exp.int, Exp.text, Exp.value, Exp.args, List.map_cons, List.map_nil] at c194 ⊢
  rw [encE_eq p] at n1 c194 ⊢
  rw [encE_eq q] at n2 c194 ⊢
  rw [encV_eq] at n1 n2
  rw [encV_eq wa, encV_eq wb, encV_eq R.1] at c194
  rw [encV_eq R.1]
  simp only [go_sem, ir95c, mC, hb, List.map_cons, List.map_nil, Int.reduceBEq, Nat.reduceAdd, Nat.reduceEqDiff, Nat.reduceBEq, Nat.reduceLeDiff, reduceCtorEq, ↓reduceIte]
  refine wpsL_call rfl c186 trivial ?_
  simp only [go_sem, hl, Int.reduceBEq, Nat.reduceAdd, Nat.reduceEqDiff, Nat.reduceBEq, Nat.reduceLeDiff, reduceCtorEq, ↓reduceIte]
  refine ⟨rfl, ?_⟩
  simp only [go_sem, b95_27, Int.reduceBEq, Nat.reduceAdd, Nat.reduceEqDiff, Nat.reduceBEq, Nat.reduceLeDiff, reduceCtorEq, ↓reduceIte]
  simp only [go_sem, b95_26, Int.reduceBEq, Nat.reduceAdd, Nat.reduceEqDiff, Nat.reduceBEq, Nat.reduceLeDiff, reduceCtorEq, ↓reduceIte]
  simp only [go_sem, b95_25, Int.reduceBEq, Nat.reduceAdd, Nat.reduceEqDiff, Nat.reduceBEq, Nat.reduceLeDiff, reduceCtorEq, ↓reduceIte]
  simp only [go_sem, b95_24, Int.reduceBEq, Nat.reduceAdd, Nat.reduceEqDiff, Nat.reduceBEq, Nat.reduceLeDiff, reduceCtorEq, ↓reduceIte]
  simp only [go_sem, b95_23, Int.reduceBEq, Nat.reduceAdd, Nat.reduceEqDiff, Nat.reduceBEq, Nat.reduceLeDiff, reduceCtorEq, ↓reduceIte]
  simp only [go_sem, b95_12, nthA, nthB, Int.reduceBEq, Nat.reduceAdd, Nat.reduceEqDiff, Nat.reduceBEq, Nat.reduceLeDiff, reduceCtorEq, ↓reduceIte]
  refine ⟨by simp, wps_call rfl n1 ⟨rfl, trivial⟩ ?_⟩
  simp only [go_sem, mC, nthA, nthB, List.map_cons, List.map_nil, Int.reduceBEq, Nat.reduceAdd, Nat.reduceEqDiff, Nat.reduceBEq, Nat.reduceLeDiff, reduceCtorEq, ↓reduceIte]
  refine ⟨by simp, wps_call rfl n2 ⟨rfl, trivial⟩ ?_⟩
  simp only [go_sem, mC, nthA, nthB, List.map_cons, List.map_nil, Int.reduceBEq, Nat.reduceAdd, Nat.reduceEqDiff, Nat.reduceBEq, Nat.reduceLeDiff, reduceCtorEq, ↓reduceIte]
  refine wps_call rfl c194 ⟨rfl, trivial⟩ ?_
  simp only [go_sem, mC, List.map_cons, List.map_nil, Int.reduceBEq, Nat.reduceAdd, Nat.reduceEqDiff, Nat.reduceBEq, Nat.reduceLeDiff, reduceCtorEq, ↓reduceIte]
  try exact ⟨rfl, rfl⟩
theorem ev_A14 (n : Int) (t : Str) (vs : List Val) (p q : Exp) (env va vb : Val) (y1 y2 : Int) (hp : MCon 95 [encE p] env 0 (.d (encV va)) y1) (hq : MCon 95 [encE q] env (needE va y1) (.d (encV vb)) y2) :
    MCon 95 [encE (.mk 14 n t vs [p, q])] env 0 (.d (encV (ariV 14 n (needV va y1) (needV vb y2) (needE vb y2)).1)) (ariV 14 n (needV va y1) (needV vb y2) (needE vb y2)).2 := by
  refine ok95c.con (k := false) (Nat.le_of_ble_eq_true rfl) (mO_closed _ _ _) trivial ?_
  have hb : ((0 : Int) != 0) = false := rfl
  have n1 := (walk187 p env va 0 y1 hp).to trivial
  have n2 := (walk187 q env vb (needE va y1) y2 hq).to trivial
  have c194 := (walk194 (.mk 14 n t vs [p, q]) (needV va y1) (needV vb y2) env (needE vb y2)).to trivial
  have c186 := walk186.call trivial
  have hl : findM .i [(.int .i64 8, .fn (.func 257) [] []), (.int .i64 9, .fn (.func 258) [] []), (.int .i64 10, .fn (.func 259) [] []), (.int .i64 11, .fn (.func 260) [] [])] (.int .i64 14) = some none := rfl
  rw [relM] at c186
  simp only [Exp.op, Exp.int] at c194
  generalize ariV 14 n (needV va y1) (needV vb y2) (needE vb y2) = R at *
  generalize needV va y1 = wa at *
  generalize needV vb y2 = wb at *
  generalize needE vb y2 = x2 at *
  generalize needE va y1 = x1 at *
  rw [encE_eq] at c194 ⊢
  simp only [Exp.op, Exp.int, Exp.text, Exp.value, Exp.args, List.map_cons, List.map_nil] at c194 ⊢
  rw [encE_eq p] at n1 c194 ⊢
  rw [encE_eq q] at n2 c194 ⊢
  rw [encV_eq] at n1 n2
  rw [encV_eq wa, encV_eq wb, encV_eq R.1] at c194
  rw [encV_eq R.1]
  simp only [go_sem, ir95c, mC, hb, List.map_cons, List.map_nil, Int.reduceBEq, Nat.reduceAdd, Nat.reduceEqDiff, Nat.reduceBEq, Nat.reduceLeDiff, reduceCtorEq, ↓reduceIte]
  refine wpsL_call rfl c186 trivial ?_
  simp only [go_sem, hl, Int.reduceBEq, Nat.reduceAdd, Nat.reduceEqDiff, Nat.reduceBEq, Nat.reduceLeDiff, reduceCtorEq, ↓reduceIte]
  refine ⟨rfl, ?_⟩
  simp only [go_sem, b95_27, Int.reduceBEq, Nat.reduceAdd, Nat.reduceEqDiff, Nat.reduceBEq, Nat.reduceLeDiff, reduceCtorEq, ↓reduceIte]
  simp only [go_sem, b95_26, Int.reduceBEq, Nat.reduceAdd, Nat.reduceEqDiff, Nat.reduceBEq, Nat.reduceLeDiff, reduceCtorEq, ↓reduceIte]
  simp only [go_sem, b95_25, Int.reduceBEq, Nat.reduceAdd, Nat.reduceEqDiff, Nat.reduceBEq, Nat.reduceLeDiff, reduceCtorEq, ↓reduceIte]
  simp only [go_sem, b95_24, Int.reduceBEq, Nat.reduceAdd, Nat.reduceEqDiff, Nat.reduceBEq, Nat.reduceLeDiff, reduceCtorEq, ↓reduceIte]
  simp only [go_sem, b95_23, Int.reduceBEq, Nat.reduceAdd, Nat.reduceEqDiff, Nat.reduceBEq, Nat.reduceLeDiff, reduceCtorEq, ↓reduceIte]
  simp only [go_sem, b95_11, Int.reduceBEq, Nat.reduceAdd, Nat.reduceEqDiff, Nat.reduceBEq, Nat.reduceLeDiff, reduceCtorEq, ↓reduceIte]
  simp only [go_sem, b95_12, nthA, nthB, Int.reduceBEq, Nat.reduceAdd, Nat.reduceEqDiff, Nat.reduceBEq, Nat.reduceLeDiff, reduceCtorEq, ↓reduceIte]
  refine ⟨by simp, wps_call rfl n1 ⟨rfl, trivial⟩ ?_⟩
  simp only [go_sem, mC, nthA, nthB, List.map_cons, List.map_nil, Int.reduceBEq, Nat.reduceAdd, Nat.reduceEqDiff, Nat.reduceBEq, Nat.reduceLeDiff, reduceCtorEq, ↓reduceIte]
  refine ⟨by simp, wps_call rfl n2 ⟨rfl, trivial⟩ ?_⟩
  simp only [go_sem, mC, nthA, nthB, List.map_cons, List.map_nil, Int.reduceBEq, Nat.reduceAdd, Nat.reduceEqDiff, Nat.reduceBEq, Nat.reduceLeDiff, reduceCtorEq, ↓reduceIte]
  refine wps_call rfl c194 ⟨rfl, trivial⟩ ?_
  simp only [go_sem, mC, List.map_cons, List.map_nil, Int.reduceBEq, Nat.reduceAdd, Nat.reduceEqDiff, Nat.reduceBEq, Nat.reduceLeDiff, reduceCtorEq, ↓reduceIte]
  try exact ⟨rfl, rfl⟩
theorem ev_A15 (n : Int) (t : Str) (vs : List Val) (p q : Exp) (env va vb : Val) (y1 y2 : Int) (hp : MCon 95 [encE p] env 0 (.d (encV va)) y1) (hq : MCon 95 [encE q] env (needE va y1) (.d (encV vb)) y2) :
    MCon 95 [encE (.mk 15 n t vs [p, q])] env 0 (.d (encV (ariV 15 n (needV va y1) (needV vb y2) (needE vb y2)).1)) (ariV 15 n (needV va y1) (needV vb y2) (needE vb y2)).2 := by
  refine ok95c.con (k := false) (Nat.le_of_ble_eq_true rfl) (mO_closed _ _ _) trivial ?_
  have hb : ((0 : Int) != 0) = false := rfl
  have n1 := (walk187 p env va 0 y1 hp).to trivial
  have n2 := (walk187 q env vb (needE va y1) y2 hq).to trivial
  have c194 := (walk194 (.mk 15 n t vs [p, q]) (needV va y1) (needV vb y2) env (needE vb y2)).to trivial
  have c186 := walk186.call trivial
  have hl : findM .i [(.int .i64 8, .fn (.func 257) [] []), (.int .i64 9, .fn (.func 258) [] []), (.int .i64 10, .fn (.func 259) [] []), (.int .i64 11, .fn (.func 260) [] [])] (.int .i64 15) = some none := rfl
  rw [relM] at c186
  simp only [Exp.op, Exp.int] at c194
  generalize ariV 15 n (needV va y1) (needV vb y2) (needE vb y2) = R at *
  generalize needV va y1 = wa at *
  generalize needV vb y2 = wb at *
  generalize needE vb y2 = x2 at *
  generalize needE va y1 = x1 at *
  rw [encE_eq] at c194 ⊢
  simp only [Exp.op, Exp.int, Exp.text, Exp.value, Exp.args, List.map_cons, List.map_nil] at c194 ⊢
  rw [encE_eq p] at n1 c194 ⊢
  rw [encE_eq q] at n2 c194 ⊢
  rw [encV_eq] at n1 n2
  rw [encV_eq wa, encV_eq wb, encV_eq R.1] at c194
  rw [encV_eq R.1]
  simp only [go_sem, ir95c, mC, hb, List.map_cons, List.map_nil, Int.reduceBEq, Nat.reduceAdd, Nat.reduceEqDiff, Nat.reduceBEq, Nat.reduceLeDiff, reduceCtorEq, ↓reduceIte]
  refine wpsL_call rfl c186 trivial ?_
  simp only [go_sem, hl, Int.reduceBEq, Nat.reduceAdd, Nat.reduceEqDiff, Nat.reduceBEq, Nat.reduceLeDiff, reduceCtorEq, ↓reduceIte]
  refine ⟨rfl, ?_⟩
  simp only [go_sem, b95_27, Int.reduceBEq, Nat.reduceAdd, Nat.reduceEqDiff, Nat.reduceBEq, Nat.reduceLeDiff, reduceCtorEq, ↓reduceIte]
  simp only [go_sem, b95_26, Int.reduceBEq, Nat.reduceAdd, Nat.reduceEqDiff, Nat.reduceBEq, Nat.reduceLeDiff, reduceCtorEq, ↓reduceIte]
  simp only [go_sem, b95_25, Int.reduceBEq, Nat.reduceAdd, Nat.reduceEqDiff, Nat.reduceBEq, Nat.reduceLeDiff, reduceCtorEq, ↓reduceIte]
  simp only [go_sem, b95_24, Int.reduceBEq, Nat.reduceAdd, Nat.reduceEqDiff, Nat.reduceBEq, Nat.reduceLeDiff, reduceCtorEq, ↓reduceIte]
  simp only [go_sem, b95_23, Int.reduceBEq, Nat.reduceAdd, Nat.reduceEqDiff, Nat.reduceBEq, Nat.reduceLeDiff, reduceCtorEq, ↓reduceIte]
  simp only [go_sem, b95_11, Int.reduceBEq, Nat.reduceAdd, Nat.reduceEqDiff, Nat.reduceBEq, Nat.reduceLeDiff, reduceCtorEq, ↓reduceIte]
  simp only [go_sem, b95_12, nthA, nthB, Int.reduceBEq, Nat.reduceAdd, Nat.reduceEqDiff, Nat.reduceBEq, Nat.reduceLeDiff, reduceCtorEq, ↓reduceIte]
  refine ⟨by simp, wps_call rfl n1 ⟨rfl, trivial⟩ ?_⟩
  simp only [go_sem, mC, nthA, nthB, List.map_cons, List.map_nil, Int.reduceBEq, Nat.reduceAdd, Nat.reduceEqDiff, Nat.reduceBEq, Nat.reduceLeDiff, reduceCtorEq, ↓reduceIte]
  refine ⟨by simp, wps_call rfl n2 ⟨rfl, trivial⟩ ?_⟩
  simp only [go_sem, mC, nthA, nthB, List.map_cons, List.map_nil, Int.reduceBEq, Nat.reduceAdd, Nat.reduceEqDiff, Nat.reduceBEq, Nat.reduceLeDiff, reduceCtorEq, ↓reduceIte]
  refine wps_call rfl c194 ⟨rfl, trivial⟩ ?_
  simp only [go_sem, mC, List.map_cons, List.map_nil, Int.reduceBEq, Nat.reduceAdd, Nat.reduceEqDiff, Nat.reduceBEq, Nat.reduceLeDiff, reduceCtorEq, ↓reduceIte]
  try exact ⟨rfl, rfl⟩
def relB (op n : Int) : Bool := if op == 8 then decide (n < 0) else if op == 9 then decide (n ≤ 0) else if op == 10 then decide (n > 0) else decide (n ≥ 0)
theorem ev_R8 (n : Int) (t : Str) (vs : List Val) (p q : Exp) (env va vb : Val) (y1 y2 : Int) (hp : MCon 95 [encE p] env 0 (.d (encV va)) y1) (hq : MCon 95 [encE q] env (needE va y1) (.d (encV vb)) y2) :
    MCon 95 [encE (.mk 8 n t vs [p, q])] env 0 (.d (encV (boolV (relB 8 (cprM (needV va y1) (needV vb y2) (needE vb y2)).1)))) (cprM (needV va y1) (needV vb y2) (needE vb y2)).2 := by
  refine ok95c.con (k := false) (Nat.le_of_ble_eq_true rfl) (mO_closed _ _ _) trivial ?_
  have hb : ((0 : Int) != 0) = false := rfl
  have n1 := (walk187 p env va 0 y1 hp).to trivial
  have n2 := (walk187 q env vb (needE va y1) y2 hq).to trivial
  have c189 := (walk189 (needV va y1) (needV vb y2) env (needE vb y2)).to trivial
  have c186 := walk186.call trivial
  have hl : findM .i [(.int .i64 8, .fn (.func 257) [] []), (.int .i64 9, .fn (.func 258) [] []), (.int .i64 10, .fn (.func 259) [] []), (.int .i64 11, .fn (.func 260) [] [])] (.int .i64 8) = some (some (.fn (.func 257) [] [])) := rfl
  rw [relM] at c186
  generalize cprM (needV va y1) (needV vb y2) (needE vb y2) = R at *
  generalize needV va y1 = wa at *
  generalize needV vb y2 = wb at *
  generalize needE vb y2 = x2 at *
  generalize needE va y1 = x1 at *
  have cR := (walk257 R.1).call trivial
  have cB := (walk188 (relB 8 R.1)).call trivial
  have hr : relB 8 R.1 = decide (R.1 < 0) := rfl
  rw [← hr] at cR
  generalize relB 8 R.1 = B at *
  generalize boolV B = W at *
  rw [encE_eq]
  simp only [Exp.op, Exp.int, Exp.text, Exp.value, Exp.args, List.map_cons, List.map_nil]
  rw [encE_eq p] at n1 ⊢
  rw [encE_eq q] at n2 ⊢
  rw [encV_eq] at n1 n2 cB ⊢
  rw [encV_eq wa, encV_eq wb] at c189
  simp only [go_sem, ir95c, mC, hb, List.map_cons, List.map_nil, Int.reduceBEq, Nat.reduceAdd, Nat.reduceEqDiff, Nat.reduceBEq, Nat.reduceLeDiff, reduceCtorEq, ↓reduceIte]
  refine wpsL_call rfl c186 trivial ?_
  simp only [go_sem, hl, Option.getD_some, Option.isSome_some, Int.reduceBEq, Nat.reduceAdd, Nat.reduceEqDiff, Nat.reduceBEq, Nat.reduceLeDiff, reduceCtorEq, ↓reduceIte]
  refine ⟨rfl, ?_⟩
  simp only [go_sem, b95_0, nthA, nthB, Int.reduceBEq, Nat.reduceAdd, Nat.reduceEqDiff, Nat.reduceBEq, Nat.reduceLeDiff, reduceCtorEq, ↓reduceIte]
  refine ⟨by simp, wps_call rfl n1 ⟨rfl, trivial⟩ ?_⟩
  simp only [go_sem, mC, nthA, nthB, List.map_cons, List.map_nil, Int.reduceBEq, Nat.reduceAdd, Nat.reduceEqDiff, Nat.reduceBEq, Nat.reduceLeDiff, reduceCtorEq, ↓reduceIte]
  refine ⟨by simp, wps_call rfl n2 ⟨rfl, trivial⟩ ?_⟩
  simp only [go_sem, mC, nthA, nthB, List.map_cons, List.map_nil, Int.reduceBEq, Nat.reduceAdd, Nat.reduceEqDiff, Nat.reduceBEq, Nat.reduceLeDiff, reduceCtorEq, ↓reduceIte]
  refine wps_call rfl c189 ⟨rfl, trivial⟩ ?_
  simp only [go_sem, mC, List.map_cons, List.map_nil, Int.reduceBEq, Nat.reduceAdd, Nat.reduceEqDiff, Nat.reduceBEq, Nat.reduceLeDiff, reduceCtorEq, ↓reduceIte]
  refine wps_call rfl cR trivial ?_
  simp only [go_sem, mC, List.map_cons, List.map_nil, Int.reduceBEq, Nat.reduceAdd, Nat.reduceEqDiff, Nat.reduceBEq, Nat.reduceLeDiff, reduceCtorEq, ↓reduceIte]
  refine wps_call rfl cB trivial ?_
  simp only [go_sem, mC, List.map_cons, List.map_nil, Int.reduceBEq, Nat.reduceAdd, Nat.reduceEqDiff, Nat.reduceBEq, Nat.reduceLeDiff, reduceCtorEq, ↓reduceIte]
  try exact ⟨rfl, rfl⟩
theorem ev_R9 (n : Int) (t : Str) (vs : List Val) (p q : Exp) (env va vb : Val) (y1 y2 : Int) (hp : MCon 95 [encE p] env 0 (.d (encV va)) y1) (hq : MCon 95 [encE q] env (needE va y1) (.d (encV vb)) y2) :
    MCon 95 [encE (.mk 9 n t vs [p, q])] env 0 (.d (encV (boolV (relB 9 (cprM (needV va y1) (needV vb y2) (needE vb y2)).1)))) (cprM (needV va y1) (needV vb y2) (needE vb y2)).2 := by
  refine ok95c.con (k := false) (Nat.le_of_ble_eq_true rfl) (mO_closed _ _ _) trivial ?_
  have hb : ((0 : Int) != 0) = false := rfl
  have n1 := (walk187 p env va 0 y1 hp).to trivial
  have n2 := (walk187 q env vb (needE va y1) y2 hq).to trivial
  have c189 := (walk189 (needV va y1) (needV vb y2) env (needE vb y2)).to trivial
  have c186 := walk186.call trivial
  have hl : findM .i [(.int .i64 8, .fn (.func 257) [] []), (.int .i64 9, .fn (.func 258) [] []), (.int .i64 10, .fn (.func 259) [] []), (.int .i64 11, .fn (.func 260) [] [])] (.int .i64 9) = some (some (.fn (.func 258) [] [])) := rfl
  rw [relM] at c186
  generalize cprM (needV va y1) (needV vb y2) (needE vb y2) = R at *
  generalize needV va y1 = wa at *
  generalize needV vb y2 = wb at *
  generalize needE vb y2 = x2 at *
  generalize needE va y1 = x1 at *
  have cR := (walk258 R.1).call trivial
  have cB := (walk188 (relB 9 R.1)).call trivial
  have hr : relB 9 R.1 = decide (R.1 ≤ 0) := rfl
  rw [← hr] at cR
  generalize relB 9 R.1 = B at *
  generalize boolV B = W at *
  rw [encE_eq]
  simp only [Exp.op, Exp.int, Exp.text, Exp.value, Exp.args, List.map_cons, List.map_nil]
  rw [encE_eq p] at n1 ⊢
  rw [encE_eq q] at n2 ⊢
  rw [encV_eq] at n1 n2 cB ⊢
  rw [encV_eq wa, encV_eq wb] at c189
  simp only [go_sem, ir95c, mC, hb, List.map_cons, List.map_nil, Int.reduceBEq, Nat.reduceAdd, Nat.reduceEqDiff, Nat.reduceBEq, Nat.reduceLeDiff, reduceCtorEq, ↓reduceIte]
  refine wpsL_call rfl c186 trivial ?_
  simp only [go_sem, hl, Option.getD_some, Option.isSome_some, Int.reduceBEq, Nat.reduceAdd, Nat.reduceEqDiff, Nat.reduceBEq, Nat.reduceLeDiff, reduceCtorEq, ↓reduceIte]
  refine ⟨rfl, ?_⟩
  simp only [go_sem, b95_0, nthA, nthB, Int.reduceBEq, Nat.reduceAdd, Nat.reduceEqDiff, Nat.reduceBEq, Nat.reduceLeDiff, reduceCtorEq, ↓reduceIte]
  refine ⟨by simp, wps_call rfl n1 ⟨rfl, trivial⟩ ?_⟩
  simp only [go_sem, mC, nthA, nthB, List.map_cons, List.map_nil, Int.reduceBEq, Nat.reduceAdd, Nat.reduceEqDiff, Nat.reduceBEq, Nat.reduceLeDiff, reduceCtorEq, ↓reduceIte]
  refine ⟨by simp, wps_call rfl n2 ⟨rfl, trivial⟩ ?_⟩
  simp only [go_sem, mC, nthA, nthB, List.map_cons, List.map_nil, Int.reduceBEq, Nat.reduceAdd, Nat.reduceEqDiff, Nat.reduceBEq, Nat.reduceLeDiff, reduceCtorEq, ↓reduceIte]
  refine wps_call rfl c189 ⟨rfl, trivial⟩ ?_
  simp only [go_sem, mC, List.map_cons, List.map_nil, Int.reduceBEq, Nat.reduceAdd, Nat.reduceEqDiff, Nat.reduceBEq, Nat.reduceLeDiff, reduceCtorEq, ↓reduceIte]
  refine wps_call rfl cR trivial ?_
  simp only [go_sem, mC, List.map_cons, List.map_nil, Int.reduceBEq, Nat.reduceAdd, Nat.reduceEqDiff, Nat.reduceBEq, Nat.reduceLeDiff, reduceCtorEq, ↓reduceIte]
  refine wps_call rfl cB trivial ?_
  simp only [go_sem, mC, List.map_cons, List.map_nil, Int.reduceBEq, Nat.reduceAdd, Nat.reduceEqDiff, Nat.reduceBEq, Nat.reduceLeDiff, reduceCtorEq, ↓reduceIte]
  try exact ⟨rfl, rfl⟩
theorem ev_R10 (n : Int) (t : Str) (vs : List Val) (p q : Exp) (env va vb : Val) (y1 y2 : Int) (hp : MCon 95 [encE p] env 0 (.d (encV va)) y1) (hq : MCon 95 [encE q] env (needE va y1) (.d (encV vb)) y2) :
    MCon 95 [encE (.mk 10 n t vs [p, q])] env 0 (.d (encV (boolV (relB 10 (cprM (needV va y1) (needV vb y2) (needE vb y2)).1)))) (cprM (needV va y1) (needV vb y2) (needE vb y2)).2 := by
  refine ok95c.con (k := false) (Nat.le_of_ble_eq_true rfl) (mO_closed _ _ _) trivial ?_
  have hb : ((0 : Int) != 0) = false := rfl
  have n1 := (walk187 p env va 0 y1 hp).to trivial
  have n2 := (walk187 q env vb (needE va y1) y2 hq).to trivial
  have c189 := (walk189 (needV va y1) (needV vb y2) env (needE vb y2)).to trivial
  have c186 := walk186.call trivial
  have hl : findM .i [(.int .i64 8, .fn (.func 257) [] []), (.int .i64 9, .fn (.func 258) [] []), (.int .i64 10, .fn (.func 259) [] []), (.int .i64 11, .fn (.func 260) [] [])] (.int .i64 10) = some (some (.fn (.func 259) [] [])) := rfl
  rw [relM] at c186
  generalize cprM (needV va y1) (needV vb y2) (needE vb y2) = R at *
  generalize needV va y1 = wa at *
  generalize needV vb y2 = wb at *
  generalize needE vb y2 = x2 at *
  generalize needE va y1 = x1 at *
  have cR := (walk259 R.1).call trivial
  have cB := (walk188 (relB 10 R.1)).call trivial
  have hr : relB 10 R.1 = decide (R.1 > 0) := rfl
  rw [← hr] at cR
  generalize relB 10 R.1 = B at *
  generalize boolV B = W at *
  rw [encE_eq]
  simp only [Exp.op, Exp.int, Exp.text, Exp.value, Exp.args, List.map_cons, List.map_nil]
  rw [encE_eq p] at n1 ⊢
  rw [encE_eq q] at n2 ⊢
  rw [encV_eq] at n1 n2 cB ⊢
  rw [encV_eq wa, encV_eq wb] at c189
  simp only [go_sem, ir95c, mC, hb, List.map_cons, List.map_nil, Int.reduceBEq, Nat.reduceAdd, Nat.reduceEqDiff, Nat.reduceBEq, Nat.reduceLeDiff, reduceCtorEq, ↓reduceIte]
  refine wpsL_call rfl c186 trivial ?_
  simp only [go_sem, hl, Option.getD_some, Option.isSome_some, Int.reduceBEq, Nat.reduceAdd, Nat.reduceEqDiff, Nat.reduceBEq, Nat.reduceLeDiff, reduceCtorEq, ↓reduceIte]
  refine ⟨rfl, ?_⟩
  simp only [go_sem, b95_0, nthA, nthB, Int.reduceBEq, Nat.reduceAdd, Nat.reduceEqDiff, Nat.reduceBEq, Nat.reduceLeDiff, reduceCtorEq, ↓reduceIte]
  refine ⟨by simp, wps_call rfl n1 ⟨rfl, trivial⟩ ?_⟩
  simp only [go_sem, mC, nthA, nthB, List.map_cons, List.map_nil, Int.reduceBEq, Nat.reduceAdd, Nat.reduceEqDiff, Nat.reduceBEq, Nat.reduceLeDiff, reduceCtorEq, ↓reduceIte]
  refine ⟨by simp, wps_call rfl n2 ⟨rfl, trivial⟩ ?_⟩
  simp only [go_sem, mC, nthA, nthB, List.map_cons, List.map_nil, Int.reduceBEq, Nat.reduceAdd, Nat.reduceEqDiff, Nat.reduceBEq, Nat.reduceLeDiff, reduceCtorEq, ↓reduceIte]
  refine wps_call rfl c189 ⟨rfl, trivial⟩ ?_
  simp only [go_sem, mC, List.map_cons, List.map_nil, Int.reduceBEq, Nat.reduceAdd, Nat.reduceEqDiff, Nat.reduceBEq, Nat.reduceLeDiff, reduceCtorEq, ↓reduceIte]
  refine wps_call rfl cR trivial ?_
  simp only [go_sem, mC, List.map_cons, List.map_nil, Int.reduceBEq, Nat.reduceAdd, Nat.reduceEqDiff, Nat.reduceBEq, Nat.reduceLeDiff, reduceCtorEq, ↓reduceIte]
  refine wps_call rfl cB trivial ?_
  simp only [go_sem, mC, List.map_cons, List.map_nil, Int.reduceBEq, Nat.reduceAdd, Nat.reduceEqDiff, Nat.reduceBEq, Nat.reduceLeDiff, reduceCtorEq, ↓reduceIte]
  try exact ⟨rfl, rfl⟩
theorem ev_R11 (n : Int) (t : Str) (vs : List Val) (p q : Exp) (env va vb : Val) (y1 y2 : Int) (hp : MCon 95 [encE p] env 0 (.d (encV va)) y1) (hq : MCon 95 [encE q] env (needE va y1) (.d (encV vb)) y2) :
    MCon 95 [encE (.mk 11 n t vs [p, q])] env 0 (.d (encV (boolV (relB 11 (cprM (needV va y1) (needV vb y2) (needE vb y2)).1)))) (cprM (needV va y1) (needV vb y2) (needE vb y2)).2 := by
  refine ok95c.con (k := false) (Nat.le_of_ble_eq_true rfl) (mO_closed _ _ _) trivial ?_
  have hb : ((0 : Int) != 0) = false := rfl
  have n1 := (walk187 p env va 0 y1 hp).to trivial
  have n2 := (walk187 q env vb (needE va y1) y2 hq).to trivial
  have c189 := (walk189 (needV va y1) (needV vb y2) env (needE vb y2)).to trivial
  have c186 := walk186.call trivial
  have hl : findM .i [(.int .i64 8, .fn (.func 257) [] []), (.int .i64 9, .fn (.func 258) [] []), (.int .i64 10, .fn (.func 259) [] []), (.int .i64 11, .fn (.func 260) [] [])] (.int .i64 11) = some (some (.fn (.func 260) [] [])) := rfl
  rw [relM] at c186
  generalize cprM (needV va y1) (needV vb y2) (needE vb y2) = R at *
  generalize needV va y1 = wa at *
  generalize needV vb y2 = wb at *
  generalize needE vb y2 = x2 at *
  generalize needE va y1 = x1 at *
  have cR := (walk260 R.1).call trivial
  have cB := (walk188 (relB 11 R.1)).call trivial
  have hr : relB 11 R.1 = decide (R.1 ≥ 0) := rfl
  rw [← hr] at cR
  generalize relB 11 R.1 = B at *
  generalize boolV B = W at *
  rw [encE_eq]
  simp only [Exp.op, Exp.int, Exp.text, Exp.value, Exp.args, List.map_cons, List.map_nil]
  rw [encE_eq p] at n1 ⊢
  rw [encE_eq q] at n2 ⊢
  rw [encV_eq] at n1 n2 cB ⊢
  rw [encV_eq wa, encV_eq wb] at c189
  simp only [go_sem, ir95c, mC, hb, List.map_cons, List.map_nil, Int.reduceBEq, Nat.reduceAdd, Nat.reduceEqDiff, Nat.reduceBEq, Nat.reduceLeDiff, reduceCtorEq, ↓reduceIte]
  refine wpsL_call rfl c186 trivial ?_
  simp only [go_sem, hl, Option.getD_some, Option.isSome_some, Int.reduceBEq, Nat.reduceAdd, Nat.reduceEqDiff, Nat.reduceBEq, Nat.reduceLeDiff, reduceCtorEq, ↓reduceIte]
  refine ⟨rfl, ?_⟩
  simp only [go_sem, b95_0, nthA, nthB, Int.reduceBEq, Nat.reduceAdd, Nat.reduceEqDiff, Nat.reduceBEq, Nat.reduceLeDiff, reduceCtorEq, ↓reduceIte]
  refine ⟨by simp, wps_call rfl n1 ⟨rfl, trivial⟩ ?_⟩
  simp only [go_sem, mC, nthA, nthB, List.map_cons, List.map_nil, Int.reduceBEq, Nat.reduceAdd, Nat.reduceEqDiff, Nat.reduceBEq, Nat.reduceLeDiff, reduceCtorEq, ↓reduceIte]
  refine ⟨by simp, wps_call rfl n2 ⟨rfl, trivial⟩ ?_⟩
  simp only [go_sem, mC, nthA, nthB, List.map_cons, List.map_nil, Int.reduceBEq, Nat.reduceAdd, Nat.reduceEqDiff, Nat.reduceBEq, Nat.reduceLeDiff, reduceCtorEq, ↓reduceIte]
  refine wps_call rfl c189 ⟨rfl, trivial⟩ ?_
  simp only [go_sem, mC, List.map_cons, List.map_nil, Int.reduceBEq, Nat.reduceAdd, Nat.reduceEqDiff, Nat.reduceBEq, Nat.reduceLeDiff, reduceCtorEq, ↓reduceIte]
  refine wps_call rfl cR trivial ?_
  simp only [go_sem, mC, List.map_cons, List.map_nil, Int.reduceBEq, Nat.reduceAdd, Nat.reduceEqDiff, Nat.reduceBEq, Nat.reduceLeDiff, reduceCtorEq, ↓reduceIte]
  refine wps_call rfl cB trivial ?_
  simp only [go_sem, mC, List.map_cons, List.map_nil, Int.reduceBEq, Nat.reduceAdd, Nat.reduceEqDiff, Nat.reduceBEq, Nat.reduceLeDiff, reduceCtorEq, ↓reduceIte]
  try exact ⟨rfl, rfl⟩
def truE (v : Val) (y : Int) : Int := if (needE v y == 0) && ((needV v y).kind != 1) then failE (needE v y) 18 else needE v y
def truB (v : Val) (y : Int) : Bool := (truE v y == 0) && ((needV v y).int == 1)
theorem walk192 (e : Exp) (env v : Val) (x y : Int) (h : MCon 95 [encE e] env x (.d (encV v)) y) : MCon 192 [encE e] env x (.d (.bool (truB v y))) (truE v y) := by
 refine ok192.co (k := false) (mO_closed _ _ _) trivial ?_;have c187 := (walk187 e env v x y h).to trivial;have c190 := (walk190 env (needE v y) 18).to trivial;unfold truB;generalize hT : truE v y = T;unfold truE at hT;generalize needV v y = w at *;generalize needE v y = z at *;rw [encE_eq] at c187 ⊢;rw [encV_eq w] at c187;simp only [go_sem, ir192, mC, List.map_cons, List.map_nil, simprocAttr];refine wn c187 ?_;refine zz1 ?_;refine sq (w.kind != 1) ?_ ?_
 ·exact zz trivial
 refine zz ?_;apply ik <;> intro h1
 ·rw [if_pos h1] at hT;rw [hT] at c190;refine wn c190 ?_;refine zz1 ?_;refine sq (w.int == 1) ?_ ?_
  ·exact zz trivial
  refine zz ?_;exact zf
 ·rw [if_neg (nF h1)] at hT;subst hT
  try refine zz1 ?_
  refine sq (w.int == 1) ?_ ?_
  ·exact zz trivial
  refine zz ?_;exact zf
def eqlM (a b : Val) (x : Int) : Bool × Int :=
 if x != 0 then (false, x) else if isN a && isN b then (((cprN (ofN a) (ofN b)).2 == 0) && ((cprN (ofN a) (ofN b)).1 == 0), if (cprN (ofN a) (ofN b)).2 != 0 then failE x (cprN (ofN a) (ofN b)).2 else x)
 else if a.kind != b.kind then (false, failE x 18) else (cmpV a b == 0, x)
theorem walk193 (a b env : Val) (x : Int) (ha : okV a) (hb : okV b) : MCon 193 [encV a, encV b] env x (.d (.bool (eqlM a b x).1)) (eqlM a b x).2 := by
 refine ok193.co (k := false) (mO_closed _ _ _) trivial ?_;have c33 := (walk190 env x 18).to trivial;have ca := (walk261 a).call trivial;have cb := (walk261 b).call trivial;have oa := (walk263 a).call trivial;have ob := (walk263 b).call trivial;have cf := fun y => (walk190 env x y).to trivial
 have h23 := (walk262 (ofN a) (ofN b)).call (by simp [pureR]);have c17 := (walk17 a b ha hb).call trivial;generalize hT : eqlM a b x = T;unfold eqlM at hT;rw [encV_eq] at ca cb oa ob;rw [encV_eq, encV_eq] at c17;rw [encV_eq a, encV_eq b];simp only [encN] at oa ob h23;simp only [go_sem, ir193, mC, List.map_cons, List.map_nil, simprocAttr];apply ik <;> intro h0
 ·rw [if_pos h0] at hT;rw [← hT]
  try exact ⟨rfl, rfl⟩
 rw [if_neg (nF h0)] at hT;refine wn ca ?_;refine zz1 ?_;refine sq (isN b) ?_ ?_
 ·refine zz ?_;refine wc cb trivial
 refine zz ?_;apply ik <;> intro h1
 ·rw [if_pos h1] at hT;generalize cprN (ofN a) (ofN b) = R at *;rw [← hT];refine wpsL_call rfl oa trivial ?_;refine zz ?_;refine wpsL_call rfl ob trivial ?_;refine zz ?_;refine wpsL_call rfl h23 trivial ?_;refine zz ?_;refine ⟨rfl, fun h2 => ?_, fun h2 => ?_⟩
  ·rw [if_pos h2];refine wn (cf R.2) ?_;refine zz1 ?_;refine sq (R.1 == 0) ?_ ?_
   ·exact zz trivial
   refine zz ?_;exact zf
  ·rw [if_neg (nF h2)]
   try refine zz1 ?_
   refine sq (R.1 == 0) ?_ ?_
   ·exact zz trivial
   refine zz ?_;exact zf
 rw [if_neg (nF h1)] at hT
 try refine zz ?_
 apply ik <;> intro h2
 ·rw [if_pos h2] at hT;rw [← hT];refine wn c33 ?_;refine zz1 ?_;exact zf
 rw [if_neg (nF h2)] at hT;rw [← hT]
 try refine zz ?_
 refine wn c17 ?_;refine zz1 ?_;exact zf
end Go.Proofs
namespace Go.Proofs
open Go Av
open Av.Y
def ir216 : Ic := q (.reg (oN 2 v6<|N))<|q (R (om 3 0<|oo 4 (.bld v6 [(0,1,i 4),(3,1,t 3)])<|oS 6 2 4<|N) [0,3,4])<|.ret
theorem ok216 : FT 216 5 ir216 [.cell 2 (some 6)] := .o Tryz.func216
end Go.Proofs
namespace Go.Proofs
open Go Av
theorem fits_V3 {v : Val} (h : fits (encV v)) : v.text.length ≤ 68719476736 ∧ v.list.length ≤ 68719476736 ∧ v.fields.length ≤ 68719476736 := by
 rw [encV_eq] at h;simp only [fits, fitsL, List.length_map, and_true] at h;exact ⟨h.2.2.2.1, h.2.2.2.2.1.1, h.2.2.2.2.2.1⟩
theorem walk216 (s : Str) : PT 216 [.str s] (.d (encV (.mk 4 0 0 s [] []))) := by
 refine ok216.pc ?_;simp only [go_sem, ir216, simprocAttr];rfl
def catM (a b : Val) (x : Int) : Val × Int :=
 if x != 0 then (zeroV, x) else if (a.kind != 4) || (b.kind != 4) then (zeroV, failE x 18)
 else if decide (((a.text.length : Nat) : Int) + ((b.text.length : Nat) : Int) > 1024) then (zeroV, failE x 5) else (.mk 4 0 0 (a.text ++ b.text) [] [], x)
theorem walk195 (a b env : Val) (x : Int) : MCon 195 [encV a, encV b] env x (.d (encV (catM a b x).1)) (catM a b x).2 := by
 refine Con.of_fits ok195.has fun hfit => ?_
 have fa := (fits_V3 (hfit (encV a) sP)).1;have fb := (fits_V3 (hfit (encV b) sP)).1;refine ok195.co (k := false) (mO_closed _ _ _) trivial ?_;have c33 := (walk190 env x 18).to trivial;have c5 := (walk190 env x 5).to trivial;have c216 := (walk216 (a.text ++ b.text)).call trivial;have hw : IntKind.i64.wrap (((a.text.length : Nat) : Int) + ((b.text.length : Nat) : Int)) = ((a.text.length : Nat) : Int) + ((b.text.length : Nat) : Int) := wrap64 oM oM;generalize hT : catM a b x = T;unfold catM at hT;rw [encV_eq a, encV_eq b, encV_eq T.1];simp only [go_sem, ir195, mC, List.map_cons, List.map_nil, simprocAttr];apply ik <;> intro h0
 ·rw [if_pos h0] at hT;rw [← hT]
  try exact ⟨rfl, rfl⟩
 rw [if_neg (nF h0)] at hT
 try refine zz1 ?_
 refine sq (b.kind != 4) ?_ ?_
 ·exact zz trivial
 refine zz ?_;apply ik <;> intro h1
 ·rw [if_pos h1] at hT;rw [← hT];refine wn c33 ?_;generalize zeroV = z at *;rw [encV_eq];refine zz1 ?_;exact zf
 rw [if_neg (nF h1)] at hT
 try refine zz ?_
 rw [hw];apply ik <;> intro h2
 ·rw [if_pos h2] at hT;rw [← hT];refine wn c5 ?_;generalize zeroV = z at *;rw [encV_eq];refine zz1 ?_;exact zf
 rw [if_neg (nF h2)] at hT;rw [← hT];simp only [decide_eq_false_iff_not] at h2
 try refine zz ?_
 refine ⟨by rw [List.length_append]; omega, wn c216 ?_⟩;simp only [encV_eq];refine zz1 ?_;exact zf
def maxS (l : List (Int × Int)) : Int := l.foldl (fun s p => if p.2 > s then p.2 else s) 0
def sumF (l : List (Int × Int)) : (Int × Int) × Int := if decide (((l.length : Nat) : Int) > 256) then ((0, 0), 9) else if fstN l != 0 then ((0, 0), fstN l) else totN l (maxS l)
theorem maxS_bd {l : List (Int × Int)} (h : ∀ p ∈ l, 0 ≤ p.2 ∧ p.2 ≤ 12) : 0 ≤ maxS l ∧ maxS l ≤ 12 := by
 unfold maxS;have : ∀ (l : List (Int × Int)) (s : Int), (∀ p ∈ l, 0 ≤ p.2 ∧ p.2 ≤ 12) → 0 ≤ s → s ≤ 12 → 0 ≤ l.foldl (fun s p => if p.2 > s then p.2 else s) s ∧ l.foldl (fun s p => if p.2 > s then p.2 else s) s ≤ 12 := by
  intro l
  induction l with
  | nil => intro s _ h0 h1; exact ⟨h0, h1⟩
  | cons p r ih =>
   intro s h h0 h1;have hp := h p List.mem_cons_self;rw [List.foldl_cons];refine ih _ (fun q hq => h q (List.mem_cons_of_mem _ hq)) ?_ ?_ <;> split <;> omega
 exact this l 0 h oM oM
theorem walk264 (l : List (Int × Int)) (hl : l.length ≤ 68719476736) : PT 264 [.list 2 (l.map encN)] (.tup [.d (encN (sumF l).1), .d (.int .i64 (sumF l).2)]) := by
 refine ok264.pc ?_;have c327 := (walk327 l hl).call trivial;generalize hT : sumF l = T;unfold sumF at hT;simp only [go_sem, ir264, List.length_map, simprocAttr];apply ik <;> intro h
 ·rw [if_pos h] at hT;rw [← hT];rfl
 rw [if_neg (nF h)] at hT;simp only [decide_eq_false_iff_not] at h;refine wn c327 ?_;refine zz7 ?_;apply ik <;> intro h1
 ·rw [if_pos h1] at hT;rw [← hT];rfl
 rw [if_neg (nF h1)] at hT;simp only [bne_eq_false_iff_eq] at h1;have hv := fstN_ok h1;have hp : ∀ p ∈ l, 0 ≤ p.2 ∧ p.2 ≤ 12 := fun p hp => ⟨(chkN_ok (hv p hp)).1, (chkN_ok (hv p hp)).2.1⟩
 obtain ⟨m0, m1⟩ := maxS_bd hp;have c329 := (walk329 l (maxS l) hl hp m0 m1).call (by simp [pureR]);rw [hT] at c329
 try refine zz7 ?_
 refine wpc_loop (fun n s => ∃ k : Nat, k ≤ l.length ∧ n = l.length - k ∧
  s = ⟨[(0, .d (.list 2 (l.map encN))), (2, .ref 2 0), (5, .d (.int .i64 (maxS (l.take k)))), (18, .d (.list 2 (l.map encN))), (19, .d (.int .i64 l.length)), (20, .d (.int .i64 k))], [(2, .box [.d (.int .i64 0), .d (.int .i64 0)])]⟩) ?_ ?_
 ·exact ⟨_, _, Wk.refl _, 0, Nat.zero_le _, rfl, rfl⟩
 ·rintro n s ⟨k, hk, rfl, rfl⟩;by_cases hlt : k < l.length
  ·have hx := nth_encN hlt;have hd := dT hlt;refine zz8 ?_;refine ⟨oM, l.length - (k + 1), _, oM, Wk.less ?_, k + 1, oM, rfl, rfl⟩;have : maxS (l.take (k + 1)) = if l[k].2 > maxS (l.take k) then l[k].2 else maxS (l.take k) := by
    rw [List.take_succ_eq_append_getElem hlt];unfold maxS;rw [List.foldl_append];rfl
   simp only [go_sem, this, wrap64s k oM, simprocAttr]
  ·have hd := dF hlt;obtain rfl : k = l.length := oM;refine zz28 ?_;refine wn c329 ?_;exact zz34 trivial
end Go.Proofs
namespace Go.Proofs
open Go Av
open Av.Y
def ir333 : Ic := q (R (ox 1 0<|ok 2 (.k .nilFn)<|N) [0,2])<|q (R (oo 3 (.fnv (.func 382) [] [t 1])<|om 2 3<|N) [1,3])<|.ret
theorem ok333 : FT 333 4 ir333 [.tmp 2] := .o Tryz.func333
def ir382 : Ic := q (.reg (oz 3 0<|N))<|D (.block 0<|.loop (q (q (R (om 6 3<|ol 7 1<|oj 8 7<|ot 9 .lss 6 8<|N) [6,7,8])<|D (I 9 S (E 0)) [9])<|D (.block 1<|q (R (ol 11 1<|om 12 3<|oo 13 (.sls (t 11) (some (t 12)) none)<|cl 14 383 [t 13]<|om 10 14<|oe 15 10 0<|oe 16 10 1<|om 4 15<|om 5 16<|N) [11,12,13,14,10,15,16])<|q (q (R (om 17 4<|ob 18 .eql (t 17) (.k (.int .i32 65533))<|om 19 18<|.sc 19 true (om 20 5<|oi 21 .leq 20 1<|N) (t 21) 22 (om 23 22<|.sc 23 false (om 24 0<|om 25 3<|om 26 4<|.call (some 27) (.dyn (t 24)) [t 25,t 26] (og 28 27<|N)) (t 28) 29 N)) [4,17,18,19,22,23])<|D (I 29 .ret S) [29])<|R (om 30 3<|om 31 5<|ot 32 .add 30 31<|om 3 32<|N) [5,30,31,32]) [])) [0,3,9,11,10,4,5]
theorem ok382 : FT 382 33 ir382 [] := .o Tryz.func382
def asg270 : Ic := R (om 6 13<|N) [2,3,11,12,13]
def body270 : Ic := D (.block 1<|R (ol 14 4<|om 15 6<|oo 16 (.cvi .i64 (t 15))<|oo 17 (.bls 1 [t 16])<|oo 18 (.app 1 (t 14) (t 17))<|os 4 18<|N) [4,6,14,15,16,17,18]) [4,6,14,15,16,17,18]
noncomputable def ir270 : Ic := q (.reg (ok 2 (.k (.nil 1))<|oz 3 0<|N))<|q (q (R (om 7 0<|cl 8 198 [t 7]<|og 9 8<|N) [7,8])<|D (I 9 (q (R (ok 2 (.k (.nil 1))<|oz 3 16<|N) [0,9])<|.ret) S) [9])<|q (.reg (oN 4 [.nil 1]<|N))<|q (q (R (om 10 0<|cl 11 333 [t 10]<|N) [0,10])<|D (.block 0<|D (.rng (t 11) 20 32 #[12,13] (subC (codeOf Tryz.f270) [1,1,1,0,1,0,0]) (subC (codeOf Tryz.f270) [1,1,1,0,1,0,1]) asg270 body270) [2,3,11]) [2,3,11])<|q (R (ol 19 4<|om 2 19<|oz 3 0<|N) [4,19])<|.ret
theorem ok270 : FT 270 20 ir270 [.tmp 2, .tmp 3] := .o Tryz.func270
def ir196 : Ic := q (R (ox 5 1<|ox 6 2<|ox 7 3<|oN 8 v6<|N) [1,2,3])<|q (D (.block 0<|q (R (om 16 0<|oc 17 16<|of 18 17 6<|ol 19 18<|oi 20 .neq 19 0<|om 15 20<|N) [16,17,18,19,20])<|I 15 (q (R (oo 21 (.bld v6 [])<|oS 6 8 21<|N) [0,5,6,7,15,21])<|.ret) (q (R (of 23 5 0<|ol 24 23<|oi 25 .neq 24 4<|om 26 25<|.sc 26 false (of 27 6 0<|ol 28 27<|oi 29 .neq 28 2<|N) (t 29) 30 (om 31 30<|.sc 31 false (of 32 7 0<|ol 33 32<|oi 34 .neq 33 2<|N) (t 34) 35 (om 22 35<|N))) [15,23,24,25,26,30,31,35])<|D (I 22 (q (R (om 36 0<|cl 37 190 [t 36,i 18]<|oS 6 8 37<|N) [0,5,6,7,22,36,37])<|.ret) S) [22])) [])<|q (R (of 39 5 3<|ol 40 39<|cl 41 270 [t 40]<|om 38 41<|oe 42 38 0<|oe 43 38 1<|om 9 42<|om 10 43<|N) [5,39,40,41,38,42,43])<|q (D (.block 1<|q (R (om 45 10<|oi 46 .neq 45 0<|om 44 46<|N) [10,45,46])<|I 44 (q (R (om 47 0<|cl 48 190 [t 47,i 16]<|oS 6 8 48<|N) [0,6,7,9,44,47,48])<|.ret) (q (R (of 50 6 1<|ol 51 50<|oi 52 .lss 51 0<|om 53 52<|.sc 53 false (of 54 6 1<|ol 55 54<|of 56 7 1<|ol 57 56<|ot 58 .gtr 55 57<|N) (t 58) 59 (om 49 59<|N)) [44,50,51,52,53,59])<|D (I 49 (q (R (om 60 0<|cl 61 190 [t 60,i 2]<|oS 6 8 61<|N) [0,6,7,9,49,60,61])<|.ret) S) [0,49])) [])<|q (R (of 62 6 1<|ol 63 62<|om 64 9<|oh 65 64<|oo 66 (.mn (t 63) (t 65))<|of 67 7 1<|ol 68 67<|om 69 9<|oh 70 69<|oo 71 (.mn (t 68) (t 70))<|om 11 66<|om 12 71<|N) [6,7,62,63,64,65,66,67,68,69,70,71])<|q (R (om 73 9<|om 74 11<|om 75 12<|oo 76 (.slc 1 (t 73) (some (t 74)) (some (t 75)) none)<|cl 77 271 [t 76]<|om 72 77<|oe 78 72 0<|oe 79 72 1<|om 13 78<|om 14 79<|N) [9,11,12,73,74,75,76,77,72,78,79,14])<|q (R (om 80 13<|cl 81 216 [t 80]<|oS 6 8 81<|N) [13,80,81])<|.ret
theorem ok196 : FT 196 82 ir196 [.cell 8 (some 6)] := .o Tryz.func196
def ir272 : Ic := q (R (ox 1 0<|oN 2 [.int .i64 0,.int .i64 0]<|oz 3 0<|N) [0,3])<|q (q (R (oL 5 2 1<|cl 6 337 [t 5]<|om 4 6<|N) [5,6])<|q (R (om 7 4<|oi 8 .neq 7 0<|N) [7])<|D (I 8 (q (R (oo 9 (.bld [.int .i64 0,.int .i64 0] [])<|om 10 4<|oS 2 2 9<|om 3 10<|N) [1,4,8,9,10])<|.ret) S) [4,8])<|q (R (of 11 1 0<|ol 12 11<|oo 13 (.neg .i64 (t 12))<|of 14 1 1<|ol 15 14<|oo 16 (.bld [.int .i64 0,.int .i64 0] [(0,1,t 13),(1,1,t 15)])<|oS 2 2 16<|oz 3 0<|N) [1,11,12,13,14,15,16])<|.ret
theorem ok272 : FT 272 17 ir272 [.cell 2 (some 2), .tmp 3] := .o Tryz.func272
def ir338 : Ic := q (R (ok 2 (.k (.str []))<|N) [2])<|q (R (om 3 0<|cl 4 386 [t 3]<|om 2 4<|N) [0,3,4])<|.ret
theorem ok338 : FT 338 5 ir338 [.tmp 2] := .o Tryz.func338
def ir386 : Ic := q (R (ok 2 (.k (.str []))<|N) [2])<|q (q (R (om 3 0<|N) [0])<|D (I 3 (q (R (ok 2 (.k (.str [116,114,117,101]))<|N) [3])<|.ret) S) [3])<|q (.reg (ok 2 (.k (.str [102,97,108,115,101]))<|N))<|.ret
theorem ok386 : FT 386 4 ir386 [.tmp 2] := .o Tryz.func386
def ir339 : Ic := q (R (ox 1 0<|ok 2 (.k (.str []))<|oz 3 0<|N) [0,2,3])<|q (q (R (oL 6 2 1<|cl 7 337 [t 6]<|om 4 7<|N) [6,7])<|q (R (om 8 4<|oi 9 .neq 8 0<|N) [8])<|D (I 9 (q (R (om 10 4<|ok 2 (.k (.str []))<|om 3 10<|N) [1,4,9,10])<|.ret) S) [4,9])<|q (R (of 11 1 0<|ol 12 11<|cl 13 330 [t 12]<|cl 14 100 [t 13]<|om 5 14<|N) [11,12,13,14])<|q (q (R (of 15 1 1<|ol 16 15<|oi 17 .gtr 16 0<|N) [15,16])<|D (I 17 (q (R (of 18 1 1<|ol 19 18<|oi 20 .add 19 1<|om 21 5<|oj 22 21<|ot 23 .sub 20 22<|oo 24 (.mx (i 0) (t 23))<|cl 25 387 [.k (.str [48]),t 24]<|om 26 5<|ot 27 .cat 25 26<|om 5 27<|N) [17,18,19,20,21,22,23,24,25,26,27])<|R (om 28 5<|om 29 5<|oj 30 29<|of 31 1 1<|ol 32 31<|ot 33 .sub 30 32<|oo 34 (.sls (t 28) none (some (t 33)))<|ob 35 .cat (t 34) (.k (.str [46]))<|om 36 5<|om 37 5<|oj 38 37<|of 39 1 1<|ol 40 39<|ot 41 .sub 38 40<|oo 42 (.sls (t 36) (some (t 41)) none)<|ot 43 .cat 35 42<|om 5 43<|N) [28,29,30,31,32,33,34,35,36,37,38,39,40,41,42,43]) S) [17])<|q (q (R (of 44 1 0<|ol 45 44<|oi 46 .lss 45 0<|N) [1,44,45])<|D (I 46 (R (om 47 5<|ob 48 .cat (.k (.str [45])) (t 47)<|om 5 48<|N) [46,47,48]) S) [46])<|q (R (om 49 5<|om 2 49<|oz 3 0<|N) [5,49])<|.ret
theorem ok339 : FT 339 50 ir339 [.tmp 2, .tmp 3] := .o Tryz.func339
def ir389 : Ic := q (R (ok 4 (.k (.str []))<|N) [4])<|q (R (om 6 0<|cl 7 100 [t 6]<|om 5 7<|N) [0,6,7])<|q (R (om 8 1<|om 9 5<|oj 10 9<|ot 11 .sub 8 10<|oo 12 (.mx (i 0) (t 11))<|cl 13 387 [.k (.str [48]),t 12]<|om 14 5<|ot 15 .cat 13 14<|om 4 15<|N) [1,5,8,9,10,11,12,13,14,15])<|.ret
theorem ok389 : FT 389 16 ir389 [.tmp 4] := .o Tryz.func389
def ir414 : Ic := q (R (ow 6 false<|N) [6])<|q (R (om 7 0<|om 8 1<|ot 9 .geq 7 8<|om 10 9<|.sc 10 true (om 11 0<|om 12 2<|ot 13 .leq 11 12<|N) (t 13) 14 (om 6 14<|N)) [0,1,2,7,8,9,10,14])<|.ret
theorem ok414 : FT 414 15 ir414 [.tmp 6] := .o Tryz.func414
def ir415 : Ic := q (R (oz 2 0<|N) [2])<|q (R (om 4 0<|oi 5 .sub 4 1<|om 3 5<|N) [0,4,5])<|q (R (om 6 3<|ob 7 .mul (i 365) (t 6)<|om 8 3<|oi 9 .quo 8 4<|ot 10 .add 7 9<|om 11 3<|oi 12 .quo 11 100<|ot 13 .sub 10 12<|om 14 3<|oi 15 .quo 14 400<|ot 16 .add 13 15<|om 2 16<|N) [3,6,7,8,9,10,11,12,13,14,15,16])<|.ret
theorem ok415 : FT 415 17 ir415 [.tmp 2] := .o Tryz.func415
def ir416 : Ic := q (R (oz 4 0<|N) [4])<|q (q (R (om 5 1<|oi 6 .eql 5 2<|om 7 6<|.sc 7 true (om 8 0<|cl 9 424 [t 8]<|N) (t 9) 10 N) [0,5,6,7])<|D (I 10 (q (R (oz 4 29<|N) [1,10])<|.ret) S) [10])<|q (R (oo 11 (.bld [.int .i64 0,.int .i64 0,.int .i64 0,.int .i64 0,.int .i64 0,.int .i64 0,.int .i64 0,.int .i64 0,.int .i64 0,.int .i64 0,.int .i64 0,.int .i64 0] [(0,1,i 31),(1,1,i 28),(2,1,i 31),(3,1,i 30),(4,1,i 31),(5,1,i 30),(6,1,i 31),(7,1,i 31),(8,1,i 30),(9,1,i 31),(10,1,i 30),(11,1,i 31)])<|om 12 1<|oi 13 .sub 12 1<|oo 14 (.ixv none 12 1 (t 11) (t 13))<|om 4 14<|N) [1,11,12,13,14])<|.ret
theorem ok416 : FT 416 15 ir416 [.tmp 4] := .o Tryz.func416
def ir424 : Ic := q (R (ow 2 false<|N) [2])<|q (R (om 3 0<|cl 4 414 [t 3,i 1,i 9999]<|om 5 4<|.sc 5 true (om 6 0<|oi 7 .rem 6 4<|oi 8 .eql 7 0<|N) (t 8) 9 (om 10 9<|.sc 10 true (om 11 0<|oi 12 .rem 11 100<|oi 13 .neq 12 0<|om 14 13<|.sc 14 false (om 15 0<|oi 16 .rem 15 400<|oi 17 .eql 16 0<|N) (t 17) 18 N) (t 18) 19 (om 2 19<|N))) [0,3,4,5,9,10,19])<|.ret
theorem ok424 : FT 424 20 ir424 [.tmp 2] := .o Tryz.func424
def ir388 : Ic := q (R (oz 2 0<|oz 3 0<|oz 4 0<|oz 5 0<|N) [2,3,4,5])<|q (q (R (om 7 0<|cl 8 414 [t 7,i (-719162),i 2932896]<|og 9 8<|N) [7,8])<|D (I 9 (q (R (oz 2 0<|oz 3 0<|oz 4 0<|oz 5 2<|N) [0,9])<|.ret) S) [9])<|q (R (om 10 0<|oi 11 .sub 10 (-719162)<|om 6 11<|N) [0,10,11])<|q (R (om 12 6<|oi 13 .quo 12 365<|oi 14 .add 13 1<|oo 15 (.mn (t 14) (i 9999))<|om 2 15<|N) [12,13,14,15])<|q (D (.block 0<|.loop (q (q (R (om 16 2<|cl 17 415 [t 16]<|om 18 6<|ot 19 .gtr 17 18<|N) [16,17,18])<|D (I 19 S (E 0)) [19])<|D (.block 1<|R (om 20 2<|oi 21 .sub 20 1<|om 2 21<|N) [20,21]) [])) [19])<|q (R (om 22 6<|om 23 2<|cl 24 415 [t 23]<|ot 25 .sub 22 24<|om 6 25<|N) [22,23,24,25])<|q (q (.reg (oz 3 1<|N))<|D (.block 2<|.loop (q (q (R (om 26 6<|om 27 2<|om 28 3<|cl 29 416 [t 27,t 28]<|ot 30 .geq 26 29<|N) [26,27,28,29])<|D (I 30 S (E 2)) [30])<|q (D (.block 3<|R (om 33 6<|om 34 2<|om 35 3<|cl 36 416 [t 34,t 35]<|ot 37 .sub 33 36<|om 6 37<|N) [33,34,35,36,37]) [])<|R (om 31 3<|oi 32 .add 31 1<|om 3 32<|N) [31,32])) [30])<|q (R (om 38 2<|om 39 3<|om 40 6<|oi 41 .add 40 1<|om 2 38<|om 3 39<|om 4 41<|oz 5 0<|N) [6,38,39,40,41])<|.ret
theorem ok388 : FT 388 42 ir388 [.tmp 2, .tmp 3, .tmp 4, .tmp 5] := .o Tryz.func388
def ir390 : Ic := q (R (oz 2 0<|oz 3 0<|oz 4 0<|N) [2,3,4])<|q (q (R (om 6 0<|cl 7 414 [t 6,i (-62135596800000),i 253402300799999]<|og 8 7<|N) [6,7])<|D (I 8 (q (R (oz 2 0<|oz 3 0<|oz 4 2<|N) [0,8])<|.ret) S) [8])<|q (R (om 9 0<|oi 10 .sub 9 (-62135596800000)<|om 5 10<|N) [0,9,10])<|q (R (om 11 5<|oi 12 .quo 11 86400000<|ob 13 .add (i (-719162)) (t 12)<|om 14 5<|oi 15 .rem 14 86400000<|om 2 13<|om 3 15<|oz 4 0<|N) [5,11,12,13,14,15])<|.ret
theorem ok390 : FT 390 16 ir390 [.tmp 2, .tmp 3, .tmp 4] := .o Tryz.func390
def ir340 : Ic := q (R (ok 2 (.k (.str []))<|oz 3 0<|N) [2,3])<|q (R (om 9 0<|cl 10 388 [t 9]<|om 8 10<|oe 11 8 0<|oe 12 8 1<|oe 13 8 2<|oe 14 8 3<|om 4 11<|om 5 12<|om 6 13<|om 7 14<|N) [0,9,10,8,11,12,13,14])<|q (q (R (om 15 7<|oi 16 .neq 15 0<|N) [15])<|D (I 16 (q (R (om 17 7<|ok 2 (.k (.str []))<|om 3 17<|N) [4,5,6,7,16,17])<|.ret) S) [7,16])<|q (R (om 18 4<|cl 19 389 [t 18,i 4]<|ob 20 .cat (t 19) (.k (.str [45]))<|om 21 5<|cl 22 389 [t 21,i 2]<|ot 23 .cat 20 22<|ob 24 .cat (t 23) (.k (.str [45]))<|om 25 6<|cl 26 389 [t 25,i 2]<|ot 27 .cat 24 26<|om 2 27<|oz 3 0<|N) [4,5,6,18,19,20,21,22,23,24,25,26,27])<|.ret
theorem ok340 : FT 340 28 ir340 [.tmp 2, .tmp 3] := .o Tryz.func340
def ir341 : Ic := q (R (ok 2 (.k (.str []))<|oz 3 0<|N) [2,3])<|q (R (om 10 0<|cl 11 390 [t 10]<|om 9 11<|oe 12 9 0<|oe 13 9 1<|oe 14 9 2<|om 4 12<|om 5 13<|om 6 14<|N) [0,10,11,9,12,13,14])<|q (q (R (om 15 6<|oi 16 .neq 15 0<|N) [15])<|D (I 16 (q (R (om 17 6<|ok 2 (.k (.str []))<|om 3 17<|N) [4,5,6,16,17])<|.ret) S) [6,16])<|q (R (om 19 4<|cl 20 340 [t 19]<|om 18 20<|oe 21 18 0<|oe 22 18 1<|om 7 21<|om 6 22<|N) [4,19,20,18,21,22])<|q (q (R (om 23 6<|oi 24 .neq 23 0<|N) [23])<|D (I 24 (q (R (om 25 6<|ok 2 (.k (.str []))<|om 3 25<|N) [5,7,6,24,25])<|.ret) S) [6,24])<|q (R (om 26 5<|oi 27 .quo 26 1000<|om 8 27<|N) [26,27])<|q (R (om 28 7<|om 29 8<|oi 30 .quo 29 3600<|cl 31 389 [t 30,i 2]<|ob 32 .cat (.k (.str [84])) (t 31)<|ob 33 .cat (t 32) (.k (.str [58]))<|om 34 8<|oi 35 .quo 34 60<|oi 36 .rem 35 60<|cl 37 389 [t 36,i 2]<|ot 38 .cat 33 37<|ob 39 .cat (t 38) (.k (.str [58]))<|om 40 8<|oi 41 .rem 40 60<|cl 42 389 [t 41,i 2]<|ot 43 .cat 39 42<|ot 44 .cat 28 43<|om 7 44<|N) [8,28,29,30,31,32,33,34,35,36,37,38,39,40,41,42,43,44])<|q (q (R (om 45 5<|oi 46 .rem 45 1000<|oi 47 .neq 46 0<|N) [45,46])<|D (I 47 (R (om 48 7<|om 49 5<|oi 50 .rem 49 1000<|cl 51 389 [t 50,i 3]<|ob 52 .cat (.k (.str [46])) (t 51)<|ot 53 .cat 48 52<|om 7 53<|N) [5,47,48,49,50,51,52,53]) S) [5,47])<|q (R (om 54 7<|ob 55 .cat (t 54) (.k (.str [90]))<|om 2 55<|oz 3 0<|N) [7,54,55])<|.ret
theorem ok341 : FT 341 56 ir341 [.tmp 2, .tmp 3] := .o Tryz.func341
def ir273 : Ic := q (R (ox 3 1<|oN 4 v6<|N) [1])<|q (.reg (ok 5 (.k (.str []))<|N))<|q (.reg (oz 6 0<|N))<|q (q (R (of 7 3 0<|ol 8 7<|N) [7])<|D (.block 0<|q (R (oi 10 .eql 8 1<|om 9 10<|N) [10])<|I 9 (R (of 11 3 1<|ol 12 11<|oi 13 .eql 12 1<|cl 14 338 [t 13]<|om 5 14<|N) [3,8,9,11,12,13,14]) (q (q (R (oi 16 .eql 8 2<|om 15 16<|N) [9,16])<|I 15 S (R (oi 17 .eql 8 3<|om 15 17<|N) [17]))<|I 15 (R (oL 19 6 3<|cl 20 263 [t 19]<|cl 21 339 [t 20]<|om 18 21<|oe 22 18 0<|oe 23 18 1<|om 5 22<|om 6 23<|N) [3,8,15,19,20,21,18,22,23]) (q (R (oi 25 .eql 8 4<|om 24 25<|N) [15,25])<|I 24 (R (of 26 3 3<|ol 27 26<|om 5 27<|N) [3,8,24,26,27]) (q (R (oi 29 .eql 8 6<|om 28 29<|N) [6,24,29])<|I 28 (R (of 31 3 1<|ol 32 31<|cl 33 340 [t 32]<|om 30 33<|oe 34 30 0<|oe 35 30 1<|om 5 34<|om 6 35<|N) [3,8,28,31,32,33,30,34,35]) (q (R (oi 37 .eql 8 7<|om 36 37<|N) [8,28,37])<|I 36 (R (of 39 3 1<|ol 40 39<|cl 41 341 [t 40]<|om 38 41<|oe 42 38 0<|oe 43 38 1<|om 5 42<|om 6 43<|N) [3,36,39,40,41,38,42,43]) (R (oz 6 18<|N) [3,36])))))) [11])<|q (q (R (om 44 6<|oi 45 .neq 44 0<|N) [44])<|D (I 45 (q (R (om 46 0<|om 47 6<|cl 48 190 [t 46,t 47]<|oS 6 4 48<|N) [0,5,6,45,46,47,48])<|.ret) S) [0,6,45])<|q (R (om 49 5<|cl 50 216 [t 49]<|oS 6 4 50<|N) [5,49,50])<|.ret
theorem ok273 : FT 273 51 ir273 [.cell 4 (some 6)] := .o Tryz.func273
def ir342 : Ic := q (R (oN 2 [.int .i64 0,.int .i64 0]<|oz 3 0<|N) [3])<|q (D (.block 0<|q (R (om 13 0<|ob 14 .seq (t 13) (.k (.str []))<|om 12 14<|N) [13,14])<|D (I 12 (q (R (oo 15 (.bld [.int .i64 0,.int .i64 0] [])<|oS 2 2 15<|oz 3 4<|N) [0,12,15])<|.ret) (q (R (om 17 0<|oj 18 17<|oi 19 .gtr 18 17<|om 16 19<|N) [12,17,18,19])<|D (I 16 (q (R (oo 20 (.bld [.int .i64 0,.int .i64 0] [])<|oS 2 2 20<|oz 3 5<|N) [0,16,20])<|.ret) S) [16])) []) [])<|q (R (om 22 0<|cl 23 149 [t 22,.k (.str [46])]<|om 21 23<|oe 24 21 0<|oe 25 21 1<|oe 26 21 2<|om 4 24<|om 5 25<|om 6 26<|N) [22,23,21,24,25,26])<|q (R (om 28 4<|om 29 5<|ot 30 .cat 28 29<|cl 31 150 [t 30]<|om 27 31<|oe 32 27 0<|oe 33 27 1<|om 7 32<|om 8 33<|N) [4,28,29,30,31,27,32,33])<|q (R (om 34 7<|om 35 5<|oj 36 35<|oo 37 (.bld [.int .i64 0,.int .i64 0] [(0,1,t 34),(1,1,t 36)])<|oN 9 [.int .i64 0,.int .i64 0]<|oS 2 9 37<|N) [7,34,35,36,37])<|q (q (R (oL 39 2 9<|cl 40 339 [t 39]<|om 38 40<|oe 41 38 0<|oe 42 38 1<|om 10 41<|om 11 42<|N) [39,40,38,41,42])<|q (R (om 43 8<|ob 44 .nilne (t 43) (.k .nilIface)<|om 45 44<|.sc 45 false (om 46 11<|oi 47 .neq 46 0<|N) (t 47) 48 (om 49 48<|.sc 49 false (om 50 10<|om 51 0<|ot 52 .sne 50 51<|N) (t 52) 53 (om 54 53<|.sc 54 false (om 55 6<|om 56 55<|.sc 56 true (om 57 5<|ob 58 .seq (t 57) (.k (.str []))<|N) (t 58) 59 N) (t 59) 60 N))) [0,5,6,8,10,11,43,44,45,48,49,53,54])<|D (I 60 (q (R (oo 61 (.bld [.int .i64 0,.int .i64 0] [])<|oS 2 2 61<|oz 3 13<|N) [9,60,61])<|.ret) S) [60])<|q (R (oL 62 2 9<|oS 2 2 62<|oz 3 0<|N) [9,62])<|.ret
theorem ok342 : FT 342 63 ir342 [.cell 2 (some 2), .tmp 3] := .o Tryz.func342
def ir274 : Ic := q (R (ox 3 1<|oN 4 v6<|N) [1])<|q (q (R (of 7 3 0<|ol 8 7<|oi 9 .neq 8 4<|N) [7,8])<|D (I 9 (q (R (om 10 0<|cl 11 190 [t 10,i 18]<|oS 6 4 11<|N) [0,3,9,10,11])<|.ret) S) [9])<|q (R (of 13 3 3<|ol 14 13<|cl 15 342 [t 14]<|om 12 15<|oe 16 12 0<|oe 17 12 1<|oN 5 [.int .i64 0,.int .i64 0]<|oS 2 5 16<|om 6 17<|N) [3,13,14,15,12,16,17])<|q (q (R (om 18 6<|oi 19 .neq 18 0<|om 20 19<|.sc 20 false (of 21 5 1<|ol 22 21<|oi 23 .neq 22 0<|N) (t 23) 24 N) [6,18,19,20])<|D (I 24 (q (R (om 25 0<|cl 26 190 [t 25,i 13]<|oS 6 4 26<|N) [0,5,24,25,26])<|.ret) S) [0,24])<|q (R (of 27 5 0<|ol 28 27<|cl 29 10 [t 28]<|oS 6 4 29<|N) [5,27,28,29])<|.ret
theorem ok274 : FT 274 30 ir274 [.cell 4 (some 6)] := .o Tryz.func274
def ir197 : Ic := q (R (ox 5 2<|oN 6 v6<|N) [2])<|q (q (R (om 9 0<|oc 10 9<|of 11 10 6<|ol 12 11<|oi 13 .neq 12 0<|N) [9,10,11,12])<|D (I 13 (q (R (oo 14 (.bld v6 [])<|oS 6 6 14<|N) [0,1,5,13,14])<|.ret) S) [13])<|q (q (.reg (om 15 1<|N))<|D (.block 0<|q (R (oi 17 .eql 15 16<|om 16 17<|N) [17])<|I 16 (q (q (R (oL 18 6 5<|cl 19 261 [t 18]<|og 20 19<|N) [1,15,16,18,19])<|D (I 20 (q (R (om 21 0<|cl 22 190 [t 21,i 18]<|oS 6 6 22<|N) [0,5,20,21,22])<|.ret) S) [20])<|q (R (oL 24 6 5<|cl 25 263 [t 24]<|cl 26 272 [t 25]<|om 23 26<|oe 27 23 0<|oe 28 23 1<|oN 7 [.int .i64 0,.int .i64 0]<|oS 2 7 27<|om 8 28<|N) [24,25,26,23,27,28])<|q (R (om 29 0<|of 30 5 0<|ol 31 30<|oi 32 .eql 31 2<|oL 33 2 7<|om 34 8<|cl 35 265 [t 29,t 32,t 33,t 34]<|oS 6 6 35<|N) [0,5,7,8,29,30,31,32,33,34,35])<|.ret) (q (R (oi 37 .eql 15 18<|om 36 37<|N) [16,37])<|I 36 (q (q (R (of 38 5 0<|ol 39 38<|N) [1,15,36,38])<|D (.block 1<|q (q (R (oi 41 .eql 39 4<|om 40 41<|N) [41])<|I 40 S (R (oi 42 .eql 39 5<|om 40 42<|N) [42]))<|I 40 (q (R (of 43 5 3<|ol 44 43<|oj 45 44<|cl 46 10 [t 45]<|oS 6 6 46<|N) [0,5,39,40,43,44,45,46])<|.ret) (q (R (oi 48 .eql 39 8<|om 47 48<|N) [39,40,48])<|D (I 47 (q (R (of 49 5 4<|ol 50 49<|oh 51 50<|cl 52 10 [t 51]<|oS 6 6 52<|N) [0,5,47,49,50,51,52])<|.ret) S) [5,47])) [])<|q (R (om 53 0<|cl 54 190 [t 53,i 18]<|oS 6 6 54<|N) [0,53,54])<|.ret) (q (R (oi 56 .eql 15 27<|om 55 56<|N) [36,56])<|I 55 (q (R (om 57 0<|oL 58 6 5<|cl 59 273 [t 57,t 58]<|oS 6 6 59<|N) [0,1,5,15,55,57,58,59])<|.ret) (q (R (oi 61 .eql 15 28<|om 60 61<|N) [15,55,61])<|D (I 60 (q (R (om 62 0<|oL 63 6 5<|cl 64 274 [t 62,t 63]<|oS 6 6 64<|N) [0,1,5,60,62,63,64])<|.ret) S) [60])))) [7,8])<|q (q (R (of 65 5 0<|ol 66 65<|oi 67 .neq 66 4<|N) [65,66])<|D (I 67 (q (R (om 68 0<|cl 69 190 [t 68,i 18]<|oS 6 6 69<|N) [0,1,5,67,68,69])<|.ret) S) [0,67])<|q (q (R (om 70 1<|oi 71 .eql 70 19<|N) [1,70])<|D (I 71 (q (R (of 72 5 3<|ol 73 72<|cl 74 275 [t 73]<|cl 75 216 [t 74]<|oS 6 6 75<|N) [5,71,72,73,74,75])<|.ret) S) [71])<|q (R (of 76 5 3<|ol 77 76<|cl 78 276 [t 77]<|cl 79 216 [t 78]<|oS 6 6 79<|N) [5,76,77,78,79])<|.ret
theorem ok197 : FT 197 80 ir197 [.cell 6 (some 6)] := .o Tryz.func197
def ir275 : Ic := q (R (ok 2 (.k (.str []))<|N) [2])<|q (R (om 3 0<|cl 4 343 [t 3,.k (.int .u8 65),i 32]<|om 2 4<|N) [0,3,4])<|.ret
theorem ok275 : FT 275 5 ir275 [.tmp 2] := .o Tryz.func275
def ir276 : Ic := q (R (ok 2 (.k (.str []))<|N) [2])<|q (R (om 3 0<|cl 4 343 [t 3,.k (.int .u8 97),i (-32)]<|om 2 4<|N) [0,3,4])<|.ret
theorem ok276 : FT 276 5 ir276 [.tmp 2] := .o Tryz.func276
end Go.Proofs
namespace Go.Proofs
open Go Av
def negN (p : Int × Int) : (Int × Int) × Int := if chkN p != 0 then ((0, 0), chkN p) else ((IntKind.i64.wrap (0 - p.1), p.2), 0)
theorem walk272 (p : Int × Int) : PCon Tryz.prog 272 [encN p] (.tup [.d (encN (negN p).1), .d (.int .i64 (negN p).2)]) := by
  refine ok272.pcon (Nat.le_of_ble_eq_true rfl) (by simp [inTR, idsIn, idsInL]) ?_
  have c337 := (walk337 p).call trivial
  generalize hT : negN p = T
  unfold negN at hT
  simp only [encN] at c337 ⊢
  simp only [go_sem, ir272, Nat.reduceAdd, Nat.reduceEqDiff, Nat.reduceBEq, Nat.reduceLeDiff, reduceCtorEq, ↓reduceIte]
  refine wps_call rfl c337 trivial ?_
  simp only [go_sem, Nat.reduceAdd, Nat.reduceEqDiff, Nat.reduceBEq, Nat.reduceLeDiff, reduceCtorEq, ↓reduceIte]
  refine ⟨fun h => ?_, fun h => ?_⟩
  · rw [if_pos h] at hT
    rw [← hT]
    try rfl
  · rw [if_neg (by rw [h]; exact Bool.false_ne_true)] at hT
    rw [← hT]
    try simp only [go_sem, Nat.reduceAdd, Nat.reduceEqDiff, Nat.reduceBEq, Nat.reduceLeDiff, reduceCtorEq, ↓reduceIte]
    try rfl
def boolS (b : Bool) : Str := if b then [116, 114, 117, 101] else [102, 97, 108, 115, 101]
theorem walk338 (b : Bool) : PT 338 [.bool b] (.d (.str (boolS b))) := by
 have c386 : PT 386 [.bool b] (.d (.str (boolS b))) := by
  refine ok386.pc ?_;cases b
  ·simp only [go_sem, ir386, boolS, Bool.false_eq_true, simprocAttr]
  ·simp only [go_sem, ir386, boolS, simprocAttr]
 refine ok338.pc ?_;simp only [go_sem, ir338, simprocAttr];refine wc (c386.call trivial) trivial
def rep0 (n : Int) : Str := List.replicate n.toNat 48
def Rep0 : Prop := ∀ n : Int, 0 ≤ n → n ≤ 100 → CT 387 [.d (.str [48]), .d (.int .i64 n)] [] (.d (.str (rep0 n))) []
def padI (k : Int) (s : Str) : Int := if k + 1 - (s.length : Int) > 0 then k + 1 - (s.length : Int) else 0
def dotS (s : Str) (k : Int) : Str := (s.take ((s.length : Int) - k).toNat ++ [46]) ++ s.drop ((s.length : Int) - k).toNat
def dpS (p : Int × Int) : Str := if decide (p.2 > 0) then dotS (rep0 (padI p.2 (Lib.itoa (absW p.1))) ++ Lib.itoa (absW p.1)) p.2 else Lib.itoa (absW p.1)
def txtN (p : Int × Int) : Str := if decide (p.1 < 0) then [45] ++ dpS p else dpS p
def txtR (p : Int × Int) : Str × Int := if chkN p != 0 then ([], chkN p) else (txtN p, 0)
theorem absW_bd {b : Int} (h0 : -999999999999999 ≤ b) (h1 : b ≤ 999999999999999) : 0 ≤ absW b ∧ absW b ≤ 999999999999999 := by
 by_cases h : b = 0
 ·subst h; decide
 ·obtain ⟨a, b⟩ := absW_pos h h0 h1;omega
theorem walk339 (hrep : Rep0) (p : Int × Int) : PT 339 [encN p] (.tup [.d (.str (txtR p).1), .d (.int .i64 (txtR p).2)]) := by
 refine ok339.pc ?_;have c337 := (walk337 p).call trivial;have c330 := (walk330 p.1).call trivial;generalize hT : txtR p = T;unfold txtR at hT;simp only [encN] at c337 ⊢;simp only [go_sem, ir339, Nat.reduceAdd, Nat.reduceEqDiff, Nat.reduceBEq, Nat.reduceLeDiff, reduceCtorEq, ↓reduceIte];refine wc c337 ?_;apply ik <;> intro h
 ·rw [if_pos h] at hT;rw [← hT]
  try rfl
 rw [if_neg (nF h)] at hT;obtain ⟨b0, b1, b2, b3⟩ := chkN_ok (sX h);obtain ⟨a0, a1⟩ := absW_bd b2 b3;have c100 := call100 (absW p.1) oM oM;have hil := Lib.itoa_length_le (absW p.1) oM oM;unfold txtN at hT;generalize hS : dpS p = S at hT;unfold dpS at hS;generalize Lib.itoa (absW p.1) = s at *
 try refine zz ?_
 refine wc c330 ?_;refine wc c100 ?_;apply ik <;> intro h1
 ·rw [if_pos h1] at hS;simp only [decide_eq_true_eq] at h1;have w1 : IntKind.i64.wrap (p.2 + 1) = p.2 + 1 := wrap64 oM oM;have w2 : IntKind.i64.wrap (p.2 + 1 - (s.length : Int)) = p.2 + 1 - (s.length : Int) := wrap64 oM oM;have hp : padI p.2 s = if p.2 + 1 - (s.length : Int) > 0 then p.2 + 1 - (s.length : Int) else 0 := rfl;have hpb : 0 ≤ padI p.2 s ∧ padI p.2 s ≤ 13 ∧ p.2 + 1 - (s.length : Int) ≤ padI p.2 s := by rw [hp]; split <;> omega
  have c387 := hrep (padI p.2 s) oM oM;rw [w1, w2, ← hp];generalize padI p.2 s = k at *;have hrl : (rep0 k).length = k.toNat := by simp [rep0]
  generalize hq : rep0 k ++ s = q at *;have hql : (q.length : Int) = k + s.length := by rw [← hq, List.length_append, hrl]; omega
  have w3 : IntKind.i64.wrap ((q.length : Int) - p.2) = (q.length : Int) - p.2 := wrap64 oM oM;refine wn c387 ?_;simp only [go_sem, hq, w3, sls_fromI q ((q.length : Int) - p.2) oM, Nat.reduceAdd, Nat.reduceEqDiff, Nat.reduceBEq, Nat.reduceLeDiff, reduceCtorEq, ↓reduceIte];have e0 : (q.drop (Int.toNat 0)).take ((q.length : Int) - p.2 - 0).toNat ++ [46] ++ q.drop ((q.length : Int) - p.2).toNat = S := by
   rw [← hS]; simp [dotS]
  have hSl : S.length ≤ 100 := by
   rw [← hS];simp only [dotS, List.length_append, List.length_take, List.length_drop, List.length_cons, List.length_nil];omega
  have hl1 : ((q.drop (Int.toNat 0)).take ((q.length : Int) - p.2 - 0).toNat ++ [46]).length ≤ 68719476736 := by
   simp only [List.length_append, List.length_take, List.length_drop, List.length_cons, List.length_nil];omega
  rw [e0];refine ⟨oM, ⟨oM, oM, oM⟩, hl1, ⟨oM, oM, oM⟩, oM, fun h2 => ?_, fun h2 => ?_⟩
  ·rw [if_pos h2] at hT;rw [← hT];exact ⟨oM, rfl⟩
  ·rw [if_neg (nF h2)] at hT;rw [← hT]
 ·rw [if_neg (nF h1)] at hS;subst hS
  try refine zz ?_
  apply ik <;> intro h2
  ·rw [if_pos h2] at hT;rw [← hT];exact ⟨oM, rfl⟩
  ·rw [if_neg (nF h2)] at hT;rw [← hT]
theorem txtN_len {p : Int × Int} (h : chkN p = 0) : (txtN p).length ≤ 100 := by
 obtain ⟨b0, b1, b2, b3⟩ := chkN_ok h;obtain ⟨a0, a1⟩ := absW_bd b2 b3;have hil := Lib.itoa_length_le (absW p.1) oM oM;have : (dpS p).length ≤ 90 := by
  unfold dpS;generalize Lib.itoa (absW p.1) = s at *;split
  ·have hp : padI p.2 s = if p.2 + 1 - (s.length : Int) > 0 then p.2 + 1 - (s.length : Int) else 0 := rfl;have hpb : 0 ≤ padI p.2 s ∧ padI p.2 s ≤ 13 := by rw [hp]; split <;> omega
   simp only [dotS, rep0, List.length_append, List.length_take, List.length_drop, List.length_cons, List.length_nil, List.length_replicate];omega
  ·omega
 unfold txtN;split
 ·simp; omega
 ·omega
def parN (s : Str) : (Int × Int) × Int :=
 if s == [] then ((0, 0), 4) else if decide ((s.length : Int) > 17) then ((0, 0), 5) else
  let C := cutS s 46
  let A := atoiV (C.1 ++ C.2.1)
  let O : Int × Int := (A.1, (C.2.1.length : Int))
  if ((!(isNilI (.d A.2) == some true) || ((txtR O).2 != 0)) || !((txtR O).1 == s)) || (C.2.2 && (C.2.1 == [])) then ((0, 0), 13) else (O, 0)
theorem walk342 (hrep : Rep0) (s : Str) (hs : s.length ≤ 68719476736) : PT 342 [.str s] (.tup [.d (encN (parN s).1), .d (.int .i64 (parN s).2)]) := by
 refine ok342.pc ?_;have c149 := (walk149 s 46 hs).call (by simp [pureR]);have hcl := cutS_len s 46;generalize hT : parN s = T;unfold parN at hT;simp only at hT;simp only [go_sem, ir342, simprocAttr];apply ik <;> intro h0
 ·rw [if_pos h0] at hT;rw [← hT]
  try rfl
 rw [if_neg (nF h0)] at hT
 try refine zz ?_
 apply ik <;> intro h1
 ·rw [if_pos h1] at hT;rw [← hT]
  try rfl
 rw [if_neg (nF h1)] at hT;simp only [decide_eq_false_iff_not] at h1;generalize cutS s 46 = C at *;have c150 := call150 (C.1 ++ C.2.1) (by rw [List.length_append]; omega);have herr := atoiV_err (C.1 ++ C.2.1);generalize atoiV (C.1 ++ C.2.1) = A at *;have c339 := (walk339 hrep (A.1, (C.2.1.length : Int))).call (by simp [pureR]);simp only [encN] at c339;generalize txtR (A.1, (C.2.1.length : Int)) = X at *
 try refine zz ?_
 refine wc c149 ?_;refine ⟨by rw [List.length_append]; omega, wn c150 ?_⟩;refine zz ?_;refine wn c339 ?_;rcases herr with he | he
 ·have hf : (!(isNilI (.d A.2) == some true)) = false := by rw [he]; rfl
  rw [hf, Bool.false_or] at hT;rw [he];refine zz30 ?_;refine sq (!(X.1 == s)) ?_ ?_
  ·exact zz30 trivial
  refine zz30 ?_;refine sq (C.2.2 && (C.2.1 == [])) ?_ ?_
  ·refine zz30 ?_;refine sq (C.2.1 == []) ?_ ?_
   ·exact zz30 trivial
   exact zz30 trivial
  refine zz30 ?_;apply ik <;> intro h
  ·rw [if_pos h] at hT;rw [← hT]
   try rfl
  ·rw [if_neg (nF h)] at hT;rw [← hT]
   try rfl
 ·have hf : (!(isNilI (.d A.2) == some true)) = true := by rw [he]; rfl
  rw [hf, Bool.true_or, Bool.true_or, Bool.true_or, if_pos rfl] at hT;rw [he];refine zz30 ?_;rw [← hT]
  try rfl
def nmbM (v : Val) (x : Int) : Val × Int :=
 if v.kind != 4 then (zeroV, failE x 18) else if ((parN v.text).2 != 0) || ((parN v.text).1.2 != 0) then (zeroV, failE x 13) else (.mk 2 (parN v.text).1.1 0 [] [] [], x)
theorem walk274 (hrep : Rep0) (v env : Val) (x : Int) : MCon 274 [encV v] env x (.d (encV (nmbM v x).1)) (nmbM v x).2 := by
 refine Con.of_fits ok274.has fun hfit => ?_
 have fv := (fits_V3 (hfit (encV v) sP)).1;refine ok274.co (k := false) (mO_closed _ _ _) trivial ?_;have c33 := (walk190 env x 18).to trivial;have c88 := (walk190 env x 13).to trivial;have c342 := (walk342 hrep v.text fv).call (by simp [pureR]);generalize hT : nmbM v x = T;unfold nmbM at hT;generalize parN v.text = N at *;have c10 := (walk10 N.1.1).call trivial;simp only [encN] at c342;rw [encV_eq v, encV_eq T.1];simp only [go_sem, ir274, mC, List.map_cons, List.map_nil, simprocAttr];apply ik <;> intro h0
 ·rw [if_pos h0] at hT;rw [← hT];refine wn c33 ?_;generalize zeroV = z at *;rw [encV_eq];refine zz1 ?_;exact zf
 rw [if_neg (nF h0)] at hT
 try refine zz ?_
 refine wc c342 ?_;refine sq (N.1.2 != 0) ?_ ?_
 ·exact zz trivial
 refine zz ?_;apply ik <;> intro h1
 ·rw [if_pos h1] at hT;rw [← hT];refine wn c88 ?_;generalize zeroV = z at *;rw [encV_eq];refine zz1 ?_;exact zf
 rw [if_neg (nF h1)] at hT;rw [← hT]
 try refine zz ?_
 refine wn c10 ?_;rw [encV_eq];refine zz1 ?_;exact zf
end Go.Proofs
namespace Go.Proofs
open Go Av Go.RowKit
theorem fits_V {v : Val} (h : fits (encV v)) : v.text.length ≤ 68719476736 ∧ v.list.length ≤ 68719476736 ∧ v.fields.length ≤ 68719476736 ∧ (∀ x ∈ v.list, fits (encV x)) ∧ ∀ f ∈ v.fields, f.name.length ≤ 68719476736 ∧ fits (encV f.value) := by
 rw [encV_eq] at h;simp only [fits, fitsL, List.length_map, and_true] at h;obtain ⟨_, _, _, h1, ⟨h2, h3⟩, h4, h5⟩ := h;refine ⟨h1, h2, h4, fun x hx => fitsL_iff.1 h3 _ (List.mem_map.2 ⟨x, hx, rfl⟩), fun f hf => ?_⟩;have := fitsL_iff.1 h5 _ (List.mem_map.2 ⟨f, hf, rfl⟩);rw [encF_eq] at this;simp only [fits, fitsL, and_true] at this;refine ⟨this.1, ?_⟩;rw [encV_eq];simp only [fits, fitsL, and_true];exact this.2
theorem u8Of {A : Nat → Prop} {w : World} {g : Nat} {cs : List Dat} (h : GRep A w g cs) (j : Nat) (n : Int) (hj : cs[j]? = some (.int .u8 n)) : w.cell? ⟨g, j, none⟩ = some (.int .u8 n) := by
 obtain ⟨h0, C, T, fr, h1, h2, h3, h4⟩ := h;have hlt : j < C.size := by rw [← h2]; exact (List.getElem?_eq_some_iff.1 hj).1
 have := h4 j _ C[j] hj (by simp [hlt]);generalize hz : C[j] = z at this;cases this;simp [World.cell?, h1, hlt, hz]
theorem utabs {A : Nat → Prop} {w : World} (hg : ∀ g cs, globOf g = some cs → GRep A w g cs) : Lib.Utf8Tabs 0 1 w := by
 have h0 := hg 0 tab0 rfl;have h1 := hg 1 tab1 rfl;refine ⟨fun c hc => u8Of h0 c _ (by simp [tab0, hc]), fun i hi => ?_⟩;have e0 : tab1[2 * i]? = some (.int .u8 (Lib.accLo i)) ∧ tab1[2 * i + 1]? = some (.int .u8 (Lib.accHi i)) := by
  match i, hi with
  | 0, _ | 1, _ | 2, _ | 3, _ | 4, _ | 5, _ | 6, _ | 7, _ | 8, _ | 9, _ | 10, _ | 11, _ | 12, _ | 13, _ | 14, _ | 15, _ => exact ⟨rfl, rfl⟩
  | n + 16, h => omega
 exact ⟨u8Of h1 _ _ e0.1, u8Of h1 _ _ e0.2⟩
def validS (s : Str) : Bool := Lib.validD s
theorem call173 (s : Str) : CT 173 [.d (.str s)] [] (.d (.bool (validS s))) [] := by
 refine CallOK.of_callsG (ds := [.str s]) (hasT Tryz.func173 kR kR) ?_;intro A w vs hg hl hv;obtain ⟨x, rfl⟩ := one_arg hl;have hx := hv 0 _ x rfl rfl;cases hx with
 | str _ h =>
  have e : (⟨s.toArray⟩ : ByteArray).data.toList = s := sP;have hsz : (⟨s.toArray⟩ : ByteArray).size = s.length := by simp [ByteArray.size]
  refine (Any.utf8_ValidString Tryz.laysValid ⟨s.toArray⟩ w oM (utabs hg)).mono ?_;rintro e' w' ⟨rfl, hb⟩;rw [e];exact ⟨_, rfl, hb, fun β H => .d _ _ (.bool _)⟩
def textE (v : Val) : Int := if szE v.text.length 1024 5 == 0 && !validS v.text then 16 else szE v.text.length 1024 5
theorem walk171 (v : Val) : PT 171 [encV v] (.d (.int .i64 (textE v))) := by
 refine ok171.pc ?_;rw [encV_eq];simp only [go_sem, ir171, simprocAttr];refine wc ((walk172 _ _ _).call trivial) ?_;refine sq (!validS v.text) ?_ ?_
 ·refine zz ?_;refine wc (call173 _) trivial
 refine zz ?_;apply ik <;> intro h
 ·rw [textE, if_pos h]
 ·rw [textE, if_neg (by simp [h])]
theorem walk151' (s : Str) : PT 151 [.str s] (.d (.bool (nameS s))) := PCon.of_fits ok151.has fun h => walk151 s (h _ (List.mem_singleton.2 rfl))
def varE (v : Val) : Int := if !nameS v.text then 12 else if ((v.list.length : Nat) : Int) == 0 then 4 else szE v.list.length 1 3
theorem walk179 (v : Val) : PT 179 [encV v] (.d (.int .i64 (varE v))) := by
 refine ok179.pc ?_;rw [encV_eq];simp only [go_sem, ir179, simprocAttr];refine wn ((walk151' _).call trivial) ?_;refine zz7 ?_;refine ⟨fun h => ?_, fun h => ⟨fun h2 => ?_, fun h2 => ?_⟩⟩
 ·rw [varE, if_pos h]
 ·rw [varE, if_neg (by simp [h]), if_pos h2]
 ·rw [varE, if_neg (by simp [h]), if_neg (by simp [h2])];refine wc ((walk172 _ _ _).call trivial) trivial
def recE : Option Str → List Fld → Int
 | _, [] => 0
 | none, f :: r => if !nameS f.name then 12 else recE (some f.name) r
 | some p, f :: r => if !nameS f.name then 12 else if f.name == p then 7 else if strLt f.name p then 24 else recE (some f.name) r
def recV (v : Val) : Int := if szE v.fields.length 64 9 != 0 then szE v.fields.length 64 9 else recE none v.fields
def prevN (l : List Fld) : Nat → Option Str
 | 0 => none
 | k + 1 => l[k]?.map Fld.name
theorem walk178 (v : Val) : PT 178 [encV v] (.d (.int .i64 (recV v))) := by
 refine PCon.of_fits ok178.has fun hfit => ?_
 obtain ⟨_, _, hfl, _, _⟩ := fits_V (hfit _ (List.mem_singleton.2 rfl));refine ok178.pc ?_;rw [encV_eq];simp only [go_sem, ir178, List.length_map, Nat.reduceAdd, Nat.reduceEqDiff, Nat.reduceBEq, Nat.reduceLeDiff, reduceCtorEq, ↓reduceIte];refine wc ((walk172 _ _ _).call trivial) ?_;apply ik <;> intro h
 ·rw [recV, if_pos h]
 rw [recV, if_neg (by simp [h])];refine zz7 ?_;generalize hR : recE none v.fields = R;refine wpc_loop (fun n s => ∃ k : Nat, k ≤ v.fields.length ∧ n = v.fields.length - k ∧ R = recE (prevN v.fields k) (v.fields.drop k) ∧
  s = ⟨[(1, .ref 1 0), (14, .d (.list 7 (v.fields.map encF))), (15, .d (.int .i64 v.fields.length)), (16, .d (.int .i64 k))],
   [(1, .box [.d (.int .i64 v.kind), .d (.int .i64 v.int), .d (.int .i64 v.scale), .d (.str v.text), .d (.list 6 (v.list.map encV)), .d (.list 7 (v.fields.map encF))])]⟩) ?_ ?_
 ·exact ⟨_, _, Wk.refl _, 0, Nat.zero_le _, rfl, hR.symm, rfl⟩
 ·rintro n s ⟨k, hk, rfl, hinv, rfl⟩;by_cases hlt : k < v.fields.length
  ·have hx := nth_encF hlt;have hd := dT hlt;rw [List.drop_eq_getElem_cons hlt] at hinv;refine zz8 ?_;refine ⟨oM, wn ((walk151' _).call trivial) ?_⟩;refine zz ?_;apply ik <;> intro h12
   ·have : R = 12 := by
     rw [hinv];cases prevN v.fields k <;> simp only [recE, h12, ↓reduceIte]
    rw [this]
   cases k with
   | zero =>
    simp only [prevN, recE, h12, Bool.false_eq_true, ↓reduceIte] at hinv;have hg : decide (((0 : Nat) : Int) > 0) = false := rfl;simp only [go_sem, hg, Nat.reduceAdd, Nat.reduceEqDiff, Nat.reduceBEq, Nat.reduceLeDiff, reduceCtorEq, ↓reduceIte];have hp : prevN v.fields (0 + 1) = some v.fields[0].name := by simp [prevN, hlt]
    refine ⟨v.fields.length - 1, _, oM, Wk.less ?_, 0 + 1, oM, rfl, by rw [hp]; exact hinv, rfl⟩;simp only [go_sem, wrap64s 0 oM, Nat.reduceAdd, Nat.reduceEqDiff, Nat.reduceBEq, Nat.reduceLeDiff, reduceCtorEq, ↓reduceIte]
   | succ k =>
    have hlt' : k < v.fields.length := oM;have hx' := nth_encF hlt';have hp : prevN v.fields (k + 1) = some v.fields[k].name := by simp [prevN, hlt']
    have hp2 : prevN v.fields (k + 1 + 1) = some v.fields[k + 1].name := by simp [prevN, hlt]
    rw [hp] at hinv;simp only [recE, h12, Bool.false_eq_true, ↓reduceIte] at hinv;have hg : decide (((k + 1 : Nat) : Int) > 0) = true := sP;have hw : IntKind.i64.wrap (((k + 1 : Nat) : Int) - 1) = k := by rw [wrap64 oM oM]; omega
    simp only [go_sem, hg, hw, hx', Int.toNat_natCast, List.length_map, Nat.reduceAdd, Nat.reduceEqDiff, Nat.reduceBEq, Nat.reduceLeDiff, reduceCtorEq, ↓reduceIte];refine ⟨⟨oM, oM⟩, dC, fun q => ?_, fun q => ⟨⟨oM, oM⟩, dC, fun q2 => ?_, fun q2 => ?_⟩⟩
    ·rw [if_pos q] at hinv;rw [hinv]
    ·rw [if_neg (by simp [q]), if_pos q2] at hinv;rw [hinv]
    ·rw [if_neg (by simp [q]), if_neg (by simp [q2])] at hinv;refine ⟨v.fields.length - (k + 1 + 1), _, oM, Wk.less ?_, k + 1 + 1, oM, rfl, by rw [hp2]; exact hinv, rfl⟩;simp only [go_sem, wrap64s (k + 1) oM, Nat.reduceAdd, Nat.reduceEqDiff, Nat.reduceBEq, Nat.reduceLeDiff, reduceCtorEq, ↓reduceIte]
  ·have hd := dF hlt;obtain rfl : k = v.fields.length := oM;rw [List.drop_length] at hinv;have : R = 0 := by rw [hinv]; cases prevN v.fields v.fields.length <;> rfl
   simp only [go_sem, hd, this, Nat.reduceAdd, Nat.reduceEqDiff, Nat.reduceBEq, Nat.reduceLeDiff, reduceCtorEq, ↓reduceIte]
end Go.Proofs
namespace Go.Proofs
open Go.Shelf
def Tryz.lays169_ren : Go.Shelf.Ren := ⟨fun | 169 => 336 | n => n, fun | 70 => 380 | 9 => 9 | 0 => 0 | 72 => 382 | 37 => 299 | 127 => 423 | 3 => 3 | 5 => 5 | n => n, fun | n => n⟩
theorem Tryz.lays169 : Go.Proofs.Lays.n169 Tryz.prog Tryz.lays169_ren := {
 mixed := kR
 f169 := Tryz.func336.trans (congrArg some kR)
 t0 := Tryz.underlying0
 a0 := Tryz.isAgg0
 z0 := Tryz.sizeOf0
 v0 := Tryz.zeroValue0
 t3 := Tryz.underlying3
 a3 := Tryz.isAgg3
 z3 := Tryz.sizeOf3
 v3 := Tryz.zeroValue3
 t9 := Tryz.underlying9
 a9 := Tryz.isAgg9
 z9 := Tryz.sizeOf9
 v9 := Tryz.zeroValue9
 t37 := Tryz.underlying299
 a37 := Tryz.isAgg299
 z37 := Tryz.sizeOf299
 v37 := Tryz.zeroValue299
 t70 := Tryz.underlying380
 a70 := Tryz.isAgg380
 z70 := Tryz.sizeOf380
 v70 := Tryz.zeroValue380
 t72 := Tryz.underlying382
 a72 := Tryz.isAgg382
 z72 := Tryz.sizeOf382
 v72 := Tryz.zeroValue382
 t127 := Tryz.underlying423
 a127 := Tryz.isAgg423
 z127 := Tryz.sizeOf423
 v127 := Tryz.zeroValue423 }
theorem Tryz.Builder_Extra_169 : Builder.Extra Tryz.prog Tryz.lays169_ren := {
 sizeBuilder := kR
 liesBuilder := kR
 t5 := Tryz.underlying5
 a5 := Tryz.isAgg5
 z5 := Tryz.sizeOf5
 v5 := Tryz.zeroValue5
 infoByte := kR
 cellsByte := kR
 sizeByte := kR
 neB5 := by decide }
def Tryz.lays105_ren : Go.Shelf.Ren := ⟨fun | 105 => 387 | 212 => 410 | 99 => 148 | 165 => 411 | 166 => 412 | 170 => 413 | 169 => 336 | 263 => 421 | 264 => 422 | 206 => 232 | 240 => 384 | 241 => 423 | 276 => 408 | 277 => 425 | n => n, fun | 9 => 9 | 3 => 3 | 4 => 4 | 20 => 20 | 0 => 0 | 46 => 257 | 109 => 447 | 5 => 5 | 72 => 382 | 76 => 236 | 51 => 318 | 146 => 437 | 53 => 320 | 148 => 456 | 70 => 380 | 37 => 299 | 75 => 235 | 127 => 423 | 164 => 445 | 80 => 243 | n => n, fun | n => n⟩
theorem Tryz.lays105 : Go.Proofs.Lays.n105 Tryz.prog Tryz.lays105_ren := {
 mixed := kR
 f99 := Tryz.func148.trans (congrArg some kR)
 f105 := Tryz.func387.trans (congrArg some kR)
 f165 := Tryz.func411.trans (congrArg some kR)
 f166 := Tryz.func412.trans (congrArg some kR)
 f169 := Tryz.func336.trans (congrArg some kR)
 f170 := Tryz.func413.trans (congrArg some kR)
 f206 := Tryz.func232.trans (congrArg some kR)
 f212 := Tryz.func410.trans (congrArg some kR)
 f240 := Tryz.func384.trans (congrArg some kR)
 f241 := Tryz.func423.trans (congrArg some kR)
 f263 := Tryz.func421.trans (congrArg some kR)
 f264 := Tryz.func422.trans (congrArg some kR)
 f276 := Tryz.func408.trans (congrArg some kR)
 f277 := Tryz.func425.trans (congrArg some kR)
 t0 := Tryz.underlying0
 a0 := Tryz.isAgg0
 z0 := Tryz.sizeOf0
 v0 := Tryz.zeroValue0
 t3 := Tryz.underlying3
 a3 := Tryz.isAgg3
 z3 := Tryz.sizeOf3
 v3 := Tryz.zeroValue3
 t4 := Tryz.underlying4
 a4 := Tryz.isAgg4
 z4 := Tryz.sizeOf4
 v4 := Tryz.zeroValue4
 t5 := Tryz.underlying5
 a5 := Tryz.isAgg5
 z5 := Tryz.sizeOf5
 v5 := Tryz.zeroValue5
 t9 := Tryz.underlying9
 a9 := Tryz.isAgg9
 z9 := Tryz.sizeOf9
 v9 := Tryz.zeroValue9
 t20 := Tryz.underlying20
 a20 := Tryz.isAgg20
 z20 := Tryz.sizeOf20
 v20 := Tryz.zeroValue20
 t37 := Tryz.underlying299
 a37 := Tryz.isAgg299
 z37 := Tryz.sizeOf299
 v37 := Tryz.zeroValue299
 t46 := Tryz.underlying257
 a46 := Tryz.isAgg257
 z46 := Tryz.sizeOf257
 v46 := Tryz.zeroValue257
 t51 := Tryz.underlying318
 a51 := Tryz.isAgg318
 z51 := Tryz.sizeOf318
 v51 := Tryz.zeroValue318
 t53 := Tryz.underlying320
 a53 := Tryz.isAgg320
 z53 := Tryz.sizeOf320
 v53 := Tryz.zeroValue320
 t70 := Tryz.underlying380
 a70 := Tryz.isAgg380
 z70 := Tryz.sizeOf380
 v70 := Tryz.zeroValue380
 t72 := Tryz.underlying382
 a72 := Tryz.isAgg382
 z72 := Tryz.sizeOf382
 v72 := Tryz.zeroValue382
 t75 := Tryz.underlying235
 a75 := Tryz.isAgg235
 z75 := Tryz.sizeOf235
 v75 := Tryz.zeroValue235
 t76 := Tryz.underlying236
 a76 := Tryz.isAgg236
 z76 := Tryz.sizeOf236
 v76 := Tryz.zeroValue236
 t109 := Tryz.underlying447
 a109 := Tryz.isAgg447
 z109 := Tryz.sizeOf447
 v109 := Tryz.zeroValue447
 t127 := Tryz.underlying423
 a127 := Tryz.isAgg423
 z127 := Tryz.sizeOf423
 v127 := Tryz.zeroValue423
 t146 := Tryz.underlying437
 a146 := Tryz.isAgg437
 z146 := Tryz.sizeOf437
 v146 := Tryz.zeroValue437
 t148 := Tryz.underlying456
 a148 := Tryz.isAgg456
 z148 := Tryz.sizeOf456
 v148 := Tryz.zeroValue456
 t164 := Tryz.underlying445
 a164 := Tryz.isAgg445
 z164 := Tryz.sizeOf445
 v164 := Tryz.zeroValue445 }
theorem Tryz.Builder_Extra_105 : Builder.Extra Tryz.prog Tryz.lays105_ren := {
 sizeBuilder := kR
 liesBuilder := kR
 t5 := Tryz.underlying5
 a5 := Tryz.isAgg5
 z5 := Tryz.sizeOf5
 v5 := Tryz.zeroValue5
 infoByte := kR
 cellsByte := kR
 sizeByte := kR
 neB5 := by decide }
def Tryz.lays197_ren : Go.Shelf.Ren := ⟨fun | 197 => 383 | 260 => 407 | n => n, fun | 9 => 9 | 21 => 21 | 3 => 3 | 4 => 4 | 5 => 5 | 105 => 420 | 119 => 305 | 0 => 0 | 46 => 257 | 139 => 308 | 138 => 307 | n => n, fun | 3 => 0 | 4 => 1 | n => n⟩
theorem Tryz.lays197 : Go.Proofs.Lays.n197 Tryz.prog Tryz.lays197_ren := {
 mixed := kR
 f197 := Tryz.func383.trans (congrArg some kR)
 f260 := Tryz.func407.trans (congrArg some kR)
 t0 := Tryz.underlying0
 a0 := Tryz.isAgg0
 z0 := Tryz.sizeOf0
 v0 := Tryz.zeroValue0
 t3 := Tryz.underlying3
 a3 := Tryz.isAgg3
 z3 := Tryz.sizeOf3
 v3 := Tryz.zeroValue3
 t4 := Tryz.underlying4
 a4 := Tryz.isAgg4
 z4 := Tryz.sizeOf4
 v4 := Tryz.zeroValue4
 t5 := Tryz.underlying5
 a5 := Tryz.isAgg5
 z5 := Tryz.sizeOf5
 v5 := Tryz.zeroValue5
 t9 := Tryz.underlying9
 a9 := Tryz.isAgg9
 z9 := Tryz.sizeOf9
 v9 := Tryz.zeroValue9
 t21 := Tryz.underlying21
 a21 := Tryz.isAgg21
 z21 := Tryz.sizeOf21
 v21 := Tryz.zeroValue21
 t46 := Tryz.underlying257
 a46 := Tryz.isAgg257
 z46 := Tryz.sizeOf257
 v46 := Tryz.zeroValue257
 t105 := Tryz.underlying420
 a105 := Tryz.isAgg420
 z105 := Tryz.sizeOf420
 v105 := Tryz.zeroValue420
 t119 := Tryz.underlying305
 a119 := Tryz.isAgg305
 z119 := Tryz.sizeOf305
 t138 := Tryz.underlying307
 a138 := Tryz.isAgg307
 z138 := Tryz.sizeOf307
 v138 := Tryz.zeroValue307
 t139 := Tryz.underlying308
 a139 := Tryz.isAgg308
 z139 := Tryz.sizeOf308
 v139 := Tryz.zeroValue308
 g3 := kR
 g4 := by kernel_rfl }
def Tryz.lays168_ren : Go.Shelf.Ren := ⟨fun | 168 => 335 | 240 => 384 | 242 => 385 | 276 => 408 | 278 => 409 | n => n, fun | 0 => 0 | 3 => 3 | 4 => 4 | 5 => 5 | 9 => 9 | 20 => 20 | 21 => 21 | 37 => 299 | 46 => 257 | 51 => 318 | 70 => 380 | 72 => 382 | 75 => 235 | 80 => 243 | 164 => 445 | n => n, fun | n => n⟩
theorem Tryz.lays168 : Go.Proofs.Lays.n168 Tryz.prog Tryz.lays168_ren := {
 mixed := kR
 f168 := Tryz.func335.trans (congrArg some kR)
 f240 := Tryz.func384.trans (congrArg some kR)
 f242 := Tryz.func385.trans (congrArg some kR)
 f276 := Tryz.func408.trans (congrArg some kR)
 f278 := Tryz.func409.trans (congrArg some kR)
 t0 := Tryz.underlying0
 a0 := Tryz.isAgg0
 z0 := Tryz.sizeOf0
 v0 := Tryz.zeroValue0
 t3 := Tryz.underlying3
 a3 := Tryz.isAgg3
 z3 := Tryz.sizeOf3
 v3 := Tryz.zeroValue3
 t4 := Tryz.underlying4
 a4 := Tryz.isAgg4
 z4 := Tryz.sizeOf4
 v4 := Tryz.zeroValue4
 t5 := Tryz.underlying5
 a5 := Tryz.isAgg5
 z5 := Tryz.sizeOf5
 v5 := Tryz.zeroValue5
 t9 := Tryz.underlying9
 a9 := Tryz.isAgg9
 z9 := Tryz.sizeOf9
 v9 := Tryz.zeroValue9
 t20 := Tryz.underlying20
 a20 := Tryz.isAgg20
 z20 := Tryz.sizeOf20
 v20 := Tryz.zeroValue20
 t21 := Tryz.underlying21
 a21 := Tryz.isAgg21
 z21 := Tryz.sizeOf21
 v21 := Tryz.zeroValue21
 t37 := Tryz.underlying299
 a37 := Tryz.isAgg299
 z37 := Tryz.sizeOf299
 v37 := Tryz.zeroValue299
 t46 := Tryz.underlying257
 a46 := Tryz.isAgg257
 z46 := Tryz.sizeOf257
 v46 := Tryz.zeroValue257
 t51 := Tryz.underlying318
 a51 := Tryz.isAgg318
 z51 := Tryz.sizeOf318
 v51 := Tryz.zeroValue318
 t70 := Tryz.underlying380
 a70 := Tryz.isAgg380
 z70 := Tryz.sizeOf380
 v70 := Tryz.zeroValue380
 t72 := Tryz.underlying382
 a72 := Tryz.isAgg382
 z72 := Tryz.sizeOf382
 v72 := Tryz.zeroValue382
 t75 := Tryz.underlying235
 a75 := Tryz.isAgg235
 z75 := Tryz.sizeOf235
 v75 := Tryz.zeroValue235
 t164 := Tryz.underlying445
 a164 := Tryz.isAgg445
 z164 := Tryz.sizeOf445
 v164 := Tryz.zeroValue445 }
theorem Tryz.Builder_Extra_168 : Builder.Extra Tryz.prog Tryz.lays168_ren := {
 sizeBuilder := kR
 liesBuilder := kR
 t5 := Tryz.underlying5
 a5 := Tryz.isAgg5
 z5 := Tryz.sizeOf5
 v5 := Tryz.zeroValue5
 infoByte := kR
 cellsByte := kR
 sizeByte := kR
 neB5 := by decide }
end Go.Proofs
namespace Go.Proofs
open Go Av
open Av.Y
def ir198 : Ic := q (R (ow 2 false<|N) [2])<|q (R (om 3 0<|cl 4 173 [t 3]<|om 2 4<|N) [0,3,4])<|.ret
theorem ok198 : FT 198 5 ir198 [.tmp 2] := .o Tryz.func198
def ir162 : Ic := q (R (ok 6 (.k (.nil 7))<|N) [6])<|q (R (om 10 0<|om 11 1<|oo 12 (.slc 7 (t 10) (some (t 11)) none none)<|N) [10,11,12])<|q (R (om 13 2<|oh 14 13<|om 7 14<|N) [13,14])<|q (q (R (om 15 7<|oi 16 .eql 15 0<|N) [15])<|D (I 16 (q (R (om 17 0<|om 6 17<|N) [0,1,2,7,16,17])<|.ret) S) [16])<|q (R (om 18 0<|oh 19 18<|om 8 19<|N) [18,19])<|q (q (R (om 20 1<|om 21 8<|ot 22 .eql 20 21<|N) [20,21])<|D (I 22 (q (R (om 23 0<|om 24 2<|oo 25 (.app 7 (t 23) (t 24))<|om 6 25<|N) [0,1,2,7,8,22,23,24,25])<|.ret) S) [22])<|q (q (R (om 26 8<|om 27 7<|ot 28 .add 26 27<|om 29 0<|oo 30 .bad<|ot 31 .gtr 28 30<|N) [26,27,28,29,30])<|D (I 31 (q (R (om 32 0<|om 33 1<|oo 34 (.slc 7 (t 32) none (some (t 33)) none)<|om 35 8<|om 36 7<|ot 37 .add 35 36<|om 38 1<|ot 39 .sub 37 38<|oo 40 .bad<|om 9 40<|N) [8,31,32,33,34,35,36,37,38,39,40])<|q (R (om 41 9<|om 42 1<|oo 43 (.slc 7 (t 41) (some (t 42)) none none)<|om 44 2<|oo 45 .bad<|N) [2,41,42,43,44,45])<|q (R (om 46 9<|om 47 1<|om 48 7<|ot 49 .add 47 48<|oo 50 (.slc 7 (t 46) (some (t 49)) none none)<|om 51 0<|om 52 1<|oo 53 (.slc 7 (t 51) (some (t 52)) none none)<|oo 54 .bad<|N) [0,1,7,46,47,48,49,50,51,52,53,54])<|q (R (om 55 9<|om 6 55<|N) [9,55])<|.ret) S) [31])<|q (R (om 56 0<|om 57 8<|om 58 7<|ot 59 .add 57 58<|oo 60 (.slc 7 (t 56) none (some (t 59)) none)<|om 0 60<|N) [56,57,58,59,60])<|q (q (R (om 61 2<|om 62 0<|om 63 1<|om 64 7<|ot 65 .add 63 64<|oo 66 (.slc 7 (t 62) (some (t 65)) none none)<|cl 67 237 [t 61,t 66]<|og 68 67<|N) [61,62,63,64,65,66,67])<|D (I 68 (q (R (om 69 0<|om 70 1<|om 71 7<|ot 72 .add 70 71<|oo 73 (.slc 7 (t 69) (some (t 72)) none none)<|om 74 0<|om 75 1<|oo 76 (.slc 7 (t 74) (some (t 75)) none none)<|oo 77 .bad<|N) [7,8,68,69,70,71,72,73,74,75,76,77])<|q (R (om 78 0<|om 79 1<|oo 80 (.slc 7 (t 78) (some (t 79)) none none)<|om 81 2<|oo 82 .bad<|N) [1,2,78,79,80,81,82])<|q (R (om 83 0<|om 6 83<|N) [0,83])<|.ret) S) [68])<|q (R (om 84 0<|om 85 8<|oo 86 (.slc 7 (t 84) (some (t 85)) none none)<|om 87 2<|oo 88 .bad<|N) [2,8,84,85,86,87,88])<|q (R (om 89 0<|om 90 1<|oo 91 (.slc 7 (t 89) (some (t 90)) none none)<|om 92 7<|cl 93 238 [t 91,t 92]<|N) [1,7,89,90,91,92,93])<|q (R (om 94 0<|om 6 94<|N) [0,94])<|.ret
theorem ok162 : FT 162 95 ir162 [.tmp 6] := .o Tryz.func162
end Go.Proofs
namespace Go.Proofs
open Go Av Go.RowKit
theorem two_args {vs : Array Value} (h : 2 = vs.size) : ∃ x y, vs = #[x, y] := by
 refine ⟨vs[0], vs[1], ?_⟩;apply Array.ext
 ·simp [← h]
 ·intro i h1 h2;have : i = 0 ∨ i = 1 := oM;rcases this with rfl | rfl <;> rfl
theorem repeat0 : ∀ n : Nat, Lib.repeatL [48] n = List.replicate n 48
 | 0 => rfl
 | n + 1 => by rw [Lib.repeatL, repeat0 n, List.replicate_succ]; rfl
theorem rep0_ok : Rep0 := by
 intro n h0 h1;refine CallOK.of_calls (ds := [.str [48], .int .i64 n]) (hasT Tryz.func387 kR kR) ?_;intro A w vs hl hv;obtain ⟨x, y, rfl⟩ := two_args hl;have hx := hv 0 _ x rfl rfl;have hy := hv 1 _ y rfl rfl;cases hx;cases hy;obtain ⟨c, rfl⟩ : ∃ c : Nat, n = (c : Int) := ⟨n.toNat, oM⟩;have hsz : (⟨([48] : Str).toArray⟩ : ByteArray).size = 1 := rfl;refine (Any.strings_Repeat Tryz.lays105 Tryz.Builder_Extra_105 ⟨([48] : Str).toArray⟩ c w oM (by rw [hsz]; omega)).mono ?_;rintro e w' ⟨rfl, hb⟩;refine ⟨_, rfl, hb, fun β H => .d _ _ ?_⟩;have e1 : (⟨([48] : Str).toArray⟩ : ByteArray).data.toList = [48] := rfl;rw [e1, repeat0];have : rep0 (c : Int) = List.replicate c 48 := by simp [rep0]
 rw [this];exact .str _ sO
def dgo (s : Str) : Nat × Nat := Lib.decodeGo ⟨s.toArray⟩
theorem i32b {v : Nat} (h : v ≤ 2147483647) : IntKind.i32.min ≤ (v : Int) ∧ (v : Int) ≤ IntKind.i32.max := by
 have e1 : IntKind.i32.min = -2147483648 := dC;have e2 : IntKind.i32.max = 2147483647 := dC;rw [e1, e2]; omega
theorem call383 (s : Str) (hr : (dgo s).1 ≤ 2147483647) (hn : (dgo s).2 ≤ 4) : CT 383 [.d (.str s)] [] (.tup [.d (.int .i32 (dgo s).1), .d (.int .i64 (dgo s).2)]) [] := by
 refine CallOK.of_callsG (ds := [.str s]) (hasT Tryz.func383 kR kR) ?_;intro A w vs hg hl hv;obtain ⟨x, rfl⟩ := one_arg hl;have hx := hv 0 _ x rfl rfl;cases hx with
 | str _ h =>
  refine (Any.utf8_DecodeRuneInString Tryz.lays197 ⟨s.toArray⟩ w (utabs hg)).mono ?_;rintro e' w' ⟨rfl, hb⟩;exact ⟨_, rfl, hb, fun β H => vrep_two (.int _ _ (i32b hr)) (.int _ _ (i64b oM oM))⟩
theorem walk198 (s : Str) : PT 198 [.str s] (.d (.bool (validS s))) := by
 refine ok198.pc ?_;simp only [go_sem, ir198, simprocAttr];refine wc (call173 s) trivial
end Go.Proofs
namespace Go.Proofs
open Go Av
def ruleE (v : Val) : Int :=
 if v.kind = 1 then btw v.int 0 1 else if v.kind = 2 then btw v.int (-999999999999999) 999999999999999
 else if v.kind = 3 then fstE [btw v.int (-999999999999999) 999999999999999, btw v.scale 0 12] else if v.kind = 4 then textE v else if v.kind = 5 then szE v.text.length 1024 5
 else if v.kind = 6 then btw v.int (-719162) 2932896 else if v.kind = 7 then btw v.int (-62135596800000) 253402300799999 else if v.kind = 8 then szE v.list.length 256 9
 else if v.kind = 9 then recV v else varE v
def chkE (n level : Int) (v : Val) : Int :=
 if decide (n > 4096) then 9 else if decide (level > 8) then 23 else if nullV v then 19 else if decide (v.kind < 1) || decide (v.kind > 10) then 11 else if !usesV v then 3 else ruleE v
def rulesD : List Dat := [.nilFn, .fn (.func 166) [] [], .fn (.func 168) [] [], .fn (.func 169) [] [], .fn (.func 171) [] [], .fn (.func 174) [] [], .fn (.func 175) [] [], .fn (.func 176) [] [], .fn (.func 177) [] [], .fn (.func 178) [] [], .fn (.func 179) [] []]
theorem walk86 : PT 86 [] (.d (.agg rulesD)) := by
 refine ok86.pc ?_;simp only [go_sem, ir86, simprocAttr];rfl
theorem walk87 (v : Val) : PT 87 [encV v] (.d (.fn (.func 180) [] [.ptr (encV v).cells])) := by
 refine ok87.pc ?_;rw [encV_eq];simp only [go_sem, ir87, simprocAttr];simp only [go_sem, decide_eq_true_eq, reduceCtorEq, ↓reduceIte]
noncomputable def lpL (tm : List (Nat × Av)) (s : LoopState) (j : Option Code) : Lp := ⟨tm, 46, #[11, 12], subC (codeOf Tryz.f30) [1, 1, 1, 0, 1, 0, 0], subC (codeOf Tryz.f30) [1, 1, 1, 0, 1, 0, 1], s, j⟩
def tmL (c : Dat) : List (Nat × Av) := [(2, .ref 1002 0), (3, .ref 1003 0), (4, .ref 1004 0), (10, .d c)]
noncomputable abbrev TL (c : Dat) (e n : Int) : List (Nat × Av.Obj) := [(1000, .lp (lpL (tmL c) .ready none)), (1002, .box [.d (.int .i64 e)]), (1003, .box (rulesD.map .d)), (1004, .box [.d (.int .i64 n)])]
noncomputable def afterL (c : Dat) (x : Int) : Av.Obj := if x = 0 then .lp (lpL (tmL c) .ready none) else .lp (lpL (tmL c) .done (some .ret))
theorem round30 (c : Dat) (e n level : Int) (v : Val) (hn : 0 ≤ n ∧ n ≤ 4096) :
  RCon Tryz.prog 1000 [.d (.int .i64 level), .d (encV v)] (TL c e n) (.d (.bool (chkE (n + 1) level v == 0)))
   [(1000, afterL c (chkE (n + 1) level v)), (1002, .box [.d (.int .i64 (if chkE (n + 1) level v = 0 then e else chkE (n + 1) level v))]), (1004, .box [.d (.int .i64 (n + 1))])] := by
 refine RCon.of_code (asg := asg30) (body := body30) rfl rfl kR kR rfl (show ∀ p ∈ [11, 12], p < 46 by decide) ?_ ?_
 ·refine closed_puts ?_;unfold afterL;split <;> simp [TL, puts, put, closedH, objIn, idsInL, idsIn, idsInT, tmL, lpL, rulesD, Av.get]
 ·rw [encV_eq];generalize hx : chkE (n + 1) level v = x;generalize hD : (fun i => (get (TL c e n) i).isSome = true) = D;generalize hK : RoundEnds 1000 (TL c e n) D (.d (.bool (x == 0))) _ = K;have hw : IntKind.i64.wrap (n + 1) = n + 1 := wrap64 oM oM;have leaf : x ≠ 0 → ∀ cs, K .ret ⟨[], [(1000, .lp (lpL (tmL c) .busy none)), (1002, .box [.d (.int .i64 x)]), (1003, .box (rulesD.map .d)), (1004, .box [.d (.int .i64 (n + 1))]), (6, .box cs)]⟩ := by
   intro h0 cs;have hb : (x == 0) = false := by simp [h0]
   rw [← hK, ← hD, hb];refine ⟨_, _, rfl, rfl, ⟨[], [(1000, .lp (lpL (tmL c) .done (some .ret))), (1002, .box [.d (.int .i64 x)]), (1003, .box (rulesD.map .d)), (1004, .box [.d (.int .i64 (n + 1))])]⟩, Wk.less ?_, ?_⟩
   ·simp [put, tmL, lpL, rulesD, go_sem]
   ·intro i o h;rw [← h, ← get_puts];simp [puts, put, afterL, h0]
  have leaf0 : x = 0 → ∀ cs, K .normal ⟨[], [(1000, .lp (lpL (tmL c) .busy none)), (1002, .box [.d (.int .i64 e)]), (1003, .box (rulesD.map .d)), (1004, .box [.d (.int .i64 (n + 1))]), (6, .box cs)]⟩ := by
   intro h0 cs;have hb : (x == 0) = true := by simp [h0]
   rw [← hK, ← hD, hb];refine ⟨_, _, rfl, rfl, ⟨[], [(1000, .lp (lpL (tmL c) .ready none)), (1002, .box [.d (.int .i64 e)]), (1003, .box (rulesD.map .d)), (1004, .box [.d (.int .i64 (n + 1))])]⟩, Wk.less ?_, ?_⟩
   ·simp [put, tmL, lpL, rulesD, go_sem]
   ·intro i o h;rw [← h, ← get_puts];simp [puts, put, afterL, h0]
  clear hK hD;simp only [TL, lpL, tmL, asg30, body30, hw, go_sem, simprocAttr];refine ⟨_, rfl, rfl, ?_⟩;have c21 := (walk88 v).call trivial;rw [encV_eq] at c21;refine ⟨fun h1 => ?_, fun h1 => ⟨fun h2 => ?_, fun h2 => wn c21 ?_⟩⟩
  ·obtain rfl : x = 9 := by rw [← hx, chkE, if_pos h1]
   exact leaf dC _
  ·obtain rfl : x = 23 := by rw [← hx, chkE, if_neg (by simp [h1]), if_pos h2]
   exact leaf dC _
  rw [chkE, if_neg (by simp [h1]), if_neg (by simp [h2])] at hx;refine zz ?_;apply ik <;> intro h3
  ·obtain rfl : x = 19 := by rw [← hx, if_pos h3]
   exact leaf dC _
  rw [if_neg (by simp [h3])] at hx;refine sq (decide (v.kind > 10)) ?_ ?_
  ·exact zz trivial
  have c96 := (walk89 v).call trivial;rw [encV_eq] at c96;refine zz ?_;refine ⟨fun h4 => ?_, fun h4 => wn c96 ?_⟩
  ·obtain rfl : x = 11 := by rw [← hx, if_pos h4]
   exact leaf dC _
  rw [if_neg (by simp only [h4]; decide)] at hx;refine zz ?_;apply ik <;> intro h5
  ·obtain rfl : x = 3 := by rw [← hx, if_pos h5]
   exact leaf dC _
  rw [if_neg (by simp [h5])] at hx;obtain ⟨k1, k2⟩ : 1 ≤ v.kind ∧ v.kind ≤ 10 := by simp at h4; omega
  have hk : v.kind = 1 ∨ v.kind = 2 ∨ v.kind = 3 ∨ v.kind = 4 ∨ v.kind = 5 ∨ v.kind = 6 ∨ v.kind = 7 ∨ v.kind = 8 ∨ v.kind = 9 ∨ v.kind = 10 := oM;rcases hk with hk | hk | hk | hk | hk | hk | hk | hk | hk | hk
  ·have cr := (walk166 v).call trivial;have hr : ruleE v = btw v.int 0 1 := by simp [ruleE, hk]
   rw [encV_eq, hk, ← hr, hx] at cr;refine zz24 ?_;refine ⟨⟨dC, dC⟩, wn cr ?_⟩;refine zz ?_;exact ⟨fun h6 => leaf (sX h6) _, fun h6 => leaf0 (sX h6) _⟩
  ·have cr := (walk168 v).call trivial;have hr : ruleE v = btw v.int (-999999999999999) 999999999999999 := by simp [ruleE, hk]
   rw [encV_eq, hk, ← hr, hx] at cr;refine zz24 ?_;refine ⟨⟨dC, dC⟩, wn cr ?_⟩;refine zz ?_;exact ⟨fun h6 => leaf (sX h6) _, fun h6 => leaf0 (sX h6) _⟩
  ·have cr := (walk169 v).call trivial;have hr : ruleE v = fstE [btw v.int (-999999999999999) 999999999999999, btw v.scale 0 12] := by simp [ruleE, hk]
   rw [encV_eq, hk, ← hr, hx] at cr;refine zz24 ?_;refine ⟨⟨dC, dC⟩, wn cr ?_⟩;refine zz ?_;exact ⟨fun h6 => leaf (sX h6) _, fun h6 => leaf0 (sX h6) _⟩
  ·have cr := (walk171 v).call trivial;have hr : ruleE v = textE v := by simp [ruleE, hk]
   rw [encV_eq, hk, ← hr, hx] at cr;refine zz24 ?_;refine ⟨⟨dC, dC⟩, wn cr ?_⟩;refine zz ?_;exact ⟨fun h6 => leaf (sX h6) _, fun h6 => leaf0 (sX h6) _⟩
  ·have cr := (walk174 v).call trivial;have hr : ruleE v = szE v.text.length 1024 5 := by simp [ruleE, hk]
   rw [encV_eq, hk, ← hr, hx] at cr;refine zz24 ?_;refine ⟨⟨dC, dC⟩, wn cr ?_⟩;refine zz ?_;exact ⟨fun h6 => leaf (sX h6) _, fun h6 => leaf0 (sX h6) _⟩
  ·have cr := (walk175 v).call trivial;have hr : ruleE v = btw v.int (-719162) 2932896 := by simp [ruleE, hk]
   rw [encV_eq, hk, ← hr, hx] at cr;refine zz24 ?_;refine ⟨⟨dC, dC⟩, wn cr ?_⟩;refine zz ?_;exact ⟨fun h6 => leaf (sX h6) _, fun h6 => leaf0 (sX h6) _⟩
  ·have cr := (walk176 v).call trivial;have hr : ruleE v = btw v.int (-62135596800000) 253402300799999 := by simp [ruleE, hk]
   rw [encV_eq, hk, ← hr, hx] at cr;refine zz24 ?_;refine ⟨⟨dC, dC⟩, wn cr ?_⟩;refine zz ?_;exact ⟨fun h6 => leaf (sX h6) _, fun h6 => leaf0 (sX h6) _⟩
  ·have cr := (walk177 v).call trivial;have hr : ruleE v = szE v.list.length 256 9 := by simp [ruleE, hk]
   rw [encV_eq, hk, ← hr, hx] at cr;refine zz24 ?_;refine ⟨⟨dC, dC⟩, wn cr ?_⟩;refine zz ?_;exact ⟨fun h6 => leaf (sX h6) _, fun h6 => leaf0 (sX h6) _⟩
  ·have cr := (walk178 v).call trivial;have hr : ruleE v = recV v := by simp [ruleE, hk]
   rw [encV_eq, hk, ← hr, hx] at cr;refine zz24 ?_;refine ⟨⟨dC, dC⟩, wn cr ?_⟩;refine zz ?_;exact ⟨fun h6 => leaf (sX h6) _, fun h6 => leaf0 (sX h6) _⟩
  ·have cr := (walk179 v).call trivial;have hr : ruleE v = varE v := by simp [ruleE, hk]
   rw [encV_eq, hk, ← hr, hx] at cr;refine zz24 ?_;refine ⟨⟨dC, dC⟩, wn cr ?_⟩;refine zz ?_;exact ⟨fun h6 => leaf (sX h6) _, fun h6 => leaf0 (sX h6) _⟩
end Go.Proofs
namespace Go.Proofs
open Go Av
variable {n : Int}
noncomputable abbrev upsL (c : Dat) (e x n : Int) : List (Nat × Av.Obj) := [(1000, afterL c x), (1002, .box [.d (.int .i64 (if x = 0 then e else x))]), (1004, .box [.d (.int .i64 n)])]
theorem closedU (c : Dat) (e n x m : Int) : closed (hputs (get (TL c e n)) (upsL c e x m)) := by
 refine closed_puts ?_;simp only [upsL, TL];unfold afterL;split <;> simp [TL, puts, put, closedH, objIn, idsInL, idsIn, idsInT, tmL, lpL, rulesD, Av.get]
theorem closedL (c : Dat) (e n : Int) : closed (get (TL c e n)) := by
 refine closed_of ?_;simp [TL, closedH, objIn, idsInL, idsIn, idsInT, tmL, lpL, rulesD, Av.get]
theorem TL_dom {c : Dat} {e : Int} {i : Nat} (h : (get (TL c e n) i).isSome = true) : i = 1000 ∨ i = 1002 ∨ i = 1003 ∨ i = 1004 := by
 simp only [TL, Av.get] at h;split at h
 ·rename_i e; exact .inl e.symm
 ·split at h
  ·rename_i e; exact .inr (.inl e.symm)
  ·split at h
   ·rename_i e; exact .inr (.inr (.inl e.symm))
   ·split at h
    ·rename_i e; exact .inr (.inr (.inr e.symm))
    ·cases h
theorem ren_id_dat (ds : List Dat) : renL (fun i : Nat => i) (ds.map .d) = ds.map .d := by
 induction ds with
 | nil => rfl
 | cons d r ih => simp only [List.map_cons, renL, Av.ren, ih]
theorem yield30 (c : Dat) (e n level : Int) (v : Val) (hn : 0 ≤ n ∧ n ≤ 4096) :
  CT .yld [.mp 1000, .d (.int .i64 level), .d (encV v)] ((TL c e n).map fun x => (x.1, some x.2)) (.d (.bool (chkE (n + 1) level v == 0))) (upsL c e (chkE (n + 1) level v) (n + 1)) := by
 have := (round30 c e n level v hn).call (fun i => i) ⟨_, rfl⟩ (fun i j _ _ h => h) (by simp [idsIn]) (closedL c e n) [] (by simp [Av.get]) (closedU c e n _ _) trivial;have ha : ∀ x, (afterL c x).ren (fun i => i) = afterL c x := by
  intro x;unfold afterL;split <;> simp [Obj.ren, renT, tmL, lpL, Av.ren]
 simp only [ha, upsL, List.map_cons, List.map_nil] at this;simp only [TL, upsL, List.map_cons, List.map_nil, Obj.ren, Av.ren, renL, ren_id_dat, lpL, tmL, renT, List.append_nil] at this ⊢;exact this
def foldV (f : Int → Val → Int × Int) : Int → List Val → Int × Int
 | n, [] => (0, n)
 | n, v :: r => if (f n v).1 ≠ 0 then f n v else foldV f (f n v).2 r
def visF : Nat → Int → Val → Int × Int
 | 0, n, v => (chkE (n + 1) 9 v, n + 1)
 | k + 1, n, v => if chkE (n + 1) (8 - k) v ≠ 0 then (chkE (n + 1) (8 - k) v, n + 1) else foldV (visF k) (n + 1) (partsV v)
theorem chk9 (n : Int) (v : Val) : chkE n 9 v ≠ 0 := by
 unfold chkE;split
 ·decide
 ·rw [if_pos dC]; decide
theorem chk_n {level : Int} {v : Val} (h : chkE n level v = 0) : n ≤ 4096 := by
 unfold chkE at h;split at h
 ·cases h
 ·rename_i hx; simpa using hx
theorem foldV_n {f : Int → Val → Int × Int} (hf : ∀ n v, 0 ≤ n → n ≤ 4096 → (f n v).1 = 0 → 0 ≤ (f n v).2 ∧ (f n v).2 ≤ 4096) : ∀ (l : List Val) (n : Int), 0 ≤ n → n ≤ 4096 → (foldV f n l).1 = 0 → 0 ≤ (foldV f n l).2 ∧ (foldV f n l).2 ≤ 4096
 | [], n, h0, h1, h => ⟨h0, h1⟩
 | v :: r, n, h0, h1, h => by
  simp only [foldV] at h ⊢;split at h
  ·rename_i hx; exact absurd h hx
  ·rename_i hx;rw [if_neg hx];simp only [ne_eq, Decidable.not_not] at hx;obtain ⟨q0, q1⟩ := hf n v h0 h1 hx;exact foldV_n hf r _ q0 q1 h
theorem visF_n : ∀ (k : Nat) (n : Int) (v : Val), 0 ≤ n → n ≤ 4096 → (visF k n v).1 = 0 → 0 ≤ (visF k n v).2 ∧ (visF k n v).2 ≤ 4096
 | 0, n, v, h0, h1, h => absurd h (chk9 _ _)
 | k + 1, n, v, h0, h1, h => by
  simp only [visF] at h ⊢;split at h
  ·rename_i hx; exact absurd h hx
  ·rename_i hx;rw [if_neg hx];simp only [ne_eq, Decidable.not_not] at hx;exact foldV_n (visF_n k) _ _ oM (chk_n hx) h
theorem stop177 (c : Dat) (e n level : Int) (v : Val) (h0 : 0 ≤ n) (h1 : n ≤ 4096) (hx : chkE (n + 1) level v ≠ 0) :
  KT 181 [.d (encV v), .d (.int .i64 level), .mp 1000] (TL c e n) (.d (.bool false)) (upsL c e (chkE (n + 1) level v) (n + 1)) := by
 refine ok181.co (k := false) (closedU c e n _ _) trivial ?_;have hy := yield30 c e n level v ⟨h0, h1⟩;have hb : (chkE (n + 1) level v == 0) = false := by simp [hx]
 rw [encV_eq] at hy ⊢;rw [hb] at hy;simp only [TL, go_sem, ir181, simprocAttr];refine wps_call rfl hy ⟨rfl, rfl, rfl, rfl, trivial⟩ ?_;refine zz ?_;exact ⟨fun _ => trivial, fun h => by cases h⟩
theorem call181 {c : Dat} {level e x m : Int} {v : Val} (h : KT 181 [.d (encV v), .d (.int .i64 level), .mp 1000] (TL c e n) (.d (.bool (x == 0))) (upsL c e x m)) :
  CT 181 [.d (encV v), .d (.int .i64 level), .mp 1000] ((TL c e n).map fun x => (x.1, some x.2)) (.d (.bool (x == 0))) (upsL c e x m) := by
 have := h.call (fun i => i) (fun i hi => by rcases TL_dom hi with rfl | rfl | rfl | rfl <;> decide) (fun i j _ _ h => h) (by simp [idsIn, Av.get]) (closedL c e n) [] (by simp [Av.get]) (closedU c e n _ _) trivial;have ha : ∀ x, (afterL c x).ren (fun i => i) = afterL c x := by
  intro x;unfold afterL;split <;> simp [Obj.ren, renT, tmL, lpL, Av.ren]
 simp only [ha, upsL, List.map_cons, List.map_nil] at this;simp only [TL, upsL, List.map_cons, List.map_nil, Obj.ren, Av.ren, renL, ren_id_dat, lpL, tmL, renT, List.append_nil] at this ⊢;exact this
theorem walk181 (c : Dat) : ∀ (k : Nat) (e n : Int) (v : Val), k ≤ 8 → 0 ≤ n → n ≤ 4096 →
  KT 181 [.d (encV v), .d (.int .i64 (9 - k)), .mp 1000] (TL c e n) (.d (.bool ((visF k n v).1 == 0))) (upsL c e (visF k n v).1 (visF k n v).2) := by
 intro k
 induction k with
 | zero =>
  intro e n v hk h0 h1;have hb : (chkE (n + 1) 9 v == 0) = false := by simp [chk9]
  simp only [visF, hb];exact stop177 c e n 9 v h0 h1 (chk9 _ _)
 | succ k ih =>
  intro e n v hk h0 h1;have hl : 9 - ((k + 1 : Nat) : Int) = 8 - k := oM;rw [hl];by_cases hx : chkE (n + 1) (8 - k) v = 0
  ·refine Con.of_fits ok181.has fun hfit => ?_
   obtain ⟨_, f2, f3, _⟩ := fits_V (hfit (encV v) sP);have hv : visF (k + 1) n v = foldV (visF k) (n + 1) (partsV v) := by rw [visF, if_neg (by simp [hx])]
   rw [hv];generalize hF : foldV (visF k) (n + 1) (partsV v) = F;refine ok181.co (k := false) (closedU c e n _ _) trivial ?_;have hy := yield30 c e n (8 - k) v ⟨h0, h1⟩;have h217 := (walk241 v f3).call trivial;have hpl := partsV_len v f2 f3;rw [hx] at hy;have hm := chk_n hx;rw [encV_eq] at hy h217 ⊢;simp only [TL, go_sem, ir181, simprocAttr];refine wps_call rfl hy ⟨rfl, rfl, rfl, rfl, trivial⟩ ?_;simp only [go_sem, afterL, beq_self_eq_true, Bool.not_true, simprocAttr];refine wc h217 ?_;clear h217 hy hv hfit;generalize hP : partsV v = ps at *;simp only [List.length_map];refine wpc_loop (fun r s => ∃ (j : Nat) (m : Int), j ≤ ps.length ∧ r = ps.length - j ∧ 0 ≤ m ∧ m ≤ 4096 ∧ foldV (visF k) m (ps.drop j) = F ∧
    s = ⟨[(1, .d (.int .i64 (8 - k))), (2, .mp 1000), (15, .d (.list 6 (ps.map encV))), (16, .d (.int .i64 ps.length)), (17, .d (.int .i64 j))],
     [(1000, .lp (lpL (tmL c) .ready none)), (1002, .box [.d (.int .i64 e)]), (1003, .box (rulesD.map .d)), (1004, .box [.d (.int .i64 m)])]⟩) ?_ ?_
   ·refine ⟨_, _, Wk.less ?_, 0, n + 1, Nat.zero_le _, rfl, oM, hm, hF, rfl⟩;simp [go_sem, lpL, tmL, rulesD]
   ·rintro r s ⟨j, m, hj, rfl, hm0, hm1, hinv, rfl⟩;by_cases hlt : j < ps.length
    ·have hx' := nth_encV hlt;have hd := dT hlt;have hw : IntKind.i64.wrap (8 - (k : Int) + 1) = 9 - k := by rw [wrap64 oM oM]; omega
     have hc := call181 (ih e m ps[j] oM hm0 hm1);have hn := visF_n k m ps[j] hm0 hm1;rw [List.drop_eq_getElem_cons hlt, foldV] at hinv;generalize hV : visF k m ps[j] = V at *;rw [encV_eq] at hc;simp only [go_sem, hx', hd, hw, Int.toNat_natCast, List.length_map, simprocAttr];refine ⟨oM, wps_call rfl hc ⟨rfl, rfl, rfl, rfl, trivial⟩ ?_⟩;by_cases h0 : V.1 = 0
     ·rw [if_neg (by simp [h0])] at hinv;simp only [go_sem, h0, afterL, beq_self_eq_true, Bool.not_true, simprocAttr];refine ⟨ps.length - (j + 1), _, oM, Wk.less ?_, j + 1, V.2, oM, rfl, (hn h0).1, (hn h0).2, hinv, rfl⟩;simp [go_sem, wrap64s j oM, lpL, tmL, rulesD]
     ·rw [if_pos h0] at hinv;have hb : (V.1 == 0) = false := by simp [h0]
      subst hinv;simp only [go_sem, hb, Bool.not_false, simprocAttr]
    ·have hd := dF hlt;obtain rfl : j = ps.length := oM;rw [List.drop_length, foldV] at hinv;subst hinv;simp only [go_sem, hd, afterL, beq_self_eq_true, Bool.not_true, simprocAttr]
  ·have hb : (chkE (n + 1) (8 - k) v == 0) = false := by simp [hx]
   have hv : visF (k + 1) n v = (chkE (n + 1) (8 - k) v, n + 1) := by rw [visF, if_pos hx]
   rw [hv];simp only [hb];exact stop177 c e n _ v h0 h1 hx
def chkV (v : Val) : Int := (visF 8 0 v).1
theorem walk180 (v : Val) (c : Dat) (e : Int) :
  KT 180 [.mp 1000, .d (.ptr (encV v).cells)] (TL c e 0) (.tup []) (upsL c e (visF 8 0 v).1 (visF 8 0 v).2) := by
 refine ok180.co (k := false) (closedU c e 0 _ _) trivial ?_;have hc := call181 (walk181 c 8 e 0 v dC dC dC);rw [encV_eq] at hc ⊢;simp only [TL, go_sem, ir180, simprocAttr];have e1 : (9 : Int) - ((8 : Nat) : Int) = 1 := rfl;rw [e1] at hc;refine wps_call rfl hc ⟨rfl, rfl, rfl, rfl, trivial⟩ ?_;exact zz trivial
noncomputable def lp30 (c : Dat) (s : LoopState) (j : Option Code) : Av.Obj := .lp ⟨[(2, .ref 2 0), (3, .ref 3 0), (4, .ref 4 0), (10, .d c)], 46, #[11, 12], subC (codeOf Tryz.f30) [1, 1, 1, 0, 1, 0, 0], subC (codeOf Tryz.f30) [1, 1, 1, 0, 1, 0, 1], s, j⟩
theorem call180 (v : Val) (c : Dat) (e : Int) :
  CT 180 [.mp 57, .d (.ptr (encV v).cells)] [(57, some (lp30 c .ready none)), (2, some (.box [.d (.int .i64 e)])), (3, some (.box (rulesD.map .d))), (4, some (.box [.d (.int .i64 0)]))] (.tup [])
   [(57, if (visF 8 0 v).1 = 0 then lp30 c .ready none else lp30 c .done (some .ret)), (2, .box [.d (.int .i64 (if (visF 8 0 v).1 = 0 then e else (visF 8 0 v).1))]), (4, .box [.d (.int .i64 (visF 8 0 v).2)])] := by
 have hd : ∀ i x m, (hputs (get (TL c e 0)) (upsL c e x m) i).isSome = true → i = 1000 ∨ i = 1002 ∨ i = 1003 ∨ i = 1004 := by
  intro i x m h;rw [← get_puts] at h;have : (get (TL c e 0) i).isSome = true := by
   simp only [TL, upsL, puts, put, simprocAttr] at h;simp only [Av.get] at h ⊢;split at h
   ·simp [*]
   ·split at h
    ·simp [*]
    ·split at h
     ·simp [*]
     ·split at h
      ·simp [*]
      ·cases h
  exact TL_dom this
 have := (walk180 v c e).call (fun i => if i = 1000 then 57 else i - 1000) (fun i hi => by rcases TL_dom hi with rfl | rfl | rfl | rfl <;> decide)
  (fun i j hi hj h => by rcases hd i _ _ hi with rfl | rfl | rfl | rfl <;> rcases hd j _ _ hj with rfl | rfl | rfl | rfl <;> first | rfl | simp at h) (by simp [idsIn, Av.get]) (closedL c e 0) [] (by simp [Av.get]) (closedU c e 0 _ _) trivial
 have ha : ∀ x, (afterL c x).ren (fun i => if i = 1000 then 57 else i - 1000) = if x = 0 then lp30 c .ready none else lp30 c .done (some .ret) := by
  intro x;unfold afterL;split <;> simp [Obj.ren, renT, tmL, lpL, lp30, Av.ren]
 have hr : (Obj.box (rulesD.map .d)).ren (fun i => if i = 1000 then 57 else i - 1000) = .box (rulesD.map .d) := rfl;simp only [ha, hr, TL, upsL, List.map_cons, List.map_nil] at this;simp only [List.map_cons, List.map_nil, Obj.ren, Av.ren, renL, lpL, tmL, renT, List.append_nil, Nat.reduceSub, simprocAttr] at this;exact this
theorem wpc_rng {P : Program} {D : Nat → Prop} {f : Opd} {N lid : Nat} {ps : Array Nat} {c1 c2 : Code} {asg body : Ic} {Q : Exit → St → Prop} {st : St} {g : Nat} {vs : List Av} {T : List (Nat × Option Av.Obj)} {v : Av}
  {ups : List (Nat × Av.Obj)} {l : Lp} (hno : get st.hp lid = none) (ht : targetV (get st.tm) (.dyn f) [.mp lid] = some (.fn g, vs)) (hh : Has P g) (hc : CallOK P g vs T v ups)
  (hT : tgets (Av.upd (get st.hp) lid (some (.lp ⟨st.tm, N, ps, c1, c2, .ready, none⟩))) T) (hl : hputs (Av.upd (get st.hp) lid (some (.lp ⟨st.tm, N, ps, c1, c2, .ready, none⟩))) ups lid = some (.lp l)) (hb : l.s ≠ .busy)
  (hj : (l.j = none ∧ Q .normal ⟨st.tm, put (puts st.hp ups) lid .gone⟩) ∨ (l.j = some .ret ∧ Q .ret ⟨st.tm, put (puts st.hp ups) lid .gone⟩)) : wpc P D (.rng f N lid ps c1 c2 asg body) Q st := by
 simp only [wpc];refine ⟨hno, fun _ _ => ?_⟩;rw [ht];refine ⟨T, v, ups, hh, hc, hT, put (puts st.hp ups) lid .gone, l, fun i hi => by rw [get_put, if_neg hi, get_puts], by rw [get_put, if_pos rfl], hl, hb, ?_⟩;rcases hj with ⟨h, q⟩ | ⟨h, q⟩ <;> rw [h] <;> exact q
theorem walk30 (v : Val) : PT 30 [encV v] (.d (.int .i64 (chkV v))) := by
 refine ok30.pc ?_;have h91 := (walk87 v).call trivial;have h90 := walk86.call trivial;have h176 := call180 v (.fn (.func 180) [] [.ptr (encV v).cells]) 0;rw [encV_eq] at h91 h176 ⊢;simp only [go_sem, ir30, simprocAttr];refine wn h90 ?_;simp only [rulesD, go_sem, simprocAttr];refine wc h91 ?_;by_cases hx : (visF 8 0 v).1 = 0
 ·simp only [hx, ↓reduceIte] at h176;refine wpc_rng rfl rfl ok180.has h176 ⟨rfl, rfl, rfl, rfl, trivial⟩ rfl sP (.inl ⟨rfl, ?_⟩);simp only [go_sem, chkV, hx, simprocAttr]
 ·simp only [hx, ↓reduceIte] at h176;refine wpc_rng rfl rfl ok180.has h176 ⟨rfl, rfl, rfl, rfl, trivial⟩ rfl sP (.inr ⟨rfl, ?_⟩);simp only [go_sem, chkV, simprocAttr]
end Go.Proofs
namespace Go.Proofs
open Go Av
def arityF (k : Int) : Int × Int := if k = 1 ∨ k = 2 ∨ k = 22 ∨ k = 26 then (0, 0) else if k = 3 ∨ k = 16 ∨ k = 18 ∨ k = 19 ∨ k = 20 ∨ k = 27 ∨ k = 28 then (1, 1) else if k = 21 ∨ k = 24 then (3, 3) else if k = 25 then (2, 256) else (2, 2)
theorem walk242 (k : Int) : PT 242 [.int .i64 k] (.tup [.d (.int .i64 (arityF k).1), .d (.int .i64 (arityF k).2)]) := by
 refine ok242.pc ?_;by_cases h1 : k = 1
 ·subst h1;have e : arityF 1 = (0, 0) := dC;rw [e];simp only [go_sem, ir242, Int.reduceBEq, Int.reduceEq, simprocAttr]
 have b1 : (k == 1) = false := by simp [h1]
 by_cases h2 : k = 2
 ·subst h2;have e : arityF 2 = (0, 0) := dC;rw [e];simp only [go_sem, ir242, Int.reduceBEq, Int.reduceEq, simprocAttr]
 have b2 : (k == 2) = false := by simp [h2]
 by_cases h22 : k = 22
 ·subst h22;have e : arityF 22 = (0, 0) := dC;rw [e];simp only [go_sem, ir242, Int.reduceBEq, Int.reduceEq, simprocAttr]
 have b22 : (k == 22) = false := by simp [h22]
 by_cases h26 : k = 26
 ·subst h26;have e : arityF 26 = (0, 0) := dC;rw [e];simp only [go_sem, ir242, Int.reduceBEq, Int.reduceEq, simprocAttr]
 have b26 : (k == 26) = false := by simp [h26]
 by_cases h3 : k = 3
 ·subst h3;have e : arityF 3 = (1, 1) := dC;rw [e];simp only [go_sem, ir242, Int.reduceBEq, Int.reduceEq, simprocAttr]
 have b3 : (k == 3) = false := by simp [h3]
 by_cases h16 : k = 16
 ·subst h16;have e : arityF 16 = (1, 1) := dC;rw [e];simp only [go_sem, ir242, Int.reduceBEq, Int.reduceEq, simprocAttr]
 have b16 : (k == 16) = false := by simp [h16]
 by_cases h18 : k = 18
 ·subst h18;have e : arityF 18 = (1, 1) := dC;rw [e];simp only [go_sem, ir242, Int.reduceBEq, Int.reduceEq, simprocAttr]
 have b18 : (k == 18) = false := by simp [h18]
 by_cases h19 : k = 19
 ·subst h19;have e : arityF 19 = (1, 1) := dC;rw [e];simp only [go_sem, ir242, Int.reduceBEq, Int.reduceEq, simprocAttr]
 have b19 : (k == 19) = false := by simp [h19]
 by_cases h20 : k = 20
 ·subst h20;have e : arityF 20 = (1, 1) := dC;rw [e];simp only [go_sem, ir242, Int.reduceBEq, Int.reduceEq, simprocAttr]
 have b20 : (k == 20) = false := by simp [h20]
 by_cases h27 : k = 27
 ·subst h27;have e : arityF 27 = (1, 1) := dC;rw [e];simp only [go_sem, ir242, Int.reduceBEq, Int.reduceEq, simprocAttr]
 have b27 : (k == 27) = false := by simp [h27]
 by_cases h28 : k = 28
 ·subst h28;have e : arityF 28 = (1, 1) := dC;rw [e];simp only [go_sem, ir242, Int.reduceBEq, Int.reduceEq, simprocAttr]
 have b28 : (k == 28) = false := by simp [h28]
 by_cases h21 : k = 21
 ·subst h21;have e : arityF 21 = (3, 3) := dC;rw [e];simp only [go_sem, ir242, Int.reduceBEq, Int.reduceEq, simprocAttr]
 have b21 : (k == 21) = false := by simp [h21]
 by_cases h24 : k = 24
 ·subst h24;have e : arityF 24 = (3, 3) := dC;rw [e];simp only [go_sem, ir242, Int.reduceBEq, Int.reduceEq, simprocAttr]
 have b24 : (k == 24) = false := by simp [h24]
 by_cases h25 : k = 25
 ·subst h25;have e : arityF 25 = (2, 256) := dC;rw [e];simp only [go_sem, ir242, Int.reduceBEq, Int.reduceEq, simprocAttr]
 have b25 : (k == 25) = false := by simp [h25]
 have e : arityF k = (2, 2) := by simp [arityF, h1, h2, h22, h26, h3, h16, h18, h19, h20, h27, h28, h21, h24, h25]
 rw [e];simp only [go_sem, ir242, b1, b2, b22, b26, b3, b16, b18, b19, b20, b27, b28, b21, b24, b25, simprocAttr]
def pathedB (k : Int) : Bool := (k == 2) || (k == 22) || (k == 26)
theorem walk92 (k : Int) : PT 92 [.int .i64 k] (.d (.bool (pathedB k))) := by
 refine ok92.pc ?_;simp only [go_sem, ir92, simprocAttr];refine sq (k == 22) ?_ ?_
 ·exact zz trivial
 refine zz ?_;refine sq (k == 26) ?_ ?_
 ·exact zz trivial
 simp only [go_sem, pathedB, simprocAttr]
def scaledB (k : Int) : Bool := (k == 15) || (k == 26)
theorem walk243 (k : Int) : PT 243 [.int .i64 k] (.d (.bool (scaledB k))) := by
 refine ok243.pc ?_;simp only [go_sem, ir243, simprocAttr];refine sq (k == 26) ?_ ?_
 ·exact zz trivial
 simp only [go_sem, scaledB, simprocAttr]
def scalarB (k : Int) : Bool := decide (k ≥ 1) && decide (k ≤ 7)
theorem walk320 (k : Int) : PT 320 [.int .i64 k] (.d (.bool (scalarB k))) := by
 refine ok320.pc ?_;simp only [go_sem, ir320, simprocAttr];refine sq (decide (k ≤ 7)) ?_ ?_
 ·exact zz trivial
 simp only [go_sem, scalarB, simprocAttr]
def cvE : List Val → Int
 | [] => 4
 | [v] => if chkV v != 0 then chkV v else if !scalarB v.kind then 18 else 0
 | _ => 3
theorem walk244 (l : List Val) : PT 244 [.list 6 (l.map encV)] (.d (.int .i64 (cvE l))) := by
 refine ok244.pc ?_
 match l with
 | [] =>
  have e0 : (((0 : Nat) : Int) == 0) = true := rfl;simp only [go_sem, ir244, List.map_nil, List.length_nil, e0, Nat.reduceAdd, Nat.reduceEqDiff, Nat.reduceBEq, Nat.reduceLeDiff, reduceCtorEq, ↓reduceIte];rfl
 | [v] =>
  have e0 : (((1 : Nat) : Int) == 0) = false := rfl;have e1 : (((1 : Nat) : Int) == 1) = true := rfl;have hx := nth_encV (xs := [v]) (k := 0) sP;have c22 := (walk30 v).call trivial;have c230 := (walk320 v.kind).call trivial;rw [encV_eq] at c22;simp only [List.map_cons, List.map_nil, List.getElem_cons_zero] at hx;simp only [go_sem, ir244, List.map_cons, List.map_nil, List.length_cons, List.length_nil, Int.toNat_zero, hx, Nat.zero_add, e0, e1, Nat.reduceAdd, Nat.reduceEqDiff, Nat.reduceBEq, Nat.reduceLeDiff, reduceCtorEq, ↓reduceIte];refine ⟨dC, wn c22 ?_⟩;simp only [go_sem, Int.toNat_zero, hx, Nat.reduceAdd, Nat.reduceEqDiff, Nat.reduceBEq, Nat.reduceLeDiff, reduceCtorEq, ↓reduceIte];refine ⟨fun h => ?_, fun h => ⟨dC, dC, ?_⟩⟩
  ·rw [cvE, if_pos h]
  rw [cvE, if_neg (by simp [h])];refine wc c230 ?_;apply ik <;> intro h2
  ·rw [if_pos h2]
  ·rw [if_neg (by simp [h2])]
 | v :: w :: r =>
  have e0 : ((((r.map encV).length + 1 + 1 : Nat) : Int) == 0) = false := sO;have e1 : ((((r.map encV).length + 1 + 1 : Nat) : Int) == 1) = false := sO;simp only [go_sem, ir244, List.map_cons, List.length_cons, e0, e1, Nat.reduceAdd, Nat.reduceEqDiff, Nat.reduceBEq, Nat.reduceLeDiff, reduceCtorEq, ↓reduceIte];rfl
theorem walk245 (p : Part) : PT 245 [encP p] (.d (.bool (p.kind == 3))) := by
 refine ok245.pc ?_;simp only [encP];simp only [go_sem, ir245, simprocAttr]
def idxQ (q : Part → Bool) (l : List Part) : Int := match l.findIdx? q with
 | some k => (k : Int)
 | none => -1
theorem walk236g {f : Nat} {q : Part → Bool} (hq : ∀ p, PT f [encP p] (.d (.bool (q p)))) (l : List Part) (hl : l.length ≤ 68719476736) : PT 236 [.list 3 (l.map encP), .fn (.func f) [] []] (.d (.int .i64 (idxQ q l))) := by
 refine ok236.pc ?_;simp only [go_sem, ir236, List.length_map, simprocAttr];refine wpc_loop (fun n s => ∃ k : Nat, k ≤ l.length ∧ n = l.length - k ∧ (∀ (j : Nat) (h1 : j < l.length), j < k → q l[j] = false) ∧
  s = ⟨[(0, .d (.list 3 (l.map encP))), (1, .d (.fn (.func f) [] [])), (7, .d (.int .i64 l.length)), (8, .d (.int .i64 k))], []⟩) ?_ ?_
 ·exact ⟨_, _, Wk.refl _, 0, Nat.zero_le _, rfl, sP, rfl⟩
 ·rintro n s ⟨k, hk, rfl, hinv, rfl⟩;by_cases hlt : k < l.length
  ·have hx := nth_encP hlt;have hd := dT hlt;have hc := (hq l[k]).call trivial;simp only [encP] at hc;refine zz8 ?_;refine ⟨oM, wn hc ?_⟩;refine zz ?_;apply ik <;> intro hf
   ·have : l.findIdx? q = some k := by
     rw [List.findIdx?_eq_some_iff_getElem];exact ⟨hlt, hf, fun j hj => by rw [hinv j oM hj]; decide⟩
    simp only [idxQ, this]
   ·refine ⟨l.length - (k + 1), _, oM, Wk.less ?_, k + 1, oM, rfl, ?_, rfl⟩
    ·exact zz10 trivial
    ·intro j h1 hj;by_cases e : j = k
     ·subst e; exact hf
     ·exact hinv j h1 oM
  ·have hd := dF hlt;refine zz15 ?_;have : l.findIdx? q = none := by
    rw [List.findIdx?_eq_none_iff];intro x hx;obtain ⟨j, hj, rfl⟩ := List.getElem_of_mem hx;exact hinv j hj oM
   simp only [idxQ, this]
theorem walk157g {f : Nat} {q : Part → Bool} (hq : ∀ p, PT f [encP p] (.d (.bool (q p)))) (l : List Part) (hl : l.length ≤ 68719476736) : PT 157 [.list 3 (l.map encP), .fn (.func f) [] []] (.d (.bool (l.any q))) := by
 refine ok157.pc ?_;simp only [go_sem, ir157, simprocAttr];refine wn ((walk236g hq l hl).call trivial) ?_;have : decide (idxQ q l ≥ 0) = l.any q := by
  unfold idxQ;cases e : l.findIdx? q with
  | none =>
   rw [List.findIdx?_eq_none_iff] at e;have : l.any q = false := by rw [List.any_eq_false]; intro x hx; rw [e x hx]; decide
   rw [this]; simp
  | some k =>
   obtain ⟨h1, h2, _⟩ := List.findIdx?_eq_some_iff_getElem.1 e;have : l.any q = true := by rw [List.any_eq_true]; exact ⟨_, List.getElem_mem h1, h2⟩
   rw [this]; simp
 exact zz56 trivial
noncomputable def oneE (e : Exp) : Int :=
 if decide (e.op < 1) || decide (e.op > 28) then 11
 else if ((e.op != 1 && decide ((e.value.length : Int) > 0)) || (!pathedB e.op && e.text != [])) || (!scaledB e.op && e.int != 0) then 3
 else if (arityF e.op).2 == 0 && decide ((e.args.length : Int) > 0) then 3
 else if decide ((e.args.length : Int) < (arityF e.op).1) then 4
 else if decide ((e.args.length : Int) > (arityF e.op).2) && e.op != 25 then 3
 else if e.op == 1 then cvE e.value
 else if pathedB e.op && (parseS e.text).2 != 0 then (parseS e.text).2
 else if pathedB e.op && !(((parseS e.text).1.any fun p => p.kind == 3) == (e.op == 26)) then 22
 else if scaledB e.op && (decide (e.int < 0) || decide (e.int > 12)) then 2 else 0
theorem fits_E {e : Exp} (h : fits (encE e)) : e.text.length ≤ 68719476736 ∧ e.value.length ≤ 68719476736 ∧ e.args.length ≤ 68719476736 ∧ ∀ x ∈ e.args, fits (encE x) := by
 rw [encE_eq] at h;simp only [fits, fitsL, List.length_map, and_true] at h;obtain ⟨_, _, h1, ⟨h2, h3⟩, h4, h5⟩ := h;exact ⟨h1, h2, h4, fun x hx => fitsL_iff.1 h5 _ (List.mem_map.2 ⟨x, hx, rfl⟩)⟩
theorem parseS_len16 (s : Str) : (parseS s).1.length ≤ 68719476736 := by
 unfold parseS;split
 ·simp
 split
 ·simp
 split
 ·split
  ·simp
  ·rename_i h; simp at h ⊢; omega
 ·simp
theorem walk183 (e : Exp) : PT 183 [encE e] (.d (.int .i64 (oneE e))) := by
 refine PCon.of_fits ok183.has fun hfit => ?_
 obtain ⟨ft, fv, fa, _⟩ := fits_E (hfit _ (List.mem_singleton.2 rfl));refine ok183.pc ?_;generalize hR : oneE e = R;rw [encE_eq];simp only [go_sem, ir183, simprocAttr];refine sq (decide (e.op > 28)) ?_ ?_
 ·exact zz trivial
 refine zz ?_;refine ⟨fun h1 => ?_, fun h1 => wn ((walk242 e.op).call (by simp [pureR])) ?_⟩
 ·rw [← hR, oneE, if_pos h1]
 rw [oneE, if_neg (by simp only [h1]; decide)] at hR;refine zz7 ?_;refine sq (decide ((e.value.length : Int) > 0)) ?_ ?_
 ·exact zz7 trivial
 refine zz ?_;refine sq (!pathedB e.op && e.text != []) ?_ ?_
 ·refine zz ?_;refine wc ((walk92 _).call trivial) ?_;refine sq (e.text != []) ?_ ?_
  ·refine zz ?_;exact zf
  exact zz trivial
 refine zz ?_;refine sq (!scaledB e.op && e.int != 0) ?_ ?_
 ·refine zz ?_;refine wc ((walk243 _).call trivial) ?_;refine sq (e.int != 0) ?_ ?_
  ·exact zz trivial
  exact zz trivial
 refine zz ?_;apply ik <;> intro h2
 ·rw [if_pos h2] at hR;rw [hR]
 rw [if_neg (nF h2)] at hR;refine sq (decide ((e.args.length : Int) > 0)) ?_ ?_
 ·exact zz7 trivial
 refine zz7 ?_;refine ⟨fun h3 => ?_, fun h3 => ⟨fun h4 => ?_, fun h4 => ?_⟩⟩
 ·rw [if_pos h3] at hR;rw [hR]
 ·rw [if_neg (nF h3), if_pos h4] at hR;rw [hR]
 rw [if_neg (nF h3), if_neg (nF h4)] at hR;refine sq (e.op != 25) ?_ ?_
 ·exact zz trivial
 refine zz ?_;refine ⟨fun h5 => ?_, fun h5 => ⟨fun h6 => ?_, fun h6 => ?_⟩⟩
 ·rw [if_pos h5] at hR;rw [hR]
 ·rw [if_neg (nF h5), if_pos h6] at hR;refine wn ((walk244 e.value).call trivial) ?_;simp only [go_sem, hR, simprocAttr]
 rw [if_neg (nF h5), if_neg (nF h6)] at hR;refine wc ((walk92 _).call trivial) ?_;apply ik <;> intro hp
 ·rw [hp] at hR;simp only [Bool.true_and] at hR;refine wc ((walk26 e.text ft).call (by simp [pureR])) ?_;apply ik <;> intro h7
  ·rw [if_pos h7] at hR;rw [hR]
  rw [if_neg (nF h7)] at hR;refine wc ((walk157g walk245 _ (parseS_len16 e.text)).call trivial) ?_;apply ik <;> intro h8
  ·rw [if_pos h8] at hR;rw [hR]
  rw [if_neg (nF h8)] at hR;refine wc ((walk243 _).call trivial) ?_;refine sq (decide (e.int < 0) || decide (e.int > 12)) ?_ ?_
  ·refine zz ?_;refine sq (decide (e.int > 12)) ?_ ?_
   ·exact zz trivial
   exact zz trivial
  refine zz ?_;apply ik <;> intro h9
  ·rw [if_pos h9] at hR;rw [hR]
  ·rw [if_neg (nF h9)] at hR;rw [hR]
 ·rw [hp] at hR;simp only [Bool.false_and, Bool.false_eq_true, if_false] at hR;refine wc ((walk243 _).call trivial) ?_;refine sq (decide (e.int < 0) || decide (e.int > 12)) ?_ ?_
  ·refine zz ?_;refine sq (decide (e.int > 12)) ?_ ?_
   ·exact zz trivial
   exact zz trivial
  refine zz ?_;apply ik <;> intro h9
  ·rw [if_pos h9] at hR;rw [hR]
  ·rw [if_neg (nF h9)] at hR;rw [hR]
theorem two_dom {o1 o2 : Av.Obj} {i : Nat} (h : (get [(1000, o1), (1001, o2)] i).isSome = true) : i = 1000 ∨ i = 1001 := by
 simp only [Av.get] at h;split at h
 ·rename_i e; exact .inl e.symm
 ·split at h
  ·rename_i e; exact .inr e.symm
  ·cases h
theorem Con.two {P : Program} {f : Nat} {args : List Av} {o1 o2 : Av.Obj} {r : Dat} (h : Con P f args [(1000, o1), (1001, o2)] (.d r) []) (i j : Nat) (hij : i ≠ j)
  (hargs : ∀ c ∈ args, inT (get [(1000, o1), (1001, o2)]) c) (hcl : closed (get [(1000, o1), (1001, o2)])) :
  CallOK P f (args.map (Av.ren fun n => if n = 1000 then i else j)) [(i, some (o1.ren fun n => if n = 1000 then i else j)), (j, some (o2.ren fun n => if n = 1000 then i else j))] (.d r) [] := by
 have := h.call (fun n => if n = 1000 then i else j) (fun k hk => by rcases two_dom hk with rfl | rfl <;> decide) (fun a b ha hb e => ?_) hargs hcl [] sP hcl trivial
 ·simpa [Av.ren] using this
 ·rcases two_dom ha with rfl | rfl <;> rcases two_dom hb with rfl | rfl
  ·rfl
  ·simp at e; exact absurd e hij
  ·simp at e; exact absurd e.symm hij
  ·rfl
theorem Con.twoU {P : Program} {f : Nat} {args : List Av} {o1 o2 o' : Av.Obj} {r : Dat} (h : Con P f args [(1000, o1), (1001, o2)] (.d r) [(1000, o')]) (i j : Nat) (hij : i ≠ j)
  (hargs : ∀ c ∈ args, inT (get [(1000, o1), (1001, o2)]) c) (hcl : closed (get [(1000, o1), (1001, o2)])) (hcl' : closed (get [(1000, o'), (1001, o2)])) :
  CallOK P f (args.map (Av.ren fun n => if n = 1000 then i else j)) [(i, some (o1.ren fun n => if n = 1000 then i else j)), (j, some (o2.ren fun n => if n = 1000 then i else j))] (.d r) [(i, o'.ren fun n => if n = 1000 then i else j)] := by
 have e : hputs (get [(1000, o1), (1001, o2)]) [(1000, o')] = get [(1000, o'), (1001, o2)] := by
  rw [← get_puts]; rfl
 have := h.call (fun n => if n = 1000 then i else j) (fun k hk => by rcases two_dom hk with rfl | rfl <;> decide) (fun a b ha hb e' => ?_) hargs hcl [] (by simp [Av.get]) (by rw [e]; exact hcl') trivial
 ·simpa [Av.ren] using this
 ·rw [e] at ha hb;rcases two_dom ha with rfl | rfl <;> rcases two_dom hb with rfl | rfl
  ·rfl
  ·simp at e'; exact absurd e' hij
  ·simp at e'; exact absurd e'.symm hij
  ·rfl
def foldE (f : Int → Exp → Int × Int) : Int → List Exp → Int × Int
 | n, [] => (0, n)
 | n, v :: r => if (f n v).1 ≠ 0 then f n v else foldE f (f n v).2 r
noncomputable def eF : Nat → Int → Exp → Int × Int
 | 0, n, e => if n = 256 then (9, n) else (23, n + 1)
 | k + 1, n, e => if n = 256 then (9, n) else if oneE e ≠ 0 then (oneE e, n + 1) else foldE (eF k) (n + 1) e.args
theorem foldE_n {f : Int → Exp → Int × Int} (hf : ∀ n v, 0 ≤ n → n ≤ 256 → 0 ≤ (f n v).2 ∧ (f n v).2 ≤ 256) : ∀ (l : List Exp) (n : Int), 0 ≤ n → n ≤ 256 → 0 ≤ (foldE f n l).2 ∧ (foldE f n l).2 ≤ 256
 | [], n, h0, h1 => ⟨h0, h1⟩
 | v :: r, n, h0, h1 => by
  simp only [foldE];split
  ·exact hf n v h0 h1
  ·exact foldE_n hf r _ (hf n v h0 h1).1 (hf n v h0 h1).2
theorem eF_n : ∀ (k : Nat) (n : Int) (e : Exp), 0 ≤ n → n ≤ 256 → 0 ≤ (eF k n e).2 ∧ (eF k n e).2 ≤ 256
 | 0, n, e, h0, h1 => by
  simp only [eF];split
  ·exact ⟨h0, h1⟩
  ·simp only; omega
 | k + 1, n, e, h0, h1 => by
  simp only [eF];split
  ·exact ⟨h0, h1⟩
  ·split
   ·simp only; omega
   ·exact foldE_n (eF_n k) _ _ oM oM
abbrev TE (n : Int) : List (Nat × Av.Obj) := [(1000, .box [.d (.int .i64 n)]), (1001, .box [.clo (.func 182) [] [.ref 1000 0, .ref 1001 0]])]
theorem TE_closed (n : Int) : closed (get (TE n)) := by
 refine closed_of ?_;simp [closedH, objIn, idsInL, idsIn, Av.get]
theorem TE_ups (n m : Int) : closed (hputs (get (TE n)) [(1000, .box [.d (.int .i64 m)])]) := by
 have e : hputs (get (TE n)) [(1000, .box [.d (.int .i64 m)])] = get (TE m) := by rw [← get_puts]; rfl
 rw [e]; exact TE_closed m
theorem call182 {e : Exp} {level n m x : Int} (h : KT 182 [.d (encE e), .d (.int .i64 level), .ref 1000 0, .ref 1001 0] (TE n) (.d (.int .i64 x)) [(1000, .box [.d (.int .i64 m)])]) (i j : Nat) (hij : i ≠ j) :
  CT 182 [.d (encE e), .d (.int .i64 level), .ref i 0, .ref j 0] [(i, some (.box [.d (.int .i64 n)])), (j, some (.box [.clo (.func 182) [] [.ref i 0, .ref j 0]]))] (.d (.int .i64 x)) [(i, .box [.d (.int .i64 m)])] := by
 have := Con.twoU h i j hij (by simp [idsIn, Av.get]) (TE_closed n) (TE_closed m);simp [Av.ren, Obj.ren, renL] at this;exact this
theorem walk182 : ∀ (k : Nat) (n : Int) (e : Exp), k ≤ 8 → 0 ≤ n → n ≤ 256 →
  KT 182 [.d (encE e), .d (.int .i64 (9 - k)), .ref 1000 0, .ref 1001 0] (TE n) (.d (.int .i64 (eF k n e).1)) [(1000, .box [.d (.int .i64 (eF k n e).2)])] := by
 intro k
 induction k with
 | zero =>
  intro n e hk h0 h1;refine ok182.co (k := false) (TE_ups _ _) trivial ?_;rw [encE_eq];have hd : decide ((9 : Int) - ((0 : Nat) : Int) > 8) = true := rfl;simp only [TE, go_sem, ir182, hd, Nat.reduceAdd, Nat.reduceEqDiff, Nat.reduceBEq, Nat.reduceLeDiff, reduceCtorEq, ↓reduceIte];apply ik <;> intro h
  ·have : n = 256 := sX h;simp only [eF, if_pos this];exact ⟨trivial, trivial⟩
  ·have hn : ¬ n = 256 := sX h;have hw : IntKind.i64.wrap (n + 1) = n + 1 := wrap64 oM oM;simp only [eF, if_neg hn, hw];exact ⟨trivial, trivial⟩
 | succ k ih =>
  intro n e hk h0 h1;have hl : 9 - ((k + 1 : Nat) : Int) = 8 - k := oM;rw [hl];refine Con.of_fits ok182.has fun hfit => ?_
  obtain ⟨_, _, f3, _⟩ := fits_E (hfit (encE e) sP);refine ok182.co (k := false) (TE_ups _ _) trivial ?_;have h179 := (walk183 e).call trivial;generalize hF : eF (k + 1) n e = F;rw [encE_eq] at h179 ⊢;have hd : decide (8 - (k : Int) > 8) = false := sO;simp only [TE, go_sem, ir182, hd, Nat.reduceAdd, Nat.reduceEqDiff, Nat.reduceBEq, Nat.reduceLeDiff, reduceCtorEq, ↓reduceIte];refine ⟨fun h => ?_, fun h => wn h179 ?_⟩
  ·have : n = 256 := sX h;rw [eF, if_pos this] at hF;subst hF;exact zz trivial
  have hn : ¬ n = 256 := sX h;have hw : IntKind.i64.wrap (n + 1) = n + 1 := wrap64 oM oM;rw [eF, if_neg hn] at hF;simp only [go_sem, hw, Nat.reduceAdd, Nat.reduceEqDiff, Nat.reduceBEq, Nat.reduceLeDiff, reduceCtorEq, ↓reduceIte];apply ik <;> intro h2
  ·have h2 : oneE e ≠ 0 := sX h2;rw [if_pos h2] at hF;subst hF;exact ⟨rfl, rfl⟩
  have h2 : oneE e = 0 := sX h2;rw [if_neg (by simp [h2])] at hF;clear h179 hfit;generalize hP : e.args = ps at *;simp only [List.length_map];refine wpc_loop (fun r s => ∃ (j : Nat) (m : Int), j ≤ ps.length ∧ r = ps.length - j ∧ 0 ≤ m ∧ m ≤ 256 ∧ foldE (eF k) m (ps.drop j) = F ∧
   s = ⟨[(1, .d (.int .i64 (8 - k))), (2, .ref 1000 0), (3, .ref 1001 0), (23, .d (.list 5 (ps.map encE))), (24, .d (.int .i64 ps.length)), (25, .d (.int .i64 j))],
    [(1000, .box [.d (.int .i64 m)]), (1001, .box [.clo (.func 182) [] [.ref 1000 0, .ref 1001 0]])]⟩) ?_ ?_
  ·refine ⟨_, _, Wk.less ?_, 0, n + 1, Nat.zero_le _, rfl, oM, oM, hF, rfl⟩;simp [go_sem]
  ·rintro r s ⟨j, m, hj, rfl, hm0, hm1, hinv, rfl⟩;by_cases hlt : j < ps.length
   ·have hx' := nth_encE hlt;have hd' : decide ((j : Int) < (ps.length : Int)) = true := sO;have hw' : IntKind.i64.wrap (8 - (k : Int) + 1) = 9 - k := by rw [wrap64 oM oM]; omega
    have hc := call182 (ih m ps[j] oM hm0 hm1) 1000 1001 dC;have hn' := eF_n k m ps[j] hm0 hm1;rw [List.drop_eq_getElem_cons hlt, foldE] at hinv;generalize hV : eF k m ps[j] = V at *;rw [encE_eq] at hc;simp only [go_sem, hx', hd', hw', Int.toNat_natCast, List.length_map, Nat.reduceAdd, Nat.reduceEqDiff, Nat.reduceBEq, Nat.reduceLeDiff, reduceCtorEq, ↓reduceIte];refine ⟨oM, wn hc ?_⟩;refine zz ?_;apply ik <;> intro h0
    ·have h0 : V.1 ≠ 0 := sX h0;rw [if_pos h0] at hinv;subst hinv;exact ⟨rfl, rfl⟩
    ·have h0 : V.1 = 0 := sX h0;rw [if_neg (by simp [h0])] at hinv;refine ⟨ps.length - (j + 1), _, oM, Wk.less ?_, j + 1, V.2, oM, rfl, hn'.1, hn'.2, hinv, rfl⟩;simp [go_sem, wrap64s j oM]
   ·have hd' : decide ((j : Int) < (ps.length : Int)) = false := sO;obtain rfl : j = ps.length := oM;rw [List.drop_length, foldE] at hinv;subst hinv;simp only [go_sem, hd', Nat.reduceAdd, Nat.reduceEqDiff, Nat.reduceBEq, Nat.reduceLeDiff, reduceCtorEq, ↓reduceIte]
noncomputable def chkX (e : Exp) : Int := (eF 8 0 e).1
theorem walk90 (e : Exp) : PT 90 [encE e] (.d (.int .i64 (chkX e))) := by
 refine ok90.pc ?_;have hc := call182 (walk182 8 0 e dC dC dC) 3 4 dC;have e1 : (9 : Int) - ((8 : Nat) : Int) = 1 := rfl;rw [e1] at hc;rw [encE_eq] at hc ⊢;simp only [go_sem, ir90, simprocAttr];refine wn hc ?_;simp only [go_sem, chkX, simprocAttr]
end Go.Proofs
namespace Go.Proofs
open Go.Shelf
def Tryz.laysSort_ren : Go.Shelf.Ren := ⟨fun | 190 => 93 | 125 => 185 | 258 => 184 | 128 => 255 | 129 => 256 | 302 => 246 | 303 => 247 | 304 => 248 | 305 => 249 | 306 => 250 | 307 => 251 | 308 => 252 | 309 => 253 | 310 => 254 | 333 => 321 | 329 => 322 | 330 => 323 | 334 => 324 | 335 => 325 | 336 => 326 | 344 => 380 | n => n, fun | 31 => 22 | 9 => 9 | 3 => 3 | 46 => 257 | 0 => 0 | 51 => 318 | 53 => 320 | 4 => 4 | 183 => 312 | 182 => 311 | 131 => 124 | 5 => 5 | 218 => 367 | 222 => 281 | 228 => 417 | 229 => 238 | n => n, fun | n => n⟩
theorem Tryz.laysSort : Go.Proofs.Lays.n190 Tryz.prog Tryz.laysSort_ren := {
 mixed := kR
 f125 := Tryz.func185.trans (congrArg some kR)
 f128 := Tryz.func255.trans (congrArg some kR)
 f129 := Tryz.func256.trans (congrArg some kR)
 f190 := Tryz.func93.trans (congrArg some kR)
 f258 := Tryz.func184.trans (congrArg some kR)
 f302 := Tryz.func246.trans (congrArg some kR)
 f303 := Tryz.func247.trans (congrArg some kR)
 f304 := Tryz.func248.trans (congrArg some kR)
 f305 := Tryz.func249.trans (congrArg some kR)
 f306 := Tryz.func250.trans (congrArg some kR)
 f307 := Tryz.func251.trans (congrArg some kR)
 f308 := Tryz.func252.trans (congrArg some kR)
 f309 := Tryz.func253.trans (congrArg some kR)
 f310 := Tryz.func254.trans (congrArg some kR)
 f329 := Tryz.func322.trans (congrArg some kR)
 f330 := Tryz.func323.trans (congrArg some kR)
 f333 := Tryz.func321.trans (congrArg some kR)
 f334 := Tryz.func324.trans (congrArg some kR)
 f335 := Tryz.func325.trans (congrArg some kR)
 f336 := Tryz.func326.trans (congrArg some kR)
 f344 := Tryz.func380.trans (congrArg some kR)
 t0 := Tryz.underlying0
 a0 := Tryz.isAgg0
 z0 := Tryz.sizeOf0
 v0 := Tryz.zeroValue0
 t3 := Tryz.underlying3
 a3 := Tryz.isAgg3
 z3 := Tryz.sizeOf3
 v3 := Tryz.zeroValue3
 t4 := Tryz.underlying4
 a4 := Tryz.isAgg4
 z4 := Tryz.sizeOf4
 v4 := Tryz.zeroValue4
 t5 := Tryz.underlying5
 a5 := Tryz.isAgg5
 z5 := Tryz.sizeOf5
 v5 := Tryz.zeroValue5
 t9 := Tryz.underlying9
 a9 := Tryz.isAgg9
 z9 := Tryz.sizeOf9
 v9 := Tryz.zeroValue9
 t31 := Tryz.underlying22
 a31 := Tryz.isAgg22
 z31 := Tryz.sizeOf22
 v31 := Tryz.zeroValue22
 t46 := Tryz.underlying257
 a46 := Tryz.isAgg257
 z46 := Tryz.sizeOf257
 v46 := Tryz.zeroValue257
 t51 := Tryz.underlying318
 a51 := Tryz.isAgg318
 z51 := Tryz.sizeOf318
 v51 := Tryz.zeroValue318
 t53 := Tryz.underlying320
 a53 := Tryz.isAgg320
 z53 := Tryz.sizeOf320
 v53 := Tryz.zeroValue320
 t131 := Tryz.underlying124
 a131 := Tryz.isAgg124
 z131 := Tryz.sizeOf124
 v131 := Tryz.zeroValue124
 t182 := Tryz.underlying311
 a182 := Tryz.isAgg311
 z182 := Tryz.sizeOf311
 v182 := Tryz.zeroValue311
 t183 := Tryz.underlying312
 a183 := Tryz.isAgg312
 z183 := Tryz.sizeOf312
 v183 := Tryz.zeroValue312
 t218 := Tryz.underlying367
 a218 := Tryz.isAgg367
 z218 := Tryz.sizeOf367
 v218 := Tryz.zeroValue367
 t222 := Tryz.underlying281
 a222 := Tryz.isAgg281
 z222 := Tryz.sizeOf281
 v222 := Tryz.zeroValue281
 t228 := Tryz.underlying417
 a228 := Tryz.isAgg417
 z228 := Tryz.sizeOf417
 v228 := Tryz.zeroValue417
 t229 := Tryz.underlying238
 a229 := Tryz.isAgg238
 z229 := Tryz.sizeOf238
 v229 := Tryz.zeroValue238 }
def Tryz.laysCompact_ren : Go.Shelf.Ren := ⟨fun | 194 => 94 | n => n, fun | 31 => 22 | 9 => 9 | 3 => 3 | 4 => 4 | 0 => 0 | n => n, fun | n => n⟩
theorem Tryz.laysCompact : Go.Proofs.Lays.n194 Tryz.prog Tryz.laysCompact_ren := {
 mixed := kR
 f194 := Tryz.func94.trans (congrArg some kR)
 t0 := Tryz.underlying0
 a0 := Tryz.isAgg0
 z0 := Tryz.sizeOf0
 v0 := Tryz.zeroValue0
 t3 := Tryz.underlying3
 a3 := Tryz.isAgg3
 z3 := Tryz.sizeOf3
 v3 := Tryz.zeroValue3
 t4 := Tryz.underlying4
 a4 := Tryz.isAgg4
 z4 := Tryz.sizeOf4
 v4 := Tryz.zeroValue4
 t9 := Tryz.underlying9
 a9 := Tryz.isAgg9
 z9 := Tryz.sizeOf9
 v9 := Tryz.zeroValue9
 t31 := Tryz.underlying22
 a31 := Tryz.isAgg22
 z31 := Tryz.sizeOf22
 v31 := Tryz.zeroValue22 }
end Go.Proofs
namespace Go.Proofs
open Go Av
def uniqF : Option Str → List Str → List Str
 | _, [] => []
 | p, x :: r => if p = some x then uniqF (some x) r else x :: uniqF (some x) r
def uniq (l : List Str) : List Str := uniqF none l
theorem uniqF_one : ∀ (l : List Str) (p : Option Str) (x : Str), uniqF p (l ++ [x]) = uniqF p l ++ (if (l.getLast?.or p) = some x then [] else [x])
 | [], p, x => by
  have e : (([] : List Str).getLast?.or p) = p := sP;rw [e];simp only [List.nil_append, uniqF]
 | y :: r, p, x => by
  have e : ((y :: r).getLast?.or p) = (r.getLast?.or (some y)) := by
   cases r with
   | nil => simp
   | cons z q => simp [List.getLast?_cons_cons, List.getLast?_cons]
  rw [e];simp only [List.cons_append, uniqF, uniqF_one r (some y) x];split <;> simp
theorem uniqF_sub : ∀ (l : List Str) (p : Option Str), (uniqF p l).Sublist l
 | [], p => by simp [uniqF]
 | x :: r, p => by
  simp only [uniqF];split
  ·exact (uniqF_sub r _).cons x
  ·exact (uniqF_sub r _).cons_cons x
theorem compactUpTo_uniq (zs : List Str) : ∀ m, m ≤ zs.length → Lib.compactUpTo zs.toArray m = uniq (zs.take m)
 | 0, _ => by simp [Lib.compactUpTo, uniq, uniqF]
 | m + 1, h => by
  rw [Lib.compactUpTo_succ, compactUpTo_uniq zs m oM, List.take_succ_eq_append_getElem oM];unfold uniq;rw [uniqF_one];congr 1;have e1 : zs.toArray[m]! = zs[m] := by rw [getElem!_pos _ _ sO]; simp
  rw [e1];cases m with
  | zero =>
   have : Lib.keeps zs.toArray 0 = true := by simp [Lib.keeps]
   simp [this]
  | succ k =>
   have e2 : zs.toArray[k]! = zs[k] := by rw [getElem!_pos _ _ sO]; simp
   have e3 : (zs.take (k + 1)).getLast? = some zs[k] := by
    rw [List.take_succ_eq_append_getElem oM, List.getLast?_concat]
   rw [e3];simp only [Lib.keeps, e1, Nat.add_sub_cancel, e2, Option.some_or, Option.some.injEq];by_cases hq : zs[k] = zs[k + 1]
   ·simp [hq]
   ·have : zs[k + 1] ≠ zs[k] := fun e => hq e.symm
    simp [hq, this]
theorem compact_uniq (zs : List Str) : Lib.compact zs = uniq zs := by
 rw [Lib.compact, compactUpTo_uniq zs _ (Nat.le_refl _), List.take_length]
theorem call93 (i v : Nat) (ss : List Str) : CT 93 [.ms i v] [(i, some (.row v 1 (ss.map .str)))] (.tup []) [(i, .row v 1 ((sortS ss).map .str))] :=
 CallOK.sort (hasT Tryz.func93 kR kR) (fun b cap ss w h1 h2 h3 => Any.slices_Sort_string Tryz.laysSort b 0 cap ss w h1 h2 h3) (fun a cap w => Any.slices_Sort_string_none Tryz.laysSort a cap w) i v ss
theorem call94 (i v : Nat) (ss : List Str) : CT 94 [.ms i v] [(i, some (.row v 1 (ss.map .str)))] (.ms i (v + 1)) [(i, .row (v + 1) 1 ((uniq ss).map .str))] := by
 rw [← compact_uniq];exact CallOK.compact (hasT Tryz.func94 kR kR) (fun b cap ss w h1 h2 h3 => Any.slices_Compact_string Tryz.laysCompact b 0 cap ss w h1 h2 h3) (fun a cap w => Any.slices_Compact_string_empty Tryz.laysCompact a cap w)
  (fun ss => by rw [compact_uniq]; exact uniqF_sub ss none) i v ss
def pF : Nat → Exp → List Str
 | 0, _ => []
 | k + 1, e => (if pathedB e.op then [e.text] else []) ++ e.args.flatMap (pF k)
theorem foldE_cons {f : Int → Exp → Int × Int} {n : Int} {v : Exp} {r : List Exp} (h : (foldE f n (v :: r)).1 = 0) : (f n v).1 = 0 ∧ foldE f n (v :: r) = foldE f (f n v).2 r := by
 simp only [foldE] at h ⊢;split at h
 ·rename_i hx; exact absurd h hx
 ·rename_i hx;simp only [ne_eq, Decidable.not_not] at hx;rw [if_neg (by simp [hx])];exact ⟨hx, rfl⟩
theorem eF_succ {k : Nat} {n : Int} {e : Exp} (h : (eF (k + 1) n e).1 = 0) : eF (k + 1) n e = foldE (eF k) (n + 1) e.args := by
 simp only [eF] at h ⊢;split at h
 ·cases h
 ·rename_i h1;rw [if_neg h1];split at h
  ·rename_i h2; exact absurd h h2
  ·rename_i h2; rw [if_neg h2]
theorem eF_zero (n : Int) (e : Exp) : (eF 0 n e).1 ≠ 0 := by
 simp only [eF];split <;> simp
theorem foldE_len {f : Int → Exp → Int × Int} {g : Exp → List Str} (hf : ∀ n v, (f n v).1 = 0 → n + ((g v).length : Int) ≤ (f n v).2) : ∀ (l : List Exp) (n : Int), (foldE f n l).1 = 0 → n + ((l.flatMap g).length : Int) ≤ (foldE f n l).2
 | [], n, h => by simp [foldE]
 | v :: r, n, h => by
  obtain ⟨h1, h2⟩ := foldE_cons h;rw [h2] at h ⊢;have q1 := hf n v h1;have q2 := foldE_len hf r _ h;simp only [List.flatMap_cons, List.length_append] at q2 ⊢
  push_cast
  omega
theorem pF_len : ∀ (k : Nat) (n : Int) (e : Exp), (eF k n e).1 = 0 → n + ((pF k e).length : Int) ≤ (eF k n e).2
 | 0, n, e, h => absurd h (eF_zero n e)
 | k + 1, n, e, h => by
  have e1 := eF_succ h;rw [e1] at h ⊢;have := foldE_len (g := pF k) (fun n v hv => pF_len k n v hv) e.args (n + 1) h;have hb : ((if pathedB e.op then [e.text] else []) : List Str).length ≤ 1 := by split <;> simp
  simp only [pF, List.length_append]
  push_cast
  omega
abbrev clo98 : Av := .clo (.func 91) [] [.ref 1000 0, .ref 1001 0]
abbrev TP (xs : List Str) : List (Nat × Av.Obj) := [(1000, .box [.ms 1002 xs.length]), (1001, .box [clo98]), (1002, .row xs.length 1 (xs.map .str))]
abbrev upsP (xs : List Str) : List (Nat × Av.Obj) := [(1000, .box [.ms 1002 xs.length]), (1002, .row xs.length 1 (xs.map .str))]
theorem TP_closed (xs : List Str) : closed (get (TP xs)) := by
 refine closed_of ?_;simp [closedH, objIn, idsInL, idsIn, Av.get]
theorem TP_ups (xs ys : List Str) : hputs (get (TP xs)) (upsP ys) = get (TP ys) := by rw [← get_puts]; rfl
theorem TP_dom {xs : List Str} {i : Nat} (h : (get (TP xs) i).isSome = true) : i = 1000 ∨ i = 1001 ∨ i = 1002 := by
 simp only [TP, Av.get] at h;split at h
 ·rename_i e; exact .inl e.symm
 ·split at h
  ·rename_i e; exact .inr (.inl e.symm)
  ·split at h
   ·rename_i e; exact .inr (.inr e.symm)
   ·cases h
theorem call91 {e : Exp} {xs ys : List Str} (h : KT 91 [.d (encE e), .ref 1000 0, .ref 1001 0] (TP xs) (.tup []) (upsP ys)) (i j r : Nat) (h1 : i ≠ j) (h2 : i ≠ r) (h3 : j ≠ r) :
  CT 91 [.d (encE e), .ref i 0, .ref j 0] [(i, some (.box [.ms r xs.length])), (j, some (.box [.clo (.func 91) [] [.ref i 0, .ref j 0]])), (r, some (.row xs.length 1 (xs.map .str)))] (.tup [])
   [(i, .box [.ms r ys.length]), (r, .row ys.length 1 (ys.map .str))] := by
 have := h.call (fun n => if n = 1000 then i else if n = 1001 then j else r) (fun k hk => by rcases TP_dom hk with rfl | rfl | rfl <;> decide) (fun a b ha hb e => ?_) (by simp [idsIn, Av.get]) (TP_closed xs) [] (by simp [Av.get])
  (by rw [TP_ups]; exact TP_closed ys) trivial
 ·simp [Av.ren, Obj.ren, renL] at this;exact this
 ·rw [TP_ups] at ha hb;rcases TP_dom ha with rfl | rfl | rfl <;> rcases TP_dom hb with rfl | rfl | rfl <;> simp at e <;> first | rfl | exact absurd e h1 | exact absurd e.symm h1 | exact absurd e h2 | exact absurd e.symm h2 | exact absurd e h3 | exact absurd e.symm h3
theorem walk91 : ∀ (k : Nat) (n : Int) (e : Exp) (xs : List Str), 0 ≤ n → n ≤ 256 → (eF k n e).1 = 0 → (xs.length : Int) ≤ n →
  KT 91 [.d (encE e), .ref 1000 0, .ref 1001 0] (TP xs) (.tup []) (upsP (xs ++ pF k e)) := by
 intro k
 induction k with
 | zero => intro n e xs _ _ h _; exact absurd h (eF_zero n e)
 | succ k ih =>
  intro n e xs h0 h1 hz hl;refine Con.of_fits ok91.has fun hfit => ?_
  obtain ⟨_, _, f3, _⟩ := fits_E (hfit (encE e) sP);have hF := eF_succ hz;rw [hF] at hz;refine ok91.co (k := false) (by rw [TP_ups]; exact TP_closed _) trivial ?_;have h99 := (walk92 e.op).call trivial;rw [encE_eq];simp only [TP, go_sem, ir91, simprocAttr];refine wc h99 ?_;have hn1 : n + 1 ≤ 256 := by
   by_cases h256 : n = 256
   ·rw [← hF, eF, if_pos h256] at hz; simp at hz
   ·omega
  have hl' : xs.length ≤ 256 := oM;refine ⟨fun hp => ⟨sP, sO, ?_⟩, fun hp => ?_⟩
  ·have e1 : (1002, Av.Obj.row (xs.length + 1) 1 (List.map Dat.str xs ++ [Dat.str e.text])) = (1002, Av.Obj.row (xs ++ [e.text]).length 1 ((xs ++ [e.text]).map .str)) := sP;have e2 : (1000, Av.Obj.box [Av.ms 1002 (xs.length + 1)]) = (1000, Av.Obj.box [Av.ms 1002 (xs ++ [e.text]).length]) := sP;rw [e1, e2];clear e1 e2;clear hfit h99;generalize hP : e.args = ps at *;have hzl : ((xs ++ [e.text]).length : Int) ≤ n + 1 := by first | omega | (simp; omega)
   have hzz : xs ++ pF (k + 1) e = (xs ++ [e.text]) ++ ps.flatMap (pF k) := by rw [pF, if_pos hp, hP]; simp
   rw [hzz];simp only [List.length_map];refine wpc_loop (fun r s => ∃ (j : Nat) (m : Int) (ys : List Str), j ≤ ps.length ∧ r = ps.length - j ∧ 0 ≤ m ∧ m ≤ 256 ∧ (foldE (eF k) m (ps.drop j)).1 = 0 ∧ (ys.length : Int) ≤ m ∧ (xs ++ [e.text]) ++ ps.flatMap (pF k) = ys ++ (ps.drop j).flatMap (pF k) ∧
    s = ⟨[(1, .ref 1000 0), (2, .ref 1001 0), (15, .d (.list 5 (ps.map encE))), (16, .d (.int .i64 ps.length)), (17, .d (.int .i64 j))],
     [(1000, .box [.ms 1002 ys.length]), (1001, .box [clo98]), (1002, .row ys.length 1 (ys.map .str))]⟩) ?_ ?_
   ·refine ⟨_, _, Wk.less ?_, 0, n + 1, xs ++ [e.text], Nat.zero_le _, rfl, oM, hn1, hz, hzl, rfl, rfl⟩;simp [go_sem]
   ·rintro r s ⟨j, m, ys, hj, rfl, hm0, hm1, hinv, hyl, hyy, rfl⟩;by_cases hlt : j < ps.length
    ·have hx' := nth_encE hlt;have hd' : decide ((j : Int) < (ps.length : Int)) = true := sO;rw [List.drop_eq_getElem_cons hlt] at hinv hyy;obtain ⟨q1, q2⟩ := foldE_cons hinv;rw [q2] at hinv;have hc := call91 (ih m ps[j] ys hm0 hm1 q1 hyl) 1000 1001 1002 dC dC dC;have hn' := eF_n k m ps[j] hm0 hm1;have hpl := pF_len k m ps[j] q1;rw [encE_eq] at hc;simp only [go_sem, hx', hd', Int.toNat_natCast, List.length_map, simprocAttr];refine ⟨oM, wps_call rfl hc ⟨rfl, rfl, rfl, trivial⟩ ?_⟩;refine zz ?_;refine ⟨ps.length - (j + 1), _, oM, Wk.less ?_, j + 1, (eF k m ps[j]).2, ys ++ pF k ps[j], oM, rfl, hn'.1, hn'.2, hinv, sO, by rw [hyy, List.flatMap_cons, List.append_assoc], rfl⟩;simp [go_sem, wrap64s j oM]
    ·have hd' : decide ((j : Int) < (ps.length : Int)) = false := sO;obtain rfl : j = ps.length := oM;rw [List.drop_length] at hyy;rw [hyy];simp only [List.flatMap_nil, List.append_nil];simp only [go_sem, hd', simprocAttr]
  ·skip
   clear hfit h99;generalize hP : e.args = ps at *;have hzl : ((xs).length : Int) ≤ n + 1 := by first | omega | (simp; omega)
   have hzz : xs ++ pF (k + 1) e = (xs) ++ ps.flatMap (pF k) := by rw [pF, if_neg (by simp [hp]), hP]; simp
   rw [hzz];simp only [List.length_map];refine wpc_loop (fun r s => ∃ (j : Nat) (m : Int) (ys : List Str), j ≤ ps.length ∧ r = ps.length - j ∧ 0 ≤ m ∧ m ≤ 256 ∧ (foldE (eF k) m (ps.drop j)).1 = 0 ∧ (ys.length : Int) ≤ m ∧ (xs) ++ ps.flatMap (pF k) = ys ++ (ps.drop j).flatMap (pF k) ∧
    s = ⟨[(1, .ref 1000 0), (2, .ref 1001 0), (15, .d (.list 5 (ps.map encE))), (16, .d (.int .i64 ps.length)), (17, .d (.int .i64 j))],
     [(1000, .box [.ms 1002 ys.length]), (1001, .box [clo98]), (1002, .row ys.length 1 (ys.map .str))]⟩) ?_ ?_
   ·refine ⟨_, _, Wk.less ?_, 0, n + 1, xs, Nat.zero_le _, rfl, oM, hn1, hz, hzl, rfl, rfl⟩;simp [go_sem]
   ·rintro r s ⟨j, m, ys, hj, rfl, hm0, hm1, hinv, hyl, hyy, rfl⟩;by_cases hlt : j < ps.length
    ·have hx' := nth_encE hlt;have hd' : decide ((j : Int) < (ps.length : Int)) = true := sO;rw [List.drop_eq_getElem_cons hlt] at hinv hyy;obtain ⟨q1, q2⟩ := foldE_cons hinv;rw [q2] at hinv;have hc := call91 (ih m ps[j] ys hm0 hm1 q1 hyl) 1000 1001 1002 dC dC dC;have hn' := eF_n k m ps[j] hm0 hm1;have hpl := pF_len k m ps[j] q1;rw [encE_eq] at hc;simp only [go_sem, hx', hd', Int.toNat_natCast, List.length_map, simprocAttr];refine ⟨oM, wps_call rfl hc ⟨rfl, rfl, rfl, trivial⟩ ?_⟩;refine zz ?_;refine ⟨ps.length - (j + 1), _, oM, Wk.less ?_, j + 1, (eF k m ps[j]).2, ys ++ pF k ps[j], oM, rfl, hn'.1, hn'.2, hinv, sO, by rw [hyy, List.flatMap_cons, List.append_assoc], rfl⟩;simp [go_sem, wrap64s j oM]
    ·have hd' : decide ((j : Int) < (ps.length : Int)) = false := sO;obtain rfl : j = ps.length := oM;rw [List.drop_length] at hyy;rw [hyy];simp only [List.flatMap_nil, List.append_nil];simp only [go_sem, hd', simprocAttr]
theorem canonL_strs (l : List Str) : canonL (l.map .str) = l.map .str := by
 rw [canonL_map, List.map_map];exact List.map_congr_left fun p _ => by simp [Dat.canon]
noncomputable def pathsE (e : Exp) : List Str := if chkX e ≠ 0 then [] else uniq (sortS (pF 8 e))
theorem pF_le (e : Exp) (h : chkX e = 0) : (pF 8 e).length ≤ 256 := by
 have h1 := pF_len 8 0 e h;have h2 := (eF_n 8 0 e dC dC).2;omega
theorem walk31 (e : Exp) : PT 31 [encE e] (.d (.list 1 ((pathsE e).map .str))) := by
 refine ok31.pc ?_;have h97 := (walk90 e).call trivial;by_cases hx : chkX e = 0
 ·have hp : pathsE e = uniq (sortS (pF 8 e)) := by rw [pathsE, if_neg (by simp [hx])]
  rw [hp];have hc := call91 (walk91 8 0 e [] dC dC hx sP) 3 4 30 dC dC dC;rw [hx] at h97;simp only [List.nil_append, List.length_nil, List.map_nil] at hc;have hc' := CallOK.nilBox (f := .fn 91) (i := 3) (k := 30) (sz := 1) (j := 0) (cs := [.d (.nil 1)]) (T := [(4, some (.box [.clo (.func 91) [] [.ref 3 0, .ref 4 0]]))]) (v := .tup [])
   (args := [.d (encE e), .ref 3 0, .ref 4 0]) (ups := [(3, .box [.ms 30 (pF 8 e).length]), (30, .row (pF 8 e).length 1 ((pF 8 e).map .str))]) (by
    intro β A w H vs hT;exact hc β A w H vs (fun e he => hT e (by simp only [List.mem_cons, List.not_mem_nil, or_false] at he ⊢; rcases he with rfl | rfl | rfl <;> simp)))
   sP dC rfl dC rfl rfl
  rw [encE_eq] at h97 hc' ⊢;simp only [go_sem, ir31, simprocAttr];refine wn h97 ?_;have q0 : ((0 : Int) != 0) = false := rfl;refine zz23 ?_;refine wps_call rfl hc' ⟨rfl, rfl, rfl, trivial⟩ ?_;refine zz ?_;refine wc (call93 30 _ _) ?_;refine wc (call94 30 _ _) ?_;rw [canonL_strs]
 ·have hp : pathsE e = [] := by rw [pathsE, if_pos hx]
  rw [hp];rw [encE_eq] at h97 ⊢;simp only [go_sem, ir31, simprocAttr];refine wn h97 ?_;have q0 : (chkX e != 0) = true := by simp [hx]
  simp only [go_sem, q0, List.map_nil, simprocAttr]
end Go.Proofs
namespace Go.Proofs
open Go Av Go.RowKit
theorem dec_bd (s : ByteArray) (i : Nat) : (Utf8.decode s i).1 ≤ 2147483647 ∧ 1 ≤ (Utf8.decode s i).2 ∧ (Utf8.decode s i).2 ≤ 4 := by
 refine ⟨Go.decode_le s i, ?_, ?_⟩
 all_goals
  unfold Utf8.decode;dsimp only
  repeat' split
  all_goals simp
theorem dgo_bd (s : Str) : (dgo s).1 ≤ 2147483647 ∧ (dgo s).2 ≤ 4 ∧ (s ≠ [] → 1 ≤ (dgo s).2) := by
 unfold dgo Lib.decodeGo;split
 ·rename_i h;refine ⟨dC, dC, fun hs => ?_⟩;have : s.length = 0 := by simpa [ByteArray.size] using h
  exact absurd (List.length_eq_zero_iff.1 this) hs
 ·obtain ⟨h1, h2, h3⟩ := dec_bd ⟨s.toArray⟩ 0;exact ⟨h1, h3, fun _ => h2⟩
def ptsL : Nat → Str → Nat → List Int
 | 0, _, _ => []
 | f + 1, s, a => if a < s.length then (if (((dgo (s.drop a)).1 : Int) == 65533) && decide (((dgo (s.drop a)).2 : Int) ≤ 1) then [] else ((dgo (s.drop a)).1 : Int) :: ptsL f s (a + (dgo (s.drop a)).2)) else []
theorem ptsL_len : ∀ (f : Nat) (s : Str) (a : Nat), (ptsL f s a).length ≤ s.length - a
 | 0, s, a => by simp [ptsL]
 | f + 1, s, a => by
  unfold ptsL;split
  ·rename_i h;split
   ·simp
   ·have := ptsL_len f s (a + (dgo (s.drop a)).2);have hb := (dgo_bd (s.drop a)).2.2 (by intro e; have := congrArg List.length e; simp at this; omega);simp only [List.length_cons];omega
  ·simp
theorem ptsL_end {f : Nat} {s : Str} {a : Nat} (h : ¬ a < s.length) : ptsL f s a = [] := by
 cases f with
 | zero => rfl
 | succ f => rw [ptsL, if_neg h]
noncomputable def lpP (tm : List (Nat × Av)) (s : LoopState) (j : Option Code) : Lp := ⟨tm, 20, #[12, 13], subC (codeOf Tryz.f270) [1, 1, 1, 0, 1, 0, 0], subC (codeOf Tryz.f270) [1, 1, 1, 0, 1, 0, 1], s, j⟩
def tmP (c : Dat) : List (Nat × Av) := [(2, .d (.nil 1)), (3, .d (.int .i64 0)), (4, .ref 1004 0), (11, .d c)]
noncomputable abbrev TQ (c : Dat) (xs : List Int) : List (Nat × Av.Obj) := [(1000, .lp (lpP (tmP c) .ready none)), (1004, .box [.ms 1005 xs.length]), (1005, .row xs.length 1 (xs.map (.int .i64)))]
abbrev upsQ (xs : List Int) : List (Nat × Av.Obj) := [(1004, .box [.ms 1005 xs.length]), (1005, .row xs.length 1 (xs.map (.int .i64)))]
theorem closedQ (c : Dat) (xs : List Int) : closed (get (TQ c xs)) := by
 refine closed_of ?_;simp [TQ, closedH, objIn, idsInL, idsIn, idsInT, tmP, lpP, Av.get]
theorem closedQU (c : Dat) (xs ys : List Int) : closed (hputs (get (TQ c xs)) (upsQ ys)) := by
 refine closed_puts ?_;simp [upsQ, TQ, puts, put, closedH, objIn, idsInL, idsIn, idsInT, tmP, lpP, Av.get]
theorem roundQ (c : Dat) (a r : Int) (xs : List Int) (h0 : -2147483648 ≤ r) (h1 : r ≤ 2147483647) (hl : xs.length < 68719476736) :
  RCon Tryz.prog 1000 [.d (.int .i64 a), .d (.int .i32 r)] (TQ c xs) (.d (.bool true)) (upsQ (xs ++ [r])) := by
 refine RCon.of_code (asg := asg270) (body := body270) rfl rfl kR kR rfl (show ∀ p ∈ [12, 13], p < 20 by decide) ?_ ?_
 ·exact closedQU c xs _
 ·have hw : IntKind.i64.wrap r = r := wrap64 oM oM;simp only [TQ, lpP, tmP, asg270, body270, hw, go_sem, simprocAttr];refine ⟨_, rfl, rfl, (by intro x hx; rcases List.mem_singleton.1 hx with rfl; rfl), by rw [List.length_map]; omega, ?_⟩;refine ⟨_, _, rfl, rfl, ⟨[], TQ c (xs ++ [r])⟩, Wk.less ?_, ?_⟩
  ·simp [put, tmP, lpP, go_sem]
  ·intro i o h;rw [← h, ← get_puts];simp [puts, put, tmP, lpP, TQ, upsQ]
theorem TQ_dom {c : Dat} {xs : List Int} {i : Nat} (h : (get (TQ c xs) i).isSome = true) : i = 1000 ∨ i = 1004 ∨ i = 1005 := by
 simp only [TQ, Av.get] at h;split at h
 ·rename_i e; exact .inl e.symm
 ·split at h
  ·rename_i e; exact .inr (.inl e.symm)
  ·split at h
   ·rename_i e; exact .inr (.inr e.symm)
   ·cases h
theorem TQ_domU {c : Dat} {xs ys : List Int} {i : Nat} (h : (hputs (get (TQ c xs)) (upsQ ys) i).isSome = true) : i = 1000 ∨ i = 1004 ∨ i = 1005 := by
 rw [← get_puts] at h;have : puts (TQ c xs) (upsQ ys) = TQ c ys := by simp [puts, put, upsQ, TQ]
 rw [this] at h;exact TQ_dom h
theorem yieldQ (c : Dat) (a r : Int) (xs : List Int) (h0 : -2147483648 ≤ r) (h1 : r ≤ 2147483647) (hl : xs.length < 68719476736) :
  CT .yld [.mp 1000, .d (.int .i64 a), .d (.int .i32 r)] ((TQ c xs).map fun x => (x.1, some x.2)) (.d (.bool true)) (upsQ (xs ++ [r])) := by
 have := (roundQ c a r xs h0 h1 hl).call (fun i => i) ⟨_, rfl⟩ (fun i j _ _ h => h) (by simp [idsIn]) (closedQ c xs) [] (by simp [Av.get]) (closedQU c xs _) trivial;simp only [TQ, upsQ, List.map_cons, List.map_nil, Obj.ren, Av.ren, renL, lpP, tmP, renT, List.append_nil] at this ⊢;exact this
theorem walk382 (s : Str) (c : Dat) (hs : s.length ≤ 68719476736) :
  KT 382 [.mp 1000, .d (.ptr [.str s])] (TQ c []) (.tup []) (upsQ (ptsL (s.length + 1) s 0)) := by
 refine ok382.co (k := false) (closedQU c [] _) trivial ?_;have q1 : ∀ (a : Nat), a ≤ s.length + 4 → (s.drop a).take ((s.length : Int) - a).toNat = s.drop a := fun a _ => sls_from s a
 generalize hR : ptsL (s.length + 1) s 0 = R;have hRl : R.length ≤ s.length := by rw [← hR]; have := ptsL_len (s.length + 1) s 0; omega
 simp only [TQ, lpP, tmP, go_sem, ir382, Nat.reduceAdd, Nat.reduceEqDiff, Nat.reduceBEq, Nat.reduceLeDiff, reduceCtorEq, ↓reduceIte];refine wpc_loop (fun n st => ∃ (f a : Nat) (ys : List Int), n = f ∧ s.length + 1 ≤ a + f ∧ a ≤ s.length + 4 ∧ ys.length ≤ a ∧ R = ys ++ ptsL f s a ∧
  st = ⟨[(0, .mp 1000), (1, .d (.ptr [.str s])), (3, .d (.int .i64 a))], TQ c ys⟩) ?_ ?_
 ·exact ⟨_, _, Wk.refl _, s.length + 1, 0, [], rfl, oM, oM, sP, hR.symm, rfl⟩
 ·rintro n st ⟨f, a, ys, rfl, hf, ha, hyl, hinv, rfl⟩;by_cases hlt : a < s.length
  ·obtain ⟨f, rfl⟩ : ∃ g, n = g + 1 := ⟨n - 1, oM⟩;have hd := dT hlt;rw [ptsL, if_pos hlt] at hinv;obtain ⟨b1, b2, b3⟩ := dgo_bd (s.drop a);have b3 := b3 (by intro e; have := congrArg List.length e; simp at this; omega);have c383 := call383 (s.drop a) b1 b2;have cy := yieldQ c a ((dgo (s.drop a)).1 : Int) ys oM oM oM;generalize dgo (s.drop a) = d at *;simp only [TQ, lpP, tmP, go_sem, hd, q1 a ha, Int.toNat_natCast, Nat.reduceAdd, Nat.reduceEqDiff, Nat.reduceBEq, Nat.reduceLeDiff, reduceCtorEq, ↓reduceIte];refine ⟨dC, dC, ⟨oM, oM, oM⟩, wn c383 ?_⟩;refine zz43 ?_;refine sq (decide ((d.2 : Int) ≤ 1)) ?_ ?_
   ·exact zz43 trivial
   refine zz43 ?_;cases hq : ((d.1 : Int) == 65533 && decide ((d.2 : Int) ≤ 1)) with
   | true =>
    rw [if_pos hq, List.append_nil] at hinv;rw [← hinv];refine zz43 ?_;exact zf
   | false =>
    rw [if_neg (nF hq)] at hinv;refine zz43 ?_;refine wps_call rfl cy ⟨rfl, rfl, rfl, trivial⟩ ?_;have hw : IntKind.i64.wrap ((a : Int) + (d.2 : Int)) = ((a + d.2 : Nat) : Int) := by rw [wrap64 oM oM]; omega
    simp only [TQ, lpP, tmP, upsQ, go_sem, hw, Bool.not_true, Bool.not_false, Nat.reduceAdd, Nat.reduceEqDiff, Nat.reduceBEq, Nat.reduceLeDiff, reduceCtorEq, ↓reduceIte];refine ⟨f, _, oM, Wk.less ?_, f, a + d.2, ys ++ [(d.1 : Int)], rfl, oM, oM, sO, by rw [hinv]; simp, rfl⟩;simp [go_sem, TQ, lpP, tmP]
  ·have hd := dF hlt;rw [ptsL_end hlt, List.append_nil] at hinv;rw [← hinv];simp only [TQ, lpP, tmP, go_sem, hd, Nat.reduceAdd, Nat.reduceEqDiff, Nat.reduceBEq, Nat.reduceLeDiff, reduceCtorEq, ↓reduceIte]
   try exact ⟨dC, rfl⟩
   try decide
theorem canonL_int64 (l : List Int) : canonL (l.map (.int .i64)) = l.map (.int .i64) := by
 rw [canonL_map, List.map_map];exact List.map_congr_left fun p _ => by simp [Dat.canon]
def pntR (s : Str) : List Int × Int := if validS s then (ptsL (s.length + 1) s 0, 0) else ([], 16)
theorem walk333 (s : Str) : PT 333 [.str s] (.d (.fn (.func 382) [] [.ptr [.str s]])) := by
 refine ok333.pc ?_;simp only [go_sem, ir333, simprocAttr];simp only [go_sem, decide_eq_true_eq, reduceCtorEq, ↓reduceIte]
noncomputable def lpC (c : Dat) (s : LoopState) (j : Option Code) : Av.Obj := .lp ⟨[(2, .d (.nil 1)), (3, .d (.int .i64 0)), (4, .ref 4 0), (11, .d c)], 20, #[12, 13], subC (codeOf Tryz.f270) [1, 1, 1, 0, 1, 0, 0], subC (codeOf Tryz.f270) [1, 1, 1, 0, 1, 0, 1], s, j⟩
theorem call382 (s : Str) (c : Dat) (hs : s.length ≤ 68719476736) :
  CT 382 [.mp 32, .d (.ptr [.str s])] [(4, some (.box [.d (.nil 1)])), (5, none), (32, some (lpC c .ready none))] (.tup [])
   [(4, .box [.ms 5 (ptsL (s.length + 1) s 0).length]), (5, .row (ptsL (s.length + 1) s 0).length 1 ((ptsL (s.length + 1) s 0).map (.int .i64)))] := by
 have := (walk382 s c hs).call (fun i => if i = 1000 then 32 else i - 1000) (fun i hi => by rcases TQ_dom hi with rfl | rfl | rfl <;> decide)
  (fun i j hi hj h => by rcases TQ_domU hi with rfl | rfl | rfl <;> rcases TQ_domU hj with rfl | rfl | rfl <;> first | rfl | simp at h) (by simp [idsIn, Av.get]) (closedQ c []) [] (by simp [Av.get]) (closedQU c [] _) trivial
 simp only [TQ, upsQ, List.map_cons, List.map_nil, Obj.ren, Av.ren, renL, lpP, tmP, renT, List.append_nil, Nat.reduceSub, simprocAttr] at this;exact CallOK.nilBox (f := .fn 382) (i := 4) (k := 5) (sz := 1) (j := 0) (cs := [.d (.nil 1)]) (T := [(32, some (lpC c .ready none))]) (by
  intro β A w H vs hT;exact this β A w H vs (fun e he => hT e (by simp only [lpC, List.mem_cons, List.not_mem_nil, or_false] at he ⊢; rcases he with rfl | rfl | rfl <;> simp)))
  sP dC rfl dC rfl rfl
theorem walk270 (s : Str) (hs : s.length ≤ 68719476736) : PT 270 [.str s] (.tup [.d (.list 1 ((pntR s).1.map (.int .i64))), .d (.int .i64 (pntR s).2)]) := by
 refine ok270.pc ?_;have c198 := (walk198 s).call trivial;have c333 := (walk333 s).call trivial;cases hv : validS s with
 | false =>
  have hp : pntR s = ([], 16) := by rw [pntR, hv]; rfl
  rw [hv] at c198;rw [hp];simp only [go_sem, ir270, simprocAttr];refine wn c198 ?_;refine zz58 ?_;exact zf
 | true =>
  have hp : pntR s = (ptsL (s.length + 1) s 0, 0) := by rw [pntR, hv]; rfl
  rw [hv] at c198;rw [hp];simp only [go_sem, ir270, simprocAttr];refine wn c198 ?_;simp only [go_sem, Bool.not_true, simprocAttr];refine wc c333 ?_;refine wpc_rng rfl rfl ok382.has (call382 s _ hs) ⟨rfl, rfl, rfl, trivial⟩ rfl sP (.inl ⟨rfl, ?_⟩);refine zz ?_;rw [canonL_int64]
end Go.Proofs
