/- Part O of a proof. -/
import Derived.Test.YteadlnapgiochaaGreatDoorCeC
import Derived.Test.YteadlnapgiochaaGreatDoorProg
import Derived.Test.YteadlnapgiochaaGreatDoorCeA
import Derived.Test.YteadlnapgiochaaGreatDoorCeF
import Derived.Test.YteadlnapgiochaaGreatDoorCeN
import Derived.Test.YteadlnapgiochaaGreatDoorCeM
import Derived.Lib.Bytealg
set_option linter.unusedVariables false
set_option linter.unusedSimpArgs false
set_option linter.unusedSectionVars false
set_option linter.constructorNameAsVariable false
set_option linter.unnecessarySimpa false
set_option maxRecDepth 10000
namespace Go.Proofs
open Go Av
open Av.Y
def ir3:Ic:=q (R (ox 3 0<|ow 6 false<|N) [0,6])<|q (D (.regd [(2,3),(0,6),(2,6),(3,6),(5,6),(0,7),(2,7),(3,7),(5,7),(6,7)] (oL 9 3 3<|om 10 1<|cl 11 4 [t 9,t 10]<|oL 12 3 3<|om 13 2<|cl 14 4 [t 12,t 13]<|oN 7 [.int .i64 0,.nil 9,.nil 7,.nil 4,.nil 20]<|oN 8 [.int .i64 0,.nil 9,.nil 7,.nil 4,.nil 20]<|oS 5 7 11<|oS 5 8 14<|N)) [1,2,3,9,10,11,12,13,14])<|q (D (.regd [(4,5),(4,6)] (cl 15 5 []<|om 16 15<|.sc 16 true (oL 17 5 7<|oL 18 5 8<|cl 19 6 [t 17,t 18]<|oL 20 5 7<|oL 21 5 8<|cl 22 7 [t 20,t 21]<|ot 23 .beq 19 22<|N) (t 23) 24 (om 25 24<|.sc 25 true (oL 26 5 7<|oL 27 5 7<|cl 28 6 [t 26,t 27]<|N) (t 28) 29 (om 6 29<|N)))) [7,8,15,16,24,25,29])<|.ret
theorem ok3:FT 3 30 ir3 [.tmp 6]:=.o Tryz.func3
def ir6:Ic:=q (R (ox 2 0<|ox 3 1<|ow 4 false<|N) [0,1,4])<|q (.reg (ok 5 (.k (.fn (.func 15) [] []))<|N))<|q (R (of 6 2 0<|ol 7 6<|of 8 3 0<|ol 9 8<|ot 10 .eql 7 9<|om 11 10<|.sc 11 true (of 12 2 1<|ol 13 12<|of 14 3 1<|ol 15 14<|cl 16 17 [t 13,t 15,.k (.fn (.func 18) [] [])]<|N) (t 16) 17 (om 18 17<|.sc 18 true (of 19 2 2<|ol 20 19<|of 21 3 2<|ol 22 21<|om 23 5<|cl 24 19 [t 20,t 22,t 23]<|N) (t 24) 25 (om 26 25<|.sc 26 true (of 27 2 3<|ol 28 27<|of 29 3 3<|ol 30 29<|cl 31 20 [t 28,t 30]<|N) (t 31) 32 (om 33 32<|.sc 33 true (of 34 2 4<|ol 35 34<|of 36 3 4<|ol 37 36<|cl 38 21 [t 35,t 37,.k (.fn (.func 22) [] [])]<|N) (t 38) 39 (om 4 39<|N))))) [2,3,5,6,7,8,9,10,11,17,18,25,26,32,33,39])<|.ret
theorem ok6:FT 6 40 ir6 [.tmp 4]:=.o Tryz.func6
def ir7:Ic:=q (R (ox 2 0<|ox 3 1<|ow 4 false<|N) [0,1,4])<|q (q (R (of 11 2 0<|ol 12 11<|of 13 3 0<|ol 14 13<|ot 15 .neq 12 14<|om 16 15<|.sc 16 false (of 17 2 1<|ol 18 17<|oh 19 18<|of 20 3 1<|ol 21 20<|oh 22 21<|ot 23 .neq 19 22<|N) (t 23) 24 (om 25 24<|.sc 25 false (of 26 2 2<|ol 27 26<|oh 28 27<|of 29 3 2<|ol 30 29<|oh 31 30<|ot 32 .neq 28 31<|N) (t 32) 33 (om 34 33<|.sc 34 false (of 35 2 3<|ol 36 35<|oh 37 36<|of 38 3 3<|ol 39 38<|oh 40 39<|ot 41 .neq 37 40<|N) (t 41) 42 (om 43 42<|.sc 43 false (of 44 2 4<|ol 45 44<|oh 46 45<|of 47 3 4<|ol 48 47<|oh 49 48<|ot 50 .neq 46 49<|N) (t 50) 51 N)))) [11,12,13,14,15,16,24,25,33,34,42,43])<|D (I 51 (q (R (ow 4 false<|N) [2,3,51])<|.ret) S) [51])<|q (q (.reg (oz 5 0<|N))<|D (.block 0<|.loop (q (q (R (om 52 5<|of 53 2 1<|ol 54 53<|oh 55 54<|ot 56 .lss 52 55<|N) [52,53,54,55])<|D (I 56 S (E 0)) [56])<|q (D (.block 1<|q (R (of 59 2 1<|ol 60 59<|om 61 5<|oa true 62 9 60 61<|oL 63 9 62<|of 64 3 1<|ol 65 64<|om 66 5<|oa true 67 9 65 66<|oL 68 9 67<|cl 69 18 [t 63,t 68]<|og 70 69<|N) [59,60,61,62,63,64,65,66,67,68,69])<|D (I 70 (q (R (ow 4 false<|N) [2,3,5,70])<|.ret) S) [70]) [])<|R (om 57 5<|oi 58 .add 57 1<|om 5 58<|N) [57,58])) [5,56])<|q (q (.reg (oz 6 0<|N))<|D (.block 2<|.loop (q (q (R (om 71 6<|of 72 2 2<|ol 73 72<|oh 74 73<|ot 75 .lss 71 74<|N) [71,72,73,74])<|D (I 75 S (E 2)) [75])<|q (D (.block 3<|q (D (.regd [(1,10),(3,10),(4,10),(6,10),(8,10),(9,10),(1,11),(3,11),(4,11),(6,11),(8,11),(9,11),(10,11),(6,12),(8,12),(9,12)] (of 78 2 2<|ol 79 78<|om 80 6<|oa true 81 7 79 80<|oL 82 7 81<|of 83 3 2<|ol 84 83<|om 85 6<|oa true 86 7 84 85<|oL 87 7 86<|oN 7 [.str [],.int .i64 0,.str [],.int .i64 0,.int .i64 0,.int .i64 0,.nil 1]<|oN 8 [.str [],.int .i64 0,.str [],.int .i64 0,.int .i64 0,.int .i64 0,.nil 1]<|oS 7 7 82<|oS 7 8 87<|N)) [78,79,80,81,82,83,84,85,86,87])<|q (R (of 88 7 0<|ol 89 88<|of 90 8 0<|ol 91 90<|ot 92 .sne 89 91<|om 93 92<|.sc 93 false (of 94 7 1<|ol 95 94<|of 96 8 1<|ol 97 96<|ot 98 .neq 95 97<|N) (t 98) 99 (om 100 99<|.sc 100 false (of 101 7 2<|ol 102 101<|of 103 8 2<|ol 104 103<|ot 105 .sne 102 104<|N) (t 105) 106 (om 107 106<|.sc 107 false (of 108 7 3<|ol 109 108<|of 110 8 3<|ol 111 110<|ot 112 .neq 109 111<|N) (t 112) 113 (om 114 113<|.sc 114 false (of 115 7 4<|oL 116 3 115<|of 117 8 4<|oL 118 3 117<|cl 119 23 [t 116,t 118]<|og 120 119<|N) (t 120) 121 N)))) [7,8,88,89,90,91,92,93,99,100,106,107,113,114])<|D (I 121 (q (R (ow 4 false<|N) [2,3,6,121])<|.ret) S) [121]) [])<|R (om 76 6<|oi 77 .add 76 1<|om 6 77<|N) [76,77])) [6,75,7,8])<|q (q (.reg (oz 9 0<|N))<|D (.block 4<|.loop (q (q (R (om 122 9<|of 123 2 3<|ol 124 123<|oh 125 124<|ot 126 .lss 122 125<|N) [122,123,124,125])<|D (I 126 S (E 4)) [126])<|q (D (.block 5<|q (R (of 129 2 3<|ol 130 129<|om 131 9<|oa true 132 4 130 131<|oL 133 4 132<|of 134 3 3<|ol 135 134<|om 136 9<|oa true 137 4 135 136<|oL 138 4 137<|ot 139 (.tne [.s,.s,.s,.b]) 133 138<|N) [129,130,131,132,133,134,135,136,137,138])<|D (I 139 (q (R (ow 4 false<|N) [2,3,9,139])<|.ret) S) [139]) [])<|R (om 127 9<|oi 128 .add 127 1<|om 9 128<|N) [127,128])) [9,126])<|q (q (.reg (oz 10 0<|N))<|D (.block 6<|.loop (q (q (R (om 140 10<|of 141 2 4<|ol 142 141<|oh 143 142<|ot 144 .lss 140 143<|N) [140,141,142,143])<|D (I 144 S (E 6)) [144])<|q (D (.block 7<|q (R (of 147 2 4<|ol 148 147<|om 149 10<|oa true 150 20 148 149<|oL 151 20 150<|of 152 3 4<|ol 153 152<|om 154 10<|oa true 155 20 153 154<|oL 156 20 155<|cl 157 24 [t 151,t 156]<|og 158 157<|N) [147,148,149,150,151,152,153,154,155,156,157])<|D (I 158 (q (R (ow 4 false<|N) [2,3,10,158])<|.ret) S) [158]) [])<|R (om 145 10<|oi 146 .add 145 1<|om 10 146<|N) [145,146])) [2,3,10,144])<|q (.reg (ow 4 true<|N))<|.ret
theorem ok7:FT 7 159 ir7 [.tmp 4]:=.o Tryz.func7
def ir15:Ic:=q (R (ox 2 0<|ox 3 1<|ow 4 false<|N) [0,1,4])<|q (R (of 5 2 0<|ol 6 5<|of 7 3 0<|ol 8 7<|ot 9 .seq 6 8<|om 10 9<|.sc 10 true (of 11 2 1<|ol 12 11<|of 13 3 1<|ol 14 13<|ot 15 .eql 12 14<|N) (t 15) 16 (om 17 16<|.sc 17 true (of 18 2 2<|ol 19 18<|of 20 3 2<|ol 21 20<|ot 22 .seq 19 21<|N) (t 22) 23 (om 24 23<|.sc 24 true (of 25 2 3<|ol 26 25<|of 27 3 3<|ol 28 27<|ot 29 .eql 26 28<|N) (t 29) 30 (om 31 30<|.sc 31 true (of 32 2 4<|of 33 32 0<|ol 34 33<|of 35 3 4<|of 36 35 0<|ol 37 36<|ot 38 .eql 34 37<|N) (t 38) 39 (om 40 39<|.sc 40 true (of 41 2 4<|of 42 41 1<|ol 43 42<|of 44 3 4<|of 45 44 1<|ol 46 45<|ot 47 .eql 43 46<|N) (t 47) 48 (om 49 48<|.sc 49 true (of 50 2 4<|of 51 50 2<|ol 52 51<|of 53 3 4<|of 54 53 2<|ol 55 54<|cl 56 16 [t 52,t 55]<|N) (t 56) 57 (om 4 57<|N))))))) [2,3,5,6,7,8,9,10,16,17,23,24,30,31,39,40,48,49,57])<|.ret
theorem ok15:FT 15 58 ir15 [.tmp 4]:=.o Tryz.func15
def ir16:Ic:=q (R (ow 4 false<|N) [4])<|q (q (R (om 6 0<|oh 7 6<|om 8 1<|oh 9 8<|ot 10 .neq 7 9<|N) [6,7,8,9])<|D (I 10 (q (R (ow 4 false<|N) [0,1,10])<|.ret) S) [10])<|q (q (R (om 11 0<|oh 12 11<|oz 13 0<|N) [11])<|D (.block 0<|.loop (q (.reg (ot 14 .lss 13 12<|N))<|q (D (I 14 S (E 0)) [14])<|q (D (.block 1<|q (R (om 15 13<|om 5 15<|N) [15])<|q (R (om 16 0<|om 17 5<|oa false 18 1 16 17<|ol 19 18<|om 20 1<|om 21 5<|oa false 22 1 20 21<|ol 23 22<|ot 24 .neq 19 23<|N) [5,16,17,18,19,20,21,22,23])<|D (I 24 (q (R (ow 4 false<|N) [0,1,12,13,24])<|.ret) S) [24]) [])<|R (oi 25 .add 13 1<|om 13 25<|N) [25])) [0,1,12,13,14,5])<|q (.reg (ow 4 true<|N))<|.ret
theorem ok16:FT 16 26 ir16 [.tmp 4]:=.o Tryz.func16
def ir17:Ic:=q (R (ow 6 false<|N) [6])<|q (q (R (om 10 0<|oh 11 10<|om 12 1<|oh 13 12<|ot 14 .neq 11 13<|N) [10,11,12,13])<|D (I 14 (q (R (ow 6 false<|N) [0,1,2,14])<|.ret) S) [14])<|q (q (R (om 15 0<|oh 16 15<|oz 17 0<|N) [0])<|D (.block 0<|.loop (q (.reg (ot 18 .lss 17 16<|N))<|q (D (I 18 S (E 0)) [18])<|q (D (.block 1<|q (R (om 19 17<|oa true 20 9 15 17<|oL 21 9 20<|oN 8 [.str [],.int .i64 0,.int .i64 0,.int .i64 0,.int .i64 0,.int .i64 0,.nil 1,.nil 7,.nil 11]<|om 7 19<|oS 9 8 21<|N) [19,20,21])<|q (R (om 22 1<|om 23 7<|oa true 24 9 22 23<|oL 25 9 24<|oN 9 [.str [],.int .i64 0,.int .i64 0,.int .i64 0,.int .i64 0,.int .i64 0,.nil 1,.nil 7,.nil 11]<|oS 9 9 25<|N) [7,22,23,24,25])<|q (R (om 26 2<|oL 27 9 8<|oL 28 9 9<|.call (some 29) (.dyn (t 26)) [t 27,t 28] (og 30 29<|N)) [8,9,26,27,28,29])<|D (I 30 (q (R (ow 6 false<|N) [1,2,15,16,17,30])<|.ret) S) [30]) [])<|R (oi 31 .add 17 1<|om 17 31<|N) [31])) [1,2,15,16,17,18,8,7,9])<|q (.reg (ow 6 true<|N))<|.ret
theorem ok17:FT 17 32 ir17 [.tmp 6]:=.o Tryz.func17
def ir18:Ic:=q (R (ox 2 0<|ox 3 1<|ow 4 false<|N) [0,1,4])<|q (R (of 5 2 0<|ol 6 5<|of 7 3 0<|ol 8 7<|ot 9 .seq 6 8<|om 10 9<|.sc 10 true (of 11 2 1<|ol 12 11<|of 13 3 1<|ol 14 13<|ot 15 .eql 12 14<|N) (t 15) 16 (om 17 16<|.sc 17 true (of 18 2 2<|oL 19 7 18<|of 20 3 2<|oL 21 7 20<|cl 22 46 [t 19,t 21]<|N) (t 22) 23 (om 4 23<|N))) [2,3,5,6,7,8,9,10,16,17,23])<|.ret
theorem ok18:FT 18 24 ir18 [.tmp 4]:=.o Tryz.func18
def ir19:Ic:=q (R (ow 6 false<|N) [6])<|q (q (R (om 10 0<|oh 11 10<|om 12 1<|oh 13 12<|ot 14 .neq 11 13<|N) [10,11,12,13])<|D (I 14 (q (R (ow 6 false<|N) [0,1,2,14])<|.ret) S) [14])<|q (q (R (om 15 0<|oh 16 15<|oz 17 0<|N) [0])<|D (.block 0<|.loop (q (.reg (ot 18 .lss 17 16<|N))<|q (D (I 18 S (E 0)) [18])<|q (D (.block 1<|q (R (om 19 17<|oa true 20 7 15 17<|oL 21 7 20<|oN 8 [.str [],.int .i64 0,.str [],.int .i64 0,.int .i64 0,.int .i64 0,.nil 1]<|om 7 19<|oS 7 8 21<|N) [19,20,21])<|q (R (om 22 1<|om 23 7<|oa true 24 7 22 23<|oL 25 7 24<|oN 9 [.str [],.int .i64 0,.str [],.int .i64 0,.int .i64 0,.int .i64 0,.nil 1]<|oS 7 9 25<|N) [7,22,23,24,25])<|q (R (om 26 2<|oL 27 7 8<|oL 28 7 9<|.call (some 29) (.dyn (t 26)) [t 27,t 28] (og 30 29<|N)) [8,9,26,27,28,29])<|D (I 30 (q (R (ow 6 false<|N) [1,2,15,16,17,30])<|.ret) S) [30]) [])<|R (oi 31 .add 17 1<|om 17 31<|N) [31])) [1,2,15,16,17,18,8,7,9])<|q (.reg (ow 6 true<|N))<|.ret
theorem ok19:FT 19 32 ir19 [.tmp 6]:=.o Tryz.func19
def ir20:Ic:=q (R (ow 4 false<|N) [4])<|q (q (R (om 6 0<|oh 7 6<|om 8 1<|oh 9 8<|ot 10 .neq 7 9<|N) [6,7,8,9])<|D (I 10 (q (R (ow 4 false<|N) [0,1,10])<|.ret) S) [10])<|q (q (R (om 11 0<|oh 12 11<|oz 13 0<|N) [11])<|D (.block 0<|.loop (q (.reg (ot 14 .lss 13 12<|N))<|q (D (I 14 S (E 0)) [14])<|q (D (.block 1<|q (R (om 15 13<|om 5 15<|N) [15])<|q (R (om 16 0<|om 17 5<|oa true 18 4 16 17<|oL 19 4 18<|om 20 1<|om 21 5<|oa true 22 4 20 21<|oL 23 4 22<|ot 24 (.tne [.s,.s,.s,.b]) 19 23<|N) [5,16,17,18,19,20,21,22,23])<|D (I 24 (q (R (ow 4 false<|N) [0,1,12,13,24])<|.ret) S) [24]) [])<|R (oi 25 .add 13 1<|om 13 25<|N) [25])) [0,1,12,13,14,5])<|q (.reg (ow 4 true<|N))<|.ret
theorem ok20:FT 20 26 ir20 [.tmp 4]:=.o Tryz.func20
def ir21:Ic:=q (R (ow 6 false<|N) [6])<|q (q (R (om 10 0<|oh 11 10<|om 12 1<|oh 13 12<|ot 14 .neq 11 13<|N) [10,11,12,13])<|D (I 14 (q (R (ow 6 false<|N) [0,1,2,14])<|.ret) S) [14])<|q (q (R (om 15 0<|oh 16 15<|oz 17 0<|N) [0])<|D (.block 0<|.loop (q (.reg (ot 18 .lss 17 16<|N))<|q (D (I 18 S (E 0)) [18])<|q (D (.block 1<|q (R (om 19 17<|oa true 20 20 15 17<|oL 21 20 20<|oN 8 [.str [],.int .i64 0,.int .i64 0,.int .i64 0,.int .i64 0,.int .i64 0,.int .i64 0,.str [],.int .i64 0,.int .i64 0,.int .i64 0,.int .i64 0,.nil 1,.nil 7,.nil 11,.nil 7,.nil 5,.nil 6,.nil 2,.nil 1]<|om 7 19<|oS 20 8 21<|N) [19,20,21])<|q (R (om 22 1<|om 23 7<|oa true 24 20 22 23<|oL 25 20 24<|oN 9 [.str [],.int .i64 0,.int .i64 0,.int .i64 0,.int .i64 0,.int .i64 0,.int .i64 0,.str [],.int .i64 0,.int .i64 0,.int .i64 0,.int .i64 0,.nil 1,.nil 7,.nil 11,.nil 7,.nil 5,.nil 6,.nil 2,.nil 1]<|oS 20 9 25<|N) [7,22,23,24,25])<|q (R (om 26 2<|oL 27 20 8<|oL 28 20 9<|.call (some 29) (.dyn (t 26)) [t 27,t 28] (og 30 29<|N)) [8,9,26,27,28,29])<|D (I 30 (q (R (ow 6 false<|N) [1,2,15,16,17,30])<|.ret) S) [30]) [])<|R (oi 31 .add 17 1<|om 17 31<|N) [31])) [1,2,15,16,17,18,8,7,9])<|q (.reg (ow 6 true<|N))<|.ret
theorem ok21:FT 21 32 ir21 [.tmp 6]:=.o Tryz.func21
def ir22:Ic:=q (R (ox 2 0<|ox 3 1<|ow 4 false<|N) [0,1,4])<|q (R (of 5 2 0<|ol 6 5<|of 7 3 0<|ol 8 7<|ot 9 .seq 6 8<|om 10 9<|.sc 10 true (of 11 2 1<|ol 12 11<|of 13 3 1<|ol 14 13<|ot 15 .eql 12 14<|N) (t 15) 16 (om 17 16<|.sc 17 true (of 18 2 2<|ol 19 18<|of 20 3 2<|ol 21 20<|ot 22 .eql 19 21<|N) (t 22) 23 (om 24 23<|.sc 24 true (of 25 2 3<|ol 26 25<|of 27 3 3<|ol 28 27<|ot 29 .eql 26 28<|N) (t 29) 30 (om 31 30<|.sc 31 true (of 32 2 4<|ol 33 32<|of 34 3 4<|ol 35 34<|ot 36 .eql 33 35<|N) (t 36) 37 (om 38 37<|.sc 38 true (of 39 2 5<|ol 40 39<|of 41 3 5<|ol 42 41<|ot 43 .eql 40 42<|N) (t 43) 44 (om 45 44<|.sc 45 true (of 46 2 6<|ol 47 46<|of 48 3 6<|ol 49 48<|ot 50 .eql 47 49<|N) (t 50) 51 (om 52 51<|.sc 52 true (of 53 2 7<|ol 54 53<|of 55 3 7<|ol 56 55<|ot 57 .seq 54 56<|N) (t 57) 58 (om 59 58<|.sc 59 true (of 60 2 8<|oL 61 7 60<|of 62 3 8<|oL 63 7 62<|cl 64 46 [t 61,t 63]<|N) (t 64) 65 (om 66 65<|.sc 66 true (of 67 2 15<|ol 68 67<|of 69 3 15<|ol 70 69<|cl 71 47 [t 68,t 70,.k (.fn (.func 46) [] [])]<|N) (t 71) 72 (om 73 72<|.sc 73 true (of 74 2 16<|ol 75 74<|of 76 3 16<|ol 77 76<|cl 78 48 [t 75,t 77,.k (.fn (.func 49) [] [])]<|N) (t 78) 79 (om 80 79<|.sc 80 true (of 81 2 17<|oL 82 1 81<|of 83 3 17<|oL 84 1 83<|cl 85 50 [t 82,t 84]<|N) (t 85) 86 (om 87 86<|.sc 87 true (of 88 2 19<|ol 89 88<|of 90 3 19<|ol 91 90<|cl 92 16 [t 89,t 91]<|N) (t 92) 93 (om 94 93<|.sc 94 true (of 95 2 18<|ol 96 95<|of 97 3 18<|ol 98 97<|cl 99 51 [t 96,t 98,.k (.fn (.func 52) [] [])]<|N) (t 99) 100 (om 4 100<|N)))))))))))))) [2,3,5,6,7,8,9,10,16,17,23,24,30,31,37,38,44,45,51,52,58,59,65,66,72,73,79,80,86,87,93,94,100])<|.ret
theorem ok22:FT 22 101 ir22 [.tmp 4]:=.o Tryz.func22
def ir23:Ic:=q (R (ox 2 0<|ox 3 1<|ow 4 false<|N) [0,1,4])<|q (R (of 5 2 0<|ol 6 5<|of 7 3 0<|ol 8 7<|ot 9 .eql 6 8<|om 10 9<|.sc 10 true (of 11 2 1<|ol 12 11<|of 13 3 1<|ol 14 13<|ot 15 .eql 12 14<|N) (t 15) 16 (om 17 16<|.sc 17 true (of 18 2 2<|ol 19 18<|of 20 3 2<|ol 21 20<|cl 22 16 [t 19,t 21]<|N) (t 22) 23 (om 4 23<|N))) [2,3,5,6,7,8,9,10,16,17,23])<|.ret
theorem ok23:FT 23 24 ir23 [.tmp 4]:=.o Tryz.func23
def ir24:Ic:=q (R (ox 2 0<|ox 3 1<|ow 4 false<|N) [0,1,4])<|q (q (R (of 8 2 0<|ol 9 8<|of 10 3 0<|ol 11 10<|ot 12 .sne 9 11<|om 13 12<|.sc 13 false (of 14 2 1<|ol 15 14<|of 16 3 1<|ol 17 16<|ot 18 .neq 15 17<|N) (t 18) 19 (om 20 19<|.sc 20 false (of 21 2 2<|ol 22 21<|of 23 3 2<|ol 24 23<|ot 25 .neq 22 24<|N) (t 25) 26 (om 27 26<|.sc 27 false (of 28 2 3<|ol 29 28<|of 30 3 3<|ol 31 30<|ot 32 .neq 29 31<|N) (t 32) 33 (om 34 33<|.sc 34 false (of 35 2 4<|ol 36 35<|of 37 3 4<|ol 38 37<|ot 39 .neq 36 38<|N) (t 39) 40 (om 41 40<|.sc 41 false (of 42 2 5<|ol 43 42<|of 44 3 5<|ol 45 44<|ot 46 .neq 43 45<|N) (t 46) 47 (om 48 47<|.sc 48 false (of 49 2 6<|ol 50 49<|of 51 3 6<|ol 52 51<|ot 53 .neq 50 52<|N) (t 53) 54 (om 55 54<|.sc 55 false (of 56 2 7<|ol 57 56<|of 58 3 7<|ol 59 58<|ot 60 .sne 57 59<|N) (t 60) 61 (om 62 61<|.sc 62 false (of 63 2 8<|oL 64 7 63<|of 65 3 8<|oL 66 7 65<|cl 67 46 [t 64,t 66]<|og 68 67<|N) (t 68) 69 (om 70 69<|.sc 70 false (of 71 2 15<|ol 72 71<|oh 73 72<|of 74 3 15<|ol 75 74<|oh 76 75<|ot 77 .neq 73 76<|N) (t 77) 78 (om 79 78<|.sc 79 false (of 80 2 16<|ol 81 80<|of 82 3 16<|ol 83 82<|cl 84 53 [t 81,t 83]<|og 85 84<|N) (t 85) 86 (om 87 86<|.sc 87 false (of 88 2 17<|oL 89 1 88<|of 90 3 17<|oL 91 1 90<|cl 92 54 [t 89,t 91]<|og 93 92<|N) (t 93) 94 (om 95 94<|.sc 95 false (of 96 2 18<|ol 97 96<|oh 98 97<|of 99 3 18<|ol 100 99<|oh 101 100<|ot 102 .neq 98 101<|N) (t 102) 103 (om 104 103<|.sc 104 false (of 105 2 19<|ol 106 105<|oh 107 106<|of 108 3 19<|ol 109 108<|oh 110 109<|ot 111 .neq 107 110<|N) (t 111) 112 N))))))))))))) [8,9,10,11,12,13,19,20,26,27,33,34,40,41,47,48,54,55,61,62,69,70,78,79,86,87,94,95,103,104])<|D (I 112 (q (R (ow 4 false<|N) [2,3,112])<|.ret) S) [112])<|q (q (.reg (oz 5 0<|N))<|D (.block 0<|.loop (q (q (R (om 113 5<|of 114 2 15<|ol 115 114<|oh 116 115<|ot 117 .lss 113 116<|N) [113,114,115,116])<|D (I 117 S (E 0)) [117])<|q (D (.block 1<|q (R (of 120 2 15<|ol 121 120<|om 122 5<|oa true 123 7 121 122<|oL 124 7 123<|of 125 3 15<|ol 126 125<|om 127 5<|oa true 128 7 126 127<|oL 129 7 128<|cl 130 46 [t 124,t 129]<|og 131 130<|N) [120,121,122,123,124,125,126,127,128,129,130])<|D (I 131 (q (R (ow 4 false<|N) [2,3,5,131])<|.ret) S) [131]) [])<|R (om 118 5<|oi 119 .add 118 1<|om 5 119<|N) [118,119])) [5,117])<|q (q (.reg (oz 6 0<|N))<|D (.block 2<|.loop (q (q (R (om 132 6<|of 133 2 18<|ol 134 133<|oh 135 134<|ot 136 .lss 132 135<|N) [132,133,134,135])<|D (I 136 S (E 2)) [136])<|q (D (.block 3<|q (R (of 139 2 18<|ol 140 139<|om 141 6<|oa true 142 2 140 141<|of 143 142 0<|ol 144 143<|of 145 3 18<|ol 146 145<|om 147 6<|oa true 148 2 146 147<|of 149 148 0<|ol 150 149<|ot 151 .sne 144 150<|om 152 151<|.sc 152 false (of 153 2 18<|ol 154 153<|om 155 6<|oa true 156 2 154 155<|of 157 156 1<|oL 158 1 157<|of 159 3 18<|ol 160 159<|om 161 6<|oa true 162 2 160 161<|of 163 162 1<|oL 164 1 163<|cl 165 54 [t 158,t 164]<|og 166 165<|N) (t 166) 167 N) [139,140,141,142,143,144,145,146,147,148,149,150,151,152])<|D (I 167 (q (R (ow 4 false<|N) [2,3,6,167])<|.ret) S) [167]) [])<|R (om 137 6<|oi 138 .add 137 1<|om 6 138<|N) [137,138])) [6,136])<|q (q (.reg (oz 7 0<|N))<|D (.block 4<|.loop (q (q (R (om 168 7<|of 169 2 19<|ol 170 169<|oh 171 170<|ot 172 .lss 168 171<|N) [168,169,170,171])<|D (I 172 S (E 4)) [172])<|q (D (.block 5<|q (R (of 175 2 19<|ol 176 175<|om 177 7<|oa false 178 1 176 177<|ol 179 178<|of 180 3 19<|ol 181 180<|om 182 7<|oa false 183 1 181 182<|ol 184 183<|ot 185 .neq 179 184<|N) [175,176,177,178,179,180,181,182,183,184])<|D (I 185 (q (R (ow 4 false<|N) [2,3,7,185])<|.ret) S) [185]) [])<|R (om 173 7<|oi 174 .add 173 1<|om 7 174<|N) [173,174])) [2,3,7,172])<|q (.reg (ow 4 true<|N))<|.ret
theorem ok24:FT 24 186 ir24 [.tmp 4]:=.o Tryz.func24
def ir48:Ic:=q (R (ow 6 false<|N) [6])<|q (q (R (om 10 0<|oh 11 10<|om 12 1<|oh 13 12<|ot 14 .neq 11 13<|N) [10,11,12,13])<|D (I 14 (q (R (ow 6 false<|N) [0,1,2,14])<|.ret) S) [14])<|q (q (R (om 15 0<|oh 16 15<|oz 17 0<|N) [0])<|D (.block 0<|.loop (q (.reg (ot 18 .lss 17 16<|N))<|q (D (I 18 S (E 0)) [18])<|q (D (.block 1<|q (R (om 19 17<|oa true 20 5 15 17<|oL 21 5 20<|oN 8 [.int .i64 0,.int .i64 0,.str [],.nil 6,.nil 5]<|om 7 19<|oS 5 8 21<|N) [19,20,21])<|q (R (om 22 1<|om 23 7<|oa true 24 5 22 23<|oL 25 5 24<|oN 9 [.int .i64 0,.int .i64 0,.str [],.nil 6,.nil 5]<|oS 5 9 25<|N) [7,22,23,24,25])<|q (R (om 26 2<|oL 27 5 8<|oL 28 5 9<|.call (some 29) (.dyn (t 26)) [t 27,t 28] (og 30 29<|N)) [8,9,26,27,28,29])<|D (I 30 (q (R (ow 6 false<|N) [1,2,15,16,17,30])<|.ret) S) [30]) [])<|R (oi 31 .add 17 1<|om 17 31<|N) [31])) [1,2,15,16,17,18,8,7,9])<|q (.reg (ow 6 true<|N))<|.ret
theorem ok48:FT 48 32 ir48 [.tmp 6]:=.o Tryz.func48
def ir49:Ic:=q (R (ox 2 0<|ox 3 1<|ow 4 false<|N) [0,1,4])<|q (R (of 5 2 0<|ol 6 5<|of 7 3 0<|ol 8 7<|ot 9 .eql 6 8<|om 10 9<|.sc 10 true (of 11 2 1<|ol 12 11<|of 13 3 1<|ol 14 13<|ot 15 .eql 12 14<|N) (t 15) 16 (om 17 16<|.sc 17 true (of 18 2 2<|ol 19 18<|of 20 3 2<|ol 21 20<|ot 22 .seq 19 21<|N) (t 22) 23 (om 24 23<|.sc 24 true (of 25 2 3<|ol 26 25<|of 27 3 3<|ol 28 27<|cl 29 107 [t 26,t 28,.k (.fn (.func 108) [] [])]<|N) (t 29) 30 (om 31 30<|.sc 31 true (of 32 2 4<|ol 33 32<|of 34 3 4<|ol 35 34<|cl 36 48 [t 33,t 35,.k (.fn (.func 49) [] [])]<|N) (t 36) 37 (om 4 37<|N))))) [2,3,5,6,7,8,9,10,16,17,23,24,30,31,37])<|.ret
theorem ok49:FT 49 38 ir49 [.tmp 4]:=.o Tryz.func49
def ir50:Ic:=q (R (ox 2 0<|ox 3 1<|ow 4 false<|N) [0,1,4])<|q (R (of 5 2 0<|ol 6 5<|of 7 3 0<|ol 8 7<|cl 9 109 [t 6,t 8,.k (.fn (.func 110) [] [])]<|om 4 9<|N) [2,3,5,6,7,8,9])<|.ret
theorem ok50:FT 50 10 ir50 [.tmp 4]:=.o Tryz.func50
def ir51:Ic:=q (R (ow 6 false<|N) [6])<|q (q (R (om 10 0<|oh 11 10<|om 12 1<|oh 13 12<|ot 14 .neq 11 13<|N) [10,11,12,13])<|D (I 14 (q (R (ow 6 false<|N) [0,1,2,14])<|.ret) S) [14])<|q (q (R (om 15 0<|oh 16 15<|oz 17 0<|N) [0])<|D (.block 0<|.loop (q (.reg (ot 18 .lss 17 16<|N))<|q (D (I 18 S (E 0)) [18])<|q (D (.block 1<|q (R (om 19 17<|oa true 20 2 15 17<|oL 21 2 20<|oN 8 [.str [],.nil 6]<|om 7 19<|oS 2 8 21<|N) [19,20,21])<|q (R (om 22 1<|om 23 7<|oa true 24 2 22 23<|oL 25 2 24<|oN 9 [.str [],.nil 6]<|oS 2 9 25<|N) [7,22,23,24,25])<|q (R (om 26 2<|oL 27 2 8<|oL 28 2 9<|.call (some 29) (.dyn (t 26)) [t 27,t 28] (og 30 29<|N)) [8,9,26,27,28,29])<|D (I 30 (q (R (ow 6 false<|N) [1,2,15,16,17,30])<|.ret) S) [30]) [])<|R (oi 31 .add 17 1<|om 17 31<|N) [31])) [1,2,15,16,17,18,8,7,9])<|q (.reg (ow 6 true<|N))<|.ret
theorem ok51:FT 51 32 ir51 [.tmp 6]:=.o Tryz.func51
def ir52:Ic:=q (R (ox 2 0<|ox 3 1<|ow 4 false<|N) [0,1,4])<|q (R (of 5 2 0<|ol 6 5<|of 7 3 0<|ol 8 7<|ot 9 .seq 6 8<|om 10 9<|.sc 10 true (of 11 2 1<|oL 12 1 11<|of 13 3 1<|oL 14 1 13<|cl 15 50 [t 12,t 14]<|N) (t 15) 16 (om 4 16<|N)) [2,3,5,6,7,8,9,10,16])<|.ret
theorem ok52:FT 52 17 ir52 [.tmp 4]:=.o Tryz.func52
def ir53:Ic:=q (R (ow 4 false<|N) [4])<|q (q (R (om 6 0<|oh 7 6<|om 8 1<|oh 9 8<|ot 10 .neq 7 9<|N) [6,7,8,9])<|D (I 10 (q (R (ow 4 false<|N) [0,1,10])<|.ret) S) [10])<|q (q (.reg (oz 5 0<|N))<|D (.block 0<|.loop (q (q (R (om 11 5<|om 12 0<|oh 13 12<|ot 14 .lss 11 13<|N) [11,12,13])<|D (I 14 S (E 0)) [14])<|q (D (.block 1<|q (R (om 17 0<|om 18 5<|oa true 19 5 17 18<|oL 20 5 19<|om 21 1<|om 22 5<|oa true 23 5 21 22<|oL 24 5 23<|cl 25 49 [t 20,t 24]<|og 26 25<|N) [17,18,19,20,21,22,23,24,25])<|D (I 26 (q (R (ow 4 false<|N) [0,1,5,26])<|.ret) S) [26]) [])<|R (om 15 5<|oi 16 .add 15 1<|om 5 16<|N) [15,16])) [0,1,5,14])<|q (.reg (ow 4 true<|N))<|.ret
theorem ok53:FT 53 27 ir53 [.tmp 4]:=.o Tryz.func53
def ir54:Ic:=q (R (ox 2 0<|ox 3 1<|ow 4 false<|N) [0,1,4])<|q (q (R (of 6 2 0<|ol 7 6<|oh 8 7<|of 9 3 0<|ol 10 9<|oh 11 10<|ot 12 .neq 8 11<|N) [6,7,8,9,10,11])<|D (I 12 (q (R (ow 4 false<|N) [2,3,12])<|.ret) S) [12])<|q (q (.reg (oz 5 0<|N))<|D (.block 0<|.loop (q (q (R (om 13 5<|of 14 2 0<|ol 15 14<|oh 16 15<|ot 17 .lss 13 16<|N) [13,14,15,16])<|D (I 17 S (E 0)) [17])<|q (D (.block 1<|q (R (of 20 2 0<|ol 21 20<|om 22 5<|oa true 23 6 21 22<|of 24 23 0<|ol 25 24<|of 26 3 0<|ol 27 26<|om 28 5<|oa true 29 6 27 28<|of 30 29 0<|ol 31 30<|ot 32 .sne 25 31<|om 33 32<|.sc 33 false (of 34 2 0<|ol 35 34<|om 36 5<|oa true 37 6 35 36<|of 38 37 1<|oL 39 5 38<|of 40 3 0<|ol 41 40<|om 42 5<|oa true 43 6 41 42<|of 44 43 1<|oL 45 5 44<|cl 46 49 [t 39,t 45]<|og 47 46<|N) (t 47) 48 N) [20,21,22,23,24,25,26,27,28,29,30,31,32,33])<|D (I 48 (q (R (ow 4 false<|N) [2,3,5,48])<|.ret) S) [48]) [])<|R (om 18 5<|oi 19 .add 18 1<|om 5 19<|N) [18,19])) [2,3,5,17])<|q (.reg (ow 4 true<|N))<|.ret
theorem ok54:FT 54 49 ir54 [.tmp 4]:=.o Tryz.func54
def JTA:Ic:=q (R (ow 6 false<|N) [6])<|q (q (R (om 10 0<|oh 11 10<|om 12 1<|oh 13 12<|ot 14 .neq 11 13<|N) [10,11,12,13])<|D (I 14 (q (R (ow 6 false<|N) [0,1,2,14])<|.ret) S) [14])<|q (q (R (om 15 0<|oh 16 15<|oz 17 0<|N) [0])<|D (.block 0<|.loop (q (.reg (ot 18 .lss 17 16<|N))<|q (D (I 18 S (E 0)) [18])<|q (D (.block 1<|q (R (om 19 17<|oa true 20 6 15 17<|oL 21 6 20<|oN 8 [.str [],.int .i64 0,.int .i64 0,.str [],.nil 6,.nil 5]<|om 7 19<|oS 6 8 21<|N) [19,20,21])<|q (R (om 22 1<|om 23 7<|oa true 24 6 22 23<|oL 25 6 24<|oN 9 [.str [],.int .i64 0,.int .i64 0,.str [],.nil 6,.nil 5]<|oS 6 9 25<|N) [7,22,23,24,25])<|q (R (om 26 2<|oL 27 6 8<|oL 28 6 9<|.call (some 29) (.dyn (t 26)) [t 27,t 28] (og 30 29<|N)) [8,9,26,27,28,29])<|D (I 30 (q (R (ow 6 false<|N) [1,2,15,16,17,30])<|.ret) S) [30]) [])<|R (oi 31 .add 17 1<|om 17 31<|N) [31])) [1,2,15,16,17,18,8,7,9])<|q (.reg (ow 6 true<|N))<|.ret
theorem ok109:FT 109 32 JTA [.tmp 6]:=.o Tryz.func109
def JTB:Ic:=q (R (ox 2 0<|ox 3 1<|ow 4 false<|N) [0,1,4])<|q (R (of 5 2 0<|ol 6 5<|of 7 3 0<|ol 8 7<|ot 9 .seq 6 8<|om 10 9<|.sc 10 true (of 11 2 1<|oL 12 5 11<|of 13 3 1<|oL 14 5 13<|cl 15 49 [t 12,t 14]<|N) (t 15) 16 (om 4 16<|N)) [2,3,5,6,7,8,9,10,16])<|.ret
theorem ok110:FT 110 17 JTB [.tmp 4]:=.o Tryz.func110
end Go.Proofs
namespace Go.Proofs
open Go Av
open Av.Y
def JTC:Ic:=q (R (ow 4 false<|N) [4])<|q (q (R (om 6 0<|oh 7 6<|om 8 1<|oh 9 8<|ot 10 .neq 7 9<|N) [6,7,8,9])<|D (I 10 (q (R (ow 4 false<|N) [0,1,10])<|.ret) S) [10])<|q (q (R (om 11 0<|oh 12 11<|oz 13 0<|N) [11])<|D (.block 0<|.loop (q (.reg (ot 14 .lss 13 12<|N))<|q (D (I 14 S (E 0)) [14])<|q (D (.block 1<|q (R (om 15 13<|om 5 15<|N) [15])<|q (R (om 16 0<|om 17 5<|oa false 18 1 16 17<|ol 19 18<|om 20 1<|om 21 5<|oa false 22 1 20 21<|ol 23 22<|ot 24 .sne 19 23<|N) [5,16,17,18,19,20,21,22,23])<|D (I 24 (q (R (ow 4 false<|N) [0,1,12,13,24])<|.ret) S) [24]) [])<|R (oi 25 .add 13 1<|om 13 25<|N) [25])) [0,1,12,13,14,5])<|q (.reg (ow 4 true<|N))<|.ret
theorem ok104:FT 104 26 JTC [.tmp 4]:=.o Tryz.func104
end Go.Proofs
namespace Go.Proofs
open Go Av
theorem JRm(xs ys:List Str)(hl:xs.length≤68719476736):
  PT 104 [.list 1 (xs.map .str),.list 1 (ys.map .str)] (.d (.bool (eqF (fun(x y:Str)=>x==y) xs ys))):=by
 refine ok104.pc ?_;simp only[go_sem,JTC,simprocAttr];refine⟨fun hne=>?_,fun heq=>?_⟩
 ·simp only[Vc,bne_iff_ne,ne_eq,Int.ofNat_inj]at hne;simp[eqF,hne]
 simp only[Vc,bne_eq_false_iff_eq,Int.ofNat_inj]at heq;refine JH (fun n s=>∃k:Nat,k≤xs.length∧n=xs.length-k∧(∀(j:Nat) (h1:j<xs.length) (h2:j<ys.length),j<k→(xs[j]==ys[j])=true)∧
  s=⟨[(0,.d (.list 1 (xs.map .str))),(1,.d (.list 1 (ys.map .str))),(12,.d (.int .i64 xs.length)),(13,.d (.int .i64 k))],[]⟩) ?_ ?_
 ·refine⟨_,_,Wk.refl _,0,Nat.zero_le _,rfl,sP,?_⟩;simp
 ·rintro n s ⟨k,hk,rfl,hinv,rfl⟩;by_cases hlt:k<xs.length
  ·have hlty:k<ys.length:=oM;have hx:=JIU hlt;have hy:=JIU hlty;have hd:=dT hlt;refine JQi ?_;refine⟨sO,dC,sO,dC,?_⟩;refine⟨fun hne=>?_,fun heq'=>?_⟩
   ·have:eqF (fun(x y:Str)=>x==y) xs ys=false:=by
     cases h0:eqF (fun(x y:Str)=>x==y) xs ys with
     |false=>rfl
     |true=>rw[(Jn heq).1 h0 k hlt oM]at hne;cases hne
    rw[this]
   ·refine zz7 ?_;refine⟨xs.length-(k+1),_,oM,Wk.less ?_,k+1,oM,rfl,?_,rfl⟩
    ·exact zz trivial
    ·intro j h1 h2 hj;by_cases e:j=k
     ·subst e;simpa using heq'
     ·exact hinv j h1 h2 oM
  ·have hd:=dF hlt;refine zz5 ?_;rw[(Jn heq).2 fun j h1 h2=>hinv j h1 h2 oM]
theorem JPr(xs ys:List Typ)(eq:Typ→Typ→Bool)(g:Nat)(hl:xs.length≤68719476736)
  (h:∀x∈xs,∀y∈ys,CT g [.d (UW x),.d (UW y)] [] (.d (.bool (eq x y))) []):
  PT 47 [.list 7 (xs.map UW),.list 7 (ys.map UW),.fn (.func g) [] []] (.d (.bool (eqF eq xs ys))):=by
 refine ok47.pc ?_;simp only[go_sem,ir47,simprocAttr];refine⟨fun hne=>?_,fun heq=>?_⟩
 ·simp only[Vc,bne_iff_ne,ne_eq,Int.ofNat_inj]at hne;simp[eqF,hne]
 simp only[Vc,bne_eq_false_iff_eq,Int.ofNat_inj]at heq;refine JH (fun n s=>∃k:Nat,k≤xs.length∧n=xs.length-k∧(∀(j:Nat) (h1:j<xs.length) (h2:j<ys.length),j<k→eq xs[j] ys[j]=true)∧
  s=⟨[(1,.d (.list 7 (ys.map UW))),(2,.d (.fn (.func g) [] [])),(15,.d (.list 7 (xs.map UW))),(16,.d (.int .i64 xs.length)),(17,.d (.int .i64 k))],[]⟩) ?_ ?_
 ·refine⟨_,_,Wk.refl _,0,Nat.zero_le _,rfl,sP,?_⟩;simp
 ·rintro n s ⟨k,hk,rfl,hinv,rfl⟩;by_cases hlt:k<xs.length
  ·have hlty:k<ys.length:=oM;have hx:=JH4 hlt;have hy:=JH4 hlty;have hd:=dT hlt;refine JQi ?_;have hc:=h xs[k] (Vk _) ys[k] (Vk _);rw[UA,UA]at hc;refine⟨sO,sO,wn hc ?_⟩;refine zz ?_;refine⟨fun hne=>?_,fun heq'=>?_⟩
   ·have:eqF eq xs ys=false:=by
     cases h0:eqF eq xs ys with
     |false=>rfl
     |true=>rw[(Jn heq).1 h0 k hlt oM]at hne;cases hne
    rw[this]
   ·refine zz7 ?_;refine⟨xs.length-(k+1),_,oM,Wk.less ?_,k+1,oM,rfl,?_,rfl⟩
    ·exact zz trivial
    ·intro j h1 h2 hj;by_cases e:j=k
     ·subst e;simpa using heq'
     ·exact hinv j h1 h2 oM
  ·have hd:=dF hlt;refine zz5 ?_;rw[(Jn heq).2 fun j h1 h2=>hinv j h1 h2 oM]
theorem JRn(xs ys:List TFl)(eq:TFl→TFl→Bool)(g:Nat)(hl:xs.length≤68719476736)
  (h:∀x∈xs,∀y∈ys,CT g [.d (Xy x),.d (Xy y)] [] (.d (.bool (eq x y))) []):
  PT 105 [.list 11 (xs.map Xy),.list 11 (ys.map Xy),.fn (.func g) [] []] (.d (.bool (eqF eq xs ys))):=by
 refine ok105.pc ?_;simp only[go_sem,JR5,simprocAttr];refine⟨fun hne=>?_,fun heq=>?_⟩
 ·simp only[Vc,bne_iff_ne,ne_eq,Int.ofNat_inj]at hne;simp[eqF,hne]
 simp only[Vc,bne_eq_false_iff_eq,Int.ofNat_inj]at heq;refine JH (fun n s=>∃k:Nat,k≤xs.length∧n=xs.length-k∧(∀(j:Nat) (h1:j<xs.length) (h2:j<ys.length),j<k→eq xs[j] ys[j]=true)∧
  s=⟨[(1,.d (.list 11 (ys.map Xy))),(2,.d (.fn (.func g) [] [])),(15,.d (.list 11 (xs.map Xy))),(16,.d (.int .i64 xs.length)),(17,.d (.int .i64 k))],[]⟩) ?_ ?_
 ·refine⟨_,_,Wk.refl _,0,Nat.zero_le _,rfl,sP,?_⟩;simp
 ·rintro n s ⟨k,hk,rfl,hinv,rfl⟩;by_cases hlt:k<xs.length
  ·have hlty:k<ys.length:=oM;have hx:=JH5 hlt;have hy:=JH5 hlty;have hd:=dT hlt;refine JQi ?_;have hc:=h xs[k] (Vk _) ys[k] (Vk _);rw[JBF,JBF]at hc;refine⟨sO,sO,wn hc ?_⟩;refine zz ?_;refine⟨fun hne=>?_,fun heq'=>?_⟩
   ·have:eqF eq xs ys=false:=by
     cases h0:eqF eq xs ys with
     |false=>rfl
     |true=>rw[(Jn heq).1 h0 k hlt oM]at hne;cases hne
    rw[this]
   ·refine zz7 ?_;refine⟨xs.length-(k+1),_,oM,Wk.less ?_,k+1,oM,rfl,?_,rfl⟩
    ·exact zz trivial
    ·intro j h1 h2 hj;by_cases e:j=k
     ·subst e;simpa using heq'
     ·exact hinv j h1 h2 oM
  ·have hd:=dF hlt;refine zz5 ?_;rw[(Jn heq).2 fun j h1 h2=>hinv j h1 h2 oM]
def eqG(f:Typ→Typ→Bool)(x y:TFl):Bool:=(((x.number==y.number&&x.name==y.name)&&x.need==y.need)&&f x.type y.type)&&eqF (fun a b=>Yh a b==0) x.dflt y.dflt
def JRo(f:Typ→Typ→Bool)(x y:Typ):Bool:=(((((x.kind==y.kind&&x.min==y.min)&&x.max==y.max)&&x.scale==y.scale)&&eqF (fun(a b:Str)=>a==b) x.words y.words)&&eqF f x.elem y.elem)&&eqF (eqG f) x.fields y.fields
theorem JRp(f:Typ→Typ→Bool)(x y:TFl)(h:PT 46 [UW x.type,UW y.type] (.d (.bool (f x.type y.type)))):PT 106 [Xy x,Xy y] (.d (.bool (eqG f x y))):=by
 refine J3.Jg JSt.has fun hfit=>?_
 have hdl:x.dflt.length≤68719476736:=by
  have:=hfit _ (Vh);rw[JBF]at this;simp only[fits,Ua,Vc,and_true]at this;exact this.2.2.2.2.2.2.2.2.2.2.1
 refine JSt.pc ?_;have c1:=h.call trivial;have c2:=(JKk x.dflt y.dflt (fun a b=>Yh a b==0) 108 hdl (fun a _ b _=>(p108 a b).call trivial)).call trivial;unfold eqG;generalize f x.type y.type=F at*;generalize eqF (fun a b=>Yh a b==0) x.dflt y.dflt=D at*;rw[UA x.type,UA y.type]at c1;rw[JBF,JBF];simp only[go_sem,JSs,simprocAttr];refine sq (x.name==y.name) ?_ ?_
 ·exact zz4 trivial
 refine zz4 ?_;refine sq (x.need==y.need) ?_ ?_
 ·exact zz4 trivial
 refine zz4 ?_;refine XH F (fun _=>?_) ?_
 ·refine zz4 ?_;refine wn c1 ?_;exact zz4 trivial
 refine zz4 ?_;refine XH D (fun _=>?_) ?_
 ·refine zz4 ?_;refine wn c2 ?_;exact zz4 trivial
 exact zz4 trivial
theorem step46(f:Typ→Typ→Bool)(x y:Typ)(h1:∀a∈x.elem,∀b∈y.elem,PT 46 [UW a,UW b] (.d (.bool (f a b))))
  (h2:∀a∈x.fields,∀b∈y.fields,PT 106 [Xy a,Xy b] (.d (.bool (eqG f a b)))):PT 46 [UW x,UW y] (.d (.bool (JRo f x y))):=by
 refine J3.Jg ok46.has fun hfit=>?_
 obtain⟨hw,he,hf⟩:=fits_T (hfit (UW x) sP);refine ok46.pc ?_;have c1:=(JRm x.words y.words hw).call trivial;have c2:=(JPr x.elem y.elem f 46 he (fun a ha b hb=>(h1 a ha b hb).call trivial)).call trivial;have c3:=(JRn x.fields y.fields (eqG f) 106 hf (fun a ha b hb=>(h2 a ha b hb).call trivial)).call trivial;unfold JRo;generalize eqF (fun(a b:Str)=>a==b) x.words y.words=A at*;generalize eqF f x.elem y.elem=B at*;generalize eqF (eqG f) x.fields y.fields=C at*;rw[UA,UA];simp only[go_sem,ir46,simprocAttr];refine sq (x.min==y.min) ?_ ?_
 ·exact zz4 trivial
 refine zz4 ?_;refine sq (x.max==y.max) ?_ ?_
 ·exact zz4 trivial
 refine zz4 ?_;refine sq (x.scale==y.scale) ?_ ?_
 ·exact zz4 trivial
 refine zz4 ?_;refine XH A (fun _=>?_) ?_
 ·refine zz4 ?_;refine wn c1 ?_;exact zz4 trivial
 refine zz4 ?_;refine XH B (fun _=>?_) ?_
 ·refine zz4 ?_;refine wn c2 ?_;exact zz4 trivial
 refine zz4 ?_;refine XH C (fun _=>?_) ?_
 ·refine zz4 ?_;refine wn c3 ?_;exact zz4 trivial
 exact zz4 trivial
def JIo:Nat→Typ→Typ→Bool
 |0,_,_=>true
 |k+1,x,y=>JRo (JIo k) x y
theorem JJy:∀(k:Nat) (x y:Typ),szT x≤k→PT 46 [UW x,UW y] (.d (.bool (JIo k x y)))
 |0,x,y,h=>by rw[JPO]at h;omega
 |k+1,x,y,h=>by
  have e:=JPO x;rw[JIo];exact step46 (JIo k) x y (fun a ha b _=>JJy k a b (by have:=JIV a ha;omega)) (fun a ha b _=>JRp (JIo k) a b (JJy k a.type b.type (by have:=JIW a ha;omega)))
theorem JPs(xs ys:List Exp)(eq:Exp→Exp→Bool)(g:Nat)(hl:xs.length≤68719476736)
  (h:∀x∈xs,∀y∈ys,CT g [.d (JX x),.d (JX y)] [] (.d (.bool (eq x y))) []):
  PT 48 [.list 5 (xs.map JX),.list 5 (ys.map JX),.fn (.func g) [] []] (.d (.bool (eqF eq xs ys))):=by
 refine ok48.pc ?_;simp only[go_sem,ir48,simprocAttr];refine⟨fun hne=>?_,fun heq=>?_⟩
 ·simp only[Vc,bne_iff_ne,ne_eq,Int.ofNat_inj]at hne;simp[eqF,hne]
 simp only[Vc,bne_eq_false_iff_eq,Int.ofNat_inj]at heq;refine JH (fun n s=>∃k:Nat,k≤xs.length∧n=xs.length-k∧(∀(j:Nat) (h1:j<xs.length) (h2:j<ys.length),j<k→eq xs[j] ys[j]=true)∧
  s=⟨[(1,.d (.list 5 (ys.map JX))),(2,.d (.fn (.func g) [] [])),(15,.d (.list 5 (xs.map JX))),(16,.d (.int .i64 xs.length)),(17,.d (.int .i64 k))],[]⟩) ?_ ?_
 ·refine⟨_,_,Wk.refl _,0,Nat.zero_le _,rfl,sP,?_⟩;simp
 ·rintro n s ⟨k,hk,rfl,hinv,rfl⟩;by_cases hlt:k<xs.length
  ·have hlty:k<ys.length:=oM;have hx:=JN JX hlt;have hy:=JN JX hlty;have hd:=dT hlt;have hc:=h xs[k] (Vk _) ys[k] (Vk _);simp only[Jl]at hc hx hy;simp only[go_sem,hx,hy,hd,Vv,Vc,simprocAttr];refine⟨oM,oM,wn hc ?_⟩;simp only[go_sem,Vv,Vc,simprocAttr];refine⟨fun hne=>?_,fun heq'=>?_⟩
   ·have:eqF eq xs ys=false:=by
     cases h0:eqF eq xs ys with
     |false=>rfl
     |true=>rw[(Jn heq).1 h0 k hlt oM]at hne;cases hne
    rw[this]
   ·refine⟨xs.length-(k+1),_,oM,Wk.less ?_,k+1,oM,rfl,?_,rfl⟩
    ·simp only[go_sem,JE k oM,Vv,Vc,simprocAttr]
    ·intro j h1 h2 hj;by_cases e:j=k
     ·subst e;simpa using heq'
     ·exact hinv j h1 h2 oM
  ·have hd:=dF hlt;simp only[go_sem,hd,Vv,Vc,simprocAttr];rw[(Jn heq).2 fun j h1 h2=>hinv j h1 h2 oM]
theorem walk51(xs ys:List Kal)(eq:Kal→Kal→Bool)(g:Nat)(hl:xs.length≤68719476736)
  (h:∀x∈xs,∀y∈ys,CT g [.d (JV x),.d (JV y)] [] (.d (.bool (eq x y))) []):
  PT 51 [.list 2 (xs.map JV),.list 2 (ys.map JV),.fn (.func g) [] []] (.d (.bool (eqF eq xs ys))):=by
 refine ok51.pc ?_;simp only[go_sem,ir51,simprocAttr];refine⟨fun hne=>?_,fun heq=>?_⟩
 ·simp only[Vc,bne_iff_ne,ne_eq,Int.ofNat_inj]at hne;simp[eqF,hne]
 simp only[Vc,bne_eq_false_iff_eq,Int.ofNat_inj]at heq;refine JH (fun n s=>∃k:Nat,k≤xs.length∧n=xs.length-k∧(∀(j:Nat) (h1:j<xs.length) (h2:j<ys.length),j<k→eq xs[j] ys[j]=true)∧
  s=⟨[(1,.d (.list 2 (ys.map JV))),(2,.d (.fn (.func g) [] [])),(15,.d (.list 2 (xs.map JV))),(16,.d (.int .i64 xs.length)),(17,.d (.int .i64 k))],[]⟩) ?_ ?_
 ·refine⟨_,_,Wk.refl _,0,Nat.zero_le _,rfl,sP,?_⟩;simp
 ·rintro n s ⟨k,hk,rfl,hinv,rfl⟩;by_cases hlt:k<xs.length
  ·have hlty:k<ys.length:=oM;have hx:=JN JV hlt;have hy:=JN JV hlty;have hd:=dT hlt;have hc:=h xs[k] (Vk _) ys[k] (Vk _);simp only[JV]at hc hx hy;simp only[go_sem,hx,hy,hd,Vv,Vc,simprocAttr];refine⟨oM,oM,wn hc ?_⟩;simp only[go_sem,Vv,Vc,simprocAttr];refine⟨fun hne=>?_,fun heq'=>?_⟩
   ·have:eqF eq xs ys=false:=by
     cases h0:eqF eq xs ys with
     |false=>rfl
     |true=>rw[(Jn heq).1 h0 k hlt oM]at hne;cases hne
    rw[this]
   ·refine⟨xs.length-(k+1),_,oM,Wk.less ?_,k+1,oM,rfl,?_,rfl⟩
    ·simp only[go_sem,JE k oM,Vv,Vc,simprocAttr]
    ·intro j h1 h2 hj;by_cases e:j=k
     ·subst e;simpa using heq'
     ·exact hinv j h1 h2 oM
  ·have hd:=dF hlt;simp only[go_sem,hd,Vv,Vc,simprocAttr];rw[(Jn heq).2 fun j h1 h2=>hinv j h1 h2 oM]
theorem JRq(xs ys:List Rule)(eq:Rule→Rule→Bool)(g:Nat)(hl:xs.length≤68719476736)
  (h:∀x∈xs,∀y∈ys,CT g [.d (Jz x),.d (Jz y)] [] (.d (.bool (eq x y))) []):
  PT 109 [.list 6 (xs.map Jz),.list 6 (ys.map Jz),.fn (.func g) [] []] (.d (.bool (eqF eq xs ys))):=by
 refine ok109.pc ?_;simp only[go_sem,JTA,simprocAttr];refine⟨fun hne=>?_,fun heq=>?_⟩
 ·simp only[Vc,bne_iff_ne,ne_eq,Int.ofNat_inj]at hne;simp[eqF,hne]
 simp only[Vc,bne_eq_false_iff_eq,Int.ofNat_inj]at heq;refine JH (fun n s=>∃k:Nat,k≤xs.length∧n=xs.length-k∧(∀(j:Nat) (h1:j<xs.length) (h2:j<ys.length),j<k→eq xs[j] ys[j]=true)∧
  s=⟨[(1,.d (.list 6 (ys.map Jz))),(2,.d (.fn (.func g) [] [])),(15,.d (.list 6 (xs.map Jz))),(16,.d (.int .i64 xs.length)),(17,.d (.int .i64 k))],[]⟩) ?_ ?_
 ·refine⟨_,_,Wk.refl _,0,Nat.zero_le _,rfl,sP,?_⟩;simp
 ·rintro n s ⟨k,hk,rfl,hinv,rfl⟩;by_cases hlt:k<xs.length
  ·have hlty:k<ys.length:=oM;have hx:=JN Jz hlt;have hy:=JN Jz hlty;have hd:=dT hlt;have hc:=h xs[k] (Vk _) ys[k] (Vk _);simp only[Jz,Jl]at hc hx hy;simp only[go_sem,hx,hy,hd,Vv,Vc,simprocAttr];refine⟨oM,oM,wn hc ?_⟩;simp only[go_sem,Vv,Vc,simprocAttr];refine⟨fun hne=>?_,fun heq'=>?_⟩
   ·have:eqF eq xs ys=false:=by
     cases h0:eqF eq xs ys with
     |false=>rfl
     |true=>rw[(Jn heq).1 h0 k hlt oM]at hne;cases hne
    rw[this]
   ·refine⟨xs.length-(k+1),_,oM,Wk.less ?_,k+1,oM,rfl,?_,rfl⟩
    ·simp only[go_sem,JE k oM,Vv,Vc,simprocAttr]
    ·intro j h1 h2 hj;by_cases e:j=k
     ·subst e;simpa using heq'
     ·exact hinv j h1 h2 oM
  ·have hd:=dF hlt;simp only[go_sem,hd,Vv,Vc,simprocAttr];rw[(Jn heq).2 fun j h1 h2=>hinv j h1 h2 oM]
theorem walk17(xs ys:List Sch)(eq:Sch→Sch→Bool)(g:Nat)(hl:xs.length≤68719476736)
  (h:∀x∈xs,∀y∈ys,CT g [.d (UB x),.d (UB y)] [] (.d (.bool (eq x y))) []):
  PT 17 [.list 9 (xs.map UB),.list 9 (ys.map UB),.fn (.func g) [] []] (.d (.bool (eqF eq xs ys))):=by
 refine ok17.pc ?_;simp only[go_sem,ir17,simprocAttr];refine⟨fun hne=>?_,fun heq=>?_⟩
 ·simp only[Vc,bne_iff_ne,ne_eq,Int.ofNat_inj]at hne;simp[eqF,hne]
 simp only[Vc,bne_eq_false_iff_eq,Int.ofNat_inj]at heq;refine JH (fun n s=>∃k:Nat,k≤xs.length∧n=xs.length-k∧(∀(j:Nat) (h1:j<xs.length) (h2:j<ys.length),j<k→eq xs[j] ys[j]=true)∧
  s=⟨[(1,.d (.list 9 (ys.map UB))),(2,.d (.fn (.func g) [] [])),(15,.d (.list 9 (xs.map UB))),(16,.d (.int .i64 xs.length)),(17,.d (.int .i64 k))],[]⟩) ?_ ?_
 ·refine⟨_,_,Wk.refl _,0,Nat.zero_le _,rfl,sP,?_⟩;simp
 ·rintro n s ⟨k,hk,rfl,hinv,rfl⟩;by_cases hlt:k<xs.length
  ·have hlty:k<ys.length:=oM;have hx:=JN UB hlt;have hy:=JN UB hlty;have hd:=dT hlt;have hc:=h xs[k] (Vk _) ys[k] (Vk _);simp only[UB]at hc hx hy;simp only[go_sem,hx,hy,hd,Vv,Vc,simprocAttr];refine⟨oM,oM,wn hc ?_⟩;simp only[go_sem,Vv,Vc,simprocAttr];refine⟨fun hne=>?_,fun heq'=>?_⟩
   ·have:eqF eq xs ys=false:=by
     cases h0:eqF eq xs ys with
     |false=>rfl
     |true=>rw[(Jn heq).1 h0 k hlt oM]at hne;cases hne
    rw[this]
   ·refine⟨xs.length-(k+1),_,oM,Wk.less ?_,k+1,oM,rfl,?_,rfl⟩
    ·simp only[go_sem,JE k oM,Vv,Vc,simprocAttr]
    ·intro j h1 h2 hj;by_cases e:j=k
     ·subst e;simpa using heq'
     ·exact hinv j h1 h2 oM
  ·have hd:=dF hlt;simp only[go_sem,hd,Vv,Vc,simprocAttr];rw[(Jn heq).2 fun j h1 h2=>hinv j h1 h2 oM]
theorem walk19(xs ys:List Epd)(eq:Epd→Epd→Bool)(g:Nat)(hl:xs.length≤68719476736)
  (h:∀x∈xs,∀y∈ys,CT g [.d (Jp x),.d (Jp y)] [] (.d (.bool (eq x y))) []):
  PT 19 [.list 7 (xs.map Jp),.list 7 (ys.map Jp),.fn (.func g) [] []] (.d (.bool (eqF eq xs ys))):=by
 refine ok19.pc ?_;simp only[go_sem,ir19,simprocAttr];refine⟨fun hne=>?_,fun heq=>?_⟩
 ·simp only[Vc,bne_iff_ne,ne_eq,Int.ofNat_inj]at hne;simp[eqF,hne]
 simp only[Vc,bne_eq_false_iff_eq,Int.ofNat_inj]at heq;refine JH (fun n s=>∃k:Nat,k≤xs.length∧n=xs.length-k∧(∀(j:Nat) (h1:j<xs.length) (h2:j<ys.length),j<k→eq xs[j] ys[j]=true)∧
  s=⟨[(1,.d (.list 7 (ys.map Jp))),(2,.d (.fn (.func g) [] [])),(15,.d (.list 7 (xs.map Jp))),(16,.d (.int .i64 xs.length)),(17,.d (.int .i64 k))],[]⟩) ?_ ?_
 ·refine⟨_,_,Wk.refl _,0,Nat.zero_le _,rfl,sP,?_⟩;simp
 ·rintro n s ⟨k,hk,rfl,hinv,rfl⟩;by_cases hlt:k<xs.length
  ·have hlty:k<ys.length:=oM;have hx:=JN Jp hlt;have hy:=JN Jp hlty;have hd:=dT hlt;have hc:=h xs[k] (Vk _) ys[k] (Vk _);simp only[Jp]at hc hx hy;simp only[go_sem,hx,hy,hd,Vv,Vc,simprocAttr];refine⟨oM,oM,wn hc ?_⟩;simp only[go_sem,Vv,Vc,simprocAttr];refine⟨fun hne=>?_,fun heq'=>?_⟩
   ·have:eqF eq xs ys=false:=by
     cases h0:eqF eq xs ys with
     |false=>rfl
     |true=>rw[(Jn heq).1 h0 k hlt oM]at hne;cases hne
    rw[this]
   ·refine⟨xs.length-(k+1),_,oM,Wk.less ?_,k+1,oM,rfl,?_,rfl⟩
    ·simp only[go_sem,JE k oM,Vv,Vc,simprocAttr]
    ·intro j h1 h2 hj;by_cases e:j=k
     ·subst e;simpa using heq'
     ·exact hinv j h1 h2 oM
  ·have hd:=dF hlt;simp only[go_sem,hd,Vv,Vc,simprocAttr];rw[(Jn heq).2 fun j h1 h2=>hinv j h1 h2 oM]
theorem walk21(xs ys:List Nd)(eq:Nd→Nd→Bool)(g:Nat)(hl:xs.length≤68719476736)
  (h:∀x∈xs,∀y∈ys,CT g [.d (Uq x),.d (Uq y)] [] (.d (.bool (eq x y))) []):
  PT 21 [.list 20 (xs.map Uq),.list 20 (ys.map Uq),.fn (.func g) [] []] (.d (.bool (eqF eq xs ys))):=by
 refine ok21.pc ?_;simp only[go_sem,ir21,simprocAttr];refine⟨fun hne=>?_,fun heq=>?_⟩
 ·simp only[Vc,bne_iff_ne,ne_eq,Int.ofNat_inj]at hne;simp[eqF,hne]
 simp only[Vc,bne_eq_false_iff_eq,Int.ofNat_inj]at heq;refine JH (fun n s=>∃k:Nat,k≤xs.length∧n=xs.length-k∧(∀(j:Nat) (h1:j<xs.length) (h2:j<ys.length),j<k→eq xs[j] ys[j]=true)∧
  s=⟨[(1,.d (.list 20 (ys.map Uq))),(2,.d (.fn (.func g) [] [])),(15,.d (.list 20 (xs.map Uq))),(16,.d (.int .i64 xs.length)),(17,.d (.int .i64 k))],[]⟩) ?_ ?_
 ·refine⟨_,_,Wk.refl _,0,Nat.zero_le _,rfl,sP,?_⟩;simp
 ·rintro n s ⟨k,hk,rfl,hinv,rfl⟩;by_cases hlt:k<xs.length
  ·have hlty:k<ys.length:=oM;have hx:=JN Uq hlt;have hy:=JN Uq hlty;have hd:=dT hlt;have hc:=h xs[k] (Vk _) ys[k] (Vk _);simp only[Uq]at hc hx hy;simp only[go_sem,hx,hy,hd,Vv,Vc,simprocAttr];refine⟨oM,oM,wn hc ?_⟩;simp only[go_sem,Vv,Vc,simprocAttr];refine⟨fun hne=>?_,fun heq'=>?_⟩
   ·have:eqF eq xs ys=false:=by
     cases h0:eqF eq xs ys with
     |false=>rfl
     |true=>rw[(Jn heq).1 h0 k hlt oM]at hne;cases hne
    rw[this]
   ·refine⟨xs.length-(k+1),_,oM,Wk.less ?_,k+1,oM,rfl,?_,rfl⟩
    ·simp only[go_sem,JE k oM,Vv,Vc,simprocAttr]
    ·intro j h1 h2 hj;by_cases e:j=k
     ·subst e;simpa using heq'
     ·exact hinv j h1 h2 oM
  ·have hd:=dF hlt;simp only[go_sem,hd,Vv,Vc,simprocAttr];rw[(Jn heq).2 fun j h1 h2=>hinv j h1 h2 oM]
def eqX(a b:Svc):Bool:=a.name==b.name&&(a.request==b.request&&(a.reply==b.reply&&(a.undo==b.undo&&true)))
theorem JJz(xs ys:List Int)(hl:xs.length≤68719476736):
  PT 16 [.list 1 (xs.map (.int .i64)),.list 1 (ys.map (.int .i64))] (.d (.bool (eqF (fun(a b:Int)=>a==b) xs ys))):=by
 refine ok16.pc ?_;simp only[go_sem,ir16,simprocAttr];refine⟨fun hne=>?_,fun heq=>?_⟩
 ·simp only[Vc,bne_iff_ne,ne_eq,Int.ofNat_inj]at hne;simp[eqF,hne]
 simp only[Vc,bne_eq_false_iff_eq,Int.ofNat_inj]at heq;refine JH (fun n s=>∃k:Nat,k≤xs.length∧n=xs.length-k∧(∀(j:Nat) (h1:j<xs.length) (h2:j<ys.length),j<k→(fun(a b:Int)=>a==b) xs[j] ys[j]=true)∧
  s=⟨[(0,.d (.list 1 (xs.map (.int .i64)))),(1,.d (.list 1 (ys.map (.int .i64)))),(12,.d (.int .i64 xs.length)),(13,.d (.int .i64 k))],[]⟩) ?_ ?_
 ·refine⟨_,_,Wk.refl _,0,Nat.zero_le _,rfl,sP,?_⟩;simp
 ·rintro n s ⟨k,hk,rfl,hinv,rfl⟩;by_cases hlt:k<xs.length
  ·have hlty:k<ys.length:=oM;have hx:=JN (fun n=>Dat.int .i64 n) hlt;have hy:=JN (fun n=>Dat.int .i64 n) hlty;have hd:=dT hlt
   try simp only[Dat.canon]at hx hy
   simp only[go_sem,hx,hy,hd,Vv,Vc,simprocAttr]
   first|refine⟨⟨oM,oM⟩,dC,⟨oM,oM⟩,dC,?_⟩|refine⟨⟨oM,oM⟩,⟨oM,oM⟩,?_⟩
   refine⟨fun hne=>?_,fun heq'=>?_⟩
   ·have:eqF (fun(a b:Int)=>a==b) xs ys=false:=by
     cases h0:eqF (fun(a b:Int)=>a==b) xs ys with
     |false=>rfl
     |true=>
      have:=(Jn heq).1 h0 k hlt oM
      first|(simp_all;done)|(simp[eqX]at this hne;simp_all)
    rw[this]
   ·refine⟨xs.length-(k+1),_,oM,Wk.less ?_,k+1,oM,rfl,?_,rfl⟩
    ·simp only[go_sem,JE k oM,Vv,Vc,simprocAttr]
    ·intro j h1 h2 hj;by_cases e:j=k
     ·subst e;first|(simpa using heq')|(simp[eqX];simpa using heq')
     ·exact hinv j h1 h2 oM
  ·have hd:=dF hlt;simp only[go_sem,hd,Vv,Vc,simprocAttr];rw[(Jn heq).2 fun j h1 h2=>hinv j h1 h2 oM]
theorem walk20(xs ys:List Svc)(hl:xs.length≤68719476736):
  PT 20 [.list 4 (xs.map UR),.list 4 (ys.map UR)] (.d (.bool (eqF (fun(a b:Svc)=>eqX a b) xs ys))):=by
 refine ok20.pc ?_;simp only[go_sem,ir20,simprocAttr];refine⟨fun hne=>?_,fun heq=>?_⟩
 ·simp only[Vc,bne_iff_ne,ne_eq,Int.ofNat_inj]at hne;simp[eqF,hne]
 simp only[Vc,bne_eq_false_iff_eq,Int.ofNat_inj]at heq;refine JH (fun n s=>∃k:Nat,k≤xs.length∧n=xs.length-k∧(∀(j:Nat) (h1:j<xs.length) (h2:j<ys.length),j<k→(fun(a b:Svc)=>eqX a b) xs[j] ys[j]=true)∧
  s=⟨[(0,.d (.list 4 (xs.map UR))),(1,.d (.list 4 (ys.map UR))),(12,.d (.int .i64 xs.length)),(13,.d (.int .i64 k))],[]⟩) ?_ ?_
 ·refine⟨_,_,Wk.refl _,0,Nat.zero_le _,rfl,sP,?_⟩;simp
 ·rintro n s ⟨k,hk,rfl,hinv,rfl⟩;by_cases hlt:k<xs.length
  ·have hlty:k<ys.length:=oM;have hx:=JN UR hlt;have hy:=JN UR hlty;have hd:=dT hlt
   try simp only[UR]at hx hy
   simp only[go_sem,hx,hy,hd,Vv,Vc,simprocAttr]
   first|refine⟨⟨oM,oM⟩,dC,⟨oM,oM⟩,dC,?_⟩|refine⟨⟨oM,oM⟩,⟨oM,oM⟩,?_⟩
   refine⟨fun hne=>?_,fun heq'=>?_⟩
   ·have:eqF (fun(a b:Svc)=>eqX a b) xs ys=false:=by
     cases h0:eqF (fun(a b:Svc)=>eqX a b) xs ys with
     |false=>rfl
     |true=>
      have:=(Jn heq).1 h0 k hlt oM
      first|(simp_all;done)|(simp[eqX]at this hne;simp_all)
    rw[this]
   ·refine⟨xs.length-(k+1),_,oM,Wk.less ?_,k+1,oM,rfl,?_,rfl⟩
    ·simp only[go_sem,JE k oM,Vv,Vc,simprocAttr]
    ·intro j h1 h2 hj;by_cases e:j=k
     ·subst e;first|(simpa using heq')|(simp[eqX];simpa using heq')
     ·exact hinv j h1 h2 oM
  ·have hd:=dF hlt;simp only[go_sem,hd,Vv,Vc,simprocAttr];rw[(Jn heq).2 fun j h1 h2=>hinv j h1 h2 oM]
def JCl(x y:Typ):Bool:=JIo (szT x) x y
theorem p46(x y:Typ):PT 46 [UW x,UW y] (.d (.bool (JCl x y))):=JJy _ x y (Nat.le_refl _)
def eqI(a b:List Int):Bool:=eqF (fun(a b:Int)=>a==b) a b
theorem walk23(a1 a2 b1 b2:Int)(a3 b3:List Int)(hl:a3.length≤68719476736):PT 23 [.agg [.int .i64 a1,.int .i64 a2,.list 1 (a3.map (.int .i64))],.agg [.int .i64 b1,.int .i64 b2,.list 1 (b3.map (.int .i64))]] (.d (.bool ((a1==b1&&a2==b2)&&eqI a3 b3))):=by
 refine ok23.pc ?_;have c:=(JJz a3 b3 hl).call trivial;unfold eqI;generalize eqF (fun(a b:Int)=>a==b) a3 b3=E at*;simp only[go_sem,ir23,Vv,Vc,simprocAttr];refine sq (a2==b2) ?_ ?_
 ·simp only[go_sem,Vv,Vc,simprocAttr]
 simp only[go_sem,Vv,Vc,simprocAttr];refine sq (E) ?_ ?_
 ·simp only[go_sem,Vv,Vc,simprocAttr];refine wn c ?_;simp only[go_sem,Vv,Vc,simprocAttr]
 simp only[go_sem,Vv,Vc,simprocAttr]
def JFX(a b:Epd):Bool:=(((((a.name==b.name&&a.kind==b.kind)&&a.schema==b.schema)&&a.version==b.version)&&a.fkind==b.fkind)&&a.sep==b.sep)&&eqI a.widths b.widths
theorem walk15(a b:Epd):PT 15 [Jp a,Jp b] (.d (.bool (JFX a b))):=by
 refine J3.Jg ok15.has fun hfit=>?_
 have hl:a.widths.length≤68719476736:=by
  have:=hfit _ (Vh);simp only[Jp,fits,Ua,Vc,and_true]at this;omega
 clear hfit;refine ok15.pc ?_;have c:=(JJz a.widths b.widths hl).call trivial;unfold JFX eqI;generalize eqF (fun(a b:Int)=>a==b) a.widths b.widths=E at*;simp only[go_sem,ir15,Jp,Vv,Vc,simprocAttr];refine sq (a.kind==b.kind) ?_ ?_
 ·simp only[go_sem,Vv,Vc,simprocAttr]
 simp only[go_sem,Vv,Vc,simprocAttr];refine sq (a.schema==b.schema) ?_ ?_
 ·simp only[go_sem,Vv,Vc,simprocAttr]
 simp only[go_sem,Vv,Vc,simprocAttr];refine sq (a.version==b.version) ?_ ?_
 ·simp only[go_sem,Vv,Vc,simprocAttr]
 simp only[go_sem,Vv,Vc,simprocAttr];refine sq (a.fkind==b.fkind) ?_ ?_
 ·simp only[go_sem,Vv,Vc,simprocAttr]
 simp only[go_sem,Vv,Vc,simprocAttr];refine sq (a.sep==b.sep) ?_ ?_
 ·simp only[go_sem,Vv,Vc,simprocAttr]
 simp only[go_sem,Vv,Vc,simprocAttr];refine sq (E) ?_ ?_
 ·simp only[go_sem,Vv,Vc,simprocAttr];refine wn c ?_;simp only[go_sem,Vv,Vc,simprocAttr]
 simp only[go_sem,Vv,Vc,simprocAttr]
def eqC(a b:Sch):Bool:=(a.name==b.name&&a.version==b.version)&&JCl a.type b.type
theorem JPt(a b:Sch):PT 18 [UB a,UB b] (.d (.bool (eqC a b))):=by
 refine ok18.pc ?_;have c:=(p46 a.type b.type).call trivial;unfold eqC;generalize JCl a.type b.type=E at*;rw[UA,UA]at c;simp only[go_sem,ir18,UB,Vv,Vc,simprocAttr];refine sq (a.version==b.version) ?_ ?_
 ·simp only[go_sem,Vv,Vc,simprocAttr]
 simp only[go_sem,Vv,Vc,simprocAttr];refine sq (E) ?_ ?_
 ·simp only[go_sem,Vv,Vc,simprocAttr];refine wn c ?_;simp only[go_sem,Vv,Vc,simprocAttr]
 simp only[go_sem,Vv,Vc,simprocAttr]
mutual
def eqE:Exp→Exp→Bool
 |.mk o i t v a,b=>o==b.op&&i==b.int&&t==b.text&&eqF (fun x y=>Yh x y==0) v b.value&&JFY a b.args
def JFY:List Exp→List Exp→Bool
 |[],[]=>true
 |x::xs,y::ys=>eqE x y&&JFY xs ys
 |_,_=>false
end
theorem JK5:∀(xs ys:List Exp),JFY xs ys=eqF eqE xs ys
 |[],[]=>by simp[JFY,eqF]
 |[],_::_=>by simp[JFY,eqF]
 |_::_,[]=>by simp[JFY,eqF]
 |x::xs,y::ys=>by
  have:=JK5 xs ys;simp only[JFY,eqF,Vf,List.zip_cons_cons,List.all_cons,this];cases eqE x y<;>simp
theorem step49(a b:Exp)(h2:∀x∈a.args,∀y∈b.args,PT 49 [JX x,JX y] (.d (.bool (eqE x y)))):
  PT 49 [JX a,JX b] (.d (.bool (eqE a b))):=by
 refine J3.Jg ok49.has fun hfit=>?_
 have hl:a.value.length≤68719476736∧a.args.length≤68719476736:=by
  have:=hfit _ (Vh);rw[Jl]at this;simp only[fits,Ua,Vc,and_true]at this;exact⟨this.2.2.2.1.1,this.2.2.2.2.1⟩
 clear hfit;refine ok49.pc ?_;have c1:=(JKk a.value b.value (fun x y=>Yh x y==0) 108 hl.1 (fun x _ y _=>(p108 x y).call trivial)).call trivial;have c2:=(JPs a.args b.args eqE 49 hl.2 (fun x hx y hy=>(h2 x hx y hy).call trivial)).call trivial;have e:eqE a b=((((a.op==b.op&&a.int==b.int)&&a.text==b.text)&&eqF (fun x y=>Yh x y==0) a.value b.value)&&eqF eqE a.args b.args):=by
  cases a;simp only[eqE,Exp.op,Exp.int,Exp.text,Exp.value,Exp.args,JK5]
 rw[e];generalize eqF (fun x y=>Yh x y==0) a.value b.value=A at*;generalize eqF eqE a.args b.args=B at*;rw[Jl,Jl];simp only[go_sem,ir49,Vv,Vc,simprocAttr];refine sq (a.int==b.int) ?_ ?_
 ·simp only[go_sem,Vv,Vc,simprocAttr]
 simp only[go_sem,Vv,Vc,simprocAttr];refine sq (a.text==b.text) ?_ ?_
 ·simp only[go_sem,Vv,Vc,simprocAttr]
 simp only[go_sem,Vv,Vc,simprocAttr];refine sq (A) ?_ ?_
 ·simp only[go_sem,Vv,Vc,simprocAttr];refine wn c1 ?_;simp only[go_sem,Vv,Vc,simprocAttr]
 simp only[go_sem,Vv,Vc,simprocAttr];refine sq (B) ?_ ?_
 ·simp only[go_sem,Vv,Vc,simprocAttr];refine wn c2 ?_;simp only[go_sem,Vv,Vc,simprocAttr]
 simp only[go_sem,Vv,Vc,simprocAttr]
mutual
theorem p49:∀(a b:Exp),PT 49 [JX a,JX b] (.d (.bool (eqE a b)))
 |.mk o i t v l,b=>step49 (.mk o i t v l) b (fun x hx y _=>p49s l x hx y)
theorem p49s:∀(l:List Exp),∀x∈l,∀b,PT 49 [JX x,JX b] (.d (.bool (eqE x b)))
 |[],x,h,_=>by cases h
 |v::r,x,h,b=>by
  by_cases e:x=v
  ·rw[e];exact p49 v b
  ·exact p49s r x ((VA.1 h).resolve_left e) b
end
def eqR(a b:Rule):Bool:=a.target==b.target&&eqE a.expr b.expr
def eqM(a b:List Rule):Bool:=eqF eqR a b
theorem JRr(a b:Rule):PT 110 [Jz a,Jz b] (.d (.bool (eqR a b))):=by
 refine ok110.pc ?_;have c:=(p49 a.expr b.expr).call trivial;unfold eqR;generalize eqE a.expr b.expr=E at*;rw[Jl,Jl]at c;simp only[go_sem,JTB,Jz,Vv,Vc,simprocAttr];refine sq (E) ?_ ?_
 ·simp only[go_sem,Vv,Vc,simprocAttr];refine wn c ?_;simp only[go_sem,Vv,Vc,simprocAttr]
 simp only[go_sem,Vv,Vc,simprocAttr]
theorem JPu(a b:List Rule)(hl:a.length≤68719476736):PT 50 [.agg [.list 6 (a.map Jz)],.agg [.list 6 (b.map Jz)]] (.d (.bool (eqM a b))):=by
 refine ok50.pc ?_;have c:=(JRq a b eqR 110 hl (fun x _ y _=>(JRr x y).call trivial)).call trivial;unfold eqM;simp only[go_sem,ir50,Vv,Vc,simprocAttr];refine wn c ?_;simp only[go_sem,Vv,Vc,simprocAttr]
def eqK(a b:Kal):Bool:=a.service==b.service&&eqM a.rules b.rules
theorem walk52(a b:Kal):PT 52 [JV a,JV b] (.d (.bool (eqK a b))):=by
 refine J3.Jg ok52.has fun hfit=>?_
 have hl:a.rules.length≤68719476736:=by
  have:=hfit _ (Vh);simp only[JV,fits,Ua,Vc,and_true]at this;exact this.2.1
 clear hfit;refine ok52.pc ?_;have c:=(JPu a.rules b.rules hl).call trivial;unfold eqK;generalize eqM a.rules b.rules=E at*;simp only[go_sem,ir52,JV,Vv,Vc,simprocAttr];refine sq (E) ?_ ?_
 ·simp only[go_sem,Vv,Vc,simprocAttr];refine wn c ?_;simp only[go_sem,Vv,Vc,simprocAttr]
 simp only[go_sem,Vv,Vc,simprocAttr]
def JBN(a b:Nd):Bool:=((((((((((((a.name==b.name&&a.kind==b.kind)&&a.schema==b.schema)&&a.result==b.result)&&a.number==b.number)&&a.time==b.time)&&a.limit==b.limit)&&a.text==b.text)&&JCl a.type b.type)&&eqF JCl a.types b.types)&&eqF eqE a.exprs b.exprs)&&eqM a.rules b.rules)&&eqI a.next b.next)&&eqF eqK a.calls b.calls
theorem JPv{n:Nd}(h:fits (Uq n)):n.types.length≤68719476736∧n.exprs.length≤68719476736∧n.rules.length≤68719476736∧n.calls.length≤68719476736∧n.next.length≤68719476736:=by
 simp only[Uq,fits,Ua,Vc,and_true]at h;omega
theorem walk22(a b:Nd):PT 22 [Uq a,Uq b] (.d (.bool (JBN a b))):=by
 refine J3.Jg ok22.has fun hfit=>?_
 obtain⟨l1,l2,l3,l4,l5⟩:=JPv (hfit _ (Vh));clear hfit;refine ok22.pc ?_;have t1:=(p46 a.type b.type).call trivial;have t2:=(JPr a.types b.types JCl 46 l1 (fun x _ y _=>(p46 x y).call trivial)).call trivial;have t3:=(JPs a.exprs b.exprs eqE 49 l2 (fun x _ y _=>(p49 x y).call trivial)).call trivial;have t4:=(JPu a.rules b.rules l3).call trivial;have t5:=(JJz a.next b.next l5).call trivial;have t6:=(walk51 a.calls b.calls eqK 52 l4 (fun x _ y _=>(walk52 x y).call trivial)).call trivial;unfold JBN eqI;generalize JCl a.type b.type=A at*;generalize eqF JCl a.types b.types=B at*;generalize eqF eqE a.exprs b.exprs=C at*;generalize eqM a.rules b.rules=D at*;generalize eqF (fun(a b:Int)=>a==b) a.next b.next=E at*;generalize eqF eqK a.calls b.calls=F at*;rw[UA,UA]at t1;simp only[go_sem,ir22,Uq,Vv,Vc,simprocAttr];refine sq (a.kind==b.kind) ?_ ?_
 ·simp only[go_sem,Vv,Vc,simprocAttr]
 simp only[go_sem,Vv,Vc,simprocAttr];refine sq (a.schema==b.schema) ?_ ?_
 ·simp only[go_sem,Vv,Vc,simprocAttr]
 simp only[go_sem,Vv,Vc,simprocAttr];refine sq (a.result==b.result) ?_ ?_
 ·simp only[go_sem,Vv,Vc,simprocAttr]
 simp only[go_sem,Vv,Vc,simprocAttr];refine sq (a.number==b.number) ?_ ?_
 ·simp only[go_sem,Vv,Vc,simprocAttr]
 simp only[go_sem,Vv,Vc,simprocAttr];refine sq (a.time==b.time) ?_ ?_
 ·simp only[go_sem,Vv,Vc,simprocAttr]
 simp only[go_sem,Vv,Vc,simprocAttr];refine sq (a.limit==b.limit) ?_ ?_
 ·simp only[go_sem,Vv,Vc,simprocAttr]
 simp only[go_sem,Vv,Vc,simprocAttr];refine sq (a.text==b.text) ?_ ?_
 ·simp only[go_sem,Vv,Vc,simprocAttr]
 simp only[go_sem,Vv,Vc,simprocAttr];refine sq (A) ?_ ?_
 ·simp only[go_sem,Vv,Vc,simprocAttr];refine wn t1 ?_;simp only[go_sem,Vv,Vc,simprocAttr]
 simp only[go_sem,Vv,Vc,simprocAttr];refine sq (B) ?_ ?_
 ·simp only[go_sem,Vv,Vc,simprocAttr];refine wn t2 ?_;simp only[go_sem,Vv,Vc,simprocAttr]
 simp only[go_sem,Vv,Vc,simprocAttr];refine sq (C) ?_ ?_
 ·simp only[go_sem,Vv,Vc,simprocAttr];refine wn t3 ?_;simp only[go_sem,Vv,Vc,simprocAttr]
 simp only[go_sem,Vv,Vc,simprocAttr];refine sq (D) ?_ ?_
 ·simp only[go_sem,Vv,Vc,simprocAttr];refine wn t4 ?_;simp only[go_sem,Vv,Vc,simprocAttr]
 simp only[go_sem,Vv,Vc,simprocAttr];refine sq (E) ?_ ?_
 ·simp only[go_sem,Vv,Vc,simprocAttr];refine wn t5 ?_;simp only[go_sem,Vv,Vc,simprocAttr]
 simp only[go_sem,Vv,Vc,simprocAttr];refine sq (F) ?_ ?_
 ·simp only[go_sem,Vv,Vc,simprocAttr];refine wn t6 ?_;simp only[go_sem,Vv,Vc,simprocAttr]
 simp only[go_sem,Vv,Vc,simprocAttr]
def JDq(a b:Pn):Bool:=(((a.version==b.version&&eqF eqC a.schemas b.schemas)&&eqF JFX a.endpoints b.endpoints)&&eqF eqX a.services b.services)&&eqF JBN a.nodes b.nodes
theorem JPw{q:Pn}(h:fits (Ug q)):q.schemas.length≤68719476736∧q.endpoints.length≤68719476736∧q.services.length≤68719476736∧q.nodes.length≤68719476736:=by
 simp only[Ug,fits,Ua,Vc,and_true]at h;omega
theorem JTD(a b:Pn):PT 6 [Ug a,Ug b] (.d (.bool (JDq a b))):=by
 refine J3.Jg ok6.has fun hfit=>?_
 obtain⟨l1,l2,l3,l4⟩:=JPw (hfit _ (Vh));clear hfit;refine ok6.pc ?_;have t1:=(walk17 a.schemas b.schemas eqC 18 l1 (fun x _ y _=>(JPt x y).call trivial)).call trivial;have t2:=(walk19 a.endpoints b.endpoints JFX 15 l2 (fun x _ y _=>(walk15 x y).call trivial)).call trivial;have t3:=(walk20 a.services b.services l3).call trivial;have t4:=(walk21 a.nodes b.nodes JBN 22 l4 (fun x _ y _=>(walk22 x y).call trivial)).call trivial;unfold JDq;generalize eqF eqC a.schemas b.schemas=A at*;generalize eqF JFX a.endpoints b.endpoints=B at*;have e3:eqF (fun(a b:Svc)=>eqX a b) a.services b.services=eqF eqX a.services b.services:=rfl;rw[e3]at t3;generalize eqF eqX a.services b.services=C at*;generalize eqF JBN a.nodes b.nodes=D at*;simp only[go_sem,ir6,Ug,Vv,Vc,simprocAttr];refine sq (A) ?_ ?_
 ·simp only[go_sem,Vv,Vc,simprocAttr];refine wn t1 ?_;simp only[go_sem,Vv,Vc,simprocAttr]
 simp only[go_sem,Vv,Vc,simprocAttr];refine sq (B) ?_ ?_
 ·simp only[go_sem,Vv,Vc,simprocAttr];refine wn t2 ?_;simp only[go_sem,Vv,Vc,simprocAttr]
 simp only[go_sem,Vv,Vc,simprocAttr];refine sq (C) ?_ ?_
 ·simp only[go_sem,Vv,Vc,simprocAttr];refine wn t3 ?_;simp only[go_sem,Vv,Vc,simprocAttr]
 simp only[go_sem,Vv,Vc,simprocAttr];refine sq (D) ?_ ?_
 ·simp only[go_sem,Vv,Vc,simprocAttr];refine wn t4 ?_;simp only[go_sem,Vv,Vc,simprocAttr]
 simp only[go_sem,Vv,Vc,simprocAttr]
theorem JJ0{α:Type}{eq:α→α→Bool}{xs ys:List α}(h:xs.length≠ys.length):eqF eq xs ys=false:=by
 unfold eqF;simp[h]
theorem JAM{α:Type}{eq:α→α→Bool}{xs ys:List α}(h:eqF eq xs ys=true):xs.length=ys.length:=by
 refine Decidable.byContradiction fun hn=>?_
 rw[JJ0 hn]at h;cases h
theorem JAN{α:Type}{eq:α→α→Bool}{xs ys:List α}(hl:xs.length=ys.length){k:Nat}(h1:k<xs.length)(h2:k<ys.length)(h:eq xs[k] ys[k]=false):eqF eq xs ys=false:=by
 cases h0:eqF eq xs ys with
 |false=>rfl
 |true=>rw[(Jn hl).1 h0 k h1 h2]at h;cases h
theorem walk53(xs ys:List Exp):PT 53 [.list 5 (xs.map JX),.list 5 (ys.map JX)] (.d (.bool (eqF eqE xs ys))):=by
 refine J3.Jg ok53.has fun hfit=>?_
 have hl:xs.length≤68719476736:=by have:=(hfit _ (Vh)).1;simpa using this
 clear hfit;refine ok53.pc ?_;simp only[go_sem,ir53,Vv,Vc,simprocAttr];refine⟨fun hne=>?_,fun heq=>?_⟩
 ·simp only[Vc,bne_iff_ne,ne_eq,Int.ofNat_inj]at hne;rw[JJ0 hne]
 simp only[Vc,bne_eq_false_iff_eq,Int.ofNat_inj]at heq;refine JH (fun n s=>∃k:Nat,k≤xs.length∧n=xs.length-k∧(∀(j:Nat) (h1:j<xs.length) (h2:j<ys.length),j<k→eqE xs[j] ys[j]=true)∧
  s=⟨[(0,.d (.list 5 (xs.map JX))),(1,.d (.list 5 (ys.map JX))),(5,.d (.int .i64 k))],[]⟩) ?_ ?_
 ·refine⟨_,_,Wk.refl _,0,Nat.zero_le _,rfl,sP,?_⟩;simp
 ·rintro n s ⟨k,hk,rfl,hinv,rfl⟩;by_cases hlt:k<xs.length
  ·have hlty:k<ys.length:=oM;have hx:=JN JX hlt;have hy:=JN JX hlty;have hd:=dT hlt;have hc:=(p49 xs[k] ys[k]).call trivial;simp only[Jl]at hc hx hy;simp only[go_sem,hx,hy,hd,Vv,Vc,simprocAttr];refine⟨oM,oM,?_⟩;refine wn hc ?_;simp only[go_sem,Vv,Vc,simprocAttr];refine⟨fun hne=>?_,fun heq'=>?_⟩
   ·rw[JAN heq hlt hlty (sX hne)]
   ·refine⟨xs.length-(k+1),_,oM,Wk.less ?_,k+1,oM,rfl,?_,rfl⟩
    ·simp only[go_sem,JE k oM,Vv,Vc,simprocAttr]
    ·intro j h1 h2 hj;by_cases e:j=k
     ·subst e;simpa using heq'
     ·exact hinv j h1 h2 oM
  ·have hd:=dF hlt;simp only[go_sem,hd,Vv,Vc,simprocAttr];rw[(Jn heq).2 fun j h1 h2=>hinv j h1 h2 oM]
theorem JPx(xs ys:List Rule):PT 54 [.agg [.list 6 (xs.map Jz)],.agg [.list 6 (ys.map Jz)]] (.d (.bool (eqM xs ys))):=by
 refine J3.Jg ok54.has fun hfit=>?_
 have hl:xs.length≤68719476736:=by
  have:=hfit _ (Vh);simp only[fits,Ua,Vc,and_true]at this;exact this.1
 clear hfit;refine ok54.pc ?_;unfold eqM;simp only[go_sem,ir54,Vv,Vc,Nat.reduceAdd,Nat.reduceEqDiff,Nat.reduceBEq,Nat.reduceLeDiff,reduceCtorEq,↓reduceIte];refine⟨fun hne=>?_,fun heq=>?_⟩
 ·simp only[Vc,bne_iff_ne,ne_eq,Int.ofNat_inj]at hne;rw[JJ0 hne]
 simp only[Vc,bne_eq_false_iff_eq,Int.ofNat_inj]at heq;refine JH (fun n s=>∃k:Nat,k≤xs.length∧n=xs.length-k∧(∀(j:Nat) (h1:j<xs.length) (h2:j<ys.length),j<k→eqR xs[j] ys[j]=true)∧
  s=⟨[(2,.ref 2 0),(3,.ref 3 0),(5,.d (.int .i64 k))],[(2,.box [.d (.list 6 (xs.map Jz))]),(3,.box [.d (.list 6 (ys.map Jz))])]⟩) ?_ ?_
 ·refine⟨_,_,Wk.refl _,0,Nat.zero_le _,rfl,sP,?_⟩;simp
 ·rintro n s ⟨k,hk,rfl,hinv,rfl⟩;by_cases hlt:k<xs.length
  ·have hlty:k<ys.length:=oM;have hx:=JN Jz hlt;have hy:=JN Jz hlty;have hd:=dT hlt;have hc:=(p49 xs[k].expr ys[k].expr).call trivial;have hE:eqR xs[k] ys[k]=(xs[k].target==ys[k].target&&eqE xs[k].expr ys[k].expr):=rfl;simp only[Jz,Jl]at hc hx hy;simp only[go_sem,hx,hy,hd,Vv,Vc,Nat.reduceAdd,Nat.reduceEqDiff,Nat.reduceBEq,Nat.reduceLeDiff,reduceCtorEq,↓reduceIte];refine⟨⟨oM,oM⟩,dC,⟨oM,oM⟩,dC,?_⟩;refine sq (!eqE xs[k].expr ys[k].expr) ?_ ?_
   ·simp only[go_sem,hx,hy,Vv,Vc,Nat.reduceAdd,Nat.reduceEqDiff,Nat.reduceBEq,Nat.reduceLeDiff,reduceCtorEq,↓reduceIte];refine⟨⟨oM,oM⟩,⟨oM,oM⟩,?_⟩;refine wn hc ?_;simp only[go_sem,Vv,Vc,Nat.reduceAdd,Nat.reduceEqDiff,Nat.reduceBEq,Nat.reduceLeDiff,reduceCtorEq,↓reduceIte]
   simp only[go_sem,Vv,Vc,Nat.reduceAdd,Nat.reduceEqDiff,Nat.reduceBEq,Nat.reduceLeDiff,reduceCtorEq,↓reduceIte];refine⟨fun hne=>?_,fun heq'=>?_⟩
   ·rw[JAN heq hlt hlty (by rw[hE];revert hne;(try simp only[bne]);cases xs[k].target==ys[k].target<;>cases eqE xs[k].expr ys[k].expr<;>simp)]
   ·refine⟨xs.length-(k+1),_,oM,Wk.less ?_,k+1,oM,rfl,?_,rfl⟩
    ·simp only[go_sem,JE k oM,Vv,Vc,Nat.reduceAdd,Nat.reduceEqDiff,Nat.reduceBEq,Nat.reduceLeDiff,reduceCtorEq,↓reduceIte]
    ·intro j h1 h2 hj;by_cases e:j=k
     ·subst e;rw[hE];revert heq';(try simp only[bne]);cases xs[j].target==ys[j].target<;>cases eqE xs[j].expr ys[j].expr<;>simp
     ·exact hinv j h1 h2 oM
  ·have hd:=dF hlt;simp only[go_sem,hd,Vv,Vc,Nat.reduceAdd,Nat.reduceEqDiff,Nat.reduceBEq,Nat.reduceLeDiff,reduceCtorEq,↓reduceIte];rw[(Jn heq).2 fun j h1 h2=>hinv j h1 h2 oM]
def nO(n:Nd):Av.Obj:=.box ((Uq n).cells.map .d)
theorem J9{α:Type}[BEq α](a b:α):(a !=b)= !(a==b):=rfl
theorem XN{α:Type}(xs ys:List α):((xs.length:Int)==(ys.length:Int))=(xs.length==ys.length):=by
 cases h:xs.length==ys.length
 ·simp only[beq_eq_false_iff_ne]at h⊢;omega
 ·simp only[beq_iff_eq]at h⊢;omega
def hdN(a b:Nd):Bool:=((((((((((((!(a.name==b.name)|| !(a.kind==b.kind))|| !(a.schema==b.schema))|| !(a.result==b.result))|| !(a.number==b.number))|| !(a.time==b.time))|| !(a.limit==b.limit))|| !(a.text==b.text))|| !JCl a.type b.type)|| !(a.types.length==b.types.length))|| !eqF eqE a.exprs b.exprs)|| !eqM a.rules b.rules)|| !(a.calls.length==b.calls.length))|| !(a.next.length==b.next.length)
theorem hdN_t{a b:Nd}(h:hdN a b=true):JBN a b=false:=by
 cases hq:JBN a b with
 |false=>rfl
 |true=>
  unfold JBN at hq;simp only[Vi]at hq;obtain⟨⟨⟨⟨⟨⟨⟨⟨⟨⟨⟨⟨⟨h1,h2⟩,h3⟩,h4⟩,h5⟩,h6⟩,h7⟩,h8⟩,h9⟩,h10⟩,h11⟩,h12⟩,h13⟩,h14⟩:=hq;have e1:=JAM h10;have e2:=JAM (show eqF (fun(a b:Int)=>a==b) a.next b.next=true from h13);have e3:=JAM h14;unfold hdN at h;simp[h1,h2,h3,h4,h5,h6,h7,h8,h9,h11,h12,e1,e2,e3]at h
theorem hdN_f{a b:Nd}(h:hdN a b=false):(a.types.length=b.types.length∧a.calls.length=b.calls.length∧a.next.length=b.next.length)∧JBN a b=(eqF JCl a.types b.types&&eqF eqK a.calls b.calls&&eqI a.next b.next):=by
 unfold hdN at h;simp only[Bool.or_eq_false_iff,Bool.not_eq_false']at h;obtain⟨⟨⟨⟨⟨⟨⟨⟨⟨⟨⟨⟨⟨h1,h2⟩,h3⟩,h4⟩,h5⟩,h6⟩,h7⟩,h8⟩,h9⟩,h10⟩,h11⟩,h12⟩,h13⟩,h14⟩:=h;refine⟨⟨by simpa using h10,by simpa using h13,by simpa using h14⟩,?_⟩;unfold JBN;rw[h1,h2,h3,h4,h5,h6,h7,h8,h9,h11,h12];cases eqF JCl a.types b.types<;>cases eqF eqK a.calls b.calls<;>cases eqI a.next b.next<;>rfl
theorem walk24(a b:Nd):PT 24 [Uq a,Uq b] (.d (.bool (JBN a b))):=by
 refine J3.Jg ok24.has fun hfit=>?_
 obtain⟨l1,l2,l3,l4,l5⟩:=JPv (hfit _ (Vh));clear hfit;refine ok24.pc ?_;have t1:=(p46 a.type b.type).call trivial;have t3:=(walk53 a.exprs b.exprs).call trivial;have t4:=(JPx a.rules b.rules).call trivial;rw[UA,UA]at t1;generalize hR:JBN a b=R;simp only[go_sem,ir24,Uq,J9,Vv,Vc,Nat.reduceAdd,Nat.reduceEqDiff,Nat.reduceBEq,Nat.reduceLeDiff,reduceCtorEq,↓reduceIte];refine sq (!(a.kind==b.kind)) ?_ ?_
 ·simp only[go_sem,J9,XN,Vv,Vc,Nat.reduceAdd,Nat.reduceEqDiff,Nat.reduceBEq,Nat.reduceLeDiff,reduceCtorEq,↓reduceIte]
 simp only[go_sem,J9,XN,Vv,Vc,Nat.reduceAdd,Nat.reduceEqDiff,Nat.reduceBEq,Nat.reduceLeDiff,reduceCtorEq,↓reduceIte];refine sq (!(a.schema==b.schema)) ?_ ?_
 ·simp only[go_sem,J9,XN,Vv,Vc,Nat.reduceAdd,Nat.reduceEqDiff,Nat.reduceBEq,Nat.reduceLeDiff,reduceCtorEq,↓reduceIte]
 simp only[go_sem,J9,XN,Vv,Vc,Nat.reduceAdd,Nat.reduceEqDiff,Nat.reduceBEq,Nat.reduceLeDiff,reduceCtorEq,↓reduceIte];refine sq (!(a.result==b.result)) ?_ ?_
 ·simp only[go_sem,J9,XN,Vv,Vc,Nat.reduceAdd,Nat.reduceEqDiff,Nat.reduceBEq,Nat.reduceLeDiff,reduceCtorEq,↓reduceIte]
 simp only[go_sem,J9,XN,Vv,Vc,Nat.reduceAdd,Nat.reduceEqDiff,Nat.reduceBEq,Nat.reduceLeDiff,reduceCtorEq,↓reduceIte];refine sq (!(a.number==b.number)) ?_ ?_
 ·simp only[go_sem,J9,XN,Vv,Vc,Nat.reduceAdd,Nat.reduceEqDiff,Nat.reduceBEq,Nat.reduceLeDiff,reduceCtorEq,↓reduceIte]
 simp only[go_sem,J9,XN,Vv,Vc,Nat.reduceAdd,Nat.reduceEqDiff,Nat.reduceBEq,Nat.reduceLeDiff,reduceCtorEq,↓reduceIte];refine sq (!(a.time==b.time)) ?_ ?_
 ·simp only[go_sem,J9,XN,Vv,Vc,Nat.reduceAdd,Nat.reduceEqDiff,Nat.reduceBEq,Nat.reduceLeDiff,reduceCtorEq,↓reduceIte]
 simp only[go_sem,J9,XN,Vv,Vc,Nat.reduceAdd,Nat.reduceEqDiff,Nat.reduceBEq,Nat.reduceLeDiff,reduceCtorEq,↓reduceIte];refine sq (!(a.limit==b.limit)) ?_ ?_
 ·simp only[go_sem,J9,XN,Vv,Vc,Nat.reduceAdd,Nat.reduceEqDiff,Nat.reduceBEq,Nat.reduceLeDiff,reduceCtorEq,↓reduceIte]
 simp only[go_sem,J9,XN,Vv,Vc,Nat.reduceAdd,Nat.reduceEqDiff,Nat.reduceBEq,Nat.reduceLeDiff,reduceCtorEq,↓reduceIte];refine sq (!(a.text==b.text)) ?_ ?_
 ·simp only[go_sem,J9,XN,Vv,Vc,Nat.reduceAdd,Nat.reduceEqDiff,Nat.reduceBEq,Nat.reduceLeDiff,reduceCtorEq,↓reduceIte]
 simp only[go_sem,J9,XN,Vv,Vc,Nat.reduceAdd,Nat.reduceEqDiff,Nat.reduceBEq,Nat.reduceLeDiff,reduceCtorEq,↓reduceIte];refine sq (!JCl a.type b.type) ?_ ?_
 ·simp only[go_sem,Vv,Vc,Nat.reduceAdd,Nat.reduceEqDiff,Nat.reduceBEq,Nat.reduceLeDiff,reduceCtorEq,↓reduceIte];refine wn t1 ?_;simp only[go_sem,Vv,Vc,Nat.reduceAdd,Nat.reduceEqDiff,Nat.reduceBEq,Nat.reduceLeDiff,reduceCtorEq,↓reduceIte]
 simp only[go_sem,J9,XN,Vv,Vc,Nat.reduceAdd,Nat.reduceEqDiff,Nat.reduceBEq,Nat.reduceLeDiff,reduceCtorEq,↓reduceIte];refine sq (!(a.types.length==b.types.length)) ?_ ?_
 ·simp only[go_sem,J9,XN,Vv,Vc,Nat.reduceAdd,Nat.reduceEqDiff,Nat.reduceBEq,Nat.reduceLeDiff,reduceCtorEq,↓reduceIte]
 simp only[go_sem,J9,XN,Vv,Vc,Nat.reduceAdd,Nat.reduceEqDiff,Nat.reduceBEq,Nat.reduceLeDiff,reduceCtorEq,↓reduceIte];refine sq (!eqF eqE a.exprs b.exprs) ?_ ?_
 ·simp only[go_sem,Vv,Vc,Nat.reduceAdd,Nat.reduceEqDiff,Nat.reduceBEq,Nat.reduceLeDiff,reduceCtorEq,↓reduceIte];refine wn t3 ?_;simp only[go_sem,Vv,Vc,Nat.reduceAdd,Nat.reduceEqDiff,Nat.reduceBEq,Nat.reduceLeDiff,reduceCtorEq,↓reduceIte]
 simp only[go_sem,J9,XN,Vv,Vc,Nat.reduceAdd,Nat.reduceEqDiff,Nat.reduceBEq,Nat.reduceLeDiff,reduceCtorEq,↓reduceIte];refine sq (!eqM a.rules b.rules) ?_ ?_
 ·simp only[go_sem,Vv,Vc,Nat.reduceAdd,Nat.reduceEqDiff,Nat.reduceBEq,Nat.reduceLeDiff,reduceCtorEq,↓reduceIte];refine wn t4 ?_;simp only[go_sem,Vv,Vc,Nat.reduceAdd,Nat.reduceEqDiff,Nat.reduceBEq,Nat.reduceLeDiff,reduceCtorEq,↓reduceIte]
 simp only[go_sem,J9,XN,Vv,Vc,Nat.reduceAdd,Nat.reduceEqDiff,Nat.reduceBEq,Nat.reduceLeDiff,reduceCtorEq,↓reduceIte];refine sq (!(a.calls.length==b.calls.length)) ?_ ?_
 ·simp only[go_sem,J9,XN,Vv,Vc,Nat.reduceAdd,Nat.reduceEqDiff,Nat.reduceBEq,Nat.reduceLeDiff,reduceCtorEq,↓reduceIte]
 simp only[go_sem,J9,XN,Vv,Vc,Nat.reduceAdd,Nat.reduceEqDiff,Nat.reduceBEq,Nat.reduceLeDiff,reduceCtorEq,↓reduceIte];refine sq (!(a.next.length==b.next.length)) ?_ ?_
 ·simp only[go_sem,J9,XN,Vv,Vc,Nat.reduceAdd,Nat.reduceEqDiff,Nat.reduceBEq,Nat.reduceLeDiff,reduceCtorEq,↓reduceIte]
 simp only[go_sem,J9,XN,Vv,Vc,Nat.reduceAdd,Nat.reduceEqDiff,Nat.reduceBEq,Nat.reduceLeDiff,reduceCtorEq,↓reduceIte];apply ik<;>intro h
 ·have:=hdN_t (a:=a) (b:=b) h;rw[←hR,this]
 obtain⟨⟨m1,m2,m3⟩,hE⟩:=hdN_f (a:=a) (b:=b) h;rw[hE]at hR;refine JH (fun n s=>∃k:Nat,k≤a.types.length∧n=a.types.length-k∧(∀(j:Nat) (h1:j<a.types.length) (h2:j<b.types.length),j<k→JCl a.types[j] b.types[j]=true)∧
  s=⟨[(2,.ref 2 0),(3,.ref 3 0),(5,.d (.int .i64 k))],[(2,nO a),(3,nO b)]⟩) ?_ ?_
 ·refine⟨_,_,Wk.less ?_,0,Nat.zero_le _,rfl,sP,rfl⟩;simp[go_sem,nO,Uq]
 rintro n s ⟨k,hk,rfl,hinv,rfl⟩;by_cases hlt:k<a.types.length
 ·have hlty:k<b.types.length:=oM;have hx:=JN UW hlt;have hy:=JN UW hlty;have hd:=dT hlt;have hc:=(p46 a.types[k] b.types[k]).call trivial;simp only[UA]at hc hx hy;simp only[go_sem,nO,Uq,Dat.cells,Va,Vb,hx,hy,hd,Vv,Vc,Nat.reduceAdd,Nat.reduceEqDiff,Nat.reduceBEq,Nat.reduceLeDiff,reduceCtorEq,↓reduceIte];refine⟨⟨oM,oM⟩,⟨oM,oM⟩,?_⟩;refine wn hc ?_;simp only[go_sem,Vv,Vc,Nat.reduceAdd,Nat.reduceEqDiff,Nat.reduceBEq,Nat.reduceLeDiff,reduceCtorEq,↓reduceIte];refine⟨fun hne=>?_,fun heq'=>?_⟩
  ·rw[←hR,JAN m1 hlt hlty (sX hne)];rfl
  ·refine⟨a.types.length-(k+1),_,oM,Wk.less ?_,k+1,oM,rfl,?_,rfl⟩
   ·simp only[JE k oM,nO,Uq,Dat.cells,Va,Vb];simp[go_sem]
   ·intro j h1 h2 hj;by_cases e:j=k
    ·subst e;simpa using heq'
    ·exact hinv j h1 h2 oM
 have hd:=dF hlt;rw[(Jn m1).2 fun j h1 h2=>hinv j h1 h2 oM,Vt]at hR;simp only[go_sem,nO,Uq,Dat.cells,Va,Vb,hd,Vv,Vc,Nat.reduceAdd,Nat.reduceEqDiff,Nat.reduceBEq,Nat.reduceLeDiff,reduceCtorEq,↓reduceIte];clear hinv hd hlt hk k;refine JH (fun n s=>∃k:Nat,k≤a.calls.length∧n=a.calls.length-k∧(∀(j:Nat) (h1:j<a.calls.length) (h2:j<b.calls.length),j<k→eqK a.calls[j] b.calls[j]=true)∧
  s=⟨[(2,.ref 2 0),(3,.ref 3 0),(6,.d (.int .i64 k))],[(2,nO a),(3,nO b)]⟩) ?_ ?_
 ·refine⟨_,_,Wk.less ?_,0,Nat.zero_le _,rfl,sP,rfl⟩;simp[go_sem,nO,Uq]
 rintro n s ⟨k,hk,rfl,hinv,rfl⟩;by_cases hlt:k<a.calls.length
 ·have hlty:k<b.calls.length:=oM;have hx:=JN JV hlt;have hy:=JN JV hlty;have hd:=dT hlt;have hc:=(JPx a.calls[k].rules b.calls[k].rules).call trivial;have hK:eqK a.calls[k] b.calls[k]=(a.calls[k].service==b.calls[k].service&&eqM a.calls[k].rules b.calls[k].rules):=rfl;simp only[JV]at hx hy;simp only[go_sem,nO,Uq,Dat.cells,Va,Vb,hx,hy,hd,J9,Vv,Vc,Nat.reduceAdd,Nat.reduceEqDiff,Nat.reduceBEq,Nat.reduceLeDiff,reduceCtorEq,↓reduceIte];refine⟨⟨oM,oM⟩,dC,⟨oM,oM⟩,dC,?_⟩;refine sq (!eqM a.calls[k].rules b.calls[k].rules) ?_ ?_
  ·simp only[go_sem,hx,hy,Vv,Vc,Nat.reduceAdd,Nat.reduceEqDiff,Nat.reduceBEq,Nat.reduceLeDiff,reduceCtorEq,↓reduceIte]
   first|refine⟨⟨oM,oM⟩,dC,⟨oM,oM⟩,dC,?_⟩|refine⟨⟨oM,oM⟩,⟨oM,oM⟩,?_⟩
   refine wn hc ?_;simp only[go_sem,Vv,Vc,Nat.reduceAdd,Nat.reduceEqDiff,Nat.reduceBEq,Nat.reduceLeDiff,reduceCtorEq,↓reduceIte]
  simp only[go_sem,Vv,Vc,Nat.reduceAdd,Nat.reduceEqDiff,Nat.reduceBEq,Nat.reduceLeDiff,reduceCtorEq,↓reduceIte];refine⟨fun hne=>?_,fun heq'=>?_⟩
  ·rw[←hR,JAN m2 hlt hlty (by rw[hK];revert hne;cases a.calls[k].service==b.calls[k].service<;>cases eqM a.calls[k].rules b.calls[k].rules<;>simp)];rfl
  ·refine⟨a.calls.length-(k+1),_,oM,Wk.less ?_,k+1,oM,rfl,?_,rfl⟩
   ·simp only[JE k oM,nO,Uq,Dat.cells,Va,Vb];simp[go_sem]
   ·intro j h1 h2 hj;by_cases e:j=k
    ·subst e;rw[hK];revert heq';cases a.calls[j].service==b.calls[j].service<;>cases eqM a.calls[j].rules b.calls[j].rules<;>simp
    ·exact hinv j h1 h2 oM
 have hd:=dF hlt;rw[(Jn m2).2 fun j h1 h2=>hinv j h1 h2 oM,Vt]at hR;simp only[go_sem,nO,Uq,Dat.cells,Va,Vb,hd,Vv,Vc,Nat.reduceAdd,Nat.reduceEqDiff,Nat.reduceBEq,Nat.reduceLeDiff,reduceCtorEq,↓reduceIte];clear hinv hd hlt hk k;refine JH (fun n s=>∃k:Nat,k≤a.next.length∧n=a.next.length-k∧(∀(j:Nat) (h1:j<a.next.length) (h2:j<b.next.length),j<k→(a.next[j]==b.next[j])=true)∧
  s=⟨[(2,.ref 2 0),(3,.ref 3 0),(7,.d (.int .i64 k))],[(2,nO a),(3,nO b)]⟩) ?_ ?_
 ·refine⟨_,_,Wk.less ?_,0,Nat.zero_le _,rfl,sP,rfl⟩;simp[go_sem,nO,Uq]
 rintro n s ⟨k,hk,rfl,hinv,rfl⟩;by_cases hlt:k<a.next.length
 ·have hlty:k<b.next.length:=oM;have hx:=JN (fun n=>Dat.int .i64 n) hlt;have hy:=JN (fun n=>Dat.int .i64 n) hlty;have hd:=dT hlt;simp only[go_sem,nO,Uq,Dat.cells,Va,Vb,hx,hy,hd,J9,Vv,Vc,Nat.reduceAdd,Nat.reduceEqDiff,Nat.reduceBEq,Nat.reduceLeDiff,reduceCtorEq,↓reduceIte];refine⟨⟨oM,oM⟩,dC,⟨oM,oM⟩,dC,?_⟩;refine⟨fun hne=>?_,fun heq'=>?_⟩
  ·unfold eqI at hR;rw[←hR,JAN m3 hlt hlty (sX hne)]
  ·refine⟨a.next.length-(k+1),_,oM,Wk.less ?_,k+1,oM,rfl,?_,rfl⟩
   ·simp only[JE k oM,nO,Uq,Dat.cells,Va,Vb];simp[go_sem]
   ·intro j h1 h2 hj;by_cases e:j=k
    ·subst e;simpa using heq'
    ·exact hinv j h1 h2 oM
 have hd:=dF hlt;unfold eqI at hR;rw[(Jn m3).2 fun j h1 h2=>hinv j h1 h2 oM]at hR;simp only[go_sem,nO,Uq,Dat.cells,Va,Vb,hd,Vv,Vc,Nat.reduceAdd,Nat.reduceEqDiff,Nat.reduceBEq,Nat.reduceLeDiff,reduceCtorEq,↓reduceIte];exact hR▸rfl
def pO(q:Pn):Av.Obj:=.box ((Ug q).cells.map .d)
def hdP(a b:Pn):Bool:=(((!(a.version==b.version)|| !(a.schemas.length==b.schemas.length))|| !(a.endpoints.length==b.endpoints.length))|| !(a.services.length==b.services.length))|| !(a.nodes.length==b.nodes.length)
theorem hdP_t{a b:Pn}(h:hdP a b=true):JDq a b=false:=by
 cases hq:JDq a b with
 |false=>rfl
 |true=>
  unfold JDq at hq;simp only[Vi]at hq;obtain⟨⟨⟨⟨h1,h2⟩,h3⟩,h4⟩,h5⟩:=hq;have e1:=JAM h2;have e2:=JAM h3;have e3:=JAM h4;have e4:=JAM h5;unfold hdP at h;simp[h1,e1,e2,e3,e4]at h
theorem hdP_f{a b:Pn}(h:hdP a b=false):(a.schemas.length=b.schemas.length∧a.endpoints.length=b.endpoints.length∧a.services.length=b.services.length∧a.nodes.length=b.nodes.length)∧
  JDq a b=(eqF eqC a.schemas b.schemas&&(eqF JFX a.endpoints b.endpoints&&(eqF eqX a.services b.services&&eqF JBN a.nodes b.nodes))):=by
 unfold hdP at h;simp only[Bool.or_eq_false_iff,Bool.not_eq_false']at h;obtain⟨⟨⟨⟨h1,h2⟩,h3⟩,h4⟩,h5⟩:=h;refine⟨⟨by simpa using h2,by simpa using h3,by simpa using h4,by simpa using h5⟩,?_⟩;unfold JDq;rw[h1,Vt,Bool.and_assoc,Bool.and_assoc]
theorem ep_q(x y:Epd):((((!(x.name==y.name)|| !(x.kind==y.kind))|| !(x.schema==y.schema))|| !(x.version==y.version))|| !((x.fkind==y.fkind&&x.sep==y.sep)&&eqI x.widths y.widths))= !JFX x y:=by
 unfold JFX;cases x.name==y.name<;>cases x.kind==y.kind<;>cases x.schema==y.schema<;>cases x.version==y.version<;>cases x.fkind==y.fkind<;>cases x.sep==y.sep<;>cases eqI x.widths y.widths<;>rfl
theorem walk7(a b:Pn):PT 7 [Ug a,Ug b] (.d (.bool (JDq a b))):=by
 refine J3.Jg ok7.has fun hfit=>?_
 obtain⟨l1,l2,l3,l4⟩:=JPw (hfit _ (Vh));have l5:∀x∈a.endpoints,x.widths.length≤68719476736:=by
  intro x hx;have h1:=hfit _ (Vh);simp only[Ug,fits,Ua,and_true]at h1;have:=UQ.1 h1.2.2.1.2 _ (VC.2 ⟨x,hx,rfl⟩);simp only[Jp,fits,Ua,Vc,and_true]at this;omega
 clear hfit;refine ok7.pc ?_;generalize hR:JDq a b=R;simp only[go_sem,ir7,Ug,J9,Vv,Vc,simprocAttr];refine sq (!(a.schemas.length==b.schemas.length)) ?_ ?_
 ·simp only[go_sem,J9,XN,Vv,Vc,simprocAttr]
 simp only[go_sem,J9,XN,Vv,Vc,simprocAttr];refine sq (!(a.endpoints.length==b.endpoints.length)) ?_ ?_
 ·simp only[go_sem,J9,XN,Vv,Vc,simprocAttr]
 simp only[go_sem,J9,XN,Vv,Vc,simprocAttr];refine sq (!(a.services.length==b.services.length)) ?_ ?_
 ·simp only[go_sem,J9,XN,Vv,Vc,simprocAttr]
 simp only[go_sem,J9,XN,Vv,Vc,simprocAttr];refine sq (!(a.nodes.length==b.nodes.length)) ?_ ?_
 ·simp only[go_sem,J9,XN,Vv,Vc,simprocAttr]
 simp only[go_sem,J9,XN,Vv,Vc,simprocAttr];apply ik<;>intro h
 ·have:=hdP_t (a:=a) (b:=b) h;rw[←hR,this]
 obtain⟨⟨m1,m2,m3,m4⟩,hE⟩:=hdP_f (a:=a) (b:=b) h;rw[hE]at hR;refine JH (fun n s=>∃k:Nat,k≤a.schemas.length∧n=a.schemas.length-k∧(∀(j:Nat) (h1:j<a.schemas.length) (h2:j<b.schemas.length),j<k→eqC a.schemas[j] b.schemas[j]=true)∧
  s=⟨[(2,.ref 2 0),(3,.ref 3 0),(5,.d (.int .i64 k))],[(2,pO a),(3,pO b)]⟩) ?_ ?_
 ·refine⟨_,_,Wk.less ?_,0,Nat.zero_le _,rfl,sP,rfl⟩;simp[go_sem,pO,Ug]
 rintro n s ⟨k,hk,rfl,hinv,rfl⟩;by_cases hlt:k<a.schemas.length
 ·have hlty:k<b.schemas.length:=oM;have hx:=JN UB hlt;have hy:=JN UB hlty;have hd:=dT hlt;have hc:=(JPt a.schemas[k] b.schemas[k]).call trivial;simp only[UB]at hc hx hy;simp only[go_sem,pO,Ug,Dat.cells,Va,Vb,hx,hy,hd,Vv,Vc,simprocAttr];refine⟨⟨oM,oM⟩,⟨oM,oM⟩,?_⟩;refine wn hc ?_;simp only[go_sem,Vv,Vc,simprocAttr];refine⟨fun hne=>?_,fun heq'=>?_⟩
  ·rw[←hR,JAN m1 hlt hlty (sX hne)];rfl
  ·refine⟨a.schemas.length-(k+1),_,oM,Wk.less ?_,k+1,oM,rfl,?_,rfl⟩
   ·simp only[JE k oM,pO,Ug,Dat.cells,Va,Vb];simp[go_sem]
   ·intro j h1 h2 hj;by_cases e:j=k
    ·subst e;simpa using heq'
    ·exact hinv j h1 h2 oM
 have hd:=dF hlt;rw[(Jn m1).2 fun j h1 h2=>hinv j h1 h2 oM,Vt]at hR;simp only[go_sem,pO,Ug,Dat.cells,Va,Vb,hd,Vv,Vc,simprocAttr];clear hinv hd hlt hk k;refine JH (fun n s=>∃k:Nat,k≤a.endpoints.length∧n=a.endpoints.length-k∧(∀(j:Nat) (h1:j<a.endpoints.length) (h2:j<b.endpoints.length),j<k→JFX a.endpoints[j] b.endpoints[j]=true)∧
  s=⟨[(2,.ref 2 0),(3,.ref 3 0),(6,.d (.int .i64 k))],[(2,pO a),(3,pO b)]⟩) ?_ ?_
 ·refine⟨_,_,Wk.less ?_,0,Nat.zero_le _,rfl,sP,rfl⟩;simp[go_sem,pO,Ug]
 rintro n s ⟨k,hk,rfl,hinv,rfl⟩;by_cases hlt:k<a.endpoints.length
 ·have hlty:k<b.endpoints.length:=oM;have hx:=JN Jp hlt;have hy:=JN Jp hlty;have hd:=dT hlt;have hc:=(walk23 a.endpoints[k].fkind a.endpoints[k].sep b.endpoints[k].fkind b.endpoints[k].sep a.endpoints[k].widths b.endpoints[k].widths (l5 _ (Vk hlt))).call trivial;have hq:=ep_q a.endpoints[k] b.endpoints[k];simp only[Jp]at hx hy;simp only[go_sem,pO,Ug,Dat.cells,Va,Vb,hx,hy,hd,J9,Vv,Vc,simprocAttr]
  trace_state
  refine⟨⟨oM,oM⟩,⟨oM,oM⟩,dC,?_⟩;refine sq (!(a.endpoints[k].kind==b.endpoints[k].kind)) ?_ ?_
  ·simp only[go_sem,J9,XN,Vv,Vc,simprocAttr]
  simp only[go_sem,J9,XN,Vv,Vc,simprocAttr];refine sq (!(a.endpoints[k].schema==b.endpoints[k].schema)) ?_ ?_
  ·simp only[go_sem,J9,XN,Vv,Vc,simprocAttr]
  simp only[go_sem,J9,XN,Vv,Vc,simprocAttr];refine sq (!(a.endpoints[k].version==b.endpoints[k].version)) ?_ ?_
  ·simp only[go_sem,J9,XN,Vv,Vc,simprocAttr]
  simp only[go_sem,J9,XN,Vv,Vc,simprocAttr];refine sq (!((a.endpoints[k].fkind==b.endpoints[k].fkind&&a.endpoints[k].sep==b.endpoints[k].sep)&&eqI a.endpoints[k].widths b.endpoints[k].widths)) ?_ ?_
  ·simp only[go_sem,Vv,Vc,simprocAttr];refine wn hc ?_;simp only[go_sem,Vv,Vc,simprocAttr]
  simp only[go_sem,Vv,Vc,simprocAttr];rw[hq];refine⟨fun hne=>?_,fun heq'=>?_⟩
  ·rw[←hR,JAN m2 hlt hlty (sX hne)];rfl
  ·refine⟨a.endpoints.length-(k+1),_,oM,Wk.less ?_,k+1,oM,rfl,?_,rfl⟩
   ·simp only[JE k oM,pO,Ug,Dat.cells,Va,Vb];simp[go_sem]
   ·intro j h1 h2 hj;by_cases e:j=k
    ·subst e;simpa using heq'
    ·exact hinv j h1 h2 oM
 have hd:=dF hlt;rw[(Jn m2).2 fun j h1 h2=>hinv j h1 h2 oM,Vt]at hR;simp only[go_sem,pO,Ug,Dat.cells,Va,Vb,hd,Vv,Vc,simprocAttr];clear hinv hd hlt hk k;refine JH (fun n s=>∃k:Nat,k≤a.services.length∧n=a.services.length-k∧(∀(j:Nat) (h1:j<a.services.length) (h2:j<b.services.length),j<k→eqX a.services[j] b.services[j]=true)∧
  s=⟨[(2,.ref 2 0),(3,.ref 3 0),(9,.d (.int .i64 k))],[(2,pO a),(3,pO b)]⟩) ?_ ?_
 ·refine⟨_,_,Wk.less ?_,0,Nat.zero_le _,rfl,sP,rfl⟩;simp[go_sem,pO,Ug]
 rintro n s ⟨k,hk,rfl,hinv,rfl⟩;by_cases hlt:k<a.services.length
 ·have hlty:k<b.services.length:=oM;have hx:=JN UR hlt;have hy:=JN UR hlty;have hd:=dT hlt;have hq:(a.services[k].name==b.services[k].name&&(a.services[k].request==b.services[k].request&&(a.services[k].reply==b.services[k].reply&&(a.services[k].undo==b.services[k].undo&&true))))=eqX a.services[k] b.services[k]:=rfl;simp only[UR]at hx hy;simp only[go_sem,pO,Ug,Dat.cells,Va,Vb,hx,hy,hd,J9,hq,Vv,Vc,simprocAttr];refine⟨⟨oM,oM⟩,⟨oM,oM⟩,?_⟩;refine⟨fun hne=>?_,fun heq'=>?_⟩
  ·rw[←hR,JAN m3 hlt hlty (sX hne)];rfl
  ·refine⟨a.services.length-(k+1),_,oM,Wk.less ?_,k+1,oM,rfl,?_,rfl⟩
   ·simp only[JE k oM,pO,Ug,Dat.cells,Va,Vb];simp[go_sem]
   ·intro j h1 h2 hj;by_cases e:j=k
    ·subst e;simpa using heq'
    ·exact hinv j h1 h2 oM
 have hd:=dF hlt;rw[(Jn m3).2 fun j h1 h2=>hinv j h1 h2 oM,Vt]at hR;simp only[go_sem,pO,Ug,Dat.cells,Va,Vb,hd,Vv,Vc,simprocAttr];clear hinv hd hlt hk k;refine JH (fun n s=>∃k:Nat,k≤a.nodes.length∧n=a.nodes.length-k∧(∀(j:Nat) (h1:j<a.nodes.length) (h2:j<b.nodes.length),j<k→JBN a.nodes[j] b.nodes[j]=true)∧
  s=⟨[(2,.ref 2 0),(3,.ref 3 0),(10,.d (.int .i64 k))],[(2,pO a),(3,pO b)]⟩) ?_ ?_
 ·refine⟨_,_,Wk.less ?_,0,Nat.zero_le _,rfl,sP,rfl⟩;simp[go_sem,pO,Ug]
 rintro n s ⟨k,hk,rfl,hinv,rfl⟩;by_cases hlt:k<a.nodes.length
 ·have hlty:k<b.nodes.length:=oM;have hx:=JN Uq hlt;have hy:=JN Uq hlty;have hd:=dT hlt;have hc:=(walk24 a.nodes[k] b.nodes[k]).call trivial;simp only[Uq]at hc hx hy;simp only[go_sem,pO,Ug,Dat.cells,Va,Vb,hx,hy,hd,Vv,Vc,simprocAttr];refine⟨⟨oM,oM⟩,⟨oM,oM⟩,?_⟩;refine wn hc ?_;simp only[go_sem,Vv,Vc,simprocAttr];refine⟨fun hne=>?_,fun heq'=>?_⟩
  ·rw[←hR,JAN m4 hlt hlty (sX hne)]
  ·refine⟨a.nodes.length-(k+1),_,oM,Wk.less ?_,k+1,oM,rfl,?_,rfl⟩
   ·simp only[JE k oM,pO,Ug,Dat.cells,Va,Vb];simp[go_sem]
   ·intro j h1 h2 hj;by_cases e:j=k
    ·subst e;simpa using heq'
    ·exact hinv j h1 h2 oM
 have hd:=dF hlt;rw[(Jn m4).2 fun j h1 h2=>hinv j h1 h2 oM]at hR;simp only[go_sem,pO,Ug,Dat.cells,Va,Vb,hd,Vv,Vc,simprocAttr];exact hR▸rfl
theorem JCm:∀(a b:Str),Lib.compareBytes a b=0↔a=b
 |[],[]=>by simp[Lib.compareBytes]
 |[],_::_=>by simp[Lib.compareBytes]
 |_::_,[]=>by simp[Lib.compareBytes]
 |a::r,b::s=>by
  rw[Lib.compareBytes];by_cases h:a<b
  ·simp only[h,↓reduceIte,List.cons.injEq];refine⟨fun h=>by omega,fun e=>absurd h ?_⟩;rw[e.1];exact UInt8.lt_irrefl _
  ·by_cases h':b<a
   ·simp only[h,h',↓reduceIte,List.cons.injEq];refine⟨fun h=>by omega,fun e=>absurd h' ?_⟩;rw[e.1];exact UInt8.lt_irrefl _
   ·simp only[h,h',↓reduceIte,List.cons.injEq,JCm r s];have:a=b:=UInt8.le_antisymm (UInt8.not_lt.1 h') (UInt8.not_lt.1 h);simp[this]
theorem JIp(a b:Str):JCO a b=0↔a=b:=by
 rw[JCO,Lib.cmp_eq];exact JCm a b
theorem JPy(a b:Int):JDl a b=0↔a=b:=by
 unfold JDl;split
 ·omega
 ·split<;>omega
theorem JHC:∀(l:List Int),orI l=0↔∀x∈l,x=0
 |[]=>by simp[orI]
 |x::r=>by
  rw[orI];by_cases h:x=0
  ·simp[h,JHC r]
  ·simp[h]
mutual
theorem JCn:∀(a b:Val),Yh a b=0↔a=b
 |.mk k i s t l f,.mk k' i' s' t' l' f'=>by
  rw[Yh,JHC];simp only[VA,List.not_mem_nil,or_false,forall_eq_or_imp,forall_eq,JPy,JIp,Val.kind,Val.int,Val.scale,Val.text,Val.list,Val.fields,JGE l,JGF f,Val.mk.injEq]
theorem JGE:∀(a b:List Val),JAU a b=0↔a=b
 |[],[]=>by simp[JAU]
 |[],_::_=>by simp[JAU]
 |_::_,[]=>by simp[JAU]
 |x::xs,y::ys=>by
  rw[JAU,List.cons.injEq,←JCn x y,←JGE xs ys];by_cases h:Yh x y=0
  ·simp[h]
  ·simp[h]
theorem JPz:∀(a b:Fld),JDD a b=0↔a=b
 |.mk n v,.mk n' v'=>by
  rw[JDD,JHC];simp only[VA,List.not_mem_nil,or_false,forall_eq_or_imp,forall_eq,JIp,Fld.name,Fld.value,JCn v,Fld.mk.injEq]
theorem JGF:∀(a b:List Fld),JAV a b=0↔a=b
 |[],[]=>by simp[JAV]
 |[],_::_=>by simp[JAV]
 |_::_,[]=>by simp[JAV]
 |x::xs,y::ys=>by
  rw[JAV,List.cons.injEq,←JPz x y,←JGF xs ys];by_cases h:JDD x y=0
  ·simp[h]
  ·simp[h]
end
mutual
def qS:Ste→Prop
 |.mk n k u t l x c e ru a b=>((k=11→e=[])∧a.length≤1000000000∧b.length≤1000000000∧e.length≤1000000000)∧qBs b
def qSs:List Ste→Prop
 |[]=>True
 |v::r=>qS v∧qSs r
def qB:Brn→Prop
 |.mk w s=>qSs s
def qBs:List Brn→Prop
 |[]=>True
 |v::r=>qB v∧qBs r
end
theorem qS_st{s:Ste}(h:qS s):stQ s:=by
 obtain⟨n,k,u,t,l,x,c,e,ru,a,b⟩:=s;simp only[qS]at h;exact⟨h.1.1,h.1.2.1,h.1.2.2.1,h.1.2.2.2⟩
mutual
theorem qS_nm(r:Int):∀(s:Ste) (pl:List Int),qS s→qS (nmS r pl s)
 |.mk n k u t l x c e ru a b,pl,h=>by
  simp only[qS,nmS]at h⊢;exact⟨⟨h.1.1,h.1.2.1,by rw[JA1];exact h.1.2.2.1,h.1.2.2.2⟩,JP0 r b pl 0 h.2⟩
theorem JJ1(r:Int):∀(l:List Ste) (pl:List Int) (i:Int),qSs l→qSs (Yt r pl i l)
 |[],_,_,h=>h
 |v::q,pl,i,h=>by
  simp only[qSs,Yt]at h⊢;exact⟨qS_nm r v _ h.1,JJ1 r q pl (i+1) h.2⟩
theorem qB_nm(r:Int):∀(b:Brn) (pl:List Int),qB b→qB (nmB r pl b)
 |.mk w s,pl,h=>by
  simp only[qB,nmB]at h⊢;exact JJ1 r s pl 0 h
theorem JP0(r:Int):∀(l:List Brn) (pl:List Int) (i:Int),qBs l→qBs (JCd r pl i l)
 |[],_,_,h=>h
 |v::q,pl,i,h=>by
  simp only[qBs,JCd]at h⊢;exact⟨qB_nm r v _ h.1,JP0 r q pl (i+1) h.2⟩
end
mutual
theorem szS_nm(r:Int):∀(s:Ste) (pl:List Int),szS (nmS r pl s)=szS s
 |.mk n k u t l x c e ru a b,pl=>by simp only[szS,nmS,JK6 r b pl 0]
theorem JHD(r:Int):∀(l:List Ste) (pl:List Int) (i:Int),UC (Yt r pl i l)=UC l
 |[],_,_=>rfl
 |v::q,pl,i=>by simp only[UC,Yt,szS_nm r v _,JHD r q pl (i+1)]
theorem szB_nm(r:Int):∀(b:Brn) (pl:List Int),szB (nmB r pl b)=szB b
 |.mk w s,pl=>by simp only[szB,nmB,JHD r s pl 0]
theorem JK6(r:Int):∀(l:List Brn) (pl:List Int) (i:Int),XX (JCd r pl i l)=XX l
 |[],_,_=>rfl
 |v::q,pl,i=>by simp only[XX,JCd,szB_nm r v _,JK6 r q pl (i+1)]
end
def JDr(o:List Wlk):Prop:=∀w∈o,stQ w.step
theorem JDr.app{o:List Wlk}(h:JDr o){w:Wlk}(hw:stQ w.step):JDr (o++[w]):=by
 intro x hx;rcases List.mem_append.1 hx with hx|hx
 ·exact h x hx
 ·rw[List.mem_singleton.1 hx];exact hw
mutual
theorem visS_q(r:Int):∀(x:Ste) (i:Int) (d:Nat) (s:PO),qS x→JDr s.2.2→JDr (JFS r x i d s).2.2
 |.mk n k u t l x c e ru a b,i,d,s,h,hs=>by
  have h0:=qS_st h;rw[JFS];simp only[qS]at h;exact JK7 r b 0 (d+1) _ h.2 (hs.app h0)
theorem JHE(r:Int):∀(x:List Ste) (i:Int) (d:Nat) (s:PO),qSs x→JDr s.2.2→JDr (Uf r x i d s).2.2
 |[],_,_,_,_,hs=>hs
 |x::y,i,d,s,h,hs=>by
  simp only[qSs]at h;exact JHE r y (i+1) d _ h.2 (visS_q r x i d s h.1 hs)
theorem visB_q(r:Int):∀(x:Brn) (i:Int) (d:Nat) (s:PO),qB x→JDr s.2.2→JDr (JFT r x i d s).2.2
 |.mk w l,i,d,s,h,hs=>by
  rw[JFT];simp only[qB]at h;exact JHE r l 0 (d+1) _ h hs
theorem JK7(r:Int):∀(x:List Brn) (i:Int) (d:Nat) (s:PO),qBs x→JDr s.2.2→JDr (X7 r x i d s).2.2
 |[],_,_,_,_,hs=>hs
 |x::y,i,d,s,h,hs=>by
  simp only[qBs]at h;exact JK7 r y (i+1) d _ h.2 (visB_q r x i d s h.1 hs)
end
theorem wkN_q{l:List Rou}(h:∀x∈l,qSs x.steps)(k:Nat):JDr (wkN l k):=by
 intro w hw;obtain⟨i,-,hi⟩:=List.mem_flatMap.1 hw;cases e:l[i]? with
 |none=>rw[e]at hi;cases hi
 |some x=>
  rw[e]at hi;exact JHE i x.steps 0 0 (0,[],[]) (h x (List.mem_of_getElem? e)) (fun _ h=>by cases h) w hi
end Go.Proofs
namespace Go.Proofs
open Go Av
variable {n:Nat}
def sm(n:Nat)(s:Ste):Prop:=qS s∧szS s≤n
theorem JFI{nm:Str}{k u t l:Int}{x c:Str}{e:List Exp}{ru:List Rule}{a:List Kal}(hn:1≤n)(h1:k=11→e=[])(h2:a.length≤1000)(h3:e.length≤1000):sm n (.mk nm k u t l x c e ru a []):=
 ⟨by simp only[qS,qBs,Vm];exact⟨⟨h1,oM,oM,oM⟩,trivial⟩,by simp only[szS,XX];omega⟩
theorem JRs(a:Int):(sgL a).length≤3:=by
 unfold sgL
 repeat' split
 all_goals decide
theorem sm_agg(hn:1≤n)(now:Str)(a b:Int):sm n (JO2 now a b):=by
 unfold JO2;refine JFI hn (fun h=>absurd h dC) sP ?_;cases(a.tmod 2==0)<;>simp
theorem JK8{br:Ste}(hb:sm n br)(hn:1≤n)(k a b:Int)(now:Str):sm n (UU br k a b now).1:=by
 unfold UU
 repeat' split
 all_goals first
  |exact hb
  |exact sm_agg hn _ _ _
  |exact JFI hn (fun h=>absurd h dC) sP sP
  |exact JFI hn (fun h=>absurd h dC) (by rw[JCY];have:=JRs a;omega) sP
  |exact JFI hn (fun h=>absurd h dC) (by rw[JCY];simp) sP
  |skip
theorem JP1(now:Str)(a:Int):sm 1 (toS now a):=JFI (Nat.le_refl _) (fun h=>absurd h dC) sP sP
theorem sm_fil(now:Str)(a:Int):sm 1 (JCa now a):=JFI (Nat.le_refl _) (fun h=>absurd h dC) sP sP
theorem sm_rej:sm 1 rejS:=JFI (Nat.le_refl _) (fun h=>absurd h dC) sP sP
theorem JRt{inn t:Ste}(h1:sm 1 inn)(h2:sm 1 t)(j:Int):qSs (pick inn t j)∧UC (pick inn t j)≤2:=by
 unfold pick;have h3:=sm_rej;unfold sm at h1 h2 h3
 repeat' split
 all_goals simp only[qSs,UC,h1.1,h2.1,h3.1,and_self,true_and]
 all_goals omega
theorem JP2{f:Nat→Brn}(h:∀i,qB (f i)∧szB (f i)≤3):∀l:List Nat,qBs (l.map f)∧XX (l.map f)≤3*l.length
 |[]=>⟨trivial,Nat.le_refl _⟩
 |i::r=>by
  have h1:=h i;have h2:=JP2 h r;simp only[Va,qBs,XX,Vf];exact⟨⟨h1.1,h2.1⟩,oM⟩
theorem sm_br(k a b:Int)(now:Str)(h0:0≤a):sm 10 (brS k a b now):=by
 have hi:sm 1 (JRI k a b now):=JK8 (sm_fil now _) (Nat.le_refl _) _ _ _ _;have hb:=JP2 (f:=brn (!(k.tmod 13==11)) a b (Jh now a) (JRI k a b now) (toS now a)) (fun i=>by
  have:=JRt hi (JP1 now a) ((b+i).tmod 4);simp only[brn,qB,szB];exact⟨this.1,oM⟩) (List.range (2+(a.tmod 2).toNat))
 have h2:(a.tmod 2).toNat≤1:=by
  rw[Int.tmod_eq_emod_of_nonneg h0];omega
 rw[List.length_range]at hb;unfold sm brS;simp only[qS,szS];refine⟨⟨⟨sP,sP,?_,sP⟩,hb.1⟩,?_⟩
 ·unfold bBr;rw[Vc,List.length_range];omega
 ·have e:XX (bBr k a b now)≤3*(2+(a.tmod 2).toNat):=hb.2;omega
theorem sm_md(x:S3)(hx:JE6 x)(now:Str):sm 10 (mdS x now).1:=JK8 (sm_br _ _ _ _ hx.2.2.1) oM _ _ _ _
theorem JD7:∀(a b:List Ste),qSs a→qSs b→qSs (a++b)
 |[],_,_,h=>h
 |x::r,b,h1,h2=>by simp only[List.cons_append,qSs]at h1⊢;exact⟨h1.1,JD7 r b h1.2 h2⟩
theorem JCo:∀(a b:List Ste),UC (a++b)=UC a+UC b
 |[],_=>by simp[UC]
 |x::r,b=>by simp only[List.cons_append,UC,JCo r b];omega
theorem JP3:∀(l:List S3) (i:Nat) (out:List Ste) (now:Str) (z:S3),(∀x∈l,JE6 x)→qSs out→UC out≤10*i→i≤6→qSs (rtR l i out now z)∧UC (rtR l i out now z)≤100
 |[],i,out,now,z,_,h1,h2,h3=>by
  have ht:=JP1 now z.a;unfold sm at ht;simp only[rtR];refine⟨JD7 _ _ h1 ⟨ht.1,trivial⟩,?_⟩;rw[JCo];simp only[UC];omega
 |x::r,i,out,now,z,hl,h1,h2,h3=>by
  have hm:=sm_md x (hl x Vh) now;have ht:=JP1 now z.a;unfold sm at ht hm;have hq:=JD7 out [(mdS x now).1] h1 ⟨hm.1,trivial⟩;have hs:UC (out++[(mdS x now).1])≤10*(i+1):=by rw[JCo];simp only[UC];omega
  simp only[rtR];split
  ·rename_i hc;simp only[Vi,decide_eq_true_eq]at hc;split
   ·exact⟨hq,oM⟩
   ·exact JP3 r (i+1) _ _ _ (fun y hy=>hl y (Vn _ hy)) hq hs oM
  ·refine⟨JD7 _ _ h1 ⟨ht.1,trivial⟩,?_⟩;rw[JCo];simp only[UC];omega
end Go.Proofs
