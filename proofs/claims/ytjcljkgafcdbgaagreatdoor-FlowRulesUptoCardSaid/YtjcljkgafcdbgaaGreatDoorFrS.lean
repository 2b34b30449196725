/- Part S of a proof. -/
import Derived.Test.YtjcljkgafcdbgaaGreatDoorFrC
import Derived.Test.YtjcljkgafcdbgaaGreatDoorProg
import Derived.Test.YtjcljkgafcdbgaaGreatDoorFrA
import Derived.Test.YtjcljkgafcdbgaaGreatDoorFrQ
import Derived.Laws.AppendOwn
import Derived.Shelf.Strings.OnBuilder
import Derived.Lib.Bytealg
import Derived.Shelf.Slices.Clone
import Derived.Shelf.SlGeneric
import Derived.Shelf.LaysM
import Derived.Shelf.Strconv.Itoa3
import Derived.Shelf.LaysC
import Derived.Shelf.Strconv.AtoiAll
import Derived.Ground.Names2Prog
import Derived.Ground.SlgnProg
import Derived.Test.YtjcljkgafcdbgaaGreatDoorFrN
import Derived.Lib.ItoaLen
import Derived.Shelf.Strings.BuilderK
import Derived.Shelf.Strings.BuilderRune
import Derived.Shelf.Strings.Repeat
import Derived.Shelf.Unicode.DecodeAny
import Derived.Shelf.Sort.Plain
import Derived.Shelf.Slices.In.SortNone
import Derived.Shelf.Slices.CompactS
import Derived.Lib.RuneLoops
import Derived.WalkKit
import Derived.Laws.CopyRow
import Derived.Shelf.Spec.SlicesInsertGrow
set_option linter.unusedVariables false
set_option linter.unusedSimpArgs false
set_option linter.unusedSectionVars false
set_option linter.constructorNameAsVariable false
set_option linter.unnecessarySimpa false
set_option maxRecDepth 100000
namespace Go.Proofs
open Go Av
open Av.Y
def sw17:Ic:=q (R (of 31 7 0<|ol 32 31<|ob 33 .rem (t 32) (.k (.int .u8 10))<|N) [31,32])<|D (.block 2<|q (R (ob 35 .eql (t 33) (.k (.int .u8 3))<|om 34 35<|N) [35])<|I 34 (q (R (cl 36 46 [.k (.str [98,111,100,121,46,119])]<|oN 9 [.int .i64 0,.int .i64 0,.str [],.nil 6,.nil 5]<|oS 5 9 36<|N) [33,34,36])<|q (q (R (of 37 7 2<|ol 38 37<|ob 39 .rem (t 38) (.k (.int .u8 2))<|ob 40 .eql (t 39) (.k (.int .u8 0))<|N) [37,38,39])<|D (I 40 (R (of 41 7 3<|ol 42 41<|ob 43 .rem (t 42) (.k (.int .u8 3))<|oo 44 (.cvi .i64 (t 43))<|cl 45 47 [t 44]<|oS 5 9 45<|N) [40,41,42,43,44,45]) S) [40])<|D (.regd [(4,6)] (of 46 7 3<|ol 47 46<|ob 48 .rem (t 47) (.k (.int .u8 10))<|oo 49 (.cvi .i64 (t 48))<|cl 50 48 [t 49]<|oo 51 (.bld [.str [],.int .i64 0,.int .i64 0,.str [],.nil 6,.nil 5] [(0,1,.k (.str [110])),(1,5,t 50)])<|oL 52 5 9<|oo 53 (.bld [.str [],.int .i64 0,.int .i64 0,.str [],.nil 6,.nil 5] [(0,1,.k (.str [119])),(1,5,t 52)])<|oo 54 (.bls 6 [t 51,t 53])<|oo 55 (.bld [.nil 6] [(0,1,t 54)])<|oo 56 (.bld [.str [],.int .i64 0,.int .i64 0,.int .i64 0,.int .i64 0,.str [],.str [],.nil 5,.nil 6,.nil 2,.nil 2] [(1,1,i 2),(6,1,.k (.str [111,114,100,101,114])),(8,1,t 55)])<|oS 11 8 56<|N)) [9,46,47,48,49,50,51,52,53,54,55,56]) (q (R (ob 58 .eql (t 33) (.k (.int .u8 4))<|om 57 58<|N) [34,58])<|I 57 (R (oo 59 (.bld [.str [],.int .i64 0,.int .i64 0,.int .i64 0,.int .i64 0,.str [],.str [],.nil 5,.nil 6,.nil 2,.nil 2] [(1,1,i 8),(3,1,i 5),(4,1,i 3)])<|oS 11 8 59<|N) [33,57,59]) (q (R (ob 61 .eql (t 33) (.k (.int .u8 5))<|om 60 61<|N) [57,61])<|I 60 (R (cl 62 46 [.k (.str [98,111,100,121,46,110])]<|oo 63 (.bls 5 [t 62])<|oo 64 (.bld [.str [],.int .i64 0,.int .i64 0,.int .i64 0,.int .i64 0,.str [],.str [],.nil 5,.nil 6,.nil 2,.nil 2] [(1,1,i 6),(7,1,t 63),(2,1,i 3)])<|oS 11 8 64<|N) [33,60,62,63,64]) (q (q (R (ob 66 .eql (t 33) (.k (.int .u8 6))<|om 65 66<|N) [60,66])<|I 65 S (R (ob 67 .eql (t 33) (.k (.int .u8 7))<|om 65 67<|N) [67]))<|I 65 (R (oo 68 (.bld [.str [],.int .i64 0,.int .i64 0,.int .i64 0,.int .i64 0,.str [],.str [],.nil 5,.nil 6,.nil 2,.nil 2] [(1,1,i 11)])<|oS 11 8 68<|N) [33,65,68]) (q (R (ob 70 .eql (t 33) (.k (.int .u8 8))<|om 69 70<|N) [65,70])<|I 69 (R (oo 71 (.bld [.str [],.int .i64 0,.int .i64 0,.int .i64 0,.int .i64 0,.str [],.str [],.nil 5,.nil 6,.nil 2,.nil 2] [(1,1,i 12)])<|oS 11 8 71<|N) [33,69,71]) (q (R (ob 73 .eql (t 33) (.k (.int .u8 9))<|om 72 73<|N) [33,69,73])<|D (I 72 (q (R (om 74 6<|oi 75 .add 74 1<|om 76 0<|oh 77 76<|ot 78 .eql 75 77<|om 79 78<|.sc 79 false (om 80 6<|oi 81 .eql 80 5<|N) (t 81) 82 N) [72,74,75,76,77,78,79,80,81])<|D (I 82 (q (R (oo 83 (.bld [.str [],.int .i64 0,.int .i64 0,.int .i64 0,.int .i64 0,.str [],.str [],.nil 5,.nil 6,.nil 2,.nil 2] [(1,1,i 14),(5,1,.k (.str [101,110,100]))])<|oS 11 8 83<|N) [82,83])<|q (R (of 84 7 2<|ol 85 84<|ob 86 .rem (t 85) (.k (.int .u8 2))<|ob 87 .eql (t 86) (.k (.int .u8 0))<|N) [84,85,86])<|D (I 87 (R (oo 88 (.bls 1 [.k (.str [111,117,116]),.k (.str [113])])<|of 89 7 3<|ol 90 89<|ob 91 .rem (t 90) (.k (.int .u8 2))<|oa false 92 1 88 91<|ol 93 92<|oo 94 (.bld [.str [],.int .i64 0,.int .i64 0,.int .i64 0,.int .i64 0,.str [],.str [],.nil 5,.nil 6,.nil 2,.nil 2] [(1,1,i 13),(5,1,t 93)])<|oS 11 8 94<|N) [87,88,89,90,91,92,93,94]) S) [87]) S) [82]) S) [72])))))) [33,35,34,36,9,37,38,39,40,41,42,43,44,45,46,47,48,49,50,51,52,53,54,55,56,58,57,59,61,60,62,63,64,66,65,67,68,70,69,71,73,72,74,75,76,77,78,79,80,81,82,83,84,85,86,87,88,89,90,91,92,93,94]
def br17:Ic:=q (R (of 95 8 1<|ol 96 95<|oi 97 .eql 96 11<|om 98 97<|.sc 98 false (of 99 8 1<|ol 100 99<|oi 101 .eql 100 12<|N) (t 101) 102 N) [95,96,97,98,99,100,101])<|D (I 102 (q (q (R (om 103 1<|oi 104 .geq 103 2<|om 105 104<|.sc 105 false (of 106 7 4<|ol 107 106<|oh 108 107<|oi 109 .eql 108 0<|N) (t 109) 110 N) [102,103,104,105,106,107,108,109])<|D (I 110 (E 1) S) [110])<|q (.reg (oz 10 0<|N))<|D (.block 3<|.loop (q (q (R (om 111 10<|of 112 7 4<|ol 113 112<|oh 114 113<|ot 115 .lss 111 114<|om 116 115<|.sc 116 true (om 117 10<|oi 118 .lss 117 4<|N) (t 118) 119 N) [111,112,113,114,115,116,117,118])<|D (I 119 S (E 3)) [119])<|q (D (.block 4<|q (R (of 122 7 4<|ol 123 122<|om 124 10<|oa false 125 1 123 124<|ol 126 125<|om 127 1<|oi 128 .add 127 1<|cl 129 17 [t 126,t 128]<|oo 130 (.bld [.nil 5,.nil 11] [(1,1,t 129)])<|oN 11 [.nil 5,.nil 11]<|oS 2 11 130<|N) [122,123,124,125,126,127,128,129,130])<|q (R (oL 131 5 7<|oN 12 [.int .u8 0,.int .u8 0,.int .u8 0,.int .u8 0,.nil 1]<|oS 5 12 131<|N) [131])<|q (D (.regd [(7,12)] (of 132 7 3<|ol 133 132<|om 134 10<|ob 135 .mul (i 3) (t 134)<|oo 136 (.cvi .u8 (t 135))<|ot 137 .add 133 136<|of 138 7 1<|ol 139 138<|om 140 10<|oo 141 (.cvi .u8 (t 140))<|ot 142 .add 139 141<|of 143 12 3<|os 143 137<|of 144 12 1<|os 144 142<|N)) [132,133,134,135,136,137,138,139,140,141,142,143,144])<|q (q (R (of 145 8 1<|ol 146 145<|oi 147 .eql 146 11<|om 148 147<|.sc 148 true (om 149 10<|oi 150 .add 149 1<|of 151 7 4<|ol 152 151<|oh 153 152<|oo 154 (.mn (i 4) (t 153))<|ot 155 .lss 150 154<|om 156 155<|.sc 156 false (of 157 7 2<|ol 158 157<|ob 159 .rem (t 158) (.k (.int .u8 3))<|ob 160 .gtr (t 159) (.k (.int .u8 0))<|N) (t 160) 161 N) (t 161) 162 N) [145,146,147,148,149,150,151,152,153,154,155,156,157,158,159,160,161])<|D (I 162 (R (oL 163 5 12<|cl 164 45 [t 163]<|oo 165 (.bls 5 [t 164])<|of 166 11 0<|os 166 165<|N) [12,162,163,164,165,166]) S) [12,162])<|R (of 167 8 10<|ol 168 167<|oL 169 2 11<|oo 170 (.bls 2 [t 169])<|oo 171 (.app 2 (t 168) (t 170))<|of 172 8 10<|os 172 171<|N) [11,167,168,169,170,171,172]) [122,123,124,125,126,127,128,129,130,11,131,12,132,133,134,135,136,137,138,139,140,141,142,143,144,145,146,147,148,149,150,151,152,153,154,155,156,157,158,159,160,161,162,163,164,165,166,167,168,169,170,171,172])<|R (om 120 10<|oi 121 .add 120 1<|om 10 121<|N) [120,121])) [7,10,111,112,113,114,115,116,117,118,119,122,123,124,125,126,127,128,129,130,11,131,12,132,133,134,135,136,137,138,139,140,141,142,143,144,145,146,147,148,149,150,151,152,153,154,155,156,157,158,159,160,161,162,163,164,165,166,167,168,169,170,171,172,120,121]) S) [7,102]
def ir17:Ic:=q (R (ok 4 (.k (.nil 11))<|N) [4])<|q (.reg (ok 5 (.k (.nil 11))<|N))<|q (q (.reg (oz 6 0<|N))<|D (.block 0<|.loop (q (q (R (om 13 6<|om 14 0<|oh 15 14<|ot 16 .lss 13 15<|om 17 16<|.sc 17 true (om 18 6<|oi 19 .lss 18 6<|N) (t 19) 20 N) [13,14,15,16,17,18,19])<|D (I 20 S (E 0)) [20])<|q (D (.block 1<|q (R (om 23 0<|om 24 6<|oa true 25 5 23 24<|oL 26 5 25<|oN 7 [.int .u8 0,.int .u8 0,.int .u8 0,.int .u8 0,.nil 1]<|oS 5 7 26<|N) [23,24,25,26])<|q (R (oL 27 5 7<|cl 28 45 [t 27]<|oo 29 (.bls 5 [t 28])<|oo 30 (.bld [.str [],.int .i64 0,.int .i64 0,.int .i64 0,.int .i64 0,.str [],.str [],.nil 5,.nil 6,.nil 2,.nil 2] [(1,1,i 1),(7,1,t 29),(5,1,.k (.str [110,111]))])<|oN 8 [.str [],.int .i64 0,.int .i64 0,.int .i64 0,.int .i64 0,.str [],.str [],.nil 5,.nil 6,.nil 2,.nil 2]<|oS 11 8 30<|N) [27,28,29,30])<|q sw17<|q br17<|q (R (om 173 5<|oL 174 11 8<|oo 175 (.bls 11 [t 174])<|oo 176 (.app 11 (t 173) (t 175))<|om 5 176<|N) [173,174,175,176])<|q (R (oL 177 11 8<|cl 178 40 [t 177]<|N) [8,177])<|D (I 178 (E 0) S) [178]) [23,24,25,26,7,27,28,29,30,8,31,32,33,35,34,36,9,37,38,39,40,41,42,43,44,45,46,47,48,49,50,51,52,53,54,55,56,58,57,59,61,60,62,63,64,66,65,67,68,70,69,71,73,72,74,75,76,77,78,79,80,81,82,83,84,85,86,87,88,89,90,91,92,93,94,95,96,97,98,99,100,101,102,103,104,105,106,107,108,109,110,10,111,112,113,114,115,116,117,118,119,122,123,124,125,126,127,128,129,130,11,131,12,132,133,134,135,136,137,138,139,140,141,142,143,144,145,146,147,148,149,150,151,152,153,154,155,156,157,158,159,160,161,162,163,164,165,166,167,168,169,170,171,172,120,121,173,174,175,176,177,178])<|R (om 21 6<|oi 22 .add 21 1<|om 6 22<|N) [21,22])) [0,1,6,13,14,15,16,17,18,19,20,23,24,25,26,7,27,28,29,30,8,31,32,33,35,34,36,9,37,38,39,40,41,42,43,44,45,46,47,48,49,50,51,52,53,54,55,56,58,57,59,61,60,62,63,64,66,65,67,68,70,69,71,73,72,74,75,76,77,78,79,80,81,82,83,84,85,86,87,88,89,90,91,92,93,94,95,96,97,98,99,100,101,102,103,104,105,106,107,108,109,110,10,111,112,113,114,115,116,117,118,119,122,123,124,125,126,127,128,129,130,11,131,12,132,133,134,135,136,137,138,139,140,141,142,143,144,145,146,147,148,149,150,151,152,153,154,155,156,157,158,159,160,161,162,163,164,165,166,167,168,169,170,171,172,120,121,173,174,175,176,177,178,21,22])<|q (R (om 179 5<|om 4 179<|N) [5,179])<|.ret
theorem ok17:FT 17 180 ir17 [.tmp 4]:=.o Tryz.func17
end Go.Proofs
namespace Go.Proofs
open Go Av
open Av.Y
def ir148:Ic:=q (R (ow 6 false<|N) [6])<|q (R (om 7 0<|om 8 1<|ot 9 .geq 7 8<|om 10 9<|.sc 10 true (om 11 0<|om 12 2<|ot 13 .leq 11 12<|N) (t 13) 14 (om 6 14<|N)) [0,1,2,7,8,9,10,14])<|.ret
theorem ok148:FT 148 15 ir148 [.tmp 6]:=.o Tryz.func148
def ir165:Ic:=q (R (ox 1 0<|ow 2 false<|N) [0,2])<|q (R (of 3 1 3<|ol 4 3<|cl 5 148 [t 4,i 0,i 17592186044416]<|om 6 5<|.sc 6 true (of 7 1 4<|ol 8 7<|cl 9 148 [t 8,i 1,i 256]<|N) (t 9) 10 (om 2 10<|N)) [1,3,4,5,6,10])<|.ret
theorem ok165:FT 165 11 ir165 [.tmp 2]:=.o Tryz.func165
def ir171:Ic:=q (R (ox 2 0<|ow 4 false<|N) [0,4])<|q (R (of 5 2 9<|ol 6 5<|oh 7 6<|om 8 1<|cl 9 148 [t 7,i 1,t 8]<|om 10 9<|.sc 10 true (of 11 2 6<|ol 12 11<|ob 13 .sne (t 12) (.k (.str []))<|N) (t 13) 14 (om 15 14<|.sc 15 true (oL 16 11 2<|cl 17 165 [t 16]<|N) (t 17) 18 (om 4 18<|N))) [1,2,5,6,7,8,9,10,14,15,18])<|.ret
theorem ok171:FT 171 19 ir171 [.tmp 4]:=.o Tryz.func171
def ir161:Ic:=q (R (ow 2 false<|N) [2])<|q (R (om 3 0<|oj 4 3<|cl 5 148 [t 4,i 1,i 64]<|om 6 5<|.sc 6 true (om 7 0<|cl 8 202 [t 7]<|N) (t 8) 9 (om 2 9<|N)) [0,3,4,5,6,9])<|.ret
theorem ok161:FT 161 10 ir161 [.tmp 2]:=.o Tryz.func161
def ir174:Ic:=q (R (ox 2 0<|ow 4 false<|N) [0,4])<|q (q (R (of 8 2 10<|ol 9 8<|oh 10 9<|oz 11 0<|N) [8])<|D (.block 0<|.loop (q (.reg (ot 12 .lss 11 10<|N))<|q (D (I 12 S (E 0)) [12])<|q (D (.block 1<|q (R (om 13 11<|oa true 14 2 9 11<|oL 15 2 14<|oN 6 [.nil 5,.nil 11]<|om 5 13<|oS 2 6 15<|N) [13,14,15])<|q (R (om 16 5<|of 17 2 10<|ol 18 17<|oh 19 18<|oi 20 .sub 19 1<|ot 21 .eql 16 20<|om 22 21<|.sc 22 true (of 23 6 0<|ol 24 23<|oh 25 24<|oi 26 .eql 25 0<|N) (t 26) 27 (om 7 27<|N)) [5,16,17,18,19,20,21,22,27])<|q (R (of 28 6 0<|ol 29 28<|oh 30 29<|om 31 1<|ot 32 .neq 30 31<|om 33 32<|.sc 33 true (om 34 7<|og 35 34<|N) (t 35) 36 N) [6,7,28,29,30,31,32,33])<|D (I 36 (q (R (ow 4 false<|N) [1,2,9,10,11,36])<|.ret) S) [36]) [])<|R (oi 37 .add 11 1<|om 11 37<|N) [37])) [1,9,10,11,12,6,5,7])<|q (R (of 38 2 10<|ol 39 38<|oh 40 39<|cl 41 148 [t 40,i 1,i 64]<|om 4 41<|N) [2,38,39,40,41])<|.ret
theorem ok174:FT 174 42 ir174 [.tmp 4]:=.o Tryz.func174
def ir259:Ic:=q (R (ox 1 0<|ow 2 false<|N) [0,2])<|q (R (of 3 1 2<|ol 4 3<|oi 5 .eql 4 0<|om 6 5<|.sc 6 true (of 7 1 3<|ol 8 7<|oi 9 .eql 8 0<|N) (t 9) 10 (om 11 10<|.sc 11 true (of 12 1 4<|ol 13 12<|oi 14 .eql 13 0<|N) (t 14) 15 (om 16 15<|.sc 16 true (of 17 1 5<|ol 18 17<|ob 19 .seq (t 18) (.k (.str []))<|N) (t 19) 20 (om 21 20<|.sc 21 true (of 22 1 6<|ol 23 22<|ob 24 .seq (t 23) (.k (.str []))<|N) (t 24) 25 (om 26 25<|.sc 26 true (of 27 1 7<|ol 28 27<|oh 29 28<|oi 30 .eql 29 0<|N) (t 30) 31 (om 32 31<|.sc 32 true (of 33 1 8<|of 34 33 0<|ol 35 34<|oh 36 35<|oi 37 .eql 36 0<|N) (t 37) 38 (om 39 38<|.sc 39 true (of 40 1 9<|ol 41 40<|oh 42 41<|oi 43 .eql 42 0<|N) (t 43) 44 (om 45 44<|.sc 45 true (of 46 1 10<|ol 47 46<|oh 48 47<|oi 49 .eql 48 0<|N) (t 49) 50 (om 2 50<|N))))))))) [1,3,4,5,6,10,11,15,16,20,21,25,26,31,32,38,39,44,45,50])<|.ret
theorem ok259:FT 259 51 ir259 [.tmp 2]:=.o Tryz.func259
def ir40:Ic:=q (R (ox 1 0<|ow 2 false<|N) [0,2])<|q (q (R (of 3 1 1<|ol 4 3<|N) [3])<|D (.block 0<|q (q (R (oi 6 .eql 4 13<|om 5 6<|N) [6])<|I 5 S (R (oi 7 .eql 4 14<|om 5 7<|N) [7]))<|D (I 5 (q (R (ow 2 true<|N) [1,4,5])<|.ret) (q (q (R (oi 9 .eql 4 11<|om 8 9<|N) [5,9])<|D (I 8 S (R (oi 10 .eql 4 12<|om 8 10<|N) [4,10])) [4])<|D (I 8 (q (R (of 11 1 10<|ol 12 11<|oh 13 12<|oi 14 .gtr 13 0<|om 15 14<|.sc 15 true (of 16 1 10<|ol 17 16<|cl 18 73 [t 17,.k (.fn (.func 74) [] [])]<|og 19 18<|N) (t 19) 20 (om 2 20<|N)) [1,8,11,12,13,14,15,20])<|.ret) S) [1,8])) []) [7,10,11])<|q (.reg (ow 2 false<|N))<|.ret
theorem ok40:FT 40 21 ir40 [.tmp 2]:=.o Tryz.func40
def ir74:Ic:=q (R (ox 1 0<|ow 2 false<|N) [0,2])<|q (R (of 3 1 1<|ol 4 3<|cl 5 18 [t 4]<|og 6 5<|om 2 6<|N) [1,3,4,5,6])<|.ret
theorem ok74:FT 74 7 ir74 [.tmp 2]:=.o Tryz.func74
def ir18:Ic:=q (R (ow 2 false<|N) [2])<|q (R (om 3 0<|oh 4 3<|oi 5 .gtr 4 0<|om 6 5<|.sc 6 true (om 7 0<|om 8 0<|oh 9 8<|oi 10 .sub 9 1<|oa true 11 11 7 10<|oL 12 11 11<|cl 13 40 [t 12]<|N) (t 13) 14 (om 2 14<|N)) [0,3,4,5,6,14])<|.ret
theorem ok18:FT 18 15 ir18 [.tmp 2]:=.o Tryz.func18
def ir257:Ic:=q (R (ok 2 (.k (.str []))<|N) [2])<|q (.reg (ok 3 (.k (.str []))<|N))<|q (q (R (om 6 0<|oh 7 6<|oz 8 0<|N) [0])<|D (.block 0<|.loop (q (.reg (ot 9 .lss 8 7<|N))<|q (D (I 9 S (E 0)) [9])<|q (D (.block 1<|q (R (oa false 10 1 6 8<|ol 11 10<|om 5 11<|N) [10,11])<|q (R (om 12 5<|om 13 3<|ot 14 .sne 12 13<|N) [12,13])<|D (I 14 (q (R (om 15 5<|om 2 15<|N) [3,6,7,8,5,14,15])<|.ret) S) [5,14]) [])<|R (oi 16 .add 8 1<|om 8 16<|N) [16])) [6,7,8,9,10,11,5])<|q (R (om 17 3<|om 2 17<|N) [3,17])<|.ret
theorem ok257:FT 257 18 ir257 [.tmp 2]:=.o Tryz.func257
def ir258:Ic:=q (R (ok 4 (.k (.str []))<|N) [4])<|q (R (om 5 0<|oo 6 (.bls 1 [t 5])<|om 7 1<|oo 8 (.app 1 (t 6) (t 7))<|cl 9 78 [t 8,.k (.str [95])]<|ob 10 .cat (.k (.str [115])) (t 9)<|om 4 10<|N) [0,1,5,6,7,8,9,10])<|.ret
theorem ok258:FT 258 11 ir258 [.tmp 4]:=.o Tryz.func258
def ir78:Ic:=q (R (ok 4 (.k (.str []))<|N) [4])<|q (.reg (ok 5 (.k (.nil 1))<|N))<|q (q (R (om 8 0<|oh 9 8<|oz 10 0<|N) [0])<|D (.block 0<|.loop (q (.reg (ot 11 .lss 10 9<|N))<|q (D (I 11 S (E 0)) [11])<|q (D (.block 1<|q (R (oa false 12 1 8 10<|ol 13 12<|om 7 13<|N) [12,13])<|R (om 14 5<|om 15 7<|cl 16 110 [t 15]<|oo 17 (.bls 1 [t 16])<|oo 18 (.app 1 (t 14) (t 17))<|om 5 18<|N) [7,14,15,16,17,18]) [])<|R (oi 19 .add 10 1<|om 10 19<|N) [19])) [8,9,10,11,7])<|q (R (om 20 5<|om 21 1<|cl 22 129 [t 20,t 21]<|om 4 22<|N) [1,5,20,21,22])<|.ret
theorem ok78:FT 78 23 ir78 [.tmp 4]:=.o Tryz.func78
def ir179:Ic:=q (R (ox 1 0<|ok 2 (.k (.str []))<|N) [0,2])<|q (D (.regd [(2,7)] (of 3 1 2<|of 4 3 0<|ol 5 4<|of 6 1 0<|ol 7 6<|of 8 1 1<|ol 9 8<|cl 10 258 [t 7,t 9]<|oo 11 (.bls 1 [t 5,t 10])<|cl 12 257 [t 11]<|om 2 12<|N)) [1,3,4,5,6,7,8,9,10,11,12])<|.ret
theorem ok179:FT 179 13 ir179 [.tmp 2]:=.o Tryz.func179
end Go.Proofs
namespace Go.Proofs
open Go Av
open Av.Y
def ir21:Ic:=q (R (ox 1 0<|oN 2 [.int .i64 0,.int .i64 0,.str [],.nil 6,.nil 5]<|N) [0])<|q (R (of 8 1 0<|ol 9 8<|of 10 1 1<|ol 11 10<|of 12 1 2<|ol 13 12<|oo 14 (.bld [.int .i64 0,.int .i64 0,.str [],.nil 6,.nil 5] [(0,1,t 9),(1,1,t 11),(2,1,t 13)])<|oN 3 [.int .i64 0,.int .i64 0,.str [],.nil 6,.nil 5]<|oS 5 3 14<|N) [8,9,10,11,12,13,14])<|q (q (R (of 15 1 3<|ol 16 15<|oh 17 16<|oz 18 0<|N) [15])<|D (.block 0<|.loop (q (.reg (ot 19 .lss 18 17<|N))<|q (D (I 19 S (E 0)) [19])<|q (D (.block 1<|q (R (oa true 20 6 16 18<|oL 21 6 20<|oN 5 y6<|oS 6 5 21<|N) [20,21])<|D (.regd [(1,3),(1,4)] (of 22 3 3<|ol 23 22<|oL 24 6 5<|cl 25 49 [t 24]<|oo 26 (.bls 6 [t 25])<|oo 27 (.app 6 (t 23) (t 26))<|of 28 3 3<|os 28 27<|N)) [5,22,23,24,25,26,27,28]) [])<|R (oi 29 .add 18 1<|om 18 29<|N) [29])) [16,17,18,19,5])<|q (q (R (of 30 1 4<|ol 31 30<|oh 32 31<|oz 33 0<|N) [1,30])<|D (.block 2<|.loop (q (.reg (ot 34 .lss 33 32<|N))<|q (D (I 34 S (E 2)) [34])<|q (D (.block 3<|q (R (oa true 35 5 31 33<|oL 36 5 35<|oN 7 [.int .i64 0,.int .i64 0,.str [],.nil 6,.nil 5]<|oS 5 7 36<|N) [35,36])<|D (.regd [(1,3),(1,4)] (of 37 3 4<|ol 38 37<|oL 39 5 7<|cl 40 21 [t 39]<|oo 41 (.bls 5 [t 40])<|oo 42 (.app 5 (t 38) (t 41))<|of 43 3 4<|os 43 42<|N)) [7,37,38,39,40,41,42,43]) [])<|R (oi 44 .add 33 1<|om 33 44<|N) [44])) [31,32,33,34,7])<|q (R (oL 45 5 3<|oS 5 2 45<|N) [3,45])<|.ret
theorem ok21:FT 21 46 ir21 [.cell 2 (some 5)]:=.o Tryz.func21
def ir118:Ic:=q (R (ox 1 0<|oN 2 [.nil 6]<|N) [0])<|q (R (of 6 1 0<|ol 7 6<|oh 8 7<|oo 9 (.mks 6 [.str [],.int .i64 0,.int .i64 0,.str [],.nil 6,.nil 5] (i 0) (t 8))<|om 3 9<|N) [6,7,8,9])<|q (q (R (of 10 1 0<|ol 11 10<|oh 12 11<|oz 13 0<|N) [1,10])<|D (.block 0<|.loop (q (.reg (ot 14 .lss 13 12<|N))<|q (D (I 14 S (E 0)) [14])<|q (D (.block 1<|q (R (oa true 15 6 11 13<|oL 16 6 15<|oN 5 [.str [],.int .i64 0,.int .i64 0,.str [],.nil 6,.nil 5]<|oS 6 5 16<|N) [15,16])<|D (.regd [(2,5)] (om 17 3<|of 18 5 0<|ol 19 18<|of 20 5 1<|oL 21 5 20<|cl 22 21 [t 21]<|oo 23 (.bld [.str [],.int .i64 0,.int .i64 0,.str [],.nil 6,.nil 5] [(0,1,t 19),(1,5,t 22)])<|oo 24 (.bls 6 [t 23])<|oo 25 (.app 6 (t 17) (t 24))<|om 3 25<|N)) [5,17,18,19,20,21,22,23,24,25]) [])<|R (oi 26 .add 13 1<|om 13 26<|N) [26])) [11,12,13,14,5])<|q (R (om 27 3<|oo 28 (.bld [.nil 6] [(0,1,t 27)])<|oS 1 2 28<|N) [3,27,28])<|.ret
theorem ok118:FT 118 29 ir118 [.cell 2 (some 1)]:=.o Tryz.func118
def ir117:Ic:=q (R (ok 4 (.k (.nil 5))<|N) [4])<|q (.reg (ok 5 (.k (.nil 5))<|N))<|q (q (R (om 8 0<|oh 9 8<|oz 10 0<|N) [0])<|D (.block 0<|.loop (q (.reg (ot 11 .lss 10 9<|N))<|q (D (I 11 S (E 0)) [11])<|q (D (.block 1<|q (R (oa true 12 5 8 10<|oL 13 5 12<|oN 7 [.int .i64 0,.int .i64 0,.str [],.nil 6,.nil 5]<|oS 5 7 13<|N) [12,13])<|R (om 14 5<|om 15 1<|oL 16 5 7<|.call (some 17) (.dyn (t 15)) [t 16] (oo 18 (.bls 5 [t 17])<|oo 19 (.app 5 (t 14) (t 18))<|om 5 19<|N)) [7,14,15,16,17,18,19]) [])<|R (oi 20 .add 10 1<|om 10 20<|N) [20])) [1,8,9,10,11,7])<|q (R (om 21 5<|om 4 21<|N) [5,21])<|.ret
theorem ok117:FT 117 22 ir117 [.tmp 4]:=.o Tryz.func117
def ir119:Ic:=q (R (ok 4 (.k (.nil 2))<|N) [4])<|q (.reg (ok 5 (.k (.nil 2))<|N))<|q (q (R (om 8 0<|oh 9 8<|oz 10 0<|N) [0])<|D (.block 0<|.loop (q (.reg (ot 11 .lss 10 9<|N))<|q (D (I 11 S (E 0)) [11])<|q (D (.block 1<|q (R (oa true 12 2 8 10<|oL 13 2 12<|oN 7 [.str [],.nil 6]<|oS 2 7 13<|N) [12,13])<|R (om 14 5<|om 15 1<|oL 16 2 7<|.call (some 17) (.dyn (t 15)) [t 16] (oo 18 (.bls 2 [t 17])<|oo 19 (.app 2 (t 14) (t 18))<|om 5 19<|N)) [7,14,15,16,17,18,19]) [])<|R (oi 20 .add 10 1<|om 10 20<|N) [20])) [1,8,9,10,11,7])<|q (R (om 21 5<|om 4 21<|N) [5,21])<|.ret
theorem ok119:FT 119 22 ir119 [.tmp 4]:=.o Tryz.func119
def ir120:Ic:=q (R (ox 1 0<|oN 2 [.str [],.nil 6]<|N) [0])<|q (R (of 3 1 1<|oL 4 1 3<|cl 5 118 [t 4]<|of 6 1 1<|oS 1 6 5<|N) [3,4,5,6])<|q (R (oL 7 2 1<|oS 2 2 7<|N) [1,7])<|.ret
theorem ok120:FT 120 8 ir120 [.cell 2 (some 2)]:=.o Tryz.func120
def ir121:Ic:=q (R (ok 4 (.k (.nil 2))<|N) [4])<|q (.reg (ok 5 (.k (.nil 2))<|N))<|q (q (R (om 8 0<|oh 9 8<|oz 10 0<|N) [0])<|D (.block 0<|.loop (q (.reg (ot 11 .lss 10 9<|N))<|q (D (I 11 S (E 0)) [11])<|q (D (.block 1<|q (R (oa true 12 2 8 10<|oL 13 2 12<|oN 7 [.nil 5,.nil 11]<|oS 2 7 13<|N) [12,13])<|R (om 14 5<|om 15 1<|oL 16 2 7<|.call (some 17) (.dyn (t 15)) [t 16] (oo 18 (.bls 2 [t 17])<|oo 19 (.app 2 (t 14) (t 18))<|om 5 19<|N)) [7,14,15,16,17,18,19]) [])<|R (oi 20 .add 10 1<|om 10 20<|N) [20])) [1,8,9,10,11,7])<|q (R (om 21 5<|om 4 21<|N) [5,21])<|.ret
theorem ok121:FT 121 22 ir121 [.tmp 4]:=.o Tryz.func121
def ir122:Ic:=q (R (ox 1 0<|oN 2 [.nil 5,.nil 11]<|N) [0])<|q (D (.regd [(2,4)] (of 3 1 0<|ol 4 3<|cl 5 117 [t 4,.k (.fn (.func 21) [] [])]<|of 6 1 1<|ol 7 6<|cl 8 123 [t 7,.k (.fn (.func 71) [] [])]<|oo 9 (.bld [.nil 5,.nil 11] [(0,1,t 5),(1,1,t 8)])<|oS 2 2 9<|N)) [1,3,4,5,6,7,8,9])<|.ret
theorem ok122:FT 122 10 ir122 [.cell 2 (some 2)]:=.o Tryz.func122
def ir123:Ic:=q (R (ok 4 (.k (.nil 11))<|N) [4])<|q (.reg (ok 5 (.k (.nil 11))<|N))<|q (q (R (om 8 0<|oh 9 8<|oz 10 0<|N) [0])<|D (.block 0<|.loop (q (.reg (ot 11 .lss 10 9<|N))<|q (D (I 11 S (E 0)) [11])<|q (D (.block 1<|q (R (oa true 12 11 8 10<|oL 13 11 12<|oN 7 [.str [],.int .i64 0,.int .i64 0,.int .i64 0,.int .i64 0,.str [],.str [],.nil 5,.nil 6,.nil 2,.nil 2]<|oS 11 7 13<|N) [12,13])<|R (om 14 5<|om 15 1<|oL 16 11 7<|.call (some 17) (.dyn (t 15)) [t 16] (oo 18 (.bls 11 [t 17])<|oo 19 (.app 11 (t 14) (t 18))<|om 5 19<|N)) [7,14,15,16,17,18,19]) [])<|R (oi 20 .add 10 1<|om 10 20<|N) [20])) [1,8,9,10,11,7])<|q (R (om 21 5<|om 4 21<|N) [5,21])<|.ret
theorem ok123:FT 123 22 ir123 [.tmp 4]:=.o Tryz.func123
def ir71:Ic:=q (R (ox 1 0<|oN 2 [.str [],.int .i64 0,.int .i64 0,.int .i64 0,.int .i64 0,.str [],.str [],.nil 5,.nil 6,.nil 2,.nil 2]<|N) [0])<|q (R (of 3 1 7<|ol 4 3<|cl 5 117 [t 4,.k (.fn (.func 21) [] [])]<|of 6 1 7<|os 6 5<|N) [3,4,5,6])<|q (R (of 7 1 8<|oL 8 1 7<|cl 9 118 [t 8]<|of 10 1 8<|oS 1 10 9<|N) [7,8,9,10])<|q (R (of 11 1 9<|ol 12 11<|cl 13 119 [t 12,.k (.fn (.func 120) [] [])]<|of 14 1 9<|os 14 13<|N) [11,12,13,14])<|q (R (of 15 1 10<|ol 16 15<|cl 17 121 [t 16,.k (.fn (.func 122) [] [])]<|of 18 1 10<|os 18 17<|N) [15,16,17,18])<|q (R (oL 19 11 1<|oS 11 2 19<|N) [1,19])<|.ret
theorem ok71:FT 71 20 ir71 [.cell 2 (some 11)]:=.o Tryz.func71
end Go.Proofs
namespace Go.Proofs
open Go Av
open Av.Y
def ir105:Ic:=q (R (oz 4 0<|N) [4])<|q (q (R (om 6 0<|oh 7 6<|oz 8 0<|N) [6])<|D (.block 0<|.loop (q (.reg (ot 9 .lss 8 7<|N))<|q (D (I 9 S (E 0)) [9])<|q (D (.block 1<|q (R (om 10 8<|om 5 10<|N) [10])<|q (R (om 11 1<|om 12 0<|om 13 5<|oa true 14 9 12 13<|oL 15 9 14<|.call (some 16) (.dyn (t 11)) [t 15] N) [11,12,13,14,15])<|D (I 16 (q (R (om 17 5<|om 4 17<|N) [0,1,7,8,5,16,17])<|.ret) S) [5,16]) [])<|R (oi 18 .add 8 1<|om 8 18<|N) [18])) [0,1,7,8,9,10,5,11])<|q (.reg (oz 4 (-1)<|N))<|.ret
theorem ok105:FT 105 19 ir105 [.tmp 4]:=.o Tryz.func105
def ir104:Ic:=q (R (oz 4 0<|N) [4])<|q (q (R (om 6 0<|oh 7 6<|oz 8 0<|N) [6])<|D (.block 0<|.loop (q (.reg (ot 9 .lss 8 7<|N))<|q (D (I 9 S (E 0)) [9])<|q (D (.block 1<|q (R (om 10 8<|om 5 10<|N) [10])<|q (R (om 11 1<|om 12 0<|om 13 5<|oa true 14 7 12 13<|oL 15 7 14<|.call (some 16) (.dyn (t 11)) [t 15] N) [11,12,13,14,15])<|D (I 16 (q (R (om 17 5<|om 4 17<|N) [0,1,7,8,5,16,17])<|.ret) S) [5,16]) [])<|R (oi 18 .add 8 1<|om 8 18<|N) [18])) [0,1,7,8,9,10,5,11])<|q (.reg (oz 4 (-1)<|N))<|.ret
theorem ok104:FT 104 19 ir104 [.tmp 4]:=.o Tryz.func104
def ir444:Ic:=q (R (oz 4 0<|N) [4])<|q (q (R (om 6 0<|oh 7 6<|oz 8 0<|N) [6])<|D (.block 0<|.loop (q (.reg (ot 9 .lss 8 7<|N))<|q (D (I 9 S (E 0)) [9])<|q (D (.block 1<|q (R (om 10 8<|om 5 10<|N) [10])<|q (R (om 11 1<|om 12 0<|om 13 5<|oa true 14 4 12 13<|oL 15 4 14<|.call (some 16) (.dyn (t 11)) [t 15] N) [11,12,13,14,15])<|D (I 16 (q (R (om 17 5<|om 4 17<|N) [0,1,7,8,5,16,17])<|.ret) S) [5,16]) [])<|R (oi 18 .add 8 1<|om 8 18<|N) [18])) [0,1,7,8,9,10,5,11])<|q (.reg (oz 4 (-1)<|N))<|.ret
theorem ok444:FT 444 19 ir444 [.tmp 4]:=.o Tryz.func444
def ir178:Ic:=q (R (oz 4 0<|N) [4])<|q (q (R (om 6 0<|oh 7 6<|oz 8 0<|N) [6])<|D (.block 0<|.loop (q (.reg (ot 9 .lss 8 7<|N))<|q (D (I 9 S (E 0)) [9])<|q (D (.block 1<|q (R (om 10 8<|om 5 10<|N) [10])<|q (R (om 11 1<|om 12 0<|om 13 5<|oa true 14 3 12 13<|oL 15 3 14<|.call (some 16) (.dyn (t 11)) [t 15] N) [11,12,13,14,15])<|D (I 16 (q (R (om 17 5<|om 4 17<|N) [0,1,7,8,5,16,17])<|.ret) S) [5,16]) [])<|R (oi 18 .add 8 1<|om 8 18<|N) [18])) [0,1,7,8,9,10,5,11])<|q (.reg (oz 4 (-1)<|N))<|.ret
theorem ok178:FT 178 19 ir178 [.tmp 4]:=.o Tryz.func178
def ir254:Ic:=q (R (oz 4 0<|N) [4])<|q (q (R (om 6 0<|oh 7 6<|oz 8 0<|N) [6])<|D (.block 0<|.loop (q (.reg (ot 9 .lss 8 7<|N))<|q (D (I 9 S (E 0)) [9])<|q (D (.block 1<|q (R (om 10 8<|om 5 10<|N) [10])<|q (R (om 11 1<|om 12 0<|om 13 5<|oa true 14 13 12 13<|oL 15 13 14<|.call (some 16) (.dyn (t 11)) [t 15] N) [11,12,13,14,15])<|D (I 16 (q (R (om 17 5<|om 4 17<|N) [0,1,7,8,5,16,17])<|.ret) S) [5,16]) [])<|R (oi 18 .add 8 1<|om 8 18<|N) [18])) [0,1,7,8,9,10,5,11])<|q (.reg (oz 4 (-1)<|N))<|.ret
theorem ok254:FT 254 19 ir254 [.tmp 4]:=.o Tryz.func254
def ir124:Ic:=q (R (oz 4 0<|N) [4])<|q (q (R (om 6 0<|oh 7 6<|oz 8 0<|N) [6])<|D (.block 0<|.loop (q (.reg (ot 9 .lss 8 7<|N))<|q (D (I 9 S (E 0)) [9])<|q (D (.block 1<|q (R (om 10 8<|om 5 10<|N) [10])<|q (R (om 11 1<|om 12 0<|om 13 5<|oa true 14 2 12 13<|oL 15 2 14<|.call (some 16) (.dyn (t 11)) [t 15] N) [11,12,13,14,15])<|D (I 16 (q (R (om 17 5<|om 4 17<|N) [0,1,7,8,5,16,17])<|.ret) S) [5,16]) [])<|R (oi 18 .add 8 1<|om 8 18<|N) [18])) [0,1,7,8,9,10,5,11])<|q (.reg (oz 4 (-1)<|N))<|.ret
theorem ok124:FT 124 19 ir124 [.tmp 4]:=.o Tryz.func124
def ir59:Ic:=q (R (oz 4 0<|ow 5 false<|N) [4,5])<|q (R (om 7 0<|om 8 1<|cl 9 105 [t 7,t 8]<|om 6 9<|N) [0,1,7,8,9])<|q (R (om 10 6<|oo 11 (.mx (t 10) (i 0))<|om 12 6<|oi 13 .geq 12 0<|om 4 11<|om 5 13<|N) [6,10,11,12,13])<|.ret
theorem ok59:FT 59 14 ir59 [.tmp 4,.tmp 5]:=.o Tryz.func59
def ir57:Ic:=q (R (oz 4 0<|ow 5 false<|N) [4,5])<|q (R (om 7 0<|om 8 1<|cl 9 104 [t 7,t 8]<|om 6 9<|N) [0,1,7,8,9])<|q (R (om 10 6<|oo 11 (.mx (t 10) (i 0))<|om 12 6<|oi 13 .geq 12 0<|om 4 11<|om 5 13<|N) [6,10,11,12,13])<|.ret
theorem ok57:FT 57 14 ir57 [.tmp 4,.tmp 5]:=.o Tryz.func57
def ir350:Ic:=q (R (oz 4 0<|ow 5 false<|N) [4,5])<|q (R (om 7 0<|om 8 1<|cl 9 444 [t 7,t 8]<|om 6 9<|N) [0,1,7,8,9])<|q (R (om 10 6<|oo 11 (.mx (t 10) (i 0))<|om 12 6<|oi 13 .geq 12 0<|om 4 11<|om 5 13<|N) [6,10,11,12,13])<|.ret
theorem ok350:FT 350 14 ir350 [.tmp 4,.tmp 5]:=.o Tryz.func350
def ir96:Ic:=q (R (ow 4 false<|N) [4])<|q (R (om 5 0<|om 6 1<|cl 7 178 [t 5,t 6]<|oi 8 .geq 7 0<|om 4 8<|N) [0,1,5,6,7,8])<|.ret
theorem ok96:FT 96 9 ir96 [.tmp 4]:=.o Tryz.func96
def ir146:Ic:=q (R (ow 4 false<|N) [4])<|q (R (om 5 0<|om 6 1<|cl 7 254 [t 5,t 6]<|oi 8 .geq 7 0<|om 4 8<|N) [0,1,5,6,7,8])<|.ret
theorem ok146:FT 146 9 ir146 [.tmp 4]:=.o Tryz.func146
def ir73:Ic:=q (R (ow 4 false<|N) [4])<|q (R (om 5 0<|om 6 1<|cl 7 124 [t 5,t 6]<|oi 8 .geq 7 0<|om 4 8<|N) [0,1,5,6,7,8])<|.ret
theorem ok73:FT 73 9 ir73 [.tmp 4]:=.o Tryz.func73
def ir60:Ic:=q (R (ox 3 0<|ow 4 false<|N) [0,4])<|q (R (of 5 3 0<|ol 6 5<|ol 7 1<|ot 8 .seq 6 7<|om 9 8<|.sc 9 true (of 10 3 1<|ol 11 10<|ol 12 2<|ot 13 .eql 11 12<|N) (t 13) 14 (om 4 14<|N)) [3,5,6,7,8,9,14])<|.ret
theorem ok60:FT 60 15 ir60 [.tmp 4]:=.o Tryz.func60
def ir58:Ic:=q (R (ox 2 0<|ow 3 false<|N) [0,3])<|q (R (of 4 2 0<|ol 5 4<|ol 6 1<|ot 7 .seq 5 6<|om 3 7<|N) [2,4,5,6,7])<|.ret
theorem ok58:FT 58 8 ir58 [.tmp 3]:=.o Tryz.func58
def ir351:Ic:=q (R (ox 2 0<|ow 3 false<|N) [0,3])<|q (R (of 4 2 0<|ol 5 4<|ol 6 1<|ot 7 .seq 5 6<|om 3 7<|N) [2,4,5,6,7])<|.ret
theorem ok351:FT 351 8 ir351 [.tmp 3]:=.o Tryz.func351
def ir147:Ic:=q (R (ox 1 0<|ow 2 false<|N) [0,2])<|q (R (of 3 1 1<|ol 4 3<|oh 5 4<|oi 6 .add 5 1<|oi 7 .quo 6 2<|oi 8 .gtr 7 4<|om 2 8<|N) [1,3,4,5,6,7,8])<|.ret
theorem ok147:FT 147 9 ir147 [.tmp 2]:=.o Tryz.func147
def ir97:Ic:=q (R (ox 2 0<|ow 3 false<|N) [0,3])<|q (R (of 4 2 0<|ol 5 4<|of 6 1 0<|ol 7 6<|ot 8 .seq 5 7<|om 3 8<|N) [2,4,5,6,7,8])<|.ret
theorem ok97:FT 97 9 ir97 [.tmp 3]:=.o Tryz.func97
def ir98:Ic:=q (R (ox 2 0<|ow 3 false<|N) [0,3])<|q (R (of 4 2 1<|ol 5 4<|of 6 1 1<|ol 7 6<|ot 8 .seq 5 7<|om 3 8<|N) [2,4,5,6,7,8])<|.ret
theorem ok98:FT 98 9 ir98 [.tmp 3]:=.o Tryz.func98
def ir28:Ic:=q (R (ox 3 0<|ox 4 1<|ox 5 2<|oz 6 0<|ow 7 false<|N) [0,1,2,6,7])<|q (R (of 8 3 1<|ol 9 8<|oo 10 (.fnv (.func 60) [] [t 4,t 5])<|cl 11 59 [t 9,t 10]<|oe 12 11 0<|oe 13 11 1<|om 6 12<|om 7 13<|N) [3,4,5,8,9,10,11,12,13])<|.ret
theorem ok28:FT 28 14 ir28 [.tmp 6,.tmp 7]:=.o Tryz.func28
def ir27:Ic:=q (R (ox 2 0<|ox 3 1<|oz 4 0<|ow 5 false<|N) [0,1,4,5])<|q (R (of 6 2 2<|ol 7 6<|oo 8 (.fnv (.func 58) [] [t 3])<|cl 9 57 [t 7,t 8]<|oe 10 9 0<|oe 11 9 1<|om 4 10<|om 5 11<|N) [2,3,6,7,8,9,10,11])<|.ret
theorem ok27:FT 27 12 ir27 [.tmp 4,.tmp 5]:=.o Tryz.func27
def ir260:Ic:=q (R (ox 2 0<|ox 3 1<|oz 4 0<|ow 5 false<|N) [0,1,4,5])<|q (R (of 6 2 3<|ol 7 6<|oo 8 (.fnv (.func 351) [] [t 3])<|cl 9 350 [t 7,t 8]<|oe 10 9 0<|oe 11 9 1<|om 4 10<|om 5 11<|N) [2,3,6,7,8,9,10,11])<|.ret
theorem ok260:FT 260 12 ir260 [.tmp 4,.tmp 5]:=.o Tryz.func260
def ir150:Ic:=q (R (ox 2 0<|oz 4 0<|ow 5 false<|N) [0,4,5])<|q (.reg (oz 6 0<|ow 7 false<|N))<|q (q (R (of 10 2 1<|ol 11 10<|oh 12 11<|oz 13 0<|N) [10])<|D (.block 0<|.loop (q (.reg (ot 14 .lss 13 12<|N))<|q (D (I 14 S (E 0)) [14])<|q (D (.block 1<|q (R (om 15 13<|oa true 16 9 11 13<|oL 17 9 16<|oN 9 [.str [],.int .i64 0,.int .i64 0,.int .i64 0,.int .i64 0,.int .i64 0,.nil 1,.nil 7,.nil 11]<|om 8 15<|oS 9 9 17<|N) [15,16,17])<|q (R (of 18 9 0<|ol 19 18<|om 20 1<|ot 21 .seq 19 20<|om 22 21<|.sc 22 true (om 23 7<|og 24 23<|om 25 24<|.sc 25 false (of 26 9 1<|ol 27 26<|of 28 2 1<|ol 29 28<|om 30 6<|oa true 31 9 29 30<|of 32 31 1<|ol 33 32<|ot 34 .gtr 27 33<|N) (t 34) 35 N) (t 35) 36 N) [9,18,19,20,21,22])<|D (I 36 (R (om 37 8<|om 6 37<|ow 7 true<|N) [8,36,37]) S) [8,36]) [])<|R (oi 38 .add 13 1<|om 13 38<|N) [38])) [1,2,11,12,13,14,9,8])<|q (R (om 39 6<|om 40 7<|om 4 39<|om 5 40<|N) [6,7,39,40])<|.ret
theorem ok150:FT 150 41 ir150 [.tmp 4,.tmp 5]:=.o Tryz.func150
end Go.Proofs
namespace Av
open Go
variable [Glb][Rls]
section
variable {β:JM}{A:Nat→Prop}{w:World}{H:Heap}{D:Nat→Prop}
theorem VRep.JGR{i ver sz:Nat}{xs:List Dat}{u:Value}(h:VRep β A w H (.ms i ver) u)(hi:H i=some (.row ver sz xs)):VRep β A w H (.sub i ver 0 xs.length) u:=by
 cases h with
 |ms _ _ _ hu h0 h1 h2=>
  refine .sub _ _ _ _ _ hu h0 ?_ ?_
  ·intro v' sz' xs' hr;obtain⟨g1,g2⟩:=h1 v' sz' xs' hr;refine⟨g1,fun e=>?_⟩;rw[hi]at hr;cases hr;refine⟨oM,?_⟩;rcases g2 rfl with⟨b0,n0,a,rfl⟩|⟨b,C,T,fz,cap,e1,e2,e3,e4,rfl⟩
   ·exact .inl ⟨b0,rfl,n0,a,rfl⟩
   ·exact .inr ⟨b,C,T,fz,cap,⟨b,0,none⟩,e1,e2,e3,oM,fun _=>by simp,sP⟩
  ·intro sz' xs' hr;rw[hi]at hr;cases hr
theorem Wk.JSI{st:St}(t i ver sz:Nat)(xs:List Dat)(ht:get st.tm t=some (.ms i ver))(hi:get st.hp i=some (.row ver sz xs)):Wk D st ⟨put st.tm t (.sub i ver 0 xs.length),st.hp⟩:=by
 intro β A w a hc htr;refine⟨β,A,hc,fun t' v hv=>?_,fun i o b h1 h2 h3=>⟨i,o,h1,h2,h3⟩,fun _ h=>.inl h,fun c u _ h=>h⟩;rw[UF]at hv;split at hv
 ·rename_i e;subst e;cases hv;obtain⟨u,q1,q2⟩:=htr t' _ ht;exact⟨u,q1,q2.JGR hi⟩
 ·exact htr t' v hv
end
end Av
namespace Av
open Go
variable [Glb][Rls]
theorem JIK(ρ:Nat→Nat)(ds:List Dat):J3 ρ (ds.map .d)=ds.map .d:=by
 induction ds with
 |nil=>rfl
 |cons x r ih=>simp[J3,Av.ren,ih]
theorem JN7{v:Av}(h:J5 v)(ρ:Nat→Nat):v.ren ρ=v:=by
 cases v with
 |d x=>rfl
 |tup cs=>
  have h':∀c∈cs,∃x,c=.d x:=h;have e:∃ds:List Dat,cs=ds.map .d:=by
   clear h
   induction cs with
   |nil=>exact⟨[],rfl⟩
   |cons c r ih=>
    obtain⟨x,rfl⟩:=h' c Vh;obtain⟨ds,rfl⟩:=ih fun c hc=>h' c (Vn _ hc)
    exact⟨x::ds,rfl⟩
  obtain⟨ds,rfl⟩:=e;simp only[Av.ren,JIK]
 |_=>exact h.elim
theorem JIL(G:Nat→Option Obj)(ds:List Dat):JR G (ds.map .d):=by
 induction ds with
 |nil=>trivial
 |cons x r ih=>exact⟨trivial,ih⟩
theorem JN8{v:Av}(h:J5 v)(G:Heap):inT G v:=by
 cases v with
 |d x=>trivial
 |tup cs=>
  have h':∀c∈cs,∃x,c=.d x:=h;show JR _ cs;clear h
  induction cs with
  |nil=>trivial
  |cons c r ih=>
   obtain⟨x,rfl⟩:=h' c Vh;exact⟨trivial,ih fun c hc=>h' c (Vn _ hc)⟩
 |_=>exact h.elim
theorem Con.rw1{P:Program}{f:Nat}{az cs cs':List Dat}{v:Av}(h:Con P f (.ref 1000 0::az.map .d) [(1000,.box (cs.map .d))] v [(1000,.box (cs'.map .d))])(hv:J5 v)(i:Nat):
  JC P f (.ref i 0::az.map .d) [(i,some (.box (cs.map .d)))] v [(i,.box (cs'.map .d))]:=by
 have hcl:∀a:List Dat,closed (get [(1000,.box (a.map .d))]):=fun a=>UK ⟨JIL _ a,trivial⟩
 have hu:JA (get [(1000,.box (cs.map .d))]) [(1000,.box (cs'.map .d))]=get [(1000,.box (cs'.map .d))]:=by
  rw[←UA];rfl
 have hdom:∀(a:List Dat) j,(get [(1000,Obj.box (a.map .d))] j).isSome=true→j=1000:=by
  intro a j hj;simp only[get]at hj;split at hj
  ·rename_i e;exact e.symm
  ·cases hj
 have:=h.call (fun _=>i) ?_ ?_ ?_ (hcl cs) [] ?_ ?_ ?_
 ·have e:(az.map Av.d).map (Av.ren fun _=>i)=az.map Av.d:=by
   rw[List.map_map];exact List.map_congr_left fun x _=>by simp[Av.ren]
  simpa[Av.ren,Obj.ren,JIK,e,JN7 hv]using this
 ·intro j hj;rw[hdom _ j hj];decide
 ·intro a b ha hb _;rw[hu]at ha hb;rw[hdom _ a ha,hdom _ b hb]
 ·intro c hc;rcases VA.1 hc with rfl|hc
  ·rfl
  ·obtain⟨x,_,rfl⟩:=VC.1 hc;trivial
 ·intro e he;simp only[List.mem_singleton]at he;subst he;exact .inl rfl
 ·rw[hu];exact hcl cs'
 ·exact JN8 hv _
end Av
namespace Av
open Go
variable [Glb][Rls]
theorem Wk.frzT{D:Nat→Prop}{st:St}(t i v sz:Nat)(xs:List Dat)(ht:get st.tm t=some (.ms i v))(hi:get st.hp i=some (.row v sz xs)):Wk D st ⟨put st.tm t (.d (.list sz xs)),put st.hp i (.frz v sz xs)⟩:=by
 refine Wk.JFH ?_;intro β A w a hc htr;obtain⟨u,q1,q2⟩:=htr t _ ht;have hd:Jl (get st.hp) [.ms i v]=some (v=v∧True,[.list sz xs],[(i,.frz v sz xs)]):=by simp[Jl,XD,Uu,hi]
 obtain⟨A1,s1,l1,r1,m1⟩:=U4 hc hd ⟨rfl,trivial⟩ (us:=[u]) rfl (fun k c u' h1 h2=>by
  cases k with
  |zero=>simp at h1 h2;subst h1;subst h2;exact q2
  |succ k=>simp at h1)
 have hh:get (put st.hp i (.frz v sz xs))=JA (get st.hp) [(i,.frz v sz xs)]:=funext fun j=>by rw[UF];rfl
 rw[hh];refine⟨β,A1,s1,?_⟩;intro t' v' hv;rw[UF]at hv;split at hv
 ·rename_i e;subst e;cases hv;exact⟨u,q1,.d _ _ (r1 0 _ u rfl rfl)⟩
 ·obtain⟨u',g1,g2⟩:=htr t' v' hv;exact⟨u',g1,s1.vals _ _ g2⟩
end Av
namespace Av
open Go
variable [Glb][Rls]
abbrev JBY(g:Nat)(cs:List Dat):Dat:=.fn (.func g) [] [.ptr cs]
theorem JCG(cs:List Dat):YL (cs.map .d)=some cs:=by
 induction cs with
 |nil=>rfl
 |cons x r ih=>simp only[Va,YL,ih]
theorem JC.clo{P:Program}{f g:Nat}{ds cs:List Dat}{r:Dat}(h:Jz P f (ds++[JBY g cs]) (.d r))(hr:scalar r=true)(i:Nat):
  JC P f (ds.map .d++[.clo (.func g) [] [.ref i 0]]) [(i,some (.box (cs.map .d)))] (.d r) []:=by
 intro β A w H vs hT hc hvs;have hi:H i=some (.box (cs.map .d)):=hT _ (List.mem_singleton.2 rfl);have st:=Stp.Yg hc hi (JCG cs);have hc0:Core β (fun k=>A k∨β i=some k) w (get []):=⟨(by intro i o hi;cases hi),(by intro i j o o' b hi;cases hi),(by intro i o b hi;cases hi),st.core.old,st.core.glob⟩;refine .inl ⟨h.1,(h.2 β (fun k=>A k∨β i=some k) w vs hc0 ⟨by have:=hvs.1;simp at this⊢;omega,?_⟩).mono ?_⟩
 ·intro k c v h1 h2;rw[Vo]at h1;cases e:(ds++[JBY g cs])[k]? with
  |none=>simp[e]at h1
  |some x=>
   simp only[e,Vj,Vd]at h1;subst h1;refine .d _ _ ?_;by_cases hk:k<ds.length
   ·rw[Vz hk]at e;have:=hvs.2 k (.d x) v (by rw[Vz (sX hk),Vo,e];rfl) h2;exact(st.vals _ _ this).JU
   ·rw[Vy oM]at e;have hk0:k-ds.length=0:=by
     rcases Nat.eq_zero_or_pos (k-ds.length)with h|h
     ·exact h
     ·rw[List.getElem?_eq_none sO]at e;cases e
    rw[hk0]at e;cases e;have hlen:(ds.map Av.d).length=ds.length:=sP;have:=hvs.2 k (.clo (.func g) [] [.ref i 0]) v (by rw[Vy sO,hlen,hk0];rfl) h2;have h3:=st.vals _ _ this;cases h3 with
    |clo _ _ _ a1 a2 l1 l2 hf hvv=>
     refine .fn _ _ _ a1 a2 l1 (sX l2) (by intro j c v hj;cases hj) ?_;intro j c v hj hjv
     match j,hj with
     |0,hj=>
      cases hj;have hrf:=hvv 0 _ v rfl hjv;cases hrf with
      |ref _ _ _ _ _ hu g0 g1 g2=>
       have:=g2 cs sU;simpa using this
     |j+1,hj=>cases hj
 ·rintro e w' ⟨v,β1,A1,rfl,hsince,hc1,hv⟩;obtain⟨s1,s2,s3,s4,s5,sl,s6,s7,s8⟩:=hsince;dsimp only at s1 s2 s3 s4 s5 sl;have hsame:∀b,b<w.heap.size→w'.heap[b]? =w.heap[b]? :=fun b hb=>s5 b hb (by intro i o hi;cases hi)
  have hst:Stp β A w H β A w' H:=Stp.new hc s1 s2 s3 s4 hsame (fun _ h=>h) (fun _ h=>.inl h) (fun b hb=>by have:=hc.old b hb;omega);exact⟨v,rfl,β,A,hst,.d _ _ (hv.JU.scalar hr)⟩
end Av
namespace Go.Proofs
open Go Av
variable {g:Nat}{cs:List Dat}
def ixQ{α:Type}(q:α→Bool)(l:List α):Int:=match l.findIdx? q with
 |some k=>(k:Int)
 |none=> -1
def fdQ{α:Type}(q:α→Bool)(l:List α):Nat:=(l.findIdx? q).getD 0
theorem ZT{α:Type}{q:α→Bool}{l:List α}{k:Nat}(h:k<l.length)(hk:q l[k]=true)(hj:∀(j:Nat) (h1:j<l.length),j<k→q l[j]=false):ixQ q l=k:=by
 have:l.findIdx? q=some k:=by
  rw[List.findIdx?_eq_some_iff_getElem];exact⟨h,hk,fun j h2=>by rw[hj j oM h2];decide⟩
 simp only[ixQ,this]
theorem ZU{α:Type}{q:α→Bool}{l:List α}(hj:∀(j:Nat) (h1:j<l.length),q l[j]=false):ixQ q l= -1:=by
 have:l.findIdx? q=none:=by
  rw[List.findIdx?_eq_none_iff];intro x hx;obtain⟨j,h,rfl⟩:=List.getElem_of_mem hx;exact hj j h
 simp only[ixQ,this]
theorem JAn{α:Type}(q:α→Bool)(l:List α):decide (ixQ q l≥0)=l.any q:=by
 unfold ixQ;cases e:l.findIdx? q with
 |none=>
  rw[List.findIdx?_eq_none_iff]at e;have:l.any q=false:=by rw[List.any_eq_false];intro x hx;rw[e x hx];decide
  rw[this];rfl
 |some k=>
  obtain⟨h1,h2,_⟩:=List.findIdx?_eq_some_iff_getElem.1 e;have:l.any q=true:=List.any_eq_true.2 ⟨_,Vk h1,h2⟩;rw[this];simp
theorem JJu{α:Type}(q:α→Bool)(l:List α):(if(0:Int)>ixQ q l then 0 else ixQ q l)=(fdQ q l:Int):=by
 unfold ixQ fdQ;cases e:l.findIdx? q with
 |none=>rfl
 |some k=>simp only[Vp];split<;>omega
theorem JN9{α:Type}{q:α→Bool}{l:List α}(h:0<l.length):fdQ q l<l.length:=by
 unfold fdQ;cases e:l.findIdx? q with
 |none=>exact h
 |some k=>obtain⟨h1,_⟩:=List.findIdx?_eq_some_iff_getElem.1 e;exact h1
theorem ix180{q:Sch→Bool}(l:List Sch)(hq:∀x∈l,PT g (Uk x::cs) (.d (.bool (q x))))(hl:l.length≤68719476736):
  PT 105 [.list 9 (l.map Uk),.fn (.func g) [] cs] (.d (.int .i64 (ixQ q l))):=by
 refine ok105.pc ?_;simp only[go_sem,ir105,Vc,simprocAttr];refine JH (fun n s=>∃k:Nat,k≤l.length∧n=l.length-k∧(∀(j:Nat) (h1:j<l.length),j<k→q l[j]=false)∧
  s=⟨[(0,.d (.list 9 (l.map Uk))),(1,.d (.fn (.func g) [] cs)),(7,.d (.int .i64 l.length)),(8,.d (.int .i64 k))],[]⟩) ?_ ?_
 ·exact⟨_,_,Wk.refl _,0,Nat.zero_le _,rfl,sP,rfl⟩
 ·rintro n s ⟨k,hk,rfl,hinv,rfl⟩;by_cases hlt:k<l.length
  ·have hx:=J0 Uk hlt;have hd:=dT hlt;have hc:=(hq l[k] (Vk _)).call trivial;simp only[Uk,Va]at hc hx;refine zz6 ?_;refine⟨oM,wn hc ?_⟩;refine zz ?_;apply ik<;>intro hf
   ·rw[ZT hlt hf hinv]
   ·refine⟨l.length-(k+1),_,oM,Wk.less ?_,k+1,oM,rfl,fun j h1 hj=>?_,rfl⟩
    ·exact zz7 trivial
    ·by_cases e:j=k
     ·subst e;exact hf
     ·exact hinv j h1 oM
  ·have hd:=dF hlt;refine zz5 ?_;rw[ZU (fun j h=>hinv j h oM)]
theorem ix208{q:Epd→Bool}(l:List Epd)(hq:∀x∈l,PT g (UW x::cs) (.d (.bool (q x))))(hl:l.length≤68719476736):
  PT 104 [.list 7 (l.map UW),.fn (.func g) [] cs] (.d (.int .i64 (ixQ q l))):=by
 refine ok104.pc ?_;simp only[go_sem,ir104,Vc,simprocAttr];refine JH (fun n s=>∃k:Nat,k≤l.length∧n=l.length-k∧(∀(j:Nat) (h1:j<l.length),j<k→q l[j]=false)∧
  s=⟨[(0,.d (.list 7 (l.map UW))),(1,.d (.fn (.func g) [] cs)),(7,.d (.int .i64 l.length)),(8,.d (.int .i64 k))],[]⟩) ?_ ?_
 ·exact⟨_,_,Wk.refl _,0,Nat.zero_le _,rfl,sP,rfl⟩
 ·rintro n s ⟨k,hk,rfl,hinv,rfl⟩;by_cases hlt:k<l.length
  ·have hx:=J0 UW hlt;have hd:=dT hlt;have hc:=(hq l[k] (Vk _)).call trivial;simp only[UW,Va]at hc hx;refine zz6 ?_;refine⟨oM,wn hc ?_⟩;refine zz ?_;apply ik<;>intro hf
   ·rw[ZT hlt hf hinv]
   ·refine⟨l.length-(k+1),_,oM,Wk.less ?_,k+1,oM,rfl,fun j h1 hj=>?_,rfl⟩
    ·exact zz7 trivial
    ·by_cases e:j=k
     ·subst e;exact hf
     ·exact hinv j h1 oM
  ·have hd:=dF hlt;refine zz5 ?_;rw[ZU (fun j h=>hinv j h oM)]
theorem ix350{q:Svc→Bool}(l:List Svc)(hq:∀x∈l,PT g (XM x::cs) (.d (.bool (q x))))(hl:l.length≤68719476736):
  PT 444 [.list 4 (l.map XM),.fn (.func g) [] cs] (.d (.int .i64 (ixQ q l))):=by
 refine ok444.pc ?_;simp only[go_sem,ir444,Vc,simprocAttr];refine JH (fun n s=>∃k:Nat,k≤l.length∧n=l.length-k∧(∀(j:Nat) (h1:j<l.length),j<k→q l[j]=false)∧
  s=⟨[(0,.d (.list 4 (l.map XM))),(1,.d (.fn (.func g) [] cs)),(7,.d (.int .i64 l.length)),(8,.d (.int .i64 k))],[]⟩) ?_ ?_
 ·exact⟨_,_,Wk.refl _,0,Nat.zero_le _,rfl,sP,rfl⟩
 ·rintro n s ⟨k,hk,rfl,hinv,rfl⟩;by_cases hlt:k<l.length
  ·have hx:=J0 XM hlt;have hd:=dT hlt;have hc:=(hq l[k] (Vk _)).call trivial;simp only[XM,Va]at hc hx;refine zz6 ?_;refine⟨oM,wn hc ?_⟩;refine zz ?_;apply ik<;>intro hf
   ·rw[ZT hlt hf hinv]
   ·refine⟨l.length-(k+1),_,oM,Wk.less ?_,k+1,oM,rfl,fun j h1 hj=>?_,rfl⟩
    ·exact zz7 trivial
    ·by_cases e:j=k
     ·subst e;exact hf
     ·exact hinv j h1 oM
  ·have hd:=dF hlt;refine zz5 ?_;rw[ZU (fun j h=>hinv j h oM)]
theorem ix175{q:Rou→Bool}(l:List Rou)(hq:∀x∈l,PT g (U8 x::cs) (.d (.bool (q x))))(hl:l.length≤68719476736):
  PT 178 [.list 3 (l.map U8),.fn (.func g) [] cs] (.d (.int .i64 (ixQ q l))):=by
 refine ok178.pc ?_;simp only[go_sem,ir178,Vc,simprocAttr];refine JH (fun n s=>∃k:Nat,k≤l.length∧n=l.length-k∧(∀(j:Nat) (h1:j<l.length),j<k→q l[j]=false)∧
  s=⟨[(0,.d (.list 3 (l.map U8))),(1,.d (.fn (.func g) [] cs)),(7,.d (.int .i64 l.length)),(8,.d (.int .i64 k))],[]⟩) ?_ ?_
 ·exact⟨_,_,Wk.refl _,0,Nat.zero_le _,rfl,sP,rfl⟩
 ·rintro n s ⟨k,hk,rfl,hinv,rfl⟩;by_cases hlt:k<l.length
  ·have hx:=J0 U8 hlt;have hd:=dT hlt;have hc:=(hq l[k] (Vk _)).call trivial;simp only[U8,Va]at hc hx;refine zz6 ?_;refine⟨oM,wn hc ?_⟩;refine zz ?_;apply ik<;>intro hf
   ·rw[ZT hlt hf hinv]
   ·refine⟨l.length-(k+1),_,oM,Wk.less ?_,k+1,oM,rfl,fun j h1 hj=>?_,rfl⟩
    ·exact zz7 trivial
    ·by_cases e:j=k
     ·subst e;exact hf
     ·exact hinv j h1 oM
  ·have hd:=dF hlt;refine zz5 ?_;rw[ZU (fun j h=>hinv j h oM)]
theorem ix235{q:Wlk→Bool}(l:List Wlk)(hq:∀x∈l,PT g (Uc x::cs) (.d (.bool (q x))))(hl:l.length≤68719476736):
  PT 254 [.list 13 (l.map Uc),.fn (.func g) [] cs] (.d (.int .i64 (ixQ q l))):=by
 refine ok254.pc ?_;simp only[go_sem,ir254,Vc,simprocAttr];refine JH (fun n s=>∃k:Nat,k≤l.length∧n=l.length-k∧(∀(j:Nat) (h1:j<l.length),j<k→q l[j]=false)∧
  s=⟨[(0,.d (.list 13 (l.map Uc))),(1,.d (.fn (.func g) [] cs)),(7,.d (.int .i64 l.length)),(8,.d (.int .i64 k))],[]⟩) ?_ ?_
 ·exact⟨_,_,Wk.refl _,0,Nat.zero_le _,rfl,sP,rfl⟩
 ·rintro n s ⟨k,hk,rfl,hinv,rfl⟩;by_cases hlt:k<l.length
  ·have hx:=J0 Uc hlt;have hd:=dT hlt;have hc:=(hq l[k] (Vk _)).call trivial;simp only[Uc,Va]at hc hx;refine zz6 ?_;refine⟨oM,wn hc ?_⟩;refine zz ?_;apply ik<;>intro hf
   ·rw[ZT hlt hf hinv]
   ·refine⟨l.length-(k+1),_,oM,Wk.less ?_,k+1,oM,rfl,fun j h1 hj=>?_,rfl⟩
    ·exact zz7 trivial
    ·by_cases e:j=k
     ·subst e;exact hf
     ·exact hinv j h1 oM
  ·have hd:=dF hlt;refine zz5 ?_;rw[ZU (fun j h=>hinv j h oM)]
theorem ix300{q:Brn→Bool}(l:List Brn)(hq:∀x∈l,PT g (Jw x::cs) (.d (.bool (q x))))(hl:l.length≤68719476736):
  PT 124 [.list 2 (l.map Jw),.fn (.func g) [] cs] (.d (.int .i64 (ixQ q l))):=by
 refine ok124.pc ?_;simp only[go_sem,ir124,Vc,simprocAttr];refine JH (fun n s=>∃k:Nat,k≤l.length∧n=l.length-k∧(∀(j:Nat) (h1:j<l.length),j<k→q l[j]=false)∧
  s=⟨[(0,.d (.list 2 (l.map Jw))),(1,.d (.fn (.func g) [] cs)),(7,.d (.int .i64 l.length)),(8,.d (.int .i64 k))],[]⟩) ?_ ?_
 ·exact⟨_,_,Wk.refl _,0,Nat.zero_le _,rfl,sP,rfl⟩
 ·rintro n s ⟨k,hk,rfl,hinv,rfl⟩;by_cases hlt:k<l.length
  ·have hx:=J0 Jw hlt;have hd:=dT hlt;have hc:=(hq l[k] (Vk _)).call trivial;simp only[Y4,Va]at hc hx;refine zz6 ?_;refine⟨oM,wn hc ?_⟩;refine zz ?_;apply ik<;>intro hf
   ·rw[ZT hlt hf hinv]
   ·refine⟨l.length-(k+1),_,oM,Wk.less ?_,k+1,oM,rfl,fun j h1 hj=>?_,rfl⟩
    ·exact zz7 trivial
    ·by_cases e:j=k
     ·subst e;exact hf
     ·exact hinv j h1 oM
  ·have hd:=dF hlt;refine zz5 ?_;rw[ZU (fun j h=>hinv j h oM)]
theorem walk59{q:Sch→Bool}(l:List Sch)(hq:∀x∈l,PT g (Uk x::cs) (.d (.bool (q x))))(hl:l.length≤68719476736):
  PT 59 [.list 9 (l.map Uk),.fn (.func g) [] cs] (.tup [.d (.int .i64 (fdQ q l)),.d (.bool (l.any q))]):=by
 refine ok59.pc ?_;have c:=(ix180 l hq hl).call trivial;rw[←JAn,←JJu];simp only[go_sem,ir59,simprocAttr];refine wc c trivial
theorem walk57{q:Epd→Bool}(l:List Epd)(hq:∀x∈l,PT g (UW x::cs) (.d (.bool (q x))))(hl:l.length≤68719476736):
  PT 57 [.list 7 (l.map UW),.fn (.func g) [] cs] (.tup [.d (.int .i64 (fdQ q l)),.d (.bool (l.any q))]):=by
 refine ok57.pc ?_;have c:=(ix208 l hq hl).call trivial;rw[←JAn,←JJu];simp only[go_sem,ir57,simprocAttr];refine wc c trivial
theorem JS6{q:Svc→Bool}(l:List Svc)(hq:∀x∈l,PT g (XM x::cs) (.d (.bool (q x))))(hl:l.length≤68719476736):
  PT 350 [.list 4 (l.map XM),.fn (.func g) [] cs] (.tup [.d (.int .i64 (fdQ q l)),.d (.bool (l.any q))]):=by
 refine ok350.pc ?_;have c:=(ix350 l hq hl).call trivial;rw[←JAn,←JJu];simp only[go_sem,ir350,simprocAttr];refine wc c trivial
theorem JOA{q:Rou→Bool}(l:List Rou)(hq:∀x∈l,PT g (U8 x::cs) (.d (.bool (q x))))(hl:l.length≤68719476736):
  PT 96 [.list 3 (l.map U8),.fn (.func g) [] cs] (.d (.bool (l.any q))):=by
 refine ok96.pc ?_;have c:=(ix175 l hq hl).call trivial;rw[←JAn];simp only[go_sem,ir96,simprocAttr];refine wc c trivial
theorem JS7{q:Wlk→Bool}(l:List Wlk)(hq:∀x∈l,PT g (Uc x::cs) (.d (.bool (q x))))(hl:l.length≤68719476736):
  PT 146 [.list 13 (l.map Uc),.fn (.func g) [] cs] (.d (.bool (l.any q))):=by
 refine ok146.pc ?_;have c:=(ix235 l hq hl).call trivial;rw[←JAn];simp only[go_sem,ir146,simprocAttr];refine wc c trivial
theorem walk73{q:Brn→Bool}(l:List Brn)(hq:∀x∈l,PT g (Jw x::cs) (.d (.bool (q x))))(hl:l.length≤68719476736):
  PT 73 [.list 2 (l.map Jw),.fn (.func g) [] cs] (.d (.bool (l.any q))):=by
 refine ok73.pc ?_;have c:=(ix300 l hq hl).call trivial;rw[←JAn];simp only[go_sem,ir73,simprocAttr];refine wc c trivial
end Go.Proofs
namespace Av
open Go
variable [Glb][Rls]
theorem Jz.JHQ{P:Program}{f g:Nat}{d:Dat}{cs:List Dat}{r:Av}(h:Jz P f [d,JBY g cs] r)(hr:J5 r)(i:Nat):
  JC P f [.d d,.clo (.func g) [] [.ref i 0]] [(i,some (.box (cs.map .d)))] r [(i,.fbox cs)]:=by
 intro β A w H vs hT hc hvs;have hi:H i=some (.box (cs.map .d)):=hT _ (List.mem_singleton.2 rfl);have st:=Stp.Yg hc hi (JCG cs);obtain⟨x1,x2,rfl⟩:∃x y,vs=#[x,y]:=by
  have h2:2=vs.size:=sX hvs.1;refine⟨vs[0],vs[1],?_⟩;apply Array.ext
  ·simp[←h2]
  ·intro i h1 h2;have:i=0∨i=1:=oM;rcases this with rfl|rfl<;>rfl
 have v1:=st.vals _ _ (hvs.2 0 _ x1 rfl rfl);have v2:=st.vals _ _ (hvs.2 1 _ x2 rfl rfl);have hv2:Rep (fun k=>A k∨β i=some k) w (JBY g cs) x2:=by
  cases v2 with
  |clo _ _ _ a1 a2 l1 l2 hf hvv=>
   refine .fn _ _ _ a1 a2 l1 (sX l2) (by intro j c v hj;cases hj) ?_;intro k c v hk hkv
   match k,hk with
   |0,hk=>
    cases hk;have hrf:=hvv 0 _ v rfl hkv;cases hrf with
    |ref _ _ _ _ _ hu g0 g1 g2=>
     have:=g2 cs sU;simpa using this
   |k+1,hk=>cases hk
 have:=h.call hr β _ w _ #[x1,x2] sP st.core ⟨rfl,fun k c u h1 h2=>by
  match k,h1,h2 with
  |0,h1,h2=>cases h1;cases h2;exact v1
  |1,h1,h2=>cases h1;cases h2;exact .d _ _ hv2
  |k+2,h1,h2=>cases h1⟩
 rcases this with⟨a1,a2⟩|⟨u,w',a1,β',A',a2,a3⟩
 ·refine .inl ⟨a1,a2.mono ?_⟩;rintro e w' ⟨u,rfl,β',A',b1,b2⟩;exact⟨u,rfl,β',A',st.trans b1,b2⟩
 ·exact .inr ⟨u,w',a1,β',A',st.trans a2,a3⟩
end Av
namespace Go.Proofs
open Go Av
theorem Jz.JMh{P:Program}{f g:Nat}{ds c1 c2:List Dat}{r:Av}(h:Jz P f (ds++[.fn (.func g) [] [.ptr c1,.ptr c2]]) r)(hr:J5 r)(i j:Nat)(hij:i≠j):
  JC P f (ds.map .d++[.clo (.func g) [] [.ref i 0,.ref j 0]]) [(i,some (.box (c1.map .d))),(j,some (.box (c2.map .d)))] r [(i,.fbox c1),(j,.fbox c2)]:=by
 intro β A w H vs hT hc hvs;have hi:H i=some (.box (c1.map .d)):=hT (i,_) sP;have hj:H j=some (.box (c2.map .d)):=hT (j,_) sP;have st1:=Stp.Yg hc hi (JCG c1);have hj1:upd H i (some (.fbox c1)) j=some (.box (c2.map .d)):=by rw[JN _ _ (Ne.symm hij)];exact hj
 have st2:=Stp.Yg st1.core hj1 (JCG c2);have st:=st1.trans st2;have hlen:(ds.map Av.d).length=ds.length:=sP;have hc':=h.call hr β _ w (upd (upd H i (some (.fbox c1))) j (some (.fbox c2))) vs sP st.core ⟨by have:=hvs.1;simp at this⊢;omega,fun k c v h1 h2=>by
  rw[Vo]at h1;cases e:(ds++[Dat.fn (.func g) [] [.ptr c1,.ptr c2]])[k]? with
  |none=>simp[e]at h1
  |some x=>
   simp only[e,Vj,Vd]at h1;subst h1;by_cases hk:k<ds.length
   ·rw[Vz hk]at e;have:=hvs.2 k (.d x) v (by rw[Vz (sX hk),Vo,e];rfl) h2;exact st.vals _ _ this
   ·rw[Vy oM]at e;have hk0:k-ds.length=0:=by
     rcases Nat.eq_zero_or_pos (k-ds.length)with h|h
     ·exact h
     ·rw[List.getElem?_eq_none sO]at e;cases e
    rw[hk0]at e;cases e;have:=hvs.2 k (.clo (.func g) [] [.ref i 0,.ref j 0]) v (by rw[Vy sO,hlen,hk0];rfl) h2;have h3:=st.vals _ _ this;cases h3 with
    |clo _ _ _ a1 a2 l1 l2 hf hvv=>
     refine .d _ _ (.fn _ _ _ a1 a2 l1 (sX l2) (by intro j c v hj;cases hj) ?_);intro k c v hk hkv
     match k,hk with
     |0,hk=>
      cases hk;have hrf:=hvv 0 _ v rfl hkv;cases hrf with
      |ref _ _ _ _ _ hu g0 g1 g2=>
       have:=g2 c1 (by rw[JN _ _ hij,JB]);simpa using this
     |1,hk=>
      cases hk;have hrf:=hvv 1 _ v rfl hkv;cases hrf with
      |ref _ _ _ _ _ hu g0 g1 g2=>
       have:=g2 c2 (JB _ _ _);simpa using this
     |k+2,hk=>cases hk⟩
 rcases hc' with⟨a1,a2⟩|⟨u,w',a1,β',A',a2,a3⟩
 ·refine .inl ⟨a1,a2.mono ?_⟩;rintro e w' ⟨u,rfl,β',A',b1,b2⟩;exact⟨u,rfl,β',A',st.trans b1,b2⟩
 ·exact .inr ⟨u,w',a1,β',A',st.trans a2,a3⟩
theorem walk60(x:Sch)(n:Str)(v:Int):PT 60 [Uk x,.ptr [.str n],.ptr [.int .i64 v]] (.d (.bool (x.name==n&&x.version==v))):=by
 refine ok60.pc ?_;simp only[go_sem,ir60,Uk,Nat.reduceAdd,Nat.reduceEqDiff,Nat.reduceBEq,Nat.reduceLeDiff,reduceCtorEq,↓reduceIte];refine⟨dC,J9 (x.version==v) (fun _=>?_) ?_⟩
 ·refine zz ?_;simp
 ·exact zz trivial
theorem walk58(x:Epd)(n:Str):PT 58 [UW x,.ptr [.str n]] (.d (.bool (x.name==n))):=by
 refine ok58.pc ?_;simp only[go_sem,ir58,UW,Nat.reduceAdd,Nat.reduceEqDiff,Nat.reduceBEq,Nat.reduceLeDiff,reduceCtorEq,↓reduceIte];decide
theorem JS8(x:Svc)(n:Str):PT 351 [XM x,.ptr [.str n]] (.d (.bool (x.name==n))):=by
 refine ok351.pc ?_;simp only[go_sem,ir351,XM,Nat.reduceAdd,Nat.reduceEqDiff,Nat.reduceBEq,Nat.reduceLeDiff,reduceCtorEq,↓reduceIte];decide
theorem walk28(p:Prg)(n:Str)(v:Int)(hl:p.schemas.length≤68719476736):PT 28 [Jb p,.str n,.int .i64 v] (.tup [.d (.int .i64 (fdQ (fun x:Sch=>x.name==n&&x.version==v) p.schemas)),.d (.bool (p.schemas.any fun x=>x.name==n&&x.version==v))]):=by
 refine ok28.pc ?_;have c:=Jz.JMh (ds:=[.list 9 (p.schemas.map Uk)]) (walk59 p.schemas (fun x _=>walk60 x n v) hl) (by simp[J5]) 4 5 dC;simp only[go_sem,ir28,Jb,simprocAttr];refine wc c trivial
theorem walk27(p:Prg)(n:Str)(hl:p.endpoints.length≤68719476736):PT 27 [Jb p,.str n] (.tup [.d (.int .i64 (fdQ (fun x:Epd=>x.name==n) p.endpoints)),.d (.bool (p.endpoints.any fun x=>x.name==n))]):=by
 refine ok27.pc ?_;have c:=Jz.JHQ (walk57 p.endpoints (fun x _=>walk58 x n) hl) (by simp[J5]) 3;simp only[go_sem,ir27,Jb,simprocAttr];refine wc c trivial
theorem JS9(p:Prg)(n:Str)(hl:p.services.length≤68719476736):PT 260 [Jb p,.str n] (.tup [.d (.int .i64 (fdQ (fun x:Svc=>x.name==n) p.services)),.d (.bool (p.services.any fun x=>x.name==n))]):=by
 refine ok260.pc ?_;have c:=Jz.JHQ (JS6 p.services (fun x _=>JS8 x n) hl) (by simp[J5]) 3;simp only[go_sem,ir260,Jb,simprocAttr];refine wc c trivial
def ltS(l:List Sch)(n:Str)(s:Nat×Bool)(i:Nat):Nat×Bool:=match l[i]? with
 |some x=>if x.name==n&&((!s.2)||decide ((l[s.1]?.map Sch.version).getD 0<x.version))then(i,true)else s
 |none=>s
def ltR(l:List Sch)(n:Str)(k:Nat):Nat×Bool:=(List.range k).foldl (ltS l n) (0,false)
theorem JIM(l:List Sch)(n:Str)(k:Nat):ltR l n (k+1)=ltS l n (ltR l n k) k:=by
 unfold ltR;rw[List.range_succ,List.foldl_append];rfl
theorem JJv(l:List Sch)(n:Str):∀k:Nat,(ltR l n k).1=0∨(ltR l n k).1<l.length
 |0=>.inl rfl
 |k+1=>by
  rw[JIM];unfold ltS;split
  ·rename_i x h;split
   ·exact .inr (VB.1 h).1
   ·exact JJv l n k
  ·exact JJv l n k
theorem ltR_bd(l:List Sch)(n:Str)(k:Nat)(hk:k<l.length):(ltR l n k).1<l.length:=by
 rcases JJv l n k with h|h<;>omega
def Xq(l:List Sch)(n:Str):Nat×Bool:=ltR l n l.length
theorem JTA(p:Prg)(n:Str)(hl:p.schemas.length≤68719476736):PT 150 [Jb p,.str n] (.tup [.d (.int .i64 (Xq p.schemas n).1),.d (.bool (Xq p.schemas n).2)]):=by
 refine ok150.pc ?_;simp only[go_sem,ir150,Jb,Vc,Nat.reduceAdd,Nat.reduceEqDiff,Nat.reduceBEq,Nat.reduceLeDiff,reduceCtorEq,↓reduceIte];generalize hL:p.schemas=l at*;refine JH (fun r s=>∃k:Nat,k≤l.length∧r=l.length-k∧
  s=⟨[(1,.d (.str n)),(2,.ref 2 0),(6,.d (.int .i64 (ltR l n k).1)),(7,.d (.bool (ltR l n k).2)),(11,.d (.list 9 (l.map Uk))),(12,.d (.int .i64 l.length)),(13,.d (.int .i64 k))],
   [(2,.box [.d (.int .i64 p.version),.d (.list 9 (l.map Uk)),.d (.list 7 (p.endpoints.map UW)),.d (.list 4 (p.services.map XM)),.d (.list 3 (p.routes.map U8))])]⟩) ?_ ?_
 ·refine⟨_,_,Wk.less ?_,0,Nat.zero_le _,rfl,rfl⟩;simp[go_sem,ltR]
 ·rintro r s ⟨k,hk,rfl,rfl⟩;by_cases hlt:k<l.length
  ·have hx:=J0 Uk hlt;have hd:=dT hlt;have hb:=ltR_bd l n k hlt;have hy:=J0 Uk hb;have hs:=JIM l n k;have hg:l[k]? =some l[k]:=Vl hlt;have hg2:l[(ltR l n k).1]? =some l[(ltR l n k).1]:=Vl hb;simp only[ltS,hg,hg2,Vj,Vp]at hs;generalize hR:ltR l n k=R at*;simp only[Uk]at hx hy;refine zz6 ?_;refine⟨oM,?_⟩;refine sq ((!R.2)||(decide (l[R.1].version<l[k].version))) ?_ ?_
   ·refine zz ?_;refine sq (decide (l[R.1].version<l[k].version)) ?_ ?_
    ·simp only[go_sem,hy,Vv,Vc,Nat.reduceAdd,Nat.reduceEqDiff,Nat.reduceBEq,Nat.reduceLeDiff,reduceCtorEq,↓reduceIte];exact⟨⟨oM,oM⟩,dC⟩
    ·exact zz trivial
   refine zz ?_;generalize hc:(l[k].name==n&&((!R.2)||decide (l[R.1].version<l[k].version)))=c at*;cases c with
   |true=>
    refine zz ?_;refine⟨l.length-(k+1),_,oM,Wk.less ?_,k+1,oM,rfl,rfl⟩;simp only[Vu,if_true,if_false]at hs;simp only[go_sem,hs,Jg k oM,Nat.reduceAdd,Nat.reduceEqDiff,Nat.reduceBEq,Nat.reduceLeDiff,reduceCtorEq,↓reduceIte]
   |false=>
    refine zz ?_;refine⟨l.length-(k+1),_,oM,Wk.less ?_,k+1,oM,rfl,rfl⟩;simp only[Vu,if_true,if_false]at hs;simp only[go_sem,hs,Jg k oM,Nat.reduceAdd,Nat.reduceEqDiff,Nat.reduceBEq,Nat.reduceLeDiff,reduceCtorEq,↓reduceIte]
  ·have hd:=dF hlt;obtain rfl:k=l.length:=oM;refine zz5 ?_;rfl
theorem step49(a:Val)(ha:a.list.length≤68719476736)(ha2:a.fields.length≤68719476736)(h1:∀x∈a.list,CT 49 [.d (JQ x)] [] (.d (JQ x)) [])(h2:∀x∈a.fields,CT 49 [.d (JQ x.value)] [] (.d (JQ x.value)) []):
  PT 49 [JQ a] (.d (JQ a)):=by
 refine ok49.pc ?_;rw[JG];simp only[go_sem,ir49,simprocAttr];refine JH (fun n s=>∃k:Nat,k≤a.list.length∧n=a.list.length-k∧
  s=⟨[(1,.ref 1 0),(2,.ref 2 0),(3,.ref 3 0),(12,.d (.list 6 (a.list.map JQ))),(13,.d (.int .i64 a.list.length)),(14,.d (.int .i64 k))],
   [(1,.box [.d (.int .i64 a.kind),.d (.int .i64 a.int),.d (.int .i64 a.scale),.d (.str a.text),.d (.list 6 (a.list.map JQ)),.d (.list 7 (a.fields.map Xf))]),
    (2,.box [.d (.int .i64 0),.d (.int .i64 0),.d (.int .i64 0),.d (.str []),.d (.nil 6),.d (.nil 7)]),
    (3,.box [.d (.int .i64 a.kind),.d (.int .i64 a.int),.d (.int .i64 a.scale),.d (.str a.text),.ms 23 k,.d (.nil 7)]),
    (23,.row k 6 ((a.list.take k).map JQ))]⟩) ?_ ?_
 ·refine⟨_,_,Wk.JKO 3 4 23 6 _ rfl rfl rfl dC,0,Nat.zero_le _,rfl,?_⟩;simp[put]
 ·rintro n s ⟨k,hk,rfl,rfl⟩;by_cases hlt:k<a.list.length
  ·have hx:=Xm hlt;have hd:=dT hlt;refine JSv ?_;have hc:=h1 a.list[k] (Vk _);rw[JG]at hc;refine⟨sO,JP rfl hc trivial ?_⟩;refine zz ?_;refine⟨sP,sO,rfl,a.list.length-(k+1),_,oM,Wk.less ?_,k+1,oM,rfl,rfl⟩;rw[List.take_succ_eq_append_getElem hlt,Vw];simp only[go_sem,Jg k oM,Va,Vb,JG a.list[k],Nat.reduceAdd,Nat.reduceEqDiff,Nat.reduceBEq,Nat.reduceLeDiff,reduceCtorEq,↓reduceIte]
  ·have hd:=dF hlt;obtain rfl:k=a.list.length:=oM;refine JDe ?_;refine JH (fun n s=>∃k:Nat,k≤a.fields.length∧n=a.fields.length-k∧
    s=⟨[(2,.ref 2 0),(3,.ref 3 0),(27,.d (.list 7 (a.fields.map Xf))),(28,.d (.int .i64 a.fields.length)),(29,.d (.int .i64 k))],
     [(2,.box [.d (.int .i64 0),.d (.int .i64 0),.d (.int .i64 0),.d (.str []),.d (.nil 6),.d (.nil 7)]),
      (3,.box [.d (.int .i64 a.kind),.d (.int .i64 a.int),.d (.int .i64 a.scale),.d (.str a.text),.ms 23 a.list.length,.ms 42 k]),
      (23,.row a.list.length 6 (a.list.map JQ)),
      (42,.row k 7 ((a.fields.take k).map Xf))]⟩) ?_ ?_
   ·refine⟨_,_,(Wk.JKO 3 5 42 7 _ rfl rfl rfl dC).trans (Wk.less ?_),0,Nat.zero_le _,rfl,rfl⟩;simp[put,go_sem]
   ·rintro n s ⟨k,hk,rfl,rfl⟩;by_cases hlt:k<a.fields.length
    ·have hx:=Yq hlt;have hd:=dT hlt;have hc:=h2 a.fields[k] (Vk _);rw[JG]at hc;refine JSv ?_;refine⟨sO,JP rfl hc trivial ?_⟩;refine zz ?_;refine⟨sP,sO,rfl,a.fields.length-(k+1),_,oM,Wk.less ?_,k+1,oM,rfl,rfl⟩;rw[List.take_succ_eq_append_getElem hlt,Vw];simp only[go_sem,Jg k oM,Va,Vb,Zk a.fields[k],Nat.reduceAdd,Nat.reduceEqDiff,Nat.reduceBEq,Nat.reduceLeDiff,reduceCtorEq,↓reduceIte]
    ·have hd:=dF hlt;obtain rfl:k=a.fields.length:=oM;exact JDe trivial
mutual
theorem JGv:∀(a:Val),okV a→PT 49 [JQ a] (.d (JQ a))
 |.mk k i s t l f,ha=>by
  simp only[okV]at ha;obtain⟨a1,a2,a3,a4⟩:=ha;exact step49 _ a1 a2 (fun x hx=>(JKz l a3 x hx).call trivial) (fun x hx=>(JK0 f a4 x hx).call trivial)
theorem JKz:∀(l:List Val),JFS l→∀x∈l,PT 49 [JQ x] (.d (JQ x))
 |[],_,x,h=>by cases h
 |v::r,ho,x,h=>by
  simp only[JFS]at ho;by_cases e:x=v
  ·rw[e];exact JGv v ho.1
  ·exact JKz r ho.2 x ((VA.1 h).resolve_left e)
theorem JK0:∀(l:List Fld),JFT l→∀x∈l,PT 49 [JQ x.value] (.d (JQ x.value))
 |[],_,x,h=>by cases h
 |.mk n v::r,ho,x,h=>by
  simp only[JFT,okF]at ho;by_cases e:x=.mk n v
  ·rw[e];exact JGv v ho.1
  ·exact JK0 r ho.2 x ((VA.1 h).resolve_left e)
end
end Go.Proofs
namespace Go.Proofs
open Go Av
variable {g:Nat}
theorem JOB{v:Val}(h:fits (JQ v)):v.text.length≤68719476736∧v.list.length≤68719476736∧v.fields.length≤68719476736:=by
 rw[JG]at h;simp only[fits,Ue,Vc,and_true]at h;exact⟨h.2.2.2.1,h.2.2.2.2.1.1,h.2.2.2.2.2.1⟩
mutual
theorem JEh:∀v:Val,fits (JQ v)→okV v
 |.mk k i s t l f,h=>by
  have h':l.length≤68719476736∧f.length≤68719476736:=(JOB h).2;rw[JG]at h;simp only[fits,Ue,and_true,Val.list,Val.fields]at h;simp only[okV];exact⟨h'.1,h'.2,JF1 l fun x hx=>UC.1 h.2.2.2.2.1.2 _ (VC.2 ⟨x,hx,rfl⟩),JF2 f fun x hx=>UC.1 h.2.2.2.2.2.2 _ (VC.2 ⟨x,hx,rfl⟩)⟩
theorem JF1:∀l:List Val,(∀x∈l,fits (JQ x))→JFS l
 |[],_=>by simp[JFS]
 |v::r,h=>by
  simp only[JFS];exact⟨JEh v (h v (Vh)),JF1 r fun x hx=>h x (Vn _ hx)⟩
theorem JF2:∀l:List Fld,(∀x∈l,fits (Xf x))→JFT l
 |[],_=>by simp[JFT]
 |.mk n v::r,h=>by
  have h1:=h (.mk n v) (Vh);rw[Zk]at h1;have h2:fits (JQ v):=by
   rw[JG];simp only[fits,Ue,and_true,Fld.value]at h1⊢;exact h1.2
  simp only[JFT];exact⟨JEh v h2,JF2 r fun x hx=>h x (Vn _ hx)⟩
end
theorem q70(a:Val):PT 49 [JQ a] (.d (JQ a)):=Jz.Ja ok49.has fun h=>JGv a (JEh a (h _ (Vh)))
theorem JTB{e:Exp}(h:fits (Jd e)):e.text.length≤68719476736∧e.value.length≤68719476736∧e.args.length≤68719476736∧∀x∈e.args,fits (Jd x):=by
 rw[Ul]at h;simp only[fits,Ue,Vc,and_true]at h;obtain⟨_,_,h1,⟨h2,h3⟩,h4,h5⟩:=h;exact⟨h1,h2,h4,fun x hx=>UC.1 h5 _ (VC.2 ⟨x,hx,rfl⟩)⟩
theorem JOC{xs:List Exp}{k:Nat}(h:k<xs.length):nth (xs.map Jd) k=.agg [.int .i64 xs[k].op,.int .i64 xs[k].int,.str xs[k].text,.list 6 (xs[k].value.map JQ),.list 5 (xs[k].args.map Jd)]:=by
 rw[J0 Jd h,Ul]
theorem step21(a:Exp)(ha:a.value.length≤68719476736)(ha2:a.args.length≤68719476736)(h1:∀x∈a.value,CT 49 [.d (JQ x)] [] (.d (JQ x)) [])(h2:∀x∈a.args,CT 21 [.d (Jd x)] [] (.d (Jd x)) []):
  PT 21 [Jd a] (.d (Jd a)):=by
 refine ok21.pc ?_;rw[Ul];simp only[go_sem,ir21,simprocAttr];refine JH (fun n s=>∃k:Nat,k≤a.value.length∧n=a.value.length-k∧
  s=⟨[(1,.ref 1 0),(2,.ref 2 0),(3,.ref 3 0),(16,.d (.list 6 (a.value.map JQ))),(17,.d (.int .i64 a.value.length)),(18,.d (.int .i64 k))],
   [(1,.box [.d (.int .i64 a.op),.d (.int .i64 a.int),.d (.str a.text),.d (.list 6 (a.value.map JQ)),.d (.list 5 (a.args.map Jd))]),
    (2,.box [.d (.int .i64 0),.d (.int .i64 0),.d (.str []),.d (.nil 6),.d (.nil 5)]),
    (3,.box [.d (.int .i64 a.op),.d (.int .i64 a.int),.d (.str a.text),.ms 27 k,.d (.nil 5)]),
    (27,.row k 6 ((a.value.take k).map JQ))]⟩) ?_ ?_
 ·refine⟨_,_,Wk.JKO 3 3 27 6 _ rfl rfl rfl dC,0,Nat.zero_le _,rfl,?_⟩;simp[put]
 ·rintro n s ⟨k,hk,rfl,rfl⟩;by_cases hlt:k<a.value.length
  ·have hx:=Xm hlt;have hd:=dT hlt;refine JSv ?_;have hc:=h1 a.value[k] (Vk _);rw[JG]at hc;refine⟨sO,JP rfl hc trivial ?_⟩;refine zz ?_;refine⟨sP,sO,rfl,a.value.length-(k+1),_,oM,Wk.less ?_,k+1,oM,rfl,rfl⟩;rw[List.take_succ_eq_append_getElem hlt,Vw];simp only[go_sem,Jg k oM,Va,Vb,JG a.value[k],Nat.reduceAdd,Nat.reduceEqDiff,Nat.reduceBEq,Nat.reduceLeDiff,reduceCtorEq,↓reduceIte]
  ·have hd:=dF hlt;obtain rfl:k=a.value.length:=oM;refine JDe ?_;refine JH (fun n s=>∃k:Nat,k≤a.args.length∧n=a.args.length-k∧
    s=⟨[(2,.ref 2 0),(3,.ref 3 0),(31,.d (.list 5 (a.args.map Jd))),(32,.d (.int .i64 a.args.length)),(33,.d (.int .i64 k))],
     [(2,.box [.d (.int .i64 0),.d (.int .i64 0),.d (.str []),.d (.nil 6),.d (.nil 5)]),
      (3,.box [.d (.int .i64 a.op),.d (.int .i64 a.int),.d (.str a.text),.ms 27 a.value.length,.ms 42 k]),
      (27,.row a.value.length 6 (a.value.map JQ)),
      (42,.row k 5 ((a.args.take k).map Jd))]⟩) ?_ ?_
   ·refine⟨_,_,(Wk.JKO 3 4 42 5 _ rfl rfl rfl dC).trans (Wk.less ?_),0,Nat.zero_le _,rfl,rfl⟩;simp[put,go_sem]
   ·rintro n s ⟨k,hk,rfl,rfl⟩;by_cases hlt:k<a.args.length
    ·have hx:=JOC hlt;have hd:=dT hlt;have hc:=h2 a.args[k] (Vk _);rw[Ul]at hc;refine JSv ?_;refine⟨sO,JP rfl hc trivial ?_⟩;refine zz ?_;refine⟨sP,sO,rfl,a.args.length-(k+1),_,oM,Wk.less ?_,k+1,oM,rfl,rfl⟩;rw[List.take_succ_eq_append_getElem hlt,Vw];simp only[go_sem,Jg k oM,Va,Vb,Ul a.args[k],Nat.reduceAdd,Nat.reduceEqDiff,Nat.reduceBEq,Nat.reduceLeDiff,reduceCtorEq,↓reduceIte]
    ·have hd:=dF hlt;obtain rfl:k=a.args.length:=oM;exact JDe trivial
mutual
theorem p21:∀(a:Exp),PT 21 [Jd a] (.d (Jd a))
 |.mk o i t v r=>Jz.Ja ok21.has fun hf=>by
  obtain⟨_,f2,f3,_⟩:=JTB (hf _ (List.mem_singleton.2 rfl));exact step21 _ f2 f3 (fun x _=>(q70 x).call trivial) (fun x hx=>(p21s r x hx).call trivial)
theorem p21s:∀(l:List Exp),∀x∈l,PT 21 [Jd x] (.d (Jd x))
 |[],x,h=>by cases h
 |v::r,x,h=>by
  by_cases e:x=v
  ·rw[e];exact p21 v
  ·exact p21s r x ((VA.1 h).resolve_left e)
end
def JF3(m:List Rule):Dat:=.agg [.list 6 (m.map Uf)]
theorem p118(m:List Rule):PT 118 [JF3 m] (.d (JF3 m)):=by
 refine Jz.Ja ok118.has fun hfit=>?_
 have hml:m.length≤68719476736:=by have:=hfit _ (Vh);simp only[JF3,fits,Ue,Vc]at this;exact this.1.1
 refine ok118.pc ?_;simp only[go_sem,ir118,JF3,Vc,simprocAttr];refine⟨oM,JH (fun n s=>∃k:Nat,k≤m.length∧n=m.length-k∧
  s=⟨[(2,.ref 2 0),(3,.ms 9 k),(11,.d (.list 6 (m.map Uf))),(12,.d (.int .i64 m.length)),(13,.d (.int .i64 k))],
   [(2,.box [.d (.nil 6)]),(9,.row k 6 ((m.take k).map Uf))]⟩) ?_ ?_⟩
 ·refine⟨_,_,Wk.less ?_,0,Nat.zero_le _,rfl,rfl⟩;simp[go_sem]
 ·rintro n s ⟨k,hk,rfl,rfl⟩;by_cases hlt:k<m.length
  ·have hx:=J0 Uf hlt;have hd:=dT hlt;have hc:=(p21 m[k].expr).call trivial;rw[Ul]at hc;simp only[Uf]at hx;refine zz6 ?_;refine⟨oM,JP rfl hc trivial ?_⟩;refine zz ?_;refine⟨sP,sO,rfl,m.length-(k+1),_,oM,Wk.less ?_,k+1,oM,rfl,rfl⟩;rw[List.take_succ_eq_append_getElem hlt,Vw];simp only[go_sem,Jg k oM,Va,Vb,Uf,simprocAttr]
  ·have hd:=dF hlt;obtain rfl:k=m.length:=oM;exact zz14 trivial
theorem JK1(l:List Exp)(hg:∀x∈l,PT g [Jd x] (.d (Jd x))):PT 117 [.list 5 (l.map Jd),.fn (.func g) [] []] (.d (.list 5 (l.map Jd))):=by
 refine Jz.Ja ok117.has fun hfit=>?_
 have hl:l.length≤68719476736:=by have:=(hfit _ (Vh)).1;simpa using this
 refine ok117.pc ?_;simp only[go_sem,ir117,Vc,simprocAttr];refine JH (fun n s=>∃k:Nat,k≤l.length∧n=l.length-k∧
  s=⟨[(1,.d (.fn (.func g) [] [])),(5,.ms 19 k),(8,.d (.list 5 (l.map Jd))),(9,.d (.int .i64 l.length)),(10,.d (.int .i64 k))],[(19,.row k 5 ((l.take k).map Jd))]⟩) ?_ ?_
 ·refine⟨_,_,(Wk.JJM 5 19 5 rfl rfl dC).trans (Wk.less ?_),0,Nat.zero_le _,rfl,rfl⟩;simp[put,go_sem]
 ·rintro n s ⟨k,hk,rfl,rfl⟩;by_cases hlt:k<l.length
  ·have hx:=J0 Jd hlt;have hd:=dT hlt;have hc:=(hg l[k] (Vk _)).call trivial;simp only[Ul,Va,Vb]at hc hx;refine zz6 ?_;refine⟨oM,wn hc ?_⟩;refine zz ?_;refine⟨sP,sO,l.length-(k+1),_,oM,Wk.less ?_,k+1,oM,rfl,rfl⟩;rw[List.take_succ_eq_append_getElem hlt,Vw];simp only[go_sem,Jg k oM,Va,Vb,Ul,simprocAttr]
  ·have hd:=dF hlt;obtain rfl:k=l.length:=oM;exact JDe trivial
theorem JTC(l:List Kal)(hg:∀x∈l,PT g [Jm x] (.d (Jm x))):PT 119 [.list 2 (l.map Jm),.fn (.func g) [] []] (.d (.list 2 (l.map Jm))):=by
 refine Jz.Ja ok119.has fun hfit=>?_
 have hl:l.length≤68719476736:=by have:=(hfit _ (Vh)).1;simpa using this
 refine ok119.pc ?_;simp only[go_sem,ir119,Vc,simprocAttr];refine JH (fun n s=>∃k:Nat,k≤l.length∧n=l.length-k∧
  s=⟨[(1,.d (.fn (.func g) [] [])),(5,.ms 19 k),(8,.d (.list 2 (l.map Jm))),(9,.d (.int .i64 l.length)),(10,.d (.int .i64 k))],[(19,.row k 2 ((l.take k).map Jm))]⟩) ?_ ?_
 ·refine⟨_,_,(Wk.JJM 5 19 2 rfl rfl dC).trans (Wk.less ?_),0,Nat.zero_le _,rfl,rfl⟩;simp[put,go_sem]
 ·rintro n s ⟨k,hk,rfl,rfl⟩;by_cases hlt:k<l.length
  ·have hx:=J0 Jm hlt;have hd:=dT hlt;have hc:=(hg l[k] (Vk _)).call trivial;simp only[Jm,Va,Vb]at hc hx;refine zz6 ?_;refine⟨oM,wn hc ?_⟩;refine zz ?_;refine⟨sP,sO,l.length-(k+1),_,oM,Wk.less ?_,k+1,oM,rfl,rfl⟩;rw[List.take_succ_eq_append_getElem hlt,Vw];simp only[go_sem,Jg k oM,Va,Vb,Jm,simprocAttr]
  ·have hd:=dF hlt;obtain rfl:k=l.length:=oM;exact JDe trivial
theorem JTD(l:List Brn)(hg:∀x∈l,PT g [Jw x] (.d (Jw x))):PT 121 [.list 2 (l.map Jw),.fn (.func g) [] []] (.d (.list 2 (l.map Jw))):=by
 refine Jz.Ja ok121.has fun hfit=>?_
 have hl:l.length≤68719476736:=by have:=(hfit _ (Vh)).1;simpa using this
 refine ok121.pc ?_;simp only[go_sem,ir121,Vc,simprocAttr];refine JH (fun n s=>∃k:Nat,k≤l.length∧n=l.length-k∧
  s=⟨[(1,.d (.fn (.func g) [] [])),(5,.ms 19 k),(8,.d (.list 2 (l.map Jw))),(9,.d (.int .i64 l.length)),(10,.d (.int .i64 k))],[(19,.row k 2 ((l.take k).map Jw))]⟩) ?_ ?_
 ·refine⟨_,_,(Wk.JJM 5 19 2 rfl rfl dC).trans (Wk.less ?_),0,Nat.zero_le _,rfl,rfl⟩;simp[put,go_sem]
 ·rintro n s ⟨k,hk,rfl,rfl⟩;by_cases hlt:k<l.length
  ·have hx:=J0 Jw hlt;have hd:=dT hlt;have hc:=(hg l[k] (Vk _)).call trivial;simp only[Y4,Va,Vb]at hc hx;refine zz6 ?_;refine⟨oM,wn hc ?_⟩;refine zz ?_;refine⟨sP,sO,l.length-(k+1),_,oM,Wk.less ?_,k+1,oM,rfl,rfl⟩;rw[List.take_succ_eq_append_getElem hlt,Vw];simp only[go_sem,Jg k oM,Va,Vb,Y4,simprocAttr]
  ·have hd:=dF hlt;obtain rfl:k=l.length:=oM;exact JDe trivial
theorem JTE(l:List Ste)(hg:∀x∈l,PT g [JL x] (.d (JL x))):PT 123 [.list 11 (l.map JL),.fn (.func g) [] []] (.d (.list 11 (l.map JL))):=by
 refine Jz.Ja ok123.has fun hfit=>?_
 have hl:l.length≤68719476736:=by have:=(hfit _ (Vh)).1;simpa using this
 refine ok123.pc ?_;simp only[go_sem,ir123,Vc,simprocAttr];refine JH (fun n s=>∃k:Nat,k≤l.length∧n=l.length-k∧
  s=⟨[(1,.d (.fn (.func g) [] [])),(5,.ms 19 k),(8,.d (.list 11 (l.map JL))),(9,.d (.int .i64 l.length)),(10,.d (.int .i64 k))],[(19,.row k 11 ((l.take k).map JL))]⟩) ?_ ?_
 ·refine⟨_,_,(Wk.JJM 5 19 11 rfl rfl dC).trans (Wk.less ?_),0,Nat.zero_le _,rfl,rfl⟩;simp[put,go_sem]
 ·rintro n s ⟨k,hk,rfl,rfl⟩;by_cases hlt:k<l.length
  ·have hx:=J0 JL hlt;have hd:=dT hlt;have hc:=(hg l[k] (Vk _)).call trivial;simp only[JE,Va,Vb]at hc hx;refine zz6 ?_;refine⟨oM,wn hc ?_⟩;refine zz ?_;refine⟨sP,sO,l.length-(k+1),_,oM,Wk.less ?_,k+1,oM,rfl,rfl⟩;rw[List.take_succ_eq_append_getElem hlt,Vw];simp only[go_sem,Jg k oM,Va,Vb,JE,simprocAttr]
  ·have hd:=dF hlt;obtain rfl:k=l.length:=oM;exact JDe trivial
theorem p120(c:Kal):PT 120 [Jm c] (.d (Jm c)):=by
 refine ok120.pc ?_;have hc:=(p118 c.rules).call trivial;simp only[JF3,Va,Vb]at hc;simp only[go_sem,ir120,Jm,simprocAttr];refine wc hc trivial
theorem JTF(b:Brn)(h:∀x∈b.steps,PT 71 [JL x] (.d (JL x))):PT 122 [Jw b] (.d (Jw b)):=by
 refine ok122.pc ?_;have h1:=(JK1 b.cond fun x _=>p21 x).call trivial;have h2:=(JTE b.steps h).call trivial;rw[Y4];simp only[go_sem,ir122,simprocAttr];refine JP rfl h1 trivial ?_;refine zz ?_;refine JP rfl h2 trivial ?_;refine zz ?_;rfl
theorem step71(s:Ste)(h:∀b∈s.branches,PT 122 [Jw b] (.d (Jw b))):PT 71 [JL s] (.d (JL s)):=by
 refine ok71.pc ?_;have h1:=(JK1 s.exprs fun x _=>p21 x).call trivial;have h2:=(p118 s.rules).call trivial;have h3:=(JTC s.calls fun x _=>p120 x).call trivial;have h4:=(JTD s.branches h).call trivial;simp only[JF3,Va,Vb]at h2;rw[JE];simp only[go_sem,ir71,simprocAttr];refine wc h1 ?_;refine wc h2 ?_;refine wc h3 ?_;refine wc h4 trivial
mutual
theorem p71:∀(s:Ste),PT 71 [JL s] (.d (JL s))
 |.mk n k u t l x c e r a b=>step71 _ (p122s b)
theorem p71s:∀(l:List Ste),∀x∈l,PT 71 [JL x] (.d (JL x))
 |[],x,h=>by cases h
 |v::r,x,h=>by
  by_cases e:x=v
  ·rw[e];exact p71 v
  ·exact p71s r x ((VA.1 h).resolve_left e)
theorem p122:∀(b:Brn),PT 122 [Jw b] (.d (Jw b))
 |.mk w s=>JTF _ (p71s s)
theorem p122s:∀(l:List Brn),∀x∈l,PT 122 [Jw x] (.d (Jw x))
 |[],x,h=>by cases h
 |v::r,x,h=>by
  by_cases e:x=v
  ·rw[e];exact p122 v
  ·exact p122s r x ((VA.1 h).resolve_left e)
end
end Go.Proofs
namespace Go.Proofs
open Go Av
def inR(n lo hi:Int):Bool:=decide (n≥lo)&&decide (n≤hi)
theorem X2(n lo hi:Int):PT 148 [.int .i64 n,.int .i64 lo,.int .i64 hi] (.d (.bool (inR n lo hi))):=by
 refine ok148.pc ?_;simp only[go_sem,ir148,simprocAttr];refine sq (decide (n≤hi)) ?_ ?_
 ·exact zz trivial
 ·simp only[go_sem,inR,simprocAttr]
def Z1(s:Ste):Bool:=inR s.time 0 17592186044416&&inR s.limit 1 256
theorem JCH(s:Ste):PT 165 [JL s] (.d (.bool (Z1 s))):=by
 refine ok165.pc ?_;rw[JE];have h1:=(X2 s.time 0 17592186044416).call trivial;have h2:=(X2 s.limit 1 256).call trivial;simp only[go_sem,ir165,simprocAttr];refine wc h1 ?_;refine sq (inR s.limit 1 256) ?_ ?_
 ·refine zz ?_;refine wc h2 trivial
 ·simp only[go_sem,Z1,simprocAttr]
def JDo(s:Ste)(m:Int):Bool:=inR s.calls.length 1 m&& !(s.schema==[])&&Z1 s
theorem JK2(s:Ste)(m:Int):PT 171 [JL s,.int .i64 m] (.d (.bool (JDo s m))):=by
 refine ok171.pc ?_;have h1:=(X2 s.calls.length 1 m).call trivial;have h2:=(JCH s).call trivial;rw[JE]at h2⊢;simp only[go_sem,ir171,Vc,simprocAttr];refine wc h1 ?_;refine sq (!(s.schema==[])) ?_ ?_
 ·exact zz trivial
 refine zz ?_;refine sq (Z1 s) ?_ ?_
 ·refine zz ?_;refine wc h2 trivial
 ·simp only[go_sem,JDo,simprocAttr]
mutual
def Xt:Ste→Bool
 |.mk _ k _ _ _ _ _ _ _ _ b=>(k==13||k==14)||((k==11||k==12)&&(decide (0<b.length)&&JF4 b))
def JF4:List Brn→Bool
 |[]=>true
 |b::r=>JDf b&&JF4 r
def JDf:Brn→Bool
 |.mk _ s=>Xu s
def Xu:List Ste→Bool
 |[]=>false
 |[x]=>Xt x
 |_::y::r=>Xu (y::r)
end
theorem JOD(s:Ste):Xt s=((s.kind==13||s.kind==14)||((s.kind==11||s.kind==12)&&(decide (0<s.branches.length)&&JF4 s.branches))):=by cases s;simp only[Xt,Ste.kind,Ste.branches];try rfl
theorem JTG(b:Brn):JDf b=Xu b.steps:=by cases b;simp only[JDf,Brn.steps]
theorem JIN:∀l:List Brn,JF4 l= !(l.any fun b=> !JDf b)
 |[]=>rfl
 |b::r=>by simp only[JF4,List.any_cons,JIN r];cases JDf b<;>simp
theorem JEi:∀(l:List Ste) (h:0<l.length),Xu l=Xt (l[l.length-1]'oM)
 |[x],_=>by simp[Xu]
 |_::y::r,_=>by
  rw[Xu,JEi (y::r) sP];simp
theorem JOE(l:List Ste)(h:∀x∈l,PT 40 [JL x] (.d (.bool (Xt x)))):PT 18 [.list 11 (l.map JL)] (.d (.bool (Xu l))):=by
 refine Jz.Ja ok18.has fun hfit=>?_
 have hl:l.length≤68719476736:=by have:=(hfit _ (Vh)).1;simpa using this
 refine ok18.pc ?_;simp only[go_sem,ir18,Vc,simprocAttr];refine J9 (Xu l) (fun hp=>?_) ?_
 ·have hpos:0<l.length:=by have:=of_decide_eq_true hp;omega
  have hlt:l.length-1<l.length:=oM;have hx:=JAl hlt;have hc:=(h l[l.length-1] (Vk _)).call trivial;have hw:IntKind.i64.wrap ((l.length:Int)-1)=((l.length-1:Nat):Int):=by rw[wrap64 oM oM];omega
  rw[←JEi l hpos]at hc;rw[JE]at hc;simp only[go_sem,hw,hx,Vv,Vc,simprocAttr];refine⟨oM,wn hc ?_⟩;exact zz trivial
 ·have e:(decide ((l.length:Int)>0)&&Xu l)=Xu l:=by
   cases l with
   |nil=>simp[Xu]
   |cons x r=>simp<;>omega
  simp only[go_sem,e,simprocAttr]
theorem step74(b:Brn)(h:PT 18 [.list 11 (b.steps.map JL)] (.d (.bool (Xu b.steps)))):PT 74 [Jw b] (.d (.bool (!JDf b))):=by
 refine ok74.pc ?_;have hc:=h.call trivial;rw[Y4,JTG];simp only[go_sem,ir74,simprocAttr];refine wc hc trivial
theorem step40(s:Ste)(h:∀b∈s.branches,PT 74 [Jw b] (.d (.bool (!JDf b)))):PT 40 [JL s] (.d (.bool (Xt s))):=by
 refine Jz.Ja ok40.has fun hfit=>?_
 have hl:s.branches.length≤68719476736:=by
  have:=hfit _ (Vh);rw[JE]at this;simp only[fits,Ue,Vc]at this;omega
 refine ok40.pc ?_;have hc:=(walk73 (cs:=[]) s.branches h hl).call trivial;have e:=JIN s.branches;generalize hE:Xt s=E;rw[JOD]at hE;rw[JE];simp only[go_sem,ir40,Vc,simprocAttr];generalize(s.kind==13)=k13 at*;generalize(s.kind==14)=k14 at*;generalize(s.kind==11)=k11 at*;generalize(s.kind==12)=k12 at*;have fin:∀(b:Bool),(b=true→JF4 s.branches=true∧0<s.branches.length)→True:=fun _ _=>trivial
 have rest:k13=false→k14=false→(k11||k12)=true→(decide ((s.branches.length:Int)>0)&& !(s.branches.any fun b=> !JDf b))=E:=by
  intro a b c;rw[←hE,a,b,←e];simp only[Bool.or_self,Bool.false_or,c,Vt];congr 1;exact decide_eq_decide.2 oM
 cases k13 with
 |true=>simp at hE;subst hE;simp only[go_sem,simprocAttr]
 |false=>
  cases k14 with
  |true=>simp at hE;subst hE;simp only[go_sem,simprocAttr]
  |false=>
   cases k11 with
   |true=>
    have rest:=rest rfl rfl rfl;refine zz ?_;refine sq (!(s.branches.any fun b=> !JDf b)) ?_ ?_
    ·refine zz ?_;refine wc hc trivial
    ·simp only[go_sem,rest,simprocAttr]
   |false=>
    cases k12 with
    |true=>
     have rest:=rest rfl rfl rfl;refine zz ?_;refine sq (!(s.branches.any fun b=> !JDf b)) ?_ ?_
     ·refine zz ?_;refine wc hc trivial
     ·simp only[go_sem,rest,simprocAttr]
    |false=>simp at hE;subst hE;simp only[go_sem,simprocAttr]
mutual
theorem p40:∀(s:Ste),PT 40 [JL s] (.d (.bool (Xt s)))
 |.mk n k u t l x c e r a b=>step40 _ (p74s b)
theorem p40s:∀(l:List Ste),∀x∈l,PT 40 [JL x] (.d (.bool (Xt x)))
 |[],x,h=>by cases h
 |v::r,x,h=>by
  by_cases e:x=v
  ·rw[e];exact p40 v
  ·exact p40s r x ((VA.1 h).resolve_left e)
theorem p74:∀(b:Brn),PT 74 [Jw b] (.d (.bool (!JDf b)))
 |.mk w s=>step74 _ (JOE s (p40s s))
theorem p74s:∀(l:List Brn),∀x∈l,PT 74 [Jw x] (.d (.bool (!JDf x)))
 |[],x,h=>by cases h
 |v::r,x,h=>by
  by_cases e:x=v
  ·rw[e];exact p74 v
  ·exact p74s r x ((VA.1 h).resolve_left e)
end
theorem p18(l:List Ste):PT 18 [.list 11 (l.map JL)] (.d (.bool (Xu l))):=JOE l fun x _=>p40 x
end Go.Proofs
namespace Go.Proofs
open Go Av
open Av.Y
def ir91:Ic:=q (R (ox 3 1<|N) [1])<|q (R (oL 5 5 3<|cl 6 41 [t 5]<|om 4 6<|N) [5,6])<|q (R (om 7 0<|of 8 3 1<|ol 9 8<|oh 10 9<|oi 11 .gtr 10 64<|cl 12 94 [t 7,t 11,i 16,.k (.str [115,99,104,101,109,97,115])]<|N) [7,8,9,10,11,12])<|q (R (om 13 0<|of 14 3 2<|ol 15 14<|oh 16 15<|oi 17 .gtr 16 64<|cl 18 94 [t 13,t 17,i 16,.k (.str [101,110,100,112,111,105,110,116,115])]<|N) [13,14,15,16,17,18])<|q (R (om 19 0<|of 20 3 3<|ol 21 20<|oh 22 21<|oi 23 .gtr 22 64<|cl 24 94 [t 19,t 23,i 16,.k (.str [115,101,114,118,105,99,101,115])]<|N) [19,20,21,22,23,24])<|q (R (om 25 0<|of 26 3 4<|ol 27 26<|oh 28 27<|oi 29 .gtr 28 64<|cl 30 94 [t 25,t 29,i 16,.k (.str [114,111,117,116,101,115])]<|N) [25,26,27,28,29,30])<|q (R (om 31 0<|om 32 4<|oh 33 32<|oi 34 .gtr 33 64<|cl 35 94 [t 31,t 34,i 16,.k (.str [115,116,101,112,115])]<|N) [31,32,33,34,35])<|q (R (om 36 0<|om 37 4<|cl 38 146 [t 37,.k (.fn (.func 147) [] [])]<|cl 39 94 [t 36,t 38,i 16,.k (.str [108,101,118,101,108,115])]<|N) [36,37,38,39])<|R (om 40 0<|of 41 3 2<|ol 42 41<|oh 43 42<|of 44 3 3<|ol 45 44<|oh 46 45<|ot 47 .add 43 46<|om 48 4<|oh 49 48<|ot 50 .add 47 49<|oi 51 .gtr 50 128<|cl 52 94 [t 40,t 51,i 16,.k (.str [110,111,100,101,115])]<|N) [0,3,4,40,41,42,43,44,45,46,47,48,49,50,51,52]
theorem ok91:FT 91 53 ir91 []:=.o Tryz.func91
def ir92:Ic:=q (R (ox 4 1<|N) [1])<|q (R (om 21 0<|of 22 4 0<|ol 23 22<|cl 24 148 [t 23,i 1,i 999]<|og 25 24<|cl 26 94 [t 21,t 25,i 5,.k (.str [118,101,114,115,105,111,110])]<|N) [21,22,23,24,25,26])<|q (q (R (of 27 4 1<|ol 28 27<|oh 29 28<|oz 30 0<|N) [27])<|D (.block 0<|.loop (q (.reg (ot 31 .lss 30 29<|N))<|q (D (I 31 S (E 0)) [31])<|q (D (.block 1<|q (R (om 32 30<|oa true 33 9 28 30<|oL 34 9 33<|oN 7 [.str [],.int .i64 0,.int .i64 0,.int .i64 0,.int .i64 0,.int .i64 0,.nil 1,.nil 7,.nil 11]<|om 6 32<|oS 9 7 34<|N) [32,33,34])<|q (R (of 35 7 0<|ol 36 35<|cl 37 95 [t 36]<|om 8 37<|N) [35,36,37])<|q (R (oL 39 5 4<|of 40 7 0<|ol 41 40<|of 42 7 1<|ol 43 42<|cl 44 28 [t 39,t 41,t 43]<|om 38 44<|oe 45 38 0<|oe 46 38 1<|om 9 45<|om 10 46<|N) [39,40,41,42,43,44,38,45,46,10])<|q (R (om 47 0<|om 48 8<|og 49 48<|of 50 7 0<|ol 51 50<|cl 52 94 [t 47,t 49,i 1,t 51]<|N) [47,48,49,50,51,52])<|q (D (.regd [(4,8)] (om 53 0<|om 54 8<|om 55 54<|.sc 55 true (oL 56 9 7<|cl 57 149 [t 56]<|oi 58 .neq 57 0<|N) (t 58) 59 (of 60 7 0<|ol 61 60<|cl 62 94 [t 53,t 59,i 5,t 61]<|N))) [8,53,54,55,59,60,61,62])<|R (om 63 0<|om 64 9<|om 65 6<|ot 66 .lss 64 65<|of 67 7 0<|ol 68 67<|cl 69 94 [t 63,t 66,i 2,t 68]<|N) [7,6,9,63,64,65,66,67,68,69]) [])<|R (oi 70 .add 30 1<|om 30 70<|N) [70])) [28,29,30,31,7,6,8,9,10])<|q (q (R (of 71 4 2<|ol 72 71<|oh 73 72<|oz 74 0<|N) [71])<|D (.block 2<|.loop (q (.reg (ot 75 .lss 74 73<|N))<|q (D (I 75 S (E 2)) [75])<|q (D (.block 3<|q (R (oa true 76 7 72 74<|oL 77 7 76<|oN 12 [.str [],.int .i64 0,.str [],.int .i64 0,.int .i64 0,.int .i64 0,.nil 1]<|oS 7 12 77<|N) [76,77])<|q (R (oL 79 5 4<|of 80 12 2<|ol 81 80<|of 82 12 3<|ol 83 82<|cl 84 28 [t 79,t 81,t 83]<|om 78 84<|oe 85 78 0<|oe 86 78 1<|om 13 85<|om 14 86<|N) [79,80,81,82,83,84,78,85,86,13])<|q (D (.regd [(3,6)] (om 87 0<|of 88 12 0<|ol 89 88<|cl 90 95 [t 89]<|og 91 90<|of 92 12 0<|ol 93 92<|cl 94 94 [t 87,t 91,i 1,t 93]<|N)) [87,88,89,90,91,92,93,94])<|q (R (om 95 0<|om 96 2<|of 97 12 0<|ol 98 97<|oo 99 (.lkp .s (.bool false) (t 96) (t 98) false)<|of 100 12 0<|ol 101 100<|cl 102 94 [t 95,t 99,i 2,t 101]<|N) [95,96,97,98,99,100,101,102])<|q (D (.regd [(3,13),(9,13)] (om 103 0<|of 104 12 1<|ol 105 104<|cl 106 148 [t 105,i 1,i 3]<|og 107 106<|om 108 107<|.sc 108 false (of 109 12 4<|of 110 109 0<|ol 111 110<|cl 112 148 [t 111,i 1,i 4]<|og 113 112<|N) (t 113) 114 (of 115 12 0<|ol 116 115<|cl 117 94 [t 103,t 114,i 5,t 116]<|N))) [103,104,105,106,107,108,114,115,116,117])<|q (R (om 118 0<|om 119 14<|og 120 119<|of 121 12 2<|ol 122 121<|cl 123 94 [t 118,t 120,i 3,t 122]<|N) [14,118,119,120,121,122,123])<|R (om 124 2<|of 125 12 0<|ol 126 125<|on (.mpu .s (t 124) (t 126) (B true))<|N) [12,124,125,126]) [])<|R (oi 127 .add 74 1<|om 74 127<|N) [127])) [72,73,74,75])<|q (R (of 128 4 3<|ol 129 128<|oh 130 129<|oz 131 0<|N) [128])<|D (.block 4<|.loop (q (.reg (ot 132 .lss 131 130<|N))<|q (D (I 132 S (E 4)) [132])<|q (D (.block 5<|q (R (oa true 133 4 129 131<|oL 134 4 133<|oN 16 [.str [],.str [],.str [],.bool false]<|oS 4 16 134<|N) [133,134])<|q (R (oL 136 5 4<|of 137 16 1<|ol 138 137<|cl 139 150 [t 136,t 138]<|om 135 139<|oe 140 135 0<|oe 141 135 1<|om 17 140<|om 18 141<|N) [136,137,138,139,135,140,141,17])<|q (R (oL 143 5 4<|of 144 16 2<|ol 145 144<|cl 146 150 [t 143,t 145]<|om 142 146<|oe 147 142 0<|oe 148 142 1<|om 19 147<|om 20 148<|N) [143,144,145,146,142,147,148,19])<|q (D (.regd [(3,6)] (om 149 0<|of 150 16 0<|ol 151 150<|cl 152 95 [t 151]<|og 153 152<|of 154 16 0<|ol 155 154<|cl 156 94 [t 149,t 153,i 1,t 155]<|N)) [149,150,151,152,153,154,155,156])<|q (R (om 157 0<|om 158 2<|of 159 16 0<|ol 160 159<|oo 161 (.lkp .s (.bool false) (t 158) (t 160) false)<|of 162 16 0<|ol 163 162<|cl 164 94 [t 157,t 161,i 2,t 163]<|N) [157,158,159,160,161,162,163,164])<|q (R (om 165 0<|om 166 18<|og 167 166<|of 168 16 1<|ol 169 168<|cl 170 94 [t 165,t 167,i 3,t 169]<|N) [18,165,166,167,168,169,170])<|q (R (om 171 0<|om 172 20<|og 173 172<|of 174 16 2<|ol 175 174<|cl 176 94 [t 171,t 173,i 3,t 175]<|N) [20,171,172,173,174,175,176])<|R (om 177 2<|of 178 16 0<|ol 179 178<|on (.mpu .s (t 177) (t 179) (B true))<|N) [16,177,178,179]) [])<|R (oi 180 .add 131 1<|om 131 180<|N) [180])) [0,2,4,129,130,131,132]
theorem ok92:FT 92 181 ir92 []:=.o Tryz.func92
def ir181:Ic:=q (R (ox 4 1<|ox 5 2<|N) [1,2])<|q (q (R (of 14 5 1<|ol 15 14<|oi 16 .eql 15 13<|N) [14,15])<|D (I 16 (q (R (oL 18 5 4<|of 19 5 5<|ol 20 19<|cl 21 27 [t 18,t 20]<|om 17 21<|oe 22 17 0<|oe 23 17 1<|om 6 22<|om 7 23<|N) [16,18,19,20,21,17,22,23])<|q (R (om 24 0<|om 25 7<|og 26 25<|of 27 5 5<|ol 28 27<|cl 29 94 [t 24,t 26,i 3,t 28]<|N) [24,25,26,27,28,29])<|R (om 30 0<|om 31 7<|om 32 31<|.sc 32 true (of 33 4 2<|ol 34 33<|om 35 6<|oa true 36 7 34 35<|of 37 36 1<|ol 38 37<|oi 39 .eql 38 1<|N) (t 39) 40 (of 41 5 5<|ol 42 41<|cl 43 94 [t 30,t 40,i 4,t 42]<|N)) [6,7,30,31,32,40,41,42,43]) S) [16])<|q (R (oL 45 5 4<|of 46 5 6<|ol 47 46<|cl 48 150 [t 45,t 47]<|om 44 48<|oe 49 44 0<|oe 50 44 1<|om 8 49<|om 9 50<|N) [45,46,47,48,44,49,50,8])<|q (R (om 51 0<|of 52 5 6<|ol 53 52<|ob 54 .sne (t 53) (.k (.str []))<|om 55 54<|.sc 55 true (om 56 9<|og 57 56<|N) (t 57) 58 (of 59 5 6<|ol 60 59<|cl 61 94 [t 51,t 58,i 3,t 60]<|N)) [9,51,52,53,54,55,58,59,60,61])<|q (R (of 62 5 9<|ol 63 62<|oh 64 63<|oz 65 0<|N) [62])<|D (.block 0<|.loop (q (.reg (ot 66 .lss 65 64<|N))<|q (D (I 66 S (E 0)) [66])<|q (D (.block 1<|q (R (om 67 65<|oa true 68 2 63 65<|oL 69 2 68<|oN 11 [.str [],.nil 6]<|om 10 67<|oS 2 11 69<|N) [67,68,69])<|q (R (oL 71 5 4<|of 72 11 0<|ol 73 72<|cl 74 260 [t 71,t 73]<|om 70 74<|oe 75 70 0<|oe 76 70 1<|om 12 75<|om 13 76<|N) [71,72,73,74,70,75,76])<|q (R (om 77 0<|om 78 13<|og 79 78<|of 80 11 0<|ol 81 80<|cl 82 94 [t 77,t 79,i 3,t 81]<|N) [77,78,79,80,81,82])<|R (om 83 0<|om 84 13<|om 85 84<|.sc 85 true (of 86 5 1<|ol 87 86<|oi 88 .eql 87 10<|N) (t 88) 89 (om 90 89<|.sc 90 true (om 91 10<|of 92 5 9<|ol 93 92<|oh 94 93<|oi 95 .sub 94 1<|ot 96 .lss 91 95<|N) (t 96) 97 (om 98 97<|.sc 98 true (of 99 4 3<|ol 100 99<|om 101 12<|oa true 102 4 100 101<|of 103 102 3<|ol 104 103<|og 105 104<|N) (t 105) 106 (of 107 11 0<|ol 108 107<|cl 109 94 [t 83,t 106,i 12,t 108]<|N)))) [11,10,12,13,83,84,85,89,90,97,98,106,107,108,109]) [])<|R (oi 110 .add 65 1<|om 65 110<|N) [110])) [0,4,5,63,64,65,66,11,10]
theorem ok181:FT 181 111 ir181 []:=.o Tryz.func181
def ir99:Ic:=q (R (ox 7 1<|N) [1])<|q (R (om 19 0<|oc 20 19<|of 21 20 1<|ol 22 21<|om 12 22<|N) [19,20,21,22])<|q (q (.reg (om 23 3<|oh 24 23<|oz 25 0<|N))<|D (.block 0<|.loop (q (.reg (ot 26 .lss 25 24<|N))<|q (D (I 26 S (E 0)) [26])<|q (D (.block 1<|q (R (om 27 25<|oa true 28 11 23 25<|oL 29 11 28<|oN 14 [.str [],.int .i64 0,.int .i64 0,.int .i64 0,.int .i64 0,.str [],.str [],.nil 5,.nil 6,.nil 2,.nil 2]<|om 13 27<|oS 11 14 29<|N) [27,28,29])<|q (R (om 30 0<|om 31 12<|cl 32 38 [t 31]<|om 33 13<|oo 34 (.bls 1 [t 33])<|oo 35 (.app 1 (t 32) (t 34))<|oc 36 30<|of 37 36 1<|os 37 35<|N) [30,31,32,33,34,35,36,37])<|q (R (om 38 2<|om 39 0<|oc 40 39<|of 41 40 1<|ol 42 41<|oL 43 11 14<|oo 44 (.bld [.int .i64 0,.nil 1,.str [],.int .i64 0,.int .i64 0,.int .i64 0,.int .i64 0,.str [],.str [],.nil 5,.nil 6,.nil 2,.nil 2] [(0,1,t 38),(1,1,t 42),(2,11,t 43)])<|cl 45 179 [t 44]<|om 15 45<|N) [38,39,40,41,42,43,44,45])<|q (D (.regd [(7,11)] (om 46 0<|of 47 14 0<|ol 48 47<|ob 49 .sne (t 48) (.k (.str []))<|om 50 49<|.sc 50 true (of 51 14 0<|ol 52 51<|cl 53 95 [t 52]<|og 54 53<|N) (t 54) 55 (of 56 14 0<|ol 57 56<|cl 58 94 [t 46,t 55,i 1,t 57]<|N))) [46,47,48,49,50,55,56,57,58])<|q (R (om 59 0<|om 60 4<|om 61 15<|oo 62 (.lkp .s (.bool false) (t 60) (t 61) false)<|om 63 15<|cl 64 94 [t 59,t 62,i 2,t 63]<|N) [59,60,61,62,63,64])<|q (R (om 65 4<|om 66 15<|on (.mpu .s (t 65) (t 66) (B true))<|N) [15,65,66])<|q (R (om 67 0<|om 68 13<|oi 69 .gtr 68 0<|om 70 69<|.sc 70 true (om 71 3<|om 72 13<|oi 73 .sub 72 1<|oa true 74 11 71 73<|oL 75 11 74<|cl 76 40 [t 75]<|N) (t 76) 77 (cl 78 94 [t 67,t 77,i 7,.k (.str [])]<|N)) [13,67,68,69,70,77,78])<|q (q (R (oL 79 11 14<|om 80 5<|cl 81 180 [t 79,t 80]<|N) [79,80])<|I 81 (R (om 82 0<|oL 83 5 7<|oL 84 11 14<|cl 85 181 [t 82,t 83,t 84]<|N) [81,82,83,84,85]) (R (om 86 0<|cl 87 94 [t 86,B true,i 5,.k (.str [])]<|N) [81,86,87]))<|q (R (om 88 0<|oc 89 88<|of 90 89 1<|ol 91 90<|om 16 91<|N) [88,89,90,91])<|q (R (of 92 14 10<|ol 93 92<|oh 94 93<|oz 95 0<|N) [14,92])<|D (.block 2<|.loop (q (.reg (ot 96 .lss 95 94<|N))<|q (D (I 96 S (E 2)) [96])<|q (D (.block 3<|q (R (om 97 95<|oa true 98 2 93 95<|oL 99 2 98<|oN 18 [.nil 5,.nil 11]<|om 17 97<|oS 2 18 99<|N) [97,98,99])<|q (R (om 100 0<|om 101 16<|cl 102 38 [t 101]<|om 103 17<|oo 104 (.bls 1 [t 103])<|oo 105 (.app 1 (t 102) (t 104))<|oc 106 100<|of 107 106 1<|os 107 105<|N) [17,100,101,102,103,104,105,106,107])<|R (om 108 0<|oL 109 5 7<|om 110 2<|of 111 18 1<|ol 112 111<|om 113 4<|om 114 5<|cl 115 99 [t 108,t 109,t 110,t 112,t 113,t 114]<|N) [18,108,109,110,111,112,113,114,115]) [])<|R (oi 116 .add 95 1<|om 95 116<|N) [116])) [16,93,94,95,96]) [])<|R (oi 117 .add 25 1<|om 25 117<|N) [117])) [2,3,4,5,7,23,24,25,26])<|R (om 118 0<|om 119 12<|oc 120 118<|of 121 120 1<|os 121 119<|N) [0,12,118,119,120,121]
theorem ok99:FT 99 122 ir99 []:=.o Tryz.func99
def ir55:Ic:=q (R (ox 1 0<|ok 2 (.k (.nil 4))<|N) [0,2])<|q (R (oo 10 (.bld [.str [],.nil 1,.nil 4] [])<|ox 11 10<|om 3 11<|N) [10,11])<|q (R (om 12 3<|oL 13 5 1<|cl 14 91 [t 12,t 13]<|N) [12,13,14])<|q (q (R (om 15 3<|oc 16 15<|of 17 16 2<|ol 18 17<|oh 19 18<|oi 20 .gtr 19 0<|N) [15,16,17,18,19])<|D (I 20 (q (R (om 21 3<|oc 22 21<|of 23 22 2<|ol 24 23<|om 2 24<|N) [1,3,20,21,22,23,24])<|.ret) S) [20])<|q (R (oo 25 .mkm<|om 4 25<|N) [25])<|q (R (om 26 3<|oL 27 5 1<|om 28 4<|cl 29 92 [t 26,t 27,t 28]<|N) [26,27,28,29])<|q (R (cl 30 93 []<|om 5 30<|N) [30])<|q (q (R (of 31 1 4<|ol 32 31<|oh 33 32<|oz 34 0<|N) [31])<|D (.block 0<|.loop (q (.reg (ot 35 .lss 34 33<|N))<|q (D (I 35 S (E 0)) [35])<|q (D (.block 1<|q (R (om 36 34<|oa true 37 3 32 34<|oL 38 3 37<|oN 7 [.str [],.str [],.nil 11]<|om 6 36<|oS 3 7 38<|N) [36,37,38])<|q (R (om 39 3<|om 40 3<|of 41 7 0<|ol 42 41<|oc 43 39<|of 44 43 0<|os 44 42<|oc 45 40<|of 46 45 1<|on (.sto none (t 46) (.k (.nil 1)))<|N) [39,40,41,42,43,44,45,46])<|q (R (oL 48 5 1<|of 49 7 1<|ol 50 49<|cl 51 27 [t 48,t 50]<|om 47 51<|oe 52 47 0<|oe 53 47 1<|om 8 52<|om 9 53<|N) [48,49,50,51,47,52,53])<|q (D (.regd [(3,6)] (om 54 3<|of 55 7 0<|ol 56 55<|cl 57 95 [t 56]<|og 58 57<|of 59 7 0<|ol 60 59<|cl 61 94 [t 54,t 58,i 1,t 60]<|N)) [54,55,56,57,58,59,60,61])<|q (D (.regd [(6,8)] (om 62 3<|of 63 1 4<|ol 64 63<|om 65 6<|oo 66 (.slc 3 (t 64) none (some (t 65)) none)<|oo 67 (.fnv (.func 97) [] [t 7])<|cl 68 96 [t 66,t 67]<|of 69 7 0<|ol 70 69<|cl 71 94 [t 62,t 68,i 2,t 70]<|N)) [62,63,64,65,66,67,68,69,70,71])<|q (R (om 72 3<|om 73 9<|og 74 73<|of 75 7 1<|ol 76 75<|cl 77 94 [t 72,t 74,i 3,t 76]<|N) [72,73,74,75,76,77])<|q (R (om 78 3<|om 79 9<|om 80 79<|.sc 80 true (of 81 1 2<|ol 82 81<|om 83 8<|oa true 84 7 82 83<|of 85 84 1<|ol 86 85<|oi 87 .eql 86 2<|N) (t 87) 88 (of 89 7 1<|ol 90 89<|cl 91 94 [t 78,t 88,i 4,t 90]<|N)) [8,9,78,79,80,88,89,90,91])<|q (D (.regd [(6,8)] (om 92 3<|of 93 1 4<|ol 94 93<|om 95 6<|oo 96 (.slc 3 (t 94) none (some (t 95)) none)<|oo 97 (.fnv (.func 98) [] [t 7])<|cl 98 96 [t 96,t 97]<|of 99 7 1<|ol 100 99<|cl 101 94 [t 92,t 98,i 2,t 100]<|N)) [92,93,94,95,96,97,98,99,100,101])<|q (R (om 102 3<|of 103 7 2<|ol 104 103<|cl 105 18 [t 104]<|og 106 105<|cl 107 94 [t 102,t 106,i 6,.k (.str [])]<|N) [102,103,104,105,106,107])<|R (om 108 3<|oL 109 5 1<|om 110 6<|of 111 7 2<|ol 112 111<|om 113 4<|om 114 5<|cl 115 99 [t 108,t 109,t 110,t 112,t 113,t 114]<|N) [7,6,108,109,110,111,112,113,114,115]) [])<|R (oi 116 .add 34 1<|om 34 116<|N) [116])) [1,4,5,32,33,34,35,7,6,8,9])<|q (R (om 117 3<|oc 118 117<|of 119 118 2<|ol 120 119<|om 121 3<|oc 122 121<|of 123 122 2<|ol 124 123<|oh 125 124<|oo 126 (.mn (t 125) (i 200))<|oo 127 (.slc 4 (t 120) none (some (t 126)) none)<|om 2 127<|N) [3,117,118,119,120,121,122,123,124,125,126,127])<|.ret
theorem ok55:FT 55 128 ir55 [.tmp 2]:=.o Tryz.func55
end Go.Proofs
namespace Go.Proofs
open Go Av
open Av.Y
def ir94:Ic:=q (R (om 8 1<|N) [1])<|D (I 8 (D (.regd [(4,14),(9,14),(4,17)] (om 9 0<|om 10 0<|oc 11 10<|of 12 11 2<|ol 13 12<|om 14 2<|om 15 0<|oc 16 15<|of 17 16 0<|ol 18 17<|om 19 0<|oc 20 19<|of 21 20 1<|ol 22 21<|cl 23 38 [t 22]<|om 24 3<|oo 25 (.bld [.int .i64 0,.str [],.nil 1,.str []] [(0,1,t 14),(1,1,t 18),(2,1,t 23),(3,1,t 24)])<|oo 26 (.bls 4 [t 25])<|oo 27 (.app 4 (t 13) (t 26))<|oc 28 9<|of 29 28 2<|os 29 27<|N)) [0,2,3,8,9,10,11,12,13,14,15,16,17,18,19,20,21,22,23,24,25,26,27,28,29]) S) [0,2,3,8]
theorem ok94:FT 94 30 ir94 []:=.o Tryz.func94
end Go.Proofs
namespace Go.Proofs
open Go Av
open Av.Y
def ir95:Ic:=q (R (ow 2 false<|N) [2])<|q (q (R (om 6 0<|oj 7 6<|oi 8 .lss 7 1<|om 9 8<|.sc 9 false (om 10 0<|oj 11 10<|oi 12 .gtr 11 32<|N) (t 12) 13 N) [6,7,8,9])<|D (I 13 (q (R (ow 2 false<|N) [0,13])<|.ret) S) [13])<|q (q (R (om 14 0<|oj 15 14<|oz 16 0<|N) [14])<|D (.block 0<|.loop (q (.reg (ot 17 .lss 16 15<|N))<|q (D (I 17 S (E 0)) [17])<|q (D (.block 1<|q (R (om 18 16<|om 3 18<|N) [18])<|q (R (om 19 0<|om 20 3<|oo 21 (.ixs (t 19) (t 20))<|om 4 21<|N) [19,20,21])<|q (R (om 22 4<|ob 23 .geq (t 22) (.k (.int .u8 97))<|om 24 23<|.sc 24 true (om 25 4<|ob 26 .leq (t 25) (.k (.int .u8 122))<|N) (t 26) 27 (om 5 27<|N)) [22,23,24,27])<|q (R (om 28 5<|og 29 28<|om 30 29<|.sc 30 true (om 31 3<|oi 32 .eql 31 0<|om 33 32<|.sc 33 false (om 34 4<|ob 35 .neq (t 34) (.k (.int .u8 95))<|om 36 35<|.sc 36 true (om 37 4<|ob 38 .lss (t 37) (.k (.int .u8 48))<|om 39 38<|.sc 39 false (om 40 4<|ob 41 .gtr (t 40) (.k (.int .u8 57))<|N) (t 41) 42 N) (t 42) 43 N) (t 43) 44 N) (t 44) 45 N) [3,4,5,28,29,30])<|D (I 45 (q (R (ow 2 false<|N) [0,15,16,45])<|.ret) S) [45]) [])<|R (oi 46 .add 16 1<|om 16 46<|N) [46])) [0,15,16,17,3,4,5])<|q (.reg (ow 2 true<|N))<|.ret
theorem ok95:FT 95 47 ir95 [.tmp 2]:=.o Tryz.func95
def ir149:Ic:=q (R (ox 1 0<|oz 2 0<|N) [0,2])<|q (D (.block 0<|q (R (of 4 1 0<|ol 5 4<|cl 6 255 [t 5]<|og 7 6<|om 3 7<|N) [4,5,6,7])<|D (I 3 (q (R (oz 2 12<|N) [1,3])<|.ret) (q (R (of 9 1 1<|ol 10 9<|cl 11 256 [t 10,i 1,i 999]<|og 12 11<|om 8 12<|N) [3,9,10,11,12])<|D (I 8 (q (R (oz 2 2<|N) [1,8])<|.ret) (q (R (of 14 1 2<|of 15 14 0<|ol 16 15<|oi 17 .neq 16 9<|om 13 17<|N) [8,14,15,16,17])<|D (I 13 (q (R (oz 2 11<|N) [1,13])<|.ret) S) [13])) [])) []) [])<|q (R (of 18 1 2<|oL 19 7 18<|cl 20 83 [t 19]<|om 2 20<|N) [1,18,19,20])<|.ret
theorem ok149:FT 149 21 ir149 [.tmp 2]:=.o Tryz.func149
end Go.Proofs
namespace Go.Proofs
open Go Av
open Av.Y
def JTH:Ic:=q (R (ok 2 (.k (.nil 1))<|N) [2])<|q (q (R (om 3 0<|oo 4 (.nilq false false (t 3))<|N) [3])<|D (I 4 (q (R (ok 2 (.k (.nil 1))<|N) [0,4])<|.ret) S) [4])<|q (R (oo 5 (.bls 1 [])<|om 6 0<|oo 7 (.app 1 (t 5) (t 6))<|om 2 7<|N) [0,5,6,7])<|.ret
theorem JOF:FT 38 8 JTH [.tmp 2]:=.o Tryz.func38
def ir125:Ic:=q (R (ox 3 1<|N) [1])<|q (.reg (oN 4 [.nil 1]<|N))<|q (.reg (oN 5 [.nilFn]<|N))<|q (R (oo 6 (.fnv (.func 220) [] [t 4,t 3,t 5])<|os 5 6<|N) [3,4,6])<|R (ol 7 5<|om 8 0<|.call (some 9) (.dyn (t 7)) [t 8] N) [0,5,7,8,9]
theorem ok125:FT 125 10 ir125 []:=.o Tryz.func125
def ir220:Ic:=q (R (om 7 0<|oh 8 7<|oz 9 0<|N) [7])<|D (.block 0<|.loop (q (.reg (ot 10 .lss 9 8<|N))<|q (D (I 10 S (E 0)) [10])<|q (D (.block 1<|q (R (om 11 9<|om 5 11<|N) [11])<|q (R (ol 12 1<|om 13 5<|oo 14 (.bls 1 [t 13])<|oo 15 (.app 1 (t 12) (t 14))<|os 1 15<|N) [12,13,14,15])<|q (R (ol 16 2<|ol 17 1<|om 18 0<|om 19 5<|oa true 20 11 18 19<|.call (some 21) (.dyn (t 16)) [t 17,t 20] N) [16,17,18,19,20,21])<|q (q (R (om 22 0<|om 23 5<|oa true 24 11 22 23<|of 25 24 10<|ol 26 25<|oh 27 26<|oz 28 0<|N) [22,23,24,25,26])<|D (.block 2<|.loop (q (.reg (ot 29 .lss 28 27<|N))<|q (D (I 29 S (E 2)) [29])<|q (D (.block 3<|q (R (om 30 28<|om 6 30<|N) [30])<|q (R (ol 31 1<|om 32 6<|oo 33 (.bls 1 [t 32])<|oo 34 (.app 1 (t 31) (t 33))<|os 1 34<|N) [31,32,33,34])<|q (R (ol 35 3<|om 36 0<|om 37 5<|oa true 38 11 36 37<|of 39 38 10<|ol 40 39<|om 41 6<|oa true 42 2 40 41<|of 43 42 1<|ol 44 43<|.call (some 45) (.dyn (t 35)) [t 44] N) [6,35,36,37,38,39,40,41,42,43,44,45])<|R (ol 46 1<|ol 47 1<|oh 48 47<|oi 49 .sub 48 1<|oo 50 (.slc 1 (t 46) none (some (t 49)) none)<|os 1 50<|N) [46,47,48,49,50]) [])<|R (oi 51 .add 28 1<|om 28 51<|N) [51])) [5,27,28,29,6])<|R (ol 52 1<|ol 53 1<|oh 54 53<|oi 55 .sub 54 1<|oo 56 (.slc 1 (t 52) none (some (t 55)) none)<|os 1 56<|N) [52,53,54,55,56]) [])<|R (oi 57 .add 9 1<|om 9 57<|N) [57])) [0,8,9,10,11,5,6]
theorem ok220:FT 220 58 ir220 []:=.o Tryz.func220
def ir126:Ic:=D (.regd [(0,3),(1,3),(3,6),(0,7),(1,7),(0,9)] (ol 6 2<|ol 7 3<|om 8 0<|cl 9 38 [t 8]<|om 10 1<|oc 11 10<|oL 12 11 11<|cl 13 71 [t 12]<|oo 14 (.bld [.int .i64 0,.nil 1,.str [],.int .i64 0,.int .i64 0,.int .i64 0,.int .i64 0,.str [],.str [],.nil 5,.nil 6,.nil 2,.nil 2] [(0,1,t 7),(1,1,t 9),(2,11,t 13)])<|oo 15 (.bls 13 [t 14])<|oo 16 (.app 13 (t 6) (t 15))<|os 2 16<|N)) [0,1,6,7,8,9,10,11,12,13,14,15,16]
theorem ok126:FT 126 17 ir126 []:=.o Tryz.func126
def ir75:Ic:=q (R (ox 2 0<|ox 3 1<|ok 4 (.k (.nil 13))<|N) [0,1,4])<|q (.reg (oN 5 [.nil 13]<|N))<|q (R (of 6 2 4<|ol 7 6<|ol 8 3<|oa true 9 3 7 8<|of 10 9 2<|ol 11 10<|oo 12 (.fnv (.func 126) [] [t 5,t 3])<|cl 13 125 [t 11,t 12]<|N) [2,3,6,7,8,9,10,11,12,13])<|q (R (ol 14 5<|om 4 14<|N) [5,14])<|.ret
theorem ok75:FT 75 15 ir75 [.tmp 4]:=.o Tryz.func75
def ir41:Ic:=q (R (ox 1 0<|ok 2 (.k (.nil 13))<|N) [0,2])<|q (.reg (ok 3 (.k (.nil 13))<|N))<|q (q (R (of 5 1 4<|ol 6 5<|oh 7 6<|oz 8 0<|N) [5,6])<|D (.block 0<|.loop (q (.reg (ot 9 .lss 8 7<|N))<|q (D (I 9 S (E 0)) [9])<|q (D (.block 1<|q (R (om 10 8<|om 4 10<|N) [10])<|R (om 11 3<|oL 12 5 1<|om 13 4<|cl 14 75 [t 12,t 13]<|oo 15 (.app 13 (t 11) (t 14))<|om 3 15<|N) [4,11,12,13,14,15]) [])<|R (oi 16 .add 8 1<|om 8 16<|N) [16])) [1,7,8,9,10,4,11])<|q (R (om 17 3<|om 2 17<|N) [3,17])<|.ret
theorem ok41:FT 41 18 ir41 [.tmp 2]:=.o Tryz.func41
end Go.Proofs
namespace Av
open Go
variable [Glb][Rls]
section
variable {β:JM}{A:Nat→Prop}{w:World}{H:Heap}{D:Nat→Prop}
theorem Stp.JKQ(hc:Core β A w H){b:Nat}{cs cs':List Av}(hb:H b=some (.box cs))(hl:cs'.length=cs.length)
  (h:∀(i:Nat) c c' u,cs[i]? =some c→cs'[i]? =some c'→VRep β A w H c u→VRep β A w H c' u):Stp β A w H β A w (upd H b (some (.box cs'))):=by
 obtain⟨bb,C,T,e1,e2,e3,e4,e5⟩:=hc.objs b _ hb;have hset:w.setRow bb C=w:=Y0 e2;have hst2:=Stp.JHP (cs':=cs') (C':=C) hc hb e1 e2 oM e4 (fun hall i c' v hc' hv'=>by
  have hlt:i<cs.length:=by have:=(VB.1 hc').1;omega
  exact hall _ _ (h i _ c' v (Vl hlt) hc' (e5 i _ v (Vl hlt) hv')))
 rw[hset]at hst2;exact hst2
end
theorem JGw{α:Type}{cs:List α}{j:Nat}{x y:α}(hj:cs[j]? =some x){i:Nat}{c c':α}(h1:cs[i]? =some c)(h2:(cs.set j y)[i]? =some c'):(i=j∧c=x∧c'=y)∨c'=c:=by
 rw[List.getElem?_set]at h2;split at h2
 ·rename_i e;subst e;split at h2
  ·cases h2;rw[hj]at h1;cases h1;exact .inl ⟨rfl,rfl,rfl⟩
  ·cases h2
 ·rw[h1]at h2;cases h2;exact .inr rfl
theorem Wk.subB{D:Nat→Prop}{st:St}(b j i ver sz:Nat)(xs:List Dat)(cs:List Av)(hb:get st.hp b=some (.box cs))(hj:cs[j]? =some (.ms i ver))(hi:get st.hp i=some (.row ver sz xs)):
  Wk D st ⟨st.tm,put st.hp b (.box (cs.set j (.sub i ver 0 xs.length)))⟩:=by
 refine Wk.JFH fun β A w a hc htr=>?_
 have hst:=Stp.JKQ (cs':=cs.set j (.sub i ver 0 xs.length)) hc hb sP (fun n c c' u h1 h2 hv=>by
  rcases JGw hj h1 h2 with⟨_,rfl,rfl⟩|rfl
  ·exact hv.JGR hi
  ·exact hv)
 have e:get (put st.hp b (.box (cs.set j (.sub i ver 0 xs.length))))=upd (get st.hp) b (some (.box (cs.set j (.sub i ver 0 xs.length)))):=by
  funext m;rw[UF];unfold upd;split<;>rfl
 refine⟨β,A,?_,?_⟩
 ·rw[e];exact hst
 ·rw[e];intro t v hv;obtain⟨u,q1,q2⟩:=htr t v hv;exact⟨u,q1,hst.vals _ _ q2⟩
theorem JC.frzBox{P:Program}{f:Cee}{args:List Av}{v:Av}{ups:List (Nat×Obj)}{T:List (Nat×Option Obj)}{i k sz j ver:Nat}{cs:List Av}{xs:List Dat}
  (h:JC P f args ((i,some (.box (cs.set j (.d (.list sz xs)))))::T) v ups)(hT:∀e∈T,e.1≠i∧e.1≠k)(hik:i≠k)(hj:cs[j]? =some (.ms k ver))
  (hui:(get ups i).isSome=true):JC P f args ((i,some (.box cs))::(k,some (.row ver sz xs))::T) v ((k,.frz ver sz xs)::ups):=by
 intro β A w H vs hT' hc hvs;have hi:H i=some (.box cs):=hT' (i,some (.box cs)) Vh;have hk:H k=some (.row ver sz xs):=hT' (k,_) (Vn _ Vh);obtain⟨A1,hst1,hm⟩:∃A1,Stp β A w H β A1 w (upd H k (some (.frz ver sz xs)))∧∀n,A n→A1 n:=⟨_,Stp.freeze hc hk,fun _ h=>.inl h⟩;have hi1:upd H k (some (.frz ver sz xs)) i=some (.box cs):=by rw[JN _ _ hik];exact hi
 have hst2:=Stp.JKQ (cs':=cs.set j (.d (.list sz xs))) hst1.core hi1 sP (fun n c c' u h1 h2 hv=>by
  rcases JGw hj h1 h2 with⟨_,rfl,rfl⟩|rfl
  ·cases hv with
   |ms _ _ _ hu h0 h1 h2=>exact .d _ _ (h2 sz xs (JB _ _ _))
  ·exact hv)
 have hst:=hst1.trans hst2;have hput:JA (upd (upd H k (some (.frz ver sz xs))) i (some (.box (cs.set j (.d (.list sz xs)))))) ups=JA H ((k,.frz ver sz xs)::ups):=by
  funext m;simp only[JA];by_cases hm:(get ups m).isSome=true
  ·exact Zp ups _ _ m hm
  ·have hmi:m≠i:=fun e=>hm (e▸hui)
   rw[XC ups _ m hm,XC ups _ m hm,JN _ _ hmi]
 have:=h β A1 w _ vs (fun e he=>?_) hst.core ⟨hvs.1,fun n c u h1 h2=>hst.vals c u (hvs.2 n c u h1 h2)⟩
 ·rw[hput]at this;cases f with
  |fn g=>
   rcases this with⟨a1,a2⟩|⟨u,w',a1,β',A',a2,a3⟩
   ·refine .inl ⟨a1,a2.mono ?_⟩;rintro e w' ⟨u,rfl,β',A',b1,b2⟩;exact⟨u,rfl,β',A',hst.trans b1,b2⟩
   ·exact .inr ⟨u,w',a1,β',A',hst.trans a2,a3⟩
  |yld=>
   obtain⟨l,rest,a1,fn,tmps,asg,body,a2,a3⟩:=this;refine⟨l,rest,a1,fn,tmps,asg,body,a2,a3.mono ?_⟩;rintro e w' ⟨u,rfl,β',A',b1,b2⟩;exact⟨u,rfl,β',A',hst.trans b1,b2⟩
 ·simp only[VA]at he;rcases he with rfl|he
  ·exact JB _ _ _
  ·obtain⟨q1,q2⟩:=hT e he;rw[JN _ _ q1,JN _ _ q2];exact hT' e (Vn _ (Vn _ he))
end Av
namespace Go.Proofs
open Go Av
variable {d:Nat}
theorem con38(v:Nat)(a:Dat)(r:List Dat)(ha:a.canon=a)(hr:JK r=r)(hl:r.length<68719476736)(h1:∀x∈a::r,x.cells.length=1):
  KT 38 [.ms 1000 v] [(1000,.row v 1 (a::r))] (.d (.list 1 (a::r))) []:=by
 refine JOF.con (k:=some false) (Nat.le_of_ble_eq_true rfl) (UK (by simp[Je,J8])) trivial ?_;simp only[go_sem,JTH,Nat.reduceAdd,Nat.reduceEqDiff,Nat.reduceBEq,Nat.reduceLeDiff,reduceCtorEq,↓reduceIte];exact⟨sP,⟨dC,oM,fun y hy=>h1 y hy⟩,by rw[ha,hr]⟩
theorem call38(i v:Nat)(a:Int)(p:List Int)(hl:p.length<68719476736):CT (.fn 38) [.ms i v] [(i,some (.row v 1 (.int .i64 a::p.map (.int .i64))))] (.d (.list 1 (.int .i64 a::p.map (.int .i64)))) []:=by
 have h:=con38 v (.int .i64 a) (p.map (.int .i64)) (by simp[Dat.canon]) (Xc p) (sX hl) (fun x hx=>by
  rcases VA.1 hx with rfl|hx
  ·rfl
  ·obtain⟨n,_,rfl⟩:=VC.1 hx;rfl)
 have:=h.call (fun _=>i) (fun j hj=>by simp only[Av.get]at hj;split at hj;omega;cases hj) (fun a b ha hb _=>by
   simp only[JA,Av.get]at ha hb;split at ha
   ·split at hb
    ·omega
    ·cases hb
   ·cases ha) (by intro c hc;simp only[List.mem_singleton]at hc;subst hc;simp[JV,Av.get]) (UK (by simp[Je,J8])) [] sP (Jf (by simp[UH,put,Je,J8])) trivial
 simp[Av.ren,Obj.ren]at this;exact this
theorem con126(v w:Nat)(r a:Int)(p:List Int)(s:Ste)(outs:List Wlk)(hl:p.length<68719476736)(hw:outs.length<68719476736):
  KT 126 [.ms 1006 v,.d (.ptr (JL s).cells),.ref 1004 0,.ref 1005 0] [(1004,.box [.ms 1007 w]),(1005,.box [.d (.int .i64 r)]),(1006,.row v 1 (.int .i64 a::p.map (.int .i64))),(1007,.row w 13 (outs.map Uc))] (.tup [])
   [(1004,.box [.ms 1007 (w+1)]),(1007,.row (w+1) 13 ((outs++[Wlk.mk r (a::p) s]).map Uc))]:=by
 refine ok126.con (k:=some false) (Nat.le_of_ble_eq_true rfl) (Jf (by simp[UH,put,Je,J8,JR,JV,Av.get])) trivial ?_;have h1:=call38 1006 v a p hl;have h2:=(p71 s).call trivial;rw[JE]at h2⊢;simp only[go_sem,ir126,simprocAttr];refine JP rfl h1 ⟨rfl,trivial⟩ ?_;refine zz ?_;refine JP rfl h2 trivial ?_;simp only[go_sem,Vw,Uc,simprocAttr];exact⟨sP,sO,rfl⟩
abbrev PO:=Nat×List Int×List Wlk
mutual
def JIO(r:Int):Ste→Int→Nat→PO→PO
 |.mk n k u t l x c e ru a b,i,d,s=>JAO r b 0 (d+1) (s.1+1,s.2.1.take d++[i],s.2.2++[Wlk.mk r (s.2.1.take d++[i]) (.mk n k u t l x c e ru a b)])
def XF(r:Int):List Ste→Int→Nat→PO→PO
 |[],_,_,s=>s
 |x::y,i,d,s=>XF r y (i+1) d (JIO r x i d s)
def JIP(r:Int):Brn→Int→Nat→PO→PO
 |.mk w l,b,d,s=>XF r l 0 (d+1) (s.1+1,s.2.1.take d++[b],s.2.2)
def JAO(r:Int):List Brn→Int→Nat→PO→PO
 |[],_,_,s=>s
 |x::y,i,d,s=>JAO r y (i+1) d (JIP r x i d s)
end
theorem JTI(r:Int)(x:Ste)(i:Int)(d:Nat)(s:PO):JIO r x i d s=JAO r x.branches 0 (d+1) (s.1+1,s.2.1.take d++[i],s.2.2++[Wlk.mk r (s.2.1.take d++[i]) x]):=by
 cases x;simp only[JIO,Ste.branches]
theorem JTJ(r:Int)(x:Brn)(i:Int)(d:Nat)(s:PO):JIP r x i d s=XF r x.steps 0 (d+1) (s.1+1,s.2.1.take d++[i],s.2.2):=by
 cases x;simp only[JIP,Brn.steps]
def Yr(d:Nat)(s t:PO):Prop:=d≤t.2.1.length∧t.2.1.take d=s.2.1.take d
theorem Yr.refl{s:PO}(h:d≤s.2.1.length):Yr d s s:=⟨h,rfl⟩
theorem Yr.trans{s t u:PO}(h1:Yr d s t)(h2:Yr d t u):Yr d s u:=⟨h2.1,h2.2.trans h1.2⟩
theorem Yr.less{s t:PO}{i:Int}{v:Nat}{o:List Wlk}(hd:d≤s.2.1.length)(h:Yr (d+1) (v,s.2.1.take d++[i],o) t):Yr d s t:=by
 obtain⟨h1,h2⟩:=h;refine⟨oM,?_⟩;have h3:=congrArg (List.take d) h2;rw[List.take_take,List.take_take]at h3;have e:min d (d+1)=d:=oM;rw[e]at h3;simp only[]at h3;rw[h3,List.take_append_of_le_length sO,List.take_take,Nat.min_self]
mutual
theorem JF5(r:Int):∀(x:Ste) (i:Int) (d:Nat) (s:PO),d≤s.2.1.length→Yr d s (JIO r x i d s)
 |.mk n k u t l x c e ru a b,i,d,s,h=>by
  rw[JIO];exact Yr.less h (JEj r b 0 (d+1) _ sO)
theorem JBZ(r:Int):∀(x:List Ste) (i:Int) (d:Nat) (s:PO),d≤s.2.1.length→Yr d s (XF r x i d s)
 |[],_,_,s,h=>.refl h
 |x::y,i,d,s,h=>(JF5 r x i d s h).trans (JBZ r y (i+1) d _ (JF5 r x i d s h).1)
theorem JF6(r:Int):∀(x:Brn) (i:Int) (d:Nat) (s:PO),d≤s.2.1.length→Yr d s (JIP r x i d s)
 |.mk w l,i,d,s,h=>by
  rw[JIP];exact Yr.less h (JBZ r l 0 (d+1) _ sO)
theorem JEj(r:Int):∀(x:List Brn) (i:Int) (d:Nat) (s:PO),d≤s.2.1.length→Yr d s (JAO r x i d s)
 |[],_,_,s,h=>.refl h
 |x::y,i,d,s,h=>(JF6 r x i d s h).trans (JEj r y (i+1) d _ (JF6 r x i d s h).1)
end
mutual
theorem JOG(r:Int):∀(x:Ste) (i:Int) (d:Nat) (s:PO),(JIO r x i d s).2.2.length≤s.2.2.length+szS x
 |.mk n k u t l x c e ru a b,i,d,s=>by
  rw[JIO,szS];have:=JF7 r b 0 (d+1) (s.1+1,s.2.1.take d++[i],s.2.2++[Wlk.mk r (s.2.1.take d++[i]) (.mk n k u t l x c e ru a b)]);simp only[Vg,Vf,Vm]at this;omega
theorem JAo(r:Int):∀(x:List Ste) (i:Int) (d:Nat) (s:PO),(XF r x i d s).2.2.length≤s.2.2.length+XN x
 |[],_,_,s=>by simp[XF]
 |x::y,i,d,s=>by
  rw[XF,XN];have h1:=JOG r x i d s;have h2:=JAo r y (i+1) d (JIO r x i d s);omega
theorem JOH(r:Int):∀(x:Brn) (i:Int) (d:Nat) (s:PO),(JIP r x i d s).2.2.length≤s.2.2.length+szB x
 |.mk w l,i,d,s=>by
  rw[JIP,szB];have:=JAo r l 0 (d+1) (s.1+1,s.2.1.take d++[i],s.2.2);simp only[]at this;omega
theorem JF7(r:Int):∀(x:List Brn) (i:Int) (d:Nat) (s:PO),(JAO r x i d s).2.2.length≤s.2.2.length+Zn x
 |[],_,_,s=>by simp[JAO]
 |x::y,i,d,s=>by
  rw[JAO,Zn];have h1:=JOH r x i d s;have h2:=JF7 r y (i+1) d (JIP r x i d s);omega
end
abbrev TV8(r:Int)(c:Av)(v:Nat)(xs:List Int)(o:List Wlk):List (Nat×Av.Obj):=[(1001,.box [c]),(1002,.box [.clo (.func 126) [] [.ref 1004 0,.ref 1005 0]]),(1003,.box [.clo (.func 220) [] [.ref 1001 0,.ref 1002 0,.ref 1003 0]]),
 (1004,.box [.ms 1007 o.length]),(1005,.box [.d (.int .i64 r)]),(1006,.row v 1 (xs.map (.int .i64))),(1007,.row o.length 13 (o.map Uc))]
end Go.Proofs
namespace Go.Proofs
open Go Av
theorem ZF(ds:List Dat):J3 (fun i=>i) (ds.map .d)=ds.map .d:=by
 induction ds with
 |nil=>rfl
 |cons x r ih=>simp[J3,Av.ren,ih]
theorem JGx(r:Int)(v v':Nat)(xs xs':List Int)(o o':List Wlk)(c:Av)(n:Nat)(hc:c=.ms 1006 n∨∃k,c=.sub 1006 n 0 k):closed (JA (get (TV8 r (.ms 1006 v) v xs o)) (TV8 r c v' xs' o')):=by
 refine Jf ?_;rcases hc with rfl|⟨k,rfl⟩<;>simp[TV8,UH,put,Je,J8,JR,JV,Uz,Av.get]
theorem JK3{r:Int}{c:Av}{v:Nat}{xs:List Int}{o:List Wlk}{i:Nat}(h:(get (TV8 r c v xs o) i).isSome=true):1000≤i:=by
 simp only[TV8,Av.get]at h
 repeat' split at h
 all_goals first|(cases h;done)|omega
theorem Zq(n:Nat)(h:0<n)(h2:n<9000000000000000000):IntKind.i64.wrap ((n:Int)-1)=((n-1:Nat):Int):=by
 rw[wrap64 oM oM];omega
theorem call126(v:Nat)(r:Int)(xs:List Int)(hx:0<xs.length)(s:Ste)(o:List Wlk)(c:Av)(hl:xs.length<68719476736)(hw:o.length<68719476736):
  CT (.fn 126) [.ms 1006 v,.d (.ptr (JL s).cells),.ref 1004 0,.ref 1005 0] [(1004,some (.box [.ms 1007 o.length])),(1005,some (.box [.d (.int .i64 r)])),(1006,some (.row v 1 (xs.map (.int .i64)))),(1007,some (.row o.length 13 (o.map Uc)))] (.tup [])
   [(1004,.box [.ms 1007 (o.length+1)]),(1007,.row (o.length+1) 13 ((o++[Wlk.mk r xs s]).map Uc))]:=by
 match xs,hx with
 |a::p,_=>
  have:=(con126 v o.length r a p s o (by simp at hl;omega) hw).call (fun i=>i) (fun i hi=>by
   simp only[Av.get]at hi
   repeat' split at hi
   all_goals first|(cases hi;done)|omega) (fun i j _ _ h=>h) (by simp[JV,Av.get]) (UK (by simp[Je,J8,JR,JV,Av.get])) [] (by simp[Av.get]) (Jf (by simp[UH,put,Je,J8,JR,JV,Av.get])) trivial
  simp only[Va,Vb,Obj.ren,Av.ren,J3,ZF,List.append_nil]at this⊢;exact this
def JIQ(r:Int)(l:List Ste):Prop:=∀(v:Nat) (xs:List Int) (o:List Wlk),xs.length+2*XN l≤10000000000→o.length+XN l≤10000000000→
 KT 220 [.d (.list 11 (l.map JL)),.ref 1001 0,.ref 1002 0,.ref 1003 0] (TV8 r (.ms 1006 v) v xs o) (.tup [])
  (TV8 r (.sub 1006 (XF r l 0 xs.length (v,xs,o)).1 0 xs.length) (XF r l 0 xs.length (v,xs,o)).1 (XF r l 0 xs.length (v,xs,o)).2.1 (XF r l 0 xs.length (v,xs,o)).2.2)
theorem call220{r:Int}{l:List Ste}(h:JIQ r l)(v:Nat)(xs:List Int)(o:List Wlk)(h1:xs.length+2*XN l≤10000000000)(h2:o.length+XN l≤10000000000):
  CT (.fn 220) [.d (.list 11 (l.map JL)),.ref 1001 0,.ref 1002 0,.ref 1003 0] ((TV8 r (.ms 1006 v) v xs o).map fun x=>(x.1,some x.2)) (.tup [])
  (TV8 r (.sub 1006 (XF r l 0 xs.length (v,xs,o)).1 0 xs.length) (XF r l 0 xs.length (v,xs,o)).1 (XF r l 0 xs.length (v,xs,o)).2.1 (XF r l 0 xs.length (v,xs,o)).2.2):=by
 have:=(h v xs o h1 h2).call (fun i=>i) (fun i hi=>JK3 hi) (fun i j _ _ h=>h) (by simp[JV,Av.get]) (UK (by simp[Je,J8,JR,JV,Uz,Av.get])) [] (by simp[Av.get]) (JGx r v _ xs _ o _ _ _ (.inr ⟨_,rfl⟩)) trivial;simp only[TV8,Va,Vb,Obj.ren,Av.ren,J3,ZF,List.append_nil]at this⊢;exact this
set_option maxHeartbeats 2000000 in
theorem JK4(r:Int)(l:List Ste)(h:∀x∈l,∀b∈x.branches,JIQ r b.steps):JIQ r l:=by
 intro v xs o hx ho;refine Con.Ja ok220.has fun hfit=>?_
 have hl:l.length≤68719476736:=by have:=(hfit (.list 11 (l.map JL)) sP).1;simpa using this
 have hfs:∀x∈l,x.branches.length≤68719476736:=by
  intro x hxm;have:=UC.1 (hfit (.list 11 (l.map JL)) sP).2 _ (VC.2 ⟨x,hxm,rfl⟩);rw[JE]at this;simp only[fits,Ue,Vc]at this;omega
 clear hfit;generalize hR:XF r l 0 xs.length (v,xs,o)=R;refine ok220.con (k:=some false) (Nat.le_of_ble_eq_true rfl) (JGx r v _ xs _ o _ _ _ (.inr ⟨_,rfl⟩)) trivial ?_;generalize hd:xs.length=d at*;simp only[TV8,go_sem,ir220,Vc,Nat.reduceAdd,Nat.reduceEqDiff,Nat.reduceBEq,Nat.reduceLeDiff,reduceCtorEq,↓reduceIte];refine JH (fun n st=>∃(k:Nat) (S:PO),k≤l.length∧n=l.length-k∧XF r (l.drop k) k d S=R∧d≤S.2.1.length∧S.2.2.length+XN (l.drop k)≤10000000000∧
  st=⟨[(0,.d (.list 11 (l.map JL))),(1,.ref 1001 0),(2,.ref 1002 0),(3,.ref 1003 0),(8,.d (.int .i64 l.length)),(9,.d (.int .i64 k))],TV8 r (.sub 1006 S.1 0 d) S.1 S.2.1 S.2.2⟩) ?_ ?_
 ·refine⟨_,_,(Wk.subB 1001 0 1006 v 1 (xs.map (.int .i64)) [.ms 1006 v] rfl rfl rfl).trans (Wk.less ?_),0,(v,xs,o),Nat.zero_le _,rfl,by simpa using hR,by simp[hd],by simpa using ho,rfl⟩;simp[go_sem,TV8,hd]
 ·rintro n st ⟨k,S,hk,rfl,hinv,hS,hb,rfl⟩;by_cases hlt:k<l.length
  ·have hn:=JAl hlt;have hdk:decide ((k:Int)<(l.length:Int))=true:=sO;have hbr:=hfs _ (Vk hlt);have hV:=h _ (Vk hlt);rw[Vq hlt,XN,JJp]at hb;rw[Vq hlt,XF,JTI]at hinv;have hszd:szS l[k]≤XN l:=JEb (Vk hlt);rw[JJp]at hszd;have hdl:d+2*Zn l[k].branches+2≤10000000000:=oM;generalize hX:l[k]=x at*;have hc:=call126 (S.1+1) r (S.2.1.take d++[(k:Int)]) sP x S.2.2 (.any) sO oM;rw[JE]at hc;simp only[Vw,List.map_take,Va,Vb]at hc;simp only[TV8,go_sem,hn,hdk,Vv,Vc,Nat.reduceAdd,Nat.reduceEqDiff,Nat.reduceBEq,Nat.reduceLeDiff,reduceCtorEq,↓reduceIte];refine⟨sP,⟨oM,oM⟩,⟨oM,oM⟩,JI rfl hc ⟨rfl,rfl,rfl,rfl,trivial⟩ ?_⟩;simp only[go_sem,hn,Vv,Vc,Nat.reduceAdd,Nat.reduceEqDiff,Nat.reduceBEq,Nat.reduceLeDiff,reduceCtorEq,↓reduceIte];refine⟨oM,dC,?_⟩;clear hc;generalize hbs:x.branches=bs at*;generalize hRB:JAO r bs 0 (d+1) _=RB at hinv;refine JH (fun n st=>∃(b:Nat) (T:PO),b≤bs.length∧n=bs.length-b∧JAO r (bs.drop b) b (d+1) T=RB∧d+1≤T.2.1.length∧T.2.2.length+Zn (bs.drop b)+XN (l.drop (k+1))≤10000000000∧
    st=⟨[(0,.d (.list 11 (l.map JL))),(1,.ref 1001 0),(2,.ref 1002 0),(3,.ref 1003 0),(8,.d (.int .i64 l.length)),(9,.d (.int .i64 k)),(5,.d (.int .i64 k)),(27,.d (.int .i64 bs.length)),(28,.d (.int .i64 b))],TV8 r (.sub 1006 T.1 0 (d+1)) T.1 T.2.1 T.2.2⟩) ?_ ?_
   ·refine⟨_,_,(Wk.subB 1001 0 1006 (S.1+1) 1 _ [.ms 1006 (S.1+1)] rfl rfl rfl).trans (Wk.less ?_),0,(S.1+1,S.2.1.take d++[(k:Int)],S.2.2++[Wlk.mk r (S.2.1.take d++[(k:Int)]) x]),Nat.zero_le _,rfl,by simpa using hRB,sO,sO,rfl⟩;simp[go_sem,TV8];omega
   ·rintro n st ⟨b,T,hbk,rfl,hinv2,hT,hb2,rfl⟩;by_cases hbl:b<bs.length
    ·have hbn:=JEW hbl;have hdb:decide ((b:Int)<(bs.length:Int))=true:=sO;have hVb:=hV _ (Vk hbl);have hszb:szB bs[b]≤Zn bs:=JEc (Vk hbl);rw[Vq hbl,Zn,JJq]at hb2;rw[Vq hbl,JAO,JTJ]at hinv2;rw[JJq]at hszb;generalize bs[b]=br at*;have hlen:(T.2.1.take (d+1)++[(b:Int)]).length=d+1+1:=sO;have hc2:=call220 hVb (T.1+1) (T.2.1.take (d+1)++[(b:Int)]) T.2.2 (by rw[hlen];omega) oM;rw[hlen]at hc2;have hU1:=JAo r br.steps 0 (d+1+1) (T.1+1,T.2.1.take (d+1)++[(b:Int)],T.2.2);have hU2:=(JBZ r br.steps 0 (d+1+1) (T.1+1,T.2.1.take (d+1)++[(b:Int)],T.2.2) (by show _≤List.length _;rw[hlen];omega)).1;generalize hU:XF r br.steps 0 (d+1+1) (T.1+1,T.2.1.take (d+1)++[(b:Int)],T.2.2)=U at*;simp only[TV8,Vw,List.map_take,Va,Vb]at hc2;simp only[TV8,go_sem,hn,hbn,hdb,hbs,Vv,Vc,Nat.reduceAdd,Nat.reduceEqDiff,Nat.reduceBEq,Nat.reduceLeDiff,reduceCtorEq,↓reduceIte];refine⟨sP,⟨oM,oM⟩,⟨oM,oM⟩,dC,⟨oM,oM⟩,dC,JI rfl hc2 ⟨rfl,rfl,rfl,rfl,rfl,rfl,rfl,trivial⟩ ?_⟩;have e2:min (d+1+1) U.2.1.length=d+1+1:=oM;have e3:IntKind.i64.wrap (((d+1+1:Nat):Int)-1)=((d+1:Nat):Int):=Zq (d+2) oM oM;simp only[go_sem,List.length_take,Vc,List.drop_zero,e2,e3,Nat.reduceAdd,Nat.reduceEqDiff,Nat.reduceBEq,Nat.reduceLeDiff,reduceCtorEq,↓reduceIte];have e4:(((d+1:Nat):Int)-0).toNat=d+1:=oM;have e5:Int.toNat 0=0:=rfl;refine⟨⟨oM,oM,oM⟩,bs.length-(b+1),_,oM,Wk.less ?_,b+1,U,oM,rfl,by simpa using hinv2,oM,by simp only at hU1;omega,rfl⟩;simp only[go_sem,e4,e5,Jg b oM,Nat.reduceAdd,Nat.reduceEqDiff,Nat.reduceBEq,Nat.reduceLeDiff,reduceCtorEq,↓reduceIte]
    ·have hdb:decide ((b:Int)<(bs.length:Int))=false:=sO;obtain rfl:b=bs.length:=oM;rw[List.drop_length,JAO]at hinv2;subst hinv2;rw[List.drop_length,Zn]at hb2;have e2:min (d+1) T.2.1.length=d+1:=oM;have e3:IntKind.i64.wrap (((d+1:Nat):Int)-1)=((d:Nat):Int):=Zq (d+1) oM oM;have e4:((d:Int)-0).toNat=d:=oM;have e5:Int.toNat 0=0:=rfl;simp only[TV8,go_sem,hdb,List.length_take,Vc,List.drop_zero,e2,e3,Nat.reduceAdd,Nat.reduceEqDiff,Nat.reduceBEq,Nat.reduceLeDiff,reduceCtorEq,↓reduceIte];refine⟨⟨oM,oM,oM⟩,l.length-(k+1),_,oM,Wk.less ?_,k+1,T,oM,rfl,by simpa using hinv,oM,oM,rfl⟩;simp only[go_sem,TV8,e4,e5,Jg k oM,Nat.reduceAdd,Nat.reduceEqDiff,Nat.reduceBEq,Nat.reduceLeDiff,reduceCtorEq,↓reduceIte]
  ·have hdk:decide ((k:Int)<(l.length:Int))=false:=sO;obtain rfl:k=l.length:=oM;rw[List.drop_length,XF]at hinv;subst hinv;simp only[TV8,go_sem,hdk,Nat.reduceAdd,Nat.reduceEqDiff,Nat.reduceBEq,Nat.reduceLeDiff,reduceCtorEq,↓reduceIte]
mutual
theorem JOI(r:Int):∀(l:List Ste),∀x∈l,∀b∈x.branches,JIQ r b.steps
 |[],x,h,_,_=>by cases h
 |v::q,x,h,b,hb=>by
  by_cases e:x=v
  ·rw[e]at hb;exact v340S r v b hb
  ·exact JOI r q x ((VA.1 h).resolve_left e) b hb
theorem v340S(r:Int):∀(x:Ste),∀b∈x.branches,JIQ r b.steps
 |.mk n k u t l x c e ru a bs=>JOJ r bs
theorem JOJ(r:Int):∀(l:List Brn),∀b∈l,JIQ r b.steps
 |[],b,h=>by cases h
 |v::q,b,h=>by
  by_cases e:b=v
  ·rw[e];exact v340B r v
  ·exact JOJ r q b ((VA.1 h).resolve_left e)
theorem v340B(r:Int):∀(b:Brn),JIQ r b.steps
 |.mk w s=>JK4 r s (JOI r s)
end
theorem w340(r:Int)(l:List Ste):JIQ r l:=JK4 r l (JOI r l)
theorem JC.JSI{P:Program}{f:Cee}{args:List Av}{T T':List (Nat×Option Av.Obj)}{v:Av}{ups:List (Nat×Av.Obj)}(h:JC P f args T v ups)(hs:∀e∈T,e∈T'):JC P f args T' v ups:=
 fun β A w H vs hT hc hv=>h β A w H vs (fun e he=>hT e (hs e he)) hc hv
def wk1(r:Int)(l:List Ste):List Wlk:=(XF r l 0 0 (0,[],[])).2.2
abbrev JTK(i:Nat):Nat:=if i=1001 then 4 else if i=1002 then 3 else if i=1003 then 5 else if i=1006 then 6 else i
theorem JIR{r:Int}{c:Av}{v:Nat}{xs:List Int}{o:List Wlk}{c':Av}{v':Nat}{xs':List Int}{o':List Wlk}{i:Nat}(h:(JA (get (TV8 r c v xs o)) (TV8 r c' v' xs' o') i).isSome=true):i=1001∨i=1002∨i=1003∨i=1004∨i=1005∨i=1006∨i=1007:=by
 refine Decidable.byContradiction fun hn=>?_
 simp only[not_or]at hn;obtain⟨a1,a2,a3,a4,a5,a6,a7⟩:=hn;simp[TV8,JA,upd,Av.get,a1,a2,a3,a4,a5,a6,a7,Ne.symm a1,Ne.symm a2,Ne.symm a3,Ne.symm a4,Ne.symm a5,Ne.symm a6,Ne.symm a7]at h
theorem JOK{i j:Nat}(hi:i=1001∨i=1002∨i=1003∨i=1004∨i=1005∨i=1006∨i=1007)(hj:j=1001∨j=1002∨j=1003∨j=1004∨j=1005∨j=1006∨j=1007)(h:JTK i=JTK j):i=j:=by
 rcases hi with rfl|rfl|rfl|rfl|rfl|rfl|rfl<;>rcases hj with rfl|rfl|rfl|rfl|rfl|rfl|rfl<;>first|rfl|(revert h;decide)
theorem JOL(r:Int)(l:List Ste)(hl:XN l≤1000000000):
  ∃(v:Nat) (xs:List Int),CT (.fn 220) [.d (.list 11 (l.map JL)),.ref 4 0,.ref 3 0,.ref 5 0]
   [(4,some (.box [.d (.nil 1)])),(6,none),(3,some (.box [.clo (.func 126) [] [.ref 1004 0,.ref 1005 0]])),(5,some (.box [.clo (.func 220) [] [.ref 4 0,.ref 3 0,.ref 5 0]])),(1004,some (.box [.ms 1007 0])),(1005,some (.box [.d (.int .i64 r)])),(1007,some (.row 0 13 []))] (.tup [])
   [(4,.box [.sub 6 v 0 0]),(3,.box [.clo (.func 126) [] [.ref 1004 0,.ref 1005 0]]),(5,.box [.clo (.func 220) [] [.ref 4 0,.ref 3 0,.ref 5 0]]),(1004,.box [.ms 1007 (wk1 r l).length]),(1005,.box [.d (.int .i64 r)]),(6,.row v 1 (xs.map (.int .i64))),(1007,.row (wk1 r l).length 13 ((wk1 r l).map Uc))]:=by
 have hw:=w340 r l 0 [] [] sO sO;simp only[Vm]at hw;unfold wk1;generalize XF r l 0 0 (0,[],[])=R at hw⊢;refine⟨R.1,R.2.1,?_⟩;have h:=hw.call JTK (fun i hi=>JK3 hi) (fun i j hi hj=>JOK (JIR hi) (JIR hj)) (by simp[JV,Av.get]) (UK (by simp[Je,J8,JR,JV,Uz,Av.get])) [] (by simp[Av.get]) (JGx r 0 _ [] _ [] _ _ _ (.inr ⟨_,rfl⟩)) trivial;simp only[TV8,Va,Vb,Vm,Obj.ren,Av.ren,J3,JTK,ZF,List.append_nil,Nat.reduceEqDiff,↓reduceIte]at h;refine JC.JSI (JC.JKP (j:=0) (JC.JSI h ?_) ?_ dC rfl dC rfl rfl) (fun e he=>he)
 ·simp
 ·simp
abbrev TU(r:Int)(o:List Wlk):List (Nat×Av.Obj):=[(1004,.box [.ms 1007 o.length]),(1005,.box [.d (.int .i64 r)]),(1007,.row o.length 13 (o.map Uc))]
theorem con125(r:Int)(l:List Ste)(hl:XN l≤1000000000):
  KT 125 [.d (.list 11 (l.map JL)),.clo (.func 126) [] [.ref 1004 0,.ref 1005 0]] (TU r []) (.tup []) (TU r (wk1 r l)):=by
 refine ok125.con (k:=some false) (Nat.le_of_ble_eq_true rfl) (Jf (by simp[TU,UH,put,Je,J8,JR,JV,Av.get])) trivial ?_;obtain⟨v,xs,hc⟩:=JOL r l hl;simp only[TU,go_sem,ir125,simprocAttr];refine JI rfl hc ⟨rfl,rfl,rfl,rfl,rfl,rfl,rfl,trivial⟩ ?_;exact zz trivial
theorem call125(r:Int)(l:List Ste)(hl:XN l≤1000000000):
  CT (.fn 125) [.d (.list 11 (l.map JL)),.clo (.func 126) [] [.ref 5 0,.ref 3 0]] [(5,some (.box [.d (.nil 13)])),(7,none),(3,some (.box [.d (.int .i64 r)]))] (.tup [])
   [(5,.box [.ms 7 (wk1 r l).length]),(3,.box [.d (.int .i64 r)]),(7,.row (wk1 r l).length 13 ((wk1 r l).map Uc))]:=by
 have hd:∀o i,(JA (get (TU r [])) (TU r o) i).isSome=true→i=1004∨i=1005∨i=1007:=by
  intro o i h;refine Decidable.byContradiction fun hn=>?_
  simp only[not_or]at hn;obtain⟨a1,a2,a3⟩:=hn;simp[TU,JA,upd,Av.get,a1,a2,a3,Ne.symm a1,Ne.symm a2,Ne.symm a3]at h
 have h:=(con125 r l hl).call (fun i=>if i=1004 then 5 else if i=1005 then 3 else if i=1007 then 7 else i) (fun i hi=>by
   simp only[TU,Av.get]at hi
   repeat' split at hi
   all_goals first|(cases hi;done)|omega) (fun i j hi hj h=>by
   rcases hd _ i hi with rfl|rfl|rfl<;>rcases hd _ j hj with rfl|rfl|rfl<;>first|rfl|(revert h;decide)) (by simp[JV,JR,Av.get]) (UK (by simp[Je,J8,JR,JV,Uz,Av.get])) [] (by simp[Av.get])
   (Jf (by simp[TU,UH,put,Je,J8,JR,JV,Av.get])) trivial
 simp only[TU,Va,Vb,Vm,Obj.ren,Av.ren,J3,ZF,List.append_nil,Nat.reduceEqDiff,↓reduceIte]at h;refine JC.JKP (j:=0) (JC.JSI h ?_) ?_ dC rfl dC rfl rfl
 ·simp
 ·simp
theorem walk75(p:Prg)(r:Nat)(hr:r<p.routes.length)(hl:XN p.routes[r].steps≤1000000000):Jz Tryz.prog 75 [Jb p,.int .i64 r] (.d (.list 13 ((wk1 r p.routes[r].steps).map Uc))):=by
  refine ok75.pcon (Nat.le_of_ble_eq_true rfl) trivial ?_
  have hc:=call125 r p.routes[r].steps hl
  have hx:=J0 U8 hr
  simp only[U8]at hx
  generalize wk1 (r:Int) p.routes[r].steps=o at*
  simp only[go_sem,ir75,Jb,hx,Vv,Vc,Nat.reduceAdd,Nat.reduceEqDiff,Nat.reduceBEq,Nat.reduceLeDiff,reduceCtorEq,↓reduceIte]
  refine⟨⟨by omega,by omega⟩,by decide,JI rfl hc ⟨rfl,rfl,rfl,trivial⟩ ?_⟩
  simp only[go_sem,Nat.reduceAdd,Nat.reduceEqDiff,Nat.reduceBEq,Nat.reduceLeDiff,reduceCtorEq,↓reduceIte]
def wkN(l:List Rou)(k:Nat):List Wlk:=(List.range k).flatMap fun i=>match l[i]? with|some x=>wk1 i x.steps|none=>[]
theorem JEk{l:List Rou}{k:Nat}(h:k<l.length):wkN l (k+1)=wkN l k++wk1 k l[k].steps:=by
 unfold wkN;rw[List.range_succ,List.flatMap_append];simp[Vl h]
def Ys:List Rou→Nat
 |[]=>0
 |x::r=>XN x.steps+Ys r
theorem JEl:∀{l:List Rou} {x:Rou},x∈l→XN x.steps≤Ys l
 |v::r,s,h=>by
  rcases VA.1 h with rfl|h
  ·simp only[Ys];omega
  ·have:=JEl h;simp only[Ys];omega
theorem JGy(l:List Rou):∀k:Nat,k≤l.length→(wkN l k).length≤Ys (l.take k)
 |0,_=>by simp[wkN]
 |k+1,h=>by
  rw[JEk oM,Vg,List.take_succ_eq_append_getElem oM];have h1:=JGy l k oM;have h2:(wk1 k l[k].steps).length≤XN l[k].steps:=by
   have:=JAo k l[k].steps 0 0 (0,[],[]);simpa[wk1]using this
  have h3:∀(a b:List Rou),Ys (a++b)=Ys a+Ys b:=by
   intro a b
   induction a with
   |nil=>simp[Ys]
   |cons x r ih=>simp only[List.cons_append,Ys,ih];omega
  rw[h3];simp only[Ys];omega
theorem JCl:∀(l:List Rou) (k:Nat),Ys (l.take k)≤Ys l
 |[],k=>by simp
 |x::r,0=>by simp[Ys]
 |x::r,k+1=>by
  have:=JCl r k;simp only[List.take_succ_cons,Ys];omega
theorem walk41(p:Prg)(hl:Ys p.routes≤1000000000):Jz Tryz.prog 41 [Jb p] (.d (.list 13 ((wkN p.routes p.routes.length).map Uc))):=by
  refine Jz.Ja ok41.has fun hfit=>?_
  have hn:p.routes.length≤68719476736:=by
    have:=hfit _ (Vh)
    simp only[Jb,fits,Ue,Vc]at this
    omega
  clear hfit
  refine ok41.pcon (Nat.le_of_ble_eq_true rfl) trivial ?_
  simp only[go_sem,ir41,Jb,Vc,Nat.reduceAdd,Nat.reduceEqDiff,Nat.reduceBEq,Nat.reduceLeDiff,reduceCtorEq,↓reduceIte]
  refine JH (fun n st=>∃k:Nat,k≤p.routes.length∧n=p.routes.length-k∧
    st=⟨[(1,.ref 1 0),(3,.ms 15 k),(7,.d (.int .i64 p.routes.length)),(8,.d (.int .i64 k))],
      [(1,.box [.d (.int .i64 p.version),.d (.list 9 (p.schemas.map Uk)),.d (.list 7 (p.endpoints.map UW)),.d (.list 4 (p.services.map XM)),.d (.list 3 (p.routes.map U8))]),(15,.row k 13 ((wkN p.routes k).map Uc))]⟩) ?_ ?_
  · refine⟨_,_,(Wk.JJM 3 15 13 rfl rfl (by decide)).trans (Wk.less ?_),0,Nat.zero_le _,rfl,rfl⟩
    simp[put,go_sem,wkN]
  · rintro n st ⟨k,hk,rfl,rfl⟩
    by_cases hlt:k<p.routes.length
    · have hd:decide ((k:Int)<(p.routes.length:Int))=true:=by simp;omega
      have hsz:XN p.routes[k].steps≤Ys p.routes:=JEl (Vk hlt)
      have hc:=(walk75 p k hlt (by omega)).call trivial
      have hln:=JGy p.routes (k+1) (by omega)
      have htk:=JCl p.routes (k+1)
      rw[JEk hlt,Vg]at hln
      simp only[Jb]at hc
      simp only[go_sem,hd,Nat.reduceAdd,Nat.reduceEqDiff,Nat.reduceBEq,Nat.reduceLeDiff,reduceCtorEq,↓reduceIte]
      refine JI rfl hc trivial ?_
      simp only[go_sem,Nat.reduceAdd,Nat.reduceEqDiff,Nat.reduceBEq,Nat.reduceLeDiff,reduceCtorEq,↓reduceIte]
      refine⟨by simp;omega,p.routes.length-(k+1),_,by omega,Wk.less ?_,k+1,by omega,rfl,rfl⟩
      rw[JEk hlt,Vw]
      simp only[go_sem,Jg k (by omega),Nat.reduceAdd,Nat.reduceEqDiff,Nat.reduceBEq,Nat.reduceLeDiff,reduceCtorEq,↓reduceIte]
    · have hd:decide ((k:Int)<(p.routes.length:Int))=false:=by simp;omega
      obtain rfl:k=p.routes.length:=by omega
      simp only[go_sem,hd,Nat.reduceAdd,Nat.reduceEqDiff,Nat.reduceBEq,Nat.reduceLeDiff,reduceCtorEq,↓reduceIte]
end Go.Proofs
namespace Go.Proofs
open Go Av
open Av.Y
def ir160:Ic:=q (R (ox 1 0<|ow 2 false<|N) [0,2])<|q (R (of 3 1 7<|ol 4 3<|oh 5 4<|oi 6 .eql 5 1<|om 7 6<|.sc 7 true (of 8 1 5<|ol 9 8<|cl 10 161 [t 9]<|N) (t 10) 11 (om 2 11<|N)) [1,3,4,5,6,7,11])<|.ret
theorem ok160:FT 160 12 ir160 [.tmp 2]:=.o Tryz.func160
def ir162:Ic:=q (R (ox 1 0<|ow 2 false<|N) [0,2])<|q (R (of 3 1 6<|ol 4 3<|ob 5 .sne (t 4) (.k (.str []))<|om 2 5<|N) [1,3,4,5])<|.ret
theorem ok162:FT 162 6 ir162 [.tmp 2]:=.o Tryz.func162
def ir163:Ic:=q (R (ox 1 0<|ow 2 false<|N) [0,2])<|q (R (of 3 1 5<|ol 4 3<|ob 5 .sne (t 4) (.k (.str []))<|om 6 5<|.sc 6 true (of 7 1 6<|ol 8 7<|ob 9 .sne (t 8) (.k (.str []))<|N) (t 9) 10 (om 2 10<|N)) [1,3,4,5,6,10])<|.ret
theorem ok163:FT 163 11 ir163 [.tmp 2]:=.o Tryz.func163
def ir164:Ic:=q (R (ox 1 0<|ow 2 false<|N) [0,2])<|q (R (of 3 1 7<|ol 4 3<|oh 5 4<|cl 6 148 [t 5,i 1,i 2]<|om 7 6<|.sc 7 true (of 8 1 2<|ol 9 8<|cl 10 148 [t 9,i 0,i 256]<|N) (t 10) 11 (om 12 11<|.sc 12 true (of 13 1 6<|ol 14 13<|ob 15 .sne (t 14) (.k (.str []))<|N) (t 15) 16 (om 17 16<|.sc 17 true (oL 18 11 1<|cl 19 165 [t 18]<|N) (t 19) 20 (om 2 20<|N)))) [1,3,4,5,6,7,11,12,16,17,20])<|.ret
theorem ok164:FT 164 21 ir164 [.tmp 2]:=.o Tryz.func164
def ir166:Ic:=q (R (ox 1 0<|ow 2 false<|N) [0,2])<|q (R (of 3 1 7<|ol 4 3<|oh 5 4<|oi 6 .eql 5 2<|om 7 6<|.sc 7 true (oL 8 11 1<|cl 9 165 [t 8]<|N) (t 9) 10 (om 2 10<|N)) [1,3,4,5,6,7,10])<|.ret
theorem ok166:FT 166 11 ir166 [.tmp 2]:=.o Tryz.func166
def ir167:Ic:=q (R (ox 1 0<|ow 2 false<|N) [0,2])<|q (R (of 3 1 7<|ol 4 3<|oh 5 4<|oi 6 .eql 5 1<|om 7 6<|.sc 7 true (of 8 1 2<|ol 9 8<|cl 10 148 [t 9,i 1,i 256]<|N) (t 10) 11 (om 2 11<|N)) [1,3,4,5,6,7,11])<|.ret
theorem ok167:FT 167 12 ir167 [.tmp 2]:=.o Tryz.func167
def ir168:Ic:=q (R (ox 1 0<|ow 2 false<|N) [0,2])<|q (R (of 3 1 2<|ol 4 3<|cl 5 148 [t 4,i 1,i 256]<|om 6 5<|.sc 6 true (of 7 1 3<|ol 8 7<|oi 9 .geq 8 1<|N) (t 9) 10 (om 11 10<|.sc 11 true (oL 12 11 1<|cl 13 165 [t 12]<|N) (t 13) 14 (om 2 14<|N))) [1,3,4,5,6,10,11,14])<|.ret
theorem ok168:FT 168 15 ir168 [.tmp 2]:=.o Tryz.func168
def ir169:Ic:=q (R (ox 1 0<|ow 2 false<|N) [0,2])<|q (R (of 3 1 3<|ol 4 3<|oi 5 .geq 4 1<|om 6 5<|.sc 6 true (oL 7 11 1<|cl 8 165 [t 7]<|N) (t 8) 9 (om 2 9<|N)) [1,3,4,5,6,9])<|.ret
theorem ok169:FT 169 10 ir169 [.tmp 2]:=.o Tryz.func169
def ir170:Ic:=q (R (ox 1 0<|ow 2 false<|N) [0,2])<|q (R (oL 3 11 1<|cl 4 171 [t 3,i 1]<|om 2 4<|N) [1,3,4])<|.ret
theorem ok170:FT 170 5 ir170 [.tmp 2]:=.o Tryz.func170
def ir172:Ic:=q (R (ox 1 0<|ow 2 false<|N) [0,2])<|q (R (oL 3 11 1<|cl 4 171 [t 3,i 16]<|om 2 4<|N) [1,3,4])<|.ret
theorem ok172:FT 172 5 ir172 [.tmp 2]:=.o Tryz.func172
def ir173:Ic:=q (R (ox 1 0<|ow 2 false<|N) [0,2])<|q (R (oL 3 11 1<|cl 4 174 [t 3,i 1]<|om 2 4<|N) [1,3,4])<|.ret
theorem ok173:FT 173 5 ir173 [.tmp 2]:=.o Tryz.func173
def ir175:Ic:=q (R (ox 1 0<|ow 2 false<|N) [0,2])<|q (R (oL 3 11 1<|cl 4 174 [t 3,i 0]<|om 2 4<|N) [1,3,4])<|.ret
theorem ok175:FT 175 5 ir175 [.tmp 2]:=.o Tryz.func175
def ir176:Ic:=q (R (ox 1 0<|ow 2 false<|N) [0,2])<|q (R (of 3 1 5<|ol 4 3<|ob 5 .sne (t 4) (.k (.str []))<|om 2 5<|N) [1,3,4,5])<|.ret
theorem ok176:FT 176 6 ir176 [.tmp 2]:=.o Tryz.func176
def ir177:Ic:=q (R (ox 1 0<|ow 2 false<|N) [0,2])<|q (R (of 3 1 5<|ol 4 3<|cl 5 161 [t 4]<|om 2 5<|N) [1,3,4,5])<|.ret
theorem ok177:FT 177 6 ir177 [.tmp 2]:=.o Tryz.func177
def ir202:Ic:=q (R (ow 2 false<|N) [2])<|q (R (om 3 0<|cl 4 292 [t 3]<|om 2 4<|N) [0,3,4])<|.ret
theorem ok202:FT 202 5 ir202 [.tmp 2]:=.o Tryz.func202
def ir151:Ic:=R (om 2 0<|oc 3 2<|of 4 3 5<|on (.sto none (t 4) (.k (.str [])))<|N) [0,2,3,4]
theorem ok151:FT 151 5 ir151 []:=.o Tryz.func151
def ir152:Ic:=R (om 2 0<|om 3 0<|oo 4 (.bld [.nil 6] [])<|oc 5 2<|of 6 5 8<|oS 1 6 4<|oc 7 3<|of 8 7 6<|on (.sto none (t 8) (.k (.str [])))<|N) [0,2,3,4,5,6,7,8]
theorem ok152:FT 152 9 ir152 []:=.o Tryz.func152
def ir153:Ic:=R (om 2 0<|oc 3 2<|of 4 3 7<|on (.sto none (t 4) (.k (.nil 5)))<|N) [0,2,3,4]
theorem ok153:FT 153 5 ir153 []:=.o Tryz.func153
def ir154:Ic:=R (om 2 0<|om 3 0<|oc 4 2<|of 5 4 3<|on (.sto none (t 5) (i 0))<|oc 6 3<|of 7 6 4<|on (.sto none (t 7) (i 0))<|N) [0,2,3,4,5,6,7]
theorem ok154:FT 154 8 ir154 []:=.o Tryz.func154
def ir155:Ic:=R (om 2 0<|oc 3 2<|of 4 3 10<|on (.sto none (t 4) (.k (.nil 2)))<|N) [0,2,3,4]
theorem ok155:FT 155 5 ir155 []:=.o Tryz.func155
def ir157:Ic:=q (.reg (ol 5 1<|oh 6 5<|oz 7 0<|N))<|D (.block 0<|.loop (q (.reg (ot 8 .lss 7 6<|N))<|q (D (I 8 S (E 0)) [8])<|q (D (.block 1<|q (R (oa false 9 1 5 7<|ol 10 9<|om 4 10<|N) [9,10])<|R (om 11 4<|om 12 0<|.call (some 13) (.dyn (t 11)) [t 12] N) [4,11,12,13]) [])<|R (oi 14 .add 7 1<|om 7 14<|N) [14])) [0,5,6,7,8,9,10,4,11]
theorem ok157:FT 157 15 ir157 []:=.o Tryz.func157
def ir158:Ic:=R (om 2 0<|oc 3 2<|of 4 3 2<|on (.sto none (t 4) (i 0))<|N) [0,2,3,4]
theorem ok158:FT 158 5 ir158 []:=.o Tryz.func158
def ir159:Ic:=R (om 2 0<|oc 3 2<|of 4 3 9<|on (.sto none (t 4) (.k (.nil 2)))<|N) [0,2,3,4]
theorem ok159:FT 159 5 ir159 []:=.o Tryz.func159
def YQ:Ic:=q (R (ox 2 0<|ow 4 false<|N) [0,4])<|q (R (om 8 1<|of 9 2 1<|ol 10 9<|oo 11 (.lkp .i (.agg [.nilFn,.nilFn]) (t 8) (t 10) true)<|om 7 11<|oe 12 7 0<|oe 13 7 1<|oN 5 [.nilFn,.nilFn]<|oS 2 5 12<|om 6 13<|N) [1,8,9,10,11,7,12,13])<|q (q (R (om 14 6<|og 15 14<|om 16 15<|.sc 16 false (of 17 5 1<|ol 18 17<|oL 19 11 2<|.call (some 20) (.dyn (t 18)) [t 19] (og 21 20<|N)) (t 21) 22 N) [6,14,15,16])<|D (I 22 (q (R (ow 4 false<|N) [2,5,22])<|.ret) S) [22])<|q (R (of 23 5 0<|ol 24 23<|.call (some 25) (.dyn (t 24)) [t 2] N) [5,23,24,25])<|q (R (oL 26 11 2<|cl 27 259 [t 26]<|om 4 27<|N) [2,26,27])<|.ret
theorem Yt:FT 180 28 YQ [.tmp 4]:=.o Tryz.func180
end Go.Proofs
namespace Av
open Go Go.RowKit
variable [Glb][Rls]
theorem JC.JMi{P:Program}{f:Nat}{ds:List Dat}{x:Dat}(hh:Has P f)
  (h:∀(A:Nat→Prop) (w:World) (vs:Array Value),ds.length=vs.size→(∀(i:Nat) d u,ds[i]? =some d→vs[i]? =some u→Rep A w d u)→
   Calls P f vs w fun e w'=>∃u,e=.returned u∧Below w.heap.size w w'∧Rep (fun b=>A b∨(w.heap.size≤b∧b<w'.heap.size)) w' x u):JC P f (ds.map .d) [] (.d x) []:=by
 intro β A w H vs _ hc hvs;have hl:ds.length=vs.size:=sX hvs.1;refine .inl ⟨hh,(h A w vs hl ?_).mono ?_⟩
 ·intro i d u hd hu;have:=hvs.2 i (.d d) u (by rw[Vo,hd];rfl) hu;exact this.JU
 ·rintro e w' ⟨u,rfl,hb,hr⟩;refine⟨u,rfl,β,fun b=>A b∨(w.heap.size≤b∧b<w'.heap.size),?_,.d _ _ hr⟩;refine Stp.new hc hb.os hb.tape hb.output hb.size hb.block (fun _ h=>.inl h) ?_ ?_
  ·rintro b (h|h)
   ·exact .inl h
   ·exact .inr h.1
  ·rintro b (h|h)
   ·exact Nat.lt_of_lt_of_le (hc.old b h) hb.size
   ·exact h.2
theorem JEm{A:Nat→Prop}{w w':World}{e:TypeId}{v:Value}{n:Nat}{ss:List (List UInt8)}(hn:n=ss.length)(hs:∀s∈ss,s.length≤68719476736)(hl:ss.length≤68719476736)
  (h:w'.ownsRow w.heap.size e 1 v n (ss.map fun s=>Value.string ⟨s.toArray⟩)):Rep (fun b=>A b∨(w.heap.size≤b∧b<w'.heap.size)) w' (.list 1 (ss.map .str)) v:=by
 obtain⟨h1,⟨rfl,h0⟩|⟨g,cap,cur,rfl,hg,hh,hcap,_,hcur,htake⟩⟩:=h
 ·have:ss=[]:=by cases ss with
   |nil=>rfl
   |cons a r=>simp at hn;omega
  subst this;exact .emp 1 none 0
 ·have hlt:g<w'.heap.size:=(Array.getElem?_eq_some_iff.1 hh).1;refine .list 1 _ g 0 n cap (ss.map fun s=>Value.string ⟨s.toArray⟩) (sX hn) (.inr ⟨hg,hlt⟩) sO (sX hl) ?_ ?_ ?_ ?_ ?_
  ·intro u hu;obtain⟨s,_,rfl⟩:=VC.1 hu;rfl
  ·intro x hx;obtain⟨s,_,rfl⟩:=VC.1 hx;rfl
  ·intro i u hu;have:(cur.toList.take (n*1))[i]? =some u:=by rw[htake];exact hu
   rw[List.getElem?_take]at this;split at this
   ·simp only[World.cell?,hh,Nat.zero_add];simpa using this
   ·cases this
  ·rw[ZS];simp
  ·intro i c u hc hu;rw[ZS,Vo]at hc;rw[Vo]at hu;cases q:ss[i]? with
   |none=>rw[q]at hc;cases hc
   |some s=>
    rw[q]at hc hu;cases hc;cases hu;exact .str s (hs s (List.mem_of_getElem? q))
end Av
namespace Go.Proofs
open Go.Shelf
def Tryz.JCv:Go.Shelf.Ren:=⟨fun|156=>129|165=>224|166=>225|169=>226|240=>301|241=>302|276=>394|277=>395|n=>n,fun|31=>79|9=>9|3=>3|4=>4|0=>0|20=>20|72=>328|76=>331|70=>325|37=>326|75=>330|127=>398|164=>489|5=>5|80=>333|n=>n,fun|n=>n⟩
theorem Tryz.laysJ:Go.Proofs.Lays.n156 Tryz.prog Tryz.JCv:={
 mixed:=kR
 f156:=Tryz.func129.trans (congrArg some kR)
 f165:=Tryz.func224.trans (congrArg some kR)
 f166:=Tryz.func225.trans (congrArg some kR)
 f169:=Tryz.func226.trans (congrArg some kR)
 f240:=Tryz.func301.trans (congrArg some kR)
 f241:=Tryz.func302.trans (congrArg some kR)
 f276:=Tryz.func394.trans (congrArg some kR)
 f277:=Tryz.func395.trans (congrArg some kR)
 t0:=Tryz.underlying0
 a0:=Tryz.isAgg0
 z0:=Tryz.sizeOf0
 v0:=Tryz.zeroValue0
 t3:=Tryz.underlying3
 a3:=Tryz.isAgg3
 z3:=Tryz.sizeOf3
 v3:=Tryz.zeroValue3
 t4:=Tryz.underlying4
 a4:=Tryz.isAgg4
 z4:=Tryz.sizeOf4
 v4:=Tryz.zeroValue4
 t9:=Tryz.underlying9
 a9:=Tryz.isAgg9
 z9:=Tryz.sizeOf9
 v9:=Tryz.zeroValue9
 t20:=Tryz.underlying20
 a20:=Tryz.isAgg20
 z20:=Tryz.sizeOf20
 v20:=Tryz.zeroValue20
 t31:=Tryz.underlying79
 a31:=Tryz.isAgg79
 z31:=Tryz.sizeOf79
 v31:=Tryz.zeroValue79
 t37:=Tryz.underlying326
 a37:=Tryz.isAgg326
 z37:=Tryz.sizeOf326
 v37:=Tryz.zeroValue326
 t70:=Tryz.underlying325
 a70:=Tryz.isAgg325
 z70:=Tryz.sizeOf325
 v70:=Tryz.zeroValue325
 t72:=Tryz.underlying328
 a72:=Tryz.isAgg328
 z72:=Tryz.sizeOf328
 v72:=Tryz.zeroValue328
 t75:=Tryz.underlying330
 a75:=Tryz.isAgg330
 z75:=Tryz.sizeOf330
 v75:=Tryz.zeroValue330
 t76:=Tryz.underlying331
 a76:=Tryz.isAgg331
 z76:=Tryz.sizeOf331
 v76:=Tryz.zeroValue331
 t127:=Tryz.underlying398
 a127:=Tryz.isAgg398
 z127:=Tryz.sizeOf398
 v127:=Tryz.zeroValue398
 t164:=Tryz.underlying489
 a164:=Tryz.isAgg489
 z164:=Tryz.sizeOf489
 v164:=Tryz.zeroValue489}
theorem Tryz.extraJ:Builder.Extra Tryz.prog Tryz.JCv:={
 sizeBuilder:=kR
 liesBuilder:=kR
 t5:=Tryz.underlying5
 a5:=Tryz.isAgg5
 z5:=Tryz.sizeOf5
 v5:=Tryz.zeroValue5
 infoByte:=kR
 cellsByte:=kR
 sizeByte:=kR
 neB5:=by decide}
end Go.Proofs
namespace Go.Proofs
open Go Av
def JFV:List UInt8→UInt8→Nat→Int
 |[],_,_=> -1
 |b::l,c,k=>if b==c then(k:Int)else JFV l c (k+1)
theorem JK5(c:UInt8):∀(l:List UInt8) (k:Nat),JFV l c k=if Lib.indexByte l c= -1 then-1 else Lib.indexByte l c+k
 |[],k=>rfl
 |b::l,k=>by
  rw[JFV,Lib.indexByte,JK5 c l (k+1)];have hge:=Lib.indexByte_ge l c;by_cases h:(b==c)=true
  ·simp[h]
  ·simp only[h,Vu,↓reduceIte,beq_iff_eq];by_cases h2:Lib.indexByte l c= -1
   ·simp[h2]
   ·simp only[h2,↓reduceIte];rw[if_neg oM];omega
theorem JK6(c:UInt8):∀(l:List UInt8) (k:Nat),-1≤JFV l c k∧JFV l c k≤(l.length+k:Nat)
 |[],k=>by simp only[JFV];omega
 |b::l,k=>by
  have:=JK6 c l (k+1);simp only[JFV,Vf];split
  ·omega
  ·omega
theorem ext534(s:Str)(c:Int):CT 534 [.d (.str s),.d (.int .u8 c)] [] (.d (.int .i64 (JFV s c.toNat.toUInt8 0))) []:=by
 intro β A w H vs _ hc hvs;obtain⟨hl,hv⟩:=hvs;have h2:vs.size=2:=sX hl.symm;obtain⟨x,y,rfl⟩:∃x y,vs=#[x,y]:=by
  refine⟨vs[0],vs[1],?_⟩;apply Array.ext
  ·simp[h2]
  ·intro i h1 h2';have:i=0∨i=1:=oM;rcases this with rfl|rfl<;>rfl
 have hx:=(hv 0 _ x rfl rfl).JU;have hy:=(hv 1 _ y rfl rfl).JU;cases hx with
 |str _ hs=>
  cases hy;have hle:=JK6 c.toNat.toUInt8 s 0;refine .inr ⟨.int .i64 (JFV s c.toNat.toUInt8 0),w,?_,β,A,Stp.refl hc,.d _ _ (.int _ _ ?_)⟩
  ·refine JKx (e:=Extern.BytealgIndexByte.indexByte) Tryz.func534 kR kR kR kR ?_;rw[Lib.run_indexByteString,JK5];congr 2;show Lib.indexByte s _=_;have hge:=Lib.indexByte_ge s c.toNat.toUInt8;by_cases h:Lib.indexByte s c.toNat.toUInt8= -1
   ·simp[h]
   ·simp[h]
  ·have e1:IntKind.i64.min= -9223372036854775808:=dC;have e2:IntKind.i64.max=9223372036854775807:=dC;rw[e1,e2];omega
def X1:Ext:=fun f ds=>match f,ds with
 |218,[.str a,.str b]=>some (.d (.int .i64 (Extern.BytealgCompare.cmp ⟨a.toArray⟩ ⟨b.toArray⟩)))
 |534,[.str s,.int .u8 c]=>some (.d (.int .i64 (JFV s c.toNat.toUInt8 0)))
 |_,_=>none
theorem JOM:JS Tryz.prog X1:=by
 intro f ds d h;unfold X1 at h;split at h
 ·cases h;exact ext218 _ _
 ·cases h;exact ext534 _ _
 ·cases h
def K1(f:Nat):Nat:=if f==186 then 1 else 0
mutual
def Uw:Dat→Dat→Bool
 |.bool a,.bool b=>a==b
 |.int k a,.int l b=>decide (k=l)&&a==b
 |.str a,.str b=>a==b
 |.nil a,.nil b=>a==b
 |.list a xs,.list b ys=>a==b&&JAP xs ys
 |.agg xs,.agg ys=>JAP xs ys
 |.nilIface,.nilIface=>true
 |_,_=>false
def JAP:List Dat→List Dat→Bool
 |[],[]=>true
 |x::xs,y::ys=>Uw x y&&JAP xs ys
 |_,_=>false
end
mutual
theorem JEn:∀(a b:Dat),Uw a b=true→a=b
 |.bool a,.bool b,h=>by simp only[Uw,beq_iff_eq]at h;rw[h]
 |.int k a,.int l b,h=>by simp only[Uw,Vi,decide_eq_true_eq,beq_iff_eq]at h;rw[h.1,h.2]
 |.str a,.str b,h=>by simp only[Uw,beq_iff_eq]at h;rw[h]
 |.nil a,.nil b,h=>by simp only[Uw,beq_iff_eq]at h;rw[h]
 |.list a xs,.list b ys,h=>by simp only[Uw,Vi,beq_iff_eq]at h;rw[h.1,JCm xs ys h.2]
 |.agg xs,.agg ys,h=>by simp only[Uw]at h;rw[JCm xs ys h]
 |.nilIface,b,h=>by cases b<;>first|rfl|(simp[Uw]at h)
 |.fn ..,b,h=>by cases b<;>simp[Uw]at h
 |.ptr _,b,h=>by cases b<;>simp[Uw]at h
 |.map _,b,h=>by cases b<;>simp[Uw]at h
 |.nilFn,b,h=>by cases b<;>simp[Uw]at h
 |.nilPtr,b,h=>by cases b<;>simp[Uw]at h
 |.nilMap,b,h=>by cases b<;>simp[Uw]at h
 |.iface _ _,b,h=>by cases b<;>simp[Uw]at h
 |.opq,b,h=>by cases b<;>simp[Uw]at h
 |.bool _,.int ..,h|.bool _,.str _,h|.bool _,.nil _,h|.bool _,.list ..,h|.bool _,.agg _,h|.bool _,.fn ..,h|.bool _,.ptr _,h|.bool _,.map _,h|.bool _,.nilFn,h|.bool _,.nilPtr,h|.bool _,.nilMap,h|.bool _,.nilIface,h|.bool _,.iface ..,h|.bool _,.opq,h=>by simp[Uw]at h
 |.int ..,.bool _,h|.int ..,.str _,h|.int ..,.nil _,h|.int ..,.list ..,h|.int ..,.agg _,h|.int ..,.fn ..,h|.int ..,.ptr _,h|.int ..,.map _,h|.int ..,.nilFn,h|.int ..,.nilPtr,h|.int ..,.nilMap,h|.int ..,.nilIface,h|.int ..,.iface ..,h|.int ..,.opq,h=>by simp[Uw]at h
 |.str _,.bool _,h|.str _,.int ..,h|.str _,.nil _,h|.str _,.list ..,h|.str _,.agg _,h|.str _,.fn ..,h|.str _,.ptr _,h|.str _,.map _,h|.str _,.nilFn,h|.str _,.nilPtr,h|.str _,.nilMap,h|.str _,.nilIface,h|.str _,.iface ..,h|.str _,.opq,h=>by simp[Uw]at h
 |.nil _,.bool _,h|.nil _,.int ..,h|.nil _,.str _,h|.nil _,.list ..,h|.nil _,.agg _,h|.nil _,.fn ..,h|.nil _,.ptr _,h|.nil _,.map _,h|.nil _,.nilFn,h|.nil _,.nilPtr,h|.nil _,.nilMap,h|.nil _,.nilIface,h|.nil _,.iface ..,h|.nil _,.opq,h=>by simp[Uw]at h
 |.list ..,.bool _,h|.list ..,.int ..,h|.list ..,.str _,h|.list ..,.nil _,h|.list ..,.agg _,h|.list ..,.fn ..,h|.list ..,.ptr _,h|.list ..,.map _,h|.list ..,.nilFn,h|.list ..,.nilPtr,h|.list ..,.nilMap,h|.list ..,.nilIface,h|.list ..,.iface ..,h|.list ..,.opq,h=>by simp[Uw]at h
 |.agg _,.bool _,h|.agg _,.int ..,h|.agg _,.str _,h|.agg _,.nil _,h|.agg _,.list ..,h|.agg _,.fn ..,h|.agg _,.ptr _,h|.agg _,.map _,h|.agg _,.nilFn,h|.agg _,.nilPtr,h|.agg _,.nilMap,h|.agg _,.nilIface,h|.agg _,.iface ..,h|.agg _,.opq,h=>by simp[Uw]at h
theorem JCm:∀(a b:List Dat),JAP a b=true→a=b
 |[],[],_=>rfl
 |[],_::_,h=>by simp[JAP]at h
 |_::_,[],h=>by simp[JAP]at h
 |x::xs,y::ys,h=>by
  simp only[JAP,Vi]at h;rw[JEn x y h.1,JCm xs ys h.2]
end
def JDS:List Av→List Av→Bool
 |[],[]=>true
 |.d x::xs,.d y::ys=>Uw x y&&JDS xs ys
 |_,_=>false
theorem JIS:∀(a b:List Av),JDS a b=true→a=b
 |[],[],_=>rfl
 |[],_::_,h=>by simp[JDS]at h
 |x::xs,[],h=>by cases x<;>simp[JDS]at h
 |x::xs,y::ys,h=>by
  cases x with
  |d x=>
   cases y with
   |d y=>
    simp only[JDS,Vi]at h;rw[JEn x y h.1,JIS xs ys h.2]
   |_=>simp[JDS]at h
  |_=>simp[JDS]at h
def avEq:Av→Av→Bool
 |.d x,.d y=>Uw x y
 |.tup xs,.tup ys=>JDS xs ys
 |_,_=>false
theorem JTL{a b:Av}(h:avEq a b=true):a=b:=by
 unfold avEq at h;split at h
 ·rw[JEn _ _ h]
 ·rw[JIS _ _ h]
 ·cases h
abbrev Tbl:=List (Nat×List Dat×Av)
def JON(f:Nat)(ds:List Dat):Tbl→Option Av
 |[]=>none
 |(g,l,v)::r=>match g==f with
  |true=>match JAP ds l with
   |true=>some v
   |false=>JON f ds r
  |false=>JON f ds r
def ext(t:Tbl)(X:Ext):Ext:=fun f ds=>match JON f ds t with
 |some v=>some v
 |none=>X f ds
def JK7(P:Program)(X:Ext):Tbl→Bool
 |[]=>true
 |(f,l,v)::r=>(match evF P (some false) (Yp P X K1 500 40) 500 f (l.map .d) []with
  |some (u,_)=>Z0 u&&avEq u v
  |none=>false)&&JK7 P X r
end Go.Proofs
namespace Go.Proofs
open Go Av Go.RowKit Go.Shelf Go.Lib
theorem JK8(ss:List Str)(sep:Str)(hne:ss≠[])(hle:(Lib.join ss sep).length≤68719476736):CT 129 [.d (.list 1 (ss.map .str)),.d (.str sep)] [] (.d (.str (Lib.join ss sep))) []:=by
 refine JC.JJN (ds:=[.list 1 (ss.map .str),.str sep]) ⟨_,Tryz.func129,kR,kR⟩ fun A w vs hl hv=>?_
 have h2:vs.size=2:=sX hl.symm;obtain⟨x,y,rfl⟩:∃x y,vs=#[x,y]:=by
  refine⟨vs[0],vs[1],?_⟩;apply Array.ext
  ·simp[h2]
  ·intro i h1 h2';have:i=0∨i=1:=oM;rcases this with rfl|rfl<;>rfl
 have hx:=hv 0 _ x rfl rfl;have hy:=hv 1 _ y rfl rfl;cases hy with
 |str _ hsep=>
  generalize hD:ss.map Dat.str=D at hx;cases hx with
  |emp=>exact absurd (List.map_eq_nil_iff.1 hD) hne
  |list _ _ b o n cap vs hn hA hcap hc h1 hsz hh hvl hvv=>
   subst hD;rw[ZS]at hvl hvv;have hcell:∀(j:Nat) (x:ByteArray),(ss.map fun s=>(⟨s.toArray⟩:ByteArray))[j]? =some x→w.cell? ⟨b,o+j,none⟩=some (.string x):=by
    intro j x hj;rw[Vo]at hj;cases hs:ss[j]? with
    |none=>rw[hs]at hj;cases hj
    |some s=>
     rw[hs]at hj;cases hj;have hjl:j<vs.length:=by rw[←hvl,Vc];exact(VB.1 hs).1
     have hr:=hvv j (.str s) vs[j] (by rw[Vo,hs];rfl) (by simp[hjl]);rw[hh j vs[j] (by simp[hjl])];generalize vs[j]=z at hr;cases hr;rfl
   have hpos:0<ss.length:=List.length_pos_iff.2 hne;have hb:b<w.heap.size:=by
    have:=hcell 0 _ (by rw[Vo,Vl hpos];rfl);simp only[World.cell?]at this;split at this
    ·rename_i e;exact(Array.getElem?_eq_some_iff.1 e).1
    ·cases this
   have hmap:(ss.map fun s=>(⟨s.toArray⟩:ByteArray)).map (·.data.toList)=ss:=by
    rw[List.map_map]
    conv=>rhs;rw[←List.map_id ss]
    exact List.map_congr_left fun s _=>by simp
   have hnl:n=(ss.map fun s=>(⟨s.toArray⟩:ByteArray)).length:=sX hn;generalize hX:(ss.map fun s=>(⟨s.toArray⟩:ByteArray))=X at*;have hN:X.length≤140737488355328:=by rw[←hX];simp at hc⊢;omega
   have hL:(Lib.join (X.map (·.data.toList)) (⟨sep.toArray⟩:ByteArray).data.toList).length≤140737488355328:=by
    rw[hmap];show(Lib.join ss sep.toArray.toList).length≤_;simp only[List.toList_toArray];omega
   have hC:X.length≤cap:=by rw[←hX];simpa using hcap
   have J:=Any.strings_Join Tryz.laysJ Tryz.extraJ b o cap X ⟨sep.toArray⟩ w hcell hb hN hC hL;rw[show Tryz.JCv.f 156=129 from rfl]at J;rw[hnl];refine J.mono ?_;rintro e w' ⟨rfl,hbel⟩;refine⟨_,rfl,hbel,fun β H=>.d _ _ ?_⟩;rw[hmap];show Rep _ _ _ (.string ⟨(Lib.join ss sep.toArray.toList).toArray⟩);simp only[List.toList_toArray];exact .str _ hle
def JGz:List Dat→Option (List Str)
 |[]=>some []
 |.str s::r=>match JGz r with
  |some l=>some (s::l)
  |none=>none
 |_::_=>none
theorem JF8:∀{ds:List Dat} {l:List Str},JGz ds=some l→ds=l.map .str
 |[],l,h=>by cases h;rfl
 |d::r,l,h=>by
  cases d<;>simp only[JGz]at h<;>first|(cases h;done)|skip
  split at h
  ·rename_i e;cases h;rw[JF8 e];rfl
  ·cases h
theorem XV{P:Program}{w:World}{ops:Array Oper}{rest:List Oper}{o:Oper}{a:Act}{Q:Exit→Act→World→Prop}(hgd:o.guard=none)(s x:Operand)(t:TypeId)
  (ho:o.op=.call {callee:=.builtin .append,args:=#[s,x],argTypes:=#[t,t]})(e:TypeId)(i:TypeInfo)(ht:P.underlying t=some (.slice e))(hi:P.info? e=some i)
  (b:Option Addr)(hs:a.eval s=.slice b 0 0)(ad:Option Addr)(c:Nat)(hx:a.eval x=.slice ad 0 c)(h:wpList P ops Q rest (a.put o.dst (.slice b 0 0)) w):wpList P ops Q (o::rest) a w:=by
 refine wpList_plain hgd fun _ hK=>?_
 have hr:=Zx (P:=P) (w:=w) t t o.type e i ht hi b (.slice ad 0 c) (by
  cases ad with
  |none=>exact Src.ofNil w ht c
  |some ad=>exact Src.ofSlice w ht ad 0 c [] sP sP sP)
 unfold Oper.wp execOp;simp only[ho,resolve,invoke,builtin,Sem.run_bind,Sem.run_pure,Result.andThen_ok,List.map_toArray,Va,Vb,hs,hx,hr];exact hK _ _ h
set_option maxHeartbeats 2000000 in
set_option maxRecDepth 1000000 in
theorem JMN(a:Option Addr)(c:Nat)(w:World):Calls Tryz.prog 38 #[.slice a 0 c] w fun e w'=>∃a',e=.returned (.slice a' 0 0)∧Below w.heap.size w w':=by
 obtain⟨i0,hi⟩:∃i0,Tryz.prog.info? 3=some i0:=Option.isSome_iff_exists.1 kR;have q:∀(w:World) (a:Option Addr) (n c n' c':Nat),(binOp .eql 37 (.slice a n c) (.slice none n' c')).run Tryz.prog w=.ok (.bool a.isNone) w:=fun w a n c n' c'=>Lib.run_eql_slice_nil w _ _ a n c n' c' Tryz.underlying37
 have mixed:Tryz.prog.follows Departure.mixedOrders=true:=kR;cases a with
 |none=>
  go_enter Tryz.func38,Tryz.ntmps38
  go_wp2
  go_ret
  exact⟨none,rfl,Below.refl _ _⟩
 |some a=>
  go_enter Tryz.func38,Tryz.ntmps38
  go_wp2_with (first|(simp only[q];done)|(at_builtin;refine XV rfl _ _ 37 rfl 3 i0 Tryz.underlying37 hi _ rfl (some a) c rfl ?_))
  go_wp2
  go_ret
  exact⟨_,rfl,(Below.refl _ w).alloc (Nat.le_refl _) _⟩
set_option maxHeartbeats 2000000 in
set_option maxRecDepth 1000000 in
theorem cl76(a:Option Addr)(c:Nat)(w:World):Calls Tryz.prog 145 #[.slice a 0 c] w fun e w'=>∃a',e=.returned (.slice a' 0 0)∧Below w.heap.size w w':=by
 obtain⟨i0,hi⟩:∃i0,Tryz.prog.info? 9=some i0:=Option.isSome_iff_exists.1 kR;have q:∀(w:World) (a:Option Addr) (n c n' c':Nat),(binOp .eql 79 (.slice a n c) (.slice none n' c')).run Tryz.prog w=.ok (.bool a.isNone) w:=fun w a n c n' c'=>Lib.run_eql_slice_nil w _ _ a n c n' c' Tryz.underlying79
 have mixed:Tryz.prog.follows Departure.mixedOrders=true:=kR;cases a with
 |none=>
  go_enter Tryz.func145,Tryz.ntmps145
  go_wp2
  go_ret
  exact⟨none,rfl,Below.refl _ _⟩
 |some a=>
  go_enter Tryz.func145,Tryz.ntmps145
  go_wp2_with (first|(simp only[q];done)|(at_builtin;refine XV rfl _ _ 79 rfl 9 i0 Tryz.underlying79 hi _ rfl (some a) c rfl ?_))
  go_wp2
  go_ret
  exact⟨_,rfl,(Below.refl _ w).alloc (Nat.le_refl _) _⟩
theorem JCI{f:Nat}(hh:Has Tryz.prog f)(h:∀(a:Option Addr) (c:Nat) (w:World),Calls Tryz.prog f #[.slice a 0 c] w fun e w'=>∃a',e=.returned (.slice a' 0 0)∧Below w.heap.size w w'){d:Dat}(n:Nat)
  (hd:d=.nil n∨d=.list n []):CT f [.d d] [] (.d (.nil n)) []:=by
 refine JC.JJN (ds:=[d]) hh fun A w vs hl hv=>?_
 obtain⟨u,rfl⟩:=JII (sX hl);have hr:=hv 0 _ u rfl rfl;have:∃a c,u=.slice a 0 c:=by
  rcases hd with rfl|rfl
  ·cases hr with|nil _ a=>exact⟨a,0,rfl⟩
  ·cases hr with
   |emp _ a cap=>exact⟨a,cap,rfl⟩
   |list _ _ b o n cap vs hn=>exact⟨_,_,by rw[hn];rfl⟩
 obtain⟨a,c,rfl⟩:=this;refine(h a c w).mono ?_;rintro e w' ⟨a',rfl,hb⟩;exact⟨_,rfl,hb,fun β H=>.d _ _ (.nil n a')⟩
def X4:Ext:=fun f ds=>match f,ds with
 |129,[.list 1 xs,.str sep]=>match JGz xs with
  |some (s::l)=>match Nat.ble (Lib.join (s::l) sep).length 68719476736 with
   |true=>some (.d (.str (Lib.join (s::l) sep)))
   |false=>none
  |_=>none
 |38,[.nil n]=>some (.d (.nil n))
 |38,[.list n []]=>some (.d (.nil n))
 |145,[.nil n]=>some (.d (.nil n))
 |145,[.list n []]=>some (.d (.nil n))
 |f,ds=>X1 f ds
theorem X4_ok:JS Tryz.prog X4:=by
 intro f ds d h;unfold X4 at h;split at h
 ·rename_i e;split at h
  ·rename_i e;split at h
   ·rename_i hb;cases h;obtain rfl:=JF8 e;exact JK8 _ _ sP (Nat.le_of_ble_eq_true hb)
   ·cases h
  ·cases h
 ·cases h;exact JCI ⟨_,Tryz.func38,kR,kR⟩ JMN _ (.inl rfl)
 ·cases h;exact JCI ⟨_,Tryz.func38,kR,kR⟩ JMN _ (.inr rfl)
 ·cases h;exact JCI ⟨_,Tryz.func145,kR,kR⟩ cl76 _ (.inl rfl)
 ·cases h;exact JCI ⟨_,Tryz.func145,kR,kR⟩ cl76 _ (.inr rfl)
 ·exact JOM _ _ _ h
end Go.Proofs
namespace Go.Proofs
open Go Av
open Av.Y
def JOO:Ic:=q (R (ow 2 false<|N) [2])<|q (q (R (om 5 0<|ob 6 .seq (t 5) (.k (.str []))<|om 7 6<|.sc 7 false (om 8 0<|oj 9 8<|oi 10 .gtr 9 32<|N) (t 10) 11 (om 12 11<|.sc 12 false (om 13 0<|oo 14 (.ixs (t 13) (i 0))<|ob 15 .lss (t 14) (.k (.int .u8 97))<|N) (t 15) 16 (om 17 16<|.sc 17 false (om 18 0<|oo 19 (.ixs (t 18) (i 0))<|ob 20 .gtr (t 19) (.k (.int .u8 122))<|N) (t 20) 21 N))) [5,6,7,11,12,16,17])<|D (I 21 (q (R (ow 2 false<|N) [0,21])<|.ret) S) [21])<|q (q (R (om 22 0<|oo 23 (.s2b (t 22))<|oh 24 23<|oz 25 0<|N) [0,22])<|D (.block 0<|.loop (q (.reg (ot 26 .lss 25 24<|N))<|q (D (I 26 S (E 0)) [26])<|q (D (.block 1<|q (R (oa false 27 1 23 25<|ol 28 27<|om 4 28<|N) [27,28])<|q (R (om 29 4<|ob 30 .lss (t 29) (.k (.int .u8 97))<|om 31 30<|.sc 31 false (om 32 4<|ob 33 .gtr (t 32) (.k (.int .u8 122))<|N) (t 33) 34 (om 35 34<|.sc 35 true (om 36 4<|ob 37 .lss (t 36) (.k (.int .u8 48))<|om 38 37<|.sc 38 false (om 39 4<|ob 40 .gtr (t 39) (.k (.int .u8 57))<|N) (t 40) 41 N) (t 41) 42 (om 43 42<|.sc 43 true (om 44 4<|ob 45 .neq (t 44) (.k (.int .u8 95))<|N) (t 45) 46 N))) [4,29,30,31,34,35,42,43])<|D (I 46 (q (R (ow 2 false<|N) [23,24,25,46])<|.ret) S) [46]) [])<|R (oi 47 .add 25 1<|om 25 47<|N) [47])) [23,24,25,26,4])<|q (.reg (ow 2 true<|N))<|.ret
theorem JOP:FT 255 48 JOO [.tmp 2]:=.o Tryz.func255
end Go.Proofs
namespace Go.Proofs
open Go Av
theorem JTM{P:Program}{X:Ext}(hX:JS P X){f:Nat}{ds:List Dat}{v:Av}(h:JK7 P X [(f,ds,v)]=true):Jz P f ds v:=by
 rw[JK7,JK7,Bool.and_true]at h;cases ev:evF P false (Yp P X K1 500 40) 500 f (ds.map .d) []with
 |none=>rw[ev]at h;cases h
 |some y=>
  obtain⟨u,fh⟩:=y;rw[ev]at h;simp only[Vi]at h;obtain⟨hp,he⟩:=h;obtain rfl:=JTL he;exact JKu (X:=X) (K:=K1) (L:=500) (n:=40) hX ev hp
theorem JIT{G:Nat→Option Av.Obj}:∀cs:List Dat,JR G (cs.map .d)
 |[]=>trivial
 |_::r=>⟨trivial,JIT r⟩
theorem JJw(ρ:Nat→Nat):∀cs:List Dat,J3 ρ (cs.map .d)=cs.map .d
 |[]=>rfl
 |_::r=>by simp only[Va,J3,Av.ren,JJw ρ r]
theorem Zr(i:Nat)(cs:List Dat):closed (get [(i,.box (cs.map .d))]):=by
 refine UK ?_;simp only[Je,J8,JIT,and_true]
theorem Con.ro{P:Program}{f:Nat}{ds cs:List Dat}{r:Dat}(h:Con P f (.ref 1000 0::ds.map .d) [(1000,.box (cs.map .d))] (.d r) [])(i:Nat):
  JC P f (.ref i 0::ds.map .d) [(i,some (.box (cs.map .d)))] (.d r) []:=by
 have h1:∀j,(get [(1000,Obj.box (cs.map .d))] j).isSome=true→j=1000:=by
  intro j hj;simp only[Av.get]at hj;split at hj
  ·rename_i e;exact e.symm
  ·cases hj
 have:=h.call (fun _=>i) (fun j hj=>by rw[h1 j hj];decide) (fun a b ha hb _=>by rw[h1 a ha,h1 b hb]) ?_ (Zr _ _) [] sP (Zr _ _) trivial
 ·have e:(ds.map Av.d).map (Av.ren fun _=>i)=ds.map Av.d:=by
   rw[List.map_map];exact List.map_congr_left fun x _=>by simp[Av.ren]
  simpa[Av.ren,Obj.ren,JJw,e]using this
 ·intro c hc;rcases VA.1 hc with rfl|hc
  ·rfl
  ·obtain⟨x,_,rfl⟩:=VC.1 hc;trivial
theorem t0':Int.toNat 0=0:=rfl
def JIU(c:UInt8):Bool:= !((decide ((c.toNat:Int)<97)||decide ((c.toNat:Int)>122))&&(decide ((c.toNat:Int)<48)||decide ((c.toNat:Int)>57))&&((c.toNat:Int)!=95))
def YG(s:Str):Bool:= !(s==[]||decide ((s.length:Int)>32)||decide (((s.getD 0 0).toNat:Int)<97)||decide (((s.getD 0 0).toNat:Int)>122))&&s.all JIU
theorem JK9(s:Str)(hs:s.length≤68719476736):PT 255 [.str s] (.d (.bool (YG s))):=by
 refine JOP.pc ?_;cases s with
 |nil=>
  simp only[go_sem,JOO,Nat.reduceAdd,Nat.reduceEqDiff,Nat.reduceBEq,Nat.reduceLeDiff,reduceCtorEq,↓reduceIte];rfl
 |cons c t=>
  have e0:((c::t:Str)==[])=false:=rfl;have e1:(c::t).getD 0 0=c:=rfl;simp only[go_sem,JOO,e0,e1,t0',Nat.reduceAdd,Nat.reduceEqDiff,Nat.reduceBEq,Nat.reduceLeDiff,reduceCtorEq,↓reduceIte];generalize hb:(c::t:Str)=s at*;have hl:0<s.length:=by rw[←hb];simp
  have hlen:(t.length+1:Nat)=s.length:=by rw[←hb];simp
  have hc0:s.getD 0 0=c:=by rw[←hb];rfl
  have e0':(s==[])=false:=by rw[←hb];rfl
  rw[hlen];refine sq (decide ((c.toNat:Int)<97)) ?_ ?_
  ·simp only[go_sem,t0',hc0,Nat.reduceAdd,Nat.reduceEqDiff,Nat.reduceBEq,Nat.reduceLeDiff,reduceCtorEq,↓reduceIte];omega
  refine zz ?_;refine sq (decide ((c.toNat:Int)>122)) ?_ ?_
  ·simp only[go_sem,t0',hc0,Nat.reduceAdd,Nat.reduceEqDiff,Nat.reduceBEq,Nat.reduceLeDiff,reduceCtorEq,↓reduceIte];omega
  refine zz ?_;apply ik<;>intro h
  ·have:YG s=false:=by unfold YG;rw[e0',hc0,Bool.false_or,h];rfl
   rw[this]
  have hn:YG s=s.all JIU:=by unfold YG;rw[e0',hc0,Bool.false_or,h];rfl
  rw[hn];refine zz4 ?_;refine JH (fun n st=>∃k:Nat,k≤s.length∧n=s.length-k∧s.all JIU=(s.drop k).all JIU∧
   st=⟨[(23,.d (.list 1 (s.map fun b=>.int .u8 b.toNat))),(24,.d (.int .i64 s.length)),(25,.d (.int .i64 k))],[]⟩) ?_ ?_
  ·exact⟨_,_,Wk.refl _,0,Nat.zero_le _,rfl,rfl,rfl⟩
  ·rintro n st ⟨k,hk,rfl,hinv,rfl⟩;by_cases hlt:k<s.length
   ·have hd:=dT hlt;have hg:nth (s.map fun b=>Dat.int .u8 b.toNat) k=.int .u8 s[k].toNat:=by rw[U3 (sX hlt)];simp
    rw[Vq hlt,List.all_cons]at hinv;simp only[go_sem,hd,hg,Vv,Vc,Nat.reduceAdd,Nat.reduceEqDiff,Nat.reduceBEq,Nat.reduceLeDiff,reduceCtorEq,↓reduceIte];generalize hx:(s[k].toNat:Int)=x at*;refine⟨oM,oM,?_⟩;refine sq (decide (x>122)) ?_ ?_
    ·exact zz trivial
    refine zz ?_;refine sq (decide (x<48)||decide (x>57)) ?_ ?_
    ·refine zz ?_;refine sq (decide (x>57)) ?_ ?_
     ·exact zz trivial
     exact zz trivial
    refine zz ?_;refine sq (x !=95) ?_ ?_
    ·exact zz trivial
    refine zz ?_;have hcx:JIU s[k]= !((decide (x<97)||decide (x>122))&&(decide (x<48)||decide (x>57))&&(x !=95)):=by rw[←hx];rfl
    apply ik<;>intro hf
    ·rw[hcx,hf,Vr,Bool.false_and]at hinv;rw[hinv]
    ·rw[hcx,hf,Vs,Vt]at hinv;refine⟨s.length-(k+1),_,oM,Wk.less ?_,k+1,oM,rfl,hinv,rfl⟩;exact zz7 trivial
   ·have hd:=dF hlt;obtain rfl:k=s.length:=oM;rw[List.drop_length,List.all_nil]at hinv;simp only[go_sem,hd,hinv,Nat.reduceAdd,Nat.reduceEqDiff,Nat.reduceBEq,Nat.reduceLeDiff,reduceCtorEq,↓reduceIte]
structure Part where
 kind:Int
 index:Int
 name:Str
def encP(p:Part):Dat:=.agg [.int .i64 p.kind,.int .i64 p.index,.str p.name]
end Go.Proofs
namespace Go.Proofs
open Go.Shelf
def Tryz.JHR:Go.Shelf.Ren:=⟨fun|171=>110|243=>204|246=>293|283=>374|284=>375|285=>376|286=>377|129=>217|317=>473|318=>474|319=>475|320=>476|337=>550|338=>551|n=>n,fun|3=>3|9=>9|2=>2|4=>4|171=>470|0=>0|53=>320|37=>326|5=>5|173=>472|212=>534|51=>318|20=>20|213=>535|46=>231|232=>619|233=>620|n=>n,fun|17=>3|18=>4|19=>5|n=>n⟩
theorem Tryz.JSJ:Go.Proofs.LaysM.n171 Tryz.prog Tryz.JHR:={
 mixed:=kR
 f129:=Tryz.func217.trans (congrArg some kR)
 f171:=Tryz.func110.trans (congrArg some kR)
 f243:=Tryz.func204.trans (congrArg some kR)
 f246:=Tryz.func293.trans (congrArg some kR)
 f283:=Tryz.func374.trans (congrArg some kR)
 f284:=Tryz.func375.trans (congrArg some kR)
 f285:=Tryz.func376.trans (congrArg some kR)
 f286:=Tryz.func377.trans (congrArg some kR)
 f317:=Tryz.func473.trans (congrArg some kR)
 f318:=Tryz.func474.trans (congrArg some kR)
 f319:=Tryz.func475.trans (congrArg some kR)
 f320:=Tryz.func476.trans (congrArg some kR)
 f337:=Tryz.func550.trans (congrArg some kR)
 f338:=Tryz.func551.trans (congrArg some kR)
 t0:=Tryz.underlying0
 a0:=Tryz.isAgg0
 z0:=Tryz.sizeOf0
 v0:=Tryz.zeroValue0
 t2:=Tryz.underlying2
 a2:=Tryz.isAgg2
 z2:=Tryz.sizeOf2
 v2:=Tryz.zeroValue2
 t3:=Tryz.underlying3
 a3:=Tryz.isAgg3
 z3:=Tryz.sizeOf3
 v3:=Tryz.zeroValue3
 t4:=Tryz.underlying4
 a4:=Tryz.isAgg4
 z4:=Tryz.sizeOf4
 v4:=Tryz.zeroValue4
 t5:=Tryz.underlying5
 a5:=Tryz.isAgg5
 z5:=Tryz.sizeOf5
 v5:=Tryz.zeroValue5
 t9:=Tryz.underlying9
 a9:=Tryz.isAgg9
 z9:=Tryz.sizeOf9
 v9:=Tryz.zeroValue9
 t20:=Tryz.underlying20
 a20:=Tryz.isAgg20
 z20:=Tryz.sizeOf20
 v20:=Tryz.zeroValue20
 t37:=Tryz.underlying326
 a37:=Tryz.isAgg326
 z37:=Tryz.sizeOf326
 v37:=Tryz.zeroValue326
 t46:=Tryz.underlying231
 a46:=Tryz.isAgg231
 z46:=Tryz.sizeOf231
 v46:=Tryz.zeroValue231
 t51:=Tryz.underlying318
 a51:=Tryz.isAgg318
 z51:=Tryz.sizeOf318
 v51:=Tryz.zeroValue318
 t53:=Tryz.underlying320
 a53:=Tryz.isAgg320
 z53:=Tryz.sizeOf320
 v53:=Tryz.zeroValue320
 t171:=Tryz.underlying470
 a171:=Tryz.isAgg470
 z171:=Tryz.sizeOf470
 v171:=Tryz.zeroValue470
 t173:=Tryz.underlying472
 a173:=Tryz.isAgg472
 z173:=Tryz.sizeOf472
 v173:=Tryz.zeroValue472
 t212:=Tryz.underlying534
 a212:=Tryz.isAgg534
 z212:=Tryz.sizeOf534
 v212:=Tryz.zeroValue534
 t213:=Tryz.underlying535
 a213:=Tryz.isAgg535
 z213:=Tryz.sizeOf535
 t232:=Tryz.underlying619
 a232:=Tryz.isAgg619
 z232:=Tryz.sizeOf619
 v232:=Tryz.zeroValue619
 t233:=Tryz.underlying620
 a233:=Tryz.isAgg620
 z233:=Tryz.sizeOf620
 v233:=Tryz.zeroValue620
 g17:=kR
 g18:=kR
 g19:=kR
 i0:=kR
 i2:=kR
 i3:=kR
 i4:=kR
 i5:=kR
 i9:=kR
 i20:=kR
 i37:=kR
 i46:=kR
 i51:=kR
 i53:=kR
 i171:=kR
 i173:=kR
 i212:=kR
 i232:=kR
 i233:=kR
 m17:=kR
 m18:=kR
 m19:=by kernel_rfl}
end Go.Proofs
namespace Go.Proofs
open Go Av Go.RowKit
theorem hasT{f:Nat}{fn:Func}(h:Tryz.prog.funcs[f]? =some fn)(h1:fn.body.isSome=true)(h2:(fn.name== "runtime.NumGoroutine")=false):Has Tryz.prog f:=⟨fn,h,h1,h2⟩
theorem JLA{vs:Array Value}(h:1=vs.size):∃x,vs=#[x]:=by
 refine⟨vs[0],?_⟩;apply Array.ext
 ·simp[←h]
 ·intro i h1 h2;have:i=0:=oM;subst this;rfl
theorem tabI{A:Nat→Prop}{w:World}(hg:∀g cs,YK g=some cs→JAx A w g cs):Lib.TabIs Tryz.prog w "internal/strconv.uint64pow10" .u64 Lib.pow10Tab:=by
 obtain⟨h0,C,T,fr,h1,h2,h3,h4⟩:=hg 3 JGt rfl;have hn:Tryz.prog.globalNamed "internal/strconv.uint64pow10" =some 3:=kR;unfold Lib.TabIs World.var?;rw[hn];simp only[Option.bind_some,h1,Vd];have hlen:JGt.length=20:=by simp[JGt]
 apply Array.ext
 ·rw[←h2,hlen];simp[Lib.pow10Tab]
 ·intro i hi hi';have hi20:i<20:=by rw[←h2,hlen]at hi;exact hi
  have e1:JGt[i]? =some (.int .u64 ((10^i:Nat):Int)):=by simp[JGt,hi20]
  have:=h4 i _ C[i] e1 sP;generalize C[i]=v at this;cases this;simp[Lib.pow10Tab]
theorem call110(n:Int)(h0: -9223372036854775808≤n)(h1:n≤9223372036854775807):CT 110 [.d (.int .i64 n)] [] (.d (.str (Lib.itoa n))) []:=by
 refine JC.JGQ (ds:=[.int .i64 n]) (hasT Tryz.func110 kR kR) ?_;intro A w vs hg hl hv;obtain⟨x,rfl⟩:=JLA hl;have hx:=hv 0 _ x rfl rfl;cases hx with
 |int=>
  refine(Any.strconv_Itoa Tryz.JSJ n h0 h1 w (tabI hg)).mono ?_;rintro e w' ⟨rfl,k,os,rfl⟩;refine⟨_,rfl,?_,fun β H=>.d _ _ (.str _ ?_)⟩
  ·refine⟨rfl,rfl,rfl,by simp[Sort.grow],fun i hi=>?_⟩;show((w.drewN k).heap++os)[i]? =_;rw[Array.getElem?_append_left (by show i<w.heap.size;omega)];rfl
  ·have:=Lib.itoa_length_le n h0 h1;omega
end Go.Proofs
namespace Go.Proofs
open Go Av
open Av.Y
end Go.Proofs
namespace Go.Proofs
open Go Av
theorem Con.rl{P:Program}{f:Nat}{ds cs:List Dat}{r:Dat}(h:Con P f (ds.map .d++[.ref 1000 0]) [(1000,.box (cs.map .d))] (.d r) [])(i:Nat):
  JC P f (ds.map .d++[.ref i 0]) [(i,some (.box (cs.map .d)))] (.d r) []:=by
 have h1:∀j,(get [(1000,Obj.box (cs.map .d))] j).isSome=true→j=1000:=by
  intro j hj;simp only[Av.get]at hj;split at hj
  ·rename_i e;exact e.symm
  ·cases hj
 have:=h.call (fun _=>i) (fun j hj=>by rw[h1 j hj];decide) (fun a b ha hb _=>by rw[h1 a ha,h1 b hb]) ?_ (Zr _ _) [] sP (Zr _ _) trivial
 ·have e:(ds.map Av.d).map (Av.ren fun _=>i)=ds.map Av.d:=by
   rw[List.map_map];exact List.map_congr_left fun x _=>by simp[Av.ren]
  simpa[Av.ren,Obj.ren,JJw,e]using this
 ·intro c hc;rcases List.mem_append.1 hc with hc|hc
  ·obtain⟨x,_,rfl⟩:=VC.1 hc;trivial
  ·rw[List.mem_singleton.1 hc];rfl
theorem JG0(l:List Part):JK (l.map encP)=l.map encP:=by
 rw[Ub,List.map_map];exact List.map_congr_left fun p _=>by simp[encP,Dat.canon,JK]
attribute [go_sem] JG0
end Go.Proofs
namespace Go.Proofs
open Go Av
open Av.Y
def ir54:Ic:=q (R (ox 2 0<|ox 3 1<|oz 4 0<|N) [0,1,4])<|q (R (of 5 2 5<|ol 6 5<|oo 7 (.fnv (.func 90) [] [t 3])<|cl 8 89 [t 6,t 7]<|om 4 8<|N) [2,3,5,6,7,8])<|.ret
theorem ok54:FT 54 9 ir54 [.tmp 4]:=.o Tryz.func54
def ir90:Ic:=q (R (ox 2 0<|ow 3 false<|N) [0,3])<|q (R (of 4 2 0<|ol 5 4<|ol 6 1<|ot 7 .seq 5 6<|om 3 7<|N) [2,4,5,6,7])<|.ret
theorem ok90:FT 90 8 ir90 [.tmp 3]:=.o Tryz.func90
def ir89:Ic:=q (R (oz 4 0<|N) [4])<|q (q (R (om 6 0<|oh 7 6<|oz 8 0<|N) [6])<|D (.block 0<|.loop (q (.reg (ot 9 .lss 8 7<|N))<|q (D (I 9 S (E 0)) [9])<|q (D (.block 1<|q (R (om 10 8<|om 5 10<|N) [10])<|q (R (om 11 1<|om 12 0<|om 13 5<|oa true 14 7 12 13<|oL 15 7 14<|.call (some 16) (.dyn (t 11)) [t 15] N) [11,12,13,14,15])<|D (I 16 (q (R (om 17 5<|om 4 17<|N) [0,1,7,8,5,16,17])<|.ret) S) [5,16]) [])<|R (oi 18 .add 8 1<|om 8 18<|N) [18])) [0,1,7,8,9,10,5,11])<|q (.reg (oz 4 (-1)<|N))<|.ret
theorem ok89:FT 89 19 ir89 [.tmp 4]:=.o Tryz.func89
def ir25:Ic:=q (R (ox 2 0<|oN 4 y6<|ow 5 false<|N) [0,5])<|q (R (oL 7 6 2<|om 8 1<|cl 9 54 [t 7,t 8]<|om 6 9<|N) [1,7,8,9])<|q (q (R (of 10 2 0<|ol 11 10<|oi 12 .neq 11 9<|om 13 12<|.sc 13 false (om 14 6<|oi 15 .lss 14 0<|N) (t 15) 16 N) [10,11,12,13])<|D (I 16 (q (R (oo 17 (.bld y6 [])<|oS 6 4 17<|ow 5 false<|N) [2,6,16,17])<|.ret) S) [16])<|q (R (of 18 2 5<|ol 19 18<|om 20 6<|oa true 21 7 19 20<|of 22 21 1<|oL 23 6 22<|cl 24 49 [t 23]<|oS 6 4 24<|ow 5 true<|N) [2,6,18,19,20,21,22,23,24])<|.ret
theorem ok25:FT 25 25 ir25 [.cell 4 (some 6),.tmp 5]:=.o Tryz.func25
def ir422:Ic:=q (R (ox 2 0<|ox 3 1<|oN 4 yG<|ow 5 false<|N) [0,1,5])<|q (R (oL 6 7 2<|oo 7 (.fnv (.func 525) [] [t 3])<|cl 8 524 [t 6,t 7]<|oe 9 8 0<|oe 10 8 1<|oS 11 4 9<|om 5 10<|N) [2,3,6,7,8,9,10])<|.ret
theorem ok422:FT 422 11 ir422 [.cell 4 (some 11),.tmp 5]:=.o Tryz.func422
def ir524:Ic:=q (R (ox 2 0<|oN 4 yG<|ow 5 false<|N) [0,5])<|q (q (R (of 7 2 0<|ol 8 7<|oi 9 .neq 8 9<|om 10 9<|.sc 10 true (of 11 2 0<|ol 12 11<|oi 13 .neq 12 10<|N) (t 13) 14 N) [7,8,9,10])<|D (I 14 (q (R (oo 15 (.bld yG [])<|oS 11 4 15<|ow 5 false<|N) [1,2,14,15])<|.ret) S) [14])<|q (R (of 16 2 6<|ol 17 16<|om 18 1<|cl 19 206 [t 17,t 18]<|om 6 19<|N) [1,16,17,18,19])<|q (q (R (om 20 6<|oi 21 .lss 20 0<|N) [20])<|D (I 21 (q (R (oo 22 (.bld yG [])<|oS 11 4 22<|ow 5 false<|N) [2,6,21,22])<|.ret) S) [21])<|q (R (of 23 2 6<|ol 24 23<|om 25 6<|oa true 26 11 24 25<|oL 27 11 26<|cl 28 144 [t 27]<|oS 11 4 28<|ow 5 true<|N) [2,6,23,24,25,26,27,28])<|.ret
theorem ok524:FT 524 29 ir524 [.cell 4 (some 11),.tmp 5]:=.o Tryz.func524
def ir525:Ic:=q (R (ox 2 0<|ow 3 false<|N) [0,3])<|q (R (of 4 2 1<|ol 5 4<|ol 6 1<|ot 7 .seq 5 6<|om 3 7<|N) [2,4,5,6,7])<|.ret
theorem ok525:FT 525 8 ir525 [.tmp 3]:=.o Tryz.func525
end Go.Proofs
namespace Go.Proofs
open Go Av
def ixF(q:Fld→Bool)(l:List Fld):Int:=match l.findIdx? q with
 |some k=>(k:Int)
 |none=> -1
theorem walk89{g:Nat}{cs:List Dat}{q:Fld→Bool}(hq:∀x,PT g [Xf x,.ptr cs] (.d (.bool (q x))))(l:List Fld)(hl:l.length≤68719476736):
  PT 89 [.list 7 (l.map Xf),JBY g cs] (.d (.int .i64 (ixF q l))):=by
 refine ok89.pc ?_;simp only[go_sem,ir89,Vc,simprocAttr];refine JH (fun n s=>∃k:Nat,k≤l.length∧n=l.length-k∧(∀(j:Nat) (h1:j<l.length),j<k→q l[j]=false)∧
  s=⟨[(0,.d (.list 7 (l.map Xf))),(1,.d (JBY g cs)),(7,.d (.int .i64 l.length)),(8,.d (.int .i64 k))],[]⟩) ?_ ?_
 ·exact⟨_,_,Wk.refl _,0,Nat.zero_le _,rfl,sP,rfl⟩
 ·rintro n s ⟨k,hk,rfl,hinv,rfl⟩;by_cases hlt:k<l.length
  ·have hx:=Yq hlt;have hd:=dT hlt;have hc:=(hq l[k]).call trivial;rw[Zk]at hc;refine zz6 ?_;refine⟨oM,wn hc ?_⟩;refine zz ?_;apply ik<;>intro hf
   ·have:l.findIdx? q=some k:=by
     rw[List.findIdx?_eq_some_iff_getElem];exact⟨hlt,hf,fun j hj=>by rw[hinv j oM hj];decide⟩
    simp only[ixF,this]
   ·refine⟨l.length-(k+1),_,oM,Wk.less ?_,k+1,oM,rfl,?_,rfl⟩
    ·exact zz7 trivial
    ·intro j h1 hj;by_cases e:j=k
     ·subst e;exact hf
     ·exact hinv j h1 oM
  ·have hd:=dF hlt;refine zz5 ?_;have:l.findIdx? q=none:=by
    rw[List.findIdx?_eq_none_iff];intro x hx;obtain⟨j,hj,rfl⟩:=List.getElem_of_mem hx;exact hinv j hj oM
   simp only[ixF,this]
theorem ixF_bd{q:Fld→Bool}{l:List Fld}: -1≤ixF q l∧ixF q l<l.length:=by
 unfold ixF;cases e:l.findIdx? q with
 |none=>simp only;omega
 |some k=>
  obtain⟨h,_⟩:=List.findIdx?_eq_some_iff_getElem.1 e;simp only;omega
theorem walk90(x:Fld)(n:Str):PT 90 [Xf x,.ptr [.str n]] (.d (.bool (x.name==n))):=by
 refine ok90.pc ?_;rw[Zk];simp only[go_sem,ir90,Nat.reduceAdd,Nat.reduceEqDiff,Nat.reduceBEq,Nat.reduceLeDiff,reduceCtorEq,↓reduceIte];exact Nat.one_pos
def ixN(n:Str)(l:List Fld):Int:=ixF (fun f=>f.name==n) l
theorem walk54(v:Val)(n:Str)(hl:v.fields.length≤68719476736):PT 54 [JQ v,.str n] (.d (.int .i64 (ixN n v.fields))):=by
 refine ok54.pc ?_;have hc:=JC.clo (ds:=[.list 7 (v.fields.map Xf)]) (walk89 (fun x=>walk90 x n) v.fields hl) rfl 3;simp only[Va,Vb,List.cons_append,List.nil_append]at hc;rw[JG];simp only[go_sem,ir54,simprocAttr];refine wn hc ?_;simp only[go_sem,ixN,simprocAttr]
theorem JF9{s:Str}(h:YG s=true):s.length≤32:=by
 simp only[YG,Vi,Bool.not_eq_true',Bool.or_eq_false_iff,decide_eq_false_iff_not]at h;omega
mutual
def szV:Val→Nat
 |.mk _ _ _ _ l f=>1+ZG l+JIV f
def ZG:List Val→Nat
 |[]=>0
 |v::r=>szV v+ZG r
def JIV:List Fld→Nat
 |[]=>0
 |.mk _ v::r=>szV v+JIV r
end
theorem JG1(v:Val):szV v=1+ZG v.list+JIV v.fields:=by cases v;rfl
theorem JIW:∀{l:List Val} {x:Val},x∈l→szV x≤ZG l
 |v::r,x,h=>by
  rcases VA.1 h with rfl|h
  ·simp only[ZG];omega
  ·have:=JIW h;simp only[ZG];omega
end Go.Proofs
namespace Go.Proofs
open Go Av
open Av.Y
def ir13:Ic:=q (R (ox 1 0<|ow 2 false<|N) [0,2])<|q (R (of 3 1 0<|ol 4 3<|oi 5 .eql 4 0<|om 6 5<|.sc 6 true (of 7 1 1<|ol 8 7<|oi 9 .eql 8 0<|N) (t 9) 10 (om 11 10<|.sc 11 true (of 12 1 2<|ol 13 12<|oi 14 .eql 13 0<|N) (t 14) 15 (om 16 15<|.sc 16 true (of 17 1 3<|ol 18 17<|ob 19 .seq (t 18) (.k (.str []))<|N) (t 19) 20 (om 21 20<|.sc 21 true (of 22 1 4<|ol 23 22<|oh 24 23<|oi 25 .eql 24 0<|N) (t 25) 26 (om 27 26<|.sc 27 true (of 28 1 5<|ol 29 28<|oh 30 29<|oi 31 .eql 30 0<|N) (t 31) 32 (om 2 32<|N)))))) [1,3,4,5,6,10,11,15,16,20,21,26,27,32])<|.ret
theorem ok13:FT 13 33 ir13 [.tmp 2]:=.o Tryz.func13
def JJx:Ic:=q (R (om 5 11<|N) [10,11])<|R (oN 6 y6<|oS 6 6 12<|N) [12]
def JG2:Ic:=D (.block 1<|q (R (ol 13 4<|oi 14 .add 13 1<|os 4 14<|N) [13,14])<|q (D (.block 2<|q (R (ol 16 4<|oi 17 .gtr 16 4096<|om 15 17<|N) [4,16,17])<|I 15 (q (R (on (.sto none (t 2) (i 9))<|N) [2,3,5,6,15])<|.ret) (q (R (om 19 5<|oi 20 .gtr 19 8<|om 18 20<|N) [5,15,19,20])<|I 18 (q (R (on (.sto none (t 2) (i 23))<|N) [2,3,6,18])<|.ret) (q (R (oL 22 6 6<|cl 23 13 [t 22]<|om 21 23<|N) [18,22,23])<|I 21 (q (R (on (.sto none (t 2) (i 19))<|N) [2,3,6,21])<|.ret) (q (R (of 25 6 0<|ol 26 25<|oi 27 .lss 26 1<|om 28 27<|.sc 28 false (of 29 6 0<|ol 30 29<|oi 31 .gtr 30 10<|N) (t 31) 32 (om 24 32<|N)) [21,25,26,27,28,29,30,31,32])<|I 24 (q (R (on (.sto none (t 2) (i 11))<|N) [2,3,6,24])<|.ret) (q (R (oL 34 6 6<|cl 35 419 [t 34]<|og 36 35<|om 33 36<|N) [24,34,35,36])<|D (I 33 (q (R (on (.sto none (t 2) (i 3))<|N) [2,3,6,33])<|.ret) S) [33]))))) [4,5,16,17,15,19,20,18,22,23,21,25,26,27,28,29,30,31,32,24,34,35,36,33])<|q (R (of 37 6 0<|ol 38 37<|oo 39 (.ixr 11 1 (t 3) (t 38))<|ol 40 39<|oL 41 6 6<|.call (some 42) (.dyn (t 40)) [t 41] (om 7 42<|N)) [3,6,37,38,39,40,41,42])<|q (R (om 43 7<|oi 44 .neq 43 0<|N) [43])<|D (I 44 (q (R (om 45 7<|os 2 45<|N) [2,7,44,45])<|.ret) S) [2,7,44]) [2,3,4,5,6,13,14,16,17,15,19,20,18,22,23,21,25,26,27,28,29,30,31,32,24,34,35,36,33,37,38,39,40,41,42,7,43,44,45]
noncomputable def ir328:Ic:=q (R (ox 1 0<|oN 2 [.int .i64 0]<|N) [0])<|q (R (cl 8 417 []<|oN 3 [.nilFn,.nilFn,.nilFn,.nilFn,.nilFn,.nilFn,.nilFn,.nilFn,.nilFn,.nilFn,.nilFn]<|oS 11 3 8<|N) [8])<|q (.reg (oN 4 [.int .i64 0]<|on (.sto none (t 4) (i 0))<|N))<|q (q (R (oL 9 6 1<|cl 10 418 [t 9]<|N) [1,9])<|D (.block 0<|D (.rng (t 10) 46 57 #[11,12] (ZD (YO Tryz.f328) [1,1,1,0,1,0,0]) (ZD (YO Tryz.f328) [1,1,1,0,1,0,1]) JJx JG2) [3,4,10]) [3,4,10])<|q (.reg (on (.sto none (t 2) (i 0))<|N))<|.ret
theorem ok328:FT 328 46 ir328 [.cell 2 none]:=.o Tryz.func328
def ir417:Ic:=q (.reg (oN 0 [.nilFn,.nilFn,.nilFn,.nilFn,.nilFn,.nilFn,.nilFn,.nilFn,.nilFn,.nilFn,.nilFn]<|N))<|q (R (oo 1 (.bld [.nilFn,.nilFn,.nilFn,.nilFn,.nilFn,.nilFn,.nilFn,.nilFn,.nilFn,.nilFn,.nilFn] [(1,1,.k (.fn (.func 508) [] [])),(2,1,.k (.fn (.func 510) [] [])),(3,1,.k (.fn (.func 511) [] [])),(4,1,.k (.fn (.func 513) [] [])),(5,1,.k (.fn (.func 515) [] [])),(6,1,.k (.fn (.func 516) [] [])),(7,1,.k (.fn (.func 517) [] [])),(8,1,.k (.fn (.func 518) [] [])),(9,1,.k (.fn (.func 519) [] [])),(10,1,.k (.fn (.func 520) [] []))])<|oS 11 0 1<|N) [1])<|.ret
theorem ok417:FT 417 2 ir417 [.cell 0 (some 11)]:=.o Tryz.func417
def ir418:Ic:=q (R (ox 1 0<|ok 2 (.k .nilFn)<|N) [0,2])<|q (R (oo 3 (.fnv (.func 521) [] [t 1])<|om 2 3<|N) [1,3])<|.ret
theorem ok418:FT 418 4 ir418 [.tmp 2]:=.o Tryz.func418
def ir419:Ic:=q (R (ox 1 0<|ow 2 false<|N) [0,2])<|q (R (of 6 1 0<|ol 7 6<|oi 8 .eql 7 1<|om 9 8<|.sc 9 false (of 10 1 0<|ol 11 10<|oi 12 .eql 11 2<|N) (t 12) 13 (om 14 13<|.sc 14 false (of 15 1 0<|ol 16 15<|oi 17 .eql 16 6<|N) (t 17) 18 (om 19 18<|.sc 19 false (of 20 1 0<|ol 21 20<|oi 22 .eql 21 7<|N) (t 22) 23 (om 24 23<|.sc 24 false (of 25 1 0<|ol 26 25<|oi 27 .eql 26 3<|N) (t 27) 28 (om 3 28<|N))))) [6,7,8,9,13,14,18,19,23,24,28])<|q (R (of 29 1 0<|ol 30 29<|oi 31 .eql 30 4<|om 32 31<|.sc 32 false (of 33 1 0<|ol 34 33<|oi 35 .eql 34 5<|N) (t 35) 36 (om 37 36<|.sc 37 false (of 38 1 0<|ol 39 38<|oi 40 .eql 39 10<|N) (t 40) 41 (om 4 41<|N))) [29,30,31,32,36,37,41])<|q (R (of 42 1 0<|ol 43 42<|oi 44 .eql 43 8<|om 45 44<|.sc 45 false (of 46 1 0<|ol 47 46<|oi 48 .eql 47 10<|N) (t 48) 49 (om 5 49<|N)) [42,43,44,45,49])<|q (R (om 50 3<|om 51 50<|.sc 51 false (of 52 1 1<|ol 53 52<|oi 54 .eql 53 0<|N) (t 54) 55 (om 56 55<|.sc 56 true (of 57 1 0<|ol 58 57<|oi 59 .eql 58 3<|om 60 59<|.sc 60 false (of 61 1 2<|ol 62 61<|oi 63 .eql 62 0<|N) (t 63) 64 N) (t 64) 65 (om 66 65<|.sc 66 true (om 67 4<|om 68 67<|.sc 68 false (of 69 1 3<|ol 70 69<|ob 71 .seq (t 70) (.k (.str []))<|N) (t 71) 72 N) (t 72) 73 (om 74 73<|.sc 74 true (om 75 5<|om 76 75<|.sc 76 false (of 77 1 4<|ol 78 77<|oh 79 78<|oi 80 .eql 79 0<|N) (t 80) 81 N) (t 81) 82 (om 83 82<|.sc 83 true (of 84 1 0<|ol 85 84<|oi 86 .eql 85 9<|om 87 86<|.sc 87 false (of 88 1 5<|ol 89 88<|oh 90 89<|oi 91 .eql 90 0<|N) (t 91) 92 N) (t 92) 93 (om 2 93<|N)))))) [1,3,4,5,50,51,55,56,65,66,73,74,82,83,93])<|.ret
theorem ok419:FT 419 94 ir419 [.tmp 2]:=.o Tryz.func419
def ir508:Ic:=q (R (ox 1 0<|oz 2 0<|N) [0,2])<|q (R (of 3 1 1<|ol 4 3<|cl 5 509 [t 4,i 0,i 1]<|om 2 5<|N) [1,3,4,5])<|.ret
theorem ok508:FT 508 6 ir508 [.tmp 2]:=.o Tryz.func508
def ir509:Ic:=q (R (oz 6 0<|N) [6])<|q (q (R (om 7 0<|om 8 1<|ot 9 .lss 7 8<|om 10 9<|.sc 10 false (om 11 0<|om 12 2<|ot 13 .gtr 11 12<|N) (t 13) 14 N) [0,1,2,7,8,9,10])<|D (I 14 (q (R (oz 6 2<|N) [14])<|.ret) S) [14])<|q (.reg (oz 6 0<|N))<|.ret
theorem ok509:FT 509 15 ir509 [.tmp 6]:=.o Tryz.func509
def ir510:Ic:=q (R (ox 1 0<|oz 2 0<|N) [0,2])<|q (R (of 3 1 1<|ol 4 3<|cl 5 509 [t 4,i (-999999999999999),i 999999999999999]<|om 2 5<|N) [1,3,4,5])<|.ret
theorem ok510:FT 510 6 ir510 [.tmp 2]:=.o Tryz.func510
def ir511:Ic:=q (R (ox 1 0<|oz 2 0<|N) [0,2])<|q (D (.regd [(2,4)] (of 3 1 1<|ol 4 3<|cl 5 509 [t 4,i (-999999999999999),i 999999999999999]<|of 6 1 2<|ol 7 6<|cl 8 509 [t 7,i 0,i 12]<|oo 9 (.bls 1 [t 5,t 8])<|cl 10 512 [t 9]<|om 2 10<|N)) [1,3,4,5,6,7,8,9,10])<|.ret
theorem ok511:FT 511 11 ir511 [.tmp 2]:=.o Tryz.func511
def ir512:Ic:=q (R (oz 2 0<|N) [2])<|q (q (R (om 5 0<|oh 6 5<|oz 7 0<|N) [0])<|D (.block 0<|.loop (q (.reg (ot 8 .lss 7 6<|N))<|q (D (I 8 S (E 0)) [8])<|q (D (.block 1<|q (R (oa false 9 1 5 7<|ol 10 9<|om 4 10<|N) [9,10])<|q (R (om 11 4<|oi 12 .neq 11 0<|N) [11])<|D (I 12 (q (R (om 13 4<|om 2 13<|N) [5,6,7,4,12,13])<|.ret) S) [4,12]) [])<|R (oi 14 .add 7 1<|om 7 14<|N) [14])) [5,6,7,8,9,10,4,11])<|q (.reg (oz 2 0<|N))<|.ret
theorem ok512:FT 512 15 ir512 [.tmp 2]:=.o Tryz.func512
def ir513:Ic:=q (R (ox 1 0<|oz 2 0<|N) [0,2])<|q (R (of 4 1 3<|ol 5 4<|oj 6 5<|cl 7 514 [t 6,i 1024,i 5]<|om 3 7<|N) [4,5,6,7])<|q (q (R (om 8 3<|oi 9 .eql 8 0<|om 10 9<|.sc 10 true (of 11 1 3<|ol 12 11<|cl 13 292 [t 12]<|og 14 13<|N) (t 14) 15 N) [1,8,9,10])<|D (I 15 (R (oz 3 16<|N) [15]) S) [15])<|q (R (om 16 3<|om 2 16<|N) [3,16])<|.ret
theorem ok513:FT 513 17 ir513 [.tmp 2]:=.o Tryz.func513
def ir514:Ic:=q (R (oz 6 0<|N) [6])<|q (q (R (om 7 0<|om 8 1<|ot 9 .gtr 7 8<|N) [0,1,7,8])<|D (I 9 (q (R (om 10 2<|om 6 10<|N) [2,9,10])<|.ret) S) [2,9])<|q (.reg (oz 6 0<|N))<|.ret
theorem ok514:FT 514 11 ir514 [.tmp 6]:=.o Tryz.func514
def ir515:Ic:=q (R (ox 1 0<|oz 2 0<|N) [0,2])<|q (R (of 3 1 3<|ol 4 3<|oj 5 4<|cl 6 514 [t 5,i 1024,i 5]<|om 2 6<|N) [1,3,4,5,6])<|.ret
theorem ok515:FT 515 7 ir515 [.tmp 2]:=.o Tryz.func515
def ir516:Ic:=q (R (ox 1 0<|oz 2 0<|N) [0,2])<|q (R (of 3 1 1<|ol 4 3<|cl 5 509 [t 4,i (-719162),i 2932896]<|om 2 5<|N) [1,3,4,5])<|.ret
theorem ok516:FT 516 6 ir516 [.tmp 2]:=.o Tryz.func516
def ir517:Ic:=q (R (ox 1 0<|oz 2 0<|N) [0,2])<|q (R (of 3 1 1<|ol 4 3<|cl 5 509 [t 4,i (-62135596800000),i 253402300799999]<|om 2 5<|N) [1,3,4,5])<|.ret
theorem ok517:FT 517 6 ir517 [.tmp 2]:=.o Tryz.func517
def ir518:Ic:=q (R (ox 1 0<|oz 2 0<|N) [0,2])<|q (R (of 3 1 4<|ol 4 3<|oh 5 4<|cl 6 514 [t 5,i 256,i 9]<|om 2 6<|N) [1,3,4,5,6])<|.ret
theorem ok518:FT 518 7 ir518 [.tmp 2]:=.o Tryz.func518
def ir519:Ic:=q (R (ox 1 0<|oz 2 0<|N) [0,2])<|q (q (R (of 6 1 5<|ol 7 6<|oh 8 7<|cl 9 514 [t 8,i 64,i 9]<|om 3 9<|N) [6,7,8,9])<|q (R (om 10 3<|oi 11 .neq 10 0<|N) [10])<|D (I 11 (q (R (om 12 3<|om 2 12<|N) [1,3,11,12])<|.ret) S) [3,11])<|q (q (R (of 13 1 5<|ol 14 13<|oh 15 14<|oz 16 0<|N) [13])<|D (.block 0<|.loop (q (.reg (ot 17 .lss 16 15<|N))<|q (D (I 17 S (E 0)) [17])<|q (D (.block 1<|q (R (om 18 16<|oa true 19 7 14 16<|oL 20 7 19<|oN 5 y7<|om 4 18<|oS 7 5 20<|N) [18,19,20])<|D (.block 2<|q (R (of 22 5 0<|ol 23 22<|cl 24 255 [t 23]<|og 25 24<|om 21 25<|N) [22,23,24,25])<|D (I 21 (q (R (oz 2 12<|N) [1,14,15,16,5,4,21])<|.ret) (q (R (om 27 4<|oi 28 .gtr 27 0<|om 29 28<|.sc 29 true (of 30 5 0<|ol 31 30<|of 32 1 5<|ol 33 32<|om 34 4<|oi 35 .sub 34 1<|oa true 36 7 33 35<|of 37 36 0<|ol 38 37<|ot 39 .seq 31 38<|N) (t 39) 40 (om 26 40<|N)) [21,27,28,29,40])<|D (I 26 (q (R (oz 2 7<|N) [1,14,15,16,5,4,26])<|.ret) (q (R (om 42 4<|oi 43 .gtr 42 0<|om 44 43<|.sc 44 true (of 45 5 0<|ol 46 45<|of 47 1 5<|ol 48 47<|om 49 4<|oi 50 .sub 49 1<|oa true 51 7 48 50<|of 52 51 0<|ol 53 52<|ot 54 .slt 46 53<|N) (t 54) 55 (om 41 55<|N)) [5,4,26,42,43,44,55])<|D (I 41 (q (R (oz 2 24<|N) [1,14,15,16,41])<|.ret) S) [41])) [])) []) []) [])<|R (oi 56 .add 16 1<|om 16 56<|N) [56])) [1,14,15,16,17,5,4])<|q (.reg (oz 2 0<|N))<|.ret
theorem ok519:FT 519 57 ir519 [.tmp 2]:=.o Tryz.func519
def ir520:Ic:=q (R (ox 1 0<|oz 2 0<|N) [0,2])<|q (D (.block 0<|q (R (of 4 1 3<|ol 5 4<|cl 6 255 [t 5]<|og 7 6<|om 3 7<|N) [4,5,6,7])<|D (I 3 (q (R (oz 2 12<|N) [1,3])<|.ret) (q (R (of 9 1 4<|ol 10 9<|oh 11 10<|oi 12 .eql 11 0<|om 8 12<|N) [3,9,10,11,12])<|D (I 8 (q (R (oz 2 4<|N) [1,8])<|.ret) S) [8])) []) [])<|q (R (of 13 1 4<|ol 14 13<|oh 15 14<|cl 16 514 [t 15,i 1,i 3]<|om 2 16<|N) [1,13,14,15,16])<|.ret
theorem ok520:FT 520 17 ir520 [.tmp 2]:=.o Tryz.func520
def JOQ:Ic:=R (oL 3 6 1<|om 4 0<|cl 5 522 [t 3,i 1,t 4]<|N) [0,3,4,5]
theorem JIX:FT 521 6 JOQ []:=.o Tryz.func521
def JLB:Ic:=q (R (ox 3 0<|ow 6 false<|N) [0,6])<|q (q (R (om 9 2<|om 10 1<|oL 11 6 3<|.call (some 12) (.dyn (t 9)) [t 10,t 11] (og 13 12<|N)) [9,10,11,12])<|D (I 13 (q (R (ow 6 false<|N) [1,2,3,13])<|.ret) S) [13])<|q (q (R (oL 14 6 3<|cl 15 570 [t 14]<|oh 16 15<|oz 17 0<|N) [3,14])<|D (.block 0<|.loop (q (.reg (ot 18 .lss 17 16<|N))<|q (D (I 18 S (E 0)) [18])<|q (D (.block 1<|q (R (oa true 19 6 15 17<|oL 20 6 19<|oN 8 y6<|oS 6 8 20<|N) [19,20])<|q (R (oL 21 6 8<|om 22 1<|oi 23 .add 22 1<|om 24 2<|cl 25 522 [t 21,t 23,t 24]<|og 26 25<|N) [8,21,22,23,24,25])<|D (I 26 (q (R (ow 6 false<|N) [1,2,15,16,17,26])<|.ret) S) [26]) [])<|R (oi 27 .add 17 1<|om 17 27<|N) [27])) [1,2,15,16,17,18,8])<|q (.reg (ow 6 true<|N))<|.ret
theorem JIY:FT 522 28 JLB [.tmp 6]:=.o Tryz.func522
def JIZ:Ic:=q (R (ox 1 0<|ok 2 (.k (.nil 6))<|N) [0,2])<|q (q (R (of 6 1 0<|ol 7 6<|N) [6])<|D (.block 0<|q (q (R (oi 9 .eql 7 8<|om 8 9<|N) [9])<|I 8 S (R (oi 10 .eql 7 10<|om 8 10<|N) [10]))<|D (I 8 (q (R (of 11 1 4<|ol 12 11<|om 2 12<|N) [1,7,8,11,12])<|.ret) (q (R (oi 14 .eql 7 9<|om 13 14<|N) [7,8,14])<|D (I 13 (q (R (ok 3 (.k (.nil 6))<|N) [13])<|q (q (R (of 15 1 5<|ol 16 15<|oh 17 16<|oz 18 0<|N) [1,15])<|D (.block 1<|.loop (q (.reg (ot 19 .lss 18 17<|N))<|q (D (I 19 S (E 1)) [19])<|q (D (.block 2<|q (R (oa true 20 7 16 18<|oL 21 7 20<|oN 5 y7<|oS 7 5 21<|N) [20,21])<|R (om 22 3<|of 23 5 1<|oL 24 6 23<|oo 25 (.bls 6 [t 24])<|oo 26 (.app 6 (t 22) (t 25))<|om 3 26<|N) [5,22,23,24,25,26]) [])<|R (oi 27 .add 18 1<|om 18 27<|N) [27])) [16,17,18,19,5])<|q (R (om 28 3<|om 2 28<|N) [3,28])<|.ret) S) [1,13])) []) [10,11,3,5])<|q (.reg (ok 2 (.k (.nil 6))<|N))<|.ret
theorem ok570:FT 570 29 JIZ [.tmp 2]:=.o Tryz.func570
end Go.Proofs
namespace Go.Proofs
open Go Av Go.RowKit
def btw(n lo hi:Int):Int:=if decide (n<lo)||decide (n>hi)then 2 else 0
theorem JAp(n lo hi:Int):PT 509 [.int .i64 n,.int .i64 lo,.int .i64 hi] (.d (.int .i64 (btw n lo hi))):=by
 refine ok509.pc ?_;simp only[go_sem,ir509,simprocAttr];refine sq (decide (n>hi)) ?_ ?_
 ·exact zz trivial
 refine zz ?_;apply ik<;>intro h
 ·rw[btw,if_pos h]
 ·rw[btw,if_neg (by simp[h])]
def szE(n m e:Int):Int:=if decide (n>m)then e else 0
theorem JCJ(n m e:Int):PT 514 [.int .i64 n,.int .i64 m,.int .i64 e] (.d (.int .i64 (szE n m e))):=by
 refine ok514.pc ?_;simp only[go_sem,ir514,simprocAttr];apply ik<;>intro h
 ·rw[szE,if_pos h]
 ·rw[szE,if_neg (by simp[h])]
theorem JTN(v:Val):PT 508 [JQ v] (.d (.int .i64 (btw v.int 0 1))):=by
 refine ok508.pc ?_;rw[JG];simp only[go_sem,ir508,Vc,simprocAttr];refine wc ((JAp _ _ _).call trivial) trivial
theorem JTO(v:Val):PT 510 [JQ v] (.d (.int .i64 (btw v.int (-999999999999999) 999999999999999))):=by
 refine ok510.pc ?_;rw[JG];simp only[go_sem,ir510,Vc,simprocAttr];refine wc ((JAp _ _ _).call trivial) trivial
theorem JTP(v:Val):PT 516 [JQ v] (.d (.int .i64 (btw v.int (-719162) 2932896))):=by
 refine ok516.pc ?_;rw[JG];simp only[go_sem,ir516,Vc,simprocAttr];refine wc ((JAp _ _ _).call trivial) trivial
theorem JTQ(v:Val):PT 517 [JQ v] (.d (.int .i64 (btw v.int (-62135596800000) 253402300799999))):=by
 refine ok517.pc ?_;rw[JG];simp only[go_sem,ir517,Vc,simprocAttr];refine wc ((JAp _ _ _).call trivial) trivial
theorem walk515(v:Val):PT 515 [JQ v] (.d (.int .i64 (szE v.text.length 1024 5))):=by
 refine ok515.pc ?_;rw[JG];simp only[go_sem,ir515,Vc,simprocAttr];refine wc ((JCJ _ _ _).call trivial) trivial
theorem walk518(v:Val):PT 518 [JQ v] (.d (.int .i64 (szE v.list.length 256 9))):=by
 refine ok518.pc ?_;rw[JG];simp only[go_sem,ir518,Vc,simprocAttr];refine wc ((JCJ _ _ _).call trivial) trivial
def JG3:List Int→Int
 |[]=>0
 |x::r=>if x !=0 then x else JG3 r
theorem walk512(l:List Int)(hl:l.length≤68719476736):PT 512 [.list 1 (l.map fun x=>.int .i64 x)] (.d (.int .i64 (JG3 l))):=by
 refine ok512.pc ?_;simp only[go_sem,ir512,Vc,simprocAttr];generalize hR:JG3 l=R;refine JH (fun n s=>∃k:Nat,k≤l.length∧n=l.length-k∧R=JG3 (l.drop k)∧
  s=⟨[(5,.d (.list 1 (l.map fun x=>.int .i64 x))),(6,.d (.int .i64 l.length)),(7,.d (.int .i64 k))],[]⟩) ?_ ?_
 ·exact⟨_,_,Wk.refl _,0,Nat.zero_le _,rfl,hR.symm,rfl⟩
 ·rintro n s ⟨k,hk,rfl,hinv,rfl⟩;by_cases hlt:k<l.length
  ·have hx:nth (l.map fun x=>Dat.int .i64 x) k=.int .i64 l[k]:=by rw[U3 (sX hlt)];simp
   have hd:=dT hlt;rw[Vq hlt,JG3]at hinv;refine zz6 ?_;refine⟨oM,dC,fun hf=>?_,fun hf=>?_⟩
   ·rw[if_pos hf]at hinv;rw[hinv]
   ·rw[if_neg (by simp[hf])]at hinv;refine⟨l.length-(k+1),_,oM,Wk.less ?_,k+1,oM,rfl,hinv,rfl⟩;exact zz7 trivial
  ·have hd:=dF hlt;obtain rfl:k=l.length:=oM;rw[List.drop_length,JG3]at hinv;simp only[go_sem,hd,hinv,simprocAttr]
theorem walk511(v:Val):PT 511 [JQ v] (.d (.int .i64 (JG3 [btw v.int (-999999999999999) 999999999999999,btw v.scale 0 12]))):=by
 refine ok511.pc ?_;rw[JG];simp only[go_sem,ir511,simprocAttr];refine JP rfl ((JAp _ _ _).call trivial) trivial ?_;refine zz ?_;refine JP rfl ((JAp _ _ _).call trivial) trivial ?_;refine zz ?_;refine⟨sP,?_⟩;refine JP rfl ((walk512 [btw v.int (-999999999999999) 999999999999999,btw v.scale 0 12] sP).call trivial) trivial ?_;refine zz ?_;rfl
def JOR(v:Val):Bool:=(v.kind==0)&&(v.int==0)&&(v.scale==0)&&(v.text==[])&&(((v.list.length:Nat):Int)==0)&&(((v.fields.length:Nat):Int)==0)
theorem JOS(v:Val):PT 13 [JQ v] (.d (.bool (JOR v))):=by
 refine ok13.pc ?_;rw[JG];simp only[go_sem,ir13,simprocAttr];refine sq (v.int==0) ?_ ?_
 ·exact zz trivial
 refine zz ?_;refine sq (v.scale==0) ?_ ?_
 ·exact zz trivial
 refine zz ?_;refine sq (v.text==[]) ?_ ?_
 ·exact zz trivial
 refine zz ?_;refine sq (((v.list.length:Nat):Int)==0) ?_ ?_
 ·exact zz4 trivial
 refine zz ?_;refine sq (((v.fields.length:Nat):Int)==0) ?_ ?_
 ·exact zz4 trivial
 simp only[go_sem,JOR,simprocAttr]
def useN(v:Val):Bool:=(v.kind==1)||(v.kind==2)||(v.kind==6)||(v.kind==7)||(v.kind==3)
def useT(v:Val):Bool:=(v.kind==4)||(v.kind==5)||(v.kind==10)
def useL(v:Val):Bool:=(v.kind==8)||(v.kind==10)
def JEo(v:Val):Bool:=(useN v||(v.int==0))&&((v.kind==3)||(v.scale==0))&&(useT v||(v.text==[]))&&(useL v||(((v.list.length:Nat):Int)==0))&&((v.kind==9)||(((v.fields.length:Nat):Int)==0))
theorem walk419(v:Val):PT 419 [JQ v] (.d (.bool (JEo v))):=by
 refine ok419.pc ?_;rw[JG];simp only[go_sem,ir419,simprocAttr];refine sq (v.kind==2) ?_ ?_
 ·exact zz trivial
 refine zz ?_;refine sq (v.kind==6) ?_ ?_
 ·exact zz trivial
 refine zz ?_;refine sq (v.kind==7) ?_ ?_
 ·exact zz trivial
 refine zz ?_;refine sq (v.kind==3) ?_ ?_
 ·exact zz trivial
 refine zz ?_;refine sq (v.kind==5) ?_ ?_
 ·exact zz trivial
 refine zz ?_;refine sq (v.kind==10) ?_ ?_
 ·exact zz trivial
 refine zz ?_;refine sq (v.kind==10) ?_ ?_
 ·exact zz trivial
 refine zz ?_;refine sq (v.int==0) ?_ ?_
 ·exact zz trivial
 refine zz ?_;refine sq ((v.kind==3)||(v.scale==0)) ?_ ?_
 ·refine zz ?_;refine sq (v.scale==0) ?_ ?_
  ·exact zz trivial
  exact zz trivial
 refine zz ?_;refine sq (useT v||(v.text==[])) ?_ ?_
 ·refine zz ?_;refine sq (v.text==[]) ?_ ?_
  ·exact zz trivial
  simp only[go_sem,useT,simprocAttr]
 refine zz ?_;refine sq (useL v||(((v.list.length:Nat):Int)==0)) ?_ ?_
 ·refine zz ?_;refine sq (((v.list.length:Nat):Int)==0) ?_ ?_
  ·exact zz4 trivial
  simp only[go_sem,useL,simprocAttr]
 refine zz ?_;refine sq ((v.kind==9)||(((v.fields.length:Nat):Int)==0)) ?_ ?_
 ·refine zz ?_;refine sq (((v.fields.length:Nat):Int)==0) ?_ ?_
  ·exact zz4 trivial
  exact zz trivial
 simp only[go_sem,JEo,useN,simprocAttr]
def Uq(v:Val):List Val:=if v.kind=8∨v.kind=10 then v.list else if v.kind=9 then v.fields.map Fld.value else[]
theorem JEp(v:Val)(h:v.list.length≤68719476736)(h2:v.fields.length≤68719476736):(Uq v).length≤68719476736:=by
 unfold Uq;split
 ·exact h
 ·split
  ·simpa using h2
  ·simp
theorem JLC(v:Val)(h2:v.fields.length≤68719476736):PT 570 [JQ v] (.d (.list 6 ((Uq v).map JQ))):=by
 refine ok570.pc ?_;rw[JG];by_cases h:v.kind=8∨v.kind=10
 ·have hp:Uq v=v.list:=by unfold Uq;rw[if_pos h]
  rw[hp];rcases h with h|h
  ·rw[h];simp only[go_sem,JIZ,beq_self_eq_true,simprocAttr]
  ·rw[h];have q:((10:Int)==8)=false:=rfl;simp only[go_sem,JIZ,q,beq_self_eq_true,simprocAttr]
 ·have q8:(v.kind==8)=false:=sO;have q10:(v.kind==10)=false:=sO;by_cases h9:v.kind=9
  ·have hp:Uq v=v.fields.map Fld.value:=by unfold Uq;rw[if_neg h,if_pos h9]
   rw[hp];have q9:(v.kind==9)=true:=by simp[h9]
   simp only[go_sem,JIZ,q8,q9,q10,Vc,simprocAttr];refine JH (fun n s=>∃k:Nat,k≤v.fields.length∧n=v.fields.length-k∧
    s=⟨[(3,.ms 26 k),(16,.d (.list 7 (v.fields.map Xf))),(17,.d (.int .i64 v.fields.length)),(18,.d (.int .i64 k))],[(26,.row k 6 (((v.fields.take k).map Fld.value).map JQ))]⟩) ?_ ?_
   ·refine⟨_,_,(Wk.JJM 3 26 6 rfl rfl dC).trans (Wk.less ?_),0,Nat.zero_le _,rfl,rfl⟩;simp[put,go_sem]
   ·rintro n s ⟨k,hk,rfl,rfl⟩;by_cases hlt:k<v.fields.length
    ·have hx:=Yq hlt;have hd:=dT hlt;refine zz6 ?_;refine⟨⟨oM,oM⟩,sP,sO,v.fields.length-(k+1),_,oM,Wk.less ?_,k+1,oM,rfl,rfl⟩;simp only[go_sem,Jg k oM,List.take_succ_eq_append_getElem hlt,Vw,Va,Vb,JG,simprocAttr]
    ·have hd:=dF hlt;obtain rfl:k=v.fields.length:=oM;exact zz14 trivial
  ·have hp:Uq v=[]:=by unfold Uq;rw[if_neg h,if_neg h9]
   rw[hp];have q9:(v.kind==9)=false:=by simp[h9]
   simp only[go_sem,JIZ,q8,q9,q10,Vb,simprocAttr]
end Go.Proofs
namespace Go.Proofs
open Go Av
open Av.Y
end Go.Proofs
namespace Go.Proofs
open Go Av
open Av.Y
end Go.Proofs
namespace Go.Proofs
open Go Av
def zeroV:Val:=.mk 0 0 0 [] [] []
end Go.Proofs
namespace Go.Proofs
open Go Av
open Av.Y
end Go.Proofs
namespace Go.Proofs
open Go Av
end Go.Proofs
namespace Go.Proofs
open Go Av
open Av.Y
end Go.Proofs
namespace Go.Proofs
open Go Av
end Go.Proofs
namespace Go.Proofs
open Go Av
open Av.Y
def ir415:Ic:=q (.reg (oN 2 y6<|N))<|q (R (om 3 0<|oo 4 (.bld y6 [(0,1,i 4),(3,1,t 3)])<|oS 6 2 4<|N) [0,3,4])<|.ret
theorem ok415:FT 415 5 ir415 [.cell 2 (some 6)]:=.o Tryz.func415
end Go.Proofs
namespace Go.Proofs
open Go Av
theorem JG4{v:Val}(h:fits (JQ v)):v.text.length≤68719476736∧v.list.length≤68719476736∧v.fields.length≤68719476736:=by
 rw[JG]at h;simp only[fits,Ue,Vc,and_true]at h;exact⟨h.2.2.2.1,h.2.2.2.2.1.1,h.2.2.2.2.2.1⟩
theorem walk415(s:Str):PT 415 [.str s] (.d (JQ (.mk 4 0 0 s [] []))):=by
 refine ok415.pc ?_;simp only[go_sem,ir415,simprocAttr];rfl
end Go.Proofs
namespace Go.Proofs
open Go Av
open Av.Y
end Go.Proofs
namespace Go.Proofs
open Go Av
end Go.Proofs
namespace Go.Proofs
open Go Av Go.RowKit
theorem JJy{v:Val}(h:fits (JQ v)):v.text.length≤68719476736∧v.list.length≤68719476736∧v.fields.length≤68719476736∧(∀x∈v.list,fits (JQ x))∧∀f∈v.fields,f.name.length≤68719476736∧fits (JQ f.value):=by
 rw[JG]at h;simp only[fits,Ue,Vc,and_true]at h;obtain⟨_,_,_,h1,⟨h2,h3⟩,h4,h5⟩:=h;refine⟨h1,h2,h4,fun x hx=>UC.1 h3 _ (VC.2 ⟨x,hx,rfl⟩),fun f hf=>?_⟩;have:=UC.1 h5 _ (VC.2 ⟨f,hf,rfl⟩);rw[Zk]at this;simp only[fits,Ue,and_true]at this;refine⟨this.1,?_⟩;rw[JG];simp only[fits,Ue,and_true];exact this.2
theorem u8Of{A:Nat→Prop}{w:World}{g:Nat}{cs:List Dat}(h:JAx A w g cs)(j:Nat)(n:Int)(hj:cs[j]? =some (.int .u8 n)):w.cell? ⟨g,j,none⟩=some (.int .u8 n):=by
 obtain⟨h0,C,T,fr,h1,h2,h3,h4⟩:=h;have hlt:j<C.size:=by rw[←h2];exact(VB.1 hj).1
 have:=h4 j _ C[j] hj (by simp[hlt]);generalize hz:C[j]=z at this;cases this;simp[World.cell?,h1,hlt,hz]
theorem utabs{A:Nat→Prop}{w:World}(hg:∀g cs,YK g=some cs→JAx A w g cs):Lib.Utf8Tabs 1 2 w:=by
 have h0:=hg 1 JIC rfl;have h1:=hg 2 JGs rfl;refine⟨fun c hc=>u8Of h0 c _ (by simp[JIC,hc]),fun i hi=>?_⟩;have e0:JGs[2*i]? =some (.int .u8 (Lib.accLo i))∧JGs[2*i+1]? =some (.int .u8 (Lib.accHi i)):=by
  match i,hi with
  |0,_|1,_|2,_|3,_|4,_|5,_|6,_|7,_|8,_|9,_|10,_|11,_|12,_|13,_|14,_|15,_=>exact⟨rfl,rfl⟩
  |n+16,h=>omega
 exact⟨u8Of h1 _ _ e0.1,u8Of h1 _ _ e0.2⟩
def JCn(s:Str):Bool:=Lib.validD s
theorem call292(s:Str):CT 292 [.d (.str s)] [] (.d (.bool (JCn s))) []:=by
 refine JC.JGQ (ds:=[.str s]) (hasT Tryz.func292 kR kR) ?_;intro A w vs hg hl hv;obtain⟨x,rfl⟩:=JLA hl;have hx:=hv 0 _ x rfl rfl;cases hx with
 |str _ h=>
  have e:(⟨s.toArray⟩:ByteArray).data.toList=s:=sP;have hsz:(⟨s.toArray⟩:ByteArray).size=s.length:=by simp[ByteArray.size]
  refine(Any.utf8_ValidString Tryz.JAw ⟨s.toArray⟩ w oM (utabs hg)).mono ?_;rintro e' w' ⟨rfl,hb⟩;rw[e];exact⟨_,rfl,hb,fun β H=>.d _ _ (.bool _)⟩
def JGA(v:Val):Int:=if szE v.text.length 1024 5==0&& !JCn v.text then 16 else szE v.text.length 1024 5
theorem walk513(v:Val):PT 513 [JQ v] (.d (.int .i64 (JGA v))):=by
 refine ok513.pc ?_;rw[JG];simp only[go_sem,ir513,simprocAttr];refine wc ((JCJ _ _ _).call trivial) ?_;refine sq (!JCn v.text) ?_ ?_
 ·refine zz ?_;refine wc (call292 _) trivial
 refine zz ?_;apply ik<;>intro h
 ·rw[JGA,if_pos h]
 ·rw[JGA,if_neg (by simp[h])]
theorem JEq(s:Str):PT 255 [.str s] (.d (.bool (YG s))):=Jz.Ja JOP.has fun h=>JK9 s (h _ (List.mem_singleton.2 rfl))
def JIa(v:Val):Int:=if !YG v.text then 12 else if((v.list.length:Nat):Int)==0 then 4 else szE v.list.length 1 3
theorem walk520(v:Val):PT 520 [JQ v] (.d (.int .i64 (JIa v))):=by
 refine ok520.pc ?_;rw[JG];simp only[go_sem,ir520,simprocAttr];refine wn ((JEq _).call trivial) ?_;refine zz4 ?_;refine⟨fun h=>?_,fun h=>⟨fun h2=>?_,fun h2=>?_⟩⟩
 ·rw[JIa,if_pos h]
 ·rw[JIa,if_neg (by simp[h]),if_pos h2]
 ·rw[JIa,if_neg (by simp[h]),if_neg (by simp[h2])];refine wc ((JCJ _ _ _).call trivial) trivial
def JEr:Option Str→List Fld→Int
 |_,[]=>0
 |none,f::r=>if !YG f.name then 12 else JEr (some f.name) r
 |some p,f::r=>if !YG f.name then 12 else if f.name==p then 7 else if strLt f.name p then 24 else JEr (some f.name) r
def JMO(v:Val):Int:=if szE v.fields.length 64 9 !=0 then szE v.fields.length 64 9 else JEr none v.fields
def JA7(l:List Fld):Nat→Option Str
 |0=>none
 |k+1=>l[k]?.map Fld.name
theorem walk519(v:Val):PT 519 [JQ v] (.d (.int .i64 (JMO v))):=by
 refine Jz.Ja ok519.has fun hfit=>?_
 obtain⟨_,_,hfl,_,_⟩:=JJy (hfit _ (List.mem_singleton.2 rfl));refine ok519.pc ?_;rw[JG];simp only[go_sem,ir519,Vc,Nat.reduceAdd,Nat.reduceEqDiff,Nat.reduceBEq,Nat.reduceLeDiff,reduceCtorEq,↓reduceIte];refine wc ((JCJ _ _ _).call trivial) ?_;apply ik<;>intro h
 ·rw[JMO,if_pos h]
 rw[JMO,if_neg (by simp[h])];refine zz4 ?_;generalize hR:JEr none v.fields=R;refine JH (fun n s=>∃k:Nat,k≤v.fields.length∧n=v.fields.length-k∧R=JEr (JA7 v.fields k) (v.fields.drop k)∧
  s=⟨[(1,.ref 1 0),(14,.d (.list 7 (v.fields.map Xf))),(15,.d (.int .i64 v.fields.length)),(16,.d (.int .i64 k))],
   [(1,.box [.d (.int .i64 v.kind),.d (.int .i64 v.int),.d (.int .i64 v.scale),.d (.str v.text),.d (.list 6 (v.list.map JQ)),.d (.list 7 (v.fields.map Xf))])]⟩) ?_ ?_
 ·exact⟨_,_,Wk.refl _,0,Nat.zero_le _,rfl,hR.symm,rfl⟩
 ·rintro n s ⟨k,hk,rfl,hinv,rfl⟩;by_cases hlt:k<v.fields.length
  ·have hx:=Yq hlt;have hd:=dT hlt;rw[Vq hlt]at hinv;refine zz6 ?_;refine⟨oM,wn ((JEq _).call trivial) ?_⟩;refine zz ?_;apply ik<;>intro h12
   ·have:R=12:=by
     rw[hinv];cases JA7 v.fields k<;>simp only[JEr,h12,↓reduceIte]
    rw[this]
   cases k with
   |zero=>
    simp only[JA7,JEr,h12,Vu,↓reduceIte]at hinv;have hg:decide (((0:Nat):Int)>0)=false:=rfl;simp only[go_sem,hg,Nat.reduceAdd,Nat.reduceEqDiff,Nat.reduceBEq,Nat.reduceLeDiff,reduceCtorEq,↓reduceIte];have hp:JA7 v.fields (0+1)=some v.fields[0].name:=by simp[JA7,hlt]
    refine⟨v.fields.length-1,_,oM,Wk.less ?_,0+1,oM,rfl,by rw[hp];exact hinv,rfl⟩;simp only[go_sem,Jg 0 oM,Nat.reduceAdd,Nat.reduceEqDiff,Nat.reduceBEq,Nat.reduceLeDiff,reduceCtorEq,↓reduceIte]
   |succ k=>
    have hlt':k<v.fields.length:=oM;have hx':=Yq hlt';have hp:JA7 v.fields (k+1)=some v.fields[k].name:=by simp[JA7,hlt']
    have hp2:JA7 v.fields (k+1+1)=some v.fields[k+1].name:=by simp[JA7,hlt]
    rw[hp]at hinv;simp only[JEr,h12,Vu,↓reduceIte]at hinv;have hg:decide (((k+1:Nat):Int)>0)=true:=sP;have hw:IntKind.i64.wrap (((k+1:Nat):Int)-1)=k:=by rw[wrap64 oM oM];omega
    simp only[go_sem,hg,hw,hx',Vv,Vc,Nat.reduceAdd,Nat.reduceEqDiff,Nat.reduceBEq,Nat.reduceLeDiff,reduceCtorEq,↓reduceIte];refine⟨⟨oM,oM⟩,dC,fun q=>?_,fun q=>⟨⟨oM,oM⟩,dC,fun q2=>?_,fun q2=>?_⟩⟩
    ·rw[if_pos q]at hinv;rw[hinv]
    ·rw[if_neg (by simp[q]),if_pos q2]at hinv;rw[hinv]
    ·rw[if_neg (by simp[q]),if_neg (by simp[q2])]at hinv;refine⟨v.fields.length-(k+1+1),_,oM,Wk.less ?_,k+1+1,oM,rfl,by rw[hp2];exact hinv,rfl⟩;simp only[go_sem,Jg (k+1) oM,Nat.reduceAdd,Nat.reduceEqDiff,Nat.reduceBEq,Nat.reduceLeDiff,reduceCtorEq,↓reduceIte]
  ·have hd:=dF hlt;obtain rfl:k=v.fields.length:=oM;rw[List.drop_length]at hinv;have:R=0:=by rw[hinv];cases JA7 v.fields v.fields.length<;>rfl
   simp only[go_sem,hd,this,Nat.reduceAdd,Nat.reduceEqDiff,Nat.reduceBEq,Nat.reduceLeDiff,reduceCtorEq,↓reduceIte]
end Go.Proofs
namespace Go.Proofs
open Go.Shelf
end Go.Proofs
namespace Go.Proofs
open Go Av
open Av.Y
def JOT:Ic:=q (R (oz 4 0<|N) [4])<|q (q (R (om 6 0<|oh 7 6<|oz 8 0<|N) [6])<|D (.block 0<|.loop (q (.reg (ot 9 .lss 8 7<|N))<|q (D (I 9 S (E 0)) [9])<|q (D (.block 1<|q (R (om 10 8<|om 5 10<|N) [10])<|q (R (om 11 1<|om 12 0<|om 13 5<|oa true 14 11 12 13<|oL 15 11 14<|.call (some 16) (.dyn (t 11)) [t 15] N) [11,12,13,14,15])<|D (I 16 (q (R (om 17 5<|om 4 17<|N) [0,1,7,8,5,16,17])<|.ret) S) [5,16]) [])<|R (oi 18 .add 8 1<|om 8 18<|N) [18])) [0,1,7,8,9,10,5,11])<|q (.reg (oz 4 (-1)<|N))<|.ret
theorem ok206:FT 206 19 JOT [.tmp 4]:=.o Tryz.func206
def ir109:Ic:=q (R (ow 4 false<|N) [4])<|q (R (om 5 0<|om 6 1<|cl 7 203 [t 5,t 6]<|oi 8 .geq 7 0<|om 4 8<|N) [0,1,5,6,7,8])<|.ret
theorem ok109:FT 109 9 ir109 [.tmp 4]:=.o Tryz.func109
def ir203:Ic:=q (R (oz 4 0<|N) [4])<|q (q (R (om 6 0<|oh 7 6<|oz 8 0<|N) [6])<|D (.block 0<|.loop (q (.reg (ot 9 .lss 8 7<|N))<|q (D (I 9 S (E 0)) [9])<|q (D (.block 1<|q (R (om 10 8<|om 5 10<|N) [10])<|q (R (om 11 1<|om 12 0<|om 13 5<|oa false 14 1 12 13<|ol 15 14<|ot 16 .seq 11 15<|N) [11,12,13,14,15])<|D (I 16 (q (R (om 17 5<|om 4 17<|N) [0,1,7,8,5,16,17])<|.ret) S) [5,16]) [])<|R (oi 18 .add 8 1<|om 8 18<|N) [18])) [0,1,7,8,9,10,5,11])<|q (.reg (oz 4 (-1)<|N))<|.ret
theorem ok203:FT 203 19 ir203 [.tmp 4]:=.o Tryz.func203
end Go.Proofs
namespace Go.Proofs
open Go Av Go.RowKit
end Go.Proofs
namespace Go.Proofs
open Go Av
def Uj(v:Val):Int:=
 if v.kind=1 then btw v.int 0 1 else if v.kind=2 then btw v.int (-999999999999999) 999999999999999
 else if v.kind=3 then JG3 [btw v.int (-999999999999999) 999999999999999,btw v.scale 0 12]else if v.kind=4 then JGA v else if v.kind=5 then szE v.text.length 1024 5
 else if v.kind=6 then btw v.int (-719162) 2932896 else if v.kind=7 then btw v.int (-62135596800000) 253402300799999 else if v.kind=8 then szE v.list.length 256 9
 else if v.kind=9 then JMO v else JIa v
def YH(n level:Int)(v:Val):Int:=
 if decide (n>4096)then 9 else if decide (level>8)then 23 else if JOR v then 19 else if decide (v.kind<1)||decide (v.kind>10)then 11 else if !JEo v then 3 else Uj v
def Uv:List Dat:=[.nilFn,.fn (.func 508) [] [],.fn (.func 510) [] [],.fn (.func 511) [] [],.fn (.func 513) [] [],.fn (.func 515) [] [],.fn (.func 516) [] [],.fn (.func 517) [] [],.fn (.func 518) [] [],.fn (.func 519) [] [],.fn (.func 520) [] []]
theorem walk417:PT 417 [] (.d (.agg Uv)):=by
 refine ok417.pc ?_;simp only[go_sem,ir417,simprocAttr];rfl
theorem JLD(v:Val):PT 418 [JQ v] (.d (.fn (.func 521) [] [.ptr (JQ v).cells])):=by
 refine ok418.pc ?_;rw[JG];simp only[go_sem,ir418,simprocAttr];simp only[go_sem,decide_eq_true_eq,reduceCtorEq,↓reduceIte]
noncomputable def lpL(tm:List (Nat×Av))(s:LoopState)(j:Option Code):Lp:=⟨tm,46,#[11,12],ZD (YO Tryz.f328) [1,1,1,0,1,0,0],ZD (YO Tryz.f328) [1,1,1,0,1,0,1],s,j⟩
def tmL(c:Dat):List (Nat×Av):=[(2,.ref 1002 0),(3,.ref 1003 0),(4,.ref 1004 0),(10,.d c)]
noncomputable abbrev TL(c:Dat)(e n:Int):List (Nat×Av.Obj):=[(1000,.lp (lpL (tmL c) .ready none)),(1002,.box [.d (.int .i64 e)]),(1003,.box (Uv.map .d)),(1004,.box [.d (.int .i64 n)])]
noncomputable def XA(c:Dat)(x:Int):Av.Obj:=if x=0 then .lp (lpL (tmL c) .ready none)else .lp (lpL (tmL c) .done (some .ret))
theorem round30(c:Dat)(e n level:Int)(v:Val)(hn:0≤n∧n≤4096):
  JFN Tryz.prog 1000 [.d (.int .i64 level),.d (JQ v)] (TL c e n) (.d (.bool (YH (n+1) level v==0)))
   [(1000,XA c (YH (n+1) level v)),(1002,.box [.d (.int .i64 (if YH (n+1) level v=0 then e else YH (n+1) level v))]),(1004,.box [.d (.int .i64 (n+1))])]:=by
 refine JFN.JAu (asg:=JJx) (body:=JG2) rfl rfl kR kR rfl (show∀p∈[11,12],p<46 by decide) ?_ ?_
 ·refine Jf ?_;unfold XA;split<;>simp[TL,UH,put,Je,J8,JR,JV,Uz,tmL,lpL,Uv,Av.get]
 ·rw[JG];generalize hx:YH (n+1) level v=x;generalize hD:(fun i=>(get (TL c e n) i).isSome=true)=D;generalize hK:JCb 1000 (TL c e n) D (.d (.bool (x==0))) _=K;have hw:IntKind.i64.wrap (n+1)=n+1:=wrap64 oM oM;have leaf:x≠0→∀cs,K .ret ⟨[],[(1000,.lp (lpL (tmL c) .busy none)),(1002,.box [.d (.int .i64 x)]),(1003,.box (Uv.map .d)),(1004,.box [.d (.int .i64 (n+1))]),(6,.box cs)]⟩:=by
   intro h0 cs;have hb:(x==0)=false:=by simp[h0]
   rw[←hK,←hD,hb];refine⟨_,_,rfl,rfl,⟨[],[(1000,.lp (lpL (tmL c) .done (some .ret))),(1002,.box [.d (.int .i64 x)]),(1003,.box (Uv.map .d)),(1004,.box [.d (.int .i64 (n+1))])]⟩,Wk.less ?_,?_⟩
   ·simp[put,tmL,lpL,Uv,go_sem]
   ·intro i o h;rw[←h,←UA];simp[UH,put,XA,h0]
  have leaf0:x=0→∀cs,K .normal ⟨[],[(1000,.lp (lpL (tmL c) .busy none)),(1002,.box [.d (.int .i64 e)]),(1003,.box (Uv.map .d)),(1004,.box [.d (.int .i64 (n+1))]),(6,.box cs)]⟩:=by
   intro h0 cs;have hb:(x==0)=true:=by simp[h0]
   rw[←hK,←hD,hb];refine⟨_,_,rfl,rfl,⟨[],[(1000,.lp (lpL (tmL c) .ready none)),(1002,.box [.d (.int .i64 e)]),(1003,.box (Uv.map .d)),(1004,.box [.d (.int .i64 (n+1))])]⟩,Wk.less ?_,?_⟩
   ·simp[put,tmL,lpL,Uv,go_sem]
   ·intro i o h;rw[←h,←UA];simp[UH,put,XA,h0]
  clear hK hD;simp only[TL,lpL,tmL,JJx,JG2,hw,go_sem,simprocAttr];refine⟨_,rfl,rfl,?_⟩;have cOLD21:=(JOS v).call trivial;rw[JG]at cOLD21;refine⟨fun h1=>?_,fun h1=>⟨fun h2=>?_,fun h2=>wn cOLD21 ?_⟩⟩
  ·obtain rfl:x=9:=by rw[←hx,YH,if_pos h1]
   exact leaf dC _
  ·obtain rfl:x=23:=by rw[←hx,YH,if_neg (by simp[h1]),if_pos h2]
   exact leaf dC _
  rw[YH,if_neg (by simp[h1]),if_neg (by simp[h2])]at hx;refine zz ?_;apply ik<;>intro h3
  ·obtain rfl:x=19:=by rw[←hx,if_pos h3]
   exact leaf dC _
  rw[if_neg (by simp[h3])]at hx;refine sq (decide (v.kind>10)) ?_ ?_
  ·exact zz trivial
  have cOLD96:=(walk419 v).call trivial;rw[JG]at cOLD96;refine zz ?_;refine⟨fun h4=>?_,fun h4=>wn cOLD96 ?_⟩
  ·obtain rfl:x=11:=by rw[←hx,if_pos h4]
   exact leaf dC _
  rw[if_neg (by simp only[h4];decide)]at hx;refine zz ?_;apply ik<;>intro h5
  ·obtain rfl:x=3:=by rw[←hx,if_pos h5]
   exact leaf dC _
  rw[if_neg (by simp[h5])]at hx;obtain⟨k1,k2⟩:1≤v.kind∧v.kind≤10:=by simp at h4;omega
  have hk:v.kind=1∨v.kind=2∨v.kind=3∨v.kind=4∨v.kind=5∨v.kind=6∨v.kind=7∨v.kind=8∨v.kind=9∨v.kind=10:=oM;rcases hk with hk|hk|hk|hk|hk|hk|hk|hk|hk|hk
  ·have cr:=(JTN v).call trivial;have hr:Uj v=btw v.int 0 1:=by simp[Uj,hk]
   rw[JG,hk,←hr,hx]at cr;refine JFP ?_;refine⟨⟨dC,dC⟩,wn cr ?_⟩;refine zz ?_;exact⟨fun h6=>leaf (sX h6) _,fun h6=>leaf0 (sX h6) _⟩
  ·have cr:=(JTO v).call trivial;have hr:Uj v=btw v.int (-999999999999999) 999999999999999:=by simp[Uj,hk]
   rw[JG,hk,←hr,hx]at cr;refine JFP ?_;refine⟨⟨dC,dC⟩,wn cr ?_⟩;refine zz ?_;exact⟨fun h6=>leaf (sX h6) _,fun h6=>leaf0 (sX h6) _⟩
  ·have cr:=(walk511 v).call trivial;have hr:Uj v=JG3 [btw v.int (-999999999999999) 999999999999999,btw v.scale 0 12]:=by simp[Uj,hk]
   rw[JG,hk,←hr,hx]at cr;refine JFP ?_;refine⟨⟨dC,dC⟩,wn cr ?_⟩;refine zz ?_;exact⟨fun h6=>leaf (sX h6) _,fun h6=>leaf0 (sX h6) _⟩
  ·have cr:=(walk513 v).call trivial;have hr:Uj v=JGA v:=by simp[Uj,hk]
   rw[JG,hk,←hr,hx]at cr;refine JFP ?_;refine⟨⟨dC,dC⟩,wn cr ?_⟩;refine zz ?_;exact⟨fun h6=>leaf (sX h6) _,fun h6=>leaf0 (sX h6) _⟩
  ·have cr:=(walk515 v).call trivial;have hr:Uj v=szE v.text.length 1024 5:=by simp[Uj,hk]
   rw[JG,hk,←hr,hx]at cr;refine JFP ?_;refine⟨⟨dC,dC⟩,wn cr ?_⟩;refine zz ?_;exact⟨fun h6=>leaf (sX h6) _,fun h6=>leaf0 (sX h6) _⟩
  ·have cr:=(JTP v).call trivial;have hr:Uj v=btw v.int (-719162) 2932896:=by simp[Uj,hk]
   rw[JG,hk,←hr,hx]at cr;refine JFP ?_;refine⟨⟨dC,dC⟩,wn cr ?_⟩;refine zz ?_;exact⟨fun h6=>leaf (sX h6) _,fun h6=>leaf0 (sX h6) _⟩
  ·have cr:=(JTQ v).call trivial;have hr:Uj v=btw v.int (-62135596800000) 253402300799999:=by simp[Uj,hk]
   rw[JG,hk,←hr,hx]at cr;refine JFP ?_;refine⟨⟨dC,dC⟩,wn cr ?_⟩;refine zz ?_;exact⟨fun h6=>leaf (sX h6) _,fun h6=>leaf0 (sX h6) _⟩
  ·have cr:=(walk518 v).call trivial;have hr:Uj v=szE v.list.length 256 9:=by simp[Uj,hk]
   rw[JG,hk,←hr,hx]at cr;refine JFP ?_;refine⟨⟨dC,dC⟩,wn cr ?_⟩;refine zz ?_;exact⟨fun h6=>leaf (sX h6) _,fun h6=>leaf0 (sX h6) _⟩
  ·have cr:=(walk519 v).call trivial;have hr:Uj v=JMO v:=by simp[Uj,hk]
   rw[JG,hk,←hr,hx]at cr;refine JFP ?_;refine⟨⟨dC,dC⟩,wn cr ?_⟩;refine zz ?_;exact⟨fun h6=>leaf (sX h6) _,fun h6=>leaf0 (sX h6) _⟩
  ·have cr:=(walk520 v).call trivial;have hr:Uj v=JIa v:=by simp[Uj,hk]
   rw[JG,hk,←hr,hx]at cr;refine JFP ?_;refine⟨⟨dC,dC⟩,wn cr ?_⟩;refine zz ?_;exact⟨fun h6=>leaf (sX h6) _,fun h6=>leaf0 (sX h6) _⟩
end Go.Proofs
namespace Go.Proofs
open Go Av
variable {n:Int}
noncomputable abbrev JBa(c:Dat)(e x n:Int):List (Nat×Av.Obj):=[(1000,XA c x),(1002,.box [.d (.int .i64 (if x=0 then e else x))]),(1004,.box [.d (.int .i64 n)])]
theorem JAq(c:Dat)(e n x m:Int):closed (JA (get (TL c e n)) (JBa c e x m)):=by
 refine Jf ?_;simp only[JBa,TL];unfold XA;split<;>simp[TL,UH,put,Je,J8,JR,JV,Uz,tmL,lpL,Uv,Av.get]
theorem JG5(c:Dat)(e n:Int):closed (get (TL c e n)):=by
 refine UK ?_;simp[TL,Je,J8,JR,JV,Uz,tmL,lpL,Uv,Av.get]
theorem JJz{c:Dat}{e:Int}{i:Nat}(h:(get (TL c e n) i).isSome=true):i=1000∨i=1002∨i=1003∨i=1004:=by
 simp only[TL,Av.get]at h;split at h
 ·rename_i e;exact .inl e.symm
 ·split at h
  ·rename_i e;exact .inr (.inl e.symm)
  ·split at h
   ·rename_i e;exact .inr (.inr (.inl e.symm))
   ·split at h
    ·rename_i e;exact .inr (.inr (.inr e.symm))
    ·cases h
theorem Zs(ds:List Dat):J3 (fun i:Nat=>i) (ds.map .d)=ds.map .d:=by
 induction ds with
 |nil=>rfl
 |cons d r ih=>simp only[Va,J3,Av.ren,ih]
theorem JLE(c:Dat)(e n level:Int)(v:Val)(hn:0≤n∧n≤4096):
  CT .yld [.mp 1000,.d (.int .i64 level),.d (JQ v)] ((TL c e n).map fun x=>(x.1,some x.2)) (.d (.bool (YH (n+1) level v==0))) (JBa c e (YH (n+1) level v) (n+1)):=by
 have:=(round30 c e n level v hn).call (fun i=>i) ⟨_,rfl⟩ (fun i j _ _ h=>h) (by simp[JV]) (JG5 c e n) [] (by simp[Av.get]) (JAq c e n _ _) trivial;have ha:∀x,(XA c x).ren (fun i=>i)=XA c x:=by
  intro x;unfold XA;split<;>simp[Obj.ren,X9,tmL,lpL,Av.ren]
 simp only[ha,JBa,Va,Vb]at this;simp only[TL,JBa,Va,Vb,Obj.ren,Av.ren,J3,Zs,lpL,tmL,X9,List.append_nil]at this⊢;exact this
def YI(f:Int→Val→Int×Int):Int→List Val→Int×Int
 |n,[]=>(0,n)
 |n,v::r=>if(f n v).1≠0 then f n v else YI f (f n v).2 r
def Xg:Nat→Int→Val→Int×Int
 |0,n,v=>(YH (n+1) 9 v,n+1)
 |k+1,n,v=>if YH (n+1) (8-k) v≠0 then(YH (n+1) (8-k) v,n+1)else YI (Xg k) (n+1) (Uq v)
theorem JOU(n:Int)(v:Val):YH n 9 v≠0:=by
 unfold YH;split
 ·decide
 ·rw[if_pos dC];decide
theorem chk_n{level:Int}{v:Val}(h:YH n level v=0):n≤4096:=by
 unfold YH at h;split at h
 ·cases h
 ·rename_i hx;simpa using hx
theorem JLF{f:Int→Val→Int×Int}(hf:∀n v,0≤n→n≤4096→(f n v).1=0→0≤(f n v).2∧(f n v).2≤4096):∀(l:List Val) (n:Int),0≤n→n≤4096→(YI f n l).1=0→0≤(YI f n l).2∧(YI f n l).2≤4096
 |[],n,h0,h1,h=>⟨h0,h1⟩
 |v::r,n,h0,h1,h=>by
  simp only[YI]at h⊢;split at h
  ·rename_i hx;exact absurd h hx
  ·rename_i hx;rw[if_neg hx];simp only[ne_eq,Decidable.not_not]at hx;obtain⟨q0,q1⟩:=hf n v h0 h1 hx;exact JLF hf r _ q0 q1 h
theorem JJ0:∀(k:Nat) (n:Int) (v:Val),0≤n→n≤4096→(Xg k n v).1=0→0≤(Xg k n v).2∧(Xg k n v).2≤4096
 |0,n,v,h0,h1,h=>absurd h (JOU _ _)
 |k+1,n,v,h0,h1,h=>by
  simp only[Xg]at h⊢;split at h
  ·rename_i hx;exact absurd h hx
  ·rename_i hx;rw[if_neg hx];simp only[ne_eq,Decidable.not_not]at hx;exact JLF (JJ0 k) _ _ oM (chk_n hx) h
theorem JLG(c:Dat)(e n level:Int)(v:Val)(h0:0≤n)(h1:n≤4096)(hx:YH (n+1) level v≠0):
  KT 522 [.d (JQ v),.d (.int .i64 level),.mp 1000] (TL c e n) (.d (.bool false)) (JBa c e (YH (n+1) level v) (n+1)):=by
 refine JIY.co (k:=false) (JAq c e n _ _) trivial ?_;have hy:=JLE c e n level v ⟨h0,h1⟩;have hb:(YH (n+1) level v==0)=false:=by simp[hx]
 rw[JG]at hy⊢;rw[hb]at hy;simp only[TL,go_sem,JLB,simprocAttr];refine JI rfl hy ⟨rfl,rfl,rfl,rfl,trivial⟩ ?_;refine zz ?_;exact⟨fun _=>trivial,fun h=>by cases h⟩
theorem call522{c:Dat}{level e x m:Int}{v:Val}(h:KT 522 [.d (JQ v),.d (.int .i64 level),.mp 1000] (TL c e n) (.d (.bool (x==0))) (JBa c e x m)):
  CT 522 [.d (JQ v),.d (.int .i64 level),.mp 1000] ((TL c e n).map fun x=>(x.1,some x.2)) (.d (.bool (x==0))) (JBa c e x m):=by
 have:=h.call (fun i=>i) (fun i hi=>by rcases JJz hi with rfl|rfl|rfl|rfl<;>decide) (fun i j _ _ h=>h) (by simp[JV,Av.get]) (JG5 c e n) [] (by simp[Av.get]) (JAq c e n _ _) trivial;have ha:∀x,(XA c x).ren (fun i=>i)=XA c x:=by
  intro x;unfold XA;split<;>simp[Obj.ren,X9,tmL,lpL,Av.ren]
 simp only[ha,JBa,Va,Vb]at this;simp only[TL,JBa,Va,Vb,Obj.ren,Av.ren,J3,Zs,lpL,tmL,X9,List.append_nil]at this⊢;exact this
theorem walk522(c:Dat):∀(k:Nat) (e n:Int) (v:Val),k≤8→0≤n→n≤4096→
  KT 522 [.d (JQ v),.d (.int .i64 (9-k)),.mp 1000] (TL c e n) (.d (.bool ((Xg k n v).1==0))) (JBa c e (Xg k n v).1 (Xg k n v).2):=by
 intro k
 induction k with
 |zero=>
  intro e n v hk h0 h1;have hb:(YH (n+1) 9 v==0)=false:=by simp[JOU]
  simp only[Xg,hb];exact JLG c e n 9 v h0 h1 (JOU _ _)
 |succ k ih=>
  intro e n v hk h0 h1;have hl:9-((k+1:Nat):Int)=8-k:=oM;rw[hl];by_cases hx:YH (n+1) (8-k) v=0
  ·refine Con.Ja JIY.has fun hfit=>?_
   obtain⟨_,f2,f3,_⟩:=JJy (hfit (JQ v) sP);have hv:Xg (k+1) n v=YI (Xg k) (n+1) (Uq v):=by rw[Xg,if_neg (by simp[hx])]
   rw[hv];generalize hF:YI (Xg k) (n+1) (Uq v)=F;refine JIY.co (k:=false) (JAq c e n _ _) trivial ?_;have hy:=JLE c e n (8-k) v ⟨h0,h1⟩;have h217:=(JLC v f3).call trivial;have hpl:=JEp v f2 f3;rw[hx]at hy;have hm:=chk_n hx;rw[JG]at hy h217⊢;simp only[TL,go_sem,JLB,simprocAttr];refine JI rfl hy ⟨rfl,rfl,rfl,rfl,trivial⟩ ?_;simp only[go_sem,XA,beq_self_eq_true,Vr,simprocAttr];refine wc h217 ?_;clear h217 hy hv hfit;generalize hP:Uq v=ps at*;simp only[Vc];refine JH (fun r s=>∃(j:Nat) (m:Int),j≤ps.length∧r=ps.length-j∧0≤m∧m≤4096∧YI (Xg k) m (ps.drop j)=F∧
    s=⟨[(1,.d (.int .i64 (8-k))),(2,.mp 1000),(15,.d (.list 6 (ps.map JQ))),(16,.d (.int .i64 ps.length)),(17,.d (.int .i64 j))],
     [(1000,.lp (lpL (tmL c) .ready none)),(1002,.box [.d (.int .i64 e)]),(1003,.box (Uv.map .d)),(1004,.box [.d (.int .i64 m)])]⟩) ?_ ?_
   ·refine⟨_,_,Wk.less ?_,0,n+1,Nat.zero_le _,rfl,oM,hm,hF,rfl⟩;simp[go_sem,lpL,tmL,Uv]
   ·rintro r s ⟨j,m,hj,rfl,hm0,hm1,hinv,rfl⟩;by_cases hlt:j<ps.length
    ·have hx':=Xm hlt;have hd:=dT hlt;have hw:IntKind.i64.wrap (8-(k:Int)+1)=9-k:=by rw[wrap64 oM oM];omega
     have hc:=call522 (ih e m ps[j] oM hm0 hm1);have hn:=JJ0 k m ps[j] hm0 hm1;rw[Vq hlt,YI]at hinv;generalize hV:Xg k m ps[j]=V at*;rw[JG]at hc;refine zz38 ?_;refine⟨oM,JI rfl hc ⟨rfl,rfl,rfl,rfl,trivial⟩ ?_⟩;by_cases h0:V.1=0
     ·rw[if_neg (by simp[h0])]at hinv;simp only[go_sem,h0,XA,beq_self_eq_true,Vr,simprocAttr];refine⟨ps.length-(j+1),_,oM,Wk.less ?_,j+1,V.2,oM,rfl,(hn h0).1,(hn h0).2,hinv,rfl⟩;simp[go_sem,Jg j oM,lpL,tmL,Uv]
     ·rw[if_pos h0]at hinv;have hb:(V.1==0)=false:=by simp[h0]
      subst hinv;simp only[go_sem,hb,Vs,simprocAttr]
    ·have hd:=dF hlt;obtain rfl:j=ps.length:=oM;rw[List.drop_length,YI]at hinv;subst hinv;simp only[go_sem,hd,XA,beq_self_eq_true,Vr,simprocAttr]
  ·have hb:(YH (n+1) (8-k) v==0)=false:=by simp[hx]
   have hv:Xg (k+1) n v=(YH (n+1) (8-k) v,n+1):=by rw[Xg,if_pos hx]
   rw[hv];simp only[hb];exact JLG c e n _ v h0 h1 hx
def JAy(v:Val):Int:=(Xg 8 0 v).1
theorem walk521(v:Val)(c:Dat)(e:Int):
  KT 521 [.mp 1000,.d (.ptr (JQ v).cells)] (TL c e 0) (.tup []) (JBa c e (Xg 8 0 v).1 (Xg 8 0 v).2):=by
 refine JIX.co (k:=false) (JAq c e 0 _ _) trivial ?_;have hc:=call522 (walk522 c 8 e 0 v dC dC dC);rw[JG]at hc⊢;simp only[TL,go_sem,JOQ,simprocAttr];have e1:(9:Int)-((8:Nat):Int)=1:=rfl;rw[e1]at hc;refine JI rfl hc ⟨rfl,rfl,rfl,rfl,trivial⟩ ?_;exact zz trivial
noncomputable def JMP(c:Dat)(s:LoopState)(j:Option Code):Av.Obj:=.lp ⟨[(2,.ref 2 0),(3,.ref 3 0),(4,.ref 4 0),(10,.d c)],46,#[11,12],ZD (YO Tryz.f328) [1,1,1,0,1,0,0],ZD (YO Tryz.f328) [1,1,1,0,1,0,1],s,j⟩
theorem call521(v:Val)(c:Dat)(e:Int):
  CT 521 [.mp 57,.d (.ptr (JQ v).cells)] [(57,some (JMP c .ready none)),(2,some (.box [.d (.int .i64 e)])),(3,some (.box (Uv.map .d))),(4,some (.box [.d (.int .i64 0)]))] (.tup [])
   [(57,if(Xg 8 0 v).1=0 then JMP c .ready none else JMP c .done (some .ret)),(2,.box [.d (.int .i64 (if(Xg 8 0 v).1=0 then e else(Xg 8 0 v).1))]),(4,.box [.d (.int .i64 (Xg 8 0 v).2)])]:=by
 have hd:∀i x m,(JA (get (TL c e 0)) (JBa c e x m) i).isSome=true→i=1000∨i=1002∨i=1003∨i=1004:=by
  intro i x m h;rw[←UA]at h;have:(get (TL c e 0) i).isSome=true:=by
   simp only[TL,JBa,UH,put,simprocAttr]at h;simp only[Av.get]at h⊢;split at h
   ·simp[*]
   ·split at h
    ·simp[*]
    ·split at h
     ·simp[*]
     ·split at h
      ·simp[*]
      ·cases h
  exact JJz this
 have:=(walk521 v c e).call (fun i=>if i=1000 then 57 else i-1000) (fun i hi=>by rcases JJz hi with rfl|rfl|rfl|rfl<;>decide)
  (fun i j hi hj h=>by rcases hd i _ _ hi with rfl|rfl|rfl|rfl<;>rcases hd j _ _ hj with rfl|rfl|rfl|rfl<;>first|rfl|simp at h) (by simp[JV,Av.get]) (JG5 c e 0) [] (by simp[Av.get]) (JAq c e 0 _ _) trivial
 have ha:∀x,(XA c x).ren (fun i=>if i=1000 then 57 else i-1000)=if x=0 then JMP c .ready none else JMP c .done (some .ret):=by
  intro x;unfold XA;split<;>simp[Obj.ren,X9,tmL,lpL,JMP,Av.ren]
 have hr:(Obj.box (Uv.map .d)).ren (fun i=>if i=1000 then 57 else i-1000)=.box (Uv.map .d):=rfl;simp only[ha,hr,TL,JBa,Va,Vb]at this;simp only[Va,Vb,Obj.ren,Av.ren,J3,lpL,tmL,X9,List.append_nil,Nat.reduceSub,simprocAttr]at this;exact this
theorem JG6{P:Program}{D:Nat→Prop}{f:Opd}{N lid:Nat}{ps:Array Nat}{c1 c2:Code}{asg body:Ic}{Q:Exit→St→Prop}{st:St}{g:Nat}{vs:List Av}{T:List (Nat×Option Av.Obj)}{v:Av}
  {ups:List (Nat×Av.Obj)}{l:Lp}(hno:get st.hp lid=none)(ht:Xz (get st.tm) (.dyn f) [.mp lid]=some (.fn g,vs))(hh:Has P g)(hc:JC P g vs T v ups)
  (hT:XE (Av.upd (get st.hp) lid (some (.lp ⟨st.tm,N,ps,c1,c2,.ready,none⟩))) T)(hl:JA (Av.upd (get st.hp) lid (some (.lp ⟨st.tm,N,ps,c1,c2,.ready,none⟩))) ups lid=some (.lp l))(hb:l.s≠ .busy)
  (hj:(l.j=none∧Q .normal ⟨st.tm,put (UH st.hp ups) lid .gone⟩)∨(l.j=some .ret∧Q .ret ⟨st.tm,put (UH st.hp ups) lid .gone⟩)):wpc P D (.rng f N lid ps c1 c2 asg body) Q st:=by
 simp only[wpc];refine⟨hno,fun _ _=>?_⟩;rw[ht];refine⟨T,v,ups,hh,hc,hT,put (UH st.hp ups) lid .gone,l,fun i hi=>by rw[UF,if_neg hi,UA],by rw[UF,if_pos rfl],hl,hb,?_⟩;rcases hj with⟨h,q⟩|⟨h,q⟩<;>rw[h]<;>exact q
theorem JLH(v:Val):PT 328 [JQ v] (.d (.int .i64 (JAy v))):=by
 refine ok328.pc ?_;have h91:=(JLD v).call trivial;have h90:=walk417.call trivial;have h176:=call521 v (.fn (.func 521) [] [.ptr (JQ v).cells]) 0;rw[JG]at h91 h176⊢;simp only[go_sem,ir328,simprocAttr];refine wn h90 ?_;simp only[Uv,go_sem,simprocAttr];refine wc h91 ?_;by_cases hx:(Xg 8 0 v).1=0
 ·simp only[hx,↓reduceIte]at h176;refine JG6 rfl rfl JIX.has h176 ⟨rfl,rfl,rfl,rfl,trivial⟩ rfl sP (.inl ⟨rfl,?_⟩);simp only[go_sem,JAy,hx,simprocAttr]
 ·simp only[hx,↓reduceIte]at h176;refine JG6 rfl rfl JIX.has h176 ⟨rfl,rfl,rfl,rfl,trivial⟩ rfl sP (.inr ⟨rfl,?_⟩);simp only[go_sem,JAy,simprocAttr]
end Go.Proofs
namespace Go.Proofs
open Go Av
theorem JG7{o1 o2:Av.Obj}{i:Nat}(h:(get [(1000,o1),(1001,o2)] i).isSome=true):i=1000∨i=1001:=by
 simp only[Av.get]at h;split at h
 ·rename_i e;exact .inl e.symm
 ·split at h
  ·rename_i e;exact .inr e.symm
  ·cases h
theorem Con.two{P:Program}{f:Nat}{args:List Av}{o1 o2:Av.Obj}{r:Dat}(h:Con P f args [(1000,o1),(1001,o2)] (.d r) [])(i j:Nat)(hij:i≠j)
  (hargs:∀c∈args,inT (get [(1000,o1),(1001,o2)]) c)(hcl:closed (get [(1000,o1),(1001,o2)])):
  JC P f (args.map (Av.ren fun n=>if n=1000 then i else j)) [(i,some (o1.ren fun n=>if n=1000 then i else j)),(j,some (o2.ren fun n=>if n=1000 then i else j))] (.d r) []:=by
 have:=h.call (fun n=>if n=1000 then i else j) (fun k hk=>by rcases JG7 hk with rfl|rfl<;>decide) (fun a b ha hb e=>?_) hargs hcl [] sP hcl trivial
 ·simpa[Av.ren]using this
 ·rcases JG7 ha with rfl|rfl<;>rcases JG7 hb with rfl|rfl
  ·rfl
  ·simp at e;exact absurd e hij
  ·simp at e;exact absurd e.symm hij
  ·rfl
end Go.Proofs
namespace Go.Proofs
open Go.Shelf
def Tryz.JHS:Go.Shelf.Ren:=⟨fun|190=>245|125=>114|258=>339|128=>216|129=>217|302=>431|303=>432|304=>433|305=>434|306=>435|307=>436|308=>437|309=>438|310=>439|333=>528|329=>295|330=>296|334=>529|335=>530|336=>531|344=>571|n=>n,fun|31=>79|9=>9|3=>3|46=>231|0=>0|51=>318|53=>320|4=>4|183=>312|182=>311|131=>102|5=>5|218=>388|222=>261|228=>474|229=>399|n=>n,fun|n=>n⟩
theorem Tryz.JJO:Go.Proofs.Lays.n190 Tryz.prog Tryz.JHS:={
 mixed:=kR
 f125:=Tryz.func114.trans (congrArg some kR)
 f128:=Tryz.func216.trans (congrArg some kR)
 f129:=Tryz.func217.trans (congrArg some kR)
 f190:=Tryz.func245.trans (congrArg some kR)
 f258:=Tryz.func339.trans (congrArg some kR)
 f302:=Tryz.func431.trans (congrArg some kR)
 f303:=Tryz.func432.trans (congrArg some kR)
 f304:=Tryz.func433.trans (congrArg some kR)
 f305:=Tryz.func434.trans (congrArg some kR)
 f306:=Tryz.func435.trans (congrArg some kR)
 f307:=Tryz.func436.trans (congrArg some kR)
 f308:=Tryz.func437.trans (congrArg some kR)
 f309:=Tryz.func438.trans (congrArg some kR)
 f310:=Tryz.func439.trans (congrArg some kR)
 f329:=Tryz.func295.trans (congrArg some kR)
 f330:=Tryz.func296.trans (congrArg some kR)
 f333:=Tryz.func528.trans (congrArg some kR)
 f334:=Tryz.func529.trans (congrArg some kR)
 f335:=Tryz.func530.trans (congrArg some kR)
 f336:=Tryz.func531.trans (congrArg some kR)
 f344:=Tryz.func571.trans (congrArg some kR)
 t0:=Tryz.underlying0
 a0:=Tryz.isAgg0
 z0:=Tryz.sizeOf0
 v0:=Tryz.zeroValue0
 t3:=Tryz.underlying3
 a3:=Tryz.isAgg3
 z3:=Tryz.sizeOf3
 v3:=Tryz.zeroValue3
 t4:=Tryz.underlying4
 a4:=Tryz.isAgg4
 z4:=Tryz.sizeOf4
 v4:=Tryz.zeroValue4
 t5:=Tryz.underlying5
 a5:=Tryz.isAgg5
 z5:=Tryz.sizeOf5
 v5:=Tryz.zeroValue5
 t9:=Tryz.underlying9
 a9:=Tryz.isAgg9
 z9:=Tryz.sizeOf9
 v9:=Tryz.zeroValue9
 t31:=Tryz.underlying79
 a31:=Tryz.isAgg79
 z31:=Tryz.sizeOf79
 v31:=Tryz.zeroValue79
 t46:=Tryz.underlying231
 a46:=Tryz.isAgg231
 z46:=Tryz.sizeOf231
 v46:=Tryz.zeroValue231
 t51:=Tryz.underlying318
 a51:=Tryz.isAgg318
 z51:=Tryz.sizeOf318
 v51:=Tryz.zeroValue318
 t53:=Tryz.underlying320
 a53:=Tryz.isAgg320
 z53:=Tryz.sizeOf320
 v53:=Tryz.zeroValue320
 t131:=Tryz.underlying102
 a131:=Tryz.isAgg102
 z131:=Tryz.sizeOf102
 v131:=Tryz.zeroValue102
 t182:=Tryz.underlying311
 a182:=Tryz.isAgg311
 z182:=Tryz.sizeOf311
 v182:=Tryz.zeroValue311
 t183:=Tryz.underlying312
 a183:=Tryz.isAgg312
 z183:=Tryz.sizeOf312
 v183:=Tryz.zeroValue312
 t218:=Tryz.underlying388
 a218:=Tryz.isAgg388
 z218:=Tryz.sizeOf388
 v218:=Tryz.zeroValue388
 t222:=Tryz.underlying261
 a222:=Tryz.isAgg261
 z222:=Tryz.sizeOf261
 v222:=Tryz.zeroValue261
 t228:=Tryz.underlying474
 a228:=Tryz.isAgg474
 z228:=Tryz.sizeOf474
 v228:=Tryz.zeroValue474
 t229:=Tryz.underlying399
 a229:=Tryz.isAgg399
 z229:=Tryz.sizeOf399
 v229:=Tryz.zeroValue399}
end Go.Proofs
namespace Go.Proofs
open Go Av
end Go.Proofs
namespace Go.Proofs
open Go Av Go.RowKit
end Go.Proofs
namespace Go.Proofs
open Go Av
end Go.Proofs
namespace Go.Proofs
open Go Av Go.RowKit Go.Shelf
end Go.Proofs
namespace Av
open Go
end Av
namespace Go.Proofs
open Go Av Go.RowKit Go.Shelf
theorem JIb{α:Type}{l:List α}{m j:Nat}{v:α}(h:(l.take m)[j]? =some v):l[j]? =some v:=by
 rw[List.getElem?_take]at h;split at h
 ·exact h
 ·cases h
end Go.Proofs
namespace Go.Proofs
open Go Av Go.RowKit Go.Shelf
variable {A:Nat→Prop}{w:World}{F:List Dat}{V:List Value}
def Pt(A:Nat→Prop)(w:World)(F:List Dat)(V:List Value):Prop:=F.length=V.length∧∀(j:Nat) c v,F[j]? =some c→V[j]? =some v→Rep A w c v∧v.oneCell'=true
theorem Pt.app{F':List Dat}{V':List Value}(h:Pt A w F V)(h':Pt A w F' V'):Pt A w (F++F') (V++V'):=by
 refine⟨by rw[Vg,Vg,h.1,h'.1],fun j c v hc hv=>?_⟩;by_cases hj:j<F.length
 ·rw[Vz hj]at hc;rw[Vz (by rw[←h.1];exact hj)]at hv;exact h.2 j c v hc hv
 ·rw[Vy oM]at hc;rw[Vy (by rw[←h.1];omega),←h.1]at hv;exact h'.2 _ c v hc hv
theorem Pt.take(h:Pt A w F V)(k:Nat):Pt A w (F.take k) (V.take k):=
 ⟨by simp[h.1],fun j c v hc hv=>h.2 j c v (JIb hc) (JIb hv)⟩
theorem Pt.drop(h:Pt A w F V)(k:Nat):Pt A w (F.drop k) (V.drop k):=
 ⟨by simp[h.1],fun j c v hc hv=>by
  rw[List.getElem?_drop]at hc hv;exact h.2 _ c v hc hv⟩
theorem Pt.one{R:List Value}(h:Pt A w F V)(j:Nat)(v:Value)(hj:j<F.length)(hv:((V++R).toArray)[j]? =some v):v.oneCell'=true:=by
 rw[List.getElem?_toArray,Vz (by rw[←h.1];exact hj)]at hv;exact(h.2 j _ v (Vl hj) hv).2
theorem Pt.rep{R:List Value}(h:Pt A w F V)(j:Nat)(c:Dat)(v:Value)(hc:F[j]? =some c)(hv:((V++R).toArray)[j]? =some v):Rep A w c v:=by
 have hj:j<F.length:=(VB.1 hc).1;rw[List.getElem?_toArray,Vz (by rw[←h.1];exact hj)]at hv;exact(h.2 j c v hc hv).1
end Go.Proofs
namespace Go.Proofs
open Go Av
open Av.Y
def ir144:Ic:=q (R (ox 1 0<|oN 2 yG<|N) [0])<|q (R (of 6 1 3<|oL 7 7 6<|cl 8 88 [t 7]<|of 9 1 3<|oS 7 9 8<|N) [6,7,8,9])<|q (R (of 10 1 10<|ol 11 10<|oh 12 11<|oo 13 (.mks 6 [.int .i64 0,.int .i64 0,.int .i64 0,.str [],.nil 6,.nil 7] (i 0) (t 12))<|om 3 13<|N) [10,11,12,13])<|q (q (R (of 14 1 10<|ol 15 14<|oh 16 15<|oz 17 0<|N) [14])<|D (.block 0<|.loop (q (.reg (ot 18 .lss 17 16<|N))<|q (D (I 18 S (E 0)) [18])<|q (D (.block 1<|q (R (oa true 19 6 15 17<|oL 20 6 19<|oN 5 y6<|oS 6 5 20<|N) [19,20])<|R (om 21 3<|oL 22 6 5<|cl 23 49 [t 22]<|oo 24 (.bls 6 [t 23])<|oo 25 (.app 6 (t 21) (t 24))<|om 3 25<|N) [5,21,22,23,24,25]) [])<|R (oi 26 .add 17 1<|om 17 26<|N) [26])) [15,16,17,18,5])<|q (R (om 27 3<|of 28 1 10<|os 28 27<|N) [3,27,28])<|q (R (oL 29 11 1<|oS 11 2 29<|N) [1,29])<|.ret
theorem ok144:FT 144 30 ir144 [.cell 2 (some 11)]:=.o Tryz.func144
def ir88:Ic:=q (R (ox 1 0<|oN 2 yT<|N) [0])<|q (R (of 9 1 5<|ol 10 9<|oh 11 10<|oo 12 (.mks 7 [.int .i64 0,.int .i64 0,.int .i64 0,.int .i64 0,.nil 1,.nil 7,.nil 11] (i 0) (t 11))<|om 3 12<|N) [9,10,11,12])<|q (q (R (of 13 1 5<|ol 14 13<|oh 15 14<|oz 16 0<|N) [13])<|D (.block 0<|.loop (q (.reg (ot 17 .lss 16 15<|N))<|q (D (I 17 S (E 0)) [17])<|q (D (.block 1<|q (R (oa true 18 7 14 16<|oL 19 7 18<|oN 5 yT<|oS 7 5 19<|N) [18,19])<|R (om 20 3<|oL 21 7 5<|cl 22 88 [t 21]<|oo 23 (.bls 7 [t 22])<|oo 24 (.app 7 (t 20) (t 23))<|om 3 24<|N) [5,20,21,22,23,24]) [])<|R (oi 25 .add 16 1<|om 16 25<|N) [25])) [14,15,16,17,5])<|q (R (of 26 1 6<|ol 27 26<|oh 28 27<|oo 29 (.mks 11 [.int .i64 0,.str [],.int .i64 0,.int .i64 0,.int .i64 0,.int .i64 0,.int .i64 0,.nil 1,.nil 7,.nil 11,.nil 6] (i 0) (t 28))<|om 6 29<|N) [26,27,28,29])<|q (q (R (of 30 1 6<|ol 31 30<|oh 32 31<|oz 33 0<|N) [30])<|D (.block 2<|.loop (q (.reg (ot 34 .lss 33 32<|N))<|q (D (I 34 S (E 2)) [34])<|q (D (.block 3<|q (R (oa true 35 11 31 33<|oL 36 11 35<|oN 8 yG<|oS 11 8 36<|N) [35,36])<|R (om 37 6<|oL 38 11 8<|cl 39 144 [t 38]<|oo 40 (.bls 11 [t 39])<|oo 41 (.app 11 (t 37) (t 40))<|om 6 41<|N) [8,37,38,39,40,41]) [])<|R (oi 42 .add 33 1<|om 33 42<|N) [42])) [31,32,33,34,8])<|q (R (of 43 1 4<|ol 44 43<|cl 45 145 [t 44]<|om 46 3<|om 47 6<|of 48 1 4<|os 48 45<|of 49 1 5<|os 49 46<|of 50 1 6<|os 50 47<|N) [3,6,43,44,45,46,47,48,49,50])<|q (R (oL 51 7 1<|oS 7 2 51<|N) [1,51])<|.ret
theorem ok88:FT 88 52 ir88 [.cell 2 (some 7)]:=.o Tryz.func88
end Go.Proofs
namespace Go.Proofs
open Go Av
mutual
theorem JEs:∀v:Val,fits (JQ v)→okV v
 |.mk k i s t l f,h=>by
  have h':l.length≤68719476736∧f.length≤68719476736:=(JG4 h).2;rw[JG]at h;simp only[fits,Ue,and_true,Val.list,Val.fields]at h;simp only[okV];exact⟨h'.1,h'.2,JGB l fun x hx=>UC.1 h.2.2.2.2.1.2 _ (VC.2 ⟨x,hx,rfl⟩),JGC f fun x hx=>UC.1 h.2.2.2.2.2.2 _ (VC.2 ⟨x,hx,rfl⟩)⟩
theorem JGB:∀l:List Val,(∀x∈l,fits (JQ x))→JFS l
 |[],_=>by simp[JFS]
 |v::r,h=>by
  simp only[JFS];exact⟨JEs v (h v (Vh)),JGB r fun x hx=>h x (Vn _ hx)⟩
theorem JGC:∀l:List Fld,(∀x∈l,fits (Xf x))→JFT l
 |[],_=>by simp[JFT]
 |.mk n v::r,h=>by
  have h1:=h (.mk n v) (Vh);rw[Zk]at h1;have h2:fits (JQ v):=by
   rw[JG];simp only[fits,Ue,and_true,Fld.value]at h1⊢;exact h1.2
  simp only[JFT];exact⟨JEs v h2,JGC r fun x hx=>h x (Vn _ hx)⟩
end
theorem p49(a:Val):PT 49 [JQ a] (.d (JQ a)):=Jz.Ja ok49.has fun h=>JGv a (JEs a (h _ (Vh)))
theorem p54(v:Val)(n:Str):PT 54 [JQ v,.str n] (.d (.int .i64 (ixN n v.fields))):=Jz.Ja ok54.has fun h=>walk54 v n (JG4 (h _ (Vh))).2.2
theorem p255(s:Str):PT 255 [.str s] (.d (.bool (YG s))):=Jz.Ja JOP.has fun h=>JK9 s (by have:=h _ (Vh);simpa[fits]using this)
def idxF(n:Str)(l:List Fld):Option Nat:=l.findIdx? fun f=>f.name==n
theorem ixN_eq(n:Str)(l:List Fld):ixN n l=match idxF n l with|some k=>(k:Int)|none=> -1:=rfl
def JCo(v:Val)(n:Str):Val×Bool:=if v.kind≠9 then(zeroV,false)else match idxF n v.fields with
 |some i=>((v.fields[i]?.map Fld.value).getD zeroV,true)
 |none=>(zeroV,false)
theorem walk25(v:Val)(n:Str):PT 25 [JQ v,.str n] (.tup [.d (JQ (JCo v n).1),.d (.bool (JCo v n).2)]):=by
 refine ok25.pc ?_;have c:=(p54 v n).call trivial;have hbd:=ixF_bd (q:=fun f=>f.name==n) (l:=v.fields);generalize hR:JCo v n=R;rw[JG v]at c⊢;unfold JCo at hR;have hix:=ixN_eq n v.fields;generalize hI:ixN n v.fields=I at*;rw[JG R.1];simp only[go_sem,ir25,simprocAttr];refine wc c ?_;refine sq (decide (I<0)) ?_ ?_
 ·exact zz trivial
 refine zz ?_;apply ik<;>intro h
 ·have:R=(zeroV,false):=by
   rw[←hR];by_cases hk:v.kind=9
   ·rw[if_neg (sX hk)];cases e:idxF n v.fields with
    |none=>rfl
    |some i=>
     rw[e]at hix;simp only at hix;simp[hk]at h;omega
   ·rw[if_pos hk]
  rw[this];rfl
 ·simp only[Bool.or_eq_false_iff,bne_eq_false_iff_eq,decide_eq_false_iff_not]at h;obtain⟨h1,h2⟩:=h;rw[if_neg (sX h1)]at hR;cases e:idxF n v.fields with
  |none=>rw[e]at hix;simp only at hix;omega
  |some i=>
   rw[e]at hix hR;simp only at hix hR;have hil:i<v.fields.length:=by
    obtain⟨h,_⟩:=List.findIdx?_eq_some_iff_getElem.1 e;exact h
   rw[Vl hil]at hR;subst hix;subst hR;have hx:=Yq hil;have c2:=(p49 v.fields[i].value).call trivial;rw[JG v.fields[i].value]at c2;refine zz24 ?_;refine⟨⟨oM,oM⟩,wn c2 ?_⟩;exact zz trivial
def ixG(q:TFl→Bool)(l:List TFl):Int:=match l.findIdx? q with
 |some k=>(k:Int)
 |none=> -1
theorem walk206{g:Nat}{cs:List Dat}{q:TFl→Bool}(hq:∀x,PT g [UE x,.ptr cs] (.d (.bool (q x))))(l:List TFl)(hl:l.length≤68719476736):
  PT 206 [.list 11 (l.map UE),JBY g cs] (.d (.int .i64 (ixG q l))):=by
 refine ok206.pc ?_;simp only[go_sem,JOT,Vc,simprocAttr];refine JH (fun n s=>∃k:Nat,k≤l.length∧n=l.length-k∧(∀(j:Nat) (h1:j<l.length),j<k→q l[j]=false)∧
  s=⟨[(0,.d (.list 11 (l.map UE))),(1,.d (JBY g cs)),(7,.d (.int .i64 l.length)),(8,.d (.int .i64 k))],[]⟩) ?_ ?_
 ·exact⟨_,_,Wk.refl _,0,Nat.zero_le _,rfl,sP,rfl⟩
 ·rintro n s ⟨k,hk,rfl,hinv,rfl⟩;by_cases hlt:k<l.length
  ·have hx:=U7 hlt;have hd:=dT hlt;have hc:=(hq l[k]).call trivial;rw[Ud]at hc;refine zz6 ?_;refine⟨oM,wn hc ?_⟩;refine zz ?_;apply ik<;>intro hf
   ·have:l.findIdx? q=some k:=by
     rw[List.findIdx?_eq_some_iff_getElem];exact⟨hlt,hf,fun j hj=>by rw[hinv j oM hj];decide⟩
    simp only[ixG,this]
   ·refine⟨l.length-(k+1),_,oM,Wk.less ?_,k+1,oM,rfl,?_,rfl⟩
    ·exact zz7 trivial
    ·intro j h1 hj;by_cases e:j=k
     ·subst e;exact hf
     ·exact hinv j h1 oM
  ·have hd:=dF hlt;refine zz5 ?_;have:l.findIdx? q=none:=by
    rw[List.findIdx?_eq_none_iff];intro x hx;obtain⟨j,hj,rfl⟩:=List.getElem_of_mem hx;exact hinv j hj oM
   simp only[ixG,this]
theorem walk525(x:TFl)(n:Str):PT 525 [UE x,.ptr [.str n]] (.d (.bool (x.name==n))):=by
 refine ok525.pc ?_;rw[Ud];simp only[go_sem,ir525,Nat.reduceAdd,Nat.reduceEqDiff,Nat.reduceBEq,Nat.reduceLeDiff,reduceCtorEq,↓reduceIte];exact Nat.one_pos
def JOV(n:Str)(l:List TFl):Option Nat:=l.findIdx? fun f=>f.name==n
def ixM(n:Str)(l:List TFl):Int:=ixG (fun f=>f.name==n) l
theorem ixM_eq(n:Str)(l:List TFl):ixM n l=match JOV n l with|some k=>(k:Int)|none=> -1:=rfl
def ty0:Typ:=.mk 0 0 0 0 [] [] []
def tf0:TFl:=.mk 0 [] 0 ty0 []
theorem JBb{t:Typ}(h:fits (Jp t)):t.words.length≤68719476736∧t.elem.length≤68719476736∧t.fields.length≤68719476736:=by
 rw[JZ]at h;simp only[fits,Ue,Vc,and_true]at h;exact⟨h.2.2.2.2.1.1,h.2.2.2.2.2.1.1,h.2.2.2.2.2.2.1⟩
def tfR(t:Typ)(n:Str):TFl×Bool:=match JOV n t.fields with
 |some i=>((t.fields[i]?).getD tf0,true)
 |none=>(tf0,false)
end Go.Proofs
namespace Go.Proofs
open Go.Shelf
def Tryz.JFX:Go.Shelf.Ren:=⟨fun|16=>145|n=>n,fun|24=>79|9=>9|4=>4|n=>n,fun|n=>n⟩
theorem Tryz.JCw:Go.Proofs.Lays2.n16 Tryz.prog Tryz.JFX:={
 mixed:=kR
 f16:=Tryz.func145.trans (congrArg some kR)
 t4:=Tryz.underlying4
 a4:=Tryz.isAgg4
 z4:=Tryz.sizeOf4
 v4:=Tryz.zeroValue4
 t9:=Tryz.underlying9
 a9:=Tryz.isAgg9
 z9:=Tryz.sizeOf9
 v9:=Tryz.zeroValue9
 t24:=Tryz.underlying79
 a24:=Tryz.isAgg79
 z24:=Tryz.sizeOf79
 v24:=Tryz.zeroValue79
 i9:=by kernel_rfl}
end Go.Proofs
namespace Go.Proofs
open Go Av Go.RowKit
theorem JOW(ss:List Str):CT 145 [.d (.list 1 (ss.map .str))] [] (.d (.list 1 (ss.map .str))) []:=by
 refine JC.JMi (ds:=[.list 1 (ss.map .str)]) ⟨_,Tryz.func145,kR,kR⟩ fun A w vs hl hv=>?_
 obtain⟨v,rfl⟩:=JII (sX hl);have hr:=hv 0 _ v rfl rfl;have hf:=hr.fits;simp only[fits,Vc]at hf;have hfl:(flat (ss.map Dat.str))=ss.map .str:=ZS ss;have hs:∀s∈ss,s.length≤68719476736:=fun s h=>UC.1 hf.2 (.str s) (VC.2 ⟨s,h,rfl⟩)
 generalize hD:ss.map Dat.str=D at hr hfl;cases hr with
 |emp _ a cap=>
  obtain rfl:ss=[]:=List.map_eq_nil_iff.1 hD;cases a with
  |none=>exact(Any.slices_Clone_string_nil Tryz.JCw 0 cap w).mono fun e w' ⟨h1,h2⟩=>⟨_,h1,by rw[h2];exact Below.refl _ _,.emp 1 none 0⟩
  |some a=>
   refine(Any.slices_Clone_string_zero Tryz.JCw a cap w).mono ?_;rintro e w' ⟨v',rfl,h,_,hb⟩;exact⟨_,rfl,hb,JEm (ss:=[]) rfl sP sP h⟩
 |list _ _ b o n cap vs hn hA hcap hc h1 hsz hh hvl hvv=>
  subst hD;have hlen:n=ss.length:=sX hn;have hcell:∀j (h:j<ss.length),vs[j]? =some (.string ⟨ss[j].toArray⟩):=by
   intro j h;rw[ZS]at hvl;have hj:j<vs.length:=by simp at hvl;omega
   have:=hvv j (.str ss[j]) vs[j] (by rw[ZS];simp[h]) (by simp[hj]);rw[Vl hj];generalize vs[j]=z at this;cases this;rfl
  refine(Any.slices_Clone_string Tryz.JCw b o n cap (ss.map fun s=>⟨s.toArray⟩) w sO oM ?_).mono ?_
  ·intro j hj;have hj':j<ss.length:=sX hj;have:=hh j _ (hcell j hj');rw[this];simp[hj']
  ·rintro e w' ⟨v',rfl,h,_,hb⟩;rw[List.take_of_length_le sO,List.map_map]at h;exact⟨_,rfl,hb,JEm hlen hs hf.1 h⟩
end Go.Proofs
namespace Go.Proofs
open Go Av
theorem step144(g:TFl)(h:PT 88 [Jp g.type] (.d (Jp g.type))):PT 144 [UE g] (.d (UE g)):=by
 refine Jz.Ja ok144.has fun hfit=>?_
 have hdl:g.dflt.length≤68719476736:=by
  have:=hfit _ (Vh);rw[Ud]at this;simp only[fits,Ue,Vc,and_true]at this;exact this.2.2.2.2.2.2.2.2.2.2.1
 refine ok144.pc ?_;have c:=h.call trivial;rw[JZ]at c;rw[Ud];simp only[go_sem,ir144,simprocAttr];refine wc c ?_;refine⟨⟨Int.le_refl _,sP,sO⟩,?_⟩;refine JH (fun n s=>∃k:Nat,k≤g.dflt.length∧n=g.dflt.length-k∧
  s=⟨[(1,.ref 1 0),(2,.ref 2 0),(3,.ms 13 k),(15,.d (.list 6 (g.dflt.map JQ))),(16,.d (.int .i64 g.dflt.length)),(17,.d (.int .i64 k))],
   [(1,.box [.d (.int .i64 g.number),.d (.str g.name),.d (.int .i64 g.need),.d (.int .i64 g.type.kind),.d (.int .i64 g.type.min),.d (.int .i64 g.type.max),.d (.int .i64 g.type.scale),.d (.list 1 (g.type.words.map .str)),.d (.list 7 (g.type.elem.map Jp)),.d (.list 11 (g.type.fields.map UE)),.d (.list 6 (g.dflt.map JQ))]),(2,.box [.d (.int .i64 0),.d (.str []),.d (.int .i64 0),.d (.int .i64 0),.d (.int .i64 0),.d (.int .i64 0),.d (.int .i64 0),.d (.nil 1),.d (.nil 7),.d (.nil 11),.d (.nil 6)]),(13,.row k 6 ((g.dflt.take k).map JQ))]⟩) ?_ ?_
 ·exact⟨_,_,Wk.refl _,0,Nat.zero_le _,rfl,sP⟩
 ·rintro n s ⟨k,hk,rfl,rfl⟩;by_cases hlt:k<g.dflt.length
  ·have hx:=Xm hlt;have hd:=dT hlt;have hc:=(p49 g.dflt[k]).call trivial;rw[JG]at hc;refine zz6 ?_;refine⟨oM,wn hc ?_⟩;refine zz ?_;refine⟨sP,sO,?_⟩;refine⟨g.dflt.length-(k+1),_,oM,Wk.less ?_,k+1,oM,rfl,rfl⟩;rw[List.take_succ_eq_append_getElem hlt,Vw];simp only[go_sem,Jg k oM,Va,Vb,JG g.dflt[k],Nat.reduceAdd,Nat.reduceEqDiff,Nat.reduceBEq,Nat.reduceLeDiff,reduceCtorEq,↓reduceIte]
  ·have hd:=dF hlt;obtain rfl:k=g.dflt.length:=oM;exact JDe trivial
theorem step88(t:Typ)(h1:∀x∈t.elem,PT 88 [Jp x] (.d (Jp x)))(h2:∀g∈t.fields,PT 144 [UE g] (.d (UE g))):PT 88 [Jp t] (.d (Jp t)):=by
 refine Jz.Ja ok88.has fun hfit=>?_
 obtain⟨f1,f2,f3⟩:=JBb (hfit _ (Vh));refine ok88.pc ?_;rw[JZ];simp only[go_sem,ir88,Nat.reduceAdd,Nat.reduceEqDiff,Nat.reduceBEq,Nat.reduceLeDiff,reduceCtorEq,↓reduceIte];refine⟨⟨Int.le_refl _,sP,sO⟩,?_⟩;refine JH (fun n s=>∃k:Nat,k≤t.elem.length∧n=t.elem.length-k∧
  s=⟨[(1,.ref 1 0),(2,.ref 2 0),(3,.ms 12 k),(14,.d (.list 7 (t.elem.map Jp))),(15,.d (.int .i64 t.elem.length)),(16,.d (.int .i64 k))],
   [(1,.box [.d (.int .i64 t.kind),.d (.int .i64 t.min),.d (.int .i64 t.max),.d (.int .i64 t.scale),.d (.list 1 (t.words.map .str)),.d (.list 7 (t.elem.map Jp)),.d (.list 11 (t.fields.map UE))]),(2,.box [.d (.int .i64 0),.d (.int .i64 0),.d (.int .i64 0),.d (.int .i64 0),.d (.nil 1),.d (.nil 7),.d (.nil 11)]),(12,.row k 7 ((t.elem.take k).map Jp))]⟩) ?_ ?_
 ·exact⟨_,_,Wk.refl _,0,Nat.zero_le _,rfl,sP⟩
 ·rintro n s ⟨k,hk,rfl,rfl⟩;by_cases hlt:k<t.elem.length
  ·have hx:=JAI hlt;have hd:=dT hlt;have hc:=(h1 t.elem[k] (Vk _)).call trivial;rw[JZ]at hc;refine zz6 ?_;refine⟨oM,wn hc ?_⟩;refine zz ?_;refine⟨sP,sO,?_⟩;refine⟨t.elem.length-(k+1),_,oM,Wk.less ?_,k+1,oM,rfl,rfl⟩;rw[List.take_succ_eq_append_getElem hlt,Vw];simp only[go_sem,Jg k oM,Va,Vb,JZ t.elem[k],Nat.reduceAdd,Nat.reduceEqDiff,Nat.reduceBEq,Nat.reduceLeDiff,reduceCtorEq,↓reduceIte]
  ·have hd:=dF hlt;obtain rfl:k=t.elem.length:=oM;refine JDe ?_;refine⟨⟨Int.le_refl _,sP,sO⟩,?_⟩;refine JH (fun n s=>∃k:Nat,k≤t.fields.length∧n=t.fields.length-k∧
    s=⟨[(1,.ref 1 0),(2,.ref 2 0),(3,.ms 12 t.elem.length),(6,.ms 29 k),(31,.d (.list 11 (t.fields.map UE))),(32,.d (.int .i64 t.fields.length)),(33,.d (.int .i64 k))],
     [(1,.box [.d (.int .i64 t.kind),.d (.int .i64 t.min),.d (.int .i64 t.max),.d (.int .i64 t.scale),.d (.list 1 (t.words.map .str)),.d (.list 7 (t.elem.map Jp)),.d (.list 11 (t.fields.map UE))]),(2,.box [.d (.int .i64 0),.d (.int .i64 0),.d (.int .i64 0),.d (.int .i64 0),.d (.nil 1),.d (.nil 7),.d (.nil 11)]),(12,.row t.elem.length 7 (t.elem.map Jp)),(29,.row k 11 ((t.fields.take k).map UE))]⟩) ?_ ?_
   ·refine⟨_,_,Wk.less ?_,0,Nat.zero_le _,rfl,rfl⟩;simp[go_sem]
   ·rintro n s ⟨k,hk,rfl,rfl⟩;by_cases hlt:k<t.fields.length
    ·have hx:=U7 hlt;have hd:=dT hlt;have hc:=(h2 t.fields[k] (Vk _)).call trivial;rw[Ud]at hc;refine zz6 ?_;refine⟨oM,wn hc ?_⟩;refine zz ?_;refine⟨sP,sO,?_⟩;refine⟨t.fields.length-(k+1),_,oM,Wk.less ?_,k+1,oM,rfl,rfl⟩;rw[List.take_succ_eq_append_getElem hlt,Vw];simp only[go_sem,Jg k oM,Va,Vb,Ud t.fields[k],Nat.reduceAdd,Nat.reduceEqDiff,Nat.reduceBEq,Nat.reduceLeDiff,reduceCtorEq,↓reduceIte]
    ·have hd:=dF hlt;obtain rfl:k=t.fields.length:=oM;refine JDe ?_;refine wc (JOW t.words) trivial
mutual
theorem p88:∀t:Typ,PT 88 [Jp t] (.d (Jp t))
 |.mk k a b s w e f=>step88 _ (p88s e) (p144s f)
theorem p88s:∀l:List Typ,∀x∈l,PT 88 [Jp x] (.d (Jp x))
 |[],x,h=>by cases h
 |t::r,x,h=>by
  have h0:=p88 t;have h1:=p88s r x;rcases VA.1 h with e|h
  ·rw[e];exact h0
  ·exact h1 h
theorem p144:∀g:TFl,PT 144 [UE g] (.d (UE g))
 |.mk n m d t v=>step144 _ (p88 t)
theorem p144s:∀l:List TFl,∀x∈l,PT 144 [UE x] (.d (UE x))
 |[],x,h=>by cases h
 |t::r,x,h=>by
  have h0:=p144 t;have h1:=p144s r x;rcases VA.1 h with e|h
  ·rw[e];exact h0
  ·exact h1 h
end
def YY(t:Typ)(n:Str):TFl×Bool:=if t.kind≠9∧t.kind≠10 then(tf0,false)else tfR t n
theorem fnd_at{cs:List Dat}{g:Nat}(n:Str)(t:Typ)(hq:∀x,PT g [UE x,.ptr cs] (.d (.bool (x.name==n)))):PT 524 [Jp t,JBY g cs] (.tup [.d (UE (YY t n).1),.d (.bool (YY t n).2)]):=by
 refine Jz.Ja ok524.has fun hfit=>?_
 have hl:=(JBb (hfit _ (Vh))).2.2;refine ok524.pc ?_;have c:=(walk206 hq t.fields hl).call trivial;have hix:=ixM_eq n t.fields;unfold ixM at hix;generalize hR:YY t n=R;unfold YY tfR at hR;rw[JZ,Ud R.1];simp only[go_sem,ir524,simprocAttr];refine sq (t.kind !=10) ?_ ?_
 ·exact zz trivial
 refine zz ?_;apply ik<;>intro h
 ·rw[if_pos (sX h)]at hR;rw[←hR];rfl
 rw[if_neg (sX h)]at hR;refine wc c ?_;apply ik<;>intro h
 ·simp only[decide_eq_true_eq]at h;cases e:JOV n t.fields with
  |none=>
   rw[e]at hR;rw[←hR];rfl
  |some i=>rw[e]at hix;simp only at hix;omega
 ·simp only[decide_eq_false_iff_not]at h;cases e:JOV n t.fields with
  |none=>rw[e]at hix;simp only at hix;omega
  |some i=>
   have hil:i<t.fields.length:=by
    obtain⟨h,_⟩:=List.findIdx?_eq_some_iff_getElem.1 e;exact h
   rw[e]at hix hR;simp only at hix hR;rw[Vl hil]at hR;subst hR;have hx:=U7 hil;have c2:=(p144 t.fields[i]).call trivial;rw[Ud]at c2;rw[hix];refine zz24 ?_;refine⟨⟨oM,oM⟩,wn c2 ?_⟩;exact zz trivial
theorem JLI(t:Typ)(n:Str):PT 422 [Jp t,.str n] (.tup [.d (UE (YY t n).1),.d (.bool (YY t n).2)]):=by
 refine ok422.pc ?_;have c:=(fnd_at n t fun x=>walk525 x n).JHQ (by simp[J5]) 3;generalize YY t n=R at*;rw[JZ,Ud]at c;rw[JZ,Ud];simp only[go_sem,ir422,simprocAttr];refine wc c trivial
def JHY(a b:Int):Typ:=.mk 2 a b 0 [] [] []
def recG(k:Nat)(p:Str×Typ):TFl:=.mk ((k:Int)+1) p.1 1 p.2 []
def recGs:Nat→List (Str×Typ)→List TFl
 |_,[]=>[]
 |k,p::r=>recG k p::recGs (k+1) r
def recT(l:List (Str×Typ)):Typ:=.mk 9 0 0 0 [] [] (recGs 0 l)
@[instance_reducible] def rls0:Rls:={rl:=fun _=>false}
def sBody:Str:=[98,111,100,121]
def sReply:Str:=[114,101,112,108,121]
def JNY(b x:Typ):Typ:=recT [(sBody,b),(sReply,x)]
end Go.Proofs
namespace Go.Proofs
open Go Av
open Av.Y
def ir256:Ic:=q (R (ow 6 false<|N) [6])<|q (R (om 7 0<|om 8 1<|ot 9 .geq 7 8<|om 10 9<|.sc 10 true (om 11 0<|om 12 2<|ot 13 .leq 11 12<|N) (t 13) 14 (om 6 14<|N)) [0,1,2,7,8,9,10,14])<|.ret
theorem ok256:FT 256 15 ir256 [.tmp 6]:=.o Tryz.func256
def ir325:Ic:=q (R (ox 2 0<|ox 3 1<|oz 4 0<|N) [0,1,4])<|q (D (.block 0<|q (q (R (of 6 3 3<|ol 7 6<|og 8 7<|om 9 8<|.sc 9 true (of 10 2 1<|ol 11 10<|oi 12 .neq 11 0<|om 13 12<|.sc 13 false (of 14 2 2<|ol 15 14<|oi 16 .neq 15 0<|N) (t 16) 17 N) (t 17) 18 (om 5 18<|N)) [6,7,8,9,18])<|D (I 5 S (q (R (of 19 3 4<|ol 20 19<|og 21 20<|om 22 21<|.sc 22 true (of 23 2 3<|ol 24 23<|oi 25 .neq 24 0<|N) (t 25) 26 (om 5 26<|N)) [19,20,21,22,26])<|D (I 5 S (q (R (of 27 3 5<|ol 28 27<|og 29 28<|om 30 29<|.sc 30 true (of 31 2 4<|ol 32 31<|oh 33 32<|oi 34 .gtr 33 0<|N) (t 34) 35 (om 5 35<|N)) [27,28,29,30,35])<|D (I 5 S (q (R (of 36 3 6<|ol 37 36<|og 38 37<|om 39 38<|.sc 39 true (of 40 2 5<|ol 41 40<|oh 42 41<|oi 43 .gtr 42 0<|N) (t 43) 44 (om 5 44<|N)) [36,37,38,39,44])<|D (I 5 S (R (of 45 3 7<|ol 46 45<|og 47 46<|om 48 47<|.sc 48 true (of 49 2 6<|ol 50 49<|oh 51 50<|oi 52 .gtr 51 0<|N) (t 52) 53 (om 5 53<|N)) [2,3,45,46,47,48,53])) [2,3])) [2,3])) [2,3])) [2,3])<|D (I 5 (q (R (oz 4 3<|N) [5])<|.ret) S) [5]) [])<|q (.reg (oz 4 0<|N))<|.ret
theorem ok325:FT 325 54 ir325 [.tmp 4]:=.o Tryz.func325
def ir232:Ic:=q (R (ox 1 0<|ok 2 (.k (.nil 7))<|N) [0,2])<|q (q (R (of 6 1 0<|ol 7 6<|N) [6])<|D (.block 0<|q (R (oi 9 .eql 7 8<|om 8 9<|N) [9])<|D (I 8 (q (R (of 10 1 5<|ol 11 10<|om 2 11<|N) [1,7,8,10,11])<|.ret) (q (q (R (oi 13 .eql 7 9<|om 12 13<|N) [8,13])<|D (I 12 S (R (oi 14 .eql 7 10<|om 12 14<|N) [7,14])) [7])<|D (I 12 (q (R (of 15 1 6<|ol 16 15<|oh 17 16<|oo 18 (.mks 7 [.int .i64 0,.int .i64 0,.int .i64 0,.int .i64 0,.nil 1,.nil 7,.nil 11] (i 0) (t 17))<|om 3 18<|N) [12,15,16,17,18])<|q (q (R (of 19 1 6<|ol 20 19<|oh 21 20<|oz 22 0<|N) [1,19])<|D (.block 1<|.loop (q (.reg (ot 23 .lss 22 21<|N))<|q (D (I 23 S (E 1)) [23])<|q (D (.block 2<|q (R (oa true 24 11 20 22<|oL 25 11 24<|oN 5 yG<|oS 11 5 25<|N) [24,25])<|R (om 26 3<|of 27 5 3<|oL 28 7 27<|oo 29 (.bls 7 [t 28])<|oo 30 (.app 7 (t 26) (t 29))<|om 3 30<|N) [5,26,27,28,29,30]) [])<|R (oi 31 .add 22 1<|om 22 31<|N) [31])) [20,21,22,23,5])<|q (R (om 32 3<|om 2 32<|N) [3,32])<|.ret) S) [1,12])) []) [10,11,3,5])<|q (.reg (ok 2 (.k (.nil 7))<|N))<|.ret
theorem ok232:FT 232 33 ir232 [.tmp 2]:=.o Tryz.func232
def ir326:Ic:=q (R (ox 1 0<|oz 2 0<|N) [0,2])<|q (D (.block 0<|q (R (of 7 1 1<|ol 8 7<|oi 9 .neq 8 0<|om 10 9<|.sc 10 false (of 11 1 2<|ol 12 11<|oi 13 .neq 12 0<|N) (t 13) 14 (om 6 14<|N)) [7,8,9,10,14])<|D (I 6 (q (R (oz 2 3<|N) [1,6])<|.ret) (q (R (of 16 1 4<|ol 17 16<|oh 18 17<|oi 19 .gtr 18 64<|om 15 19<|N) [6,16,17,18,19])<|D (I 15 (q (R (oz 2 9<|N) [1,15])<|.ret) S) [15])) []) [])<|q (q (R (of 20 1 4<|ol 21 20<|oh 22 21<|oz 23 0<|N) [20])<|D (.block 1<|.loop (q (.reg (ot 24 .lss 23 22<|N))<|q (D (I 24 S (E 1)) [24])<|q (D (.block 2<|q (R (om 25 23<|oa false 26 1 21 23<|ol 27 26<|om 3 25<|om 4 27<|N) [25,26,27])<|q (q (R (om 28 4<|cl 29 415 [t 28]<|cl 30 328 [t 29]<|om 5 30<|N) [28,29,30])<|q (R (om 31 5<|oi 32 .neq 31 0<|N) [31])<|D (I 32 (q (R (om 33 5<|om 2 33<|N) [1,21,22,23,3,4,5,32,33])<|.ret) S) [5,32])<|q (q (R (om 34 3<|oi 35 .gtr 34 0<|om 36 35<|.sc 36 true (om 37 4<|of 38 1 4<|ol 39 38<|om 40 3<|oi 41 .sub 40 1<|oa false 42 1 39 41<|ol 43 42<|ot 44 .seq 37 43<|N) (t 44) 45 N) [34,35,36])<|D (I 45 (q (R (oz 2 7<|N) [1,21,22,23,3,4,45])<|.ret) S) [45])<|q (R (om 46 3<|oi 47 .gtr 46 0<|om 48 47<|.sc 48 true (om 49 4<|of 50 1 4<|ol 51 50<|om 52 3<|oi 53 .sub 52 1<|oa false 54 1 51 53<|ol 55 54<|ot 56 .slt 49 55<|N) (t 56) 57 N) [3,4,46,47,48])<|D (I 57 (q (R (oz 2 24<|N) [1,21,22,23,57])<|.ret) S) [57]) [])<|R (oi 58 .add 23 1<|om 23 58<|N) [58])) [1,21,22,23,24,3,4,5])<|q (.reg (oz 2 0<|N))<|.ret
theorem ok326:FT 326 59 ir326 [.tmp 2]:=.o Tryz.func326
def ir327:Ic:=q (R (ox 2 0<|oz 4 0<|N) [0,4])<|q (R (of 6 2 6<|ol 7 6<|om 8 1<|oa true 9 11 7 8<|oL 10 11 9<|oN 5 yG<|oS 11 5 10<|N) [6,7,8,9,10])<|q (D (.block 0<|q (R (of 12 5 1<|ol 13 12<|cl 14 255 [t 13]<|og 15 14<|om 11 15<|N) [12,13,14,15])<|D (I 11 (q (R (oz 4 12<|N) [1,2,5,11])<|.ret) (q (R (of 17 5 0<|ol 18 17<|cl 19 256 [t 18,i 1,i 9999]<|og 20 19<|om 16 20<|N) [11,17,18,19,20])<|D (I 16 (q (R (oz 4 2<|N) [1,2,5,16])<|.ret) (q (R (of 22 2 6<|ol 23 22<|om 24 1<|oo 25 (.slc 11 (t 23) none (some (t 24)) none)<|oo 26 (.fnv (.func 416) [] [t 5])<|cl 27 346 [t 25,t 26]<|om 21 27<|N) [1,16,22,23,24,25,26,27])<|D (I 21 (q (R (oz 4 7<|N) [2,5,21])<|.ret) (q (R (of 29 5 2<|ol 30 29<|cl 31 256 [t 30,i 1,i 3]<|og 32 31<|om 33 32<|.sc 33 false (of 34 2 0<|ol 35 34<|oi 36 .eql 35 10<|om 37 36<|.sc 37 true (of 38 5 2<|ol 39 38<|oi 40 .neq 39 1<|N) (t 40) 41 N) (t 41) 42 (om 28 42<|N)) [2,21,29,30,31,32,33,42])<|D (I 28 (q (R (oz 4 11<|N) [5,28])<|.ret) (q (R (of 44 5 2<|ol 45 44<|oi 46 .eql 45 3<|om 47 46<|.sc 47 true (of 48 5 10<|ol 49 48<|oh 50 49<|oi 51 .eql 50 0<|N) (t 51) 52 (om 43 52<|N)) [28,44,45,46,47,52])<|D (I 43 (q (R (oz 4 4<|N) [5,43])<|.ret) (q (R (of 54 5 10<|ol 55 54<|oh 56 55<|oi 57 .gtr 56 1<|om 58 57<|.sc 58 false (of 59 5 2<|ol 60 59<|oi 61 .neq 60 3<|om 62 61<|.sc 62 true (of 63 5 10<|ol 64 63<|oh 65 64<|oi 66 .gtr 65 0<|N) (t 66) 67 N) (t 67) 68 (om 53 68<|N)) [5,43,54,55,56,57,58,68])<|D (I 53 (q (R (oz 4 3<|N) [53])<|.ret) S) [53])) [])) [])) [])) [])) []) [])<|q (.reg (oz 4 0<|N))<|.ret
theorem ok327:FT 327 69 ir327 [.tmp 4]:=.o Tryz.func327
def ir416:Ic:=q (R (ox 2 0<|ow 3 false<|N) [0,3])<|q (R (of 4 2 1<|ol 5 4<|of 6 1 1<|ol 7 6<|ot 8 .seq 5 7<|om 9 8<|.sc 9 false (of 10 2 0<|ol 11 10<|of 12 1 0<|ol 13 12<|ot 14 .eql 11 13<|N) (t 14) 15 (om 3 15<|N)) [2,4,5,6,7,8,9,15])<|.ret
theorem ok416:FT 416 16 ir416 [.tmp 3]:=.o Tryz.func416
def ir231:Ic:=q (R (ox 1 0<|oz 2 0<|N) [0,2])<|q (q (R (of 8 1 0<|ol 9 8<|cl 10 256 [t 9,i 1,i 10]<|og 11 10<|N) [8,9,10])<|D (I 11 (q (R (oz 2 11<|N) [1,11])<|.ret) S) [11])<|q (D (.regd [(0,2),(0,4),(2,4)] (cl 12 324 []<|of 13 1 0<|ol 14 13<|oo 15 (.ixv (some 8) 11 8 (t 12) (t 14))<|oN 3 [.str [],.int .i64 0,.int .i64 0,.bool false,.bool false,.bool false,.bool false,.bool false]<|oS 8 3 15<|N)) [12,13,14,15])<|q (q (R (oL 16 7 1<|oL 17 8 3<|cl 18 325 [t 16,t 17]<|om 4 18<|N) [16,17,18])<|q (R (om 19 4<|oi 20 .neq 19 0<|N) [19])<|D (I 20 (q (R (om 21 4<|om 2 21<|N) [1,3,4,20,21])<|.ret) S) [4,20])<|q (D (.block 0<|q (R (of 23 1 0<|ol 24 23<|oi 25 .eql 24 4<|om 26 25<|.sc 26 true (of 27 1 4<|ol 28 27<|oh 29 28<|oi 30 .gtr 29 0<|N) (t 30) 31 (om 22 31<|N)) [23,24,25,26,31])<|I 22 (q (R (oL 32 7 1<|cl 33 326 [t 32]<|om 5 33<|N) [3,22,32,33])<|q (R (om 34 5<|oi 35 .neq 34 0<|N) [34])<|D (I 35 (q (R (om 36 5<|om 2 36<|N) [1,5,35,36])<|.ret) S) [5,35]) (q (q (R (of 38 3 3<|ol 39 38<|om 40 39<|.sc 40 true (of 41 1 1<|ol 42 41<|of 43 1 2<|ol 44 43<|ot 45 .gtr 42 44<|om 46 45<|.sc 46 false (of 47 1 1<|ol 48 47<|of 49 3 1<|ol 50 49<|ot 51 .lss 48 50<|N) (t 51) 52 (om 53 52<|.sc 53 false (of 54 1 2<|ol 55 54<|of 56 3 2<|ol 57 56<|ot 58 .gtr 55 57<|N) (t 58) 59 N)) (t 59) 60 (om 37 60<|N)) [22,38,39,40,60])<|D (I 37 S (R (of 61 3 4<|ol 62 61<|om 63 62<|.sc 63 true (of 64 1 3<|ol 65 64<|cl 66 256 [t 65,i 0,i 12]<|og 67 66<|N) (t 67) 68 (om 37 68<|N)) [3,61,62,63,68])) [3])<|D (I 37 (q (R (oz 2 2<|N) [1,37])<|.ret) S) [37])) [5])<|q (D (.block 1<|q (q (R (of 70 1 0<|ol 71 70<|oi 72 .eql 71 8<|om 73 72<|.sc 73 true (of 74 1 5<|ol 75 74<|oh 76 75<|oi 77 .eql 76 0<|N) (t 77) 78 (om 69 78<|N)) [70,71,72,73,78])<|I 69 S (R (of 79 1 0<|ol 80 79<|oi 81 .eql 80 10<|om 82 81<|.sc 82 true (of 83 1 6<|ol 84 83<|oh 85 84<|oi 86 .eql 85 0<|N) (t 86) 87 (om 69 87<|N)) [79,80,81,82,87]))<|D (I 69 (q (R (oz 2 4<|N) [1,69])<|.ret) (q (R (of 89 1 0<|ol 90 89<|oi 91 .eql 90 8<|om 92 91<|.sc 92 true (of 93 1 5<|ol 94 93<|oh 95 94<|oi 96 .gtr 95 1<|N) (t 96) 97 (om 88 97<|N)) [69,89,90,91,92,97])<|D (I 88 (q (R (oz 2 3<|N) [1,88])<|.ret) (q (R (of 99 1 6<|ol 100 99<|oh 101 100<|oi 102 .gtr 101 64<|om 98 102<|N) [88,99,100,101,102])<|D (I 98 (q (R (oz 2 9<|N) [1,98])<|.ret) S) [98])) [])) []) [])<|q (q (R (of 103 1 6<|ol 104 103<|oh 105 104<|oz 106 0<|N) [103,104])<|D (.block 2<|.loop (q (.reg (ot 107 .lss 106 105<|N))<|q (D (I 107 S (E 2)) [107])<|q (D (.block 3<|q (R (om 108 106<|om 6 108<|N) [108])<|q (R (oL 109 7 1<|om 110 6<|cl 111 327 [t 109,t 110]<|om 7 111<|N) [6,109,110,111])<|q (R (om 112 7<|oi 113 .neq 112 0<|N) [112])<|D (I 113 (q (R (om 114 7<|om 2 114<|N) [1,105,106,7,113,114])<|.ret) S) [7,113]) [])<|R (oi 115 .add 106 1<|om 106 115<|N) [115])) [1,105,106,107,6,7])<|q (.reg (oz 2 0<|N))<|.ret
theorem ok231:FT 231 116 ir231 [.tmp 2]:=.o Tryz.func231
def JOX:Ic:=q (R (ox 3 0<|oz 6 0<|N) [0,6])<|q (D (.block 0<|q (R (om 12 2<|oc 13 12<|ol 14 13<|oi 15 .eql 14 0<|om 11 15<|N) [12,13,14,15])<|D (I 11 (q (R (oz 6 9<|N) [1,2,3,11])<|.ret) (q (R (om 17 1<|oi 18 .gtr 17 8<|om 16 18<|N) [11,17,18])<|D (I 16 (q (R (oz 6 23<|N) [1,2,3,16])<|.ret) S) [16])) []) [])<|q (R (om 19 2<|oc 20 19<|ol 21 20<|oi 22 .sub 21 1<|oc 23 19<|os 23 22<|N) [19,20,21,22,23])<|q (q (R (oL 24 7 3<|cl 25 231 [t 24]<|om 7 25<|N) [24,25])<|q (R (om 26 7<|oi 27 .neq 26 0<|N) [26])<|D (I 27 (q (R (om 28 7<|om 6 28<|N) [1,2,3,7,27,28])<|.ret) S) [7,27])<|q (q (R (oL 29 7 3<|cl 30 232 [t 29]<|oh 31 30<|oz 32 0<|N) [29])<|D (.block 1<|.loop (q (.reg (ot 33 .lss 32 31<|N))<|q (D (I 33 S (E 1)) [33])<|q (D (.block 2<|q (R (om 34 32<|oa true 35 7 30 32<|oL 36 7 35<|oN 9 yT<|om 8 34<|oS 7 9 36<|N) [34,35,36])<|q (q (R (oL 37 7 9<|om 38 1<|oi 39 .add 38 1<|om 40 2<|cl 41 134 [t 37,t 39,t 40]<|om 10 41<|N) [37,38,39,40,41])<|q (R (om 42 10<|oi 43 .neq 42 0<|N) [42])<|D (I 43 (q (R (om 44 10<|om 6 44<|N) [1,2,3,30,31,32,9,8,10,43,44])<|.ret) S) [10,43])<|q (R (of 45 3 0<|ol 46 45<|oi 47 .eql 46 9<|om 48 47<|.sc 48 true (of 49 3 6<|ol 50 49<|om 51 8<|oa true 52 11 50 51<|of 53 52 2<|ol 54 53<|oi 55 .eql 54 3<|N) (t 55) 56 (om 57 56<|.sc 57 true (oL 58 7 9<|of 59 3 6<|ol 60 59<|om 61 8<|oa true 62 11 60 61<|of 63 62 10<|ol 64 63<|oo 65 (.ixa true 6 (t 64) (i 0))<|oL 66 6 65<|cl 67 233 [t 58,t 66]<|og 68 67<|N) (t 68) 69 N)) [9,8,45,46,47,48,56,57])<|D (I 69 (q (R (oz 6 18<|N) [1,2,3,30,31,32,69])<|.ret) S) [69]) [])<|R (oi 70 .add 32 1<|om 32 70<|N) [70])) [1,2,3,30,31,32,33,9,8,10])<|q (.reg (oz 6 0<|N))<|.ret
theorem JLJ:FT 134 71 JOX [.tmp 6]:=.o Tryz.func134
def ir135:Ic:=q (R (ox 1 0<|oz 2 0<|N) [0,2])<|q (R (oL 8 7 1<|cl 9 234 [t 8]<|om 3 9<|N) [8,9])<|q (q (R (of 10 1 5<|ol 11 10<|oh 12 11<|oz 13 0<|N) [10])<|D (.block 0<|.loop (q (.reg (ot 14 .lss 13 12<|N))<|q (D (I 14 S (E 0)) [14])<|q (D (.block 1<|q (R (oa true 15 7 11 13<|oL 16 7 15<|oN 5 yT<|oS 7 5 16<|N) [15,16])<|R (om 17 3<|oL 18 7 5<|cl 19 135 [t 18]<|oo 20 (.mx (t 17) (t 19))<|om 3 20<|N) [5,17,18,19,20]) [])<|R (oi 21 .add 13 1<|om 13 21<|N) [21])) [11,12,13,14,5])<|q (q (R (of 22 1 6<|ol 23 22<|oh 24 23<|oz 25 0<|N) [1,22])<|D (.block 2<|.loop (q (.reg (ot 26 .lss 25 24<|N))<|q (D (I 26 S (E 2)) [26])<|q (D (.block 3<|q (R (oa true 27 11 23 25<|oL 28 11 27<|oN 7 yG<|oS 11 7 28<|N) [27,28])<|R (om 29 3<|of 30 7 3<|oL 31 7 30<|cl 32 135 [t 31]<|oo 33 (.mx (t 29) (t 32))<|om 3 33<|N) [7,29,30,31,32,33]) [])<|R (oi 34 .add 25 1<|om 25 34<|N) [34])) [23,24,25,26,7])<|q (R (om 35 3<|om 2 35<|N) [3,35])<|.ret
theorem ok135:FT 135 36 ir135 [.tmp 2]:=.o Tryz.func135
def JIc:Ic:=q (R (ox 1 0<|oz 2 0<|N) [0,2])<|q (.reg (oz 3 1<|N))<|q (q (R (of 6 1 0<|ol 7 6<|N) [6])<|D (.block 0<|q (R (oi 9 .eql 7 8<|om 8 9<|N) [9])<|I 8 (q (R (of 10 1 1<|ol 11 10<|oi 12 .gtr 11 0<|N) [7,8,10,11])<|D (I 12 (D (.regd [(2,7)] (om 13 3<|of 14 1 1<|ol 15 14<|of 16 1 5<|ol 17 16<|oo 18 (.ixa true 7 (t 17) (i 0))<|oL 19 7 18<|cl 20 234 [t 19]<|ot 21 .mul 15 20<|ot 22 .add 13 21<|om 3 22<|N)) [1,12,13,14,15,16,17,18,19,20,21,22]) S) [1,12]) (q (R (oi 24 .eql 7 10<|om 23 24<|N) [8,24])<|I 23 (R (om 25 3<|of 26 1 6<|ol 27 26<|oo 28 (.ixa true 11 (t 27) (i 0))<|of 29 28 3<|oL 30 7 29<|cl 31 234 [t 30]<|ot 32 .add 25 31<|om 3 32<|N) [1,7,23,25,26,27,28,29,30,31,32]) (q (R (oi 34 .eql 7 9<|om 33 34<|N) [7,23,34])<|D (I 33 (q (R (of 35 1 6<|ol 36 35<|oh 37 36<|oz 38 0<|N) [1,33,35])<|D (.block 1<|.loop (q (.reg (ot 39 .lss 38 37<|N))<|q (D (I 39 S (E 1)) [39])<|q (D (.block 2<|q (R (oa true 40 11 36 38<|oL 41 11 40<|oN 5 yG<|oS 11 5 41<|N) [40,41])<|q (R (of 42 5 2<|ol 43 42<|N) [42])<|D (.block 3<|q (R (oi 45 .eql 43 1<|om 44 45<|N) [45])<|I 44 (R (om 46 3<|of 47 5 3<|oL 48 7 47<|cl 49 234 [t 48]<|ot 50 .add 46 49<|om 3 50<|N) [5,43,44,46,47,48,49,50]) (q (R (oi 52 .eql 43 3<|om 51 52<|N) [43,44,52])<|D (I 51 (R (om 53 3<|of 54 5 10<|ol 55 54<|oo 56 (.ixa true 6 (t 55) (i 0))<|oL 57 6 56<|cl 58 330 [t 57]<|ot 59 .add 53 58<|om 3 59<|N) [5,51,53,54,55,56,57,58,59]) S) [5,51])) []) [])<|R (oi 60 .add 38 1<|om 38 60<|N) [60])) [36,37,38,39,5]) S) [1,33]))) [10,11,5])<|q (R (om 61 3<|oo 62 (.mn (t 61) (i 4097))<|om 2 62<|N) [3,61,62])<|.ret
theorem ok234:FT 234 63 JIc [.tmp 2]:=.o Tryz.func234
def ir233:Ic:=q (R (ox 2 0<|ox 3 1<|ow 4 false<|N) [0,1,4])<|q (R (oL 5 6 3<|cl 6 328 [t 5]<|oi 7 .eql 6 0<|om 8 7<|.sc 8 true (oL 9 7 2<|oL 10 6 3<|cl 11 329 [t 9,t 10]<|N) (t 11) 12 (om 4 12<|N)) [2,3,5,6,7,8,12])<|.ret
theorem ok233:FT 233 13 ir233 [.tmp 4]:=.o Tryz.func233
def ir329:Ic:=q (R (ox 2 0<|ox 3 1<|ow 4 false<|N) [0,1,4])<|q (q (R (of 11 3 0<|ol 12 11<|of 13 2 0<|ol 14 13<|ot 15 .neq 12 14<|N) [11,12,13,14])<|D (I 15 (q (R (ow 4 false<|N) [2,3,15])<|.ret) S) [15])<|q (q (R (of 16 2 0<|ol 17 16<|N) [16])<|D (.block 0<|q (q (R (oi 19 .eql 17 2<|om 18 19<|N) [19])<|I 18 S (q (R (oi 20 .eql 17 6<|om 18 20<|N) [20])<|I 18 S (q (R (oi 21 .eql 17 7<|om 18 21<|N) [21])<|I 18 S (R (oi 22 .eql 17 3<|om 18 22<|N) [22]))))<|D (I 18 (q (R (of 23 3 1<|ol 24 23<|of 25 2 1<|ol 26 25<|of 27 2 2<|ol 28 27<|cl 29 256 [t 24,t 26,t 28]<|om 30 29<|.sc 30 true (of 31 3 2<|ol 32 31<|of 33 2 3<|ol 34 33<|ot 35 .eql 32 34<|N) (t 35) 36 (om 4 36<|N)) [2,3,17,18,23,24,25,26,27,28,29,30,36])<|.ret) (q (R (oi 38 .eql 17 4<|om 37 38<|N) [18,38])<|D (I 37 (q (q (R (of 39 2 4<|ol 40 39<|oh 41 40<|oi 42 .gtr 41 0<|N) [17,37,39,40,41])<|D (I 42 (q (R (of 43 2 4<|ol 44 43<|of 45 3 3<|ol 46 45<|cl 47 109 [t 44,t 46]<|om 4 47<|N) [2,3,42,43,44,45,46,47])<|.ret) S) [42])<|q (R (of 48 3 3<|ol 49 48<|oj 50 49<|of 51 2 1<|ol 52 51<|of 53 2 2<|ol 54 53<|cl 55 256 [t 50,t 52,t 54]<|om 4 55<|N) [2,3,48,49,50,51,52,53,54,55])<|.ret) (q (R (oi 57 .eql 17 5<|om 56 57<|N) [37,57])<|D (I 56 (q (R (of 58 3 3<|ol 59 58<|oj 60 59<|of 61 2 1<|ol 62 61<|of 63 2 2<|ol 64 63<|cl 65 256 [t 60,t 62,t 64]<|om 4 65<|N) [2,3,17,56,58,59,60,61,62,63,64,65])<|.ret) (q (R (oi 67 .eql 17 8<|om 66 67<|N) [56,67])<|D (I 66 (q (R (of 68 3 4<|ol 69 68<|oh 70 69<|of 71 2 1<|ol 72 71<|of 73 2 2<|ol 74 73<|cl 75 256 [t 70,t 72,t 74]<|om 76 75<|.sc 76 true (of 77 3 4<|ol 78 77<|oo 79 (.fnv (.func 421) [] [t 2])<|cl 80 420 [t 78,t 79]<|og 81 80<|N) (t 81) 82 (om 4 82<|N)) [2,3,17,66,68,69,70,71,72,73,74,75,76,82])<|.ret) (q (R (oi 84 .eql 17 10<|om 83 84<|N) [66,84])<|D (I 83 (q (R (oL 86 7 2<|of 87 3 3<|ol 88 87<|cl 89 422 [t 86,t 88]<|om 85 89<|oe 90 85 0<|oe 91 85 1<|oN 5 yG<|oS 11 5 90<|om 6 91<|N) [2,17,83,86,87,88,89,85,90,91])<|q (R (om 92 6<|om 93 92<|.sc 93 true (of 94 5 3<|oL 95 7 94<|of 96 3 4<|ol 97 96<|oo 98 (.ixa true 6 (t 97) (i 0))<|oL 99 6 98<|cl 100 329 [t 95,t 99]<|N) (t 100) 101 (om 4 101<|N)) [3,5,6,92,93,101])<|.ret) (q (R (oi 103 .eql 17 9<|om 102 103<|N) [17,83,103])<|D (I 102 (q (q (R (of 104 3 5<|ol 105 104<|oh 106 105<|oz 107 0<|N) [102,104])<|D (.block 1<|.loop (q (.reg (ot 108 .lss 107 106<|N))<|q (D (I 108 S (E 1)) [108])<|q (D (.block 2<|q (R (oa true 109 7 105 107<|oL 110 7 109<|oN 8 y7<|oS 7 8 110<|N) [109,110])<|q (R (oL 112 7 2<|of 113 8 0<|ol 114 113<|cl 115 422 [t 112,t 114]<|om 111 115<|oe 116 111 0<|oe 117 111 1<|oN 9 yG<|oS 11 9 116<|om 10 117<|N) [112,113,114,115,111,116,117])<|q (R (om 118 10<|og 119 118<|om 120 119<|.sc 120 false (of 121 9 3<|oL 122 7 121<|of 123 8 1<|oL 124 6 123<|cl 125 329 [t 122,t 124]<|og 126 125<|N) (t 126) 127 N) [8,9,10,118,119,120])<|D (I 127 (q (R (ow 4 false<|N) [2,3,105,106,107,127])<|.ret) S) [127]) [])<|R (oi 128 .add 107 1<|om 107 128<|N) [128])) [105,106,107,108,8,9,10])<|q (R (of 129 2 6<|ol 130 129<|oo 131 (.fnv (.func 423) [] [t 3])<|cl 132 346 [t 130,t 131]<|og 133 132<|om 4 133<|N) [2,3,129,130,131,132,133])<|.ret) S) [2,3,102])) [])) [])) [])) [])) []) [5,6,8,9,10])<|q (.reg (ow 4 true<|N))<|.ret
theorem ok329:FT 329 134 ir329 [.tmp 4]:=.o Tryz.func329
def ir421:Ic:=q (R (ox 2 0<|ow 3 false<|N) [0,3])<|q (R (of 4 1 5<|ol 5 4<|oo 6 (.ixa true 7 (t 5) (i 0))<|oL 7 7 6<|oL 8 6 2<|cl 9 329 [t 7,t 8]<|og 10 9<|om 3 10<|N) [2,4,5,6,7,8,9,10])<|.ret
theorem ok421:FT 421 11 ir421 [.tmp 3]:=.o Tryz.func421
def ir423:Ic:=q (R (ox 2 0<|ow 3 false<|N) [0,3])<|q (R (oL 7 6 1<|of 8 2 1<|ol 9 8<|cl 10 25 [t 7,t 9]<|om 6 10<|oe 11 6 0<|oe 12 6 1<|oN 4 y6<|oS 6 4 11<|om 5 12<|N) [7,8,9,10,6,11,12,4])<|q (R (om 13 5<|og 14 13<|om 15 14<|.sc 15 true (of 16 2 2<|ol 17 16<|oi 18 .neq 17 2<|N) (t 18) 19 (om 3 19<|N)) [2,5,13,14,15,19])<|.ret
theorem ok423:FT 423 20 ir423 [.tmp 3]:=.o Tryz.func423
def ir83:Ic:=q (R (ox 1 0<|oz 2 0<|N) [0,2])<|q (.reg (oN 3 [.int .i64 0]<|on (.sto none (t 3) (i 4096))<|N))<|q (q (R (oL 5 7 1<|cl 6 134 [t 5,i 1,t 3]<|om 4 6<|N) [3,5,6])<|q (R (om 7 4<|oi 8 .neq 7 0<|N) [7])<|D (I 8 (q (R (om 9 4<|om 2 9<|N) [1,4,8,9])<|.ret) S) [4,8])<|q (q (R (oL 10 7 1<|cl 11 135 [t 10]<|oi 12 .gtr 11 4096<|N) [1,10,11])<|D (I 12 (q (R (oz 2 9<|N) [12])<|.ret) S) [12])<|q (.reg (oz 2 0<|N))<|.ret
theorem ok83:FT 83 13 ir83 [.tmp 2]:=.o Tryz.func83
def ir346:Ic:=q (R (ow 4 false<|N) [4])<|q (R (om 5 0<|om 6 1<|cl 7 206 [t 5,t 6]<|oi 8 .geq 7 0<|om 4 8<|N) [0,1,5,6,7,8])<|.ret
theorem ok346:FT 346 9 ir346 [.tmp 4]:=.o Tryz.func346
end Go.Proofs
namespace Go.Proofs
open Go Av
def inI(n a b:Int):Bool:=decide (n≥a)&&decide (n≤b)
theorem Y7(n a b:Int):PT 256 [.int .i64 n,.int .i64 a,.int .i64 b] (.d (.bool (inI n a b))):=by
 refine ok256.pc ?_;simp only[go_sem,ir256,simprocAttr];refine sq (decide (n≤b)) ?_ ?_
 all_goals simp only[go_sem,inI,simprocAttr]
structure Lim where
 name:Str
 low:Int
 high:Int
 bounds:Bool
 scale:Bool
 text:Bool
 list:Bool
 fields:Bool
def JEt(l:Lim):List Dat:=[.str l.name,.int .i64 l.low,.int .i64 l.high,.bool l.bounds,.bool l.scale,.bool l.text,.bool l.list,.bool l.fields]
def lim0:Lim:=⟨[],0,0,false,false,false,false,false⟩
def limA:List Lim:=[lim0,
 ⟨[98,111,111,108],0,0,false,false,false,false,false⟩,
 ⟨[105,110,116],-999999999999999,999999999999999,true,false,false,false,false⟩,
 ⟨[100,101,99,105,109,97,108],-999999999999999,999999999999999,true,true,false,false,false⟩,
 ⟨[116,101,120,116],0,1024,true,false,true,false,false⟩,
 ⟨[98,121,116,101,115],0,1024,true,false,false,false,false⟩,
 ⟨[100,97,116,101],-719162,2932896,true,false,false,false,false⟩,
 ⟨[116,105,109,101],-62135596800000,253402300799999,true,false,false,false,false⟩,
 ⟨[108,105,115,116],0,256,true,false,false,true,false⟩,
 ⟨[114,101,99,111,114,100],0,0,false,false,false,false,true⟩,
 ⟨[118,97,114,105,97,110,116],0,0,false,false,false,false,true⟩]
def JJ1:List Dat:=limA.flatMap JEt
theorem walk324:PT 324 [] (.d (.agg JJ1)):=JTM JOM kR
def JMQ(k:Int):Lim:=limA.getD k.toNat lim0
theorem JJ2:JJ1.length=88:=rfl
theorem JMR{k:Int}(h0:1≤k)(h1:k≤10):(JJ1.drop (k.toNat*8)).take 8=JEt (JMQ k):=by
 obtain⟨n,rfl⟩:∃n:Nat,k=n:=⟨k.toNat,oM⟩;have h:n=1∨n=2∨n=3∨n=4∨n=5∨n=6∨n=7∨n=8∨n=9∨n=10:=oM;rcases h with rfl|rfl|rfl|rfl|rfl|rfl|rfl|rfl|rfl|rfl<;>rfl
def JGD(t:Typ)(L:Lim):Bool:=((((!L.bounds&&(t.min !=0||t.max !=0))||(!L.scale&&t.scale !=0))||(!L.text&&decide (((t.words.length:Nat):Int)>0)))||(!L.list&&decide (((t.elem.length:Nat):Int)>0)))||(!L.fields&&decide (((t.fields.length:Nat):Int)>0))
theorem walk325(t:Typ)(L:Lim):PT 325 [Jp t,.agg (JEt L)] (.d (.int .i64 (if JGD t L=true then 3 else 0))):=by
 refine ok325.pc ?_;generalize hR:(if JGD t L=true then(3:Int)else 0)=R;unfold JGD at hR;rw[JZ];simp only[go_sem,ir325,JEt,simprocAttr];refine sq (t.min !=0||t.max !=0) ?_ ?_
 ·refine zz ?_;refine sq (t.max !=0) ?_ ?_
  all_goals simp only[go_sem,simprocAttr]
 refine zz ?_;apply ik<;>intro h
 ·simp only[h,Bool.true_or,↓reduceIte]at hR;subst hR;exact JSw trivial
 rw[h,Bool.false_or]at hR;refine sq (t.scale !=0) ?_ ?_
 ·exact zz4 trivial
 refine zz4 ?_;apply ik<;>intro h
 ·simp only[h,Bool.true_or,↓reduceIte]at hR;subst hR;exact JSw trivial
 rw[h,Bool.false_or]at hR;refine sq (decide (((t.words.length:Nat):Int)>0)) ?_ ?_
 ·exact zz4 trivial
 refine zz4 ?_;apply ik<;>intro h
 ·simp only[h,Bool.true_or,↓reduceIte]at hR;subst hR;exact JSw trivial
 rw[h,Bool.false_or]at hR;refine sq (decide (((t.elem.length:Nat):Int)>0)) ?_ ?_
 ·exact zz4 trivial
 refine zz4 ?_;apply ik<;>intro h
 ·simp only[h,Bool.true_or,↓reduceIte]at hR;subst hR;exact JSw trivial
 rw[h,Bool.false_or]at hR;refine sq (decide (((t.fields.length:Nat):Int)>0)) ?_ ?_
 ·exact zz4 trivial
 refine zz4 ?_;apply ik<;>intro h
 ·simp only[h,↓reduceIte]at hR;subst hR;rfl
 ·simp only[h,Vu,↓reduceIte]at hR;subst hR;rfl
def JCp:Option Str→List Str→Int
 |_,[]=>0
 |p,w::r=>
  if JAy (.mk 4 0 0 w [] [])!=0 then JAy (.mk 4 0 0 w [] [])
  else if(match p with|some q=>w==q|none=>false)=true then 7
  else if(match p with|some q=>strLt w q|none=>false)=true then 24
  else JCp (some w) r
def JEu(t:Typ):Int:=if(t.min !=0||t.max !=0)=true then 3 else if decide (((t.words.length:Nat):Int)>64)=true then 9 else JCp none t.words
def JCK(l:List Str)(k:Nat):Option Str:=if k=0 then none else l[k-1]?
def isP(f:Str→Str→Bool)(w:Str)(p:Option Str):Bool:=match p with|some q=>f w q|none=>false
theorem JId(p:Option Str)(w:Str)(r:List Str):JCp p (w::r)=if JAy (.mk 4 0 0 w [] [])!=0 then JAy (.mk 4 0 0 w [] [])else if isP (fun a b=>a==b) w p=true then 7 else if isP strLt w p=true then 24 else JCp (some w) r:=by
 cases p<;>rfl
theorem JIe{xs:List Str}{k:Nat}(h:k<xs.length):nth (xs.map .str) k=.str xs[k]:=by rw[U3 (sX h),List.getElem_map]
theorem JLK(f:Str→Str→Bool)(w:Str)(l:List Str)(k:Nat):(decide ((k:Int)>0)&&isP f w (JCK l k))=isP f w (JCK l k):=by
 by_cases h:k=0
 ·subst h;rfl
 ·have:decide ((k:Int)>0)=true:=sO;rw[this,Vt]
theorem walk326(t:Typ)(hw:t.words.length≤68719476736):PT 326 [Jp t] (.d (.int .i64 (JEu t))):=by
 refine ok326.pc ?_;generalize hR:JEu t=R;unfold JEu at hR;rw[JZ];simp only[go_sem,ir326,simprocAttr];refine sq (t.max !=0) ?_ ?_
 ·exact zz trivial
 refine zz4 ?_;apply ik<;>intro h
 ·simp only[h,↓reduceIte]at hR;subst hR;rfl
 rw[if_neg (nF h)]at hR;clear h;apply ik<;>intro h
 ·simp only[h,↓reduceIte]at hR;subst hR;rfl
 rw[if_neg (nF h)]at hR;refine JH (fun n s=>∃k:Nat,k≤t.words.length∧n=t.words.length-k∧JCp (JCK t.words k) (t.words.drop k)=R∧
  s=⟨[(1,.ref 1 0),(21,.d (.list 1 (t.words.map .str))),(22,.d (.int .i64 t.words.length)),(23,.d (.int .i64 k))],
   [(1,.box [.d (.int .i64 t.kind),.d (.int .i64 t.min),.d (.int .i64 t.max),.d (.int .i64 t.scale),.d (.list 1 (t.words.map .str)),.d (.list 7 (t.elem.map Jp)),.d (.list 11 (t.fields.map UE))])]⟩) ?_ ?_
 ·exact⟨_,_,Wk.refl _,0,Nat.zero_le _,rfl,hR,rfl⟩
 ·clear hR;rintro n s ⟨k,hk,rfl,hinv,rfl⟩;by_cases hlt:k<t.words.length
  ·have hx:=JIe hlt;have hd:=dT hlt;have c415:=(walk415 t.words[k]).call trivial;have c328:=(JLH (.mk 4 0 0 t.words[k] [] [])).call trivial;rw[Vq hlt,JId]at hinv;have hp1:JCK t.words (k+1)=some t.words[k]:=by simp[JCK,Vl hlt]
   have hq:0<k→∃q,JCK t.words k=some q∧nth (t.words.map .str) ((k:Int)-1).toNat=.str q:=by
    intro h0;have h1:k-1<t.words.length:=oM;refine⟨t.words[k-1],?_,?_⟩
    ·rw[JCK,if_neg oM,Vl h1]
    ·have:((k:Int)-1).toNat=k-1:=oM;rw[this,JIe h1]
   have hw1:0<k→IntKind.i64.wrap ((k:Int)-1)=(k:Int)-1:=fun h0=>wrap64 oM oM
   have hdd:=JLK (fun a b=>a==b) t.words[k] t.words k;have hdl:=JLK strLt t.words[k] t.words k;generalize JAy (.mk 4 0 0 t.words[k] [] [])=cv at*;rw[JG]at c415 c328;refine zz6 ?_;refine⟨oM,dC,wn c415 ?_⟩;refine zz ?_;refine wc c328 ?_;apply ik<;>intro h
   ·rw[if_pos h]at hinv;subst hinv;rfl
   rw[if_neg (nF h)]at hinv;clear h;refine J9 (isP (fun a b=>a==b) t.words[k] (JCK t.words k)) (fun h0=>?_) ?_
   ·have h0:0<k:=sX h0;obtain⟨q,e1,e2⟩:=hq h0;refine zz51 ?_;exact⟨oM,dC⟩
   simp only[go_sem,hdd,simprocAttr];apply ik<;>intro h
   ·rw[if_pos h]at hinv;subst hinv;rfl
   rw[if_neg (nF h)]at hinv;clear h
   try refine zz ?_
   refine J9 (isP strLt t.words[k] (JCK t.words k)) (fun h0=>?_) ?_
   ·have h0:0<k:=sX h0;obtain⟨q,e1,e2⟩:=hq h0;refine zz51 ?_;exact⟨oM,dC⟩
   simp only[go_sem,hdl,simprocAttr];apply ik<;>intro h
   ·rw[if_pos h]at hinv;subst hinv;rfl
   rw[if_neg (nF h),←hp1]at hinv;clear h;refine⟨t.words.length-(k+1),_,oM,Wk.less ?_,k+1,oM,rfl,hinv,rfl⟩;exact zz7 trivial
  ·have hd:=dF hlt;rw[List.drop_eq_nil_of_le oM,JCp]at hinv;subst hinv;exact zz5 trivial
theorem JC.JKR{P:Program}[Glb]{f:Nat}{vs:List Av}{hp u:List (Nat×Av.Obj)}{ds:List Dat}{v:Av}{p:Prop}(hd:Jl (Av.get hp) vs=some (p,ds,u))(hp0:p)(h:JC P (.fn f) (ds.map .d) [] v []):
  JC P (.fn f) vs ((vs.flatMap Yv).map fun i=>(i,Av.get hp i)) v u:=by
 intro β A w H us hT hc hvs;have heq:Jl H vs=some (p,ds,u):=by
  rw[←hd];refine XZ fun x hx=>?_
  exact hT (x,Av.get hp x) (VC.2 ⟨x,hx,rfl⟩)
 obtain⟨A1,s1,l1,r1,m1⟩:=U4 hc heq hp0 (us:=us.toList) (sX hvs.1) (fun k c u h1 h2=>hvs.2 k c u h1 (sX h2));refine(h β A1 w (JA H u) us (by intro e he;cases he) s1.core ⟨by simpa using l1,fun k c u h1 h2=>?_⟩).mono ?_
 ·rw[Vo]at h1;cases e:ds[k]? with
  |none=>simp[e]at h1
  |some x=>
   simp only[e,Vj,Vd]at h1;subst h1;exact .d _ _ (r1 k x u e (sX h2))
 ·rintro v' w' ⟨β',A',q1,q2⟩;exact⟨β',A',s1.trans q1,q2⟩
@[instance_reducible] def rls7:Rls:={rl:=fun n=>n==1||n==7}
@[instance_reducible] def rls8:Rls:={rl:=fun n=>n==8}
end Go.Proofs
