/- Part D of a proof. -/
import Derived.Test.YtpncocdpglfifaaGreatDoorCfC
import Derived.Test.YtpncocdpglfifaaGreatDoorProg
import Derived.Test.YtpncocdpglfifaaGreatDoorCfA
import Derived.Sort.Grow
import Derived.Sort.EncStr
import Derived.Lib.SlicesCompact
import Derived.Laws.AppendOwn
import Derived.Shelf.Strings.OnBuilder
import Derived.Lib.Bytealg
import Derived.Shelf.Slices.Clone
set_option linter.unusedVariables false
set_option linter.unusedSimpArgs false
set_option linter.unusedSectionVars false
set_option linter.constructorNameAsVariable false
set_option linter.unnecessarySimpa false
set_option maxRecDepth 100000
namespace Go.Proofs
open Go Av
open Av.Y
def YR:Ic:=q (R (ox 3 0<|oN 6 [.str [],.int .i64 0,.int .i64 0,.int .i64 0,.int .i64 0,.str [],.str [],.nil 5,.nil 6,.nil 2,.nil 2]<|ok 7 (.k (.str []))<|N) [0,7])<|q (R (of 17 3 1<|ol 18 17<|oo 19 (.cvi .i64 (t 18))<|of 20 3 2<|ol 21 20<|oo 22 (.cvi .i64 (t 21))<|om 8 19<|om 9 22<|N) [17,18,19,20,21,22])<|q (R (cl 23 49 [.k (.str [98,111,100,121,46,107,105,110,100])]<|cl 24 49 [.k (.str [98,111,100,121,46,107,105,110,100])]<|oo 25 (.bls 5 [t 24])<|oN 10 [.int .i64 0,.int .i64 0,.str [],.nil 6,.nil 5]<|oS 5 10 23<|om 11 25<|N) [23,24,25])<|q (R (om 26 1<|cl 27 177 [t 26]<|cl 28 49 [t 27]<|om 29 8<|oi 30 .rem 29 110<|cl 31 16 [t 30]<|cl 32 48 [i 8,t 28,t 31]<|oN 12 [.int .i64 0,.int .i64 0,.str [],.nil 6,.nil 5]<|oS 5 12 32<|N) [26,27,28,29,30,31,32])<|q (R (om 33 9<|oi 34 .rem 33 4<|ob 35 .add (i 1) (t 34)<|om 13 35<|N) [33,34,35])<|q (q (R (of 36 3 0<|ol 37 36<|ob 38 .rem (t 37) (.k (.int .u8 13))<|N) [36,37])<|D (.block 0<|q (R (ob 40 .eql (t 38) (.k (.int .u8 0))<|om 39 40<|N) [40])<|D (I 39 (q (R (oL 41 5 12<|oo 42 (.bls 5 [t 41])<|oo 43 (.bld [.str [],.int .i64 0,.int .i64 0,.int .i64 0,.int .i64 0,.str [],.str [],.nil 5,.nil 6,.nil 2,.nil 2] [(1,1,i 1),(7,1,t 42),(5,1,.k (.str [108,97,114,103,101]))])<|om 44 1<|oS 11 6 43<|om 7 44<|N) [1,2,3,8,9,10,11,12,13,38,39,41,42,43,44])<|.ret) (q (q (R (ob 46 .eql (t 38) (.k (.int .u8 1))<|om 45 46<|N) [39,46])<|I 45 S (R (ob 47 .eql (t 38) (.k (.int .u8 12))<|om 45 47<|N) [47]))<|D (I 45 (q (q (R (om 48 1<|ob 49 .seq (t 48) (.k (.str [111,114,100,101,114]))<|om 50 49<|.sc 50 true (om 51 8<|oi 52 .rem 51 2<|oi 53 .eql 52 0<|N) (t 53) 54 N) [2,3,8,11,12,13,38,45,48,49,50])<|D (I 54 (q (D (.regd [(1,11),(4,11),(7,11),(8,11),(11,14)] (oo 55 (.ifc 9 (.k (.str [105,100])))<|cl 56 49 [.k (.str [98,111,100,121,46,105,100])]<|oo 57 (.ifc 74 (t 56))<|oo 58 (.ifc 9 (.k (.str [97,109,111,117,110,116])))<|cl 59 49 [.k (.str [98,111,100,121,46,97,109,111,117,110,116])]<|om 60 9<|oi 61 .rem 60 4<|cl 62 16 [t 61]<|cl 63 48 [i 12,t 59,t 62]<|oo 64 (.ifc 74 (t 63))<|oo 65 (.ifc 9 (.k (.str [107,105,110,100])))<|oL 66 5 10<|oo 67 (.ifc 74 (t 66))<|oo 68 (.ifc 9 (.k (.str [105,116,101,109,115])))<|cl 69 49 [.k (.str [98,111,100,121,46,105,116,101,109,115])]<|oo 70 (.ifc 74 (t 69))<|oo 71 (.bls 1 [t 55,t 57,t 58,t 64,t 65,t 67,t 68,t 70])<|cl 72 178 [t 71]<|oo 73 (.bld [.str [],.int .i64 0,.int .i64 0,.int .i64 0,.int .i64 0,.str [],.str [],.nil 5,.nil 6,.nil 2,.nil 2] [(1,1,i 2),(6,1,.k (.str [111,114,100,101,114])),(8,1,t 72)])<|om 74 1<|oS 11 6 73<|om 7 74<|N)) [1,9,10,54,55,56,57,58,59,60,61,62,63,64,65,66,67,68,69,70,71,72,73,74])<|.ret) S) [10,54])<|q (R (om 75 1<|om 76 9<|oi 77 .rem 76 200<|cl 78 16 [t 77]<|cl 79 179 [t 75,t 78]<|oo 80 (.bld [.str [],.int .i64 0,.int .i64 0,.int .i64 0,.int .i64 0,.str [],.str [],.nil 5,.nil 6,.nil 2,.nil 2] [(1,1,i 2),(6,1,.k (.str [98,105,108,108])),(8,1,t 79)])<|oS 11 6 80<|ok 7 (.k (.str [98,105,108,108]))<|N) [1,9,75,76,77,78,79,80])<|.ret) (q (R (ob 82 .eql (t 38) (.k (.int .u8 2))<|om 81 82<|N) [45,82])<|I 81 (q (R (om 83 1<|ob 84 .seq (t 83) (.k (.str [111,114,100,101,114]))<|N) [8,9,11,13,38,81,83])<|D (I 84 (q (D (.regd [(1,4),(4,7),(4,10)] (oo 85 (.ifc 9 (.k (.str [105,100])))<|cl 86 49 [.k (.str [98,111,100,121,46,105,100])]<|oo 87 (.ifc 74 (t 86))<|oo 88 (.ifc 9 (.k (.str [107,105,110,100])))<|oL 89 5 10<|oo 90 (.ifc 74 (t 89))<|oo 91 (.ifc 9 (.k (.str [115,107,117])))<|cl 92 49 [.k (.str [105,116,101,109,46,115,107,117])]<|oo 93 (.ifc 74 (t 92))<|oo 94 (.ifc 9 (.k (.str [113,116,121])))<|cl 95 49 [.k (.str [105,116,101,109,46,113,116,121])]<|oo 96 (.ifc 74 (t 95))<|oo 97 (.bls 1 [t 85,t 87,t 88,t 90,t 91,t 93,t 94,t 96])<|cl 98 178 [t 97]<|oo 99 (.bld [.str [],.int .i64 0,.int .i64 0,.int .i64 0,.int .i64 0,.str [],.str [],.nil 5,.nil 6,.nil 2,.nil 2] [(1,1,i 3),(5,1,.k (.str [98,111,100,121,46,105,116,101,109,115])),(6,1,.k (.str [108,105,110,101])),(8,1,t 98)])<|oS 11 6 99<|ok 7 (.k (.str [108,105,110,101]))<|N)) [1,2,3,10,12,84,85,86,87,88,89,90,91,92,93,94,95,96,97,98,99])<|.ret) S) [10,84]) (q (R (ob 101 .eql (t 38) (.k (.int .u8 3))<|om 100 101<|N) [81,101])<|D (I 100 (q (q (R (om 102 8<|oi 103 .rem 102 2<|oi 104 .eql 103 0<|N) [2,3,10,12,38,100,102,103])<|D (I 104 (R (om 105 11<|cl 106 49 [.k (.str [99,111,117,110,116])]<|om 107 9<|oi 108 .rem 107 4<|ob 109 .add (i 1) (t 108)<|cl 110 16 [t 109]<|cl 111 48 [i 11,t 106,t 110]<|oo 112 (.bls 5 [t 111])<|oo 113 (.app 5 (t 105) (t 112))<|om 11 113<|N) [9,104,105,106,107,108,109,110,111,112,113]) S) [9,104])<|q (R (om 114 1<|cl 115 177 [t 114]<|oo 116 (.sls (t 115) (some (i 5)) none)<|ob 117 .cat (.k (.str [105,116,101,109,115,91,42,93,46])) (t 116)<|oo 118 (.bld [.int .i64 0,.int .i64 0,.str [],.nil 6,.nil 5] [(0,1,i 26),(2,1,t 117)])<|oN 14 [.int .i64 0,.int .i64 0,.str [],.nil 6,.nil 5]<|oS 5 14 118<|N) [1,114,115,116,117,118])<|q (R (cl 119 49 [.k (.str [105,116,101,109,115,91,48,93,46,105,100])]<|cl 120 16 [i 0]<|cl 121 48 [i 23,t 119,t 120]<|oN 15 [.int .i64 0,.int .i64 0,.str [],.nil 6,.nil 5]<|oS 5 15 121<|N) [119,120,121])<|q (D (.regd [(9,12),(12,15),(9,18),(15,18)] (om 122 11<|om 123 8<|oi 124 .quo 123 2<|oi 125 .rem 124 4<|om 126 8<|oi 127 .rem 126 3<|oi 128 .mul 127 50<|om 129 13<|oo 130 (.ifc 9 (.k (.str [105,100])))<|oL 131 5 15<|oo 132 (.ifc 74 (t 131))<|oo 133 (.ifc 9 (.k (.str [107,105,110,100])))<|cl 134 49 [.k (.str [107,101,121])]<|oo 135 (.ifc 74 (t 134))<|oo 136 (.ifc 9 (.k (.str [116,111,116,97,108])))<|oL 137 5 14<|oo 138 (.ifc 74 (t 137))<|oo 139 (.ifc 9 (.k (.str [99,111,117,110,116])))<|cl 140 49 [.k (.str [99,111,117,110,116])]<|oo 141 (.ifc 74 (t 140))<|oo 142 (.bls 1 [t 130,t 132,t 133,t 135,t 136,t 138,t 139,t 141])<|cl 143 178 [t 142]<|oo 144 (.bld [.str [],.int .i64 0,.int .i64 0,.int .i64 0,.int .i64 0,.str [],.str [],.nil 5,.nil 6,.nil 2,.nil 2] [(1,1,i 4),(7,1,t 122),(2,1,t 125),(3,1,t 128),(4,1,t 129),(6,1,.k (.str [98,105,108,108])),(8,1,t 143)])<|oS 11 6 144<|ok 7 (.k (.str [98,105,108,108]))<|N)) [8,11,13,14,15,122,123,124,125,126,127,128,129,130,131,132,133,134,135,136,137,138,139,140,141,142,143,144])<|.ret) (q (R (ob 146 .eql (t 38) (.k (.int .u8 4))<|om 145 146<|N) [11,100,146])<|D (I 145 (q (D (.regd [(0,1)] (oL 147 5 10<|cl 148 49 [.k (.str [98,111,100,121,46,105,100])]<|oo 149 (.bls 5 [t 147,t 148])<|om 150 8<|oi 151 .rem 150 3<|oi 152 .mul 151 50<|om 153 13<|oo 154 (.bld [.str [],.int .i64 0,.int .i64 0,.int .i64 0,.int .i64 0,.str [],.str [],.nil 5,.nil 6,.nil 2,.nil 2] [(1,1,i 5),(7,1,t 149),(3,1,t 152),(4,1,t 153)])<|om 155 1<|oS 11 6 154<|om 7 155<|N)) [1,2,3,8,9,10,12,13,38,145,147,148,149,150,151,152,153,154,155])<|.ret) (q (R (ob 157 .eql (t 38) (.k (.int .u8 5))<|om 156 157<|N) [10,145,157])<|D (I 156 (q (R (cl 158 49 [.k (.str [98,111,100,121,46,105,100])]<|oo 159 (.bls 5 [t 158])<|om 160 13<|oo 161 (.bld [.str [],.int .i64 0,.int .i64 0,.int .i64 0,.int .i64 0,.str [],.str [],.nil 5,.nil 6,.nil 2,.nil 2] [(1,1,i 6),(7,1,t 159),(2,1,t 160)])<|om 162 1<|oS 11 6 161<|om 7 162<|N) [1,2,3,8,9,12,13,38,156,158,159,160,161,162])<|.ret) (q (R (ob 164 .eql (t 38) (.k (.int .u8 6))<|om 163 164<|N) [156,164])<|D (I 163 (q (R (om 165 8<|oi 166 .rem 165 3<|ob 167 .add (i 1) (t 166)<|om 168 13<|oo 169 (.bld [.str [],.int .i64 0,.int .i64 0,.int .i64 0,.int .i64 0,.str [],.str [],.nil 5,.nil 6,.nil 2,.nil 2] [(1,1,i 7),(2,1,t 167),(3,1,i 100),(4,1,t 168)])<|om 170 1<|oS 11 6 169<|om 7 170<|N) [1,2,3,8,9,12,13,38,163,165,166,167,168,169,170])<|.ret) (q (R (ob 172 .eql (t 38) (.k (.int .u8 7))<|om 171 172<|N) [163,172])<|D (I 171 (q (R (om 173 8<|oi 174 .rem 173 80<|ob 175 .add (i 1) (t 174)<|om 176 13<|oo 177 (.bld [.str [],.int .i64 0,.int .i64 0,.int .i64 0,.int .i64 0,.str [],.str [],.nil 5,.nil 6,.nil 2,.nil 2] [(1,1,i 8),(3,1,t 175),(4,1,t 176)])<|om 178 1<|oS 11 6 177<|om 7 178<|N) [1,2,3,8,9,12,13,38,171,173,174,175,176,177,178])<|.ret) (q (R (ob 180 .eql (t 38) (.k (.int .u8 8))<|om 179 180<|N) [171,180])<|D (I 179 (q (R (om 181 1<|oo 182 (.bls 1 [.k (.str [112,97,121])])<|cl 183 180 [t 181,t 182]<|om 184 8<|oi 185 .rem 184 3<|oi 186 .mul 185 60<|om 187 13<|om 188 1<|cl 189 49 [.k (.str [114,101,112,108,121,46,99,111,100,101])]<|cl 190 179 [t 188,t 189]<|oo 191 (.bld [.str [],.int .i64 0,.int .i64 0,.int .i64 0,.int .i64 0,.str [],.str [],.nil 5,.nil 6,.nil 2,.nil 2] [(1,1,i 9),(9,1,t 183),(3,1,t 186),(4,1,t 187),(6,1,.k (.str [98,105,108,108])),(8,1,t 190)])<|oS 11 6 191<|ok 7 (.k (.str [98,105,108,108]))<|N) [1,2,3,8,9,12,13,38,179,181,182,183,184,185,186,187,188,189,190,191])<|.ret) (q (R (ob 193 .eql (t 38) (.k (.int .u8 9))<|om 192 193<|N) [38,179,193])<|D (I 192 (q (R (oo 194 (.bls 1 [.k (.str [112,97,121])])<|oo 195 (.bls 1 [.k (.str [112,97,121]),.k (.str [115,116,111,99,107])])<|oo 196 (.bls 1 [.k (.str [115,116,111,99,107]),.k (.str [109,97,105,108])])<|oo 197 (.bls 1 [.k (.str [115,116,111,99,107]),.k (.str [112,97,121]),.k (.str [109,97,105,108])])<|oo 198 (.bls 1 [t 194,t 195,t 196,t 197])<|om 199 8<|oi 200 .rem 199 4<|oa false 201 1 198 200<|ol 202 201<|om 16 202<|N) [2,3,8,12,192,194,195,196,197,198,199,200,201,202])<|q (R (om 203 1<|om 204 16<|cl 205 180 [t 203,t 204]<|om 206 9<|oi 207 .rem 206 3<|oi 208 .mul 207 60<|om 209 13<|om 210 1<|om 211 16<|oh 212 211<|cl 213 16 [t 212]<|cl 214 179 [t 210,t 213]<|oo 215 (.bld [.str [],.int .i64 0,.int .i64 0,.int .i64 0,.int .i64 0,.str [],.str [],.nil 5,.nil 6,.nil 2,.nil 2] [(1,1,i 10),(9,1,t 205),(3,1,t 208),(4,1,t 209),(6,1,.k (.str [98,105,108,108])),(8,1,t 214)])<|oS 11 6 215<|ok 7 (.k (.str [98,105,108,108]))<|N) [1,9,13,16,203,204,205,206,207,208,209,210,211,212,213,214,215])<|.ret) S) [8,9,13,192])) [])) [])) [])) [])) [])) []))) [])) []) [])<|q (q (R (om 216 2<|N) [2])<|D (I 216 (q (R (oL 217 3 3<|om 218 1<|oL 219 5 12<|cl 220 181 [t 217,t 218,t 219]<|om 221 1<|oS 11 6 220<|om 7 221<|N) [1,3,12,216,217,218,219,220,221])<|.ret) S) [3,216])<|q (R (oL 222 5 12<|oo 223 (.bls 5 [t 222])<|oo 224 (.bld [.str [],.int .i64 0,.int .i64 0,.int .i64 0,.int .i64 0,.str [],.str [],.nil 5,.nil 6,.nil 2,.nil 2] [(1,1,i 1),(7,1,t 223),(5,1,.k (.str [108,97,114,103,101]))])<|om 225 1<|oS 11 6 224<|om 7 225<|N) [1,12,222,223,224,225])<|.ret
theorem Ye:FT 103 226 YR [.cell 6 (some 11),.tmp 7]:=.o Tryz.func103
def JQ6:Ic:=q (R (ox 3 0<|ox 5 2<|oN 6 [.str [],.int .i64 0,.int .i64 0,.int .i64 0,.int .i64 0,.str [],.str [],.nil 5,.nil 6,.nil 2,.nil 2]<|N) [0,2])<|q (R (oo 13 (.bld [.str [],.int .i64 0,.int .i64 0,.int .i64 0,.int .i64 0,.str [],.str [],.nil 5,.nil 6,.nil 2,.nil 2] [(1,1,i 11)])<|oN 7 [.str [],.int .i64 0,.int .i64 0,.int .i64 0,.int .i64 0,.str [],.str [],.nil 5,.nil 6,.nil 2,.nil 2]<|oS 11 7 13<|N) [13])<|q (q (R (of 14 3 0<|ol 15 14<|ob 16 .rem (t 15) (.k (.int .u8 13))<|ob 17 .eql (t 16) (.k (.int .u8 11))<|N) [14,15,16])<|D (I 17 (R (of 18 7 1<|on (.sto none (t 18) (i 12))<|N) [17,18]) S) [17])<|q (R (of 20 3 2<|ol 21 20<|ob 22 .rem (t 21) (.k (.int .u8 4))<|ob 23 .add (.k (.int .u8 4)) (t 22)<|of 24 3 1<|ol 25 24<|ob 26 .quo (t 25) (.k (.int .u8 2))<|of 27 3 2<|ol 28 27<|ob 29 .quo (t 28) (.k (.int .u8 3))<|oo 30 (.bld [.int .u8 0,.int .u8 0,.int .u8 0] [(0,1,t 23),(1,1,t 26),(2,1,t 29)])<|om 31 1<|cl 32 103 [t 30,t 31,B false]<|om 19 32<|oe 33 19 0<|oe 34 19 1<|oN 8 [.str [],.int .i64 0,.int .i64 0,.int .i64 0,.int .i64 0,.str [],.str [],.nil 5,.nil 6,.nil 2,.nil 2]<|oS 11 8 33<|om 9 34<|N) [20,21,22,23,24,25,26,27,28,29,30,31,32,19,33,34,9])<|q (D (.regd [(1,2),(1,4),(0,5),(1,5),(2,5),(0,6),(1,6),(0,8),(1,8),(2,8),(4,8),(5,8),(6,8)] (oL 35 11 8<|oo 36 (.bls 11 [t 35])<|oL 37 11 8<|om 38 1<|oL 39 3 3<|cl 40 105 [t 38,t 39]<|oo 41 (.bls 11 [t 37,t 40])<|oo 42 (.bld [.str [],.int .i64 0,.int .i64 0,.int .i64 0,.int .i64 0,.str [],.str [],.nil 5,.nil 6,.nil 2,.nil 2] [(1,1,i 14),(5,1,.k (.str [110,111]))])<|oo 43 (.bls 11 [t 42])<|oo 44 (.bls 1 [t 36,t 41,t 43,.k (.nil 11)])<|om 10 44<|N)) [1,8,35,36,37,38,39,40,41,42,43,44])<|q (q (.reg (oz 11 0<|N))<|D (.block 0<|.loop (q (q (R (om 45 11<|of 46 3 1<|ol 47 46<|oo 48 (.cvi .i64 (t 47))<|oi 49 .rem 48 2<|ob 50 .add (i 1) (t 49)<|ot 51 .leq 45 50<|N) [45,46,47,48,49,50])<|D (I 51 S (E 0)) [51])<|q (D (.block 1<|q (R (om 54 10<|of 55 3 2<|ol 56 55<|oo 57 (.cvi .i64 (t 56))<|om 58 11<|ot 59 .add 57 58<|oi 60 .rem 59 4<|oa false 61 1 54 60<|ol 62 61<|oo 63 (.bld [.nil 5,.nil 11] [(1,1,t 62)])<|oN 12 [.nil 5,.nil 11]<|oS 2 12 63<|N) [54,55,56,57,58,59,60,61,62,63])<|q (q (R (of 64 7 1<|ol 65 64<|oi 66 .eql 65 11<|om 67 66<|.sc 67 true (om 68 11<|of 69 3 1<|ol 70 69<|oo 71 (.cvi .i64 (t 70))<|oi 72 .rem 71 2<|ot 73 .leq 68 72<|om 74 73<|.sc 74 false (of 75 3 2<|ol 76 75<|ob 77 .rem (t 76) (.k (.int .u8 5))<|ob 78 .eql (t 77) (.k (.int .u8 0))<|N) (t 78) 79 N) (t 79) 80 N) [64,65,66,67])<|D (I 80 (q (R (oL 81 5 5<|oo 82 (.bls 5 [t 81])<|of 83 12 0<|os 83 82<|N) [80,81,82,83])<|q (R (om 84 11<|oi 85 .gtr 84 0<|N) [84])<|D (I 85 (R (cl 86 49 [.k (.str [98,111,100,121,46,107,105,110,100])]<|cl 87 225 [.k (.str [98])]<|oo 88 (.bls 6 [t 87])<|oo 89 (.bld [.int .i64 0,.int .i64 0,.str [],.nil 6,.nil 5] [(0,1,i 1),(3,1,t 88)])<|cl 90 48 [i 6,t 86,t 89]<|oo 91 (.bls 5 [t 90])<|of 92 12 0<|os 92 91<|N) [85,86,87,88,89,90,91,92]) S) [85]) S) [80])<|R (of 93 7 10<|ol 94 93<|oL 95 2 12<|oo 96 (.bls 2 [t 95])<|oo 97 (.app 2 (t 94) (t 96))<|of 98 7 10<|os 98 97<|N) [12,93,94,95,96,97,98]) [])<|R (om 52 11<|oi 53 .add 52 1<|om 11 53<|N) [52,53])) [3,5,10,11,51])<|q (R (oL 99 11 7<|oS 11 6 99<|N) [7,99])<|.ret
theorem ok181:FT 181 100 JQ6 [.cell 6 (some 11)]:=.o Tryz.func181
def JQ7:Ic:=q (R (oz 2 0<|N) [2])<|q (R (om 6 0<|oh 7 6<|om 3 7<|N) [6,7])<|q (q (.reg (oz 4 0<|N))<|D (.block 0<|.loop (q (q (R (om 8 4<|om 9 0<|oh 10 9<|ot 11 .lss 8 10<|N) [8,9,10])<|D (I 11 S (E 0)) [11])<|q (D (.block 1<|q (.reg (oz 5 0<|N))<|D (.block 2<|.loop (q (q (R (om 14 5<|om 15 0<|om 16 4<|oa true 17 11 15 16<|of 18 17 10<|ol 19 18<|oh 20 19<|ot 21 .lss 14 20<|N) [14,15,16,17,18,19,20])<|D (I 21 S (E 2)) [21])<|q (D (.block 3<|R (om 24 3<|om 25 0<|om 26 4<|oa true 27 11 25 26<|of 28 27 10<|ol 29 28<|om 30 5<|oa true 31 2 29 30<|of 32 31 1<|ol 33 32<|cl 34 102 [t 33]<|ot 35 .add 24 34<|om 3 35<|N) [24,25,26,27,28,29,30,31,32,33,34,35]) [])<|R (om 22 5<|oi 23 .add 22 1<|om 5 23<|N) [22,23])) [5,21]) [])<|R (om 12 4<|oi 13 .add 12 1<|om 4 13<|N) [12,13])) [0,4,11,5])<|q (R (om 36 3<|om 2 36<|N) [3,36])<|.ret
theorem JQ8:FT 102 37 JQ7 [.tmp 2]:=.o Tryz.func102
def ir54:Ic:=q (R (ok 2 (.k (.nil 11))<|N) [2])<|q (.reg (ok 3 (.k (.nil 11))<|N))<|q (.reg (ok 4 (.k (.str [111,114,100,101,114]))<|N))<|q (R (oo 9 (.bld [.int .u8 0,.int .u8 0,.int .u8 0] [])<|oN 5 [.int .u8 0,.int .u8 0,.int .u8 0]<|oS 3 5 9<|N) [9])<|q (q (.reg (oz 6 0<|N))<|D (.block 0<|.loop (q (q (R (om 10 6<|om 11 0<|oh 12 11<|ot 13 .lss 10 12<|om 14 13<|.sc 14 true (om 15 6<|oi 16 .lss 15 6<|N) (t 16) 17 (om 18 17<|.sc 18 true (om 19 3<|cl 20 102 [t 19]<|oi 21 .lss 20 16<|N) (t 21) 22 N)) [10,11,12,13,14,17,18])<|D (I 22 S (E 0)) [22])<|q (D (.block 1<|q (R (om 26 0<|om 27 6<|oa true 28 3 26 27<|oL 29 3 28<|om 30 4<|cl 31 103 [t 29,t 30,B true]<|om 25 31<|oe 32 25 0<|oe 33 25 1<|oN 7 [.str [],.int .i64 0,.int .i64 0,.int .i64 0,.int .i64 0,.str [],.str [],.nil 5,.nil 6,.nil 2,.nil 2]<|oS 11 7 32<|om 8 33<|N) [4,26,27,28,29,30,31,25,32,33])<|q (D (.regd [(2,7),(3,7),(2,8),(3,8)] (om 34 3<|oL 35 11 7<|oo 36 (.bls 11 [t 35])<|oo 37 (.app 11 (t 34) (t 36))<|om 38 8<|om 39 0<|om 40 6<|oa true 41 3 39 40<|oL 42 3 41<|om 3 37<|om 4 38<|oS 3 5 42<|N)) [8,34,35,36,37,38,39,40,41,42])<|q (R (oL 43 11 7<|cl 44 104 [t 43]<|N) [7,43])<|D (I 44 (q (R (om 45 3<|om 2 45<|N) [0,3,5,6,4,44,45])<|.ret) S) [44]) [])<|R (om 23 6<|oi 24 .add 23 1<|om 6 24<|N) [23,24])) [0,6,22,7,8])<|q (R (om 46 3<|om 47 4<|oL 48 3 5<|cl 49 105 [t 47,t 48]<|oo 50 (.bls 11 [t 49])<|oo 51 (.app 11 (t 46) (t 50))<|om 2 51<|N) [3,4,5,46,47,48,49,50,51])<|.ret
theorem ok54:FT 54 52 ir54 [.tmp 2]:=.o Tryz.func54
def ir30:Ic:=q (R (ox 2 0<|oN 4 [.int .i64 0,.nil 9,.nil 7,.nil 4,.nil 3]<|N) [0])<|q (R (om 9 1<|cl 10 47 [t 9]<|oN 5 [.int .i64 0,.nil 9,.nil 7,.nil 4,.nil 3]<|oS 5 5 10<|N) [1,9,10])<|q (R (oo 11 (.bls 1 [.k (.str [105,110,95,97]),.k (.str [105,110,95,98]),.k (.str [97,103,97,105,110])])<|om 6 11<|N) [11])<|q (q (.reg (oz 7 0<|N))<|D (.block 0<|.loop (q (q (R (om 12 7<|oi 13 .lss 12 3<|N) [12])<|D (I 13 S (E 0)) [13])<|q (D (.block 1<|q (.reg (ok 8 (.k (.nil 3))<|N))<|q (q (R (om 16 7<|of 17 2 0<|ol 18 17<|oh 19 18<|ot 20 .lss 16 19<|N) [16,17,18,19])<|D (I 20 (R (of 21 2 0<|ol 22 21<|om 23 7<|oa false 24 1 22 23<|ol 25 24<|om 8 25<|N) [20,21,22,23,24,25]) S) [20])<|q (R (om 26 7<|oi 27 .eql 26 0<|om 28 27<|.sc 28 false (om 29 8<|oh 30 29<|oi 31 .gtr 30 0<|N) (t 31) 32 N) [26,27,28])<|D (I 32 (D (.regd [(1,12),(9,12),(10,12),(1,14)] (of 33 5 4<|ol 34 33<|om 35 7<|om 36 7<|oi 37 .add 36 1<|oo 38 (.sls (.k (.str [97,98,99])) (some (t 35)) (some (t 37)))<|ob 39 .cat (.k (.str [114,111,117,116,101,95])) (t 38)<|om 40 6<|om 41 7<|oa false 42 1 40 41<|ol 43 42<|om 44 8<|cl 45 54 [t 44]<|oo 46 (.bld [.str [],.str [],.nil 11] [(0,1,t 39),(1,1,t 43),(2,1,t 45)])<|oo 47 (.bls 3 [t 46])<|oo 48 (.app 3 (t 34) (t 47))<|of 49 5 4<|os 49 48<|N)) [8,32,33,34,35,36,37,38,39,40,41,42,43,44,45,46,47,48,49]) S) [8,32]) [])<|R (om 14 7<|oi 15 .add 14 1<|om 7 15<|N) [14,15])) [2,6,7,13,8])<|q (R (oL 50 5 5<|cl 51 31 [t 50]<|oS 5 4 51<|N) [5,50,51])<|.ret
theorem ok30:FT 30 52 ir30 [.cell 4 (some 5)]:=.o Tryz.func30
end Go.Proofs
namespace Av
open Go
variable {P:Program}{f:Nat}
mutual
def fits:Dat→Prop
 |.str s=>s.length≤68719476736
 |.int k n=>k.min≤n∧n≤k.max
 |.list _ xs=>xs.length≤68719476736∧Un xs
 |.agg cs=>Un cs
 |.ptr cs=>Un cs
 |.iface _ d=>fits d
 |_=>True
def Un:List Dat→Prop
 |[]=>True
 |x::r=>fits x∧Un r
end
theorem UG:∀{l:List Dat},Un l↔∀x∈l,fits x
 |[]=>by simp[Un]
 |x::r=>by simp[Un,UG (l:=r)]
theorem JIh{x:Dat}(h:∀c∈x.cells,fits c):fits x:=by
 cases x with
 |agg cs=>simp only[fits];exact UG.2 h
 |_=>exact h _ (by simp[Dat.cells])
theorem Rep.fits{A:Nat→Prop}{w:World}{x:Dat}{v:Value}(h:Rep A w x v):Av.fits x:=by
 induction h with
 |str s h=>exact h
 |int k n h=>exact h
 |emp sz a cap=>simp[Av.fits,Un]
 |list sz xs b o n cap vs hn hAb hl hc h1 hsz hh hvl hv ih=>
  refine⟨hc,UG.2 fun x hx=>JIh fun c hc'=>?_⟩;have hm:c∈flat xs:=List.mem_flatMap.2 ⟨x,hx,hc'⟩;obtain⟨i,hi,rfl⟩:=List.getElem_of_mem hm;exact ih i _ _ (Vl hi) (Vl oM)
 |agg cs arr hl h1 hv ih=>
  simp only[Av.fits];refine UG.2 fun c hc=>?_
  obtain⟨i,hi,rfl⟩:=List.getElem_of_mem hc;exact ih i _ _ (Vl hi) (Array.getElem?_eq_getElem oM)
 |ptr cs b o vs hAb h1 hh hvl hv ih=>
  simp only[Av.fits];refine UG.2 fun c hc=>?_
  obtain⟨i,hi,rfl⟩:=List.getElem_of_mem hc;exact ih i _ _ (Vl hi) (Vl oM)
 |iface t x v h ih=>exact ih
 |_=>trivial
variable [Glb][Rls]
theorem J3.Jk{ds:List Dat}{v:Av}(hh:Has P f)(h:(∀d∈ds,fits d)→J3 P f ds v):J3 P f ds v:=by
 refine⟨hh,fun β A w vs hc hvs=>(h fun d hd=>?_).2 β A w vs hc hvs⟩;obtain⟨i,hi,rfl⟩:=List.getElem_of_mem hd;have hl:ds.length=vs.size:=sX hvs.1;have:=hvs.2 i (.d ds[i]) vs[i] (by simp[hi]) sP;exact this.Ja.fits
theorem Con.Jk{args:List Av}{T:List (Nat×Obj)}{v:Av}{ups:List (Nat×Obj)}(hh:Has P f)(h:(∀d,.d d∈args→fits d)→Con P f args T v ups):Con P f args T v ups:=by
 refine⟨hh,fun β A w vs hc hvs=>(h fun d hd=>?_).2 β A w vs hc hvs⟩;obtain⟨i,hi,e⟩:=List.getElem_of_mem hd;have:=hvs.2 i (.d d) (vs[i]'(by have:=hvs.1;omega)) (by rw[←e];simp) sP;exact this.Ja.fits
theorem FnOk.has{N:Nat}{ic:Ic}{ris:List RI}(h:FnOk P f N ic ris):Has P f:=by
 obtain⟨fn,code,h1,h2,h3,_⟩:=h.ex;exact⟨fn,h1,by rw[h2];rfl,h3⟩
end Av
namespace Av
open Go Go.Sort Go.Proofs
variable [Glb][Rls]
theorem Zk(l:List (List UInt8)):flat (l.map .str)=l.map .str:=by
 induction l with
 |nil=>rfl
 |cons x r ih=>simp only[flat,Va,List.flatMap_cons,Dat.cells,List.singleton_append,List.cons.injEq,true_and];exact ih
section
variable {β:JO}{A:Nat→Prop}{w:World}{H:Heap}
theorem JHd{vs:Array Value}(h:1=vs.size):∃x,vs=#[x]:=by
 refine⟨vs[0],?_⟩;apply Array.ext
 ·simp[←h]
 ·intro i h1 h2;have:i=0:=oM;subst this;rfl
end
theorem Zl:∀(ups:List (Nat×Obj)) (H:Heap) (m:Nat),¬(get ups m).isSome=true→JC H ups m=H m
 |[],H,m,_=>rfl
 |(i,o)::r,H,m,h=>by
  simp only[get]at h;split at h
  ·exact absurd rfl h
  ·rename_i hne;simp only[JC];rw[Zl r _ m h,JQ _ _ (Ne.symm hne)]
theorem JES:∀(ups:List (Nat×Obj)) (H H':Heap) (m:Nat),(get ups m).isSome=true→JC H ups m=JC H' ups m
 |[],H,H',m,h=>by cases h
 |(i,o)::r,H,H',m,h=>by
  simp only[JC];by_cases hr:(get r m).isSome=true
  ·exact JES r _ _ m hr
  ·rw[Zl r _ m hr,Zl r _ m hr];simp only[get]at h;split at h
   ·rename_i e;subst e;rw[JE,JE]
   ·exact absurd h hr
theorem Stp.JCZ{β:JO}{A:Nat→Prop}{w:World}{H:Heap}(hc:Core β A w H){b j k sz:Nat}{cs:List Av}(hb:H b=some (.box cs))(hj:cs[j]? =some (.d (.nil sz)))(hk:H k=none)(hsz:0<sz):
  ∃β',Stp β A w H β' A w (upd (upd H k (some (.row 0 sz []))) b (some (.box (cs.set j (.ms k 0))))):=by
 have hne:b≠k:=fun e=>by subst e;rw[hk]at hb;cases hb
 have hst:=Stp.JBi (β:=β) hc hk hsz;have hb1:upd H k (some (.row 0 sz [])) b=some (.box cs):=by rw[JQ _ _ hne];exact hb
 obtain⟨bb,C,T,e1,e2,e3,e4,e5⟩:=hst.core.objs b _ hb1;have hset:w.setRow bb C=w:=Xn e2;have hst2:=Stp.JCx (cs':=cs.set j (.ms k 0)) (C':=C) hst.core hb1 e1 e2 (sX e3) e4 (fun hall i c v hc' hv'=>by
  rw[List.getElem?_set]at hc';split at hc'
  ·rename_i e;subst e;split at hc'
   ·cases hc';obtain⟨bb0,C0,T0,q1,q2,q3,q4,q5⟩:=hc.objs b _ hb;have hbb:bb0=bb:=by
     rw[JQ _ _ hne]at e1;rw[q1]at e1;exact Option.some.inj (BK.mk.inj e1).1
    subst hbb;rw[e2]at q2;cases q2;have hr:=(q5 j _ v hj hv').Ja;exact hall _ _ (VRep.JBi hr)
   ·cases hc'
  ·exact hall _ _ (e5 i c v hc' hv'))
 rw[hset]at hst2;exact⟨_,hst.trans hst2⟩
theorem JN.JJQ{P:Program}{f:Cee}{args:List Av}{v:Av}{ups:List (Nat×Obj)}{T:List (Nat×Option Obj)}{i k sz j:Nat}{cs:List Av}
  (h:JN P f args ((i,some (.box (cs.set j (.ms k 0))))::(k,some (.row 0 sz []))::T) v ups)(hT:∀e∈T,e.1≠i∧e.1≠k)(hik:i≠k)(hj:cs[j]? =some (.d (.nil sz)))(hsz:0<sz)
  (hui:(get ups i).isSome=true)(huk:(get ups k).isSome=true):JN P f args ((i,some (.box cs))::(k,none)::T) v ups:=by
 intro β A w H vs hT' hc hvs;have hi:H i=some (.box cs):=hT' (i,some (.box cs)) Vh;have hk:H k=none:=hT' (k,none) (Vn _ Vh);have hst:=Stp.JCZ hc hi hj hk hsz;obtain⟨β2,hst⟩:=hst;have hput:JC (upd (upd H k (some (.row 0 sz []))) i (some (.box (cs.set j (.ms k 0))))) ups=JC H ups:=by
  funext m;by_cases hm:(get ups m).isSome=true
  ·exact JES ups _ _ m hm
  ·have hmi:m≠i:=fun e=>hm (e▸hui)
   have hmk:m≠k:=fun e=>hm (e▸huk)
   rw[Zl ups _ m hm,Zl ups _ m hm,JQ _ _ hmi,JQ _ _ hmk]
 have:=h β2 A w _ vs (fun e he=>?_) hst.core ⟨hvs.1,fun n c u h1 h2=>hst.vals c u (hvs.2 n c u h1 h2)⟩
 ·rw[hput]at this;cases f with
  |fn g=>
   rcases this with⟨a1,a2⟩|⟨u,w',a1,β',A',a2,a3⟩
   ·refine .inl ⟨a1,a2.mono ?_⟩;rintro e w' ⟨u,rfl,β',A',b1,b2⟩;exact⟨u,rfl,β',A',hst.trans b1,b2⟩
   ·exact .inr ⟨u,w',a1,β',A',hst.trans a2,a3⟩
  |yld=>
   obtain⟨l,rest,a1,fn,tmps,asg,body,a2,a3⟩:=this;refine⟨l,rest,a1,fn,tmps,asg,body,a2,a3.mono ?_⟩;rintro e w' ⟨u,rfl,β',A',b1,b2⟩;exact⟨u,rfl,β',A',hst.trans b1,b2⟩
 ·simp only[VA]at he;rcases he with rfl|rfl|he
  ·exact JE _ _ _
  ·rw[JQ _ _ (Ne.symm hik)];exact JE _ _ _
  ·obtain⟨q1,q2⟩:=hT e he;rw[JQ _ _ q1,JQ _ _ q2];exact hT' e (Vn _ (Vn _ he))
end Av
namespace Av
open Go
variable [Glb][Rls]
section
variable {β:JO}{A:Nat→Prop}{w:World}{H:Heap}{D:Nat→Prop}
theorem VRep.JFv{i ver sz:Nat}{xs:List Dat}{u:Value}(h:VRep β A w H (.ms i ver) u)(hi:H i=some (.row ver sz xs)):VRep β A w H (.sub i ver 0 xs.length) u:=by
 cases h with
 |ms _ _ _ hu h0 h1 h2=>
  refine .sub _ _ _ _ _ hu h0 ?_ ?_
  ·intro v' sz' xs' hr;obtain⟨g1,g2⟩:=h1 v' sz' xs' hr;refine⟨g1,fun e=>?_⟩;rw[hi]at hr;cases hr;refine⟨oM,?_⟩;rcases g2 rfl with⟨b0,n0,a,rfl⟩|⟨b,C,T,fz,cap,e1,e2,e3,e4,rfl⟩
   ·exact .inl ⟨b0,rfl,n0,a,rfl⟩
   ·exact .inr ⟨b,C,T,fz,cap,⟨b,0,none⟩,e1,e2,e3,oM,fun _=>by simp,sP⟩
  ·intro sz' xs' hr;rw[hi]at hr;cases hr
theorem Wk.JLk{st:St}(t i ver sz:Nat)(xs:List Dat)(ht:get st.tm t=some (.ms i ver))(hi:get st.hp i=some (.row ver sz xs)):Wk D st ⟨put st.tm t (.sub i ver 0 xs.length),st.hp⟩:=by
 intro β A w a hc htr;refine⟨β,A,hc,fun t' v hv=>?_,fun i o b h1 h2 h3=>⟨i,o,h1,h2,h3⟩,fun _ h=>.inl h,fun c u _ h=>h⟩;rw[UC]at hv;split at hv
 ·rename_i e;subst e;cases hv;obtain⟨u,q1,q2⟩:=htr t' _ ht;exact⟨u,q1,q2.JFv hi⟩
 ·exact htr t' v hv
end
end Av
namespace Av
open Go
variable [Glb][Rls]
end Av
namespace Av
open Go
variable [Glb][Rls]
theorem Wk.frzT{D:Nat→Prop}{st:St}(t i v sz:Nat)(xs:List Dat)(ht:get st.tm t=some (.ms i v))(hi:get st.hp i=some (.row v sz xs)):Wk D st ⟨put st.tm t (.d (.list sz xs)),put st.hp i (.frz v sz xs)⟩:=by
 refine Wk.JBh ?_;intro β A w a hc htr;obtain⟨u,q1,q2⟩:=htr t _ ht;have hd:Jl (get st.hp) [.ms i v]=some (v=v∧True,[.list sz xs],[(i,.frz v sz xs)]):=by simp[Jl,XI,Uw,hi]
 obtain⟨A1,s1,l1,r1,m1⟩:=XA hc hd ⟨rfl,trivial⟩ (us:=[u]) rfl (fun k c u' h1 h2=>by
  cases k with
  |zero=>simp at h1 h2;subst h1;subst h2;exact q2
  |succ k=>simp at h1)
 have hh:get (put st.hp i (.frz v sz xs))=JC (get st.hp) [(i,.frz v sz xs)]:=funext fun j=>by rw[UC];rfl
 rw[hh];refine⟨β,A1,s1,?_⟩;intro t' v' hv;rw[UC]at hv;split at hv
 ·rename_i e;subst e;cases hv;exact⟨u,q1,.d _ _ (r1 0 _ u rfl rfl)⟩
 ·obtain⟨u',g1,g2⟩:=htr t' v' hv;exact⟨u',g1,s1.vals _ _ g2⟩
end Av
namespace Av
open Go Go.RowKit
variable [Glb][Rls]
theorem JN.JLl{P:Program}{f:Nat}{ds:List Dat}{x:Dat}(hh:Has P f)
  (h:∀(A:Nat→Prop) (w:World) (vs:Array Value),ds.length=vs.size→(∀(i:Nat) d u,ds[i]? =some d→vs[i]? =some u→Rep A w d u)→
   Calls P f vs w fun e w'=>∃u,e=.returned u∧Below w.heap.size w w'∧Rep (fun b=>A b∨(w.heap.size≤b∧b<w'.heap.size)) w' x u):JN P f (ds.map .d) [] (.d x) []:=by
 intro β A w H vs _ hc hvs;have hl:ds.length=vs.size:=sX hvs.1;refine .inl ⟨hh,(h A w vs hl ?_).mono ?_⟩
 ·intro i d u hd hu;have:=hvs.2 i (.d d) u (by rw[Vo,hd];rfl) hu;exact this.Ja
 ·rintro e w' ⟨u,rfl,hb,hr⟩;refine⟨u,rfl,β,fun b=>A b∨(w.heap.size≤b∧b<w'.heap.size),?_,.d _ _ hr⟩;refine Stp.new hc hb.os hb.tape hb.output hb.size hb.block (fun _ h=>.inl h) ?_ ?_
  ·rintro b (h|h)
   ·exact .inl h
   ·exact .inr h.1
  ·rintro b (h|h)
   ·exact Nat.lt_of_lt_of_le (hc.old b h) hb.size
   ·exact h.2
theorem JHe{A:Nat→Prop}{w w':World}{e:TypeId}{v:Value}{n:Nat}{ss:List (List UInt8)}(hn:n=ss.length)(hs:∀s∈ss,s.length≤68719476736)(hl:ss.length≤68719476736)
  (h:w'.ownsRow w.heap.size e 1 v n (ss.map fun s=>Value.string ⟨s.toArray⟩)):Rep (fun b=>A b∨(w.heap.size≤b∧b<w'.heap.size)) w' (.list 1 (ss.map .str)) v:=by
 obtain⟨h1,⟨rfl,h0⟩|⟨g,cap,cur,rfl,hg,hh,hcap,_,hcur,htake⟩⟩:=h
 ·have:ss=[]:=by cases ss with
   |nil=>rfl
   |cons a r=>simp at hn;omega
  subst this;exact .emp 1 none 0
 ·have hlt:g<w'.heap.size:=(Array.getElem?_eq_some_iff.1 hh).1;refine .list 1 _ g 0 n cap (ss.map fun s=>Value.string ⟨s.toArray⟩) (sX hn) (.inr ⟨hg,hlt⟩) sO (sX hl) ?_ ?_ ?_ ?_ ?_
  ·intro u hu;obtain⟨s,_,rfl⟩:=VC.1 hu;rfl
  ·intro x hx;obtain⟨s,_,rfl⟩:=VC.1 hx;rfl
  ·intro i u hu;have:(cur.toList.take (n*1))[i]? =some u:=by rw[htake];exact hu
   rw[List.getElem?_take]at this;split at this
   ·simp only[World.cell?,hh,Nat.zero_add];simpa using this
   ·cases this
  ·rw[Zk];simp
  ·intro i c u hc hu;rw[Zk,Vo]at hc;rw[Vo]at hu;cases q:ss[i]? with
   |none=>rw[q]at hc;cases hc
   |some s=>
    rw[q]at hc hu;cases hc;cases hu;exact .str s (hs s (List.mem_of_getElem? q))
end Av
namespace Go.Proofs
open Go.Shelf
def Tryz.JCz:Go.Shelf.Ren:=⟨fun|156=>185|165=>228|166=>229|169=>230|240=>259|241=>260|276=>303|277=>304|n=>n,fun|31=>36|9=>9|3=>3|4=>4|0=>0|20=>20|72=>294|76=>298|70=>291|37=>292|75=>297|127=>336|164=>377|5=>5|80=>300|n=>n,fun|n=>n⟩
theorem Tryz.laysJ:Go.Proofs.Lays.n156 Tryz.prog Tryz.JCz:={
 mixed:=kR
 f156:=Tryz.func185.trans (congrArg some kR)
 f165:=Tryz.func228.trans (congrArg some kR)
 f166:=Tryz.func229.trans (congrArg some kR)
 f169:=Tryz.func230.trans (congrArg some kR)
 f240:=Tryz.func259.trans (congrArg some kR)
 f241:=Tryz.func260.trans (congrArg some kR)
 f276:=Tryz.func303.trans (congrArg some kR)
 f277:=Tryz.func304.trans (congrArg some kR)
 t0:=Tryz.underlying0
 a0:=Tryz.isAgg0
 z0:=Tryz.sizeOf0
 v0:=Tryz.zeroValue0
 t3:=Tryz.underlying3
 a3:=Tryz.isAgg3
 z3:=Tryz.sizeOf3
 v3:=Tryz.zeroValue3
 t4:=Tryz.underlying4
 a4:=Tryz.isAgg4
 z4:=Tryz.sizeOf4
 v4:=Tryz.zeroValue4
 t9:=Tryz.underlying9
 a9:=Tryz.isAgg9
 z9:=Tryz.sizeOf9
 v9:=Tryz.zeroValue9
 t20:=Tryz.underlying20
 a20:=Tryz.isAgg20
 z20:=Tryz.sizeOf20
 v20:=Tryz.zeroValue20
 t31:=Tryz.underlying36
 a31:=Tryz.isAgg36
 z31:=Tryz.sizeOf36
 v31:=Tryz.zeroValue36
 t37:=Tryz.underlying292
 a37:=Tryz.isAgg292
 z37:=Tryz.sizeOf292
 v37:=Tryz.zeroValue292
 t70:=Tryz.underlying291
 a70:=Tryz.isAgg291
 z70:=Tryz.sizeOf291
 v70:=Tryz.zeroValue291
 t72:=Tryz.underlying294
 a72:=Tryz.isAgg294
 z72:=Tryz.sizeOf294
 v72:=Tryz.zeroValue294
 t75:=Tryz.underlying297
 a75:=Tryz.isAgg297
 z75:=Tryz.sizeOf297
 v75:=Tryz.zeroValue297
 t76:=Tryz.underlying298
 a76:=Tryz.isAgg298
 z76:=Tryz.sizeOf298
 v76:=Tryz.zeroValue298
 t127:=Tryz.underlying336
 a127:=Tryz.isAgg336
 z127:=Tryz.sizeOf336
 v127:=Tryz.zeroValue336
 t164:=Tryz.underlying377
 a164:=Tryz.isAgg377
 z164:=Tryz.sizeOf377
 v164:=Tryz.zeroValue377}
theorem Tryz.extraJ:Builder.Extra Tryz.prog Tryz.JCz:={
 sizeBuilder:=kR
 liesBuilder:=kR
 t5:=Tryz.underlying5
 a5:=Tryz.isAgg5
 z5:=Tryz.sizeOf5
 v5:=Tryz.zeroValue5
 infoByte:=kR
 cellsByte:=kR
 sizeByte:=kR
 neB5:=by decide}
end Go.Proofs
namespace Av
open Go
variable [Glb]
abbrev Str:=List UInt8
mutual
inductive Val where
 |mk (kind int scale:Int) (text:Str) (list:List Val) (fields:List Fld)
inductive Fld where
 |mk (name:Str) (value:Val)
end
namespace Val
def kind:Val→Int|.mk k _ _ _ _ _=>k
def int:Val→Int|.mk _ i _ _ _ _=>i
def scale:Val→Int|.mk _ _ s _ _ _=>s
def text:Val→Str|.mk _ _ _ t _ _=>t
def list:Val→List Val|.mk _ _ _ _ l _=>l
def fields:Val→List Fld|.mk _ _ _ _ _ f=>f
end Val
namespace Fld
def name:Fld→Str|.mk n _=>n
def value:Fld→Val|.mk _ v=>v
end Fld
mutual
def J0:Val→Dat
 |.mk k i s t l f=>.agg [.int .i64 k,.int .i64 i,.int .i64 s,.str t,.list 6 (JCB l),.list 7 (JCC f)]
def JCB:List Val→List Dat
 |[]=>[]
 |v::r=>J0 v::JCB r
def Zm:Fld→Dat
 |.mk n v=>.agg (.str n::(J0 v).cells)
def JCC:List Fld→List Dat
 |[]=>[]
 |v::r=>Zm v::JCC r
end
theorem JCn:∀l:List Val,JCB l=l.map J0
 |[]=>by simp[JCB]
 |v::r=>by simp[JCB,JCn r]
theorem JCo:∀l:List Fld,JCC l=l.map Zm
 |[]=>by simp[JCC]
 |v::r=>by simp[JCC,JCo r]
theorem Ul(v:Val):J0 v=.agg [.int .i64 v.kind,.int .i64 v.int,.int .i64 v.scale,.str v.text,.list 6 (v.list.map J0),.list 7 (v.fields.map Zm)]:=by
 cases v;simp[J0,JCn,JCo,Val.kind,Val.int,Val.scale,Val.text,Val.list,Val.fields]
theorem JDf(f:Fld):Zm f=.agg [.str f.name,.int .i64 f.value.kind,.int .i64 f.value.int,.int .i64 f.value.scale,.str f.value.text,.list 6 (f.value.list.map J0),.list 7 (f.value.fields.map Zm)]:=by
 cases f;simp[Zm,Ul,Fld.name,Fld.value,Dat.cells]
theorem JET{xs:List Val}{k:Nat}(h:k<xs.length):nth (xs.map J0) k=.agg [.int .i64 xs[k].kind,.int .i64 xs[k].int,.int .i64 xs[k].scale,.str xs[k].text,.list 6 (xs[k].list.map J0),.list 7 (xs[k].fields.map Zm)]:=by
 rw[XW (sX h),List.getElem_map,Ul]
theorem JM7{xs:List Fld}{k:Nat}(h:k<xs.length):nth (xs.map Zm) k=.agg [.str xs[k].name,.int .i64 xs[k].value.kind,.int .i64 xs[k].value.int,.int .i64 xs[k].value.scale,.str xs[k].value.text,.list 6 (xs[k].value.list.map J0),.list 7 (xs[k].value.fields.map Zm)]:=by
 rw[XW (sX h),List.getElem_map,JDf]
inductive Exp where
 |mk (op int:Int) (text:Str) (value:List Val) (args:List Exp)
namespace Exp
def op:Exp→Int|.mk o _ _ _ _=>o
def int:Exp→Int|.mk _ i _ _ _=>i
def text:Exp→Str|.mk _ _ t _ _=>t
def value:Exp→List Val|.mk _ _ _ v _=>v
def args:Exp→List Exp|.mk _ _ _ _ a=>a
end Exp
mutual
def Jf:Exp→Dat
 |.mk o i t v a=>.agg [.int .i64 o,.int .i64 i,.str t,.list 6 (v.map J0),.list 5 (JCD a)]
def JCD:List Exp→List Dat
 |[]=>[]
 |v::r=>Jf v::JCD r
end
theorem JCp:∀l:List Exp,JCD l=l.map Jf
 |[]=>by simp[JCD]
 |v::r=>by simp[JCD,JCp r]
theorem Jz(e:Exp):Jf e=.agg [.int .i64 e.op,.int .i64 e.int,.str e.text,.list 6 (e.value.map J0),.list 5 (e.args.map Jf)]:=by
 cases e;simp[Jf,JCp,Exp.op,Exp.int,Exp.text,Exp.value,Exp.args]
structure Rule where
 target:Str
 expr:Exp
def UT(r:Rule):Dat:=.agg [.str r.target,.int .i64 r.expr.op,.int .i64 r.expr.int,.str r.expr.text,.list 6 (r.expr.value.map J0),.list 5 (r.expr.args.map Jf)]
mutual
theorem JBa:∀v:Val,(J0 v).canon=J0 v
 |.mk k i s t l f=>by simp only[J0,Dat.canon,JG,JAe l,JAf f]
theorem JAe:∀l:List Val,JG (JCB l)=JCB l
 |[]=>by simp[JCB,JG]
 |v::r=>by simp only[JCB,JG,JBa v,JAe r]
theorem JEU:∀f:Fld,(Zm f).canon=Zm f
 |.mk n v=>by
  have:=JBa v;cases v with
  |mk k i s t l f=>
   simp only[J0,Dat.canon,JG,Dat.agg.injEq,List.cons.injEq,true_and,and_true,Dat.list.injEq]at this;simp only[Zm,J0,Dat.cells,Dat.canon,JG,this]
theorem JAf:∀l:List Fld,JG (JCC l)=JCC l
 |[]=>by simp[JCC,JG]
 |v::r=>by simp only[JCC,JG,JEU v,JAf r]
end
theorem ZT(l:List Val):JG (l.map J0)=l.map J0:=by rw[←JCn,JAe]
theorem JHf(l:List Fld):JG (l.map Zm)=l.map Zm:=by rw[←JCo,JAf]
mutual
theorem JBb:∀e:Exp,(Jf e).canon=Jf e
 |.mk o i t v a=>by simp only[Jf,Dat.canon,JG,ZT,JAg a]
theorem JAg:∀l:List Exp,JG (JCD l)=JCD l
 |[]=>by simp[JCD,JG]
 |v::r=>by simp only[JCD,JG,JBb v,JAg r]
end
theorem UH(l:List Exp):JG (l.map Jf)=l.map Jf:=by rw[←JCp,JAg]
theorem JEV(r:Rule):(UT r).canon=UT r:=by simp only[UT,Dat.canon,JG,ZT,UH]
theorem Uf(l:List Rule):JG (l.map UT)=l.map UT:=by
 rw[Jw,List.map_map];exact List.map_congr_left fun r _=>JEV r
attribute [go_sem] JBa JEU JBb JEV ZT JHf UH Uf
end Av
namespace Go.Proofs
open Go Av
open Av.Y
def JQ9:Ic:=q (R (ox 1 0<|oN 2 y6<|N) [0])<|q (R (oL 8 6 1<|oN 3 y6<|oS 6 3 8<|N) [8])<|q (R (of 9 3 4<|on (.sto none (t 9) (.k (.nil 6)))<|of 10 3 5<|on (.sto none (t 10) (.k (.nil 7)))<|N) [9,10])<|q (q (R (of 11 1 4<|ol 12 11<|oh 13 12<|oz 14 0<|N) [11])<|D (.block 0<|.loop (q (.reg (ot 15 .lss 14 13<|N))<|q (D (I 15 S (E 0)) [15])<|q (D (.block 1<|q (R (oa true 16 6 12 14<|oL 17 6 16<|oN 5 y6<|oS 6 5 17<|N) [16,17])<|D (.regd [(1,3),(1,4)] (of 18 3 4<|ol 19 18<|oL 20 6 5<|cl 21 101 [t 20]<|oo 22 (.bls 6 [t 21])<|oo 23 (.app 6 (t 19) (t 22))<|of 24 3 4<|os 24 23<|N)) [5,18,19,20,21,22,23,24]) [])<|R (oi 25 .add 14 1<|om 14 25<|N) [25])) [12,13,14,15,5])<|q (q (R (of 26 1 5<|ol 27 26<|oh 28 27<|oz 29 0<|N) [1,26])<|D (.block 2<|.loop (q (.reg (ot 30 .lss 29 28<|N))<|q (D (I 30 S (E 2)) [30])<|q (D (.block 3<|q (R (oa true 31 7 27 29<|oL 32 7 31<|oN 7 y7<|oS 7 7 32<|N) [31,32])<|D (.regd [(1,6),(3,6),(1,8)] (of 33 3 5<|ol 34 33<|of 35 7 0<|ol 36 35<|of 37 7 1<|oL 38 6 37<|cl 39 101 [t 38]<|oo 40 (.bld y7 [(0,1,t 36),(1,6,t 39)])<|oo 41 (.bls 7 [t 40])<|oo 42 (.app 7 (t 34) (t 41))<|of 43 3 5<|os 43 42<|N)) [7,33,34,35,36,37,38,39,40,41,42,43]) [])<|R (oi 44 .add 29 1<|om 29 44<|N) [44])) [27,28,29,30,7])<|q (R (oL 45 6 3<|oS 6 2 45<|N) [3,45])<|.ret
theorem JM8:FT 101 46 JQ9 [.cell 2 (some 6)]:=.o Tryz.func101
end Go.Proofs
namespace Go.Proofs
open Go Av
theorem JJv{P:Program}{f:Nat}{fn:Func}{e:Array Value→Sem Value}(hf:P.funcs[f]? =some fn)(hname:(fn.name== "runtime.NumGoroutine")=false)(hb:fn.body.isNone=true)
  (hn:(Extern.findNext fn).isNone=true)(he:Extern.find fn=some e){vs:Array Value}{w w':World}{u:Value}(hr:(e vs).run P w=.ok u w'):(callFunc f vs).run P w=.ok (.value u) w':=by
 have hn':Extern.findNext fn=none:=sX hn;have hb':fn.body=none:=sX hb;have hname':fn.name≠ "runtime.NumGoroutine" :=sX hname;simp[callFunc,hf,hname',hb',hn',he,hr]
def JK8(a b:Str):Int:=Extern.BytealgCompare.cmp ⟨a.toArray⟩ ⟨b.toArray⟩
theorem JIi(a b:Str):JK8 a b= -1∨JK8 a b=0∨JK8 a b=1:=by
 unfold JK8 Extern.BytealgCompare.cmp;split
 ·split<;>simp
 ·split
  ·simp
  ·split<;>simp
theorem JSU(a b:Str):CT 488 [.d (.str a),.d (.str b)] [] (.d (.int .i64 (JK8 a b))) []:=by
 intro β A w H vs _ hc hvs;refine .inr ⟨.int .i64 (JK8 a b),w,?_,β,A,Stp.refl hc,.d _ _ (.int _ _ ?_)⟩
 ·obtain⟨hl,hv⟩:=hvs;have h2:vs.size=2:=sX hl.symm;obtain⟨x,y,rfl⟩:∃x y,vs=#[x,y]:=by
   refine⟨vs[0],vs[1],?_⟩;apply Array.ext
   ·simp[h2]
   ·intro i h1 h2';have:i=0∨i=1:=oM;rcases this with rfl|rfl<;>rfl
  have hx:=(hv 0 _ x rfl rfl).Ja;have hy:=(hv 1 _ y rfl rfl).Ja;cases hx;cases hy;refine JJv (e:=Extern.BytealgCompare.compare) Tryz.func488 kR kR kR kR ?_;rfl
 ·rcases JIi a b with h|h|h<;>rw[h]<;>decide
def JE6:List UInt8→UInt8→Nat→Int
 |[],_,_=> -1
 |b::l,c,k=>if b==c then(k:Int)else JE6 l c (k+1)
theorem JJw(c:UInt8):∀(l:List UInt8) (k:Nat),JE6 l c k=if Lib.indexByte l c= -1 then-1 else Lib.indexByte l c+k
 |[],k=>rfl
 |b::l,k=>by
  rw[JE6,Lib.indexByte,JJw c l (k+1)];have hge:=Lib.indexByte_ge l c;by_cases h:(b==c)=true
  ·simp[h]
  ·simp only[h,Vu,↓reduceIte,beq_iff_eq];by_cases h2:Lib.indexByte l c= -1
   ·simp[h2]
   ·simp only[h2,↓reduceIte];rw[if_neg oM];omega
theorem JJx(c:UInt8):∀(l:List UInt8) (k:Nat),-1≤JE6 l c k∧JE6 l c k≤(l.length+k:Nat)
 |[],k=>by simp only[JE6];omega
 |b::l,k=>by
  have:=JJx c l (k+1);simp only[JE6,Vf];split
  ·omega
  ·omega
theorem JSV(s:Str)(c:Int):CT 312 [.d (.str s),.d (.int .u8 c)] [] (.d (.int .i64 (JE6 s c.toNat.toUInt8 0))) []:=by
 intro β A w H vs _ hc hvs;obtain⟨hl,hv⟩:=hvs;have h2:vs.size=2:=sX hl.symm;obtain⟨x,y,rfl⟩:∃x y,vs=#[x,y]:=by
  refine⟨vs[0],vs[1],?_⟩;apply Array.ext
  ·simp[h2]
  ·intro i h1 h2';have:i=0∨i=1:=oM;rcases this with rfl|rfl<;>rfl
 have hx:=(hv 0 _ x rfl rfl).Ja;have hy:=(hv 1 _ y rfl rfl).Ja;cases hx with
 |str _ hs=>
  cases hy;have hle:=JJx c.toNat.toUInt8 s 0;refine .inr ⟨.int .i64 (JE6 s c.toNat.toUInt8 0),w,?_,β,A,Stp.refl hc,.d _ _ (.int _ _ ?_)⟩
  ·refine JJv (e:=Extern.BytealgIndexByte.indexByte) Tryz.func312 kR kR kR kR ?_;rw[Lib.run_indexByteString,JJw];congr 2;show Lib.indexByte s _=_;have hge:=Lib.indexByte_ge s c.toNat.toUInt8;by_cases h:Lib.indexByte s c.toNat.toUInt8= -1
   ·simp[h]
   ·simp[h]
  ·have e1:IntKind.i64.min= -9223372036854775808:=dC;have e2:IntKind.i64.max=9223372036854775807:=dC;rw[e1,e2];omega
def X1:Ext:=fun f ds=>match f,ds with
 |488,[.str a,.str b]=>some (.d (.int .i64 (Extern.BytealgCompare.cmp ⟨a.toArray⟩ ⟨b.toArray⟩)))
 |312,[.str s,.int .u8 c]=>some (.d (.int .i64 (JE6 s c.toNat.toUInt8 0)))
 |_,_=>none
theorem X1_ok:Um Tryz.prog X1:=by
 intro f ds d h;unfold X1 at h;split at h
 ·cases h;exact JSU _ _
 ·cases h;exact JSV _ _
 ·cases h
mutual
def datEq:Dat→Dat→Bool
 |.bool a,.bool b=>a==b
 |.int k a,.int l b=>decide (k=l)&&a==b
 |.str a,.str b=>a==b
 |.nil a,.nil b=>a==b
 |.list a xs,.list b ys=>a==b&&JGM xs ys
 |.agg xs,.agg ys=>JGM xs ys
 |.nilIface,.nilIface=>true
 |_,_=>false
def JGM:List Dat→List Dat→Bool
 |[],[]=>true
 |x::xs,y::ys=>datEq x y&&JGM xs ys
 |_,_=>false
end
abbrev Tbl:=List (Nat×List Dat×Av)
def JM9(f:Nat)(ds:List Dat):Tbl→Option Av
 |[]=>none
 |(g,l,v)::r=>match g==f with
  |true=>match JGM ds l with
   |true=>some v
   |false=>JM9 f ds r
  |false=>JM9 f ds r
def ext(t:Tbl)(X:Ext):Ext:=fun f ds=>match JM9 f ds t with
 |some v=>some v
 |none=>X f ds
end Go.Proofs
namespace Go.Proofs
open Go Av Go.RowKit Go.Shelf Go.Lib
variable {P:Program}{X:Ext}{K:Nat→Nat}
theorem JJy(ss:List Str)(sep:Str)(hne:ss≠[])(hle:(Lib.join ss sep).length≤68719476736):CT 185 [.d (.list 1 (ss.map .str)),.d (.str sep)] [] (.d (.str (Lib.join ss sep))) []:=by
 refine JN.JIJ (ds:=[.list 1 (ss.map .str),.str sep]) ⟨_,Tryz.func185,kR,kR⟩ fun A w vs hl hv=>?_
 have h2:vs.size=2:=sX hl.symm;obtain⟨x,y,rfl⟩:∃x y,vs=#[x,y]:=by
  refine⟨vs[0],vs[1],?_⟩;apply Array.ext
  ·simp[h2]
  ·intro i h1 h2';have:i=0∨i=1:=oM;rcases this with rfl|rfl<;>rfl
 have hx:=hv 0 _ x rfl rfl;have hy:=hv 1 _ y rfl rfl;cases hy with
 |str _ hsep=>
  generalize hD:ss.map Dat.str=D at hx;cases hx with
  |emp=>exact absurd (List.map_eq_nil_iff.1 hD) hne
  |list _ _ b o n cap vs hn hA hcap hc h1 hsz hh hvl hvv=>
   subst hD;rw[Zk]at hvl hvv;have hcell:∀(j:Nat) (x:ByteArray),(ss.map fun s=>(⟨s.toArray⟩:ByteArray))[j]? =some x→w.cell? ⟨b,o+j,none⟩=some (.string x):=by
    intro j x hj;rw[Vo]at hj;cases hs:ss[j]? with
    |none=>rw[hs]at hj;cases hj
    |some s=>
     rw[hs]at hj;cases hj;have hjl:j<vs.length:=by rw[←hvl,Vc];exact(VB.1 hs).1
     have hr:=hvv j (.str s) vs[j] (by rw[Vo,hs];rfl) (by simp[hjl]);rw[hh j vs[j] (by simp[hjl])];generalize vs[j]=z at hr;cases hr;rfl
   have hpos:0<ss.length:=List.length_pos_iff.2 hne;have hb:b<w.heap.size:=by
    have:=hcell 0 _ (by rw[Vo,Vl hpos];rfl);simp only[World.cell?]at this;split at this
    ·rename_i e;exact(Array.getElem?_eq_some_iff.1 e).1
    ·cases this
   have hmap:(ss.map fun s=>(⟨s.toArray⟩:ByteArray)).map (·.data.toList)=ss:=by
    rw[List.map_map]
    conv=>rhs;rw[←List.map_id ss]
    exact List.map_congr_left fun s _=>by simp
   have hnl:n=(ss.map fun s=>(⟨s.toArray⟩:ByteArray)).length:=sX hn;generalize hX:(ss.map fun s=>(⟨s.toArray⟩:ByteArray))=X at*;have hN:X.length≤140737488355328:=by rw[←hX];simp at hc⊢;omega
   have hL:(Lib.join (X.map (·.data.toList)) (⟨sep.toArray⟩:ByteArray).data.toList).length≤140737488355328:=by
    rw[hmap];show(Lib.join ss sep.toArray.toList).length≤_;simp only[List.toList_toArray];omega
   have hC:X.length≤cap:=by rw[←hX];simpa using hcap
   have J:=Any.strings_Join Tryz.laysJ Tryz.extraJ b o cap X ⟨sep.toArray⟩ w hcell hb hN hC hL;rw[show Tryz.JCz.f 156=185 from rfl]at J;rw[hnl];refine J.mono ?_;rintro e w' ⟨rfl,hbel⟩;refine⟨_,rfl,hbel,fun β H=>.d _ _ ?_⟩;rw[hmap];show Rep _ _ _ (.string ⟨(Lib.join ss sep.toArray.toList).toArray⟩);simp only[List.toList_toArray];exact .str _ hle
def JGN:List Dat→Option (List Str)
 |[]=>some []
 |.str s::r=>match JGN r with
  |some l=>some (s::l)
  |none=>none
 |_::_=>none
theorem JFf:∀{ds:List Dat} {l:List Str},JGN ds=some l→ds=l.map .str
 |[],l,h=>by cases h;rfl
 |d::r,l,h=>by
  cases d<;>simp only[JGN]at h<;>first|(cases h;done)|skip
  split at h
  ·rename_i e;cases h;rw[JFf e];rfl
  ·cases h
theorem ZB{w:World}{ops:Array Oper}{rest:List Oper}{o:Oper}{a:Act}{Q:Exit→Act→World→Prop}(hgd:o.guard=none)(s x:Operand)(t:TypeId)
  (ho:o.op=.call {callee:=.builtin .append,args:=#[s,x],argTypes:=#[t,t]})(e:TypeId)(i:TypeInfo)(ht:P.underlying t=some (.slice e))(hi:P.info? e=some i)
  (b:Option Addr)(hs:a.eval s=.slice b 0 0)(ad:Option Addr)(c:Nat)(hx:a.eval x=.slice ad 0 c)(h:wpList P ops Q rest (a.put o.dst (.slice b 0 0)) w):wpList P ops Q (o::rest) a w:=by
 refine wpList_plain hgd fun _ hK=>?_
 have hr:=JAK (P:=P) (w:=w) t t o.type e i ht hi b (.slice ad 0 c) (by
  cases ad with
  |none=>exact Src.ofNil w ht c
  |some ad=>exact Src.ofSlice w ht ad 0 c [] sP sP sP)
 unfold Oper.wp execOp;simp only[ho,resolve,invoke,builtin,Sem.run_bind,Sem.run_pure,Result.andThen_ok,List.map_toArray,Va,Vb,hs,hx,hr];exact hK _ _ h
set_option maxHeartbeats 2000000 in
set_option maxRecDepth 1000000 in
theorem JSW(a:Option Addr)(c:Nat)(w:World):Calls Tryz.prog 28 #[.slice a 0 c] w fun e w'=>∃a',e=.returned (.slice a' 0 0)∧Below w.heap.size w w':=by
 obtain⟨i0,hi⟩:∃i0,Tryz.prog.info? 3=some i0:=Option.isSome_iff_exists.1 kR;have q:∀(w:World) (a:Option Addr) (n c n' c':Nat),(binOp .eql 46 (.slice a n c) (.slice none n' c')).run Tryz.prog w=.ok (.bool a.isNone) w:=fun w a n c n' c'=>Lib.run_eql_slice_nil w _ _ a n c n' c' Tryz.underlying46
 have mixed:Tryz.prog.follows Departure.mixedOrders=true:=kR;cases a with
 |none=>
  go_enter Tryz.func28,Tryz.ntmps28
  go_wp2
  go_ret
  exact⟨none,rfl,Below.refl _ _⟩
 |some a=>
  go_enter Tryz.func28,Tryz.ntmps28
  go_wp2_with (first|(simp only[q];done)|(at_builtin;refine ZB rfl _ _ 46 rfl 3 i0 Tryz.underlying46 hi _ rfl (some a) c rfl ?_))
  go_wp2
  go_ret
  exact⟨_,rfl,(Below.refl _ w).alloc (Nat.le_refl _) _⟩
set_option maxHeartbeats 2000000 in
set_option maxRecDepth 1000000 in
theorem cl76(a:Option Addr)(c:Nat)(w:World):Calls Tryz.prog 53 #[.slice a 0 c] w fun e w'=>∃a',e=.returned (.slice a' 0 0)∧Below w.heap.size w w':=by
 obtain⟨i0,hi⟩:∃i0,Tryz.prog.info? 9=some i0:=Option.isSome_iff_exists.1 kR;have q:∀(w:World) (a:Option Addr) (n c n' c':Nat),(binOp .eql 36 (.slice a n c) (.slice none n' c')).run Tryz.prog w=.ok (.bool a.isNone) w:=fun w a n c n' c'=>Lib.run_eql_slice_nil w _ _ a n c n' c' Tryz.underlying36
 have mixed:Tryz.prog.follows Departure.mixedOrders=true:=kR;cases a with
 |none=>
  go_enter Tryz.func53,Tryz.ntmps53
  go_wp2
  go_ret
  exact⟨none,rfl,Below.refl _ _⟩
 |some a=>
  go_enter Tryz.func53,Tryz.ntmps53
  go_wp2_with (first|(simp only[q];done)|(at_builtin;refine ZB rfl _ _ 36 rfl 9 i0 Tryz.underlying36 hi _ rfl (some a) c rfl ?_))
  go_wp2
  go_ret
  exact⟨_,rfl,(Below.refl _ w).alloc (Nat.le_refl _) _⟩
theorem JHg{f:Nat}(hh:Has Tryz.prog f)(h:∀(a:Option Addr) (c:Nat) (w:World),Calls Tryz.prog f #[.slice a 0 c] w fun e w'=>∃a',e=.returned (.slice a' 0 0)∧Below w.heap.size w w'){d:Dat}(n:Nat)
  (hd:d=.nil n∨d=.list n []):CT f [.d d] [] (.d (.nil n)) []:=by
 refine JN.JIJ (ds:=[d]) hh fun A w vs hl hv=>?_
 obtain⟨u,rfl⟩:=JHd (sX hl);have hr:=hv 0 _ u rfl rfl;have:∃a c,u=.slice a 0 c:=by
  rcases hd with rfl|rfl
  ·cases hr with|nil _ a=>exact⟨a,0,rfl⟩
  ·cases hr with
   |emp _ a cap=>exact⟨a,cap,rfl⟩
   |list _ _ b o n cap vs hn=>exact⟨_,_,by rw[hn];rfl⟩
 obtain⟨a,c,rfl⟩:=this;refine(h a c w).mono ?_;rintro e w' ⟨a',rfl,hb⟩;exact⟨_,rfl,hb,fun β H=>.d _ _ (.nil n a')⟩
def X4:Ext:=fun f ds=>match f,ds with
 |185,[.list 1 xs,.str sep]=>match JGN xs with
  |some (s::l)=>match Nat.ble (Lib.join (s::l) sep).length 68719476736 with
   |true=>some (.d (.str (Lib.join (s::l) sep)))
   |false=>none
  |_=>none
 |28,[.nil n]=>some (.d (.nil n))
 |28,[.list n []]=>some (.d (.nil n))
 |53,[.nil n]=>some (.d (.nil n))
 |53,[.list n []]=>some (.d (.nil n))
 |f,ds=>X1 f ds
theorem X4_ok:Um Tryz.prog X4:=by
 intro f ds d h;unfold X4 at h;split at h
 ·rename_i e;split at h
  ·rename_i e;split at h
   ·rename_i hb;cases h;obtain rfl:=JFf e;exact JJy _ _ sP (Nat.le_of_ble_eq_true hb)
   ·cases h
  ·cases h
 ·cases h;exact JHg ⟨_,Tryz.func28,kR,kR⟩ JSW _ (.inl rfl)
 ·cases h;exact JHg ⟨_,Tryz.func28,kR,kR⟩ JSW _ (.inr rfl)
 ·cases h;exact JHg ⟨_,Tryz.func53,kR,kR⟩ cl76 _ (.inl rfl)
 ·cases h;exact JHg ⟨_,Tryz.func53,kR,kR⟩ cl76 _ (.inr rfl)
 ·exact X1_ok _ _ _ h
section
@[instance_reducible] def rlsK:Rls:={rl:=fun n=>n==1,rm:=fun n=>n==11,tr:=fun n=>n==3||(n==11||(n==2||(n==13||n==20)))}
attribute [local instance] rlsK
def findD(f:Nat)(ds:List Dat):Tbl→Option Av
 |[]=>none
 |(g,l,v)::r=>match g==f with
  |true=>match JAP ds l with
   |true=>some v
   |false=>findD f ds r
  |false=>findD f ds r
def Ym(t:Tbl)(X:Ext):Ext:=fun f ds=>match findD f ds t with
 |some v=>some v
 |none=>X f ds
def JAh:List Av→List Av→Bool
 |[],[]=>true
 |.d x::xs,.d y::ys=>dEq x y&&JAh xs ys
 |_,_=>false
theorem JFg:∀(a b:List Av),JAh a b=true→a=b
 |[],[],_=>rfl
 |[],_::_,h=>by simp[JAh]at h
 |x::xs,[],h=>by cases x<;>simp[JAh]at h
 |x::xs,y::ys,h=>by
  cases x with
  |d x=>
   cases y with
   |d y=>
    simp only[JAh,Vi]at h;rw[JGI x y h.1,JFg xs ys h.2]
   |_=>simp[JAh]at h
  |_=>simp[JAh]at h
def JNA:Av→Av→Bool
 |.d x,.d y=>dEq x y
 |.tup xs,.tup ys=>JAh xs ys
 |_,_=>false
theorem JNB{a b:Av}(h:JNA a b=true):a=b:=by
 unfold JNA at h;split at h
 ·rw[JGI _ _ h]
 ·rw[JFg _ _ h]
 ·cases h
def JNC(P:Program)(X:Ext)(K:Nat→Nat)(f:Nat)(l:List Dat)(v:Av):Bool:=match evF P (JEP (K f)) (Zj P X K 500 60) 500 f (l.map .d) []with
 |some (u,_)=>JEO u&&JNA u v
 |none=>false
theorem JGO(hX:Um P X){f:Nat}{l:List Dat}{v:Av}(h:JNC P X K f l v=true):J3 P f l v∧Ug v:=by
 unfold JNC at h;split at h
 ·rename_i u fh ev;simp only[Vi]at h;obtain⟨hp,he⟩:=h;obtain rfl:=JNB he;exact⟨JP2 hX ev hp,JB7 hp⟩
 ·cases h
def YS(P:Program)(X:Ext)(K:Nat→Nat):Tbl→Bool
 |[]=>true
 |(f,l,v)::r=>JNC P X K f l v&&YS P X K r
theorem JCq(hX:Um P X):∀{t:Tbl} {f:Nat} {ds:List Dat} {v:Av},YS P X K t=true→findD f ds t=some v→JN P (.fn f) (ds.map .d) [] v []
 |[],_,_,_,_,h=>by cases h
 |(g,l,x)::r,f,ds,v,h,hf=>by
  rw[YS,Vi]at h;rw[findD]at hf;split at hf
  ·rename_i e1;split at hf
   ·rename_i e2;cases hf;obtain rfl:=JDe _ _ e2;simp only[beq_iff_eq]at e1;subst e1;obtain⟨h1,h2⟩:=JGO hX h.1;exact h1.call h2
   ·exact JCq hX h.2 hf
  ·exact JCq hX h.2 hf
theorem UK{t:Tbl}(hX:Um P X)(h:YS P X K t=true):Um P (Ym t X):=by
 intro f ds v hx;unfold Ym at hx;split at hx
 ·rename_i u e;cases hx;exact JCq hX h e
 ·exact hX f ds v hx
end
def K27:Nat→Nat
 |28|55|56|57|106|107|108|109|110|119=>1
 |34|42=>2
 |46|73|75|78|84=>3
 |_=>0
end Go.Proofs
