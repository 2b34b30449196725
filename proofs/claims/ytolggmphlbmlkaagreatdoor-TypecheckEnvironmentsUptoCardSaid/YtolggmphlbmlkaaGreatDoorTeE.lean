/- Part E of a proof. -/
import Derived.Test.YtolggmphlbmlkaaGreatDoorTeD
import Derived.Test.YtolggmphlbmlkaaGreatDoorProg
import Derived.Test.YtolggmphlbmlkaaGreatDoorTeA
import Derived.Lib.Bytealg
import Derived.Shelf.SlGeneric
import Derived.Shelf.LaysM
import Derived.Shelf.Strconv.Itoa3
import Derived.Shelf.LaysC
import Derived.Shelf.Strconv.AtoiAll
import Derived.Ground.Names2Prog
import Derived.Ground.SlgnProg
import Derived.Below
import Derived.Lib.ItoaLen
import Derived.Sort.Grow
import Derived.Sort.EncStr
import Derived.Lib.SlicesCompact
import Derived.Shelf.Unicode.ValidAny
set_option linter.unusedVariables false
set_option linter.unusedSimpArgs false
set_option linter.unusedSectionVars false
set_option linter.constructorNameAsVariable false
set_option linter.unnecessarySimpa false
set_option maxRecDepth 10000
namespace Go.Proofs
open Go Av
open Av.Y
def ir46 : Ic := q (R (ow 6 false<|N) [6])<|q (q (R (om 10 0<|oh 11 10<|om 12 1<|oh 13 12<|ot 14 .neq 11 13<|N) [10,11,12,13])<|D (I 14 (q (R (ow 6 false<|N) [0,1,2,14])<|.ret) S) [14])<|q (q (R (om 15 0<|oh 16 15<|oz 17 0<|N) [0])<|D (.block 0<|.loop (q (.reg (ot 18 .lss 17 16<|N))<|q (D (I 18 S (E 0)) [18])<|q (D (.block 1<|q (R (om 19 17<|oa true 20 6 15 17<|oL 21 6 20<|oN 8 v6<|om 7 19<|oS 6 8 21<|N) [19,20,21])<|q (R (om 22 1<|om 23 7<|oa true 24 6 22 23<|oL 25 6 24<|oN 9 v6<|oS 6 9 25<|N) [7,22,23,24,25])<|q (R (om 26 2<|oL 27 6 8<|oL 28 6 9<|.call (some 29) (.dyn (t 26)) [t 27,t 28] (og 30 29<|N)) [8,9,26,27,28,29])<|D (I 30 (q (R (ow 6 false<|N) [1,2,15,16,17,30])<|.ret) S) [30]) [])<|R (oi 31 .add 17 1<|om 17 31<|N) [31])) [1,2,15,16,17,18,8,7,9])<|q (.reg (ow 6 true<|N))<|.ret
theorem ok46 : FT 46 32 ir46 [.tmp 6] := .o Tryz.func46
def ir43 : Ic := q (R (ow 6 false<|N) [6])<|q (q (R (om 10 0<|oh 11 10<|om 12 1<|oh 13 12<|ot 14 .neq 11 13<|N) [10,11,12,13])<|D (I 14 (q (R (ow 6 false<|N) [0,1,2,14])<|.ret) S) [14])<|q (q (R (om 15 0<|oh 16 15<|oz 17 0<|N) [0])<|D (.block 0<|.loop (q (.reg (ot 18 .lss 17 16<|N))<|q (D (I 18 S (E 0)) [18])<|q (D (.block 1<|q (R (om 19 17<|oa true 20 7 15 17<|oL 21 7 20<|oN 8 vT<|om 7 19<|oS 7 8 21<|N) [19,20,21])<|q (R (om 22 1<|om 23 7<|oa true 24 7 22 23<|oL 25 7 24<|oN 9 vT<|oS 7 9 25<|N) [7,22,23,24,25])<|q (R (om 26 2<|oL 27 7 8<|oL 28 7 9<|.call (some 29) (.dyn (t 26)) [t 27,t 28] (og 30 29<|N)) [8,9,26,27,28,29])<|D (I 30 (q (R (ow 6 false<|N) [1,2,15,16,17,30])<|.ret) S) [30]) [])<|R (oi 31 .add 17 1<|om 17 31<|N) [31])) [1,2,15,16,17,18,8,7,9])<|q (.reg (ow 6 true<|N))<|.ret
theorem ok43 : FT 43 32 ir43 [.tmp 6] := .o Tryz.func43
def ir44 : Ic := q (R (ow 6 false<|N) [6])<|q (q (R (om 10 0<|oh 11 10<|om 12 1<|oh 13 12<|ot 14 .neq 11 13<|N) [10,11,12,13])<|D (I 14 (q (R (ow 6 false<|N) [0,1,2,14])<|.ret) S) [14])<|q (q (R (om 15 0<|oh 16 15<|oz 17 0<|N) [0])<|D (.block 0<|.loop (q (.reg (ot 18 .lss 17 16<|N))<|q (D (I 18 S (E 0)) [18])<|q (D (.block 1<|q (R (om 19 17<|oa true 20 11 15 17<|oL 21 11 20<|oN 8 vG<|om 7 19<|oS 11 8 21<|N) [19,20,21])<|q (R (om 22 1<|om 23 7<|oa true 24 11 22 23<|oL 25 11 24<|oN 9 vG<|oS 11 9 25<|N) [7,22,23,24,25])<|q (R (om 26 2<|oL 27 11 8<|oL 28 11 9<|.call (some 29) (.dyn (t 26)) [t 27,t 28] (og 30 29<|N)) [8,9,26,27,28,29])<|D (I 30 (q (R (ow 6 false<|N) [1,2,15,16,17,30])<|.ret) S) [30]) [])<|R (oi 31 .add 17 1<|om 17 31<|N) [31])) [1,2,15,16,17,18,8,7,9])<|q (.reg (ow 6 true<|N))<|.ret
theorem ok44 : FT 44 32 ir44 [.tmp 6] := .o Tryz.func44
def ir47 : Ic := q (R (ox 2 0<|ox 3 1<|ow 4 false<|N) [0,1,4])<|q (R (oL 5 6 2<|oL 6 6 3<|cl 7 74 [t 5,t 6]<|oi 8 .eql 7 0<|om 4 8<|N) [2,3,5,6,7,8])<|.ret
theorem ok47 : FT 47 9 ir47 [.tmp 4] := .o Tryz.func47
def ir74 : Ic := q (R (ox 2 0<|ox 3 1<|oz 4 0<|N) [0,1,4])<|q (D (.regd [(4,6),(4,8),(4,11),(9,11),(4,13),(9,13),(4,16),(9,16),(14,16),(4,18),(9,18),(14,18),(4,21),(9,21),(14,21),(19,21),(4,23),(9,23),(14,23),(19,23),(4,26),(9,26),(14,26),(19,26),(24,26),(4,28),(9,28),(14,28),(19,28),(24,28)] (of 5 2 0<|ol 6 5<|of 7 3 0<|ol 8 7<|cl 9 135 [t 6,t 8]<|of 10 2 1<|ol 11 10<|of 12 3 1<|ol 13 12<|cl 14 135 [t 11,t 13]<|of 15 2 2<|ol 16 15<|of 17 3 2<|ol 18 17<|cl 19 135 [t 16,t 18]<|of 20 2 3<|ol 21 20<|of 22 3 3<|ol 23 22<|cl 24 132 [t 21,t 23]<|of 25 2 4<|ol 26 25<|of 27 3 4<|ol 28 27<|cl 29 136 [t 26,t 28,.k (.fn (.func 74) [] [])]<|of 30 2 5<|ol 31 30<|of 32 3 5<|ol 33 32<|cl 34 137 [t 31,t 33,.k (.fn (.func 138) [] [])]<|oo 35 (.bls 1 [t 9,t 14,t 19,t 24,t 29,t 34])<|cl 36 134 [t 35]<|om 4 36<|N)) [2,3,5,6,7,8,9,10,11,12,13,14,15,16,17,18,19,20,21,22,23,24,25,26,27,28,29,30,31,32,33,34,35,36])<|.ret
theorem ok74 : FT 74 37 ir74 [.tmp 4] := .o Tryz.func74
def ir138 : Ic := q (R (ox 2 0<|ox 3 1<|oz 4 0<|N) [0,1,4])<|q (D (.regd [(4,6),(4,8)] (of 5 2 0<|ol 6 5<|of 7 3 0<|ol 8 7<|cl 9 132 [t 6,t 8]<|of 10 2 1<|oL 11 6 10<|of 12 3 1<|oL 13 6 12<|cl 14 74 [t 11,t 13]<|oo 15 (.bls 1 [t 9,t 14])<|cl 16 134 [t 15]<|om 4 16<|N)) [2,3,5,6,7,8,9,10,11,12,13,14,15,16])<|.ret
theorem ok138 : FT 138 17 ir138 [.tmp 4] := .o Tryz.func138
def ir132 : Ic := q (R (oz 4 0<|N) [4])<|q (R (om 5 0<|om 6 1<|cl 7 227 [t 5,t 6]<|om 4 7<|N) [0,1,5,6,7])<|.ret
theorem ok132 : FT 132 8 ir132 [.tmp 4] := .o Tryz.func132
def ir135 : Ic := q (R (oz 4 0<|N) [4])<|q (R (om 7 0<|cl 8 228 [t 7]<|om 5 8<|N) [7,8])<|q (R (om 9 1<|cl 10 228 [t 9]<|om 6 10<|N) [9,10])<|q (q (R (om 11 5<|N) [5])<|D (I 11 (q (q (R (om 12 6<|N) [0,1,6,11])<|D (I 12 (q (R (oz 4 0<|N) [12])<|.ret) S) [12])<|q (.reg (oz 4 (-1)<|N))<|.ret) S) [11])<|q (q (R (om 13 6<|N) [6])<|D (I 13 (q (R (oz 4 1<|N) [0,1,13])<|.ret) S) [13])<|q (q (R (om 14 0<|om 15 1<|ot 16 .lss 14 15<|N) [14,15])<|D (I 16 (q (R (oz 4 (-1)<|N) [0,1,16])<|.ret) S) [16])<|q (q (R (om 17 0<|om 18 1<|ot 19 .gtr 17 18<|N) [0,1,17,18])<|D (I 19 (q (R (oz 4 1<|N) [19])<|.ret) S) [19])<|q (.reg (oz 4 0<|N))<|.ret
theorem ok135 : FT 135 20 ir135 [.tmp 4] := .o Tryz.func135
def ir134 : Ic := q (R (oz 2 0<|N) [2])<|q (.reg (oz 3 0<|N))<|q (q (R (om 6 0<|oh 7 6<|oz 8 0<|N) [0])<|D (.block 0<|.loop (q (.reg (ot 9 .lss 8 7<|N))<|q (D (I 9 S (E 0)) [9])<|q (D (.block 1<|q (R (oa false 10 1 6 8<|ol 11 10<|om 5 11<|N) [10,11])<|q (R (om 12 5<|om 13 3<|ot 14 .neq 12 13<|N) [12,13])<|D (I 14 (q (R (om 15 5<|om 2 15<|N) [3,6,7,8,5,14,15])<|.ret) S) [5,14]) [])<|R (oi 16 .add 8 1<|om 8 16<|N) [16])) [6,7,8,9,10,11,5])<|q (R (om 17 3<|om 2 17<|N) [3,17])<|.ret
theorem ok134 : FT 134 18 ir134 [.tmp 2] := .o Tryz.func134
def ir136 : Ic := q (R (oz 6 0<|N) [6])<|q (q (.reg (om 11 0<|oh 12 11<|oz 13 0<|N))<|D (.block 0<|.loop (q (.reg (ot 14 .lss 13 12<|N))<|q (D (I 14 S (E 0)) [14])<|q (D (.block 1<|q (R (om 15 13<|oa true 16 6 11 13<|oL 17 6 16<|oN 8 v6<|om 7 15<|oS 6 8 17<|N) [15,16,17])<|q (q (R (om 18 7<|om 19 1<|oh 20 19<|ot 21 .geq 18 20<|N) [18,19,20])<|D (I 21 (q (R (oz 6 1<|N) [0,1,2,11,12,13,8,7,21])<|.ret) S) [21])<|q (R (om 22 1<|om 23 7<|oa true 24 6 22 23<|oL 25 6 24<|oN 9 v6<|oS 6 9 25<|N) [7,22,23,24,25])<|q (R (om 26 2<|oL 27 6 8<|oL 28 6 9<|.call (some 29) (.dyn (t 26)) [t 27,t 28] (om 10 29<|N)) [8,9,26,27,28,29])<|q (R (om 30 10<|oi 31 .neq 30 0<|N) [30])<|D (I 31 (q (R (om 32 10<|om 6 32<|N) [0,1,2,11,12,13,10,31,32])<|.ret) S) [10,31]) [])<|R (oi 33 .add 13 1<|om 13 33<|N) [33])) [2,11,12,13,14,8,7,9,10])<|q (q (R (om 34 0<|oh 35 34<|om 36 1<|oh 37 36<|ot 38 .lss 35 37<|N) [0,1,34,35,36,37])<|D (I 38 (q (R (oz 6 (-1)<|N) [38])<|.ret) S) [38])<|q (.reg (oz 6 0<|N))<|.ret
theorem ok136 : FT 136 39 ir136 [.tmp 6] := .o Tryz.func136
def ir137 : Ic := q (R (oz 6 0<|N) [6])<|q (q (.reg (om 11 0<|oh 12 11<|oz 13 0<|N))<|D (.block 0<|.loop (q (.reg (ot 14 .lss 13 12<|N))<|q (D (I 14 S (E 0)) [14])<|q (D (.block 1<|q (R (om 15 13<|oa true 16 7 11 13<|oL 17 7 16<|oN 8 v7<|om 7 15<|oS 7 8 17<|N) [15,16,17])<|q (q (R (om 18 7<|om 19 1<|oh 20 19<|ot 21 .geq 18 20<|N) [18,19,20])<|D (I 21 (q (R (oz 6 1<|N) [0,1,2,11,12,13,8,7,21])<|.ret) S) [21])<|q (R (om 22 1<|om 23 7<|oa true 24 7 22 23<|oL 25 7 24<|oN 9 v7<|oS 7 9 25<|N) [7,22,23,24,25])<|q (R (om 26 2<|oL 27 7 8<|oL 28 7 9<|.call (some 29) (.dyn (t 26)) [t 27,t 28] (om 10 29<|N)) [8,9,26,27,28,29])<|q (R (om 30 10<|oi 31 .neq 30 0<|N) [30])<|D (I 31 (q (R (om 32 10<|om 6 32<|N) [0,1,2,11,12,13,10,31,32])<|.ret) S) [10,31]) [])<|R (oi 33 .add 13 1<|om 13 33<|N) [33])) [2,11,12,13,14,8,7,9,10])<|q (q (R (om 34 0<|oh 35 34<|om 36 1<|oh 37 36<|ot 38 .lss 35 37<|N) [0,1,34,35,36,37])<|D (I 38 (q (R (oz 6 (-1)<|N) [38])<|.ret) S) [38])<|q (.reg (oz 6 0<|N))<|.ret
theorem ok137 : FT 137 39 ir137 [.tmp 6] := .o Tryz.func137
def ir227 : Ic := q (R (oz 4 0<|N) [4])<|q (R (om 5 0<|om 6 1<|cl 7 294 [t 5,t 6]<|om 4 7<|N) [0,1,5,6,7])<|.ret
theorem ok227 : FT 227 8 ir227 [.tmp 4] := .o Tryz.func227
def ir228 : Ic := q (R (ow 2 false<|N) [2])<|q (R (om 3 0<|om 4 0<|ot 5 .neq 3 4<|om 2 5<|N) [0,3,4,5])<|.ret
theorem ok228 : FT 228 6 ir228 [.tmp 2] := .o Tryz.func228
def ir70 : Ic := q (R (ox 1 0<|oN 2 v6<|N) [0])<|q (R (oL 8 6 1<|oN 3 v6<|oS 6 3 8<|N) [8])<|q (R (of 9 3 4<|on (.sto none (t 9) (.k (.nil 6)))<|of 10 3 5<|on (.sto none (t 10) (.k (.nil 7)))<|N) [9,10])<|q (q (R (of 11 1 4<|ol 12 11<|oh 13 12<|oz 14 0<|N) [11])<|D (.block 0<|.loop (q (.reg (ot 15 .lss 14 13<|N))<|q (D (I 15 S (E 0)) [15])<|q (D (.block 1<|q (R (oa true 16 6 12 14<|oL 17 6 16<|oN 5 v6<|oS 6 5 17<|N) [16,17])<|D (.regd [(1,3),(1,4)] (of 18 3 4<|ol 19 18<|oL 20 6 5<|cl 21 70 [t 20]<|oo 22 (.bls 6 [t 21])<|oo 23 (.app 6 (t 19) (t 22))<|of 24 3 4<|os 24 23<|N)) [5,18,19,20,21,22,23,24]) [])<|R (oi 25 .add 14 1<|om 14 25<|N) [25])) [12,13,14,15,5])<|q (q (R (of 26 1 5<|ol 27 26<|oh 28 27<|oz 29 0<|N) [1,26])<|D (.block 2<|.loop (q (.reg (ot 30 .lss 29 28<|N))<|q (D (I 30 S (E 2)) [30])<|q (D (.block 3<|q (R (oa true 31 7 27 29<|oL 32 7 31<|oN 7 v7<|oS 7 7 32<|N) [31,32])<|D (.regd [(1,6),(3,6),(1,8)] (of 33 3 5<|ol 34 33<|of 35 7 0<|ol 36 35<|of 37 7 1<|oL 38 6 37<|cl 39 70 [t 38]<|oo 40 (.bld v7 [(0,1,t 36),(1,6,t 39)])<|oo 41 (.bls 7 [t 40])<|oo 42 (.app 7 (t 34) (t 41))<|of 43 3 5<|os 43 42<|N)) [7,33,34,35,36,37,38,39,40,41,42,43]) [])<|R (oi 44 .add 29 1<|om 29 44<|N) [44])) [27,28,29,30,7])<|q (R (oL 45 6 3<|oS 6 2 45<|N) [3,45])<|.ret
theorem ok70 : FT 70 46 ir70 [.cell 2 (some 6)] := .o Tryz.func70
end Go.Proofs
namespace Go.Proofs
open Go Av
theorem ext_run {P : Program} {f : Nat} {fn : Func} {e : Array Value → Sem Value} (hf : P.funcs[f]? = some fn) (hname : (fn.name == "runtime.NumGoroutine") = false) (hb : fn.body.isNone = true)
  (hn : (Extern.findNext fn).isNone = true) (he : Extern.find fn = some e) {vs : Array Value} {w w' : World} {u : Value} (hr : (e vs).run P w = .ok u w') : (callFunc f vs).run P w = .ok (.value u) w' := by
 have hn' : Extern.findNext fn = none := sX hn;have hb' : fn.body = none := sX hb;have hname' : fn.name ≠ "runtime.NumGoroutine" := sX hname;simp [callFunc, hf, hname', hb', hn', he, hr]
def cmpS (a b : Str) : Int := Extern.BytealgCompare.cmp ⟨a.toArray⟩ ⟨b.toArray⟩
theorem cmpS_range (a b : Str) : cmpS a b = -1 ∨ cmpS a b = 0 ∨ cmpS a b = 1 := by
 unfold cmpS Extern.BytealgCompare.cmp;split
 ·split <;> simp
 ·split
  ·simp
  ·split <;> simp
theorem ext294 (a b : Str) : CT 294 [.d (.str a), .d (.str b)] [] (.d (.int .i64 (cmpS a b))) [] := by
 intro β A w H vs _ hc hvs;refine .inr ⟨.int .i64 (cmpS a b), w, ?_, β, A, Stp.refl hc, .d _ _ (.int _ _ ?_)⟩
 ·obtain ⟨hl, hv⟩ := hvs;have h2 : vs.size = 2 := sX hl.symm;obtain ⟨x, y, rfl⟩ : ∃ x y, vs = #[x, y] := by
   refine ⟨vs[0], vs[1], ?_⟩;apply Array.ext
   ·simp [h2]
   ·intro i h1 h2';have : i = 0 ∨ i = 1 := oM;rcases this with rfl | rfl <;> rfl
  have hx := (hv 0 _ x rfl rfl).of_d;have hy := (hv 1 _ y rfl rfl).of_d;cases hx;cases hy;refine ext_run (e := Extern.BytealgCompare.compare) Tryz.func294 kR kR kR kR ?_;rfl
 ·rcases cmpS_range a b with h | h | h <;> rw [h] <;> decide
theorem walk228 (k : IntKind) (a : Int) : PT 228 [.int k a] (.d (.bool false)) := by
 refine ok228.pc ?_;simp only [go_sem, ir228, simprocAttr];simp
theorem walk227 (a b : Str) : PT 227 [.str a, .str b] (.d (.int .i64 (cmpS a b))) := by
 refine ok227.pc ?_;simp only [go_sem, ir227, simprocAttr];refine wc (ext294 a b) trivial
theorem walk132 (a b : Str) : PT 132 [.str a, .str b] (.d (.int .i64 (cmpS a b))) := by
 refine ok132.pc ?_;simp only [go_sem, ir132, simprocAttr];refine wc ((walk227 a b).call trivial) trivial
def cmpI (a b : Int) : Int := if a < b then -1 else if b < a then 1 else 0
theorem walk135 (a b : Int) : PT 135 [.int .i64 a, .int .i64 b] (.d (.int .i64 (cmpI a b))) := by
 refine ok135.pc ?_;simp only [go_sem, ir135, simprocAttr];refine wc ((walk228 .i64 a).call trivial) ?_;refine wc ((walk228 .i64 b).call trivial) ?_;refine ⟨fun h => ?_, fun h => ⟨fun h2 => ?_, fun h2 => ?_⟩⟩
 ·simp only [decide_eq_true_eq] at h; simp [cmpI, h]
 ·simp only [decide_eq_true_eq, decide_eq_false_iff_not] at h h2;have : b < a := h2;simp [cmpI, h, this]
 ·simp only [decide_eq_false_iff_not] at h h2;have : ¬ b < a := h2;simp [cmpI, h, this]
def orI : List Int → Int
 | [] => 0
 | x :: r => if x = 0 then orI r else x
theorem orI_skip : ∀ (xs : List Int) (k : Nat), (∀ (j : Nat) (h : j < xs.length), j < k → xs[j] = 0) → orI xs = orI (xs.drop k)
 | [], k, _ => by simp
 | x :: r, 0, _ => rfl
 | x :: r, k + 1, h => by
  have h0 := h 0 sP oM;simp only [List.getElem_cons_zero] at h0;simp only [orI, h0, if_true, List.drop_succ_cons];exact orI_skip r k fun j hj hk => by have := h (j + 1) (sX hj) oM; simpa using this
theorem walk134 (xs : List Int) (hl : xs.length ≤ 68719476736) : PT 134 [.list 1 (xs.map (.int .i64))] (.d (.int .i64 (orI xs))) := by
 refine ok134.pc ?_;simp only [go_sem, ir134, simprocAttr];refine wpc_loop (fun n s => ∃ k : Nat, k ≤ xs.length ∧ n = xs.length - k ∧ (∀ (j : Nat) (h : j < xs.length), j < k → xs[j] = 0) ∧
  s = ⟨[(3, .d (.int .i64 0)), (6, .d (.list 1 (xs.map (.int .i64)))), (7, .d (.int .i64 xs.length)), (8, .d (.int .i64 k))], []⟩) ?_ ?_
 ·refine ⟨_, _, Wk.refl _, 0, Nat.zero_le _, rfl, sP, ?_⟩;simp
 ·rintro n s ⟨k, hk, rfl, hinv, rfl⟩;by_cases hlt : k < xs.length
  ·have hx : nth (xs.map (Dat.int .i64)) k = .int .i64 xs[k] := by rw [nth_eq (sX hlt)]; simp
   have hd := dT hlt;refine zz20 ?_;refine ⟨sO, sP, fun hne => ?_, fun heq => ?_⟩
   ·simp only [bne_iff_ne, ne_eq] at hne;rw [orI_skip xs k hinv, List.drop_eq_getElem_cons hlt];simp [orI, hne]
   ·simp only [bne_eq_false_iff_eq] at heq;refine zz7 ?_;refine ⟨xs.length - (k + 1), _, oM, Wk.less ?_, k + 1, oM, rfl, ?_, rfl⟩
    ·exact zz trivial
    ·intro j h1 hj;by_cases e : j = k
     ·subst e; exact heq
     ·exact hinv j h1 oM
  ·have hd := dF hlt;refine zz5 ?_;have : orI xs = 0 := by rw [orI_skip xs k hinv, List.drop_eq_nil_of_le oM]; rfl
   rw [this]
def cmpL {α : Type} (f : α → α → Int) : List α → List α → Int
 | [], [] => 0
 | [], _ :: _ => -1
 | _ :: _, [] => 1
 | x :: xs, y :: ys => if f x y = 0 then cmpL f xs ys else f x y
theorem cmpL_skip {α : Type} {f : α → α → Int} : ∀ (xs ys : List α) (k : Nat), k ≤ xs.length → k ≤ ys.length → (∀ (j : Nat) (h1 : j < xs.length) (h2 : j < ys.length), j < k → f xs[j] ys[j] = 0) → cmpL f xs ys = cmpL f (xs.drop k) (ys.drop k)
 | xs, ys, 0, _, _, _ => by simp
 | x :: xs, y :: ys, k + 1, h1, h2, h => by
  have h0 := h 0 sP sP oM;simp only [List.getElem_cons_zero] at h0;simp only [cmpL, h0, if_true, List.drop_succ_cons];exact cmpL_skip xs ys k (sX h1) (sX h2) fun j hj hj2 hk => by have := h (j + 1) (sX hj) (sX hj2) oM; simpa using this
 | [], _, k + 1, h1, _, _ => by simp at h1
 | _ :: _, [], k + 1, _, h2, _ => by simp at h2
theorem walk136 (xs ys : List Val) (f : Val → Val → Int) (g : Nat) (hl : xs.length ≤ 68719476736) (_hly : ys.length ≤ 68719476736)
  (h : ∀ x ∈ xs, ∀ y ∈ ys, CT g [.d (encV x), .d (encV y)] [] (.d (.int .i64 (f x y))) []) :
  PT 136 [.list 6 (xs.map encV), .list 6 (ys.map encV), .fn (.func g) [] []] (.d (.int .i64 (cmpL f xs ys))) := by
 refine ok136.pc ?_;simp only [go_sem, ir136, simprocAttr];refine wpc_loop (fun n s => ∃ k : Nat, k ≤ xs.length ∧ k ≤ ys.length ∧ n = xs.length - k ∧ (∀ (j : Nat) (h1 : j < xs.length) (h2 : j < ys.length), j < k → f xs[j] ys[j] = 0) ∧
  s = ⟨[(0, .d (.list 6 (xs.map encV))), (1, .d (.list 6 (ys.map encV))), (2, .d (.fn (.func g) [] [])), (11, .d (.list 6 (xs.map encV))), (12, .d (.int .i64 xs.length)), (13, .d (.int .i64 k))], []⟩) ?_ ?_
 ·refine ⟨_, _, Wk.refl _, 0, Nat.zero_le _, Nat.zero_le _, rfl, sP, ?_⟩;simp
 ·rintro n s ⟨k, hk, hky, rfl, hinv, rfl⟩;by_cases hlt : k < xs.length
  ·have hx := nth_encV hlt;have hd := dT hlt;refine zz20 ?_;refine ⟨sO, fun hge => ?_, fun hge => ?_⟩
   ·simp only [List.length_map, decide_eq_true_eq] at hge;have hyk : k = ys.length := oM;rw [cmpL_skip xs ys k hk hky hinv, List.drop_eq_getElem_cons hlt, List.drop_eq_nil_of_le (show ys.length ≤ k by omega)];simp [cmpL]
   ·simp only [List.length_map, decide_eq_false_iff_not] at hge;have hlty : k < ys.length := oM;have hy := nth_encV hlty;refine zz37 ?_;have hc := h xs[k] (List.getElem_mem _) ys[k] (List.getElem_mem _);rw [encV_eq, encV_eq] at hc;refine ⟨sO, wn hc ?_⟩;refine zz ?_;refine ⟨fun hne => ?_, fun heq => ?_⟩
    ·simp only [bne_iff_ne, ne_eq] at hne;rw [cmpL_skip xs ys k hk hky hinv, List.drop_eq_getElem_cons hlt, List.drop_eq_getElem_cons hlty];simp [cmpL, hne]
    ·simp only [bne_eq_false_iff_eq] at heq;refine zz7 ?_;refine ⟨xs.length - (k + 1), _, oM, Wk.less ?_, k + 1, oM, oM, rfl, ?_, rfl⟩
     ·exact zz trivial
     ·intro j h1 h2 hj;by_cases e : j = k
      ·subst e; exact heq
      ·exact hinv j h1 h2 oM
  ·have hd := dF hlt;refine zz5 ?_;have e1 : xs.drop k = [] := List.drop_eq_nil_of_le oM;apply ik <;> intro hs
   ·simp only [List.length_map, decide_eq_true_eq] at hs;rw [cmpL_skip xs ys k hk hky hinv, e1, List.drop_eq_getElem_cons (show k < ys.length by omega)];rfl
   ·simp only [List.length_map, decide_eq_false_iff_not] at hs;rw [cmpL_skip xs ys k hk hky hinv, e1, List.drop_eq_nil_of_le (show ys.length ≤ k by omega)];rfl
theorem walk137 (xs ys : List Fld) (f : Fld → Fld → Int) (g : Nat) (hl : xs.length ≤ 68719476736) (_hly : ys.length ≤ 68719476736)
  (h : ∀ x ∈ xs, ∀ y ∈ ys, CT g [.d (encF x), .d (encF y)] [] (.d (.int .i64 (f x y))) []) :
  PT 137 [.list 7 (xs.map encF), .list 7 (ys.map encF), .fn (.func g) [] []] (.d (.int .i64 (cmpL f xs ys))) := by
 refine ok137.pc ?_;simp only [go_sem, ir137, simprocAttr];refine wpc_loop (fun n s => ∃ k : Nat, k ≤ xs.length ∧ k ≤ ys.length ∧ n = xs.length - k ∧ (∀ (j : Nat) (h1 : j < xs.length) (h2 : j < ys.length), j < k → f xs[j] ys[j] = 0) ∧
  s = ⟨[(0, .d (.list 7 (xs.map encF))), (1, .d (.list 7 (ys.map encF))), (2, .d (.fn (.func g) [] [])), (11, .d (.list 7 (xs.map encF))), (12, .d (.int .i64 xs.length)), (13, .d (.int .i64 k))], []⟩) ?_ ?_
 ·refine ⟨_, _, Wk.refl _, 0, Nat.zero_le _, Nat.zero_le _, rfl, sP, ?_⟩;simp
 ·rintro n s ⟨k, hk, hky, rfl, hinv, rfl⟩;by_cases hlt : k < xs.length
  ·have hx := nth_encF hlt;have hd := dT hlt;refine zz20 ?_;refine ⟨sO, fun hge => ?_, fun hge => ?_⟩
   ·simp only [List.length_map, decide_eq_true_eq] at hge;have hyk : k = ys.length := oM;rw [cmpL_skip xs ys k hk hky hinv, List.drop_eq_getElem_cons hlt, List.drop_eq_nil_of_le (show ys.length ≤ k by omega)];simp [cmpL]
   ·simp only [List.length_map, decide_eq_false_iff_not] at hge;have hlty : k < ys.length := oM;have hy := nth_encF hlty;refine zz37 ?_;have hc := h xs[k] (List.getElem_mem _) ys[k] (List.getElem_mem _);rw [encF_eq, encF_eq] at hc;refine ⟨sO, wn hc ?_⟩;refine zz ?_;refine ⟨fun hne => ?_, fun heq => ?_⟩
    ·simp only [bne_iff_ne, ne_eq] at hne;rw [cmpL_skip xs ys k hk hky hinv, List.drop_eq_getElem_cons hlt, List.drop_eq_getElem_cons hlty];simp [cmpL, hne]
    ·simp only [bne_eq_false_iff_eq] at heq;refine zz7 ?_;refine ⟨xs.length - (k + 1), _, oM, Wk.less ?_, k + 1, oM, oM, rfl, ?_, rfl⟩
     ·exact zz trivial
     ·intro j h1 h2 hj;by_cases e : j = k
      ·subst e; exact heq
      ·exact hinv j h1 h2 oM
  ·have hd := dF hlt;refine zz5 ?_;have e1 : xs.drop k = [] := List.drop_eq_nil_of_le oM;apply ik <;> intro hs
   ·simp only [List.length_map, decide_eq_true_eq] at hs;rw [cmpL_skip xs ys k hk hky hinv, e1, List.drop_eq_getElem_cons (show k < ys.length by omega)];rfl
   ·simp only [List.length_map, decide_eq_false_iff_not] at hs;rw [cmpL_skip xs ys k hk hky hinv, e1, List.drop_eq_nil_of_le (show ys.length ≤ k by omega)];rfl
mutual
def okV : Val → Prop
 | .mk _ _ _ _ l f => l.length ≤ 68719476736 ∧ f.length ≤ 68719476736 ∧ okVs l ∧ okFs f
def okVs : List Val → Prop
 | [] => True
 | v :: r => okV v ∧ okVs r
def okF : Fld → Prop
 | .mk _ v => okV v
def okFs : List Fld → Prop
 | [] => True
 | v :: r => okF v ∧ okFs r
end
theorem okVs_mem : ∀ {l : List Val}, okVs l → ∀ x ∈ l, okV x
 | [], _, x, h => by cases h
 | v :: r, ho, x, h => by
  simp only [okVs] at ho;rcases List.mem_cons.1 h with rfl | h
  ·exact ho.1
  ·exact okVs_mem ho.2 x h
theorem okFs_mem : ∀ {l : List Fld}, okFs l → ∀ x ∈ l, okF x
 | [], _, x, h => by cases h
 | v :: r, ho, x, h => by
  simp only [okFs] at ho;rcases List.mem_cons.1 h with rfl | h
  ·exact ho.1
  ·exact okFs_mem ho.2 x h
mutual
def cmpV : Val → Val → Int
 | .mk k i s t l f, b => orI [cmpI k b.kind, cmpI i b.int, cmpI s b.scale, cmpS t b.text, cmpVs l b.list, cmpFs f b.fields]
def cmpVs : List Val → List Val → Int
 | [], [] => 0
 | [], _ :: _ => -1
 | _ :: _, [] => 1
 | x :: xs, y :: ys => if cmpV x y = 0 then cmpVs xs ys else cmpV x y
def cmpF : Fld → Fld → Int
 | .mk n v, g => orI [cmpS n g.name, cmpV v g.value]
def cmpFs : List Fld → List Fld → Int
 | [], [] => 0
 | [], _ :: _ => -1
 | _ :: _, [] => 1
 | x :: xs, y :: ys => if cmpF x y = 0 then cmpFs xs ys else cmpF x y
end
theorem cmpVs_eq : ∀ (xs ys : List Val), cmpVs xs ys = cmpL cmpV xs ys
 | [], [] => by simp [cmpVs, cmpL]
 | [], _ :: _ => by simp [cmpVs, cmpL]
 | _ :: _, [] => by simp [cmpVs, cmpL]
 | x :: xs, y :: ys => by simp [cmpVs, cmpL, cmpVs_eq xs ys]
theorem cmpFs_eq : ∀ (xs ys : List Fld), cmpFs xs ys = cmpL cmpF xs ys
 | [], [] => by simp [cmpFs, cmpL]
 | [], _ :: _ => by simp [cmpFs, cmpL]
 | _ :: _, [] => by simp [cmpFs, cmpL]
 | x :: xs, y :: ys => by simp [cmpFs, cmpL, cmpFs_eq xs ys]
theorem step138 (n n' : Str) (v v' : Val) (h : PT 74 [encV v, encV v'] (.d (.int .i64 (cmpV v v')))) :
  PT 138 [encF (.mk n v), encF (.mk n' v')] (.d (.int .i64 (cmpF (.mk n v) (.mk n' v')))) := by
 refine ok138.pc ?_;rw [encF_eq, encF_eq];have hc := h.call trivial;rw [encV_eq, encV_eq] at hc;simp only [go_sem, ir138, Fld.name, Fld.value, simprocAttr];refine wpsL_call rfl ((walk132 n n').call trivial) trivial ?_;refine zz ?_;refine wpsL_call rfl hc trivial ?_;refine zz ?_;refine ⟨sP, wpsL_call rfl ((walk134 [cmpS n n', cmpV v v'] sP).call trivial) trivial ?_⟩;refine zz ?_;exact ⟨rfl, by simp only [cmpF, Fld.name, Fld.value]⟩
theorem step74 (a b : Val) (ha : a.list.length ≤ 68719476736) (ha2 : a.fields.length ≤ 68719476736) (hb : b.list.length ≤ 68719476736) (hb2 : b.fields.length ≤ 68719476736)
  (h1 : ∀ x ∈ a.list, ∀ y ∈ b.list, CT 74 [.d (encV x), .d (encV y)] [] (.d (.int .i64 (cmpV x y))) [])
  (h2 : ∀ x ∈ a.fields, ∀ y ∈ b.fields, CT 138 [.d (encF x), .d (encF y)] [] (.d (.int .i64 (cmpF x y))) []) :
  PT 74 [encV a, encV b] (.d (.int .i64 (cmpV a b))) := by
 refine ok74.pc ?_;rw [encV_eq, encV_eq];simp only [go_sem, ir74, simprocAttr];refine wpsL_call rfl ((walk135 a.kind b.kind).call trivial) trivial ?_;refine zz ?_;refine wpsL_call rfl ((walk135 a.int b.int).call trivial) trivial ?_;refine zz ?_;refine wpsL_call rfl ((walk135 a.scale b.scale).call trivial) trivial ?_;refine zz ?_;refine wpsL_call rfl ((walk132 a.text b.text).call trivial) trivial ?_;refine zz ?_;refine wpsL_call rfl ((walk136 a.list b.list cmpV 74 ha hb h1).call trivial) trivial ?_;refine zz ?_;refine wpsL_call rfl ((walk137 a.fields b.fields cmpF 138 ha2 hb2 h2).call trivial) trivial ?_;refine zz ?_;refine ⟨sP, wpsL_call rfl ((walk134 [cmpI a.kind b.kind, cmpI a.int b.int, cmpI a.scale b.scale, cmpS a.text b.text, cmpL cmpV a.list b.list, cmpL cmpF a.fields b.fields] sP).call trivial) trivial ?_⟩;refine zz ?_;refine ⟨rfl, ?_⟩;cases a;simp only [cmpV, Val.kind, Val.int, Val.scale, Val.text, Val.list, Val.fields, cmpVs_eq, cmpFs_eq]
mutual
theorem walk74 : ∀ (a : Val), okV a → ∀ b, okV b → PT 74 [encV a, encV b] (.d (.int .i64 (cmpV a b)))
 | .mk k i s t l f, ha, b, hb => by
  simp only [okV] at ha;obtain ⟨a1, a2, a3, a4⟩ := ha;have hb' : b.list.length ≤ 68719476736 ∧ b.fields.length ≤ 68719476736 ∧ okVs b.list ∧ okFs b.fields := by cases b; simpa only [okV, Val.list, Val.fields] using hb
  exact step74 _ b a1 a2 hb'.1 hb'.2.1 (fun x hx y hy => (walkVs l a3 x hx y (okVs_mem hb'.2.2.1 y hy)).call trivial) (fun x hx y hy => (walkFs f a4 x hx y (okFs_mem hb'.2.2.2 y hy)).call trivial)
theorem walkVs : ∀ (l : List Val), okVs l → ∀ x ∈ l, ∀ b, okV b → PT 74 [encV x, encV b] (.d (.int .i64 (cmpV x b)))
 | [], _, x, h, _, _ => by cases h
 | v :: r, ho, x, h, b, hb => by
  simp only [okVs] at ho;by_cases e : x = v
  ·rw [e]; exact walk74 v ho.1 b hb
  ·exact walkVs r ho.2 x ((List.mem_cons.1 h).resolve_left e) b hb
theorem walk138 : ∀ (a : Fld), okF a → ∀ b, okF b → PT 138 [encF a, encF b] (.d (.int .i64 (cmpF a b)))
 | .mk n v, ha, .mk n' v', hb => step138 n n' v v' (walk74 v (by simpa only [okF] using ha) v' (by simpa only [okF] using hb))
theorem walkFs : ∀ (l : List Fld), okFs l → ∀ x ∈ l, ∀ b, okF b → PT 138 [encF x, encF b] (.d (.int .i64 (cmpF x b)))
 | [], _, x, h, _, _ => by cases h
 | v :: r, ho, x, h, b, hb => by
  simp only [okFs] at ho;by_cases e : x = v
  ·rw [e]; exact walk138 v ho.1 b hb
  ·exact walkFs r ho.2 x ((List.mem_cons.1 h).resolve_left e) b hb
end
def eqF {α : Type} (eq : α → α → Bool) (xs ys : List α) : Bool := xs.length == ys.length && (xs.zip ys).all fun p => eq p.1 p.2
theorem eqF_iff {α : Type} {eq : α → α → Bool} {xs ys : List α} (hl : xs.length = ys.length) : eqF eq xs ys = true ↔ ∀ (j : Nat) (h1 : j < xs.length) (h2 : j < ys.length), eq xs[j] ys[j] = true := by
 simp only [eqF, hl, beq_self_eq_true, Bool.true_and, List.all_eq_true];constructor
 ·intro h j h1 h2;have : (xs.zip ys)[j]? = some (xs[j], ys[j]) := by rw [List.getElem?_zip_eq_some]; simp [h1, h2]
  exact h _ (List.mem_of_getElem? this)
 ·intro h p hp;obtain ⟨j, hj⟩ := List.getElem?_of_mem hp;rw [List.getElem?_zip_eq_some] at hj;obtain ⟨h1, e1⟩ := List.getElem?_eq_some_iff.1 hj.1;obtain ⟨h2, e2⟩ := List.getElem?_eq_some_iff.1 hj.2;rw [← e1, ← e2];exact h j oM oM
theorem walk46 (xs ys : List Val) (eq : Val → Val → Bool) (g : Nat) (hl : xs.length ≤ 68719476736)
  (h : ∀ x ∈ xs, ∀ y ∈ ys, CT g [.d (encV x), .d (encV y)] [] (.d (.bool (eq x y))) []) :
  PT 46 [.list 6 (xs.map encV), .list 6 (ys.map encV), .fn (.func g) [] []] (.d (.bool (eqF eq xs ys))) := by
 refine ok46.pc ?_;simp only [go_sem, ir46, simprocAttr];refine ⟨fun hne => ?_, fun heq => ?_⟩
 ·simp only [List.length_map, bne_iff_ne, ne_eq, Int.ofNat_inj] at hne;simp [eqF, hne]
 simp only [List.length_map, bne_eq_false_iff_eq, Int.ofNat_inj] at heq;refine wpc_loop (fun n s => ∃ k : Nat, k ≤ xs.length ∧ n = xs.length - k ∧ (∀ (j : Nat) (h1 : j < xs.length) (h2 : j < ys.length), j < k → eq xs[j] ys[j] = true) ∧
  s = ⟨[(1, .d (.list 6 (ys.map encV))), (2, .d (.fn (.func g) [] [])), (15, .d (.list 6 (xs.map encV))), (16, .d (.int .i64 xs.length)), (17, .d (.int .i64 k))], []⟩) ?_ ?_
 ·refine ⟨_, _, Wk.refl _, 0, Nat.zero_le _, rfl, sP, ?_⟩;simp
 ·rintro n s ⟨k, hk, rfl, hinv, rfl⟩;by_cases hlt : k < xs.length
  ·have hlty : k < ys.length := oM;have hx := nth_encV hlt;have hy := nth_encV hlty;have hd := dT hlt;refine zz23 ?_;have hc := h xs[k] (List.getElem_mem _) ys[k] (List.getElem_mem _);rw [encV_eq, encV_eq] at hc;refine ⟨sO, sO, wn hc ?_⟩;refine zz ?_;refine ⟨fun hne => ?_, fun heq' => ?_⟩
   ·have : eqF eq xs ys = false := by
     cases h0 : eqF eq xs ys with
     | false => rfl
     | true => rw [(eqF_iff heq).1 h0 k hlt oM] at hne; cases hne
    rw [this]
   ·refine zz7 ?_;refine ⟨xs.length - (k + 1), _, oM, Wk.less ?_, k + 1, oM, rfl, ?_, rfl⟩
    ·exact zz trivial
    ·intro j h1 h2 hj;by_cases e : j = k
     ·subst e; simpa using heq'
     ·exact hinv j h1 h2 oM
  ·have hd := dF hlt;refine zz5 ?_;rw [(eqF_iff heq).2 fun j h1 h2 => hinv j h1 h2 oM]
theorem walk47 (a b : Val) (ha : okV a) (hb : okV b) : PT 47 [encV a, encV b] (.d (.bool (cmpV a b == 0))) := by
 refine ok47.pc ?_;have hc := (walk74 a ha b hb).call trivial;rw [encV_eq, encV_eq] at hc;rw [encV_eq, encV_eq];simp only [go_sem, ir47, simprocAttr];refine wc hc trivial
def idxB : List UInt8 → UInt8 → Nat → Int
 | [], _, _ => -1
 | b :: l, c, k => if b == c then (k : Int) else idxB l c (k + 1)
theorem idxB_eq (c : UInt8) : ∀ (l : List UInt8) (k : Nat), idxB l c k = if Lib.indexByte l c = -1 then -1 else Lib.indexByte l c + k
 | [], k => rfl
 | b :: l, k => by
  rw [idxB, Lib.indexByte, idxB_eq c l (k + 1)];have hge := Lib.indexByte_ge l c;by_cases h : (b == c) = true
  ·simp [h]
  ·simp only [h, Bool.false_eq_true, ↓reduceIte, beq_iff_eq];by_cases h2 : Lib.indexByte l c = -1
   ·simp [h2]
   ·simp only [h2, ↓reduceIte];rw [if_neg oM];omega
theorem idxB_le (c : UInt8) : ∀ (l : List UInt8) (k : Nat), -1 ≤ idxB l c k ∧ idxB l c k ≤ (l.length + k : Nat)
 | [], k => by simp only [idxB]; omega
 | b :: l, k => by
  have := idxB_le c l (k + 1);simp only [idxB, List.length_cons];split
  ·omega
  ·omega
theorem ext351 (s : Str) (c : Int) : CT 351 [.d (.str s), .d (.int .u8 c)] [] (.d (.int .i64 (idxB s c.toNat.toUInt8 0))) [] := by
 intro β A w H vs _ hc hvs;obtain ⟨hl, hv⟩ := hvs;have h2 : vs.size = 2 := sX hl.symm;obtain ⟨x, y, rfl⟩ : ∃ x y, vs = #[x, y] := by
  refine ⟨vs[0], vs[1], ?_⟩;apply Array.ext
  ·simp [h2]
  ·intro i h1 h2';have : i = 0 ∨ i = 1 := oM;rcases this with rfl | rfl <;> rfl
 have hx := (hv 0 _ x rfl rfl).of_d;have hy := (hv 1 _ y rfl rfl).of_d;cases hx with
 | str _ hs =>
  cases hy;have hle := idxB_le c.toNat.toUInt8 s 0;refine .inr ⟨.int .i64 (idxB s c.toNat.toUInt8 0), w, ?_, β, A, Stp.refl hc, .d _ _ (.int _ _ ?_)⟩
  ·refine ext_run (e := Extern.BytealgIndexByte.indexByte) Tryz.func351 kR kR kR kR ?_;rw [Lib.run_indexByteString, idxB_eq];congr 2;show Lib.indexByte s _ = _;have hge := Lib.indexByte_ge s c.toNat.toUInt8;by_cases h : Lib.indexByte s c.toNat.toUInt8 = -1
   ·simp [h]
   ·simp [h]
  ·have e1 : IntKind.i64.min = -9223372036854775808 := dC;have e2 : IntKind.i64.max = 9223372036854775807 := dC;rw [e1, e2];omega
def X1 : Ext := fun f ds => match f, ds with
 | 294, [.str a, .str b] => some (.d (.int .i64 (Extern.BytealgCompare.cmp ⟨a.toArray⟩ ⟨b.toArray⟩)))
 | 351, [.str s, .int .u8 c] => some (.d (.int .i64 (idxB s c.toNat.toUInt8 0)))
 | _, _ => none
theorem X1_ok : ExtOK Tryz.prog X1 := by
 intro f ds d h;unfold X1 at h;split at h
 ·cases h; exact ext294 _ _
 ·cases h; exact ext351 _ _
 ·cases h
def K1 (f : Nat) : Nat := if f == 55 then 1 else 0
mutual
def datEq : Dat → Dat → Bool
 | .bool a, .bool b => a == b
 | .int k a, .int l b => decide (k = l) && a == b
 | .str a, .str b => a == b
 | .nil a, .nil b => a == b
 | .list a xs, .list b ys => a == b && datEqs xs ys
 | .agg xs, .agg ys => datEqs xs ys
 | .nilIface, .nilIface => true
 | _, _ => false
def datEqs : List Dat → List Dat → Bool
 | [], [] => true
 | x :: xs, y :: ys => datEq x y && datEqs xs ys
 | _, _ => false
end
mutual
theorem datEq_eq : ∀ (a b : Dat), datEq a b = true → a = b
 | .bool a, .bool b, h => by simp only [datEq, beq_iff_eq] at h; rw [h]
 | .int k a, .int l b, h => by simp only [datEq, Bool.and_eq_true, decide_eq_true_eq, beq_iff_eq] at h; rw [h.1, h.2]
 | .str a, .str b, h => by simp only [datEq, beq_iff_eq] at h; rw [h]
 | .nil a, .nil b, h => by simp only [datEq, beq_iff_eq] at h; rw [h]
 | .list a xs, .list b ys, h => by simp only [datEq, Bool.and_eq_true, beq_iff_eq] at h; rw [h.1, datEqs_eq xs ys h.2]
 | .agg xs, .agg ys, h => by simp only [datEq] at h; rw [datEqs_eq xs ys h]
 | .nilIface, b, h => by cases b <;> first | rfl | (simp [datEq] at h)
 | .fn .., b, h => by cases b <;> simp [datEq] at h
 | .ptr _, b, h => by cases b <;> simp [datEq] at h
 | .map _, b, h => by cases b <;> simp [datEq] at h
 | .nilFn, b, h => by cases b <;> simp [datEq] at h
 | .nilPtr, b, h => by cases b <;> simp [datEq] at h
 | .nilMap, b, h => by cases b <;> simp [datEq] at h
 | .iface _ _, b, h => by cases b <;> simp [datEq] at h
 | .opq, b, h => by cases b <;> simp [datEq] at h
 | .bool _, .int .., h | .bool _, .str _, h | .bool _, .nil _, h | .bool _, .list .., h | .bool _, .agg _, h | .bool _, .fn .., h | .bool _, .ptr _, h | .bool _, .map _, h | .bool _, .nilFn, h | .bool _, .nilPtr, h | .bool _, .nilMap, h | .bool _, .nilIface, h | .bool _, .iface .., h | .bool _, .opq, h => by simp [datEq] at h
 | .int .., .bool _, h | .int .., .str _, h | .int .., .nil _, h | .int .., .list .., h | .int .., .agg _, h | .int .., .fn .., h | .int .., .ptr _, h | .int .., .map _, h | .int .., .nilFn, h | .int .., .nilPtr, h | .int .., .nilMap, h | .int .., .nilIface, h | .int .., .iface .., h | .int .., .opq, h => by simp [datEq] at h
 | .str _, .bool _, h | .str _, .int .., h | .str _, .nil _, h | .str _, .list .., h | .str _, .agg _, h | .str _, .fn .., h | .str _, .ptr _, h | .str _, .map _, h | .str _, .nilFn, h | .str _, .nilPtr, h | .str _, .nilMap, h | .str _, .nilIface, h | .str _, .iface .., h | .str _, .opq, h => by simp [datEq] at h
 | .nil _, .bool _, h | .nil _, .int .., h | .nil _, .str _, h | .nil _, .list .., h | .nil _, .agg _, h | .nil _, .fn .., h | .nil _, .ptr _, h | .nil _, .map _, h | .nil _, .nilFn, h | .nil _, .nilPtr, h | .nil _, .nilMap, h | .nil _, .nilIface, h | .nil _, .iface .., h | .nil _, .opq, h => by simp [datEq] at h
 | .list .., .bool _, h | .list .., .int .., h | .list .., .str _, h | .list .., .nil _, h | .list .., .agg _, h | .list .., .fn .., h | .list .., .ptr _, h | .list .., .map _, h | .list .., .nilFn, h | .list .., .nilPtr, h | .list .., .nilMap, h | .list .., .nilIface, h | .list .., .iface .., h | .list .., .opq, h => by simp [datEq] at h
 | .agg _, .bool _, h | .agg _, .int .., h | .agg _, .str _, h | .agg _, .nil _, h | .agg _, .list .., h | .agg _, .fn .., h | .agg _, .ptr _, h | .agg _, .map _, h | .agg _, .nilFn, h | .agg _, .nilPtr, h | .agg _, .nilMap, h | .agg _, .nilIface, h | .agg _, .iface .., h | .agg _, .opq, h => by simp [datEq] at h
theorem datEqs_eq : ∀ (a b : List Dat), datEqs a b = true → a = b
 | [], [], _ => rfl
 | [], _ :: _, h => by simp [datEqs] at h
 | _ :: _, [], h => by simp [datEqs] at h
 | x :: xs, y :: ys, h => by
  simp only [datEqs, Bool.and_eq_true] at h;rw [datEq_eq x y h.1, datEqs_eq xs ys h.2]
end
def avEqs : List Av → List Av → Bool
 | [], [] => true
 | .d x :: xs, .d y :: ys => datEq x y && avEqs xs ys
 | _, _ => false
theorem avEqs_eq : ∀ (a b : List Av), avEqs a b = true → a = b
 | [], [], _ => rfl
 | [], _ :: _, h => by simp [avEqs] at h
 | x :: xs, [], h => by cases x <;> simp [avEqs] at h
 | x :: xs, y :: ys, h => by
  cases x with
  | d x =>
   cases y with
   | d y =>
    simp only [avEqs, Bool.and_eq_true] at h;rw [datEq_eq x y h.1, avEqs_eq xs ys h.2]
   | _ => simp [avEqs] at h
  | _ => simp [avEqs] at h
def avEq : Av → Av → Bool
 | .d x, .d y => datEq x y
 | .tup xs, .tup ys => avEqs xs ys
 | _, _ => false
theorem avEq_eq {a b : Av} (h : avEq a b = true) : a = b := by
 unfold avEq at h;split at h
 ·rw [datEq_eq _ _ h]
 ·rw [avEqs_eq _ _ h]
 ·cases h
abbrev Tbl := List (Nat × List Dat × Av)
def findT (f : Nat) (ds : List Dat) : Tbl → Option Av
 | [] => none
 | (g, l, v) :: r => match g == f with
  | true => match datEqs ds l with
   | true => some v
   | false => findT f ds r
  | false => findT f ds r
def ext (t : Tbl) (X : Ext) : Ext := fun f ds => match findT f ds t with
 | some v => some v
 | none => X f ds
def tblOK (P : Program) (X : Ext) : Tbl → Bool
 | [] => true
 | (f, l, v) :: r => (match evF P (some false) (callF P X K1 500 40) 500 f (l.map .d) [] with
  | some (u, _) => pureB u && avEq u v
  | none => false) && tblOK P X r
end Go.Proofs
namespace Go.Proofs
open Go Av
open Av.Y
def ir184 : Ic := q (R (ow 2 false<|N) [2])<|q (q (R (om 5 0<|ob 6 .seq (t 5) (.k (.str []))<|om 7 6<|.sc 7 false (om 8 0<|oj 9 8<|oi 10 .gtr 9 32<|N) (t 10) 11 (om 12 11<|.sc 12 false (om 13 0<|oo 14 (.ixs (t 13) (i 0))<|ob 15 .lss (t 14) (.k (.int .u8 97))<|N) (t 15) 16 (om 17 16<|.sc 17 false (om 18 0<|oo 19 (.ixs (t 18) (i 0))<|ob 20 .gtr (t 19) (.k (.int .u8 122))<|N) (t 20) 21 N))) [5,6,7,11,12,16,17])<|D (I 21 (q (R (ow 2 false<|N) [0,21])<|.ret) S) [21])<|q (q (R (om 22 0<|oo 23 (.s2b (t 22))<|oh 24 23<|oz 25 0<|N) [0,22])<|D (.block 0<|.loop (q (.reg (ot 26 .lss 25 24<|N))<|q (D (I 26 S (E 0)) [26])<|q (D (.block 1<|q (R (oa false 27 1 23 25<|ol 28 27<|om 4 28<|N) [27,28])<|q (R (om 29 4<|ob 30 .lss (t 29) (.k (.int .u8 97))<|om 31 30<|.sc 31 false (om 32 4<|ob 33 .gtr (t 32) (.k (.int .u8 122))<|N) (t 33) 34 (om 35 34<|.sc 35 true (om 36 4<|ob 37 .lss (t 36) (.k (.int .u8 48))<|om 38 37<|.sc 38 false (om 39 4<|ob 40 .gtr (t 39) (.k (.int .u8 57))<|N) (t 40) 41 N) (t 41) 42 (om 43 42<|.sc 43 true (om 44 4<|ob 45 .neq (t 44) (.k (.int .u8 95))<|N) (t 45) 46 N))) [4,29,30,31,34,35,42,43])<|D (I 46 (q (R (ow 2 false<|N) [23,24,25,46])<|.ret) S) [46]) [])<|R (oi 47 .add 25 1<|om 25 47<|N) [47])) [23,24,25,26,4])<|q (.reg (ow 2 true<|N))<|.ret
theorem ok184 : FT 184 48 ir184 [.tmp 2] := .o Tryz.func184
end Go.Proofs
namespace Go.Proofs
open Go Av
theorem tbl_one {P : Program} {X : Ext} (hX : ExtOK P X) {f : Nat} {ds : List Dat} {v : Av} (h : tblOK P X [(f, ds, v)] = true) : PCon P f ds v := by
 rw [tblOK, tblOK, Bool.and_true] at h;cases ev : evF P false (callF P X K1 500 40) 500 f (ds.map .d) [] with
 | none => rw [ev] at h; cases h
 | some y =>
  obtain ⟨u, fh⟩ := y;rw [ev] at h;simp only [Bool.and_eq_true] at h;obtain ⟨hp, he⟩ := h;obtain rfl := avEq_eq he;exact ev_pcon (X := X) (K := K1) (L := 500) (n := 40) hX ev hp
theorem idsInL_d {G : Nat → Option Av.Obj} : ∀ cs : List Dat, idsInL G (cs.map .d)
 | [] => trivial
 | _ :: r => ⟨trivial, idsInL_d r⟩
theorem renL_d (ρ : Nat → Nat) : ∀ cs : List Dat, renL ρ (cs.map .d) = cs.map .d
 | [] => rfl
 | _ :: r => by simp only [List.map_cons, renL, Av.ren, renL_d ρ r]
theorem closed_box (i : Nat) (cs : List Dat) : closed (get [(i, .box (cs.map .d))]) := by
 refine closed_of ?_;simp only [closedH, objIn, idsInL_d, and_true]
theorem Con.ro {P : Program} {f : Nat} {ds cs : List Dat} {r : Dat} (h : Con P f (.ref 1000 0 :: ds.map .d) [(1000, .box (cs.map .d))] (.d r) []) (i : Nat) :
  CallOK P f (.ref i 0 :: ds.map .d) [(i, some (.box (cs.map .d)))] (.d r) [] := by
 have h1 : ∀ j, (get [(1000, Obj.box (cs.map .d))] j).isSome = true → j = 1000 := by
  intro j hj;simp only [Av.get] at hj;split at hj
  ·rename_i e; exact e.symm
  ·cases hj
 have := h.call (fun _ => i) (fun j hj => by rw [h1 j hj]; decide) (fun a b ha hb _ => by rw [h1 a ha, h1 b hb]) ?_ (closed_box _ _) [] sP (closed_box _ _) trivial
 ·have e : (ds.map Av.d).map (Av.ren fun _ => i) = ds.map Av.d := by
   rw [List.map_map]; exact List.map_congr_left fun x _ => by simp [Av.ren]
  simpa [Av.ren, Obj.ren, renL_d, e] using this
 ·intro c hc;rcases List.mem_cons.1 hc with rfl | hc
  ·rfl
  ·obtain ⟨x, _, rfl⟩ := List.mem_map.1 hc; trivial
theorem t0' : Int.toNat 0 = 0 := rfl
def nameC (c : UInt8) : Bool := !((decide ((c.toNat : Int) < 97) || decide ((c.toNat : Int) > 122)) && (decide ((c.toNat : Int) < 48) || decide ((c.toNat : Int) > 57)) && ((c.toNat : Int) != 95))
def nameS (s : Str) : Bool := !(s == [] || decide ((s.length : Int) > 32) || decide (((s.getD 0 0).toNat : Int) < 97) || decide (((s.getD 0 0).toNat : Int) > 122)) && s.all nameC
theorem walk184 (s : Str) (hs : s.length ≤ 68719476736) : PT 184 [.str s] (.d (.bool (nameS s))) := by
 refine ok184.pc ?_;cases s with
 | nil =>
  simp only [go_sem, ir184, Nat.reduceAdd, Nat.reduceEqDiff, Nat.reduceBEq, Nat.reduceLeDiff, reduceCtorEq, ↓reduceIte];rfl
 | cons c t =>
  have e0 : ((c :: t : Str) == []) = false := rfl;have e1 : (c :: t).getD 0 0 = c := rfl;simp only [go_sem, ir184, e0, e1, t0', Nat.reduceAdd, Nat.reduceEqDiff, Nat.reduceBEq, Nat.reduceLeDiff, reduceCtorEq, ↓reduceIte];generalize hb : (c :: t : Str) = s at *;have hl : 0 < s.length := by rw [← hb]; simp
  have hlen : (t.length + 1 : Nat) = s.length := by rw [← hb]; simp
  have hc0 : s.getD 0 0 = c := by rw [← hb]; rfl
  have e0' : (s == []) = false := by rw [← hb]; rfl
  rw [hlen];refine scQ_pure (decide ((c.toNat : Int) < 97)) (fun _ => ?_) ?_
  ·simp only [go_sem, t0', hc0, Nat.reduceAdd, Nat.reduceEqDiff, Nat.reduceBEq, Nat.reduceLeDiff, reduceCtorEq, ↓reduceIte];omega
  refine zz ?_;refine scQ_pure (decide ((c.toNat : Int) > 122)) (fun _ => ?_) ?_
  ·simp only [go_sem, t0', hc0, Nat.reduceAdd, Nat.reduceEqDiff, Nat.reduceBEq, Nat.reduceLeDiff, reduceCtorEq, ↓reduceIte];omega
  refine zz ?_;refine ⟨fun h => ?_, fun h => ?_⟩
  ·have : nameS s = false := by unfold nameS; rw [e0', hc0, Bool.false_or, h]; rfl
   rw [this]
  have hn : nameS s = s.all nameC := by unfold nameS; rw [e0', hc0, Bool.false_or, h]; rfl
  rw [hn];refine zz4 ?_;refine wpc_loop (fun n st => ∃ k : Nat, k ≤ s.length ∧ n = s.length - k ∧ s.all nameC = (s.drop k).all nameC ∧
   st = ⟨[(23, .d (.list 1 (s.map fun b => .int .u8 b.toNat))), (24, .d (.int .i64 s.length)), (25, .d (.int .i64 k))], []⟩) ?_ ?_
  ·exact ⟨_, _, Wk.refl _, 0, Nat.zero_le _, rfl, rfl, rfl⟩
  ·rintro n st ⟨k, hk, rfl, hinv, rfl⟩;by_cases hlt : k < s.length
   ·have hd := dT hlt;have hg : nth (s.map fun b => Dat.int .u8 b.toNat) k = .int .u8 s[k].toNat := by rw [nth_eq (sX hlt)]; simp
    rw [List.drop_eq_getElem_cons hlt, List.all_cons] at hinv;simp only [go_sem, hd, hg, Int.toNat_natCast, List.length_map, Nat.reduceAdd, Nat.reduceEqDiff, Nat.reduceBEq, Nat.reduceLeDiff, reduceCtorEq, ↓reduceIte];generalize hx : (s[k].toNat : Int) = x at *;refine ⟨oM, oM, ?_⟩;refine scQ_pure (decide (x > 122)) (fun _ => ?_) ?_
    ·exact zz trivial
    refine zz ?_;refine scQ_pure (decide (x < 48) || decide (x > 57)) (fun _ => ?_) ?_
    ·refine zz ?_;refine scQ_pure (decide (x > 57)) (fun _ => ?_) ?_
     ·exact zz trivial
     exact zz trivial
    refine zz ?_;refine scQ_pure (x != 95) (fun _ => ?_) ?_
    ·exact zz trivial
    refine zz ?_;have hcx : nameC s[k] = !((decide (x < 97) || decide (x > 122)) && (decide (x < 48) || decide (x > 57)) && (x != 95)) := by rw [← hx]; rfl
    refine ⟨fun hf => ?_, fun hf => ?_⟩
    ·rw [hcx, hf, Bool.not_true, Bool.false_and] at hinv;rw [hinv]
    ·rw [hcx, hf, Bool.not_false, Bool.true_and] at hinv;refine ⟨s.length - (k + 1), _, oM, Wk.less ?_, k + 1, oM, rfl, hinv, rfl⟩;exact zz7 trivial
   ·have hd := dF hlt;obtain rfl : k = s.length := oM;rw [List.drop_length, List.all_nil] at hinv;simp only [go_sem, hd, hinv, Nat.reduceAdd, Nat.reduceEqDiff, Nat.reduceBEq, Nat.reduceLeDiff, reduceCtorEq, ↓reduceIte]
structure Part where
 kind : Int
 index : Int
 name : Str
def encP (p : Part) : Dat := .agg [.int .i64 p.kind, .int .i64 p.index, .str p.name]
end Go.Proofs
namespace Go.Proofs
open Go.Shelf
def Tryz.laysM171_ren : Go.Shelf.Ren := ⟨fun | 171 => 26 | 243 => 49 | 246 => 77 | 283 => 139 | 284 => 140 | 285 => 141 | 286 => 142 | 129 => 230 | 317 => 229 | 318 => 231 | 319 => 232 | 320 => 233 | 337 => 295 | 338 => 296 | n => n, fun | 3 => 3 | 9 => 9 | 2 => 2 | 4 => 4 | 171 => 205 | 0 => 0 | 53 => 206 | 37 => 87 | 5 => 5 | 173 => 209 | 212 => 279 | 51 => 268 | 20 => 20 | 213 => 280 | 46 => 180 | 232 => 374 | 233 => 375 | n => n, fun | 17 => 0 | 18 => 4 | 19 => 5 | n => n⟩
theorem Tryz.laysM171 : Go.Proofs.LaysM.n171 Tryz.prog Tryz.laysM171_ren := {
 mixed := kR
 f129 := Tryz.func230.trans (congrArg some kR)
 f171 := Tryz.func26.trans (congrArg some kR)
 f243 := Tryz.func49.trans (congrArg some kR)
 f246 := Tryz.func77.trans (congrArg some kR)
 f283 := Tryz.func139.trans (congrArg some kR)
 f284 := Tryz.func140.trans (congrArg some kR)
 f285 := Tryz.func141.trans (congrArg some kR)
 f286 := Tryz.func142.trans (congrArg some kR)
 f317 := Tryz.func229.trans (congrArg some kR)
 f318 := Tryz.func231.trans (congrArg some kR)
 f319 := Tryz.func232.trans (congrArg some kR)
 f320 := Tryz.func233.trans (congrArg some kR)
 f337 := Tryz.func295.trans (congrArg some kR)
 f338 := Tryz.func296.trans (congrArg some kR)
 t0 := Tryz.underlying0
 a0 := Tryz.isAgg0
 z0 := Tryz.sizeOf0
 v0 := Tryz.zeroValue0
 t2 := Tryz.underlying2
 a2 := Tryz.isAgg2
 z2 := Tryz.sizeOf2
 v2 := Tryz.zeroValue2
 t3 := Tryz.underlying3
 a3 := Tryz.isAgg3
 z3 := Tryz.sizeOf3
 v3 := Tryz.zeroValue3
 t4 := Tryz.underlying4
 a4 := Tryz.isAgg4
 z4 := Tryz.sizeOf4
 v4 := Tryz.zeroValue4
 t5 := Tryz.underlying5
 a5 := Tryz.isAgg5
 z5 := Tryz.sizeOf5
 v5 := Tryz.zeroValue5
 t9 := Tryz.underlying9
 a9 := Tryz.isAgg9
 z9 := Tryz.sizeOf9
 v9 := Tryz.zeroValue9
 t20 := Tryz.underlying20
 a20 := Tryz.isAgg20
 z20 := Tryz.sizeOf20
 v20 := Tryz.zeroValue20
 t37 := Tryz.underlying87
 a37 := Tryz.isAgg87
 z37 := Tryz.sizeOf87
 v37 := Tryz.zeroValue87
 t46 := Tryz.underlying180
 a46 := Tryz.isAgg180
 z46 := Tryz.sizeOf180
 v46 := Tryz.zeroValue180
 t51 := Tryz.underlying268
 a51 := Tryz.isAgg268
 z51 := Tryz.sizeOf268
 v51 := Tryz.zeroValue268
 t53 := Tryz.underlying206
 a53 := Tryz.isAgg206
 z53 := Tryz.sizeOf206
 v53 := Tryz.zeroValue206
 t171 := Tryz.underlying205
 a171 := Tryz.isAgg205
 z171 := Tryz.sizeOf205
 v171 := Tryz.zeroValue205
 t173 := Tryz.underlying209
 a173 := Tryz.isAgg209
 z173 := Tryz.sizeOf209
 v173 := Tryz.zeroValue209
 t212 := Tryz.underlying279
 a212 := Tryz.isAgg279
 z212 := Tryz.sizeOf279
 v212 := Tryz.zeroValue279
 t213 := Tryz.underlying280
 a213 := Tryz.isAgg280
 z213 := Tryz.sizeOf280
 t232 := Tryz.underlying374
 a232 := Tryz.isAgg374
 z232 := Tryz.sizeOf374
 v232 := Tryz.zeroValue374
 t233 := Tryz.underlying375
 a233 := Tryz.isAgg375
 z233 := Tryz.sizeOf375
 v233 := Tryz.zeroValue375
 g17 := kR
 g18 := kR
 g19 := kR
 i0 := kR
 i2 := kR
 i3 := kR
 i4 := kR
 i5 := kR
 i9 := kR
 i20 := kR
 i37 := kR
 i46 := kR
 i51 := kR
 i53 := kR
 i171 := kR
 i173 := kR
 i212 := kR
 i232 := kR
 i233 := kR
 m17 := kR
 m18 := kR
 m19 := by kernel_rfl }
end Go.Proofs
namespace Av
open Go Go.RowKit
variable [Glb] [Rls]
theorem CallOK.of_calls {P : Program} {f : Nat} {ds : List Dat} {v : Av} (hh : Has P f)
  (h : ∀ (A : Nat → Prop) (w : World) (vs : Array Value), ds.length = vs.size → (∀ (i : Nat) d u, ds[i]? = some d → vs[i]? = some u → Rep A w d u) →
   Calls P f vs w fun e w' => ∃ u, e = .returned u ∧ Below w.heap.size w w' ∧ ∀ β H, VRep β (fun b => A b) w' H v u) : CallOK P f (ds.map .d) [] v [] := by
 intro β A w H vs _ hc hvs;have hl : ds.length = vs.size := sX hvs.1;refine .inl ⟨hh, (h A w vs hl ?_).mono ?_⟩
 ·intro i d u hd hu;have := hvs.2 i (.d d) u (by rw [List.getElem?_map, hd]; rfl) hu;exact this.of_d
 ·rintro e w' ⟨u, rfl, hb, hr⟩;refine ⟨u, rfl, β, A, ?_, hr β _⟩;exact Stp.new hc hb.os hb.tape hb.output hb.size hb.block (fun _ h => h) (fun _ h => .inl h) (fun b hA => Nat.lt_of_lt_of_le (hc.old b hA) hb.size)
theorem CallOK.of_callsG {P : Program} {f : Nat} {ds : List Dat} {v : Av} (hh : Has P f)
  (h : ∀ (A : Nat → Prop) (w : World) (vs : Array Value), (∀ g cs, globOf g = some cs → GRep A w g cs) → ds.length = vs.size → (∀ (i : Nat) d u, ds[i]? = some d → vs[i]? = some u → Rep A w d u) →
   Calls P f vs w fun e w' => ∃ u, e = .returned u ∧ Below w.heap.size w w' ∧ ∀ β H, VRep β (fun b => A b) w' H v u) : CallOK P f (ds.map .d) [] v [] := by
 intro β A w H vs _ hc hvs;have hl : ds.length = vs.size := sX hvs.1;refine .inl ⟨hh, (h A w vs hc.glob hl ?_).mono ?_⟩
 ·intro i d u hd hu;have := hvs.2 i (.d d) u (by rw [List.getElem?_map, hd]; rfl) hu;exact this.of_d
 ·rintro e w' ⟨u, rfl, hb, hr⟩;refine ⟨u, rfl, β, A, ?_, hr β _⟩;exact Stp.new hc hb.os hb.tape hb.output hb.size hb.block (fun _ h => h) (fun _ h => .inl h) (fun b hA => Nat.lt_of_lt_of_le (hc.old b hA) hb.size)
end Av
namespace Go.Proofs
open Go Av Go.RowKit
theorem hasT {f : Nat} {fn : Func} (h : Tryz.prog.funcs[f]? = some fn) (h1 : fn.body.isSome = true) (h2 : (fn.name == "runtime.NumGoroutine") = false) : Has Tryz.prog f := ⟨fn, h, h1, h2⟩
theorem one_arg {vs : Array Value} (h : 1 = vs.size) : ∃ x, vs = #[x] := by
 refine ⟨vs[0], ?_⟩;apply Array.ext
 ·simp [← h]
 ·intro i h1 h2;have : i = 0 := oM;subst this; rfl
theorem tabI {A : Nat → Prop} {w : World} (hg : ∀ g cs, globOf g = some cs → GRep A w g cs) : Lib.TabIs Tryz.prog w "internal/strconv.uint64pow10" .u64 Lib.pow10Tab := by
 obtain ⟨h0, C, T, fr, h1, h2, h3, h4⟩ := hg 0 tab3 rfl;have hn : Tryz.prog.globalNamed "internal/strconv.uint64pow10" = some 0 := kR;unfold Lib.TabIs World.var?;rw [hn];simp only [Option.bind_some, h1, Option.some.injEq];have hlen : tab3.length = 20 := by simp [tab3]
 apply Array.ext
 ·rw [← h2, hlen]; simp [Lib.pow10Tab]
 ·intro i hi hi';have hi20 : i < 20 := by rw [← h2, hlen] at hi; exact hi
  have e1 : tab3[i]? = some (.int .u64 ((10 ^ i : Nat) : Int)) := by simp [tab3, hi20]
  have := h4 i _ C[i] e1 sP;generalize C[i] = v at this;cases this;simp [Lib.pow10Tab]
theorem call26 (n : Int) (h0 : -9223372036854775808 ≤ n) (h1 : n ≤ 9223372036854775807) : CT 26 [.d (.int .i64 n)] [] (.d (.str (Lib.itoa n))) [] := by
 refine CallOK.of_callsG (ds := [.int .i64 n]) (hasT Tryz.func26 kR kR) ?_;intro A w vs hg hl hv;obtain ⟨x, rfl⟩ := one_arg hl;have hx := hv 0 _ x rfl rfl;cases hx with
 | int =>
  refine (Any.strconv_Itoa Tryz.laysM171 n h0 h1 w (tabI hg)).mono ?_;rintro e w' ⟨rfl, k, os, rfl⟩;refine ⟨_, rfl, ?_, fun β H => .d _ _ (.str _ ?_)⟩
  ·refine ⟨rfl, rfl, rfl, by simp [Sort.grow], fun i hi => ?_⟩;show ((w.drewN k).heap ++ os)[i]? = _;rw [Array.getElem?_append_left (by show i < w.heap.size; omega)];rfl
  ·have := Lib.itoa_length_le n h0 h1;omega
end Go.Proofs
namespace Go.Proofs
open Go Av
theorem Con.rl {P : Program} {f : Nat} {ds cs : List Dat} {r : Dat} (h : Con P f (ds.map .d ++ [.ref 1000 0]) [(1000, .box (cs.map .d))] (.d r) []) (i : Nat) :
  CallOK P f (ds.map .d ++ [.ref i 0]) [(i, some (.box (cs.map .d)))] (.d r) [] := by
 have h1 : ∀ j, (get [(1000, Obj.box (cs.map .d))] j).isSome = true → j = 1000 := by
  intro j hj;simp only [Av.get] at hj;split at hj
  ·rename_i e; exact e.symm
  ·cases hj
 have := h.call (fun _ => i) (fun j hj => by rw [h1 j hj]; decide) (fun a b ha hb _ => by rw [h1 a ha, h1 b hb]) ?_ (closed_box _ _) [] sP (closed_box _ _) trivial
 ·have e : (ds.map Av.d).map (Av.ren fun _ => i) = ds.map Av.d := by
   rw [List.map_map]; exact List.map_congr_left fun x _ => by simp [Av.ren]
  simpa [Av.ren, Obj.ren, renL_d, e] using this
 ·intro c hc;rcases List.mem_append.1 hc with hc | hc
  ·obtain ⟨x, _, rfl⟩ := List.mem_map.1 hc; trivial
  ·rw [List.mem_singleton.1 hc]; rfl
theorem canonL_parts (l : List Part) : canonL (l.map encP) = l.map encP := by
 rw [canonL_map, List.map_map];exact List.map_congr_left fun p _ => by simp [encP, Dat.canon, canonL]
attribute [go_sem] canonL_parts
theorem step70 (a : Val) (ha : a.list.length ≤ 68719476736) (ha2 : a.fields.length ≤ 68719476736) (h1 : ∀ x ∈ a.list, CT 70 [.d (encV x)] [] (.d (encV x)) []) (h2 : ∀ x ∈ a.fields, CT 70 [.d (encV x.value)] [] (.d (encV x.value)) []) :
  PT 70 [encV a] (.d (encV a)) := by
 refine ok70.pc ?_;rw [encV_eq];simp only [go_sem, ir70, simprocAttr];refine wpc_loop (fun n s => ∃ k : Nat, k ≤ a.list.length ∧ n = a.list.length - k ∧
  s = ⟨[(1, .ref 1 0), (2, .ref 2 0), (3, .ref 3 0), (12, .d (.list 6 (a.list.map encV))), (13, .d (.int .i64 a.list.length)), (14, .d (.int .i64 k))],
   [(1, .box [.d (.int .i64 a.kind), .d (.int .i64 a.int), .d (.int .i64 a.scale), .d (.str a.text), .d (.list 6 (a.list.map encV)), .d (.list 7 (a.fields.map encF))]),
    (2, .box [.d (.int .i64 0), .d (.int .i64 0), .d (.int .i64 0), .d (.str []), .d (.nil 6), .d (.nil 7)]),
    (3, .box [.d (.int .i64 a.kind), .d (.int .i64 a.int), .d (.int .i64 a.scale), .d (.str a.text), .ms 23 k, .d (.nil 7)]),
    (23, .row k 6 ((a.list.take k).map encV))]⟩) ?_ ?_
 ·refine ⟨_, _, Wk.nilB 3 4 23 6 _ rfl rfl rfl dC, 0, Nat.zero_le _, rfl, ?_⟩;simp [put]
 ·rintro n s ⟨k, hk, rfl, rfl⟩;by_cases hlt : k < a.list.length
  ·have hx := nth_encV hlt;have hd := dT hlt;refine zz20 ?_;have hc := h1 a.list[k] (List.getElem_mem _);rw [encV_eq] at hc;refine ⟨sO, wpsL_call rfl hc trivial ?_⟩;refine zz ?_;refine ⟨sP, sO, rfl, a.list.length - (k + 1), _, oM, Wk.less ?_, k + 1, oM, rfl, rfl⟩;rw [List.take_succ_eq_append_getElem hlt, List.map_append];simp only [go_sem, wrap64s k oM, List.map_cons, List.map_nil, encV_eq a.list[k], Nat.reduceAdd, Nat.reduceEqDiff, Nat.reduceBEq, Nat.reduceLeDiff, reduceCtorEq, ↓reduceIte]
  ·have hd := dF hlt;obtain rfl : k = a.list.length := oM;refine zz21 ?_;refine wpc_loop (fun n s => ∃ k : Nat, k ≤ a.fields.length ∧ n = a.fields.length - k ∧
    s = ⟨[(2, .ref 2 0), (3, .ref 3 0), (27, .d (.list 7 (a.fields.map encF))), (28, .d (.int .i64 a.fields.length)), (29, .d (.int .i64 k))],
     [(2, .box [.d (.int .i64 0), .d (.int .i64 0), .d (.int .i64 0), .d (.str []), .d (.nil 6), .d (.nil 7)]),
      (3, .box [.d (.int .i64 a.kind), .d (.int .i64 a.int), .d (.int .i64 a.scale), .d (.str a.text), .ms 23 a.list.length, .ms 42 k]),
      (23, .row a.list.length 6 (a.list.map encV)),
      (42, .row k 7 ((a.fields.take k).map encF))]⟩) ?_ ?_
   ·refine ⟨_, _, (Wk.nilB 3 5 42 7 _ rfl rfl rfl dC).trans (Wk.less ?_), 0, Nat.zero_le _, rfl, rfl⟩;simp [put, go_sem]
   ·rintro n s ⟨k, hk, rfl, rfl⟩;by_cases hlt : k < a.fields.length
    ·have hx := nth_encF hlt;have hd := dT hlt;have hc := h2 a.fields[k] (List.getElem_mem _);rw [encV_eq] at hc;refine zz20 ?_;refine ⟨sO, wpsL_call rfl hc trivial ?_⟩;refine zz ?_;refine ⟨sP, sO, rfl, a.fields.length - (k + 1), _, oM, Wk.less ?_, k + 1, oM, rfl, rfl⟩;rw [List.take_succ_eq_append_getElem hlt, List.map_append];simp only [go_sem, wrap64s k oM, List.map_cons, List.map_nil, encF_eq a.fields[k], Nat.reduceAdd, Nat.reduceEqDiff, Nat.reduceBEq, Nat.reduceLeDiff, reduceCtorEq, ↓reduceIte]
    ·have hd := dF hlt;obtain rfl : k = a.fields.length := oM;exact zz21 trivial
mutual
theorem walk70 : ∀ (a : Val), okV a → PT 70 [encV a] (.d (encV a))
 | .mk k i s t l f, ha => by
  simp only [okV] at ha;obtain ⟨a1, a2, a3, a4⟩ := ha;exact step70 _ a1 a2 (fun x hx => (walk70s l a3 x hx).call trivial) (fun x hx => (walk70f f a4 x hx).call trivial)
theorem walk70s : ∀ (l : List Val), okVs l → ∀ x ∈ l, PT 70 [encV x] (.d (encV x))
 | [], _, x, h => by cases h
 | v :: r, ho, x, h => by
  simp only [okVs] at ho;by_cases e : x = v
  ·rw [e]; exact walk70 v ho.1
  ·exact walk70s r ho.2 x ((List.mem_cons.1 h).resolve_left e)
theorem walk70f : ∀ (l : List Fld), okFs l → ∀ x ∈ l, PT 70 [encV x.value] (.d (encV x.value))
 | [], _, x, h => by cases h
 | .mk n v :: r, ho, x, h => by
  simp only [okFs, okF] at ho;by_cases e : x = .mk n v
  ·rw [e]; exact walk70 v ho.1
  ·exact walk70f r ho.2 x ((List.mem_cons.1 h).resolve_left e)
end
end Go.Proofs
namespace Go.Proofs
open Go Av
open Av.Y
def ir282 : Ic := q (R (ox 2 0<|ox 3 1<|oz 4 0<|N) [0,1,4])<|q (R (of 5 2 5<|ol 6 5<|oo 7 (.fnv (.func 334) [] [t 3])<|cl 8 224 [t 6,t 7]<|om 4 8<|N) [2,3,5,6,7,8])<|.ret
theorem ok282 : FT 282 9 ir282 [.tmp 4] := .o Tryz.func282
def ir334 : Ic := q (R (ox 2 0<|ow 3 false<|N) [0,3])<|q (R (of 4 2 0<|ol 5 4<|ol 6 1<|ot 7 .seq 5 6<|om 3 7<|N) [2,4,5,6,7])<|.ret
theorem ok334 : FT 334 8 ir334 [.tmp 3] := .o Tryz.func334
def ir224 : Ic := q (R (oz 4 0<|N) [4])<|q (q (R (om 6 0<|oh 7 6<|oz 8 0<|N) [6])<|D (.block 0<|.loop (q (.reg (ot 9 .lss 8 7<|N))<|q (D (I 9 S (E 0)) [9])<|q (D (.block 1<|q (R (om 10 8<|om 5 10<|N) [10])<|q (R (om 11 1<|om 12 0<|om 13 5<|oa true 14 7 12 13<|oL 15 7 14<|.call (some 16) (.dyn (t 11)) [t 15] N) [11,12,13,14,15])<|D (I 16 (q (R (om 17 5<|om 4 17<|N) [0,1,7,8,5,16,17])<|.ret) S) [5,16]) [])<|R (oi 18 .add 8 1<|om 8 18<|N) [18])) [0,1,7,8,9,10,5,11])<|q (.reg (oz 4 (-1)<|N))<|.ret
theorem ok224 : FT 224 19 ir224 [.tmp 4] := .o Tryz.func224
def ir218 : Ic := q (R (ox 2 0<|oN 4 v6<|ow 5 false<|N) [0,5])<|q (R (oL 7 6 2<|om 8 1<|cl 9 282 [t 7,t 8]<|om 6 9<|N) [1,7,8,9])<|q (q (R (of 10 2 0<|ol 11 10<|oi 12 .neq 11 9<|om 13 12<|.sc 13 false (om 14 6<|oi 15 .lss 14 0<|N) (t 15) 16 N) [10,11,12,13])<|D (I 16 (q (R (oo 17 (.bld v6 [])<|oS 6 4 17<|ow 5 false<|N) [2,6,16,17])<|.ret) S) [16])<|q (R (of 18 2 5<|ol 19 18<|om 20 6<|oa true 21 7 19 20<|of 22 21 1<|oL 23 6 22<|cl 24 70 [t 23]<|oS 6 4 24<|ow 5 true<|N) [2,6,18,19,20,21,22,23,24])<|.ret
theorem ok218 : FT 218 25 ir218 [.cell 4 (some 6), .tmp 5] := .o Tryz.func218
def ir216 : Ic := q (R (ox 2 0<|ox 3 1<|oN 4 vG<|ow 5 false<|N) [0,1,5])<|q (R (oL 6 7 2<|oo 7 (.fnv (.func 281) [] [t 3])<|cl 8 280 [t 6,t 7]<|oe 9 8 0<|oe 10 8 1<|oS 11 4 9<|om 5 10<|N) [2,3,6,7,8,9,10])<|.ret
theorem ok216 : FT 216 11 ir216 [.cell 4 (some 11), .tmp 5] := .o Tryz.func216
def ir280 : Ic := q (R (ox 2 0<|oN 4 vG<|ow 5 false<|N) [0,5])<|q (q (R (of 7 2 0<|ol 8 7<|oi 9 .neq 8 9<|om 10 9<|.sc 10 true (of 11 2 0<|ol 12 11<|oi 13 .neq 12 10<|N) (t 13) 14 N) [7,8,9,10])<|D (I 14 (q (R (oo 15 (.bld vG [])<|oS 11 4 15<|ow 5 false<|N) [1,2,14,15])<|.ret) S) [14])<|q (R (of 16 2 6<|ol 17 16<|om 18 1<|cl 19 263 [t 17,t 18]<|om 6 19<|N) [1,16,17,18,19])<|q (q (R (om 20 6<|oi 21 .lss 20 0<|N) [20])<|D (I 21 (q (R (oo 22 (.bld vG [])<|oS 11 4 22<|ow 5 false<|N) [2,6,21,22])<|.ret) S) [21])<|q (R (of 23 2 6<|ol 24 23<|om 25 6<|oa true 26 11 24 25<|oL 27 11 26<|cl 28 75 [t 27]<|oS 11 4 28<|ow 5 true<|N) [2,6,23,24,25,26,27,28])<|.ret
theorem ok280 : FT 280 29 ir280 [.cell 4 (some 11), .tmp 5] := .o Tryz.func280
def ir281 : Ic := q (R (ox 2 0<|ow 3 false<|N) [0,3])<|q (R (of 4 2 1<|ol 5 4<|ol 6 1<|ot 7 .seq 5 6<|om 3 7<|N) [2,4,5,6,7])<|.ret
theorem ok281 : FT 281 8 ir281 [.tmp 3] := .o Tryz.func281
end Go.Proofs
namespace Av
open Go
variable {P : Program} {f : Nat}
mutual
def fits : Dat → Prop
 | .str s => s.length ≤ 68719476736
 | .int k n => k.min ≤ n ∧ n ≤ k.max
 | .list _ xs => xs.length ≤ 68719476736 ∧ fitsL xs
 | .agg cs => fitsL cs
 | .ptr cs => fitsL cs
 | .iface _ d => fits d
 | _ => True
def fitsL : List Dat → Prop
 | [] => True
 | x :: r => fits x ∧ fitsL r
end
theorem fitsL_iff : ∀ {l : List Dat}, fitsL l ↔ ∀ x ∈ l, fits x
 | [] => by simp [fitsL]
 | x :: r => by simp [fitsL, fitsL_iff (l := r)]
theorem fits_cells {x : Dat} (h : ∀ c ∈ x.cells, fits c) : fits x := by
 cases x with
 | agg cs => simp only [fits]; exact fitsL_iff.2 h
 | _ => exact h _ (by simp [Dat.cells])
theorem Rep.fits {A : Nat → Prop} {w : World} {x : Dat} {v : Value} (h : Rep A w x v) : Av.fits x := by
 induction h with
 | str s h => exact h
 | int k n h => exact h
 | emp sz a cap => simp [Av.fits, fitsL]
 | list sz xs b o n cap vs hn hAb hl hc h1 hsz hh hvl hv ih =>
  refine ⟨hc, fitsL_iff.2 fun x hx => fits_cells fun c hc' => ?_⟩;have hm : c ∈ flat xs := List.mem_flatMap.2 ⟨x, hx, hc'⟩;obtain ⟨i, hi, rfl⟩ := List.getElem_of_mem hm;exact ih i _ _ (List.getElem?_eq_getElem hi) (List.getElem?_eq_getElem oM)
 | agg cs arr hl h1 hv ih =>
  simp only [Av.fits];refine fitsL_iff.2 fun c hc => ?_
  obtain ⟨i, hi, rfl⟩ := List.getElem_of_mem hc;exact ih i _ _ (List.getElem?_eq_getElem hi) (Array.getElem?_eq_getElem oM)
 | ptr cs b o vs hAb h1 hh hvl hv ih =>
  simp only [Av.fits];refine fitsL_iff.2 fun c hc => ?_
  obtain ⟨i, hi, rfl⟩ := List.getElem_of_mem hc;exact ih i _ _ (List.getElem?_eq_getElem hi) (List.getElem?_eq_getElem oM)
 | iface t x v h ih => exact ih
 | _ => trivial
variable [Glb] [Rls]
theorem PCon.of_fits {ds : List Dat} {v : Av} (hh : Has P f) (h : (∀ d ∈ ds, fits d) → PCon P f ds v) : PCon P f ds v := by
 refine ⟨hh, fun β A w vs hc hvs => (h fun d hd => ?_).2 β A w vs hc hvs⟩;obtain ⟨i, hi, rfl⟩ := List.getElem_of_mem hd;have hl : ds.length = vs.size := sX hvs.1;have := hvs.2 i (.d ds[i]) vs[i] (by simp [hi]) sP;exact this.of_d.fits
theorem Con.of_fits {args : List Av} {T : List (Nat × Obj)} {v : Av} {ups : List (Nat × Obj)} (hh : Has P f) (h : (∀ d, .d d ∈ args → fits d) → Con P f args T v ups) : Con P f args T v ups := by
 refine ⟨hh, fun β A w vs hc hvs => (h fun d hd => ?_).2 β A w vs hc hvs⟩;obtain ⟨i, hi, e⟩ := List.getElem_of_mem hd;have := hvs.2 i (.d d) (vs[i]'(by have := hvs.1; omega)) (by rw [← e]; simp) sP;exact this.of_d.fits
theorem FnOk.has {N : Nat} {ic : Ic} {ris : List RI} (h : FnOk P f N ic ris) : Has P f := by
 obtain ⟨fn, code, h1, h2, h3, _⟩ := h.ex;exact ⟨fn, h1, by rw [h2]; rfl, h3⟩
end Av
namespace Av
open Go Go.Sort Go.Proofs
variable [Glb] [Rls]
theorem flat_str (l : List (List UInt8)) : flat (l.map .str) = l.map .str := by
 induction l with
 | nil => rfl
 | cons x r ih => simp only [flat, List.map_cons, List.flatMap_cons, Dat.cells, List.singleton_append, List.cons.injEq, true_and]; exact ih
section
variable {β : Blocks} {A : Nat → Prop} {w : World} {H : Heap}
theorem size_one {vs : Array Value} (h : 1 = vs.size) : ∃ x, vs = #[x] := by
 refine ⟨vs[0], ?_⟩;apply Array.ext
 ·simp [← h]
 ·intro i h1 h2;have : i = 0 := oM;subst this;rfl
end
theorem Stp.nilB {β : Blocks} {A : Nat → Prop} {w : World} {H : Heap} (hc : Core β A w H) {b j k sz : Nat} {cs : List Av} (hb : H b = some (.box cs)) (hj : cs[j]? = some (.d (.nil sz))) (hk : H k = none) (hsz : 0 < sz) :
  ∃ β', Stp β A w H β' A w (upd (upd H k (some (.row 0 sz []))) b (some (.box (cs.set j (.ms k 0))))) := by
 have hne : b ≠ k := fun e => by subst e; rw [hk] at hb; cases hb
 have hst := Stp.rowNil (β := β) hc hk hsz;have hb1 : upd H k (some (.row 0 sz [])) b = some (.box cs) := by rw [upd_ne _ _ hne]; exact hb
 obtain ⟨bb, C, T, e1, e2, e3, e4, e5⟩ := hst.core.objs b _ hb1;have hset : w.setRow bb C = w := setRow_same e2;have hst2 := Stp.boxSet (cs' := cs.set j (.ms k 0)) (C' := C) hst.core hb1 e1 e2 (sX e3) e4 (fun hall i c v hc' hv' => by
  rw [List.getElem?_set] at hc';split at hc'
  ·rename_i e;subst e;split at hc'
   ·cases hc';obtain ⟨bb0, C0, T0, q1, q2, q3, q4, q5⟩ := hc.objs b _ hb;have hbb : bb0 = bb := by
     rw [upd_ne _ _ hne] at e1;rw [q1] at e1;exact Option.some.inj (BK.mk.inj e1).1
    subst hbb;rw [e2] at q2;cases q2;have hr := (q5 j _ v hj hv').of_d;exact hall _ _ (VRep.rowNil hr)
   ·cases hc'
  ·exact hall _ _ (e5 i c v hc' hv'))
 rw [hset] at hst2;exact ⟨_, hst.trans hst2⟩
end Av
namespace Av
open Go
variable [Glb] [Rls]
section
variable {β : Blocks} {A : Nat → Prop} {w : World} {H : Heap} {D : Nat → Prop}
end
end Av
namespace Av
open Go
variable [Glb] [Rls]
end Av
namespace Av
open Go
variable [Glb] [Rls]
theorem Wk.frzT {D : Nat → Prop} {st : St} (t i v sz : Nat) (xs : List Dat) (ht : get st.tm t = some (.ms i v)) (hi : get st.hp i = some (.row v sz xs)) : Wk D st ⟨put st.tm t (.d (.list sz xs)), put st.hp i (.frz v sz xs)⟩ := by
 refine Wk.of_stp ?_;intro β A w a hc htr;obtain ⟨u, q1, q2⟩ := htr t _ ht;have hd : datumAll (get st.hp) [.ms i v] = some (v = v ∧ True, [.list sz xs], [(i, .frz v sz xs)]) := by simp [datumAll, datum, datum1, hi]
 obtain ⟨A1, s1, l1, r1, m1⟩ := datumAll_ok hc hd ⟨rfl, trivial⟩ (us := [u]) rfl (fun k c u' h1 h2 => by
  cases k with
  | zero => simp at h1 h2; subst h1; subst h2; exact q2
  | succ k => simp at h1)
 have hh : get (put st.hp i (.frz v sz xs)) = hputs (get st.hp) [(i, .frz v sz xs)] := funext fun j => by rw [get_put]; rfl
 rw [hh];refine ⟨β, A1, s1, ?_⟩;intro t' v' hv;rw [get_put] at hv;split at hv
 ·rename_i e;subst e;cases hv;exact ⟨u, q1, .d _ _ (r1 0 _ u rfl rfl)⟩
 ·obtain ⟨u', g1, g2⟩ := htr t' v' hv;exact ⟨u', g1, s1.vals _ _ g2⟩
end Av
namespace Av
open Go
variable [Glb] [Rls]
abbrev cloD (g : Nat) (cs : List Dat) : Dat := .fn (.func g) [] [.ptr cs]
theorem allD_map (cs : List Dat) : allD (cs.map .d) = some cs := by
 induction cs with
 | nil => rfl
 | cons x r ih => simp only [List.map_cons, allD, ih]
theorem CallOK.clo {P : Program} {f g : Nat} {ds cs : List Dat} {r : Dat} (h : PCon P f (ds ++ [cloD g cs]) (.d r)) (hr : scalar r = true) (i : Nat) :
  CallOK P f (ds.map .d ++ [.clo (.func g) [] [.ref i 0]]) [(i, some (.box (cs.map .d)))] (.d r) [] := by
 intro β A w H vs hT hc hvs;have hi : H i = some (.box (cs.map .d)) := hT _ (List.mem_singleton.2 rfl);have st := Stp.freezeBox hc hi (allD_map cs);have hc0 : Core β (fun k => A k ∨ β i = some k) w (get []) := ⟨(by intro i o hi; cases hi), (by intro i j o o' b hi; cases hi), (by intro i o b hi; cases hi), st.core.old, st.core.glob⟩;refine .inl ⟨h.1, (h.2 β (fun k => A k ∨ β i = some k) w vs hc0 ⟨by have := hvs.1; simp at this ⊢; omega, ?_⟩).mono ?_⟩
 ·intro k c v h1 h2;rw [List.getElem?_map] at h1;cases e : (ds ++ [cloD g cs])[k]? with
  | none => simp [e] at h1
  | some x =>
   simp only [e, Option.map_some, Option.some.injEq] at h1;subst h1;refine .d _ _ ?_;by_cases hk : k < ds.length
   ·rw [List.getElem?_append_left hk] at e;have := hvs.2 k (.d x) v (by rw [List.getElem?_append_left (sX hk), List.getElem?_map, e]; rfl) h2;exact (st.vals _ _ this).of_d
   ·rw [List.getElem?_append_right oM] at e;have hk0 : k - ds.length = 0 := by
     rcases Nat.eq_zero_or_pos (k - ds.length) with h | h
     ·exact h
     ·rw [List.getElem?_eq_none sO] at e; cases e
    rw [hk0] at e;cases e;have hlen : (ds.map Av.d).length = ds.length := sP;have := hvs.2 k (.clo (.func g) [] [.ref i 0]) v (by rw [List.getElem?_append_right sO, hlen, hk0]; rfl) h2;have h3 := st.vals _ _ this;cases h3 with
    | clo _ _ _ a1 a2 l1 l2 hf hvv =>
     refine .fn _ _ _ a1 a2 l1 (sX l2) (by intro j c v hj; cases hj) ?_;intro j c v hj hjv
     match j, hj with
     | 0, hj =>
      cases hj;have hrf := hvv 0 _ v rfl hjv;cases hrf with
      | ref _ _ _ _ _ hu g0 g1 g2 =>
       have := g2 cs sU;simpa using this
     | j + 1, hj => cases hj
 ·rintro e w' ⟨v, β1, A1, rfl, hsince, hc1, hv⟩;obtain ⟨s1, s2, s3, s4, s5, sl, s6, s7, s8⟩ := hsince;dsimp only at s1 s2 s3 s4 s5 sl;have hsame : ∀ b, b < w.heap.size → w'.heap[b]? = w.heap[b]? := fun b hb => s5 b hb (by intro i o hi; cases hi)
  have hst : Stp β A w H β A w' H := Stp.new hc s1 s2 s3 s4 hsame (fun _ h => h) (fun _ h => .inl h) (fun b hb => by have := hc.old b hb; omega);exact ⟨v, rfl, β, A, hst, .d _ _ (hv.of_d.scalar hr)⟩
end Av
namespace Go.Proofs
open Go Av
def ixF (q : Fld → Bool) (l : List Fld) : Int := match l.findIdx? q with
 | some k => (k : Int)
 | none => -1
theorem walk224 {g : Nat} {cs : List Dat} {q : Fld → Bool} (hq : ∀ x, PT g [encF x, .ptr cs] (.d (.bool (q x)))) (l : List Fld) (hl : l.length ≤ 68719476736) :
  PT 224 [.list 7 (l.map encF), cloD g cs] (.d (.int .i64 (ixF q l))) := by
 refine ok224.pc ?_;simp only [go_sem, ir224, List.length_map, simprocAttr];refine wpc_loop (fun n s => ∃ k : Nat, k ≤ l.length ∧ n = l.length - k ∧ (∀ (j : Nat) (h1 : j < l.length), j < k → q l[j] = false) ∧
  s = ⟨[(0, .d (.list 7 (l.map encF))), (1, .d (cloD g cs)), (7, .d (.int .i64 l.length)), (8, .d (.int .i64 k))], []⟩) ?_ ?_
 ·exact ⟨_, _, Wk.refl _, 0, Nat.zero_le _, rfl, sP, rfl⟩
 ·rintro n s ⟨k, hk, rfl, hinv, rfl⟩;by_cases hlt : k < l.length
  ·have hx := nth_encF hlt;have hd := dT hlt;have hc := (hq l[k]).call trivial;rw [encF_eq] at hc;refine zz6 ?_;refine ⟨oM, wn hc ?_⟩;refine zz ?_;apply ik <;> intro hf
   ·have : l.findIdx? q = some k := by
     rw [List.findIdx?_eq_some_iff_getElem];exact ⟨hlt, hf, fun j hj => by rw [hinv j oM hj]; decide⟩
    simp only [ixF, this]
   ·refine ⟨l.length - (k + 1), _, oM, Wk.less ?_, k + 1, oM, rfl, ?_, rfl⟩
    ·exact zz7 trivial
    ·intro j h1 hj;by_cases e : j = k
     ·subst e; exact hf
     ·exact hinv j h1 oM
  ·have hd := dF hlt;refine zz5 ?_;have : l.findIdx? q = none := by
    rw [List.findIdx?_eq_none_iff];intro x hx;obtain ⟨j, hj, rfl⟩ := List.getElem_of_mem hx;exact hinv j hj oM
   simp only [ixF, this]
theorem ixF_bd {q : Fld → Bool} {l : List Fld} : -1 ≤ ixF q l ∧ ixF q l < l.length := by
 unfold ixF;cases e : l.findIdx? q with
 | none => simp only; omega
 | some k =>
  obtain ⟨h, _⟩ := List.findIdx?_eq_some_iff_getElem.1 e;simp only; omega
theorem walk334 (x : Fld) (n : Str) : PT 334 [encF x, .ptr [.str n]] (.d (.bool (x.name == n))) := by
 refine ok334.pc ?_;rw [encF_eq];simp only [go_sem, ir334, Nat.reduceAdd, Nat.reduceEqDiff, Nat.reduceBEq, Nat.reduceLeDiff, reduceCtorEq, ↓reduceIte];exact Nat.one_pos
def ixN (n : Str) (l : List Fld) : Int := ixF (fun f => f.name == n) l
theorem walk282 (v : Val) (n : Str) (hl : v.fields.length ≤ 68719476736) : PT 282 [encV v, .str n] (.d (.int .i64 (ixN n v.fields))) := by
 refine ok282.pc ?_;have hc := CallOK.clo (ds := [.list 7 (v.fields.map encF)]) (walk224 (fun x => walk334 x n) v.fields hl) rfl 3;simp only [List.map_cons, List.map_nil, List.cons_append, List.nil_append] at hc;rw [encV_eq];simp only [go_sem, ir282, simprocAttr];refine wn hc ?_;simp only [go_sem, ixN, simprocAttr]
theorem nameS_len {s : Str} (h : nameS s = true) : s.length ≤ 32 := by
 simp only [nameS, Bool.and_eq_true, Bool.not_eq_true', Bool.or_eq_false_iff, decide_eq_false_iff_not] at h;omega
mutual
def szV : Val → Nat
 | .mk _ _ _ _ l f => 1 + szVs l + szFs f
def szVs : List Val → Nat
 | [] => 0
 | v :: r => szV v + szVs r
def szFs : List Fld → Nat
 | [] => 0
 | .mk _ v :: r => szV v + szFs r
end
theorem szV_eq (v : Val) : szV v = 1 + szVs v.list + szFs v.fields := by cases v; rfl
theorem szVs_mem : ∀ {l : List Val} {x : Val}, x ∈ l → szV x ≤ szVs l
 | v :: r, x, h => by
  rcases List.mem_cons.1 h with rfl | h
  ·simp only [szVs]; omega
  ·have := szVs_mem h;simp only [szVs]; omega
end Go.Proofs
namespace Go.Proofs
open Go Av
open Go.Proofs.YtolggmphlbmlkaaGreatDoor.Rows (uptoBulk uptoBulkAll)
theorem c3 : Tryz.prog.cellsOf 3 = 1 := kR
theorem c9 : Tryz.prog.cellsOf 9 = 1 := kR
theorem cOLD31 : Tryz.prog.cellsOf 34 = 1 := kR
theorem cOLD27 : Tryz.prog.cellsOf 35 = 1 := kR
theorem c342 : Tryz.prog.cellsOf 37 = 6 := kR
theorem c131 : Tryz.prog.cellsOf 130 = 7 := kR
theorem okVs_of : ∀ {l : List Val}, (∀ a ∈ l, okV a) → okVs l
 | [], _ => by simp [okVs]
 | v :: r, h => by simp only [okVs]; exact ⟨h v List.mem_cons_self, okVs_of fun a ha => h a (List.mem_cons_of_mem _ ha)⟩
theorem okFs_of : ∀ {l : List Fld}, (∀ a ∈ l, okF a) → okFs l
 | [], _ => by simp [okFs]
 | v :: r, h => by simp only [okFs]; exact ⟨h v List.mem_cons_self, okFs_of fun a ha => h a (List.mem_cons_of_mem _ ha)⟩
section
variable {H : Type} {enc : TypeId × Value → H} {w : World} {base : Nat} {spare : Nat → Bool} {held : Bool}
theorem fld {fs : Array Field} {n : Nat} {cs : List Value} {xs : List (DataW H × List MemPlace)}
  (hf : ∀ (i : Nat) (f : Field), fs[i]? = some f → DataW.trod enc Tryz.prog w base spare held n f.type ((cs.drop f.offset).take (Tryz.prog.cellsOf f.type)) = xs[i]?)
  (i : Nat) (t off : Nat) {k : Nat} (hi : (fs[i]?).map (fun f => (f.type, f.offset)) = some (t, off)) (hc : Tryz.prog.cellsOf t = k) : DataW.trod enc Tryz.prog w base spare held n t ((cs.drop off).take k) = xs[i]? := by
 cases e : fs[i]? with
 | none => rw [e] at hi; cases hi
 | some f =>
  rw [e] at hi;simp only [Option.map_some, Option.some.injEq, Prod.mk.injEq] at hi;have := hf i f e;rw [hi.1, hi.2, hc] at this;exact this
theorem encV_len (a : Val) : (encV a).cells.length = 6 := by rw [encV_eq]; rfl
theorem encF_len (a : Fld) : (encF a).cells.length = 7 := by rw [encF_eq]; rfl
theorem szVs_sum : ∀ l : List Val, szVs l = (l.map szV).sum
 | [] => rfl
 | v :: r => by simp only [szVs, List.map_cons, List.sum_cons, szVs_sum r]
theorem szFs_sum : ∀ l : List Fld, szFs l = (l.map fun f => szV f.value).sum
 | [] => rfl
 | .mk n v :: r => by simp only [szFs, List.map_cons, List.sum_cons, szFs_sum r]; rfl
end
end Go.Proofs
namespace Go.Proofs
open Go.Shelf
def Tryz.laysValid_ren : Go.Shelf.Ren := ⟨fun | 196 => 271 | 259 => 333 | n => n, fun | 9 => 9 | 4 => 4 | 3 => 3 | 5 => 5 | 12 => 12 | 119 => 365 | 0 => 0 | 46 => 180 | 139 => 368 | 138 => 367 | 53 => 206 | n => n, fun | 3 => 2 | 4 => 3 | n => n⟩
theorem Tryz.laysValid : Go.Proofs.Lays.n196 Tryz.prog Tryz.laysValid_ren := {
 mixed := kR
 f196 := Tryz.func271.trans (congrArg some kR)
 f259 := Tryz.func333.trans (congrArg some kR)
 t0 := Tryz.underlying0
 a0 := Tryz.isAgg0
 z0 := Tryz.sizeOf0
 v0 := Tryz.zeroValue0
 t3 := Tryz.underlying3
 a3 := Tryz.isAgg3
 z3 := Tryz.sizeOf3
 v3 := Tryz.zeroValue3
 t4 := Tryz.underlying4
 a4 := Tryz.isAgg4
 z4 := Tryz.sizeOf4
 v4 := Tryz.zeroValue4
 t5 := Tryz.underlying5
 a5 := Tryz.isAgg5
 z5 := Tryz.sizeOf5
 v5 := Tryz.zeroValue5
 t9 := Tryz.underlying9
 a9 := Tryz.isAgg9
 z9 := Tryz.sizeOf9
 v9 := Tryz.zeroValue9
 t12 := Tryz.underlying12
 a12 := Tryz.isAgg12
 z12 := Tryz.sizeOf12
 v12 := Tryz.zeroValue12
 t46 := Tryz.underlying180
 a46 := Tryz.isAgg180
 z46 := Tryz.sizeOf180
 v46 := Tryz.zeroValue180
 t53 := Tryz.underlying206
 a53 := Tryz.isAgg206
 z53 := Tryz.sizeOf206
 v53 := Tryz.zeroValue206
 t119 := Tryz.underlying365
 a119 := Tryz.isAgg365
 z119 := Tryz.sizeOf365
 t138 := Tryz.underlying367
 a138 := Tryz.isAgg367
 z138 := Tryz.sizeOf367
 v138 := Tryz.zeroValue367
 t139 := Tryz.underlying368
 a139 := Tryz.isAgg368
 z139 := Tryz.sizeOf368
 v139 := Tryz.zeroValue368
 g3 := kR
 g4 := by kernel_rfl }
end Go.Proofs
