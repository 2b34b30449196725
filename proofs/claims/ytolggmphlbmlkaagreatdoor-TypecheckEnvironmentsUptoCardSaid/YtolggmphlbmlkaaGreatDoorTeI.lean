/- Part I of a proof. -/
import Derived.Test.YtolggmphlbmlkaaGreatDoorTeD
import Derived.Test.YtolggmphlbmlkaaGreatDoorTeA
import Derived.Test.YtolggmphlbmlkaaGreatDoorTeE
import Derived.Test.YtolggmphlbmlkaaGreatDoorProg
import Derived.Shelf.Strings.BuilderK
import Derived.Shelf.Strings.BuilderRune
import Derived.Shelf.Strings.Repeat
import Derived.Shelf.Unicode.DecodeAny
import Derived.Ground.Names2Prog
import Derived.Shelf.SlGeneric
import Derived.Shelf.Sort.Plain
import Derived.Shelf.Slices.In.SortNone
import Derived.Shelf.Slices.CompactS
import Derived.Lib.RuneLoops
import Derived.WalkKit
import Derived.Laws.CopyRow
import Derived.Shelf.Spec.SlicesInsertGrow
import Derived.Laws.AppendOwn
import Derived.Shelf.Slices.Clone
import Derived.Test.YtolggmphlbmlkaaGreatDoorTeG
import Derived.Shelf.SlSortCmp.InsertionK
import Derived.Lib.Bytealg
import Derived.Shelf.SlLaysF0
import Derived.Shelf.Small.Strs
import Derived.Ground.SlsfProg
import Derived.Ground.NamesProg
import Derived.Shelf.SlSortCmp.NoneTotal
set_option linter.unusedVariables false
set_option linter.unusedSimpArgs false
set_option linter.unusedSectionVars false
set_option linter.constructorNameAsVariable false
set_option linter.unnecessarySimpa false
set_option maxRecDepth 100000
namespace Av
open Go
variable [Glb]
mutual
inductive Typ where
 | mk (kind min max scale : Int) (words : List Str) (elem : List Typ) (fields : List TFl)
inductive TFl where
 | mk (number : Int) (name : Str) (need : Int) (type : Typ) (dflt : List Val)
end
namespace Typ
def kind : Typ → Int | .mk k _ _ _ _ _ _ => k
def min : Typ → Int | .mk _ a _ _ _ _ _ => a
def max : Typ → Int | .mk _ _ b _ _ _ _ => b
def scale : Typ → Int | .mk _ _ _ s _ _ _ => s
def words : Typ → List Str | .mk _ _ _ _ w _ _ => w
def elem : Typ → List Typ | .mk _ _ _ _ _ e _ => e
def fields : Typ → List TFl | .mk _ _ _ _ _ _ f => f
end Typ
namespace TFl
def number : TFl → Int | .mk n _ _ _ _ => n
def name : TFl → Str | .mk _ n _ _ _ => n
def need : TFl → Int | .mk _ _ n _ _ => n
def type : TFl → Typ | .mk _ _ _ t _ => t
def dflt : TFl → List Val | .mk _ _ _ _ d => d
end TFl
mutual
def encT : Typ → Dat
 | .mk k a b s w e f => .agg [.int .i64 k, .int .i64 a, .int .i64 b, .int .i64 s, .list 1 (w.map .str), .list 7 (encTs e), .list 11 (encGs f)]
def encTs : List Typ → List Dat
 | [] => []
 | v :: r => encT v :: encTs r
def encG : TFl → Dat
 | .mk n m d t v => .agg ([.int .i64 n, .str m, .int .i64 d] ++ ((encT t).cells ++ [.list 6 (v.map encV)]))
def encGs : List TFl → List Dat
 | [] => []
 | v :: r => encG v :: encGs r
end
theorem encTs_map : ∀ l : List Typ, encTs l = l.map encT
 | [] => by simp [encTs]
 | v :: r => by simp [encTs, encTs_map r]
theorem encGs_map : ∀ l : List TFl, encGs l = l.map encG
 | [] => by simp [encGs]
 | v :: r => by simp [encGs, encGs_map r]
theorem encT_eq (t : Typ) : encT t = .agg [.int .i64 t.kind, .int .i64 t.min, .int .i64 t.max, .int .i64 t.scale, .list 1 (t.words.map .str), .list 7 (t.elem.map encT), .list 11 (t.fields.map encG)] := by
 cases t; simp [encT, encTs_map, encGs_map, Typ.kind, Typ.min, Typ.max, Typ.scale, Typ.words, Typ.elem, Typ.fields]
theorem encG_eq (f : TFl) : encG f = .agg [.int .i64 f.number, .str f.name, .int .i64 f.need, .int .i64 f.type.kind, .int .i64 f.type.min, .int .i64 f.type.max, .int .i64 f.type.scale,
  .list 1 (f.type.words.map .str), .list 7 (f.type.elem.map encT), .list 11 (f.type.fields.map encG), .list 6 (f.dflt.map encV)] := by
 cases f; simp [encG, encT_eq, TFl.number, TFl.name, TFl.need, TFl.type, TFl.dflt, Dat.cells]
theorem nth_encT {xs : List Typ} {k : Nat} (h : k < xs.length) : nth (xs.map encT) k = .agg [.int .i64 xs[k].kind, .int .i64 xs[k].min, .int .i64 xs[k].max, .int .i64 xs[k].scale, .list 1 (xs[k].words.map .str), .list 7 (xs[k].elem.map encT), .list 11 (xs[k].fields.map encG)] := by
 rw [nth_eq (sX h), List.getElem_map, encT_eq]
theorem nth_encG {xs : List TFl} {k : Nat} (h : k < xs.length) : nth (xs.map encG) k = .agg [.int .i64 xs[k].number, .str xs[k].name, .int .i64 xs[k].need, .int .i64 xs[k].type.kind, .int .i64 xs[k].type.min, .int .i64 xs[k].type.max, .int .i64 xs[k].type.scale,
  .list 1 (xs[k].type.words.map .str), .list 7 (xs[k].type.elem.map encT), .list 11 (xs[k].type.fields.map encG), .list 6 (xs[k].dflt.map encV)] := by
 rw [nth_eq (sX h), List.getElem_map, encG_eq]
theorem canonL_strT (l : List Str) : canonL (l.map .str) = l.map .str := by
 rw [canonL_map, List.map_map];exact List.map_congr_left fun p _ => by simp [Dat.canon]
mutual
theorem canon_encT : ∀ t : Typ, (encT t).canon = encT t
 | .mk k a b s w e f => by simp only [encT, Dat.canon, canonL, canonL_strT, canon_encTs e, canon_encGs f]
theorem canon_encTs : ∀ l : List Typ, canonL (encTs l) = encTs l
 | [] => by simp [encTs, canonL]
 | v :: r => by simp only [encTs, canonL, canon_encT v, canon_encTs r]
theorem canon_encG : ∀ f : TFl, (encG f).canon = encG f
 | .mk n m d t v => by
  have := canon_encT t;cases t with
  | mk k a b s w e f =>
   simp only [encT, Dat.canon, canonL, Dat.agg.injEq, List.cons.injEq, true_and, and_true, Dat.list.injEq] at this;simp only [encG, encT, Dat.cells, List.cons_append, List.nil_append, Dat.canon, canonL, canonL_vals, this]
theorem canon_encGs : ∀ l : List TFl, canonL (encGs l) = encGs l
 | [] => by simp [encGs, canonL]
 | v :: r => by simp only [encGs, canonL, canon_encG v, canon_encGs r]
end
theorem canonL_typs (l : List Typ) : canonL (l.map encT) = l.map encT := by rw [← encTs_map, canon_encTs]
theorem canonL_tfls (l : List TFl) : canonL (l.map encG) = l.map encG := by rw [← encGs_map, canon_encGs]
attribute [go_sem] canonL_strT canon_encT canon_encG canonL_typs canonL_tfls
end Av
namespace Go.Proofs
open Go Av
end Go.Proofs
namespace Go.Proofs
open Go Av
open Av.Y
def ir129 : Ic := q (R (ox 1 0<|ow 2 false<|N) [0,2])<|q (R (of 3 1 0<|ol 4 3<|oi 5 .eql 4 0<|om 6 5<|.sc 6 true (of 7 1 1<|ol 8 7<|oi 9 .eql 8 0<|N) (t 9) 10 (om 11 10<|.sc 11 true (of 12 1 2<|ol 13 12<|oi 14 .eql 13 0<|N) (t 14) 15 (om 16 15<|.sc 16 true (of 17 1 3<|ol 18 17<|ob 19 .seq (t 18) (.k (.str []))<|N) (t 19) 20 (om 21 20<|.sc 21 true (of 22 1 4<|ol 23 22<|oh 24 23<|oi 25 .eql 24 0<|N) (t 25) 26 (om 27 26<|.sc 27 true (of 28 1 5<|ol 29 28<|oh 30 29<|oi 31 .eql 30 0<|N) (t 31) 32 (om 2 32<|N)))))) [1,3,4,5,6,10,11,15,16,20,21,26,27,32])<|.ret
theorem ok129 : FT 129 33 ir129 [.tmp 2] := .o Tryz.func129
def asg119 : Ic := q (R (om 5 11<|N) [10,11])<|R (oN 6 v6<|oS 6 6 12<|N) [12]
def body119 : Ic := D (.block 1<|q (R (ol 13 4<|oi 14 .add 13 1<|os 4 14<|N) [13,14])<|q (D (.block 2<|q (R (ol 16 4<|oi 17 .gtr 16 4096<|om 15 17<|N) [4,16,17])<|I 15 (q (R (on (.sto none (t 2) (i 9))<|N) [2,3,5,6,15])<|.ret) (q (R (om 19 5<|oi 20 .gtr 19 8<|om 18 20<|N) [5,15,19,20])<|I 18 (q (R (on (.sto none (t 2) (i 23))<|N) [2,3,6,18])<|.ret) (q (R (oL 22 6 6<|cl 23 129 [t 22]<|om 21 23<|N) [18,22,23])<|I 21 (q (R (on (.sto none (t 2) (i 19))<|N) [2,3,6,21])<|.ret) (q (R (of 25 6 0<|ol 26 25<|oi 27 .lss 26 1<|om 28 27<|.sc 28 false (of 29 6 0<|ol 30 29<|oi 31 .gtr 30 10<|N) (t 31) 32 (om 24 32<|N)) [21,25,26,27,28,29,30,31,32])<|I 24 (q (R (on (.sto none (t 2) (i 11))<|N) [2,3,6,24])<|.ret) (q (R (oL 34 6 6<|cl 35 212 [t 34]<|og 36 35<|om 33 36<|N) [24,34,35,36])<|D (I 33 (q (R (on (.sto none (t 2) (i 3))<|N) [2,3,6,33])<|.ret) S) [33]))))) [4,5,16,17,15,19,20,18,22,23,21,25,26,27,28,29,30,31,32,24,34,35,36,33])<|q (R (of 37 6 0<|ol 38 37<|oo 39 (.ixr 11 1 (t 3) (t 38))<|ol 40 39<|oL 41 6 6<|.call (some 42) (.dyn (t 40)) [t 41] (om 7 42<|N)) [3,6,37,38,39,40,41,42])<|q (R (om 43 7<|oi 44 .neq 43 0<|N) [43])<|D (I 44 (q (R (om 45 7<|os 2 45<|N) [2,7,44,45])<|.ret) S) [2,7,44]) [2,3,4,5,6,13,14,16,17,15,19,20,18,22,23,21,25,26,27,28,29,30,31,32,24,34,35,36,33,37,38,39,40,41,42,7,43,44,45]
noncomputable def ir119 : Ic := q (R (ox 1 0<|oN 2 [.int .i64 0]<|N) [0])<|q (R (cl 8 211 []<|oN 3 [.nilFn,.nilFn,.nilFn,.nilFn,.nilFn,.nilFn,.nilFn,.nilFn,.nilFn,.nilFn,.nilFn]<|oS 11 3 8<|N) [8])<|q (.reg (oN 4 [.int .i64 0]<|on (.sto none (t 4) (i 0))<|N))<|q (q (R (oL 9 6 1<|cl 10 41 [t 9]<|N) [1,9])<|D (.block 0<|D (.rng (t 10) 46 57 #[11,12] (subC (codeOf Tryz.f119) [1,1,1,0,1,0,0]) (subC (codeOf Tryz.f119) [1,1,1,0,1,0,1]) asg119 body119) [3,4,10]) [3,4,10])<|q (.reg (on (.sto none (t 2) (i 0))<|N))<|.ret
theorem ok119 : FT 119 46 ir119 [.cell 2 none] := .o Tryz.func119
def ir211 : Ic := q (.reg (oN 0 [.nilFn,.nilFn,.nilFn,.nilFn,.nilFn,.nilFn,.nilFn,.nilFn,.nilFn,.nilFn,.nilFn]<|N))<|q (R (oo 1 (.bld [.nilFn,.nilFn,.nilFn,.nilFn,.nilFn,.nilFn,.nilFn,.nilFn,.nilFn,.nilFn,.nilFn] [(1,1,.k (.fn (.func 264) [] [])),(2,1,.k (.fn (.func 266) [] [])),(3,1,.k (.fn (.func 267) [] [])),(4,1,.k (.fn (.func 269) [] [])),(5,1,.k (.fn (.func 272) [] [])),(6,1,.k (.fn (.func 273) [] [])),(7,1,.k (.fn (.func 274) [] [])),(8,1,.k (.fn (.func 275) [] [])),(9,1,.k (.fn (.func 276) [] [])),(10,1,.k (.fn (.func 277) [] []))])<|oS 11 0 1<|N) [1])<|.ret
theorem ok211 : FT 211 2 ir211 [.cell 0 (some 11)] := .o Tryz.func211
def ir41 : Ic := q (R (ox 1 0<|ok 2 (.k .nilFn)<|N) [0,2])<|q (R (oo 3 (.fnv (.func 72) [] [t 1])<|om 2 3<|N) [1,3])<|.ret
theorem ok41 : FT 41 4 ir41 [.tmp 2] := .o Tryz.func41
def ir212 : Ic := q (R (ox 1 0<|ow 2 false<|N) [0,2])<|q (R (of 6 1 0<|ol 7 6<|oi 8 .eql 7 1<|om 9 8<|.sc 9 false (of 10 1 0<|ol 11 10<|oi 12 .eql 11 2<|N) (t 12) 13 (om 14 13<|.sc 14 false (of 15 1 0<|ol 16 15<|oi 17 .eql 16 6<|N) (t 17) 18 (om 19 18<|.sc 19 false (of 20 1 0<|ol 21 20<|oi 22 .eql 21 7<|N) (t 22) 23 (om 24 23<|.sc 24 false (of 25 1 0<|ol 26 25<|oi 27 .eql 26 3<|N) (t 27) 28 (om 3 28<|N))))) [6,7,8,9,13,14,18,19,23,24,28])<|q (R (of 29 1 0<|ol 30 29<|oi 31 .eql 30 4<|om 32 31<|.sc 32 false (of 33 1 0<|ol 34 33<|oi 35 .eql 34 5<|N) (t 35) 36 (om 37 36<|.sc 37 false (of 38 1 0<|ol 39 38<|oi 40 .eql 39 10<|N) (t 40) 41 (om 4 41<|N))) [29,30,31,32,36,37,41])<|q (R (of 42 1 0<|ol 43 42<|oi 44 .eql 43 8<|om 45 44<|.sc 45 false (of 46 1 0<|ol 47 46<|oi 48 .eql 47 10<|N) (t 48) 49 (om 5 49<|N)) [42,43,44,45,49])<|q (R (om 50 3<|om 51 50<|.sc 51 false (of 52 1 1<|ol 53 52<|oi 54 .eql 53 0<|N) (t 54) 55 (om 56 55<|.sc 56 true (of 57 1 0<|ol 58 57<|oi 59 .eql 58 3<|om 60 59<|.sc 60 false (of 61 1 2<|ol 62 61<|oi 63 .eql 62 0<|N) (t 63) 64 N) (t 64) 65 (om 66 65<|.sc 66 true (om 67 4<|om 68 67<|.sc 68 false (of 69 1 3<|ol 70 69<|ob 71 .seq (t 70) (.k (.str []))<|N) (t 71) 72 N) (t 72) 73 (om 74 73<|.sc 74 true (om 75 5<|om 76 75<|.sc 76 false (of 77 1 4<|ol 78 77<|oh 79 78<|oi 80 .eql 79 0<|N) (t 80) 81 N) (t 81) 82 (om 83 82<|.sc 83 true (of 84 1 0<|ol 85 84<|oi 86 .eql 85 9<|om 87 86<|.sc 87 false (of 88 1 5<|ol 89 88<|oh 90 89<|oi 91 .eql 90 0<|N) (t 91) 92 N) (t 92) 93 (om 2 93<|N)))))) [1,3,4,5,50,51,55,56,65,66,73,74,82,83,93])<|.ret
theorem ok212 : FT 212 94 ir212 [.tmp 2] := .o Tryz.func212
def ir264 : Ic := q (R (ox 1 0<|oz 2 0<|N) [0,2])<|q (R (of 3 1 1<|ol 4 3<|cl 5 265 [t 4,i 0,i 1]<|om 2 5<|N) [1,3,4,5])<|.ret
theorem ok264 : FT 264 6 ir264 [.tmp 2] := .o Tryz.func264
def ir265 : Ic := q (R (oz 6 0<|N) [6])<|q (q (R (om 7 0<|om 8 1<|ot 9 .lss 7 8<|om 10 9<|.sc 10 false (om 11 0<|om 12 2<|ot 13 .gtr 11 12<|N) (t 13) 14 N) [0,1,2,7,8,9,10])<|D (I 14 (q (R (oz 6 2<|N) [14])<|.ret) S) [14])<|q (.reg (oz 6 0<|N))<|.ret
theorem ok265 : FT 265 15 ir265 [.tmp 6] := .o Tryz.func265
def ir266 : Ic := q (R (ox 1 0<|oz 2 0<|N) [0,2])<|q (R (of 3 1 1<|ol 4 3<|cl 5 265 [t 4,i (-999999999999999),i 999999999999999]<|om 2 5<|N) [1,3,4,5])<|.ret
theorem ok266 : FT 266 6 ir266 [.tmp 2] := .o Tryz.func266
def ir267 : Ic := q (R (ox 1 0<|oz 2 0<|N) [0,2])<|q (D (.regd [(2,4)] (of 3 1 1<|ol 4 3<|cl 5 265 [t 4,i (-999999999999999),i 999999999999999]<|of 6 1 2<|ol 7 6<|cl 8 265 [t 7,i 0,i 12]<|oo 9 (.bls 1 [t 5,t 8])<|cl 10 268 [t 9]<|om 2 10<|N)) [1,3,4,5,6,7,8,9,10])<|.ret
theorem ok267 : FT 267 11 ir267 [.tmp 2] := .o Tryz.func267
def ir268 : Ic := q (R (oz 2 0<|N) [2])<|q (q (R (om 5 0<|oh 6 5<|oz 7 0<|N) [0])<|D (.block 0<|.loop (q (.reg (ot 8 .lss 7 6<|N))<|q (D (I 8 S (E 0)) [8])<|q (D (.block 1<|q (R (oa false 9 1 5 7<|ol 10 9<|om 4 10<|N) [9,10])<|q (R (om 11 4<|oi 12 .neq 11 0<|N) [11])<|D (I 12 (q (R (om 13 4<|om 2 13<|N) [5,6,7,4,12,13])<|.ret) S) [4,12]) [])<|R (oi 14 .add 7 1<|om 7 14<|N) [14])) [5,6,7,8,9,10,4,11])<|q (.reg (oz 2 0<|N))<|.ret
theorem ok268 : FT 268 15 ir268 [.tmp 2] := .o Tryz.func268
def ir269 : Ic := q (R (ox 1 0<|oz 2 0<|N) [0,2])<|q (R (of 4 1 3<|ol 5 4<|oj 6 5<|cl 7 270 [t 6,i 1024,i 5]<|om 3 7<|N) [4,5,6,7])<|q (q (R (om 8 3<|oi 9 .eql 8 0<|om 10 9<|.sc 10 true (of 11 1 3<|ol 12 11<|cl 13 271 [t 12]<|og 14 13<|N) (t 14) 15 N) [1,8,9,10])<|D (I 15 (R (oz 3 16<|N) [15]) S) [15])<|q (R (om 16 3<|om 2 16<|N) [3,16])<|.ret
theorem ok269 : FT 269 17 ir269 [.tmp 2] := .o Tryz.func269
def ir270 : Ic := q (R (oz 6 0<|N) [6])<|q (q (R (om 7 0<|om 8 1<|ot 9 .gtr 7 8<|N) [0,1,7,8])<|D (I 9 (q (R (om 10 2<|om 6 10<|N) [2,9,10])<|.ret) S) [2,9])<|q (.reg (oz 6 0<|N))<|.ret
theorem ok270 : FT 270 11 ir270 [.tmp 6] := .o Tryz.func270
def ir272 : Ic := q (R (ox 1 0<|oz 2 0<|N) [0,2])<|q (R (of 3 1 3<|ol 4 3<|oj 5 4<|cl 6 270 [t 5,i 1024,i 5]<|om 2 6<|N) [1,3,4,5,6])<|.ret
theorem ok272 : FT 272 7 ir272 [.tmp 2] := .o Tryz.func272
def ir273 : Ic := q (R (ox 1 0<|oz 2 0<|N) [0,2])<|q (R (of 3 1 1<|ol 4 3<|cl 5 265 [t 4,i (-719162),i 2932896]<|om 2 5<|N) [1,3,4,5])<|.ret
theorem ok273 : FT 273 6 ir273 [.tmp 2] := .o Tryz.func273
def ir274 : Ic := q (R (ox 1 0<|oz 2 0<|N) [0,2])<|q (R (of 3 1 1<|ol 4 3<|cl 5 265 [t 4,i (-62135596800000),i 253402300799999]<|om 2 5<|N) [1,3,4,5])<|.ret
theorem ok274 : FT 274 6 ir274 [.tmp 2] := .o Tryz.func274
def ir275 : Ic := q (R (ox 1 0<|oz 2 0<|N) [0,2])<|q (R (of 3 1 4<|ol 4 3<|oh 5 4<|cl 6 270 [t 5,i 256,i 9]<|om 2 6<|N) [1,3,4,5,6])<|.ret
theorem ok275 : FT 275 7 ir275 [.tmp 2] := .o Tryz.func275
def ir276 : Ic := q (R (ox 1 0<|oz 2 0<|N) [0,2])<|q (q (R (of 6 1 5<|ol 7 6<|oh 8 7<|cl 9 270 [t 8,i 64,i 9]<|om 3 9<|N) [6,7,8,9])<|q (R (om 10 3<|oi 11 .neq 10 0<|N) [10])<|D (I 11 (q (R (om 12 3<|om 2 12<|N) [1,3,11,12])<|.ret) S) [3,11])<|q (q (R (of 13 1 5<|ol 14 13<|oh 15 14<|oz 16 0<|N) [13])<|D (.block 0<|.loop (q (.reg (ot 17 .lss 16 15<|N))<|q (D (I 17 S (E 0)) [17])<|q (D (.block 1<|q (R (om 18 16<|oa true 19 7 14 16<|oL 20 7 19<|oN 5 v7<|om 4 18<|oS 7 5 20<|N) [18,19,20])<|D (.block 2<|q (R (of 22 5 0<|ol 23 22<|cl 24 184 [t 23]<|og 25 24<|om 21 25<|N) [22,23,24,25])<|D (I 21 (q (R (oz 2 12<|N) [1,14,15,16,5,4,21])<|.ret) (q (R (om 27 4<|oi 28 .gtr 27 0<|om 29 28<|.sc 29 true (of 30 5 0<|ol 31 30<|of 32 1 5<|ol 33 32<|om 34 4<|oi 35 .sub 34 1<|oa true 36 7 33 35<|of 37 36 0<|ol 38 37<|ot 39 .seq 31 38<|N) (t 39) 40 (om 26 40<|N)) [21,27,28,29,40])<|D (I 26 (q (R (oz 2 7<|N) [1,14,15,16,5,4,26])<|.ret) (q (R (om 42 4<|oi 43 .gtr 42 0<|om 44 43<|.sc 44 true (of 45 5 0<|ol 46 45<|of 47 1 5<|ol 48 47<|om 49 4<|oi 50 .sub 49 1<|oa true 51 7 48 50<|of 52 51 0<|ol 53 52<|ot 54 .slt 46 53<|N) (t 54) 55 (om 41 55<|N)) [5,4,26,42,43,44,55])<|D (I 41 (q (R (oz 2 24<|N) [1,14,15,16,41])<|.ret) S) [41])) [])) []) []) [])<|R (oi 56 .add 16 1<|om 16 56<|N) [56])) [1,14,15,16,17,5,4])<|q (.reg (oz 2 0<|N))<|.ret
theorem ok276 : FT 276 57 ir276 [.tmp 2] := .o Tryz.func276
def ir277 : Ic := q (R (ox 1 0<|oz 2 0<|N) [0,2])<|q (D (.block 0<|q (R (of 4 1 3<|ol 5 4<|cl 6 184 [t 5]<|og 7 6<|om 3 7<|N) [4,5,6,7])<|D (I 3 (q (R (oz 2 12<|N) [1,3])<|.ret) (q (R (of 9 1 4<|ol 10 9<|oh 11 10<|oi 12 .eql 11 0<|om 8 12<|N) [3,9,10,11,12])<|D (I 8 (q (R (oz 2 4<|N) [1,8])<|.ret) S) [8])) []) [])<|q (R (of 13 1 4<|ol 14 13<|oh 15 14<|cl 16 270 [t 15,i 1,i 3]<|om 2 16<|N) [1,13,14,15,16])<|.ret
theorem ok277 : FT 277 17 ir277 [.tmp 2] := .o Tryz.func277
def ir72 : Ic := R (oL 3 6 1<|om 4 0<|cl 5 73 [t 3,i 1,t 4]<|N) [0,3,4,5]
theorem ok72 : FT 72 6 ir72 [] := .o Tryz.func72
def ir73 : Ic := q (R (ox 3 0<|ow 6 false<|N) [0,6])<|q (q (R (om 9 2<|om 10 1<|oL 11 6 3<|.call (some 12) (.dyn (t 9)) [t 10,t 11] (og 13 12<|N)) [9,10,11,12])<|D (I 13 (q (R (ow 6 false<|N) [1,2,3,13])<|.ret) S) [13])<|q (q (R (oL 14 6 3<|cl 15 133 [t 14]<|oh 16 15<|oz 17 0<|N) [3,14])<|D (.block 0<|.loop (q (.reg (ot 18 .lss 17 16<|N))<|q (D (I 18 S (E 0)) [18])<|q (D (.block 1<|q (R (oa true 19 6 15 17<|oL 20 6 19<|oN 8 v6<|oS 6 8 20<|N) [19,20])<|q (R (oL 21 6 8<|om 22 1<|oi 23 .add 22 1<|om 24 2<|cl 25 73 [t 21,t 23,t 24]<|og 26 25<|N) [8,21,22,23,24,25])<|D (I 26 (q (R (ow 6 false<|N) [1,2,15,16,17,26])<|.ret) S) [26]) [])<|R (oi 27 .add 17 1<|om 17 27<|N) [27])) [1,2,15,16,17,18,8])<|q (.reg (ow 6 true<|N))<|.ret
theorem ok73 : FT 73 28 ir73 [.tmp 6] := .o Tryz.func73
def ir133 : Ic := q (R (ox 1 0<|ok 2 (.k (.nil 6))<|N) [0,2])<|q (q (R (of 6 1 0<|ol 7 6<|N) [6])<|D (.block 0<|q (q (R (oi 9 .eql 7 8<|om 8 9<|N) [9])<|I 8 S (R (oi 10 .eql 7 10<|om 8 10<|N) [10]))<|D (I 8 (q (R (of 11 1 4<|ol 12 11<|om 2 12<|N) [1,7,8,11,12])<|.ret) (q (R (oi 14 .eql 7 9<|om 13 14<|N) [7,8,14])<|D (I 13 (q (R (ok 3 (.k (.nil 6))<|N) [13])<|q (q (R (of 15 1 5<|ol 16 15<|oh 17 16<|oz 18 0<|N) [1,15])<|D (.block 1<|.loop (q (.reg (ot 19 .lss 18 17<|N))<|q (D (I 19 S (E 1)) [19])<|q (D (.block 2<|q (R (oa true 20 7 16 18<|oL 21 7 20<|oN 5 v7<|oS 7 5 21<|N) [20,21])<|R (om 22 3<|of 23 5 1<|oL 24 6 23<|oo 25 (.bls 6 [t 24])<|oo 26 (.app 6 (t 22) (t 25))<|om 3 26<|N) [5,22,23,24,25,26]) [])<|R (oi 27 .add 18 1<|om 18 27<|N) [27])) [16,17,18,19,5])<|q (R (om 28 3<|om 2 28<|N) [3,28])<|.ret) S) [1,13])) []) [10,11,3,5])<|q (.reg (ok 2 (.k (.nil 6))<|N))<|.ret
theorem ok133 : FT 133 29 ir133 [.tmp 2] := .o Tryz.func133
end Go.Proofs
namespace Go.Proofs
open Go Av Go.RowKit
def btw (n lo hi : Int) : Int := if decide (n < lo) || decide (n > hi) then 2 else 0
theorem walk265 (n lo hi : Int) : PT 265 [.int .i64 n, .int .i64 lo, .int .i64 hi] (.d (.int .i64 (btw n lo hi))) := by
 refine ok265.pc ?_;simp only [go_sem, ir265, simprocAttr];refine sq (decide (n > hi)) ?_ ?_
 ·exact zz trivial
 refine zz ?_;apply ik <;> intro h
 ·rw [btw, if_pos h]
 ·rw [btw, if_neg (by simp [h])]
def szE (n m e : Int) : Int := if decide (n > m) then e else 0
theorem walk270 (n m e : Int) : PT 270 [.int .i64 n, .int .i64 m, .int .i64 e] (.d (.int .i64 (szE n m e))) := by
 refine ok270.pc ?_;simp only [go_sem, ir270, simprocAttr];apply ik <;> intro h
 ·rw [szE, if_pos h]
 ·rw [szE, if_neg (by simp [h])]
theorem walk264 (v : Val) : PT 264 [encV v] (.d (.int .i64 (btw v.int 0 1))) := by
 refine ok264.pc ?_;rw [encV_eq];simp only [go_sem, ir264, List.length_map, simprocAttr];refine wc ((walk265 _ _ _).call trivial) trivial
theorem walk266 (v : Val) : PT 266 [encV v] (.d (.int .i64 (btw v.int (-999999999999999) 999999999999999))) := by
 refine ok266.pc ?_;rw [encV_eq];simp only [go_sem, ir266, List.length_map, simprocAttr];refine wc ((walk265 _ _ _).call trivial) trivial
theorem walk273 (v : Val) : PT 273 [encV v] (.d (.int .i64 (btw v.int (-719162) 2932896))) := by
 refine ok273.pc ?_;rw [encV_eq];simp only [go_sem, ir273, List.length_map, simprocAttr];refine wc ((walk265 _ _ _).call trivial) trivial
theorem walk274 (v : Val) : PT 274 [encV v] (.d (.int .i64 (btw v.int (-62135596800000) 253402300799999))) := by
 refine ok274.pc ?_;rw [encV_eq];simp only [go_sem, ir274, List.length_map, simprocAttr];refine wc ((walk265 _ _ _).call trivial) trivial
theorem walk272 (v : Val) : PT 272 [encV v] (.d (.int .i64 (szE v.text.length 1024 5))) := by
 refine ok272.pc ?_;rw [encV_eq];simp only [go_sem, ir272, List.length_map, simprocAttr];refine wc ((walk270 _ _ _).call trivial) trivial
theorem walk275 (v : Val) : PT 275 [encV v] (.d (.int .i64 (szE v.list.length 256 9))) := by
 refine ok275.pc ?_;rw [encV_eq];simp only [go_sem, ir275, List.length_map, simprocAttr];refine wc ((walk270 _ _ _).call trivial) trivial
def fstE : List Int → Int
 | [] => 0
 | x :: r => if x != 0 then x else fstE r
theorem walk268 (l : List Int) (hl : l.length ≤ 68719476736) : PT 268 [.list 1 (l.map fun x => .int .i64 x)] (.d (.int .i64 (fstE l))) := by
 refine ok268.pc ?_;simp only [go_sem, ir268, List.length_map, simprocAttr];generalize hR : fstE l = R;refine wpc_loop (fun n s => ∃ k : Nat, k ≤ l.length ∧ n = l.length - k ∧ R = fstE (l.drop k) ∧
  s = ⟨[(5, .d (.list 1 (l.map fun x => .int .i64 x))), (6, .d (.int .i64 l.length)), (7, .d (.int .i64 k))], []⟩) ?_ ?_
 ·exact ⟨_, _, Wk.refl _, 0, Nat.zero_le _, rfl, hR.symm, rfl⟩
 ·rintro n s ⟨k, hk, rfl, hinv, rfl⟩;by_cases hlt : k < l.length
  ·have hx : nth (l.map fun x => Dat.int .i64 x) k = .int .i64 l[k] := by rw [nth_eq (sX hlt)]; simp
   have hd := dT hlt;rw [List.drop_eq_getElem_cons hlt, fstE] at hinv;refine zz6 ?_;refine ⟨oM, dC, fun hf => ?_, fun hf => ?_⟩
   ·rw [if_pos hf] at hinv;rw [hinv]
   ·rw [if_neg (by simp [hf])] at hinv;refine ⟨l.length - (k + 1), _, oM, Wk.less ?_, k + 1, oM, rfl, hinv, rfl⟩;exact zz7 trivial
  ·have hd := dF hlt;obtain rfl : k = l.length := oM;rw [List.drop_length, fstE] at hinv;simp only [go_sem, hd, hinv, simprocAttr]
theorem walk267 (v : Val) : PT 267 [encV v] (.d (.int .i64 (fstE [btw v.int (-999999999999999) 999999999999999, btw v.scale 0 12]))) := by
 refine ok267.pc ?_;rw [encV_eq];simp only [go_sem, ir267, simprocAttr];refine wpsL_call rfl ((walk265 _ _ _).call trivial) trivial ?_;refine zz ?_;refine wpsL_call rfl ((walk265 _ _ _).call trivial) trivial ?_;refine zz ?_;refine ⟨sP, ?_⟩;refine wpsL_call rfl ((walk268 [btw v.int (-999999999999999) 999999999999999, btw v.scale 0 12] sP).call trivial) trivial ?_;refine zz ?_;rfl
def nullV (v : Val) : Bool := (v.kind == 0) && (v.int == 0) && (v.scale == 0) && (v.text == []) && (((v.list.length : Nat) : Int) == 0) && (((v.fields.length : Nat) : Int) == 0)
theorem walk129 (v : Val) : PT 129 [encV v] (.d (.bool (nullV v))) := by
 refine ok129.pc ?_;rw [encV_eq];simp only [go_sem, ir129, simprocAttr];refine sq (v.int == 0) ?_ ?_
 ·exact zz trivial
 refine zz ?_;refine sq (v.scale == 0) ?_ ?_
 ·exact zz trivial
 refine zz ?_;refine sq (v.text == []) ?_ ?_
 ·exact zz trivial
 refine zz ?_;refine sq (((v.list.length : Nat) : Int) == 0) ?_ ?_
 ·exact zz4 trivial
 refine zz ?_;refine sq (((v.fields.length : Nat) : Int) == 0) ?_ ?_
 ·exact zz4 trivial
 simp only [go_sem, nullV, simprocAttr]
def useN (v : Val) : Bool := (v.kind == 1) || (v.kind == 2) || (v.kind == 6) || (v.kind == 7) || (v.kind == 3)
def useT (v : Val) : Bool := (v.kind == 4) || (v.kind == 5) || (v.kind == 10)
def useL (v : Val) : Bool := (v.kind == 8) || (v.kind == 10)
def usesV (v : Val) : Bool := (useN v || (v.int == 0)) && ((v.kind == 3) || (v.scale == 0)) && (useT v || (v.text == [])) && (useL v || (((v.list.length : Nat) : Int) == 0)) && ((v.kind == 9) || (((v.fields.length : Nat) : Int) == 0))
theorem walk212 (v : Val) : PT 212 [encV v] (.d (.bool (usesV v))) := by
 refine ok212.pc ?_;rw [encV_eq];simp only [go_sem, ir212, simprocAttr];refine sq (v.kind == 2) ?_ ?_
 ·exact zz trivial
 refine zz ?_;refine sq (v.kind == 6) ?_ ?_
 ·exact zz trivial
 refine zz ?_;refine sq (v.kind == 7) ?_ ?_
 ·exact zz trivial
 refine zz ?_;refine sq (v.kind == 3) ?_ ?_
 ·exact zz trivial
 refine zz ?_;refine sq (v.kind == 5) ?_ ?_
 ·exact zz trivial
 refine zz ?_;refine sq (v.kind == 10) ?_ ?_
 ·exact zz trivial
 refine zz ?_;refine sq (v.kind == 10) ?_ ?_
 ·exact zz trivial
 refine zz ?_;refine sq (v.int == 0) ?_ ?_
 ·exact zz trivial
 refine zz ?_;refine sq ((v.kind == 3) || (v.scale == 0)) ?_ ?_
 ·refine zz ?_;refine sq (v.scale == 0) ?_ ?_
  ·exact zz trivial
  exact zz trivial
 refine zz ?_;refine sq (useT v || (v.text == [])) ?_ ?_
 ·refine zz ?_;refine sq (v.text == []) ?_ ?_
  ·exact zz trivial
  simp only [go_sem, useT, simprocAttr]
 refine zz ?_;refine sq (useL v || (((v.list.length : Nat) : Int) == 0)) ?_ ?_
 ·refine zz ?_;refine sq (((v.list.length : Nat) : Int) == 0) ?_ ?_
  ·exact zz4 trivial
  simp only [go_sem, useL, simprocAttr]
 refine zz ?_;refine sq ((v.kind == 9) || (((v.fields.length : Nat) : Int) == 0)) ?_ ?_
 ·refine zz ?_;refine sq (((v.fields.length : Nat) : Int) == 0) ?_ ?_
  ·exact zz4 trivial
  exact zz trivial
 simp only [go_sem, usesV, useN, simprocAttr]
def partsV (v : Val) : List Val := if v.kind = 8 ∨ v.kind = 10 then v.list else if v.kind = 9 then v.fields.map Fld.value else []
theorem partsV_len (v : Val) (h : v.list.length ≤ 68719476736) (h2 : v.fields.length ≤ 68719476736) : (partsV v).length ≤ 68719476736 := by
 unfold partsV;split
 ·exact h
 ·split
  ·simpa using h2
  ·simp
theorem walk133 (v : Val) (h2 : v.fields.length ≤ 68719476736) : PT 133 [encV v] (.d (.list 6 ((partsV v).map encV))) := by
 refine ok133.pc ?_;rw [encV_eq];by_cases h : v.kind = 8 ∨ v.kind = 10
 ·have hp : partsV v = v.list := by unfold partsV; rw [if_pos h]
  rw [hp];rcases h with h | h
  ·rw [h];simp only [go_sem, ir133, beq_self_eq_true, simprocAttr]
  ·rw [h];have q : ((10 : Int) == 8) = false := rfl;simp only [go_sem, ir133, q, beq_self_eq_true, simprocAttr]
 ·have q8 : (v.kind == 8) = false := sO;have q10 : (v.kind == 10) = false := sO;by_cases h9 : v.kind = 9
  ·have hp : partsV v = v.fields.map Fld.value := by unfold partsV; rw [if_neg h, if_pos h9]
   rw [hp];have q9 : (v.kind == 9) = true := by simp [h9]
   simp only [go_sem, ir133, q8, q9, q10, List.length_map, simprocAttr];refine wpc_loop (fun n s => ∃ k : Nat, k ≤ v.fields.length ∧ n = v.fields.length - k ∧
    s = ⟨[(3, .ms 26 k), (16, .d (.list 7 (v.fields.map encF))), (17, .d (.int .i64 v.fields.length)), (18, .d (.int .i64 k))], [(26, .row k 6 (((v.fields.take k).map Fld.value).map encV))]⟩) ?_ ?_
   ·refine ⟨_, _, (Wk.nilT 3 26 6 rfl rfl dC).trans (Wk.less ?_), 0, Nat.zero_le _, rfl, rfl⟩;simp [put, go_sem]
   ·rintro n s ⟨k, hk, rfl, rfl⟩;by_cases hlt : k < v.fields.length
    ·have hx := nth_encF hlt;have hd := dT hlt;refine zz6 ?_;refine ⟨⟨oM, oM⟩, sP, sO, v.fields.length - (k + 1), _, oM, Wk.less ?_, k + 1, oM, rfl, rfl⟩;simp only [go_sem, wrap64s k oM, List.take_succ_eq_append_getElem hlt, List.map_append, List.map_cons, List.map_nil, encV_eq, simprocAttr]
    ·have hd := dF hlt;obtain rfl : k = v.fields.length := oM;exact zz14 trivial
  ·have hp : partsV v = [] := by unfold partsV; rw [if_neg h, if_neg h9]
   rw [hp];have q9 : (v.kind == 9) = false := by simp [h9]
   simp only [go_sem, ir133, q8, q9, q10, List.map_nil, simprocAttr]
end Go.Proofs
namespace Go.Proofs
open Go Av
open Av.Y
end Go.Proofs
namespace Go.Proofs
open Go Av
open Av.Y
end Go.Proofs
namespace Go.Proofs
open Go Av
def zeroV : Val := .mk 0 0 0 [] [] []
end Go.Proofs
namespace Go.Proofs
open Go Av
open Av.Y
end Go.Proofs
namespace Go.Proofs
open Go Av
end Go.Proofs
namespace Go.Proofs
open Go Av
open Av.Y
end Go.Proofs
namespace Go.Proofs
open Go Av
end Go.Proofs
namespace Go.Proofs
open Go Av
open Av.Y
def ir65 : Ic := q (.reg (oN 2 v6<|N))<|q (R (om 3 0<|oo 4 (.bld v6 [(0,1,i 4),(3,1,t 3)])<|oS 6 2 4<|N) [0,3,4])<|.ret
theorem ok65 : FT 65 5 ir65 [.cell 2 (some 6)] := .o Tryz.func65
end Go.Proofs
namespace Go.Proofs
open Go Av
theorem fits_V3 {v : Val} (h : fits (encV v)) : v.text.length ≤ 68719476736 ∧ v.list.length ≤ 68719476736 ∧ v.fields.length ≤ 68719476736 := by
 rw [encV_eq] at h;simp only [fits, fitsL, List.length_map, and_true] at h;exact ⟨h.2.2.2.1, h.2.2.2.2.1.1, h.2.2.2.2.2.1⟩
theorem walk65 (s : Str) : PT 65 [.str s] (.d (encV (.mk 4 0 0 s [] []))) := by
 refine ok65.pc ?_;simp only [go_sem, ir65, simprocAttr];rfl
end Go.Proofs
namespace Go.Proofs
open Go Av
open Av.Y
end Go.Proofs
namespace Go.Proofs
open Go Av
end Go.Proofs
namespace Go.Proofs
open Go Av Go.RowKit
theorem fits_V {v : Val} (h : fits (encV v)) : v.text.length ≤ 68719476736 ∧ v.list.length ≤ 68719476736 ∧ v.fields.length ≤ 68719476736 ∧ (∀ x ∈ v.list, fits (encV x)) ∧ ∀ f ∈ v.fields, f.name.length ≤ 68719476736 ∧ fits (encV f.value) := by
 rw [encV_eq] at h;simp only [fits, fitsL, List.length_map, and_true] at h;obtain ⟨_, _, _, h1, ⟨h2, h3⟩, h4, h5⟩ := h;refine ⟨h1, h2, h4, fun x hx => fitsL_iff.1 h3 _ (List.mem_map.2 ⟨x, hx, rfl⟩), fun f hf => ?_⟩;have := fitsL_iff.1 h5 _ (List.mem_map.2 ⟨f, hf, rfl⟩);rw [encF_eq] at this;simp only [fits, fitsL, and_true] at this;refine ⟨this.1, ?_⟩;rw [encV_eq];simp only [fits, fitsL, and_true];exact this.2
theorem u8Of {A : Nat → Prop} {w : World} {g : Nat} {cs : List Dat} (h : GRep A w g cs) (j : Nat) (n : Int) (hj : cs[j]? = some (.int .u8 n)) : w.cell? ⟨g, j, none⟩ = some (.int .u8 n) := by
 obtain ⟨h0, C, T, fr, h1, h2, h3, h4⟩ := h;have hlt : j < C.size := by rw [← h2]; exact (List.getElem?_eq_some_iff.1 hj).1
 have := h4 j _ C[j] hj (by simp [hlt]);generalize hz : C[j] = z at this;cases this;simp [World.cell?, h1, hlt, hz]
theorem utabs {A : Nat → Prop} {w : World} (hg : ∀ g cs, globOf g = some cs → GRep A w g cs) : Lib.Utf8Tabs 2 3 w := by
 have h0 := hg 2 tab0 rfl;have h1 := hg 3 tab1 rfl;refine ⟨fun c hc => u8Of h0 c _ (by simp [tab0, hc]), fun i hi => ?_⟩;have e0 : tab1[2 * i]? = some (.int .u8 (Lib.accLo i)) ∧ tab1[2 * i + 1]? = some (.int .u8 (Lib.accHi i)) := by
  match i, hi with
  | 0, _ | 1, _ | 2, _ | 3, _ | 4, _ | 5, _ | 6, _ | 7, _ | 8, _ | 9, _ | 10, _ | 11, _ | 12, _ | 13, _ | 14, _ | 15, _ => exact ⟨rfl, rfl⟩
  | n + 16, h => omega
 exact ⟨u8Of h1 _ _ e0.1, u8Of h1 _ _ e0.2⟩
def validS (s : Str) : Bool := Lib.validD s
theorem call271 (s : Str) : CT 271 [.d (.str s)] [] (.d (.bool (validS s))) [] := by
 refine CallOK.of_callsG (ds := [.str s]) (hasT Tryz.func271 kR kR) ?_;intro A w vs hg hl hv;obtain ⟨x, rfl⟩ := one_arg hl;have hx := hv 0 _ x rfl rfl;cases hx with
 | str _ h =>
  have e : (⟨s.toArray⟩ : ByteArray).data.toList = s := sP;have hsz : (⟨s.toArray⟩ : ByteArray).size = s.length := by simp [ByteArray.size]
  refine (Any.utf8_ValidString Tryz.laysValid ⟨s.toArray⟩ w oM (utabs hg)).mono ?_;rintro e' w' ⟨rfl, hb⟩;rw [e];exact ⟨_, rfl, hb, fun β H => .d _ _ (.bool _)⟩
def textE (v : Val) : Int := if szE v.text.length 1024 5 == 0 && !validS v.text then 16 else szE v.text.length 1024 5
theorem walk269 (v : Val) : PT 269 [encV v] (.d (.int .i64 (textE v))) := by
 refine ok269.pc ?_;rw [encV_eq];simp only [go_sem, ir269, simprocAttr];refine wc ((walk270 _ _ _).call trivial) ?_;refine sq (!validS v.text) ?_ ?_
 ·refine zz ?_;refine wc (call271 _) trivial
 refine zz ?_;apply ik <;> intro h
 ·rw [textE, if_pos h]
 ·rw [textE, if_neg (by simp [h])]
theorem walk184' (s : Str) : PT 184 [.str s] (.d (.bool (nameS s))) := PCon.of_fits ok184.has fun h => walk184 s (h _ (List.mem_singleton.2 rfl))
def varE (v : Val) : Int := if !nameS v.text then 12 else if ((v.list.length : Nat) : Int) == 0 then 4 else szE v.list.length 1 3
theorem walk277 (v : Val) : PT 277 [encV v] (.d (.int .i64 (varE v))) := by
 refine ok277.pc ?_;rw [encV_eq];simp only [go_sem, ir277, simprocAttr];refine wn ((walk184' _).call trivial) ?_;refine zz4 ?_;refine ⟨fun h => ?_, fun h => ⟨fun h2 => ?_, fun h2 => ?_⟩⟩
 ·rw [varE, if_pos h]
 ·rw [varE, if_neg (by simp [h]), if_pos h2]
 ·rw [varE, if_neg (by simp [h]), if_neg (by simp [h2])];refine wc ((walk270 _ _ _).call trivial) trivial
def recE : Option Str → List Fld → Int
 | _, [] => 0
 | none, f :: r => if !nameS f.name then 12 else recE (some f.name) r
 | some p, f :: r => if !nameS f.name then 12 else if f.name == p then 7 else if strLt f.name p then 24 else recE (some f.name) r
def recV (v : Val) : Int := if szE v.fields.length 64 9 != 0 then szE v.fields.length 64 9 else recE none v.fields
def prevN (l : List Fld) : Nat → Option Str
 | 0 => none
 | k + 1 => l[k]?.map Fld.name
theorem walk276 (v : Val) : PT 276 [encV v] (.d (.int .i64 (recV v))) := by
 refine PCon.of_fits ok276.has fun hfit => ?_
 obtain ⟨_, _, hfl, _, _⟩ := fits_V (hfit _ (List.mem_singleton.2 rfl));refine ok276.pc ?_;rw [encV_eq];simp only [go_sem, ir276, List.length_map, Nat.reduceAdd, Nat.reduceEqDiff, Nat.reduceBEq, Nat.reduceLeDiff, reduceCtorEq, ↓reduceIte];refine wc ((walk270 _ _ _).call trivial) ?_;apply ik <;> intro h
 ·rw [recV, if_pos h]
 rw [recV, if_neg (by simp [h])];refine zz4 ?_;generalize hR : recE none v.fields = R;refine wpc_loop (fun n s => ∃ k : Nat, k ≤ v.fields.length ∧ n = v.fields.length - k ∧ R = recE (prevN v.fields k) (v.fields.drop k) ∧
  s = ⟨[(1, .ref 1 0), (14, .d (.list 7 (v.fields.map encF))), (15, .d (.int .i64 v.fields.length)), (16, .d (.int .i64 k))],
   [(1, .box [.d (.int .i64 v.kind), .d (.int .i64 v.int), .d (.int .i64 v.scale), .d (.str v.text), .d (.list 6 (v.list.map encV)), .d (.list 7 (v.fields.map encF))])]⟩) ?_ ?_
 ·exact ⟨_, _, Wk.refl _, 0, Nat.zero_le _, rfl, hR.symm, rfl⟩
 ·rintro n s ⟨k, hk, rfl, hinv, rfl⟩;by_cases hlt : k < v.fields.length
  ·have hx := nth_encF hlt;have hd : decide ((k : Int) < (v.fields.length : Int)) = true := by simp; omega
   rw [List.drop_eq_getElem_cons hlt] at hinv;refine zz6 ?_;refine ⟨by omega, wn ((walk184' _).call trivial) ?_⟩;refine zz ?_;apply ik <;> intro h12
   ·have : R = 12 := by
     rw [hinv];cases prevN v.fields k <;> simp only [recE, h12, ↓reduceIte]
    rw [this]
   cases k with
   | zero =>
    simp only [prevN, recE, h12, Bool.false_eq_true, ↓reduceIte] at hinv;have hg : decide (((0 : Nat) : Int) > 0) = false := rfl;simp only [go_sem, hg, Nat.reduceAdd, Nat.reduceEqDiff, Nat.reduceBEq, Nat.reduceLeDiff, reduceCtorEq, ↓reduceIte];have hp : prevN v.fields (0 + 1) = some v.fields[0].name := by simp [prevN, hlt]
    refine ⟨v.fields.length - 1, _, by omega, Wk.less ?_, 0 + 1, by omega, rfl, by rw [hp]; exact hinv, rfl⟩;simp only [go_sem, wrap64s 0 (by omega), Nat.reduceAdd, Nat.reduceEqDiff, Nat.reduceBEq, Nat.reduceLeDiff, reduceCtorEq, ↓reduceIte]
   | succ k =>
    have hlt' : k < v.fields.length := by omega
    have hx' := nth_encF hlt';have hp : prevN v.fields (k + 1) = some v.fields[k].name := by simp [prevN, hlt']
    have hp2 : prevN v.fields (k + 1 + 1) = some v.fields[k + 1].name := by simp [prevN, hlt]
    rw [hp] at hinv;simp only [recE, h12, Bool.false_eq_true, ↓reduceIte] at hinv;have hg : decide (((k + 1 : Nat) : Int) > 0) = true := by simp
    have hw : IntKind.i64.wrap (((k + 1 : Nat) : Int) - 1) = k := by rw [wrap64 (by omega) (by omega)]; omega
    simp only [go_sem, hg, hw, hx', Int.toNat_natCast, List.length_map, Nat.reduceAdd, Nat.reduceEqDiff, Nat.reduceBEq, Nat.reduceLeDiff, reduceCtorEq, ↓reduceIte];refine ⟨⟨by omega, by omega⟩, by decide, fun q => ?_, fun q => ⟨⟨by omega, by omega⟩, by decide, fun q2 => ?_, fun q2 => ?_⟩⟩
    ·rw [if_pos q] at hinv;rw [hinv]
    ·rw [if_neg (by simp [q]), if_pos q2] at hinv;rw [hinv]
    ·rw [if_neg (by simp [q]), if_neg (by simp [q2])] at hinv;refine ⟨v.fields.length - (k + 1 + 1), _, by omega, Wk.less ?_, k + 1 + 1, by omega, rfl, by rw [hp2]; exact hinv, rfl⟩;simp only [go_sem, wrap64s (k + 1) (by omega), Nat.reduceAdd, Nat.reduceEqDiff, Nat.reduceBEq, Nat.reduceLeDiff, reduceCtorEq, ↓reduceIte]
  ·have hd : decide ((k : Int) < (v.fields.length : Int)) = false := by simp; omega
   obtain rfl : k = v.fields.length := by omega
   rw [List.drop_length] at hinv;have : R = 0 := by rw [hinv]; cases prevN v.fields v.fields.length <;> rfl
   simp only [go_sem, hd, this, Nat.reduceAdd, Nat.reduceEqDiff, Nat.reduceBEq, Nat.reduceLeDiff, reduceCtorEq, ↓reduceIte]
end Go.Proofs
namespace Go.Proofs
open Go.Shelf
end Go.Proofs
namespace Go.Proofs
open Go Av
open Av.Y
def ir263 : Ic := q (R (oz 4 0<|N) [4])<|q (q (R (om 6 0<|oh 7 6<|oz 8 0<|N) [6])<|D (.block 0<|.loop (q (.reg (ot 9 .lss 8 7<|N))<|q (D (I 9 S (E 0)) [9])<|q (D (.block 1<|q (R (om 10 8<|om 5 10<|N) [10])<|q (R (om 11 1<|om 12 0<|om 13 5<|oa true 14 11 12 13<|oL 15 11 14<|.call (some 16) (.dyn (t 11)) [t 15] N) [11,12,13,14,15])<|D (I 16 (q (R (om 17 5<|om 4 17<|N) [0,1,7,8,5,16,17])<|.ret) S) [5,16]) [])<|R (oi 18 .add 8 1<|om 8 18<|N) [18])) [0,1,7,8,9,10,5,11])<|q (.reg (oz 4 (-1)<|N))<|.ret
theorem ok263 : FT 263 19 ir263 [.tmp 4] := .o Tryz.func263
def ir213 : Ic := q (R (ow 4 false<|N) [4])<|q (R (om 5 0<|om 6 1<|cl 7 278 [t 5,t 6]<|oi 8 .geq 7 0<|om 4 8<|N) [0,1,5,6,7,8])<|.ret
theorem ok213 : FT 213 9 ir213 [.tmp 4] := .o Tryz.func213
def ir278 : Ic := q (R (oz 4 0<|N) [4])<|q (q (R (om 6 0<|oh 7 6<|oz 8 0<|N) [6])<|D (.block 0<|.loop (q (.reg (ot 9 .lss 8 7<|N))<|q (D (I 9 S (E 0)) [9])<|q (D (.block 1<|q (R (om 10 8<|om 5 10<|N) [10])<|q (R (om 11 1<|om 12 0<|om 13 5<|oa false 14 1 12 13<|ol 15 14<|ot 16 .seq 11 15<|N) [11,12,13,14,15])<|D (I 16 (q (R (om 17 5<|om 4 17<|N) [0,1,7,8,5,16,17])<|.ret) S) [5,16]) [])<|R (oi 18 .add 8 1<|om 8 18<|N) [18])) [0,1,7,8,9,10,5,11])<|q (.reg (oz 4 (-1)<|N))<|.ret
theorem ok278 : FT 278 19 ir278 [.tmp 4] := .o Tryz.func278
end Go.Proofs
namespace Go.Proofs
open Go Av Go.RowKit
end Go.Proofs
namespace Go.Proofs
open Go Av
def ruleE (v : Val) : Int :=
 if v.kind = 1 then btw v.int 0 1 else if v.kind = 2 then btw v.int (-999999999999999) 999999999999999
 else if v.kind = 3 then fstE [btw v.int (-999999999999999) 999999999999999, btw v.scale 0 12] else if v.kind = 4 then textE v else if v.kind = 5 then szE v.text.length 1024 5
 else if v.kind = 6 then btw v.int (-719162) 2932896 else if v.kind = 7 then btw v.int (-62135596800000) 253402300799999 else if v.kind = 8 then szE v.list.length 256 9
 else if v.kind = 9 then recV v else varE v
def chkE (n level : Int) (v : Val) : Int :=
 if decide (n > 4096) then 9 else if decide (level > 8) then 23 else if nullV v then 19 else if decide (v.kind < 1) || decide (v.kind > 10) then 11 else if !usesV v then 3 else ruleE v
def rulesD : List Dat := [.nilFn, .fn (.func 264) [] [], .fn (.func 266) [] [], .fn (.func 267) [] [], .fn (.func 269) [] [], .fn (.func 272) [] [], .fn (.func 273) [] [], .fn (.func 274) [] [], .fn (.func 275) [] [], .fn (.func 276) [] [], .fn (.func 277) [] []]
theorem walk211 : PT 211 [] (.d (.agg rulesD)) := by
 refine ok211.pc ?_;simp only [go_sem, ir211, simprocAttr];rfl
theorem walk41 (v : Val) : PT 41 [encV v] (.d (.fn (.func 72) [] [.ptr (encV v).cells])) := by
 refine ok41.pc ?_;rw [encV_eq];simp only [go_sem, ir41, simprocAttr];simp only [go_sem, decide_eq_true_eq, reduceCtorEq, ↓reduceIte]
noncomputable def lpL (tm : List (Nat × Av)) (s : LoopState) (j : Option Code) : Lp := ⟨tm, 46, #[11, 12], subC (codeOf Tryz.f119) [1, 1, 1, 0, 1, 0, 0], subC (codeOf Tryz.f119) [1, 1, 1, 0, 1, 0, 1], s, j⟩
def tmL (c : Dat) : List (Nat × Av) := [(2, .ref 1002 0), (3, .ref 1003 0), (4, .ref 1004 0), (10, .d c)]
noncomputable abbrev TL (c : Dat) (e n : Int) : List (Nat × Av.Obj) := [(1000, .lp (lpL (tmL c) .ready none)), (1002, .box [.d (.int .i64 e)]), (1003, .box (rulesD.map .d)), (1004, .box [.d (.int .i64 n)])]
noncomputable def afterL (c : Dat) (x : Int) : Av.Obj := if x = 0 then .lp (lpL (tmL c) .ready none) else .lp (lpL (tmL c) .done (some .ret))
theorem round30 (c : Dat) (e n level : Int) (v : Val) (hn : 0 ≤ n ∧ n ≤ 4096) :
  RCon Tryz.prog 1000 [.d (.int .i64 level), .d (encV v)] (TL c e n) (.d (.bool (chkE (n + 1) level v == 0)))
   [(1000, afterL c (chkE (n + 1) level v)), (1002, .box [.d (.int .i64 (if chkE (n + 1) level v = 0 then e else chkE (n + 1) level v))]), (1004, .box [.d (.int .i64 (n + 1))])] := by
 refine RCon.of_code (asg := asg119) (body := body119) rfl rfl kR kR rfl (show ∀ p ∈ [11, 12], p < 46 by decide) ?_ ?_
 ·refine closed_puts ?_;unfold afterL;split <;> simp [TL, puts, put, closedH, objIn, idsInL, idsIn, idsInT, tmL, lpL, rulesD, Av.get]
 ·rw [encV_eq];generalize hx : chkE (n + 1) level v = x;generalize hD : (fun i => (get (TL c e n) i).isSome = true) = D;generalize hK : RoundEnds 1000 (TL c e n) D (.d (.bool (x == 0))) _ = K;have hw : IntKind.i64.wrap (n + 1) = n + 1 := wrap64 oM oM;have leaf : x ≠ 0 → ∀ cs, K .ret ⟨[], [(1000, .lp (lpL (tmL c) .busy none)), (1002, .box [.d (.int .i64 x)]), (1003, .box (rulesD.map .d)), (1004, .box [.d (.int .i64 (n + 1))]), (6, .box cs)]⟩ := by
   intro h0 cs;have hb : (x == 0) = false := by simp [h0]
   rw [← hK, ← hD, hb];refine ⟨_, _, rfl, rfl, ⟨[], [(1000, .lp (lpL (tmL c) .done (some .ret))), (1002, .box [.d (.int .i64 x)]), (1003, .box (rulesD.map .d)), (1004, .box [.d (.int .i64 (n + 1))])]⟩, Wk.less ?_, ?_⟩
   ·simp [put, tmL, lpL, rulesD, go_sem]
   ·intro i o h;rw [← h, ← get_puts];simp [puts, put, afterL, h0]
  have leaf0 : x = 0 → ∀ cs, K .normal ⟨[], [(1000, .lp (lpL (tmL c) .busy none)), (1002, .box [.d (.int .i64 e)]), (1003, .box (rulesD.map .d)), (1004, .box [.d (.int .i64 (n + 1))]), (6, .box cs)]⟩ := by
   intro h0 cs;have hb : (x == 0) = true := by simp [h0]
   rw [← hK, ← hD, hb];refine ⟨_, _, rfl, rfl, ⟨[], [(1000, .lp (lpL (tmL c) .ready none)), (1002, .box [.d (.int .i64 e)]), (1003, .box (rulesD.map .d)), (1004, .box [.d (.int .i64 (n + 1))])]⟩, Wk.less ?_, ?_⟩
   ·simp [put, tmL, lpL, rulesD, go_sem]
   ·intro i o h;rw [← h, ← get_puts];simp [puts, put, afterL, h0]
  clear hK hD;simp only [TL, lpL, tmL, asg119, body119, hw, go_sem, simprocAttr];refine ⟨_, rfl, rfl, ?_⟩;have cOLD21 := (walk129 v).call trivial;rw [encV_eq] at cOLD21;refine ⟨fun h1 => ?_, fun h1 => ⟨fun h2 => ?_, fun h2 => wn cOLD21 ?_⟩⟩
  ·obtain rfl : x = 9 := by rw [← hx, chkE, if_pos h1]
   exact leaf dC _
  ·obtain rfl : x = 23 := by rw [← hx, chkE, if_neg (by simp [h1]), if_pos h2]
   exact leaf dC _
  rw [chkE, if_neg (by simp [h1]), if_neg (by simp [h2])] at hx;refine zz ?_;apply ik <;> intro h3
  ·obtain rfl : x = 19 := by rw [← hx, if_pos h3]
   exact leaf dC _
  rw [if_neg (by simp [h3])] at hx;refine sq (decide (v.kind > 10)) ?_ ?_
  ·exact zz trivial
  have cOLD96 := (walk212 v).call trivial;rw [encV_eq] at cOLD96;refine zz ?_;refine ⟨fun h4 => ?_, fun h4 => wn cOLD96 ?_⟩
  ·obtain rfl : x = 11 := by rw [← hx, if_pos h4]
   exact leaf dC _
  rw [if_neg (by simp only [h4]; decide)] at hx;refine zz ?_;apply ik <;> intro h5
  ·obtain rfl : x = 3 := by rw [← hx, if_pos h5]
   exact leaf dC _
  rw [if_neg (by simp [h5])] at hx;obtain ⟨k1, k2⟩ : 1 ≤ v.kind ∧ v.kind ≤ 10 := by simp at h4; omega
  have hk : v.kind = 1 ∨ v.kind = 2 ∨ v.kind = 3 ∨ v.kind = 4 ∨ v.kind = 5 ∨ v.kind = 6 ∨ v.kind = 7 ∨ v.kind = 8 ∨ v.kind = 9 ∨ v.kind = 10 := oM;rcases hk with hk | hk | hk | hk | hk | hk | hk | hk | hk | hk
  ·have cr := (walk264 v).call trivial;have hr : ruleE v = btw v.int 0 1 := by simp [ruleE, hk]
   rw [encV_eq, hk, ← hr, hx] at cr;refine zz10 ?_;refine ⟨⟨dC, dC⟩, wn cr ?_⟩;refine zz ?_;exact ⟨fun h6 => leaf (sX h6) _, fun h6 => leaf0 (sX h6) _⟩
  ·have cr := (walk266 v).call trivial;have hr : ruleE v = btw v.int (-999999999999999) 999999999999999 := by simp [ruleE, hk]
   rw [encV_eq, hk, ← hr, hx] at cr;refine zz10 ?_;refine ⟨⟨dC, dC⟩, wn cr ?_⟩;refine zz ?_;exact ⟨fun h6 => leaf (sX h6) _, fun h6 => leaf0 (sX h6) _⟩
  ·have cr := (walk267 v).call trivial;have hr : ruleE v = fstE [btw v.int (-999999999999999) 999999999999999, btw v.scale 0 12] := by simp [ruleE, hk]
   rw [encV_eq, hk, ← hr, hx] at cr;refine zz10 ?_;refine ⟨⟨dC, dC⟩, wn cr ?_⟩;refine zz ?_;exact ⟨fun h6 => leaf (sX h6) _, fun h6 => leaf0 (sX h6) _⟩
  ·have cr := (walk269 v).call trivial;have hr : ruleE v = textE v := by simp [ruleE, hk]
   rw [encV_eq, hk, ← hr, hx] at cr;refine zz10 ?_;refine ⟨⟨dC, dC⟩, wn cr ?_⟩;refine zz ?_;exact ⟨fun h6 => leaf (sX h6) _, fun h6 => leaf0 (sX h6) _⟩
  ·have cr := (walk272 v).call trivial;have hr : ruleE v = szE v.text.length 1024 5 := by simp [ruleE, hk]
   rw [encV_eq, hk, ← hr, hx] at cr;refine zz10 ?_;refine ⟨⟨dC, dC⟩, wn cr ?_⟩;refine zz ?_;exact ⟨fun h6 => leaf (sX h6) _, fun h6 => leaf0 (sX h6) _⟩
  ·have cr := (walk273 v).call trivial;have hr : ruleE v = btw v.int (-719162) 2932896 := by simp [ruleE, hk]
   rw [encV_eq, hk, ← hr, hx] at cr;refine zz10 ?_;refine ⟨⟨dC, dC⟩, wn cr ?_⟩;refine zz ?_;exact ⟨fun h6 => leaf (sX h6) _, fun h6 => leaf0 (sX h6) _⟩
  ·have cr := (walk274 v).call trivial;have hr : ruleE v = btw v.int (-62135596800000) 253402300799999 := by simp [ruleE, hk]
   rw [encV_eq, hk, ← hr, hx] at cr;refine zz10 ?_;refine ⟨⟨dC, dC⟩, wn cr ?_⟩;refine zz ?_;exact ⟨fun h6 => leaf (sX h6) _, fun h6 => leaf0 (sX h6) _⟩
  ·have cr := (walk275 v).call trivial;have hr : ruleE v = szE v.list.length 256 9 := by simp [ruleE, hk]
   rw [encV_eq, hk, ← hr, hx] at cr;refine zz10 ?_;refine ⟨⟨dC, dC⟩, wn cr ?_⟩;refine zz ?_;exact ⟨fun h6 => leaf (sX h6) _, fun h6 => leaf0 (sX h6) _⟩
  ·have cr := (walk276 v).call trivial;have hr : ruleE v = recV v := by simp [ruleE, hk]
   rw [encV_eq, hk, ← hr, hx] at cr;refine zz10 ?_;refine ⟨⟨dC, dC⟩, wn cr ?_⟩;refine zz ?_;exact ⟨fun h6 => leaf (sX h6) _, fun h6 => leaf0 (sX h6) _⟩
  ·have cr := (walk277 v).call trivial;have hr : ruleE v = varE v := by simp [ruleE, hk]
   rw [encV_eq, hk, ← hr, hx] at cr;refine zz10 ?_;refine ⟨⟨dC, dC⟩, wn cr ?_⟩;refine zz ?_;exact ⟨fun h6 => leaf (sX h6) _, fun h6 => leaf0 (sX h6) _⟩
end Go.Proofs
namespace Go.Proofs
open Go Av
variable {n : Int}
noncomputable abbrev upsL (c : Dat) (e x n : Int) : List (Nat × Av.Obj) := [(1000, afterL c x), (1002, .box [.d (.int .i64 (if x = 0 then e else x))]), (1004, .box [.d (.int .i64 n)])]
theorem closedU (c : Dat) (e n x m : Int) : closed (hputs (get (TL c e n)) (upsL c e x m)) := by
 refine closed_puts ?_;simp only [upsL, TL];unfold afterL;split <;> simp [TL, puts, put, closedH, objIn, idsInL, idsIn, idsInT, tmL, lpL, rulesD, Av.get]
theorem closedL (c : Dat) (e n : Int) : closed (get (TL c e n)) := by
 refine closed_of ?_;simp [TL, closedH, objIn, idsInL, idsIn, idsInT, tmL, lpL, rulesD, Av.get]
theorem TL_dom {c : Dat} {e : Int} {i : Nat} (h : (get (TL c e n) i).isSome = true) : i = 1000 ∨ i = 1002 ∨ i = 1003 ∨ i = 1004 := by
 simp only [TL, Av.get] at h;split at h
 ·rename_i e; exact .inl e.symm
 ·split at h
  ·rename_i e; exact .inr (.inl e.symm)
  ·split at h
   ·rename_i e; exact .inr (.inr (.inl e.symm))
   ·split at h
    ·rename_i e; exact .inr (.inr (.inr e.symm))
    ·cases h
theorem ren_id_dat (ds : List Dat) : renL (fun i : Nat => i) (ds.map .d) = ds.map .d := by
 induction ds with
 | nil => rfl
 | cons d r ih => simp only [List.map_cons, renL, Av.ren, ih]
theorem yield30 (c : Dat) (e n level : Int) (v : Val) (hn : 0 ≤ n ∧ n ≤ 4096) :
  CT .yld [.mp 1000, .d (.int .i64 level), .d (encV v)] ((TL c e n).map fun x => (x.1, some x.2)) (.d (.bool (chkE (n + 1) level v == 0))) (upsL c e (chkE (n + 1) level v) (n + 1)) := by
 have := (round30 c e n level v hn).call (fun i => i) ⟨_, rfl⟩ (fun i j _ _ h => h) (by simp [idsIn]) (closedL c e n) [] (by simp [Av.get]) (closedU c e n _ _) trivial;have ha : ∀ x, (afterL c x).ren (fun i => i) = afterL c x := by
  intro x;unfold afterL;split <;> simp [Obj.ren, renT, tmL, lpL, Av.ren]
 simp only [ha, upsL, List.map_cons, List.map_nil] at this;simp only [TL, upsL, List.map_cons, List.map_nil, Obj.ren, Av.ren, renL, ren_id_dat, lpL, tmL, renT, List.append_nil] at this ⊢;exact this
def foldV (f : Int → Val → Int × Int) : Int → List Val → Int × Int
 | n, [] => (0, n)
 | n, v :: r => if (f n v).1 ≠ 0 then f n v else foldV f (f n v).2 r
def visF : Nat → Int → Val → Int × Int
 | 0, n, v => (chkE (n + 1) 9 v, n + 1)
 | k + 1, n, v => if chkE (n + 1) (8 - k) v ≠ 0 then (chkE (n + 1) (8 - k) v, n + 1) else foldV (visF k) (n + 1) (partsV v)
theorem chk9 (n : Int) (v : Val) : chkE n 9 v ≠ 0 := by
 unfold chkE;split
 ·decide
 ·rw [if_pos dC]; decide
theorem chk_n {level : Int} {v : Val} (h : chkE n level v = 0) : n ≤ 4096 := by
 unfold chkE at h;split at h
 ·cases h
 ·rename_i hx; simpa using hx
theorem foldV_n {f : Int → Val → Int × Int} (hf : ∀ n v, 0 ≤ n → n ≤ 4096 → (f n v).1 = 0 → 0 ≤ (f n v).2 ∧ (f n v).2 ≤ 4096) : ∀ (l : List Val) (n : Int), 0 ≤ n → n ≤ 4096 → (foldV f n l).1 = 0 → 0 ≤ (foldV f n l).2 ∧ (foldV f n l).2 ≤ 4096
 | [], n, h0, h1, h => ⟨h0, h1⟩
 | v :: r, n, h0, h1, h => by
  simp only [foldV] at h ⊢;split at h
  ·rename_i hx; exact absurd h hx
  ·rename_i hx;rw [if_neg hx];simp only [ne_eq, Decidable.not_not] at hx;obtain ⟨q0, q1⟩ := hf n v h0 h1 hx;exact foldV_n hf r _ q0 q1 h
theorem visF_n : ∀ (k : Nat) (n : Int) (v : Val), 0 ≤ n → n ≤ 4096 → (visF k n v).1 = 0 → 0 ≤ (visF k n v).2 ∧ (visF k n v).2 ≤ 4096
 | 0, n, v, h0, h1, h => absurd h (chk9 _ _)
 | k + 1, n, v, h0, h1, h => by
  simp only [visF] at h ⊢;split at h
  ·rename_i hx; exact absurd h hx
  ·rename_i hx;rw [if_neg hx];simp only [ne_eq, Decidable.not_not] at hx;exact foldV_n (visF_n k) _ _ oM (chk_n hx) h
theorem stop177 (c : Dat) (e n level : Int) (v : Val) (h0 : 0 ≤ n) (h1 : n ≤ 4096) (hx : chkE (n + 1) level v ≠ 0) :
  KT 73 [.d (encV v), .d (.int .i64 level), .mp 1000] (TL c e n) (.d (.bool false)) (upsL c e (chkE (n + 1) level v) (n + 1)) := by
 refine ok73.co (k := false) (closedU c e n _ _) trivial ?_;have hy := yield30 c e n level v ⟨h0, h1⟩;have hb : (chkE (n + 1) level v == 0) = false := by simp [hx]
 rw [encV_eq] at hy ⊢;rw [hb] at hy;simp only [TL, go_sem, ir73, simprocAttr];refine wps_call rfl hy ⟨rfl, rfl, rfl, rfl, trivial⟩ ?_;refine zz ?_;exact ⟨fun _ => trivial, fun h => by cases h⟩
theorem call73 {c : Dat} {level e x m : Int} {v : Val} (h : KT 73 [.d (encV v), .d (.int .i64 level), .mp 1000] (TL c e n) (.d (.bool (x == 0))) (upsL c e x m)) :
  CT 73 [.d (encV v), .d (.int .i64 level), .mp 1000] ((TL c e n).map fun x => (x.1, some x.2)) (.d (.bool (x == 0))) (upsL c e x m) := by
 have := h.call (fun i => i) (fun i hi => by rcases TL_dom hi with rfl | rfl | rfl | rfl <;> decide) (fun i j _ _ h => h) (by simp [idsIn, Av.get]) (closedL c e n) [] (by simp [Av.get]) (closedU c e n _ _) trivial;have ha : ∀ x, (afterL c x).ren (fun i => i) = afterL c x := by
  intro x;unfold afterL;split <;> simp [Obj.ren, renT, tmL, lpL, Av.ren]
 simp only [ha, upsL, List.map_cons, List.map_nil] at this;simp only [TL, upsL, List.map_cons, List.map_nil, Obj.ren, Av.ren, renL, ren_id_dat, lpL, tmL, renT, List.append_nil] at this ⊢;exact this
theorem walk73 (c : Dat) : ∀ (k : Nat) (e n : Int) (v : Val), k ≤ 8 → 0 ≤ n → n ≤ 4096 →
  KT 73 [.d (encV v), .d (.int .i64 (9 - k)), .mp 1000] (TL c e n) (.d (.bool ((visF k n v).1 == 0))) (upsL c e (visF k n v).1 (visF k n v).2) := by
 intro k
 induction k with
 | zero =>
  intro e n v hk h0 h1;have hb : (chkE (n + 1) 9 v == 0) = false := by simp [chk9]
  simp only [visF, hb];exact stop177 c e n 9 v h0 h1 (chk9 _ _)
 | succ k ih =>
  intro e n v hk h0 h1;have hl : 9 - ((k + 1 : Nat) : Int) = 8 - k := oM;rw [hl];by_cases hx : chkE (n + 1) (8 - k) v = 0
  ·refine Con.of_fits ok73.has fun hfit => ?_
   obtain ⟨_, f2, f3, _⟩ := fits_V (hfit (encV v) sP);have hv : visF (k + 1) n v = foldV (visF k) (n + 1) (partsV v) := by rw [visF, if_neg (by simp [hx])]
   rw [hv];generalize hF : foldV (visF k) (n + 1) (partsV v) = F;refine ok73.co (k := false) (closedU c e n _ _) trivial ?_;have hy := yield30 c e n (8 - k) v ⟨h0, h1⟩;have h217 := (walk133 v f3).call trivial;have hpl := partsV_len v f2 f3;rw [hx] at hy;have hm := chk_n hx;rw [encV_eq] at hy h217 ⊢;simp only [TL, go_sem, ir73, simprocAttr];refine wps_call rfl hy ⟨rfl, rfl, rfl, rfl, trivial⟩ ?_;simp only [go_sem, afterL, beq_self_eq_true, Bool.not_true, simprocAttr];refine wc h217 ?_;clear h217 hy hv hfit;generalize hP : partsV v = ps at *;simp only [List.length_map];refine wpc_loop (fun r s => ∃ (j : Nat) (m : Int), j ≤ ps.length ∧ r = ps.length - j ∧ 0 ≤ m ∧ m ≤ 4096 ∧ foldV (visF k) m (ps.drop j) = F ∧
    s = ⟨[(1, .d (.int .i64 (8 - k))), (2, .mp 1000), (15, .d (.list 6 (ps.map encV))), (16, .d (.int .i64 ps.length)), (17, .d (.int .i64 j))],
     [(1000, .lp (lpL (tmL c) .ready none)), (1002, .box [.d (.int .i64 e)]), (1003, .box (rulesD.map .d)), (1004, .box [.d (.int .i64 m)])]⟩) ?_ ?_
   ·refine ⟨_, _, Wk.less ?_, 0, n + 1, Nat.zero_le _, rfl, oM, hm, hF, rfl⟩;simp [go_sem, lpL, tmL, rulesD]
   ·rintro r s ⟨j, m, hj, rfl, hm0, hm1, hinv, rfl⟩;by_cases hlt : j < ps.length
    ·have hx' := nth_encV hlt;have hd := dT hlt;have hw : IntKind.i64.wrap (8 - (k : Int) + 1) = 9 - k := by rw [wrap64 oM oM]; omega
     have hc := call73 (ih e m ps[j] oM hm0 hm1);have hn := visF_n k m ps[j] hm0 hm1;rw [List.drop_eq_getElem_cons hlt, foldV] at hinv;generalize hV : visF k m ps[j] = V at *;rw [encV_eq] at hc;refine zz38 ?_;refine ⟨oM, wps_call rfl hc ⟨rfl, rfl, rfl, rfl, trivial⟩ ?_⟩;by_cases h0 : V.1 = 0
     ·rw [if_neg (by simp [h0])] at hinv;simp only [go_sem, h0, afterL, beq_self_eq_true, Bool.not_true, simprocAttr];refine ⟨ps.length - (j + 1), _, oM, Wk.less ?_, j + 1, V.2, oM, rfl, (hn h0).1, (hn h0).2, hinv, rfl⟩;simp [go_sem, wrap64s j oM, lpL, tmL, rulesD]
     ·rw [if_pos h0] at hinv;have hb : (V.1 == 0) = false := by simp [h0]
      subst hinv;simp only [go_sem, hb, Bool.not_false, simprocAttr]
    ·have hd := dF hlt;obtain rfl : j = ps.length := oM;rw [List.drop_length, foldV] at hinv;subst hinv;simp only [go_sem, hd, afterL, beq_self_eq_true, Bool.not_true, simprocAttr]
  ·have hb : (chkE (n + 1) (8 - k) v == 0) = false := by simp [hx]
   have hv : visF (k + 1) n v = (chkE (n + 1) (8 - k) v, n + 1) := by rw [visF, if_pos hx]
   rw [hv];simp only [hb];exact stop177 c e n _ v h0 h1 hx
def chkV (v : Val) : Int := (visF 8 0 v).1
theorem walk72 (v : Val) (c : Dat) (e : Int) :
  KT 72 [.mp 1000, .d (.ptr (encV v).cells)] (TL c e 0) (.tup []) (upsL c e (visF 8 0 v).1 (visF 8 0 v).2) := by
 refine ok72.co (k := false) (closedU c e 0 _ _) trivial ?_;have hc := call73 (walk73 c 8 e 0 v dC dC dC);rw [encV_eq] at hc ⊢;simp only [TL, go_sem, ir72, simprocAttr];have e1 : (9 : Int) - ((8 : Nat) : Int) = 1 := rfl;rw [e1] at hc;refine wps_call rfl hc ⟨rfl, rfl, rfl, rfl, trivial⟩ ?_;exact zz trivial
noncomputable def lp30 (c : Dat) (s : LoopState) (j : Option Code) : Av.Obj := .lp ⟨[(2, .ref 2 0), (3, .ref 3 0), (4, .ref 4 0), (10, .d c)], 46, #[11, 12], subC (codeOf Tryz.f119) [1, 1, 1, 0, 1, 0, 0], subC (codeOf Tryz.f119) [1, 1, 1, 0, 1, 0, 1], s, j⟩
theorem call72 (v : Val) (c : Dat) (e : Int) :
  CT 72 [.mp 57, .d (.ptr (encV v).cells)] [(57, some (lp30 c .ready none)), (2, some (.box [.d (.int .i64 e)])), (3, some (.box (rulesD.map .d))), (4, some (.box [.d (.int .i64 0)]))] (.tup [])
   [(57, if (visF 8 0 v).1 = 0 then lp30 c .ready none else lp30 c .done (some .ret)), (2, .box [.d (.int .i64 (if (visF 8 0 v).1 = 0 then e else (visF 8 0 v).1))]), (4, .box [.d (.int .i64 (visF 8 0 v).2)])] := by
 have hd : ∀ i x m, (hputs (get (TL c e 0)) (upsL c e x m) i).isSome = true → i = 1000 ∨ i = 1002 ∨ i = 1003 ∨ i = 1004 := by
  intro i x m h;rw [← get_puts] at h;have : (get (TL c e 0) i).isSome = true := by
   simp only [TL, upsL, puts, put, simprocAttr] at h;simp only [Av.get] at h ⊢;split at h
   ·simp [*]
   ·split at h
    ·simp [*]
    ·split at h
     ·simp [*]
     ·split at h
      ·simp [*]
      ·cases h
  exact TL_dom this
 have := (walk72 v c e).call (fun i => if i = 1000 then 57 else i - 1000) (fun i hi => by rcases TL_dom hi with rfl | rfl | rfl | rfl <;> decide)
  (fun i j hi hj h => by rcases hd i _ _ hi with rfl | rfl | rfl | rfl <;> rcases hd j _ _ hj with rfl | rfl | rfl | rfl <;> first | rfl | simp at h) (by simp [idsIn, Av.get]) (closedL c e 0) [] (by simp [Av.get]) (closedU c e 0 _ _) trivial
 have ha : ∀ x, (afterL c x).ren (fun i => if i = 1000 then 57 else i - 1000) = if x = 0 then lp30 c .ready none else lp30 c .done (some .ret) := by
  intro x;unfold afterL;split <;> simp [Obj.ren, renT, tmL, lpL, lp30, Av.ren]
 have hr : (Obj.box (rulesD.map .d)).ren (fun i => if i = 1000 then 57 else i - 1000) = .box (rulesD.map .d) := rfl;simp only [ha, hr, TL, upsL, List.map_cons, List.map_nil] at this;simp only [List.map_cons, List.map_nil, Obj.ren, Av.ren, renL, lpL, tmL, renT, List.append_nil, Nat.reduceSub, simprocAttr] at this;exact this
theorem wpc_rng {P : Program} {D : Nat → Prop} {f : Opd} {N lid : Nat} {ps : Array Nat} {c1 c2 : Code} {asg body : Ic} {Q : Exit → St → Prop} {st : St} {g : Nat} {vs : List Av} {T : List (Nat × Option Av.Obj)} {v : Av}
  {ups : List (Nat × Av.Obj)} {l : Lp} (hno : get st.hp lid = none) (ht : targetV (get st.tm) (.dyn f) [.mp lid] = some (.fn g, vs)) (hh : Has P g) (hc : CallOK P g vs T v ups)
  (hT : tgets (Av.upd (get st.hp) lid (some (.lp ⟨st.tm, N, ps, c1, c2, .ready, none⟩))) T) (hl : hputs (Av.upd (get st.hp) lid (some (.lp ⟨st.tm, N, ps, c1, c2, .ready, none⟩))) ups lid = some (.lp l)) (hb : l.s ≠ .busy)
  (hj : (l.j = none ∧ Q .normal ⟨st.tm, put (puts st.hp ups) lid .gone⟩) ∨ (l.j = some .ret ∧ Q .ret ⟨st.tm, put (puts st.hp ups) lid .gone⟩)) : wpc P D (.rng f N lid ps c1 c2 asg body) Q st := by
 simp only [wpc];refine ⟨hno, fun _ _ => ?_⟩;rw [ht];refine ⟨T, v, ups, hh, hc, hT, put (puts st.hp ups) lid .gone, l, fun i hi => by rw [get_put, if_neg hi, get_puts], by rw [get_put, if_pos rfl], hl, hb, ?_⟩;rcases hj with ⟨h, q⟩ | ⟨h, q⟩ <;> rw [h] <;> exact q
theorem walk119 (v : Val) : PT 119 [encV v] (.d (.int .i64 (chkV v))) := by
 refine ok119.pc ?_;have h91 := (walk41 v).call trivial;have h90 := walk211.call trivial;have h176 := call72 v (.fn (.func 72) [] [.ptr (encV v).cells]) 0;rw [encV_eq] at h91 h176 ⊢;simp only [go_sem, ir119, simprocAttr];refine wn h90 ?_;simp only [rulesD, go_sem, simprocAttr];refine wc h91 ?_;by_cases hx : (visF 8 0 v).1 = 0
 ·simp only [hx, ↓reduceIte] at h176;refine wpc_rng rfl rfl ok72.has h176 ⟨rfl, rfl, rfl, rfl, trivial⟩ rfl sP (.inl ⟨rfl, ?_⟩);simp only [go_sem, chkV, hx, simprocAttr]
 ·simp only [hx, ↓reduceIte] at h176;refine wpc_rng rfl rfl ok72.has h176 ⟨rfl, rfl, rfl, rfl, trivial⟩ rfl sP (.inr ⟨rfl, ?_⟩);simp only [go_sem, chkV, simprocAttr]
end Go.Proofs
namespace Go.Proofs
open Go Av
theorem two_dom {o1 o2 : Av.Obj} {i : Nat} (h : (get [(1000, o1), (1001, o2)] i).isSome = true) : i = 1000 ∨ i = 1001 := by
 simp only [Av.get] at h;split at h
 ·rename_i e; exact .inl e.symm
 ·split at h
  ·rename_i e; exact .inr e.symm
  ·cases h
theorem Con.two {P : Program} {f : Nat} {args : List Av} {o1 o2 : Av.Obj} {r : Dat} (h : Con P f args [(1000, o1), (1001, o2)] (.d r) []) (i j : Nat) (hij : i ≠ j)
  (hargs : ∀ c ∈ args, inT (get [(1000, o1), (1001, o2)]) c) (hcl : closed (get [(1000, o1), (1001, o2)])) :
  CallOK P f (args.map (Av.ren fun n => if n = 1000 then i else j)) [(i, some (o1.ren fun n => if n = 1000 then i else j)), (j, some (o2.ren fun n => if n = 1000 then i else j))] (.d r) [] := by
 have := h.call (fun n => if n = 1000 then i else j) (fun k hk => by rcases two_dom hk with rfl | rfl <;> decide) (fun a b ha hb e => ?_) hargs hcl [] sP hcl trivial
 ·simpa [Av.ren] using this
 ·rcases two_dom ha with rfl | rfl <;> rcases two_dom hb with rfl | rfl
  ·rfl
  ·simp at e; exact absurd e hij
  ·simp at e; exact absurd e.symm hij
  ·rfl
end Go.Proofs
namespace Go.Proofs
open Go.Shelf
end Go.Proofs
namespace Go.Proofs
open Go Av
end Go.Proofs
namespace Go.Proofs
open Go Av Go.RowKit
end Go.Proofs
namespace Go.Proofs
open Go Av
end Go.Proofs
namespace Go.Proofs
open Go Av Go.RowKit Go.Shelf
end Go.Proofs
namespace Av
open Go
end Av
namespace Go.Proofs
open Go Av Go.RowKit Go.Shelf
theorem take_get {α : Type} {l : List α} {m j : Nat} {v : α} (h : (l.take m)[j]? = some v) : l[j]? = some v := by
 rw [List.getElem?_take] at h;split at h
 ·exact h
 ·cases h
end Go.Proofs
namespace Go.Proofs
open Go Av Go.RowKit Go.Shelf
variable {A : Nat → Prop} {w : World} {F : List Dat} {V : List Value}
def Pt (A : Nat → Prop) (w : World) (F : List Dat) (V : List Value) : Prop := F.length = V.length ∧ ∀ (j : Nat) c v, F[j]? = some c → V[j]? = some v → Rep A w c v ∧ v.oneCell' = true
theorem Pt.app {F' : List Dat} {V' : List Value} (h : Pt A w F V) (h' : Pt A w F' V') : Pt A w (F ++ F') (V ++ V') := by
 refine ⟨by rw [List.length_append, List.length_append, h.1, h'.1], fun j c v hc hv => ?_⟩;by_cases hj : j < F.length
 ·rw [List.getElem?_append_left hj] at hc;rw [List.getElem?_append_left (by rw [← h.1]; exact hj)] at hv;exact h.2 j c v hc hv
 ·rw [List.getElem?_append_right oM] at hc;rw [List.getElem?_append_right (by rw [← h.1]; omega), ← h.1] at hv;exact h'.2 _ c v hc hv
theorem Pt.take (h : Pt A w F V) (k : Nat) : Pt A w (F.take k) (V.take k) :=
 ⟨by simp [h.1], fun j c v hc hv => h.2 j c v (take_get hc) (take_get hv)⟩
theorem Pt.drop (h : Pt A w F V) (k : Nat) : Pt A w (F.drop k) (V.drop k) :=
 ⟨by simp [h.1], fun j c v hc hv => by
  rw [List.getElem?_drop] at hc hv;exact h.2 _ c v hc hv⟩
theorem Pt.one {R : List Value} (h : Pt A w F V) (j : Nat) (v : Value) (hj : j < F.length) (hv : ((V ++ R).toArray)[j]? = some v) : v.oneCell' = true := by
 rw [List.getElem?_toArray, List.getElem?_append_left (by rw [← h.1]; exact hj)] at hv;exact (h.2 j _ v (List.getElem?_eq_getElem hj) hv).2
theorem Pt.rep {R : List Value} (h : Pt A w F V) (j : Nat) (c : Dat) (v : Value) (hc : F[j]? = some c) (hv : ((V ++ R).toArray)[j]? = some v) : Rep A w c v := by
 have hj : j < F.length := (List.getElem?_eq_some_iff.1 hc).1;rw [List.getElem?_toArray, List.getElem?_append_left (by rw [← h.1]; exact hj)] at hv;exact (h.2 j c v hc hv).1
end Go.Proofs
namespace Go.Proofs
open Go Av
open Av.Y
def ir75 : Ic := q (R (ox 1 0<|oN 2 vG<|N) [0])<|q (R (of 6 1 3<|oL 7 7 6<|cl 8 48 [t 7]<|of 9 1 3<|oS 7 9 8<|N) [6,7,8,9])<|q (R (of 10 1 10<|ol 11 10<|oh 12 11<|oo 13 (.mks 6 [.int .i64 0,.int .i64 0,.int .i64 0,.str [],.nil 6,.nil 7] (i 0) (t 12))<|om 3 13<|N) [10,11,12,13])<|q (q (R (of 14 1 10<|ol 15 14<|oh 16 15<|oz 17 0<|N) [14])<|D (.block 0<|.loop (q (.reg (ot 18 .lss 17 16<|N))<|q (D (I 18 S (E 0)) [18])<|q (D (.block 1<|q (R (oa true 19 6 15 17<|oL 20 6 19<|oN 5 v6<|oS 6 5 20<|N) [19,20])<|R (om 21 3<|oL 22 6 5<|cl 23 70 [t 22]<|oo 24 (.bls 6 [t 23])<|oo 25 (.app 6 (t 21) (t 24))<|om 3 25<|N) [5,21,22,23,24,25]) [])<|R (oi 26 .add 17 1<|om 17 26<|N) [26])) [15,16,17,18,5])<|q (R (om 27 3<|of 28 1 10<|os 28 27<|N) [3,27,28])<|q (R (oL 29 11 1<|oS 11 2 29<|N) [1,29])<|.ret
theorem ok75 : FT 75 30 ir75 [.cell 2 (some 11)] := .o Tryz.func75
def ir48 : Ic := q (R (ox 1 0<|oN 2 vT<|N) [0])<|q (R (of 9 1 5<|ol 10 9<|oh 11 10<|oo 12 (.mks 7 [.int .i64 0,.int .i64 0,.int .i64 0,.int .i64 0,.nil 1,.nil 7,.nil 11] (i 0) (t 11))<|om 3 12<|N) [9,10,11,12])<|q (q (R (of 13 1 5<|ol 14 13<|oh 15 14<|oz 16 0<|N) [13])<|D (.block 0<|.loop (q (.reg (ot 17 .lss 16 15<|N))<|q (D (I 17 S (E 0)) [17])<|q (D (.block 1<|q (R (oa true 18 7 14 16<|oL 19 7 18<|oN 5 vT<|oS 7 5 19<|N) [18,19])<|R (om 20 3<|oL 21 7 5<|cl 22 48 [t 21]<|oo 23 (.bls 7 [t 22])<|oo 24 (.app 7 (t 20) (t 23))<|om 3 24<|N) [5,20,21,22,23,24]) [])<|R (oi 25 .add 16 1<|om 16 25<|N) [25])) [14,15,16,17,5])<|q (R (of 26 1 6<|ol 27 26<|oh 28 27<|oo 29 (.mks 11 [.int .i64 0,.str [],.int .i64 0,.int .i64 0,.int .i64 0,.int .i64 0,.int .i64 0,.nil 1,.nil 7,.nil 11,.nil 6] (i 0) (t 28))<|om 6 29<|N) [26,27,28,29])<|q (q (R (of 30 1 6<|ol 31 30<|oh 32 31<|oz 33 0<|N) [30])<|D (.block 2<|.loop (q (.reg (ot 34 .lss 33 32<|N))<|q (D (I 34 S (E 2)) [34])<|q (D (.block 3<|q (R (oa true 35 11 31 33<|oL 36 11 35<|oN 8 vG<|oS 11 8 36<|N) [35,36])<|R (om 37 6<|oL 38 11 8<|cl 39 75 [t 38]<|oo 40 (.bls 11 [t 39])<|oo 41 (.app 11 (t 37) (t 40))<|om 6 41<|N) [8,37,38,39,40,41]) [])<|R (oi 42 .add 33 1<|om 33 42<|N) [42])) [31,32,33,34,8])<|q (R (of 43 1 4<|ol 44 43<|cl 45 76 [t 44]<|om 46 3<|om 47 6<|of 48 1 4<|os 48 45<|of 49 1 5<|os 49 46<|of 50 1 6<|os 50 47<|N) [3,6,43,44,45,46,47,48,49,50])<|q (R (oL 51 7 1<|oS 7 2 51<|N) [1,51])<|.ret
theorem ok48 : FT 48 52 ir48 [.cell 2 (some 7)] := .o Tryz.func48
end Go.Proofs
namespace Go.Proofs
open Go Av
mutual
theorem okV_fits : ∀ v : Val, fits (encV v) → okV v
 | .mk k i s t l f, h => by
  have h' : l.length ≤ 68719476736 ∧ f.length ≤ 68719476736 := (fits_V3 h).2;rw [encV_eq] at h;simp only [fits, fitsL, and_true, Val.list, Val.fields] at h;simp only [okV];exact ⟨h'.1, h'.2, okVs_fits l fun x hx => fitsL_iff.1 h.2.2.2.2.1.2 _ (List.mem_map.2 ⟨x, hx, rfl⟩), okFs_fits f fun x hx => fitsL_iff.1 h.2.2.2.2.2.2 _ (List.mem_map.2 ⟨x, hx, rfl⟩)⟩
theorem okVs_fits : ∀ l : List Val, (∀ x ∈ l, fits (encV x)) → okVs l
 | [], _ => by simp [okVs]
 | v :: r, h => by
  simp only [okVs];exact ⟨okV_fits v (h v (List.mem_cons_self)), okVs_fits r fun x hx => h x (List.mem_cons_of_mem _ hx)⟩
theorem okFs_fits : ∀ l : List Fld, (∀ x ∈ l, fits (encF x)) → okFs l
 | [], _ => by simp [okFs]
 | .mk n v :: r, h => by
  have h1 := h (.mk n v) (List.mem_cons_self);rw [encF_eq] at h1;have h2 : fits (encV v) := by
   rw [encV_eq];simp only [fits, fitsL, and_true, Fld.value] at h1 ⊢;exact h1.2
  simp only [okFs];exact ⟨okV_fits v h2, okFs_fits r fun x hx => h x (List.mem_cons_of_mem _ hx)⟩
end
theorem p70 (a : Val) : PT 70 [encV a] (.d (encV a)) := PCon.of_fits ok70.has fun h => walk70 a (okV_fits a (h _ (List.mem_cons_self)))
theorem p47 (a b : Val) : PT 47 [encV a, encV b] (.d (.bool (cmpV a b == 0))) := PCon.of_fits ok47.has fun h => walk47 a b (okV_fits a (h _ (List.mem_cons_self))) (okV_fits b (h _ (List.mem_cons_of_mem _ (List.mem_cons_self))))
theorem p282 (v : Val) (n : Str) : PT 282 [encV v, .str n] (.d (.int .i64 (ixN n v.fields))) := PCon.of_fits ok282.has fun h => walk282 v n (fits_V3 (h _ (List.mem_cons_self))).2.2
theorem p184 (s : Str) : PT 184 [.str s] (.d (.bool (nameS s))) := PCon.of_fits ok184.has fun h => walk184 s (by have := h _ (List.mem_cons_self); simpa [fits] using this)
def idxF (n : Str) (l : List Fld) : Option Nat := l.findIdx? fun f => f.name == n
theorem ixN_eq (n : Str) (l : List Fld) : ixN n l = match idxF n l with | some k => (k : Int) | none => -1 := rfl
def fieldR (v : Val) (n : Str) : Val × Bool := if v.kind ≠ 9 then (zeroV, false) else match idxF n v.fields with
 | some i => ((v.fields[i]?.map Fld.value).getD zeroV, true)
 | none => (zeroV, false)
theorem walk218 (v : Val) (n : Str) : PT 218 [encV v, .str n] (.tup [.d (encV (fieldR v n).1), .d (.bool (fieldR v n).2)]) := by
 refine ok218.pc ?_;have c := (p282 v n).call trivial;have hbd := ixF_bd (q := fun f => f.name == n) (l := v.fields);generalize hR : fieldR v n = R;rw [encV_eq v] at c ⊢;unfold fieldR at hR;have hix := ixN_eq n v.fields;generalize hI : ixN n v.fields = I at *;rw [encV_eq R.1];simp only [go_sem, ir218, simprocAttr];refine wc c ?_;refine sq (decide (I < 0)) ?_ ?_
 ·exact zz trivial
 refine zz ?_;apply ik <;> intro h
 ·have : R = (zeroV, false) := by
   rw [← hR];by_cases hk : v.kind = 9
   ·rw [if_neg (sX hk)];cases e : idxF n v.fields with
    | none => rfl
    | some i =>
     rw [e] at hix;simp only at hix;simp [hk] at h;omega
   ·rw [if_pos hk]
  rw [this];rfl
 ·simp only [Bool.or_eq_false_iff, bne_eq_false_iff_eq, decide_eq_false_iff_not] at h;obtain ⟨h1, h2⟩ := h;rw [if_neg (sX h1)] at hR;cases e : idxF n v.fields with
  | none => rw [e] at hix; simp only at hix; omega
  | some i =>
   rw [e] at hix hR;simp only at hix hR;have hil : i < v.fields.length := by
    obtain ⟨h, _⟩ := List.findIdx?_eq_some_iff_getElem.1 e;exact h
   rw [List.getElem?_eq_getElem hil] at hR;subst hix;subst hR;have hx := nth_encF hil;have c2 := (p70 v.fields[i].value).call trivial;rw [encV_eq v.fields[i].value] at c2;refine zz24 ?_;refine ⟨⟨oM, oM⟩, wn c2 ?_⟩;exact zz trivial
def ixG (q : TFl → Bool) (l : List TFl) : Int := match l.findIdx? q with
 | some k => (k : Int)
 | none => -1
theorem walk263 {g : Nat} {cs : List Dat} {q : TFl → Bool} (hq : ∀ x, PT g [encG x, .ptr cs] (.d (.bool (q x)))) (l : List TFl) (hl : l.length ≤ 68719476736) :
  PT 263 [.list 11 (l.map encG), cloD g cs] (.d (.int .i64 (ixG q l))) := by
 refine ok263.pc ?_;simp only [go_sem, ir263, List.length_map, simprocAttr];refine wpc_loop (fun n s => ∃ k : Nat, k ≤ l.length ∧ n = l.length - k ∧ (∀ (j : Nat) (h1 : j < l.length), j < k → q l[j] = false) ∧
  s = ⟨[(0, .d (.list 11 (l.map encG))), (1, .d (cloD g cs)), (7, .d (.int .i64 l.length)), (8, .d (.int .i64 k))], []⟩) ?_ ?_
 ·exact ⟨_, _, Wk.refl _, 0, Nat.zero_le _, rfl, sP, rfl⟩
 ·rintro n s ⟨k, hk, rfl, hinv, rfl⟩;by_cases hlt : k < l.length
  ·have hx := nth_encG hlt;have hd := dT hlt;have hc := (hq l[k]).call trivial;rw [encG_eq] at hc;refine zz6 ?_;refine ⟨oM, wn hc ?_⟩;refine zz ?_;apply ik <;> intro hf
   ·have : l.findIdx? q = some k := by
     rw [List.findIdx?_eq_some_iff_getElem];exact ⟨hlt, hf, fun j hj => by rw [hinv j oM hj]; decide⟩
    simp only [ixG, this]
   ·refine ⟨l.length - (k + 1), _, oM, Wk.less ?_, k + 1, oM, rfl, ?_, rfl⟩
    ·exact zz7 trivial
    ·intro j h1 hj;by_cases e : j = k
     ·subst e; exact hf
     ·exact hinv j h1 oM
  ·have hd := dF hlt;refine zz5 ?_;have : l.findIdx? q = none := by
    rw [List.findIdx?_eq_none_iff];intro x hx;obtain ⟨j, hj, rfl⟩ := List.getElem_of_mem hx;exact hinv j hj oM
   simp only [ixG, this]
theorem walk281 (x : TFl) (n : Str) : PT 281 [encG x, .ptr [.str n]] (.d (.bool (x.name == n))) := by
 refine ok281.pc ?_;rw [encG_eq];simp only [go_sem, ir281, Nat.reduceAdd, Nat.reduceEqDiff, Nat.reduceBEq, Nat.reduceLeDiff, reduceCtorEq, ↓reduceIte];exact Nat.one_pos
def idxG (n : Str) (l : List TFl) : Option Nat := l.findIdx? fun f => f.name == n
def ixM (n : Str) (l : List TFl) : Int := ixG (fun f => f.name == n) l
theorem ixM_eq (n : Str) (l : List TFl) : ixM n l = match idxG n l with | some k => (k : Int) | none => -1 := rfl
def ty0 : Typ := .mk 0 0 0 0 [] [] []
def tf0 : TFl := .mk 0 [] 0 ty0 []
theorem fits_T {t : Typ} (h : fits (encT t)) : t.words.length ≤ 68719476736 ∧ t.elem.length ≤ 68719476736 ∧ t.fields.length ≤ 68719476736 := by
 rw [encT_eq] at h;simp only [fits, fitsL, List.length_map, and_true] at h;exact ⟨h.2.2.2.2.1.1, h.2.2.2.2.2.1.1, h.2.2.2.2.2.2.1⟩
def tfR (t : Typ) (n : Str) : TFl × Bool := match idxG n t.fields with
 | some i => ((t.fields[i]?).getD tf0, true)
 | none => (tf0, false)
end Go.Proofs
namespace Av
open Go Go.RowKit
variable [Glb] [Rls]
theorem CallOK.of_callsN {P : Program} {f : Nat} {ds : List Dat} {x : Dat} (hh : Has P f)
  (h : ∀ (A : Nat → Prop) (w : World) (vs : Array Value), ds.length = vs.size → (∀ (i : Nat) d u, ds[i]? = some d → vs[i]? = some u → Rep A w d u) →
   Calls P f vs w fun e w' => ∃ u, e = .returned u ∧ Below w.heap.size w w' ∧ Rep (fun b => A b ∨ (w.heap.size ≤ b ∧ b < w'.heap.size)) w' x u) : CallOK P f (ds.map .d) [] (.d x) [] := by
 intro β A w H vs _ hc hvs;have hl : ds.length = vs.size := sX hvs.1;refine .inl ⟨hh, (h A w vs hl ?_).mono ?_⟩
 ·intro i d u hd hu;have := hvs.2 i (.d d) u (by rw [List.getElem?_map, hd]; rfl) hu;exact this.of_d
 ·rintro e w' ⟨u, rfl, hb, hr⟩;refine ⟨u, rfl, β, fun b => A b ∨ (w.heap.size ≤ b ∧ b < w'.heap.size), ?_, .d _ _ hr⟩;refine Stp.new hc hb.os hb.tape hb.output hb.size hb.block (fun _ h => .inl h) ?_ ?_
  ·rintro b (h | h)
   ·exact .inl h
   ·exact .inr h.1
  ·rintro b (h | h)
   ·exact Nat.lt_of_lt_of_le (hc.old b h) hb.size
   ·exact h.2
theorem rep_owns {A : Nat → Prop} {w w' : World} {e : TypeId} {v : Value} {n : Nat} {ss : List (List UInt8)} (hn : n = ss.length) (hs : ∀ s ∈ ss, s.length ≤ 68719476736) (hl : ss.length ≤ 68719476736)
  (h : w'.ownsRow w.heap.size e 1 v n (ss.map fun s => Value.string ⟨s.toArray⟩)) : Rep (fun b => A b ∨ (w.heap.size ≤ b ∧ b < w'.heap.size)) w' (.list 1 (ss.map .str)) v := by
 obtain ⟨h1, ⟨rfl, h0⟩ | ⟨g, cap, cur, rfl, hg, hh, hcap, _, hcur, htake⟩⟩ := h
 ·have : ss = [] := by cases ss with
   | nil => rfl
   | cons a r => simp at hn; omega
  subst this;exact .emp 1 none 0
 ·have hlt : g < w'.heap.size := (Array.getElem?_eq_some_iff.1 hh).1;refine .list 1 _ g 0 n cap (ss.map fun s => Value.string ⟨s.toArray⟩) (sX hn) (.inr ⟨hg, hlt⟩) sO (sX hl) ?_ ?_ ?_ ?_ ?_
  ·intro u hu; obtain ⟨s, _, rfl⟩ := List.mem_map.1 hu; rfl
  ·intro x hx; obtain ⟨s, _, rfl⟩ := List.mem_map.1 hx; rfl
  ·intro i u hu;have : (cur.toList.take (n * 1))[i]? = some u := by rw [htake]; exact hu
   rw [List.getElem?_take] at this;split at this
   ·simp only [World.cell?, hh, Nat.zero_add];simpa using this
   ·cases this
  ·rw [flat_str]; simp
  ·intro i c u hc hu;rw [flat_str, List.getElem?_map] at hc;rw [List.getElem?_map] at hu;cases q : ss[i]? with
   | none => rw [q] at hc; cases hc
   | some s =>
    rw [q] at hc hu;cases hc;cases hu;exact .str s (hs s (List.mem_of_getElem? q))
end Av
namespace Go.Proofs
open Go.Shelf
def Tryz.laysClone_ren : Go.Shelf.Ren := ⟨fun | 16 => 76 | n => n, fun | 24 => 22 | 9 => 9 | 4 => 4 | n => n, fun | n => n⟩
theorem Tryz.laysClone : Go.Proofs.Lays2.n16 Tryz.prog Tryz.laysClone_ren := {
 mixed := kR
 f16 := Tryz.func76.trans (congrArg some kR)
 t4 := Tryz.underlying4
 a4 := Tryz.isAgg4
 z4 := Tryz.sizeOf4
 v4 := Tryz.zeroValue4
 t9 := Tryz.underlying9
 a9 := Tryz.isAgg9
 z9 := Tryz.sizeOf9
 v9 := Tryz.zeroValue9
 t24 := Tryz.underlying22
 a24 := Tryz.isAgg22
 z24 := Tryz.sizeOf22
 v24 := Tryz.zeroValue22
 i9 := by kernel_rfl }
end Go.Proofs
namespace Go.Proofs
open Go Av Go.RowKit
theorem clone196 (ss : List Str) : CT 76 [.d (.list 1 (ss.map .str))] [] (.d (.list 1 (ss.map .str))) [] := by
 refine CallOK.of_callsN (ds := [.list 1 (ss.map .str)]) ⟨_, Tryz.func76, kR, kR⟩ fun A w vs hl hv => ?_
 obtain ⟨v, rfl⟩ := size_one (sX hl);have hr := hv 0 _ v rfl rfl;have hf := hr.fits;simp only [fits, List.length_map] at hf;have hfl : (flat (ss.map Dat.str)) = ss.map .str := flat_str ss;have hs : ∀ s ∈ ss, s.length ≤ 68719476736 := fun s h => fitsL_iff.1 hf.2 (.str s) (List.mem_map.2 ⟨s, h, rfl⟩)
 generalize hD : ss.map Dat.str = D at hr hfl;cases hr with
 | emp _ a cap =>
  obtain rfl : ss = [] := List.map_eq_nil_iff.1 hD;cases a with
  | none => exact (Any.slices_Clone_string_nil Tryz.laysClone 0 cap w).mono fun e w' ⟨h1, h2⟩ => ⟨_, h1, by rw [h2]; exact Below.refl _ _, .emp 1 none 0⟩
  | some a =>
   refine (Any.slices_Clone_string_zero Tryz.laysClone a cap w).mono ?_;rintro e w' ⟨v', rfl, h, _, hb⟩;exact ⟨_, rfl, hb, rep_owns (ss := []) rfl sP sP h⟩
 | list _ _ b o n cap vs hn hA hcap hc h1 hsz hh hvl hvv =>
  subst hD;have hlen : n = ss.length := sX hn;have hcell : ∀ j (h : j < ss.length), vs[j]? = some (.string ⟨ss[j].toArray⟩) := by
   intro j h;rw [flat_str] at hvl;have hj : j < vs.length := by simp at hvl; omega
   have := hvv j (.str ss[j]) vs[j] (by rw [flat_str]; simp [h]) (by simp [hj]);rw [List.getElem?_eq_getElem hj];generalize vs[j] = z at this;cases this;rfl
  refine (Any.slices_Clone_string Tryz.laysClone b o n cap (ss.map fun s => ⟨s.toArray⟩) w sO oM ?_).mono ?_
  ·intro j hj;have hj' : j < ss.length := sX hj;have := hh j _ (hcell j hj');rw [this];simp [hj']
  ·rintro e w' ⟨v', rfl, h, _, hb⟩;rw [List.take_of_length_le sO, List.map_map] at h;exact ⟨_, rfl, hb, rep_owns hlen hs hf.1 h⟩
end Go.Proofs
namespace Av
open Go
variable [Glb] [Rls]
theorem PCon.callClo {P : Program} {f g : Nat} {d : Dat} {cs : List Dat} {r : Av} (h : PCon P f [d, cloD g cs] r) (hr : pureR r) (i : Nat) :
  CallOK P f [.d d, .clo (.func g) [] [.ref i 0]] [(i, some (.box (cs.map .d)))] r [(i, .fbox cs)] := by
 intro β A w H vs hT hc hvs;have hi : H i = some (.box (cs.map .d)) := hT _ (List.mem_singleton.2 rfl);have st := Stp.freezeBox hc hi (allD_map cs);obtain ⟨x1, x2, rfl⟩ : ∃ x y, vs = #[x, y] := by
  have h2 : 2 = vs.size := sX hvs.1;refine ⟨vs[0], vs[1], ?_⟩;apply Array.ext
  ·simp [← h2]
  ·intro i h1 h2;have : i = 0 ∨ i = 1 := oM;rcases this with rfl | rfl <;> rfl
 have v1 := st.vals _ _ (hvs.2 0 _ x1 rfl rfl);have v2 := st.vals _ _ (hvs.2 1 _ x2 rfl rfl);have hv2 : Rep (fun k => A k ∨ β i = some k) w (cloD g cs) x2 := by
  cases v2 with
  | clo _ _ _ a1 a2 l1 l2 hf hvv =>
   refine .fn _ _ _ a1 a2 l1 (sX l2) (by intro j c v hj; cases hj) ?_;intro k c v hk hkv
   match k, hk with
   | 0, hk =>
    cases hk;have hrf := hvv 0 _ v rfl hkv;cases hrf with
    | ref _ _ _ _ _ hu g0 g1 g2 =>
     have := g2 cs sU;simpa using this
   | k + 1, hk => cases hk
 have := h.call hr β _ w _ #[x1, x2] sP st.core ⟨rfl, fun k c u h1 h2 => by
  match k, h1, h2 with
  | 0, h1, h2 => cases h1; cases h2; exact v1
  | 1, h1, h2 => cases h1; cases h2; exact .d _ _ hv2
  | k + 2, h1, h2 => cases h1⟩
 rcases this with ⟨a1, a2⟩ | ⟨u, w', a1, β', A', a2, a3⟩
 ·refine .inl ⟨a1, a2.mono ?_⟩;rintro e w' ⟨u, rfl, β', A', b1, b2⟩;exact ⟨u, rfl, β', A', st.trans b1, b2⟩
 ·exact .inr ⟨u, w', a1, β', A', st.trans a2, a3⟩
end Av
namespace Go.Proofs
open Go Av
theorem step75 (g : TFl) (h : PT 48 [encT g.type] (.d (encT g.type))) : PT 75 [encG g] (.d (encG g)) := by
 refine PCon.of_fits ok75.has fun hfit => ?_
 have hdl : g.dflt.length ≤ 68719476736 := by
  have := hfit _ (List.mem_cons_self);rw [encG_eq] at this;simp only [fits, fitsL, List.length_map, and_true] at this;exact this.2.2.2.2.2.2.2.2.2.2.1
 refine ok75.pc ?_;have c := h.call trivial;rw [encT_eq] at c;rw [encG_eq];simp only [go_sem, ir75, simprocAttr];refine wc c ?_;refine ⟨⟨Int.le_refl _, sP, sO⟩, ?_⟩;refine wpc_loop (fun n s => ∃ k : Nat, k ≤ g.dflt.length ∧ n = g.dflt.length - k ∧
  s = ⟨[(1, .ref 1 0), (2, .ref 2 0), (3, .ms 13 k), (15, .d (.list 6 (g.dflt.map encV))), (16, .d (.int .i64 g.dflt.length)), (17, .d (.int .i64 k))],
   [(1, .box [.d (.int .i64 g.number), .d (.str g.name), .d (.int .i64 g.need), .d (.int .i64 g.type.kind), .d (.int .i64 g.type.min), .d (.int .i64 g.type.max), .d (.int .i64 g.type.scale), .d (.list 1 (g.type.words.map .str)), .d (.list 7 (g.type.elem.map encT)), .d (.list 11 (g.type.fields.map encG)), .d (.list 6 (g.dflt.map encV))]), (2, .box [.d (.int .i64 0), .d (.str []), .d (.int .i64 0), .d (.int .i64 0), .d (.int .i64 0), .d (.int .i64 0), .d (.int .i64 0), .d (.nil 1), .d (.nil 7), .d (.nil 11), .d (.nil 6)]), (13, .row k 6 ((g.dflt.take k).map encV))]⟩) ?_ ?_
 ·exact ⟨_, _, Wk.refl _, 0, Nat.zero_le _, rfl, sP⟩
 ·rintro n s ⟨k, hk, rfl, rfl⟩;by_cases hlt : k < g.dflt.length
  ·have hx := nth_encV hlt;have hd := dT hlt;have hc := (p70 g.dflt[k]).call trivial;rw [encV_eq] at hc;refine zz6 ?_;refine ⟨oM, wn hc ?_⟩;refine zz ?_;refine ⟨sP, sO, ?_⟩;refine ⟨g.dflt.length - (k + 1), _, oM, Wk.less ?_, k + 1, oM, rfl, rfl⟩;rw [List.take_succ_eq_append_getElem hlt, List.map_append];simp only [go_sem, wrap64s k oM, List.map_cons, List.map_nil, encV_eq g.dflt[k], Nat.reduceAdd, Nat.reduceEqDiff, Nat.reduceBEq, Nat.reduceLeDiff, reduceCtorEq, ↓reduceIte]
  ·have hd := dF hlt;obtain rfl : k = g.dflt.length := oM;exact zz21 trivial
theorem step48 (t : Typ) (h1 : ∀ x ∈ t.elem, PT 48 [encT x] (.d (encT x))) (h2 : ∀ g ∈ t.fields, PT 75 [encG g] (.d (encG g))) : PT 48 [encT t] (.d (encT t)) := by
 refine PCon.of_fits ok48.has fun hfit => ?_
 obtain ⟨f1, f2, f3⟩ := fits_T (hfit _ (List.mem_cons_self));refine ok48.pc ?_;rw [encT_eq];simp only [go_sem, ir48, Nat.reduceAdd, Nat.reduceEqDiff, Nat.reduceBEq, Nat.reduceLeDiff, reduceCtorEq, ↓reduceIte];refine ⟨⟨Int.le_refl _, sP, sO⟩, ?_⟩;refine wpc_loop (fun n s => ∃ k : Nat, k ≤ t.elem.length ∧ n = t.elem.length - k ∧
  s = ⟨[(1, .ref 1 0), (2, .ref 2 0), (3, .ms 12 k), (14, .d (.list 7 (t.elem.map encT))), (15, .d (.int .i64 t.elem.length)), (16, .d (.int .i64 k))],
   [(1, .box [.d (.int .i64 t.kind), .d (.int .i64 t.min), .d (.int .i64 t.max), .d (.int .i64 t.scale), .d (.list 1 (t.words.map .str)), .d (.list 7 (t.elem.map encT)), .d (.list 11 (t.fields.map encG))]), (2, .box [.d (.int .i64 0), .d (.int .i64 0), .d (.int .i64 0), .d (.int .i64 0), .d (.nil 1), .d (.nil 7), .d (.nil 11)]), (12, .row k 7 ((t.elem.take k).map encT))]⟩) ?_ ?_
 ·exact ⟨_, _, Wk.refl _, 0, Nat.zero_le _, rfl, sP⟩
 ·rintro n s ⟨k, hk, rfl, rfl⟩;by_cases hlt : k < t.elem.length
  ·have hx := nth_encT hlt;have hd := dT hlt;have hc := (h1 t.elem[k] (List.getElem_mem _)).call trivial;rw [encT_eq] at hc;refine zz6 ?_;refine ⟨oM, wn hc ?_⟩;refine zz ?_;refine ⟨sP, sO, ?_⟩;refine ⟨t.elem.length - (k + 1), _, oM, Wk.less ?_, k + 1, oM, rfl, rfl⟩;rw [List.take_succ_eq_append_getElem hlt, List.map_append];simp only [go_sem, wrap64s k oM, List.map_cons, List.map_nil, encT_eq t.elem[k], Nat.reduceAdd, Nat.reduceEqDiff, Nat.reduceBEq, Nat.reduceLeDiff, reduceCtorEq, ↓reduceIte]
  ·have hd := dF hlt;obtain rfl : k = t.elem.length := oM;refine zz21 ?_;refine ⟨⟨Int.le_refl _, sP, sO⟩, ?_⟩;refine wpc_loop (fun n s => ∃ k : Nat, k ≤ t.fields.length ∧ n = t.fields.length - k ∧
    s = ⟨[(1, .ref 1 0), (2, .ref 2 0), (3, .ms 12 t.elem.length), (6, .ms 29 k), (31, .d (.list 11 (t.fields.map encG))), (32, .d (.int .i64 t.fields.length)), (33, .d (.int .i64 k))],
     [(1, .box [.d (.int .i64 t.kind), .d (.int .i64 t.min), .d (.int .i64 t.max), .d (.int .i64 t.scale), .d (.list 1 (t.words.map .str)), .d (.list 7 (t.elem.map encT)), .d (.list 11 (t.fields.map encG))]), (2, .box [.d (.int .i64 0), .d (.int .i64 0), .d (.int .i64 0), .d (.int .i64 0), .d (.nil 1), .d (.nil 7), .d (.nil 11)]), (12, .row t.elem.length 7 (t.elem.map encT)), (29, .row k 11 ((t.fields.take k).map encG))]⟩) ?_ ?_
   ·refine ⟨_, _, Wk.less ?_, 0, Nat.zero_le _, rfl, rfl⟩;simp [go_sem]
   ·rintro n s ⟨k, hk, rfl, rfl⟩;by_cases hlt : k < t.fields.length
    ·have hx := nth_encG hlt;have hd := dT hlt;have hc := (h2 t.fields[k] (List.getElem_mem _)).call trivial;rw [encG_eq] at hc;refine zz6 ?_;refine ⟨oM, wn hc ?_⟩;refine zz ?_;refine ⟨sP, sO, ?_⟩;refine ⟨t.fields.length - (k + 1), _, oM, Wk.less ?_, k + 1, oM, rfl, rfl⟩;rw [List.take_succ_eq_append_getElem hlt, List.map_append];simp only [go_sem, wrap64s k oM, List.map_cons, List.map_nil, encG_eq t.fields[k], Nat.reduceAdd, Nat.reduceEqDiff, Nat.reduceBEq, Nat.reduceLeDiff, reduceCtorEq, ↓reduceIte]
    ·have hd := dF hlt;obtain rfl : k = t.fields.length := oM;refine zz21 ?_;refine wc (clone196 t.words) trivial
mutual
theorem p48 : ∀ t : Typ, PT 48 [encT t] (.d (encT t))
 | .mk k a b s w e f => step48 _ (p48s e) (p75s f)
theorem p48s : ∀ l : List Typ, ∀ x ∈ l, PT 48 [encT x] (.d (encT x))
 | [], x, h => by cases h
 | t :: r, x, h => by
  have h0 := p48 t;have h1 := p48s r x;rcases List.mem_cons.1 h with e | h
  ·rw [e]; exact h0
  ·exact h1 h
theorem p75 : ∀ g : TFl, PT 75 [encG g] (.d (encG g))
 | .mk n m d t v => step75 _ (p48 t)
theorem p75s : ∀ l : List TFl, ∀ x ∈ l, PT 75 [encG x] (.d (encG x))
 | [], x, h => by cases h
 | t :: r, x, h => by
  have h0 := p75 t;have h1 := p75s r x;rcases List.mem_cons.1 h with e | h
  ·rw [e]; exact h0
  ·exact h1 h
end
def fldR (t : Typ) (n : Str) : TFl × Bool := if t.kind ≠ 9 ∧ t.kind ≠ 10 then (tf0, false) else tfR t n
theorem fnd_at {cs : List Dat} {g : Nat} (n : Str) (t : Typ) (hq : ∀ x, PT g [encG x, .ptr cs] (.d (.bool (x.name == n)))) : PT 280 [encT t, cloD g cs] (.tup [.d (encG (fldR t n).1), .d (.bool (fldR t n).2)]) := by
 refine PCon.of_fits ok280.has fun hfit => ?_
 have hl := (fits_T (hfit _ (List.mem_cons_self))).2.2;refine ok280.pc ?_;have c := (walk263 hq t.fields hl).call trivial;have hix := ixM_eq n t.fields;unfold ixM at hix;generalize hR : fldR t n = R;unfold fldR tfR at hR;rw [encT_eq, encG_eq R.1];simp only [go_sem, ir280, simprocAttr];refine sq (t.kind != 10) ?_ ?_
 ·exact zz trivial
 refine zz ?_;apply ik <;> intro h
 ·rw [if_pos (sX h)] at hR;rw [← hR];rfl
 rw [if_neg (sX h)] at hR;refine wc c ?_;apply ik <;> intro h
 ·simp only [decide_eq_true_eq] at h;cases e : idxG n t.fields with
  | none =>
   rw [e] at hR;rw [← hR];rfl
  | some i => rw [e] at hix; simp only at hix; omega
 ·simp only [decide_eq_false_iff_not] at h;cases e : idxG n t.fields with
  | none => rw [e] at hix; simp only at hix; omega
  | some i =>
   have hil : i < t.fields.length := by
    obtain ⟨h, _⟩ := List.findIdx?_eq_some_iff_getElem.1 e;exact h
   rw [e] at hix hR;simp only at hix hR;rw [List.getElem?_eq_getElem hil] at hR;subst hR;have hx := nth_encG hil;have c2 := (p75 t.fields[i]).call trivial;rw [encG_eq] at c2;rw [hix];refine zz24 ?_;refine ⟨⟨oM, oM⟩, wn c2 ?_⟩;exact zz trivial
theorem walk216 (t : Typ) (n : Str) : PT 216 [encT t, .str n] (.tup [.d (encG (fldR t n).1), .d (.bool (fldR t n).2)]) := by
 refine ok216.pc ?_;have c := (fnd_at n t fun x => walk281 x n).callClo (by simp [pureR]) 3;generalize fldR t n = R at *;rw [encT_eq, encG_eq] at c;rw [encT_eq, encG_eq];simp only [go_sem, ir216, simprocAttr];refine wc c trivial
theorem tfR_mem {t : Typ} {n : Str} (h : (tfR t n).2 = true) : (tfR t n).1 ∈ t.fields := by
 unfold tfR at h ⊢;cases e : idxG n t.fields with
 | none => rw [e] at h; cases h
 | some i =>
  have hil : i < t.fields.length := by
   obtain ⟨h, _⟩ := List.findIdx?_eq_some_iff_getElem.1 e;exact h
  simp only [List.getElem?_eq_getElem hil, Option.getD_some];exact List.getElem_mem hil
mutual
def szT : Typ → Nat
 | .mk _ _ _ _ _ e f => 1 + szTs e + szGs f
def szTs : List Typ → Nat
 | [] => 0
 | v :: r => szT v + szTs r
def szGs : List TFl → Nat
 | [] => 0
 | .mk _ _ _ t _ :: r => szT t + szGs r
end
theorem szT_eq (t : Typ) : szT t = 1 + szTs t.elem + szGs t.fields := by cases t; rfl
theorem szTs_mem : ∀ {l : List Typ}, ∀ x ∈ l, szT x ≤ szTs l
 | v :: r, x, hx => by
  simp only [szTs];rcases List.mem_cons.1 hx with rfl | hx
  ·omega
  ·have := szTs_mem x hx; omega
theorem szGs_mem : ∀ {l : List TFl}, ∀ x ∈ l, szT x.type ≤ szGs l
 | .mk a b c t d :: r, x, hx => by
  simp only [szGs];rcases List.mem_cons.1 hx with rfl | hx
  ·show szT t ≤ _; omega
  ·have := szGs_mem x hx; omega
end Go.Proofs
namespace Go.Proofs
open Go Av
open Av.Y
end Go.Proofs
namespace Go.Proofs
open Go Av
abbrev TF (b : Bool) : List (Nat × Av.Obj) := [(1000, .box [.clo (.func 0) [] [.ref 1001 0], .d (.bool (!b))]), (1001, .box [.d (.bool b)])]
theorem closedTF (b c : Bool) : closed (hputs (Av.get (TF b)) (TF c)) := by
 refine closed_puts ?_;simp [TF, puts, put, closedH, objIn, idsInL, idsIn, Av.get]
theorem closedT1 (b : Bool) : closed (Av.get (TF b)) := by
 refine closed_of ?_;simp [TF, closedH, objIn, idsInL, idsIn, Av.get]
theorem TF_dom {b : Bool} {i : Nat} (h : (Av.get (TF b) i).isSome = true) : i = 1000 ∨ i = 1001 := by
 simp only [TF, Av.get] at h
 repeat' split at h
 all_goals first | (cases h; done) | skip
 all_goals rename_i e
 all_goals first | omega | skip
theorem TF_put (b c : Bool) : puts (TF b) (TF c) = TF c := by simp [TF, puts, put]
theorem TF_hput (b c : Bool) : hputs (Av.get (TF b)) (TF c) = Av.get (TF c) := by rw [← get_puts, TF_put]
abbrev FCon (f : Nat) (ds : List Dat) (b c : Bool) : Prop := KT f (.ref 1000 0 :: ds.map .d) (TF b) (.tup []) (TF c)
theorem FCon.at {f : Nat} {ds : List Dat} {b c : Bool} (h : FCon f ds b c) (i j : Nat) (hij : i ≠ j) :
  CT f (.ref i 0 :: ds.map .d) [(i, some (.box [.clo (.func 0) [] [.ref j 0], .d (.bool (!b))])), (j, some (.box [.d (.bool b)]))] (.tup []) [(i, .box [.clo (.func 0) [] [.ref j 0], .d (.bool (!c))]), (j, .box [.d (.bool c)])] := by
 have := Con.call h (fun m => if m = 1000 then i else j) (fun m hm => by rcases TF_dom hm with rfl | rfl <;> omega)
  (fun a b' ha hb e => by
   rw [TF_hput] at ha hb;rcases TF_dom ha with rfl | rfl <;> rcases TF_dom hb with rfl | rfl
   ·rfl
   ·simp at e; exact absurd e hij
   ·simp at e; exact absurd e.symm hij
   ·rfl)
  (by
   intro c hc;rcases List.mem_cons.1 hc with rfl | hc
   ·simp [inT, TF, Av.get, idsIn]
   ·obtain ⟨x, _, rfl⟩ := List.mem_map.1 hc; trivial) (closedT1 b) [] (by simp [TF, Av.get]) (closedTF b c) trivial
 have e : (ds.map Av.d).map (Av.ren fun m => if m = 1000 then i else j) = ds.map Av.d := by
  rw [List.map_map]; exact List.map_congr_left fun x _ => by simp [Av.ren]
 simp only [TF, List.map_cons, List.map_nil, Obj.ren, Av.ren, renL, List.append_nil, e, simprocAttr] at this;exact this
def inB (t : Typ) (n : Int) : Bool := !(decide (n < t.min) || decide (n > t.max))
theorem walk278 (l : List Str) (s : Str) (hl : l.length ≤ 68719476736) : ∃ n : Int, (n ≥ 0 ↔ s ∈ l) ∧ PT 278 [.list 1 (l.map .str), .str s] (.d (.int .i64 n)) := by
 refine ⟨match l.findIdx? (fun x => s == x) with | some k => (k : Int) | none => -1, ?_, ?_⟩
 ·cases e : l.findIdx? (fun x => s == x) with
  | none =>
   rw [List.findIdx?_eq_none_iff] at e;refine ⟨fun h => absurd h (by simp), fun h => ?_⟩;have := e s h;simp at this
  | some k =>
   obtain ⟨h1, h2, _⟩ := List.findIdx?_eq_some_iff_getElem.1 e;refine ⟨fun _ => ?_, fun _ => by simp⟩;have : s = l[k] := by simpa using h2
   rw [this];exact List.getElem_mem h1
 generalize hR : (match l.findIdx? (fun x => s == x) with | some k => (k : Int) | none => -1) = R;refine ok278.pc ?_;simp only [go_sem, ir278, List.length_map, Nat.reduceAdd, Nat.reduceEqDiff, Nat.reduceBEq, Nat.reduceLeDiff, Int.reduceBEq, reduceCtorEq, ↓reduceIte];refine wpc_loop (fun n z => ∃ k : Nat, k ≤ l.length ∧ n = l.length - k ∧ (∀ (j : Nat) (h1 : j < l.length), j < k → (s == l[j]) = false) ∧
  z = ⟨[(0, .d (.list 1 (l.map .str))), (1, .d (.str s)), (7, .d (.int .i64 l.length)), (8, .d (.int .i64 k))], []⟩) ?_ ?_
 ·exact ⟨_, _, Wk.refl _, 0, Nat.zero_le _, rfl, by simp, rfl⟩
 ·rintro n z ⟨k, hk, rfl, hinv, rfl⟩;by_cases hlt : k < l.length
  ·have hx : nth (l.map Dat.str) k = .str l[k] := by rw [nth_eq (by simpa using hlt), List.getElem_map]
   have hd : decide ((k : Int) < (l.length : Int)) = true := by simp; omega
   simp only [go_sem, hx, hd, Int.toNat_natCast, List.length_map, Nat.reduceAdd, Nat.reduceEqDiff, Nat.reduceBEq, Nat.reduceLeDiff, Int.reduceBEq, reduceCtorEq, ↓reduceIte];refine ⟨by omega, by decide, ?_⟩;refine ⟨fun hf => ?_, fun hf => ?_⟩
   ·have e : l.findIdx? (fun x => s == x) = some k := by
     rw [List.findIdx?_eq_some_iff_getElem];exact ⟨hlt, hf, fun j hj => by rw [hinv j (by omega) hj]; decide⟩
    rw [e] at hR;rw [← hR]
   ·refine ⟨l.length - (k + 1), _, by omega, Wk.less ?_, k + 1, by omega, rfl, ?_, rfl⟩
    ·simp only [go_sem, wrap64s k (by omega), Nat.reduceAdd, Nat.reduceEqDiff, Nat.reduceBEq, Nat.reduceLeDiff, Int.reduceBEq, reduceCtorEq, ↓reduceIte]
    ·intro j h1 hj;by_cases e : j = k
     ·subst e; exact hf
     ·exact hinv j h1 (by omega)
  ·have hd : decide ((k : Int) < (l.length : Int)) = false := by simp; omega
   simp only [go_sem, hd, Nat.reduceAdd, Nat.reduceEqDiff, Nat.reduceBEq, Nat.reduceLeDiff, Int.reduceBEq, reduceCtorEq, ↓reduceIte];have e : l.findIdx? (fun x => s == x) = none := by
    rw [List.findIdx?_eq_none_iff];intro x hx;obtain ⟨j, hj, rfl⟩ := List.getElem_of_mem hx;exact hinv j hj (by omega)
   rw [e] at hR;rw [← hR]
theorem walk213 (l : List Str) (s : Str) (hl : l.length ≤ 68719476736) : PT 213 [.list 1 (l.map .str), .str s] (.d (.bool (decide (s ∈ l)))) := by
 refine ok213.pc ?_;obtain ⟨n, hn, hc⟩ := walk278 l s hl;have c := hc.call trivial;simp only [go_sem, ir213, simprocAttr];refine wn c ?_;simp only [go_sem, hn, simprocAttr]
def flatV (w : Val) : Prop := w.list = [] ∧ w.fields = []
mutual
def okT : Val → Prop
 | .mk _ _ _ t l f => t.length ≤ 4096 ∧ okTs l ∧ okTf f
def okTs : List Val → Prop
 | [] => True
 | v :: r => okT v ∧ okTs r
def okTf : List Fld → Prop
 | [] => True
 | .mk n v :: r => n.length ≤ 4096 ∧ okT v ∧ okTf r
end
theorem okT_eq (v : Val) : okT v ↔ v.text.length ≤ 4096 ∧ okTs v.list ∧ okTf v.fields := by cases v; rfl
mutual
def nmV : Val → Prop
 | .mk _ _ _ _ l f => nmVs l ∧ nmVf f
def nmVs : List Val → Prop
 | [] => True
 | v :: r => nmV v ∧ nmVs r
def nmVf : List Fld → Prop
 | [] => True
 | .mk n v :: r => n.length ≤ 4096 ∧ nmV v ∧ nmVf r
end
theorem nmV_eq (v : Val) : nmV v ↔ nmVs v.list ∧ nmVf v.fields := by cases v; rfl
theorem flat_nm {v : Val} (h1 : v.list = [] ∧ v.fields = []) : nmV v := by
 rw [nmV_eq, h1.1, h1.2];exact ⟨trivial, trivial⟩
theorem flat_sz {w : Val} (h : flatV w) : szV w ≤ 1000000 := by
 rw [szV_eq, h.1, h.2];simp [szVs, szFs]
def goodV (B : Nat) (v : Val) : Prop := szV v ≤ 1000000 ∧ v.text.length ≤ B ∧ nmV v
theorem goodV.flat {B : Nat} {v : Val} (h : flatV v) (ht : v.text = []) : goodV B v := ⟨flat_sz h, by rw [ht]; exact Nat.zero_le _, flat_nm h⟩
mutual
def nmW : Val → Prop
 | .mk _ _ _ _ l f => nmWs l ∧ nmWf f
def nmWs : List Val → Prop
 | [] => True
 | v :: r => nmW v ∧ nmWs r
def nmWf : List Fld → Prop
 | [] => True
 | .mk n v :: r => n.length ≤ 2097152 ∧ nmW v ∧ nmWf r
end
theorem nmWf_of : ∀ {l : List Fld}, (∀ x ∈ l, x.name.length ≤ 2097152 ∧ nmW x.value) → nmWf l
 | [], _ => trivial
 | .mk n v :: r, h => ⟨(h _ List.mem_cons_self).1, (h _ List.mem_cons_self).2, nmWf_of fun x hx => h x (List.mem_cons_of_mem _ hx)⟩
theorem nmWs_of : ∀ {l : List Val}, (∀ x ∈ l, nmW x) → nmWs l
 | [], _ => trivial
 | v :: r, h => ⟨h _ List.mem_cons_self, nmWs_of fun x hx => h x (List.mem_cons_of_mem _ hx)⟩
mutual
def okY : Typ → Prop
 | .mk _ _ _ _ _ e f => okYs e ∧ okYf f
def okYs : List Typ → Prop
 | [] => True
 | v :: r => okY v ∧ okYs r
def okYf : List TFl → Prop
 | [] => True
 | .mk _ n _ t d :: r => (n.length ≤ 2097152 ∧ okY t ∧ ∀ x ∈ d, nmW x) ∧ okYf r
end
end Go.Proofs
namespace Go.Proofs
open Go Av
open Go.Proofs.YtolggmphlbmlkaaGreatDoor.Rows (uptoBulk uptoBulkAll)
theorem cOLD21 : Tryz.prog.cellsOf 22 = 1 := kR
theorem cOLD22 : Tryz.prog.cellsOf 23 = 1 := kR
theorem cOLD23 : Tryz.prog.cellsOf 24 = 1 := kR
theorem cOLD25 : Tryz.prog.cellsOf 26 = 7 := kR
theorem cOLD72 : Tryz.prog.cellsOf 83 = 11 := kR
theorem encT_len (a : Typ) : (encT a).cells.length = 7 := by rw [encT_eq]; rfl
theorem encG_len (a : TFl) : (encG a).cells.length = 11 := by rw [encG_eq]; rfl
mutual
def wtT : Typ → Nat
 | .mk _ _ _ _ _ e f => 1 + wtTs e + wtGs f
def wtTs : List Typ → Nat
 | [] => 0
 | v :: r => wtT v + wtTs r
def wtGs : List TFl → Nat
 | [] => 0
 | .mk _ n _ t _ :: r => (n.length + wtT t) + wtGs r
end
mutual
theorem szT_le : ∀ t : Typ, szT t ≤ wtT t
 | .mk _ _ _ _ _ e f => by have := szTs_le e; have := szGs_le f; simp only [szT, wtT]; omega
theorem szTs_le : ∀ l : List Typ, szTs l ≤ wtTs l
 | [] => Nat.le_refl _
 | v :: r => by have := szT_le v; have := szTs_le r; simp only [szTs, wtTs]; omega
theorem szGs_le : ∀ l : List TFl, szGs l ≤ wtGs l
 | [] => Nat.le_refl _
 | .mk _ n _ t _ :: r => by have := szT_le t; have := szGs_le r; simp only [szGs, wtGs]; omega
end
theorem wtTs_sum : ∀ l : List Typ, wtTs l = (l.map wtT).sum
 | [] => rfl
 | v :: r => by simp only [wtTs, List.map_cons, List.sum_cons, wtTs_sum r]
theorem wtGs_sum : ∀ l : List TFl, wtGs l = (l.map fun g => g.name.length + wtT g.type).sum
 | [] => rfl
 | .mk _ n _ t _ :: r => by simp only [wtGs, List.map_cons, List.sum_cons, wtGs_sum r, TFl.name, TFl.type]
theorem okYs_of' : ∀ {l : List Typ}, (∀ x ∈ l, okY x) → okYs l
 | [], _ => trivial
 | v :: r, h => ⟨h v List.mem_cons_self, okYs_of' fun x hx => h x (List.mem_cons_of_mem _ hx)⟩
theorem okYf_of' : ∀ {l : List TFl}, (∀ x ∈ l, x.name.length ≤ 2097152 ∧ okY x.type ∧ ∀ y ∈ x.dflt, nmW y) → okYf l
 | [], _ => trivial
 | .mk a n b t d :: r, h => ⟨h _ List.mem_cons_self, okYf_of' fun x hx => h x (List.mem_cons_of_mem _ hx)⟩
section
variable {H : Type} {enc : TypeId × Value → H} {w : World} {base : Nat} {spare : Nat → Bool} {held : Bool}
theorem cr_strM {P : Program} {t : TypeId} {fuel : Nat} {cs : List Value} {x : DataW H × List MemPlace} (ht : P.underlying t = some .string) (h : DataW.trod enc P w base spare held fuel t cs = some x) (hb : uptoBulk x.1 ≤ 1048576) :
  ∃ s : List UInt8, s.length + 1 ≤ uptoBulk x.1 ∧ CR (old w) w [.str s] cs := by
 obtain ⟨s, rfl, rfl, _⟩ := DataW.trod_string ht h;simp only [uptoBulk] at hb;have e : (Value.string s) = .string ⟨s.data.toList.toArray⟩ := sP;refine ⟨s.data.toList, by simp only [uptoBulk]; omega, ?_⟩;rw [e];exact .one rfl (.str _ oM)
theorem read_valB (fuel : Nat) : ∀ (cs : List Value) (x : DataW H × List MemPlace), DataW.trod enc Tryz.prog w base spare held fuel 37 cs = some x → uptoBulk x.1 ≤ 1048576 → ∃ a : Val, ((okV a ∧ nmW a) ∧ szV a ≤ uptoBulk x.1) ∧ CR (old w) w (encV a).cells cs := by
 induction fuel using Nat.strongRecOn with
 | _ fuel ih =>
  intro cs x h hb;obtain ⟨xs, n, rfl, rfl, hl, hlen, hf⟩ := DataW.trod_struct Tryz.underlying37 h;rw [c342] at hl;have h0 := fld hf 0 3 0 rfl c3;have h1 := fld hf 1 3 1 rfl c3;have h2 := fld hf 2 3 2 rfl c3;have h3 := fld hf 3 9 3 rfl c9;have h4 := fld hf 4 34 4 rfl cOLD31;have h5 := fld hf 5 35 5 rfl cOLD27
  match xs, hlen, cs, hl with
  | [y0, y1, y2, y3, y4, y5], _, [a0, a1, a2, a3, a4, a5], _ =>
   simp only [List.map_cons, List.map_nil, uptoBulk, uptoBulkAll] at hb;obtain ⟨k, g0⟩ := cr_int Tryz.underlying3 (show DataW.trod enc Tryz.prog w base spare held n 3 [a0] = some y0 from h0);obtain ⟨i, g1⟩ := cr_int Tryz.underlying3 (show DataW.trod enc Tryz.prog w base spare held n 3 [a1] = some y1 from h1);obtain ⟨s, g2⟩ := cr_int Tryz.underlying3 (show DataW.trod enc Tryz.prog w base spare held n 3 [a2] = some y2 from h2);obtain ⟨t, _, g3⟩ := cr_str Tryz.underlying9 (show DataW.trod enc Tryz.prog w base spare held n 9 [a3] = some y3 from h3) oM;obtain ⟨l, e4, o4, z4, g4⟩ := cr_sliceM (encA := encV) (ok := fun a => okV a ∧ nmW a) (m := szV) Tryz.underlying34 c342 dC encV_len (show DataW.trod enc Tryz.prog w base spare held n 34 [a4] = some y4 from h4) oM
    (fun m cs' y hm hy hyb => ih m oM cs' y hy hyb)
   obtain ⟨f, e5, o5, z5, g5⟩ := cr_sliceM (encA := encF) (ok := fun f => okF f ∧ f.name.length ≤ 2097152 ∧ nmW f.value) (m := fun f => szV f.value) Tryz.underlying35 c131 dC encF_len (show DataW.trod enc Tryz.prog w base spare held n 35 [a5] = some y5 from h5) oM
    (fun m cs' y hm hy hyb => by
     obtain ⟨xs, m', rfl, rfl, hl, hlen, hf⟩ := DataW.trod_struct Tryz.underlying130 hy;rw [c131] at hl;have h0 := fld hf 0 9 0 rfl c9;have h1 := fld hf 1 37 1 rfl c342
     match xs, hlen, cs', hl with
     | [y0, y1], _, [a0, a1, a2, a3, a4, a5, a6], _ =>
      simp only [List.map_cons, List.map_nil, uptoBulk, uptoBulkAll] at hyb;obtain ⟨nm, hnm, g0⟩ := cr_str Tryz.underlying9 (show DataW.trod enc Tryz.prog w base spare held m' 9 [a0] = some y0 from h0) oM;obtain ⟨v, ov, g1⟩ := ih m' oM [a1, a2, a3, a4, a5, a6] y1 h1 oM;refine ⟨.mk nm v, ⟨⟨by simpa only [okF] using ov.1.1, by show nm.length ≤ _; omega, ov.1.2⟩, by show szV v ≤ _; have := ov.2; simp only [List.map_cons, List.map_nil, uptoBulk, uptoBulkAll]; omega⟩, ?_⟩;have := g0.append g1;simpa only [encF, Dat.cells, List.singleton_append] using this)
   refine ⟨.mk k i s t l f, ⟨⟨by simp only [okV]; exact ⟨oM, oM, okVs_of fun a ha => (o4 a ha).1, okFs_of fun a ha => (o5 a ha).1⟩, ?_⟩, ?_⟩, ?_⟩
   ·exact ⟨nmWs_of fun a ha => (o4 a ha).2, nmWf_of fun a ha => (o5 a ha).2⟩
   ·simp only [szV, szVs_sum l, szFs_sum f, List.map_cons, List.map_nil, uptoBulk, uptoBulkAll];have := bulk_one y0.1;omega
   have := g0.append (g1.append (g2.append (g3.append (g4.append g5))));simpa only [encV_eq, Val.kind, Val.int, Val.scale, Val.text, Val.list, Val.fields, Dat.cells, List.singleton_append, List.cons_append, List.nil_append] using this
theorem read_typB (fuel : Nat) : ∀ (cs : List Value) (x : DataW H × List MemPlace), DataW.trod enc Tryz.prog w base spare held fuel 26 cs = some x → uptoBulk x.1 ≤ 1048576 → ∃ a : Typ, (okY a ∧ wtT a ≤ uptoBulk x.1) ∧ CR (old w) w (encT a).cells cs := by
 induction fuel using Nat.strongRecOn with
 | _ fuel ih =>
  intro cs x h hb;obtain ⟨xs, n, rfl, rfl, hl, hlen, hf⟩ := DataW.trod_struct Tryz.underlying26 h;rw [cOLD25] at hl;have h0 := fld hf 0 3 0 rfl c3;have h1 := fld hf 1 3 1 rfl c3;have h2 := fld hf 2 3 2 rfl c3;have h3 := fld hf 3 3 3 rfl c3;have h4 := fld hf 4 22 4 rfl cOLD21;have h5 := fld hf 5 23 5 rfl cOLD22;have h6 := fld hf 6 24 6 rfl cOLD23
  match xs, hlen, cs, hl with
  | [y0, y1, y2, y3, y4, y5, y6], _, [a0, a1, a2, a3, a4, a5, a6], _ =>
   simp only [List.map_cons, List.map_nil, uptoBulk, uptoBulkAll] at hb;obtain ⟨k, g0⟩ := cr_int Tryz.underlying3 (show DataW.trod enc Tryz.prog w base spare held n 3 [a0] = some y0 from h0);obtain ⟨i, g1⟩ := cr_int Tryz.underlying3 (show DataW.trod enc Tryz.prog w base spare held n 3 [a1] = some y1 from h1);obtain ⟨j, g2⟩ := cr_int Tryz.underlying3 (show DataW.trod enc Tryz.prog w base spare held n 3 [a2] = some y2 from h2);obtain ⟨s, g3⟩ := cr_int Tryz.underlying3 (show DataW.trod enc Tryz.prog w base spare held n 3 [a3] = some y3 from h3);obtain ⟨wd, _, _, g4⟩ := cr_slice (encA := Dat.str) (ok := fun _ => True) Tryz.underlying22 c9 dC (fun _ => rfl) (show DataW.trod enc Tryz.prog w base spare held n 22 [a4] = some y4 from h4) oM
    (fun m cs' y _ hy hyb => by
     obtain ⟨t, _, g⟩ := cr_str Tryz.underlying9 hy hyb;exact ⟨t, trivial, g⟩)
   obtain ⟨el, _, o5, z5, g5⟩ := cr_sliceM (encA := encT) (ok := okY) (m := wtT) Tryz.underlying23 cOLD25 dC encT_len (show DataW.trod enc Tryz.prog w base spare held n 23 [a5] = some y5 from h5) oM
    (fun m cs' y hm hy hyb => ih m oM cs' y hy hyb)
   obtain ⟨f, _, o6, z6, g6⟩ := cr_sliceM (encA := encG) (ok := fun g => g.name.length ≤ 2097152 ∧ okY g.type ∧ ∀ y ∈ g.dflt, nmW y) (m := fun g => g.name.length + wtT g.type) Tryz.underlying24 cOLD72 dC encG_len (show DataW.trod enc Tryz.prog w base spare held n 24 [a6] = some y6 from h6) oM
    (fun m cs' y hm hy hyb => by
     obtain ⟨xs, m', rfl, rfl, hl, hlen, hf⟩ := DataW.trod_struct Tryz.underlying83 hy;rw [cOLD72] at hl;have h0 := fld hf 0 3 0 rfl c3;have h1 := fld hf 1 9 1 rfl c9;have h2 := fld hf 2 3 2 rfl c3;have h3 := fld hf 3 26 3 rfl cOLD25;have h4 := fld hf 4 34 10 rfl cOLD31
     match xs, hlen, cs', hl with
     | [y0, y1, y2, y3, y4], _, [a0, a1, a2, a3, a4, a5, a6, a7, a8, a9, a10], _ =>
      simp only [List.map_cons, List.map_nil, uptoBulk, uptoBulkAll] at hyb;obtain ⟨nu, g0⟩ := cr_int Tryz.underlying3 (show DataW.trod enc Tryz.prog w base spare held m' 3 [a0] = some y0 from h0);obtain ⟨nm, hnm, g1⟩ := cr_strM Tryz.underlying9 (show DataW.trod enc Tryz.prog w base spare held m' 9 [a1] = some y1 from h1) oM;obtain ⟨ne, g2⟩ := cr_int Tryz.underlying3 (show DataW.trod enc Tryz.prog w base spare held m' 3 [a2] = some y2 from h2);obtain ⟨ty, oty, g3⟩ := ih m' oM [a3, a4, a5, a6, a7, a8, a9] y3 h3 oM;obtain ⟨df, _, odf, g4⟩ := cr_slice (encA := encV) (ok := nmW) Tryz.underlying34 c342 dC encV_len (show DataW.trod enc Tryz.prog w base spare held m' 34 [a10] = some y4 from h4) oM
       (fun m cs' y _ hy hyb => by
        obtain ⟨v, ov, g⟩ := read_valB m cs' y hy hyb;exact ⟨v, ov.1.2, g⟩)
      refine ⟨.mk nu nm ne ty df, ⟨⟨by show nm.length ≤ _; omega, oty.1, odf⟩, ?_⟩, ?_⟩
      ·show nm.length + wtT ty ≤ _;have := oty.2;simp only [List.map_cons, List.map_nil, uptoBulk, uptoBulkAll];omega
      ·have := g0.append (g1.append (g2.append (g3.append g4)));simpa only [encG, Dat.cells, List.singleton_append, List.cons_append, List.nil_append, List.append_assoc] using this)
   refine ⟨.mk k i j s wd el f, ⟨⟨okYs_of' o5, okYf_of' o6⟩, ?_⟩, ?_⟩
   ·simp only [wtT, wtTs_sum el, wtGs_sum f, List.map_cons, List.map_nil, uptoBulk, uptoBulkAll];have := bulk_one y0.1;omega
   have := g0.append (g1.append (g2.append (g3.append (g4.append (g5.append g6)))));simpa only [encT_eq, Typ.kind, Typ.min, Typ.max, Typ.scale, Typ.words, Typ.elem, Typ.fields, Dat.cells, List.singleton_append, List.cons_append, List.nil_append] using this
end
end Go.Proofs
namespace Go.Proofs.YtolggmphlbmlkaaGreatDoor
open Go Go.Proofs Av Go.ChangeShapes Go.WideShapes Go.ChangeAt Go.RowKit
theorem open_typB {H : Type} {enc : TypeId × Value → H} {w : World} {r : Reach} {base b0 : Nat} {spare : Nat → Bool} {held : Bool} {v : Value} {d : DataW H} {ps : List MemPlace}
  (hval : Value.okWide Tryz.prog w r b0 26 v) (hd : DataW.Trod enc Tryz.prog w base spare held 26 v d ps) (hb : Rows.uptoBulk d ≤ 1048576) : ∃ e : Typ, (okY e ∧ wtT e ≤ Rows.uptoBulk d) ∧ Rep (Av.old w) w (encT e) v := by
 obtain ⟨fuel, hf⟩ := hd;obtain ⟨m, hm, hc⟩ := read_typB fuel _ (d, ps) hf hb;refine ⟨m, hm, ?_⟩;unfold Value.okWide at hval;rw [Tryz.underlying26] at hval;obtain ⟨cs, rfl, _, _⟩ := hval;obtain ⟨h1, h2, h3⟩ := hc;have e : (Value.agg cs).cells = cs := rfl;rw [e] at h1 h2 h3;have h1' : (encT m).cells.length = cs.size := sX h1;rw [encT_eq] at h1' h3 ⊢;exact .agg _ _ h1' h2 (fun i c v hc hv => h3 i c v hc (sX hv))
end Go.Proofs.YtolggmphlbmlkaaGreatDoor
namespace Go.Proofs
open Go Av
open Av.Y
def ir3 : Ic := q (R (ox 2 0<|ox 3 1<|ow 4 false<|N) [0,1,4])<|q (D (.regd [(1,2),(1,3),(1,5),(4,5),(1,6),(4,6),(1,8),(4,8),(7,8),(1,9),(4,9),(7,9),(1,11),(4,11),(7,11),(10,11),(1,12),(4,12),(7,12),(10,12),(1,14),(4,14),(7,14),(10,14),(13,14),(1,15),(4,15),(7,15),(10,15),(13,15),(1,16),(4,16),(7,16),(10,16),(13,16),(0,17),(1,17),(2,17),(3,17),(4,17),(5,17),(6,17),(7,17),(8,17),(9,17),(10,17),(11,17),(12,17),(13,17),(14,17)] (oL 14 7 2<|cl 15 4 [t 14]<|oL 16 7 2<|oL 17 7 3<|cl 18 5 [t 16,t 17]<|oL 19 7 2<|oL 20 7 3<|cl 21 6 [t 19,t 20]<|oL 22 7 2<|oL 23 7 3<|cl 24 7 [t 22,t 23]<|oL 25 7 2<|oL 26 7 3<|cl 27 8 [t 25,t 26]<|oL 28 7 2<|oL 29 7 3<|oL 30 7 2<|oo 31 (.bls 7 [t 29,t 30])<|cl 32 9 [t 28,t 31]<|oo 33 (.bls 7 [t 15,t 18,t 21,t 24,t 27,t 32])<|om 5 33<|N)) [14,15,16,17,18,19,20,21,22,23,24,25,26,27,28,29,30,31,32,33])<|q (D (.regd [(1,2),(1,3),(1,5),(4,5),(1,6),(4,6),(1,8),(4,8),(7,8),(1,9),(4,9),(7,9),(1,11),(4,11),(7,11),(10,11),(1,12),(4,12),(7,12),(10,12),(1,14),(4,14),(7,14),(10,14),(13,14),(1,15),(4,15),(7,15),(10,15),(13,15),(1,16),(4,16),(7,16),(10,16),(13,16),(0,17),(1,17),(2,17),(3,17),(4,17),(5,17),(6,17),(7,17),(8,17),(9,17),(10,17),(11,17),(12,17),(13,17),(14,17)] (oL 34 7 2<|cl 35 10 [t 34]<|oL 36 7 2<|oL 37 7 3<|cl 38 11 [t 36,t 37]<|oL 39 7 2<|oL 40 7 3<|cl 41 12 [t 39,t 40]<|oL 42 7 2<|oL 43 7 3<|cl 44 13 [t 42,t 43]<|oL 45 7 2<|oL 46 7 3<|cl 47 14 [t 45,t 46]<|oL 48 7 2<|oL 49 7 3<|oL 50 7 2<|oo 51 (.bls 7 [t 49,t 50])<|cl 52 15 [t 48,t 51]<|oo 53 (.bls 7 [t 35,t 38,t 41,t 44,t 47,t 52])<|om 6 53<|N)) [34,35,36,37,38,39,40,41,42,43,44,45,46,47,48,49,50,51,52,53])<|q (q (R (cl 54 16 []<|og 55 54<|N) [54])<|D (I 55 (q (R (ow 4 false<|N) [2,3,5,6,55])<|.ret) S) [55])<|q (R (oL 56 7 2<|cl 57 17 [t 56]<|oi 58 .eql 57 0<|om 59 58<|.sc 59 true (oL 60 7 3<|cl 61 17 [t 60]<|oi 62 .eql 61 0<|N) (t 62) 63 (om 64 63<|.sc 64 true (oL 65 7 2<|cl 66 18 [t 65]<|oi 67 .leq 66 5<|N) (t 67) 68 (om 69 68<|.sc 69 true (oL 70 7 3<|cl 71 18 [t 70]<|oi 72 .leq 71 5<|N) (t 72) 73 (om 74 73<|.sc 74 true (oL 75 7 2<|cl 76 19 [t 75]<|oi 77 .leq 76 200<|N) (t 77) 78 (om 79 78<|.sc 79 true (oL 80 7 3<|cl 81 19 [t 80]<|oi 82 .leq 81 200<|N) (t 82) 83 (om 7 83<|N)))))) [56,57,58,59,63,64,68,69,73,74,78,79,83])<|q (q (.reg (oz 8 0<|N))<|D (.block 0<|.loop (q (q (R (om 84 8<|om 85 5<|oh 86 85<|ot 87 .lss 84 86<|N) [84,85,86])<|D (I 87 S (E 0)) [87])<|q (D (.block 1<|q (R (oL 91 7 2<|cl 92 20 [t 91]<|om 90 92<|oe 93 90 0<|oe 94 90 1<|oN 9 v6<|oS 6 9 93<|om 10 94<|N) [91,92,90,93,94])<|q (R (oL 96 7 3<|cl 97 20 [t 96]<|om 95 97<|oe 98 95 0<|oe 99 95 1<|oN 11 v6<|oS 6 11 98<|om 12 99<|N) [96,97,95,98,99])<|q (D (.regd [(11,12)] (om 100 7<|om 101 100<|.sc 101 true (om 102 10<|oi 103 .eql 102 0<|N) (t 103) 104 (om 105 104<|.sc 105 true (om 106 12<|oi 107 .eql 106 0<|N) (t 107) 108 (om 109 108<|.sc 109 true (oL 110 6 9<|cl 111 21 [t 110]<|oL 112 6 11<|cl 113 21 [t 112]<|ot 114 .add 111 113<|oi 115 .lss 114 2000<|N) (t 115) 116 (om 13 116<|N))))) [9,10,11,12,100,101,104,105,108,109,116])<|q (R (om 117 5<|om 118 8<|oa true 119 7 117 118<|oL 120 7 119<|om 121 6<|om 122 8<|oa true 123 7 121 122<|oL 124 7 123<|cl 125 22 [t 120,t 124]<|og 126 125<|om 127 126<|.sc 127 false (om 128 13<|om 129 128<|.sc 129 true (om 130 5<|om 131 8<|oa true 132 7 130 131<|oL 133 7 132<|cl 134 17 [t 133]<|oi 135 .neq 134 0<|N) (t 135) 136 N) (t 136) 137 N) [13,117,118,119,120,121,122,123,124,125,126,127])<|D (I 137 (q (R (ow 4 false<|N) [2,3,5,6,7,8,137])<|.ret) S) [137]) [])<|R (om 88 8<|oi 89 .add 88 1<|om 8 89<|N) [88,89])) [2,3,5,6,7,8,87,9,10,11])<|q (.reg (ow 4 true<|N))<|.ret
theorem ok3 : FT 3 138 ir3 [.tmp 4] := .o Tryz.func3
end Go.Proofs
namespace Go.Proofs
open Go Av
open Av.Y
def ir4 : Ic := q (R (ox 1 0<|oN 2 vT<|N) [0])<|q (R (oo 3 (.bls 1 [.k (.str [98,111,100,121])])<|oL 4 7 1<|oo 5 (.bls 7 [t 4])<|cl 6 23 [t 3,t 5]<|oS 7 2 6<|N) [1,3,4,5,6])<|.ret
theorem ok4 : FT 4 7 ir4 [.cell 2 (some 7)] := .o Tryz.func4
def ir5 : Ic := q (R (ox 2 0<|ox 3 1<|oN 4 vT<|N) [0,1])<|q (D (.regd [(0,1),(0,2),(0,3),(1,3),(2,3),(0,4)] (oo 5 (.bls 1 [.k (.str [98,111,100,121]),.k (.str [105,116,101,109]),.k (.str [105,110,100,101,120])])<|oL 6 7 2<|oL 7 7 3<|cl 8 24 [i 0,i 255]<|oo 9 (.bls 7 [t 6,t 7,t 8])<|cl 10 23 [t 5,t 9]<|oS 7 4 10<|N)) [2,3,5,6,7,8,9,10])<|.ret
theorem ok5 : FT 5 11 ir5 [.cell 4 (some 7)] := .o Tryz.func5
def ir6 : Ic := q (R (ox 2 0<|ox 3 1<|oN 4 vT<|N) [0,1])<|q (D (.regd [(0,1),(0,2),(1,2),(0,3),(2,3),(0,4),(1,4),(0,5)] (oo 5 (.bls 1 [.k (.str [107,101,121]),.k (.str [99,111,117,110,116]),.k (.str [105,116,101,109,115])])<|oL 6 7 3<|cl 7 24 [i 1,i 256]<|oL 8 7 2<|cl 9 25 [i 1,i 256,t 8]<|oo 10 (.bls 7 [t 6,t 7,t 9])<|cl 11 23 [t 5,t 10]<|oS 7 4 11<|N)) [2,3,5,6,7,8,9,10,11])<|.ret
theorem ok6 : FT 6 12 ir6 [.cell 4 (some 7)] := .o Tryz.func6
def ir7 : Ic := q (R (ox 2 0<|ox 3 1<|oN 4 vT<|N) [0,1])<|q (D (.regd [(0,1),(0,2),(0,3),(1,3),(2,3),(0,4),(3,4),(0,5),(1,5),(2,5),(0,6)] (oo 5 (.bls 1 [.k (.str [98,111,100,121]),.k (.str [107,101,121]),.k (.str [99,111,117,110,116]),.k (.str [105,116,101,109,115])])<|oL 6 7 2<|oL 7 7 3<|cl 8 24 [i 1,i 256]<|oL 9 7 2<|cl 10 25 [i 1,i 256,t 9]<|oo 11 (.bls 7 [t 6,t 7,t 8,t 10])<|cl 12 23 [t 5,t 11]<|oS 7 4 12<|N)) [2,3,5,6,7,8,9,10,11,12])<|.ret
theorem ok7 : FT 7 13 ir7 [.cell 4 (some 7)] := .o Tryz.func7
def ir8 : Ic := q (R (ox 2 0<|ox 3 1<|oN 4 vT<|N) [0,1])<|q (R (oo 5 (.bls 1 [.k (.str [98,111,100,121]),.k (.str [114,101,112,108,121])])<|oL 6 7 2<|oL 7 7 3<|oo 8 (.bls 7 [t 6,t 7])<|cl 9 23 [t 5,t 8]<|oS 7 4 9<|N) [2,3,5,6,7,8,9])<|.ret
theorem ok8 : FT 8 10 ir8 [.cell 4 (some 7)] := .o Tryz.func8
def ir9 : Ic := q (R (ox 2 0<|oN 4 vT<|N) [0])<|q (D (.regd [(0,1),(0,2)] (oo 9 (.bls 1 [.k (.str [98,111,100,121])])<|oL 10 7 2<|oo 11 (.bls 7 [t 10])<|om 5 9<|om 6 11<|N)) [2,9,10,11])<|q (q (R (om 12 1<|oh 13 12<|oz 14 0<|N) [1])<|D (.block 0<|.loop (q (.reg (ot 15 .lss 14 13<|N))<|q (D (I 15 S (E 0)) [15])<|q (D (.block 1<|q (R (om 16 14<|oa true 17 7 12 14<|oL 18 7 17<|oN 8 vT<|om 7 16<|oS 7 8 18<|N) [16,17,18])<|q (R (om 19 5<|om 20 7<|oi 21 .add 20 1<|cl 22 26 [t 21]<|ob 23 .cat (.k (.str [114,101,112,108,121])) (t 22)<|oo 24 (.bls 1 [t 23])<|oo 25 (.app 1 (t 19) (t 24))<|om 5 25<|N) [7,19,20,21,22,23,24,25])<|R (om 26 6<|oL 27 7 8<|oo 28 (.bls 7 [t 27])<|oo 29 (.app 7 (t 26) (t 28))<|om 6 29<|N) [8,26,27,28,29]) [])<|R (oi 30 .add 14 1<|om 14 30<|N) [30])) [12,13,14,15,8,7])<|q (R (om 31 5<|om 32 6<|cl 33 23 [t 31,t 32]<|oS 7 4 33<|N) [5,6,31,32,33])<|.ret
theorem ok9 : FT 9 34 ir9 [.cell 4 (some 7)] := .o Tryz.func9
def ir10 : Ic := q (R (ox 1 0<|oN 2 vT<|N) [0])<|q (R (oL 3 7 1<|oo 4 (.bld [.str [],.int .i64 0,.int .i64 0,.int .i64 0,.int .i64 0,.nil 1,.nil 7,.nil 11] [(0,1,.k (.str [98,111,100,121])),(1,7,t 3)])<|oo 5 (.bls 8 [t 4])<|cl 6 27 [t 5]<|oS 7 2 6<|N) [1,3,4,5,6])<|.ret
theorem ok10 : FT 10 7 ir10 [.cell 2 (some 7)] := .o Tryz.func10
def ir11 : Ic := q (R (ox 2 0<|ox 3 1<|oN 4 vT<|N) [0,1])<|q (D (.regd [(0,4),(2,4)] (oL 5 7 2<|oo 6 (.bld [.str [],.int .i64 0,.int .i64 0,.int .i64 0,.int .i64 0,.nil 1,.nil 7,.nil 11] [(0,1,.k (.str [98,111,100,121])),(1,7,t 5)])<|oL 7 7 3<|oo 8 (.bld [.str [],.int .i64 0,.int .i64 0,.int .i64 0,.int .i64 0,.nil 1,.nil 7,.nil 11] [(0,1,.k (.str [105,116,101,109])),(1,7,t 7)])<|cl 9 28 [i 0,i 255]<|oo 10 (.bld [.str [],.int .i64 0,.int .i64 0,.int .i64 0,.int .i64 0,.nil 1,.nil 7,.nil 11] [(0,1,.k (.str [105,110,100,101,120])),(1,7,t 9)])<|oo 11 (.bls 8 [t 6,t 8,t 10])<|cl 12 27 [t 11]<|oS 7 4 12<|N)) [2,3,5,6,7,8,9,10,11,12])<|.ret
theorem ok11 : FT 11 13 ir11 [.cell 4 (some 7)] := .o Tryz.func11
def ir12 : Ic := q (R (ox 2 0<|ox 3 1<|oN 4 vT<|N) [0,1])<|q (D (.regd [(0,2),(2,4),(0,5)] (oL 5 7 3<|oo 6 (.bld [.str [],.int .i64 0,.int .i64 0,.int .i64 0,.int .i64 0,.nil 1,.nil 7,.nil 11] [(0,1,.k (.str [107,101,121])),(1,7,t 5)])<|cl 7 28 [i 1,i 256]<|oo 8 (.bld [.str [],.int .i64 0,.int .i64 0,.int .i64 0,.int .i64 0,.nil 1,.nil 7,.nil 11] [(0,1,.k (.str [99,111,117,110,116])),(1,7,t 7)])<|oL 9 7 2<|cl 10 29 [t 9]<|oo 11 (.bld [.str [],.int .i64 0,.int .i64 0,.int .i64 0,.int .i64 0,.nil 1,.nil 7,.nil 11] [(0,1,.k (.str [105,116,101,109,115])),(1,7,t 10)])<|oo 12 (.bls 8 [t 6,t 8,t 11])<|cl 13 27 [t 12]<|oS 7 4 13<|N)) [2,3,5,6,7,8,9,10,11,12,13])<|.ret
theorem ok12 : FT 12 14 ir12 [.cell 4 (some 7)] := .o Tryz.func12
def ir13 : Ic := q (R (ox 2 0<|ox 3 1<|oN 4 vT<|N) [0,1])<|q (D (.regd [(0,4),(2,4),(4,6),(0,7),(2,7)] (oL 5 7 2<|oo 6 (.bld [.str [],.int .i64 0,.int .i64 0,.int .i64 0,.int .i64 0,.nil 1,.nil 7,.nil 11] [(0,1,.k (.str [98,111,100,121])),(1,7,t 5)])<|oL 7 7 3<|oo 8 (.bld [.str [],.int .i64 0,.int .i64 0,.int .i64 0,.int .i64 0,.nil 1,.nil 7,.nil 11] [(0,1,.k (.str [107,101,121])),(1,7,t 7)])<|cl 9 28 [i 1,i 256]<|oo 10 (.bld [.str [],.int .i64 0,.int .i64 0,.int .i64 0,.int .i64 0,.nil 1,.nil 7,.nil 11] [(0,1,.k (.str [99,111,117,110,116])),(1,7,t 9)])<|oL 11 7 2<|cl 12 29 [t 11]<|oo 13 (.bld [.str [],.int .i64 0,.int .i64 0,.int .i64 0,.int .i64 0,.nil 1,.nil 7,.nil 11] [(0,1,.k (.str [105,116,101,109,115])),(1,7,t 12)])<|oo 14 (.bls 8 [t 6,t 8,t 10,t 13])<|cl 15 27 [t 14]<|oS 7 4 15<|N)) [2,3,5,6,7,8,9,10,11,12,13,14,15])<|.ret
theorem ok13 : FT 13 16 ir13 [.cell 4 (some 7)] := .o Tryz.func13
def ir14 : Ic := q (R (ox 2 0<|ox 3 1<|oN 4 vT<|N) [0,1])<|q (R (oL 5 7 2<|oo 6 (.bld [.str [],.int .i64 0,.int .i64 0,.int .i64 0,.int .i64 0,.nil 1,.nil 7,.nil 11] [(0,1,.k (.str [98,111,100,121])),(1,7,t 5)])<|oL 7 7 3<|oo 8 (.bld [.str [],.int .i64 0,.int .i64 0,.int .i64 0,.int .i64 0,.nil 1,.nil 7,.nil 11] [(0,1,.k (.str [114,101,112,108,121])),(1,7,t 7)])<|oo 9 (.bls 8 [t 6,t 8])<|cl 10 27 [t 9]<|oS 7 4 10<|N) [2,3,5,6,7,8,9,10])<|.ret
theorem ok14 : FT 14 11 ir14 [.cell 4 (some 7)] := .o Tryz.func14
def ir15 : Ic := q (R (ox 2 0<|oN 4 vT<|N) [0])<|q (R (oL 7 7 2<|oo 8 (.bld [.str [],.int .i64 0,.int .i64 0,.int .i64 0,.int .i64 0,.nil 1,.nil 7,.nil 11] [(0,1,.k (.str [98,111,100,121])),(1,7,t 7)])<|oo 9 (.bls 8 [t 8])<|om 5 9<|N) [2,7,8,9])<|q (q (.reg (oz 6 0<|N))<|D (.block 0<|.loop (q (q (R (om 10 6<|om 11 1<|oh 12 11<|ot 13 .lss 10 12<|N) [10,11,12])<|D (I 13 S (E 0)) [13])<|q (D (.block 1<|D (.regd [(3,7),(3,8)] (om 16 5<|om 17 6<|oi 18 .add 17 1<|cl 19 30 [t 18]<|ob 20 .cat (.k (.str [114,101,112,108,121])) (t 19)<|om 21 1<|om 22 6<|oa true 23 7 21 22<|oL 24 7 23<|oo 25 (.bld [.str [],.int .i64 0,.int .i64 0,.int .i64 0,.int .i64 0,.nil 1,.nil 7,.nil 11] [(0,1,t 20),(1,7,t 24)])<|oo 26 (.bls 8 [t 25])<|oo 27 (.app 8 (t 16) (t 26))<|om 5 27<|N)) [16,17,18,19,20,21,22,23,24,25,26,27]) [])<|R (om 14 6<|oi 15 .add 14 1<|om 6 15<|N) [14,15])) [1,6,13])<|q (R (om 28 5<|cl 29 27 [t 28]<|oS 7 4 29<|N) [5,28,29])<|.ret
theorem ok15 : FT 15 30 ir15 [.cell 4 (some 7)] := .o Tryz.func15
def ir20 : Ic := q (R (ox 1 0<|oN 2 v6<|oz 3 0<|N) [0,3])<|q (q (R (oL 5 7 1<|cl 6 17 [t 5]<|om 4 6<|N) [5,6])<|q (R (om 7 4<|oi 8 .neq 7 0<|N) [7])<|D (I 8 (q (R (oo 9 (.bld v6 [])<|om 10 4<|oS 6 2 9<|om 3 10<|N) [1,4,8,9,10])<|.ret) S) [4,8])<|q (R (oL 11 7 1<|cl 12 40 [t 11]<|oS 6 2 12<|oz 3 0<|N) [1,11,12])<|.ret
theorem ok20 : FT 20 13 ir20 [.cell 2 (some 6), .tmp 3] := .o Tryz.func20
def ir23 : Ic := q (.reg (oN 4 vT<|N))<|q (R (oo 8 (.bld vT [(0,1,i 9)])<|oN 5 vT<|oS 7 5 8<|N) [8])<|q (q (R (om 9 0<|oh 10 9<|oz 11 0<|N) [0])<|D (.block 0<|.loop (q (.reg (ot 12 .lss 11 10<|N))<|q (D (I 12 S (E 0)) [12])<|q (D (.block 1<|q (R (om 13 11<|oa false 14 1 9 11<|ol 15 14<|om 6 13<|om 7 15<|N) [13,14,15])<|D (.regd [(1,9),(1,11)] (of 16 5 6<|ol 17 16<|om 18 6<|oi 19 .add 18 1<|om 20 7<|om 21 1<|om 22 6<|oa true 23 7 21 22<|oL 24 7 23<|cl 25 48 [t 24]<|oo 26 (.bld vG [(0,1,t 19),(1,1,t 20),(2,1,i 1),(3,7,t 25)])<|oo 27 (.bls 11 [t 26])<|oo 28 (.app 11 (t 17) (t 27))<|of 29 5 6<|os 29 28<|N)) [6,7,16,17,18,19,20,21,22,23,24,25,26,27,28,29]) [])<|R (oi 30 .add 11 1<|om 11 30<|N) [30])) [1,9,10,11,12,6,7])<|q (R (oL 31 7 5<|oS 7 4 31<|N) [5,31])<|.ret
theorem ok23 : FT 23 32 ir23 [.cell 4 (some 7)] := .o Tryz.func23
def ir24 : Ic := q (.reg (oN 4 vT<|N))<|q (R (om 5 0<|om 6 1<|oo 7 (.bld vT [(0,1,i 2),(1,1,t 5),(2,1,t 6)])<|oS 7 4 7<|N) [0,1,5,6,7])<|.ret
theorem ok24 : FT 24 8 ir24 [.cell 4 (some 7)] := .o Tryz.func24
def ir25 : Ic := q (R (ox 5 2<|oN 6 vT<|N) [2])<|q (R (om 7 0<|om 8 1<|oL 9 7 5<|oo 10 (.bls 7 [t 9])<|oo 11 (.bld vT [(0,1,i 8),(1,1,t 7),(2,1,t 8),(5,1,t 10)])<|oS 7 6 11<|N) [0,1,5,7,8,9,10,11])<|.ret
theorem ok25 : FT 25 12 ir25 [.cell 6 (some 7)] := .o Tryz.func25
def ir27 : Ic := q (.reg (oN 2 vT<|N))<|q (R (oo 5 (.bld vT [(0,1,i 9)])<|oN 3 vT<|oS 7 3 5<|N) [5])<|q (q (.reg (oz 4 0<|N))<|D (.block 0<|.loop (q (q (R (om 6 4<|om 7 0<|oh 8 7<|ot 9 .lss 6 8<|N) [6,7,8])<|D (I 9 S (E 0)) [9])<|q (D (.block 1<|D (.regd [(1,15)] (of 12 3 6<|ol 13 12<|om 14 4<|oi 15 .add 14 1<|om 16 0<|om 17 4<|oa true 18 8 16 17<|of 19 18 0<|ol 20 19<|om 21 0<|om 22 4<|oa true 23 8 21 22<|of 24 23 1<|oL 25 7 24<|oo 26 (.bld vG [(0,1,t 15),(1,1,t 20),(2,1,i 1),(3,7,t 25)])<|oo 27 (.bls 11 [t 26])<|oo 28 (.app 11 (t 13) (t 27))<|of 29 3 6<|os 29 28<|N)) [12,13,14,15,16,17,18,19,20,21,22,23,24,25,26,27,28,29]) [])<|R (om 10 4<|oi 11 .add 10 1<|om 4 11<|N) [10,11])) [0,4,9,10,11])<|q (R (oL 30 7 3<|oS 7 2 30<|N) [3,30])<|.ret
theorem ok27 : FT 27 31 ir27 [.cell 2 (some 7)] := .o Tryz.func27
def ir28 : Ic := q (.reg (oN 4 vT<|N))<|q (R (om 5 0<|om 6 1<|oo 7 (.bld vT [(0,1,i 2),(1,1,t 5),(2,1,t 6)])<|oS 7 4 7<|N) [0,1,5,6,7])<|.ret
theorem ok28 : FT 28 8 ir28 [.cell 4 (some 7)] := .o Tryz.func28
def ir29 : Ic := q (R (ox 1 0<|oN 2 vT<|N) [0])<|q (R (oL 3 7 1<|oo 4 (.bls 7 [t 3])<|oo 5 (.bld vT [(0,1,i 8),(1,1,i 1),(2,1,i 256),(5,1,t 4)])<|oS 7 2 5<|N) [1,3,4,5])<|.ret
theorem ok29 : FT 29 6 ir29 [.cell 2 (some 7)] := .o Tryz.func29
def ir40 : Ic := q (R (ox 1 0<|oN 2 v6<|N) [0])<|q (q (R (of 7 1 0<|ol 8 7<|N) [7])<|D (.block 0<|q (q (R (oi 10 .eql 8 2<|om 9 10<|N) [10])<|I 9 S (q (R (oi 11 .eql 8 3<|om 9 11<|N) [11])<|I 9 S (q (R (oi 12 .eql 8 6<|om 9 12<|N) [12])<|I 9 S (R (oi 13 .eql 8 7<|om 9 13<|N) [13]))))<|I 9 (q (R (of 14 1 0<|ol 15 14<|of 16 1 1<|ol 17 16<|of 18 1 2<|ol 19 18<|oo 20 (.mn (t 19) (i 0))<|oo 21 (.mx (t 17) (t 20))<|of 22 1 3<|ol 23 22<|oo 24 (.bld v6 [(0,1,t 15),(1,1,t 21),(2,1,t 23)])<|oS 6 2 24<|N) [1,8,9,14,15,16,17,18,19,20,21,22,23,24])<|.ret) (q (R (oi 26 .eql 8 4<|om 25 26<|N) [9,26])<|I 25 (q (q (R (of 27 1 4<|ol 28 27<|oh 29 28<|oi 30 .gtr 29 0<|N) [8,25,27,28,29])<|D (I 30 (q (R (of 31 1 4<|ol 32 31<|oo 33 (.ixa false 1 (t 32) (i 0))<|ol 34 33<|cl 35 65 [t 34]<|oS 6 2 35<|N) [1,30,31,32,33,34,35])<|.ret) S) [30])<|q (R (of 36 1 1<|ol 37 36<|cl 38 66 [.k (.str [97]),t 37]<|cl 39 65 [t 38]<|oS 6 2 39<|N) [1,36,37,38,39])<|.ret) (q (R (oi 41 .eql 8 5<|om 40 41<|N) [25,41])<|I 40 (q (R (of 42 1 1<|ol 43 42<|cl 44 66 [.k (.str [0]),t 43]<|cl 45 67 [t 44]<|oS 6 2 45<|N) [1,8,40,42,43,44,45])<|.ret) (q (R (oi 47 .eql 8 8<|om 46 47<|N) [40,47])<|I 46 (q (R (ok 3 (.k (.nil 6))<|N) [8,46])<|q (q (R (of 48 1 1<|ol 49 48<|oz 50 0<|N) [48])<|D (.block 1<|.loop (q (.reg (ot 51 .lss 50 49<|N))<|q (D (I 51 S (E 1)) [51])<|q (D (.block 2<|R (om 52 3<|of 53 1 5<|ol 54 53<|oo 55 (.ixa true 7 (t 54) (i 0))<|oL 56 7 55<|cl 57 40 [t 56]<|oo 58 (.bls 6 [t 57])<|oo 59 (.app 6 (t 52) (t 58))<|om 3 59<|N) [52,53,54,55,56,57,58,59]) [])<|R (oi 60 .add 50 1<|om 50 60<|N) [60])) [1,49,50,51])<|q (R (om 61 3<|cl 62 68 [t 61]<|oS 6 2 62<|N) [3,61,62])<|.ret) (q (R (oi 64 .eql 8 10<|om 63 64<|N) [46,64])<|I 63 (q (D (.regd [(1,10),(2,10),(4,10)] (of 65 1 6<|ol 66 65<|oo 67 (.ixa true 11 (t 66) (i 0))<|of 68 67 1<|ol 69 68<|of 70 1 6<|ol 71 70<|oo 72 (.ixa true 11 (t 71) (i 0))<|of 73 72 3<|oL 74 7 73<|cl 75 40 [t 74]<|cl 76 69 [t 69,t 75]<|oS 6 2 76<|N)) [1,8,63,65,66,67,68,69,70,71,72,73,74,75,76])<|.ret) (q (R (oi 78 .eql 8 9<|om 77 78<|N) [8,63,78])<|D (I 77 (q (R (ok 4 (.k (.nil 7))<|N) [77])<|q (q (R (of 79 1 6<|ol 80 79<|oh 81 80<|oz 82 0<|N) [1,79])<|D (.block 3<|.loop (q (.reg (ot 83 .lss 82 81<|N))<|q (D (I 83 S (E 3)) [83])<|q (D (.block 4<|q (R (oa true 84 11 80 82<|oL 85 11 84<|oN 6 vG<|oS 11 6 85<|N) [84,85])<|q (R (of 86 6 2<|ol 87 86<|N) [86])<|D (.block 5<|q (R (oi 89 .eql 87 1<|om 88 89<|N) [89])<|I 88 (D (.regd [(2,5)] (om 90 4<|of 91 6 1<|ol 92 91<|of 93 6 3<|oL 94 7 93<|cl 95 40 [t 94]<|oo 96 (.bld v7 [(0,1,t 92),(1,6,t 95)])<|oo 97 (.bls 7 [t 96])<|oo 98 (.app 7 (t 90) (t 97))<|om 4 98<|N)) [6,87,88,90,91,92,93,94,95,96,97,98]) (q (R (oi 100 .eql 87 3<|om 99 100<|N) [87,88,100])<|D (I 99 (D (.regd [(2,7)] (om 101 4<|of 102 6 1<|ol 103 102<|of 104 6 10<|ol 105 104<|oo 106 (.ixa true 6 (t 105) (i 0))<|oL 107 6 106<|cl 108 70 [t 107]<|oo 109 (.bld v7 [(0,1,t 103),(1,6,t 108)])<|oo 110 (.bls 7 [t 109])<|oo 111 (.app 7 (t 101) (t 110))<|om 4 111<|N)) [6,99,101,102,103,104,105,106,107,108,109,110,111]) S) [6,99])) []) [])<|R (oi 112 .add 82 1<|om 82 112<|N) [112])) [80,81,82,83,6])<|q (R (om 113 4<|cl 114 71 [t 113]<|oS 6 2 114<|N) [4,113,114])<|.ret) S) [77])))))) [11,3,4,6])<|q (R (of 115 1 0<|ol 116 115<|oo 117 (.bld v6 [(0,1,t 116)])<|oS 6 2 117<|N) [1,115,116,117])<|.ret
theorem ok40 : FT 40 118 ir40 [.cell 2 (some 6)] := .o Tryz.func40
def ir67 : Ic := q (.reg (oN 2 v6<|N))<|q (R (om 3 0<|oo 4 (.bld v6 [(0,1,i 5),(3,1,t 3)])<|oS 6 2 4<|N) [0,3,4])<|.ret
theorem ok67 : FT 67 5 ir67 [.cell 2 (some 6)] := .o Tryz.func67
def ir68 : Ic := q (.reg (oN 2 v6<|N))<|q (R (om 3 0<|oo 4 (.bld v6 [(0,1,i 8),(4,1,t 3)])<|cl 5 70 [t 4]<|oS 6 2 5<|N) [0,3,4,5])<|.ret
theorem ok68 : FT 68 6 ir68 [.cell 2 (some 6)] := .o Tryz.func68
def ir69 : Ic := q (R (ox 3 1<|oN 4 v6<|N) [1])<|q (R (om 5 0<|oL 6 6 3<|oo 7 (.bls 6 [t 6])<|oo 8 (.bld v6 [(0,1,i 10),(3,1,t 5),(4,1,t 7)])<|cl 9 70 [t 8]<|oS 6 4 9<|N) [0,3,5,6,7,8,9])<|.ret
theorem ok69 : FT 69 10 ir69 [.cell 4 (some 6)] := .o Tryz.func69
end Go.Proofs
namespace Go.Proofs
open Go.Shelf
def Tryz.laysR_ren : Go.Shelf.Ren := ⟨fun | 105 => 66 | 212 => 121 | 99 => 122 | 165 => 123 | 166 => 124 | 170 => 125 | 169 => 126 | 263 => 219 | 264 => 220 | 206 => 221 | 240 => 222 | 241 => 223 | 276 => 283 | 277 => 284 | n => n, fun | 9 => 9 | 3 => 3 | 4 => 4 | 20 => 20 | 0 => 0 | 46 => 180 | 109 => 181 | 5 => 5 | 72 => 186 | 76 => 190 | 51 => 268 | 146 => 269 | 53 => 206 | 148 => 271 | 70 => 184 | 37 => 87 | 75 => 189 | 127 => 273 | 164 => 325 | 80 => 193 | n => n, fun | n => n⟩
theorem Tryz.laysR : Go.Proofs.Lays.n105 Tryz.prog Tryz.laysR_ren := {
 mixed := kR
 f99 := Tryz.func122.trans (congrArg some kR)
 f105 := Tryz.func66.trans (congrArg some kR)
 f165 := Tryz.func123.trans (congrArg some kR)
 f166 := Tryz.func124.trans (congrArg some kR)
 f169 := Tryz.func126.trans (congrArg some kR)
 f170 := Tryz.func125.trans (congrArg some kR)
 f206 := Tryz.func221.trans (congrArg some kR)
 f212 := Tryz.func121.trans (congrArg some kR)
 f240 := Tryz.func222.trans (congrArg some kR)
 f241 := Tryz.func223.trans (congrArg some kR)
 f263 := Tryz.func219.trans (congrArg some kR)
 f264 := Tryz.func220.trans (congrArg some kR)
 f276 := Tryz.func283.trans (congrArg some kR)
 f277 := Tryz.func284.trans (congrArg some kR)
 t0 := Tryz.underlying0
 a0 := Tryz.isAgg0
 z0 := Tryz.sizeOf0
 v0 := Tryz.zeroValue0
 t3 := Tryz.underlying3
 a3 := Tryz.isAgg3
 z3 := Tryz.sizeOf3
 v3 := Tryz.zeroValue3
 t4 := Tryz.underlying4
 a4 := Tryz.isAgg4
 z4 := Tryz.sizeOf4
 v4 := Tryz.zeroValue4
 t5 := Tryz.underlying5
 a5 := Tryz.isAgg5
 z5 := Tryz.sizeOf5
 v5 := Tryz.zeroValue5
 t9 := Tryz.underlying9
 a9 := Tryz.isAgg9
 z9 := Tryz.sizeOf9
 v9 := Tryz.zeroValue9
 t20 := Tryz.underlying20
 a20 := Tryz.isAgg20
 z20 := Tryz.sizeOf20
 v20 := Tryz.zeroValue20
 t37 := Tryz.underlying87
 a37 := Tryz.isAgg87
 z37 := Tryz.sizeOf87
 v37 := Tryz.zeroValue87
 t46 := Tryz.underlying180
 a46 := Tryz.isAgg180
 z46 := Tryz.sizeOf180
 v46 := Tryz.zeroValue180
 t51 := Tryz.underlying268
 a51 := Tryz.isAgg268
 z51 := Tryz.sizeOf268
 v51 := Tryz.zeroValue268
 t53 := Tryz.underlying206
 a53 := Tryz.isAgg206
 z53 := Tryz.sizeOf206
 v53 := Tryz.zeroValue206
 t70 := Tryz.underlying184
 a70 := Tryz.isAgg184
 z70 := Tryz.sizeOf184
 v70 := Tryz.zeroValue184
 t72 := Tryz.underlying186
 a72 := Tryz.isAgg186
 z72 := Tryz.sizeOf186
 v72 := Tryz.zeroValue186
 t75 := Tryz.underlying189
 a75 := Tryz.isAgg189
 z75 := Tryz.sizeOf189
 v75 := Tryz.zeroValue189
 t76 := Tryz.underlying190
 a76 := Tryz.isAgg190
 z76 := Tryz.sizeOf190
 v76 := Tryz.zeroValue190
 t109 := Tryz.underlying181
 a109 := Tryz.isAgg181
 z109 := Tryz.sizeOf181
 v109 := Tryz.zeroValue181
 t127 := Tryz.underlying273
 a127 := Tryz.isAgg273
 z127 := Tryz.sizeOf273
 v127 := Tryz.zeroValue273
 t146 := Tryz.underlying269
 a146 := Tryz.isAgg269
 z146 := Tryz.sizeOf269
 v146 := Tryz.zeroValue269
 t148 := Tryz.underlying271
 a148 := Tryz.isAgg271
 z148 := Tryz.sizeOf271
 v148 := Tryz.zeroValue271
 t164 := Tryz.underlying325
 a164 := Tryz.isAgg325
 z164 := Tryz.sizeOf325
 v164 := Tryz.zeroValue325 }
theorem Tryz.extraR : Builder.Extra Tryz.prog Tryz.laysR_ren := {
 sizeBuilder := kR
 liesBuilder := kR
 t5 := Tryz.underlying5
 a5 := Tryz.isAgg5
 z5 := Tryz.sizeOf5
 v5 := Tryz.zeroValue5
 infoByte := kR
 cellsByte := kR
 sizeByte := kR
 neB5 := by decide }
end Go.Proofs
namespace Av
open Go Go.Sort Go.Proofs
variable [Glb] [Rls]
theorem putRowK_setRow {w : World} {b : Nat} {C : Array Value} {T : TypeId} {fr : Nat × Nat} (F : Array Value) (hh : w.heap[b]? = some (.cells C T fr)) : putRow id w b 0 F = w.setRow b (putCells id 0 F C) := by
 unfold putRow mapBlock World.setRow;congr 1;apply Array.ext_getElem?;intro k;simp only [Array.getElem?_modify];by_cases hk : b = k
 ·subst hk;rw [hh];rfl
 ·simp [hk]
theorem putCells_id (F C : Array Value) (k : Nat) : (putCells id 0 F C)[k]? = (C[k]?).map fun x => if k < F.size then F[k]! else x := by
 simp only [putCells, Array.getElem?_mapIdx, Nat.zero_le, true_and, Nat.zero_add, Nat.sub_zero, id_eq]
section
variable {β : Blocks} {A : Nat → Prop} {w : World} {H : Heap}
theorem Stp.rowPutK (hc : Core β A w H) {i b ver cap n sz : Nat} {xs xs' : List Dat} {C F : Array Value} {T : TypeId} (os : Array Go.Obj) (hi : H i = some (.row ver sz xs)) (hb : β i = some b)
  (hh : w.heap[b]? = some (.cells C T (0, 0))) (hcap : C.size = cap * sz) (hF : F.size = xs.length * sz) (hle : xs.length ≤ cap) (hlen : xs'.length = xs.length) (hs : ∀ x ∈ xs', x.cells.length = sz) (hbnd : xs.length ≤ 68719476736)
  (h1 : ∀ (j : Nat) v, F[j]? = some v → v.oneCell' = true) (hv : ∀ (j : Nat) c v, (flat xs')[j]? = some c → F[j]? = some v → Rep A w c v) :
  Stp β A w H β A (grow (putRow id (ahead w n) b 0 F) os) (upd H i (some (.row ver sz xs'))) := by
 have h0 : Stp β A w H β A (ahead w n) H := Stp.draw hc rfl rfl rfl rfl;have hh' : (ahead w n).heap[b]? = some (.cells C T (0, 0)) := hh;rw [putRowK_setRow _ hh'];have hsz : (putCells id 0 F C).size = C.size := by simp [putCells]
 have hfl : (flat xs').length = F.size := by rw [flat_length hs, hF, hlen]
 have hcell : ∀ (j : Nat) v, j < (flat xs').length → (putCells id 0 F C)[j]? = some v → F[j]? = some v := by
  intro j v hj hv;rw [putCells_id] at hv;cases hC : C[j]? with
  | none => rw [hC] at hv; cases hv
  | some x =>
   rw [hC] at hv;have hj' : j < F.size := oM;simp only [Option.map_some, if_pos hj', Option.some.injEq] at hv;rw [← hv];simp [hj']
 have h2 := Stp.rowSet h0.core (ver' := ver) (xs' := xs') (C' := putCells id 0 F C) hi hb hh' hcap hsz (Nat.le_refl _) (fun _ => hlen) hs oM oM
  (fun j v hj hv => h1 j v (hcell j v hj hv))
  (fun j c v hc' hv' => by
   have hj : j < (flat xs').length := by
    rcases Nat.lt_or_ge j (flat xs').length with h | h
    ·exact h
    ·rw [List.getElem?_eq_none h] at hc'; cases hc'
   exact (hv j c v hc' (hcell j v hj hv')).mono (fun _ _ => rfl) (fun _ h => h))
 have hsame : ∀ k, k < ((ahead w n).setRow b (putCells id 0 F C)).heap.size → (grow ((ahead w n).setRow b (putCells id 0 F C)) os).heap[k]? = ((ahead w n).setRow b (putCells id 0 F C)).heap[k]? := by
  intro k hk;show (_ ++ os)[k]? = _;rw [Array.getElem?_append_left hk]
 have h3 : Stp β A ((ahead w n).setRow b (putCells id 0 F C)) (upd H i (some (.row ver sz xs'))) β A (grow ((ahead w n).setRow b (putCells id 0 F C)) os) (upd H i (some (.row ver sz xs'))) :=
  Stp.new h2.core rfl rfl rfl (by simp [grow]) hsame (fun _ h => h) (fun _ h => .inl h) (fun k h => by have := h2.core.old k h; simp [grow] at this ⊢; omega)
 exact (h0.trans h2).trans h3
end
end Av
namespace Go.Proofs
open Go Av Go.Sort Go.RowKit
theorem cb_lt : ∀ a b : List UInt8, Lib.compareBytes a b < 0 ↔ a < b
 | [], [] => by simp [Lib.compareBytes]
 | [], _ :: _ => by simp [Lib.compareBytes]
 | _ :: _, [] => by simp [Lib.compareBytes]
 | a :: xs, b :: bs => by
  rw [Lib.compareBytes, List.cons_lt_cons_iff];split
  ·simp [*]
  ·rename_i h;split
   ·rename_i h2;have : a ≠ b := by rintro rfl; exact absurd h2 (UInt8.lt_irrefl a)
    simp [h, this]
   ·rename_i h2;have : a = b := UInt8.le_antisymm (UInt8.not_lt.1 h2) (UInt8.not_lt.1 h);rw [cb_lt xs bs];simp [h, this]
def srtF (fs : List Fld) : List Fld := fs.mergeSort fun x y => !decide (Lib.compareBytes y.name x.name < 0)
theorem swoB {α : Type} (f : α → List UInt8) : SWO (ltOf fun x y : α => Lib.compareBytes (f x) (f y)) where
 irrefl x := by simp only [ltOf, decide_eq_false_iff_not, cb_lt]; exact List.lt_irrefl _
 trans x y z h1 h2 := by
  simp only [ltOf, decide_eq_true_eq, cb_lt] at *;exact List.lt_trans h1 h2
 ntrans x y z h1 h2 := by
  simp only [ltOf, decide_eq_false_iff_not, cb_lt] at *;rw [List.not_lt] at *;exact List.le_trans h2 h1
theorem eqB {a b : List UInt8} (h1 : ¬ Lib.compareBytes a b < 0) (h2 : ¬ Lib.compareBytes b a < 0) : a = b := by
 rw [cb_lt, List.not_lt] at *;exact List.le_antisymm h2 h1
def cellsL (fs : List Fld) (C : Array Value) : List (Fld × List Value) := fs.mapIdx fun i f => (f, (List.range 7).map fun c => C[i * 7 + c]!)
theorem cellsL_len (fs : List Fld) (C : Array Value) : (cellsL fs C).length = fs.length := by simp [cellsL]
theorem cellsL_get (fs : List Fld) (C : Array Value) (i : Nat) (h : i < fs.length) : (cellsL fs C)[i]'(by rw [cellsL_len]; exact h) = (fs[i], (List.range 7).map fun c => C[i * 7 + c]!) := by simp [cellsL]
theorem cellsL_mem {fs : List Fld} {C : Array Value} {p : Fld × List Value} (h : p ∈ cellsL fs C) : ∃ (i : Nat) (hi : i < fs.length), p = (fs[i], (List.range 7).map fun c => C[i * 7 + c]!) := by
 obtain ⟨i, hi, rfl⟩ := List.getElem_of_mem h;rw [cellsL_len] at hi;exact ⟨i, hi, cellsL_get fs C i hi⟩
theorem sort_map (fs : List Fld) (C : Array Value) : ((cellsL fs C).attach.mergeSort fun x y => !(ltOf fun (x y : { p // p ∈ cellsL fs C }) => Lib.compareBytes x.1.1.name y.1.1.name) y x).map (fun p => p.1.1) = srtF fs := by
 have h : (cellsL fs C).attach.map (fun p => p.1.1) = fs := by
  rw [show (fun p : { p // p ∈ cellsL fs C } => p.1.1) = Prod.fst ∘ Subtype.val from rfl, ← List.map_map, List.attach_map_subtype_val];apply List.ext_getElem
  ·simp [cellsL]
  ·intro i h1 h2;simp [cellsL]
 have := List.map_mergeSort (r := fun x y => !(ltOf fun (x y : { p // p ∈ cellsL fs C }) => Lib.compareBytes x.1.1.name y.1.1.name) y x) (s := fun (x y : Fld) => !decide (Lib.compareBytes y.name x.name < 0)) (f := fun p => p.1.1) (l := (cellsL fs C).attach) (fun a _ b _ => rfl);rw [this, h];rfl
@[reducible] def sub_inh {α : Type} {l : List α} (h : l ≠ []) : Inhabited { p // p ∈ l } := ⟨⟨l.head h, List.head_mem h⟩⟩
end Go.Proofs
namespace Av
open Go Go.Sort Go.Proofs
variable [Glb] [Rls]
theorem encF_len7 (f : Fld) : (encF f).cells.length = 7 := by rw [encF_eq]; rfl
theorem CallOK.sortF {P : Program} {f g : Nat} (hh : Has P f)
  (hS : ∀ (α : Type) [Inhabited α] (enc : α → List Value) (cf : α → α → Int) (b cap : Nat) (d : Array α) (w : World), (∀ x, (enc x).length = 7) → (∀ x, ∀ v ∈ enc x, v.oneCell' = true) → SWO (ltOf cf) →
   CmpLays P g #[] enc 7 cf b 0 d.size w → HoldsK enc 7 w b 0 d → b < w.heap.size → d.size < 4611686018427387904 → (∀ x y, (ltOf cf) x y = false → (ltOf cf) y x = false → x = y) →
   Calls P f #[.slice (some ⟨b, 0, none⟩) d.size cap, .func (.func g) #[] #[]] w fun e w' => e = .returned (.tuple #[]) ∧ ∃ n os, w' = sortWorldK enc 7 w b 0 n (d.toList.mergeSort fun x y => !(ltOf cf) y x).toArray os)
  (hN : ∀ (p : Option Addr) (cap : Nat) (fv : Value) (w : World), Calls P f #[.slice p 0 cap, fv] w fun e w' => e = .returned (.tuple #[]) ∧ w' = w)
  (hC : ∀ (a b : List UInt8) (u v : List Value) (w : World), u.length = 6 → v.length = 6 → Calls P g #[.agg (.string ⟨a.toArray⟩ :: u).toArray, .agg (.string ⟨b.toArray⟩ :: v).toArray] w fun e w' => e = .returned (.int .i64 (Lib.compareBytes a b)) ∧ ∃ q os', w' = grow (w.drewN q) os')
  (i v : Nat) (fs : List Fld) (hnd : fs.Pairwise fun x y => x.name ≠ y.name) :
  CallOK P f [.ms i v, .d (.fn (.func g) [] [])] [(i, some (.row v 7 (fs.map encF)))] (.tup []) [(i, .row v 7 ((srtF fs).map encF))] := by
 intro β A w H vs hT hc hvs;have hi : H i = some (.row v 7 (fs.map encF)) := hT _ (List.mem_singleton.2 rfl);obtain ⟨_, hcell, hbnd, hrow⟩ := hc.objs i _ hi;obtain ⟨u, fv, rfl⟩ : ∃ x y, vs = #[x, y] := by
  have h2 : 2 = vs.size := hvs.1;refine ⟨vs[0], vs[1], ?_⟩;apply Array.ext
  ·simp [← h2]
  ·intro k h1 h3
   match k, h1 with
   | 0, _ => rfl
   | 1, _ => rfl
   | k + 2, h1 => omega
 have hu := hvs.2 0 (.ms i v) u rfl rfl;have hf := hvs.2 1 (.d (.fn (.func g) [] [])) fv rfl rfl;have hfv : fv = .func (.func g) #[] #[] := by
  cases hf with
  | d _ _ h =>
   cases h with
   | fn _ _ _ a1 a2 l1 l2 _ _ =>
    have e1 : a1 = #[] := Array.eq_empty_of_size_eq_zero (sX l1.symm);have e2 : a2 = #[] := Array.eq_empty_of_size_eq_zero (sX l2.symm);rw [e1, e2]
 subst hfv;refine .inl ⟨hh, ?_⟩;have hnil : ∀ a cap, fs = [] → u = .slice a 0 cap → Calls P f #[u, .func (.func g) #[] #[]] w fun e w' => ∃ r β' A', e = .returned r ∧ Stp β A w H β' A' w' (hputs H [(i, .row v 7 ((srtF fs).map encF))]) ∧ VRep β' A' w' (hputs H [(i, .row v 7 ((srtF fs).map encF))]) (.tup []) r := by
  intro a cap hfs hua;subst hua;refine (hN a cap _ w).mono ?_;rintro e w' ⟨rfl, rfl⟩;have : hputs H [(i, .row v 7 ((srtF fs).map encF))] = H := by
   have hs : srtF fs = [] := by rw [hfs]; simp [srtF]
   rw [hs];simp only [hputs, List.map_nil];exact upd_self _ _ _ (by rw [hi, hfs]; rfl)
  rw [this];exact ⟨_, β, A, rfl, Stp.refl hc, .tup [] #[] rfl sP⟩
 have hfin : ∀ {Q}, (∀ e w', (∃ r β' A', e = .returned r ∧ Stp β A w H β' A' w' (hputs H [(i, .row v 7 ((srtF fs).map encF))]) ∧ VRep β' A' w' (hputs H [(i, .row v 7 ((srtF fs).map encF))]) (.tup []) r) → Q e w') →
   (Calls P f #[u, .func (.func g) #[] #[]] w fun e w' => ∃ r β' A', e = .returned r ∧ Stp β A w H β' A' w' (hputs H [(i, .row v 7 ((srtF fs).map encF))]) ∧ VRep β' A' w' (hputs H [(i, .row v 7 ((srtF fs).map encF))]) (.tup []) r) → Calls P f #[u, .func (.func g) #[] #[]] w Q := fun h1 h2 => h2.mono h1
 refine hfin (fun e w' ⟨r, β', A', a, b, c⟩ => ⟨r, a, β', A', b, c⟩) ?_;cases hu with
 | ms _ _ _ hoc h0 h1 h2 =>
  obtain ⟨_, hrv⟩ := h1 _ _ _ hi;have hrv := hrv rfl;rcases hrv with ⟨hbn, hn, a, rfl⟩ | ⟨b, C, T, fz, cap, hb, hheap, hCs, hle, rfl⟩
  ·exact hnil a 0 (sX hn) rfl
  ·rcases Nat.eq_zero_or_pos fs.length with hz | hpos
   ·have hz' := List.eq_nil_of_length_eq_zero hz;exact hnil (some ⟨b, 0, none⟩) cap hz' (by rw [hz']; rfl)
   ·rcases hrow with ⟨hbn, _⟩ | ⟨b', C', T', cap', hb', hh', hC', hle', h1c, h2c⟩
    ·rw [hb] at hbn; cases hbn
    ·rw [hb] at hb';cases hb';rw [hheap] at hh';cases hh';have hs7 : ∀ x ∈ fs.map encF, x.cells.length = 7 := by
      intro x hx;obtain ⟨y, _, rfl⟩ := List.mem_map.1 hx;exact encF_len7 y
     have hln : (fs.map encF).length = fs.length := sP;have hfl : (flat (fs.map encF)).length = fs.length * 7 := by rw [flat_length hs7, hln]
     have hCz : C.size = cap * 7 := hCs;have hle2 : fs.length ≤ cap := sX hle;have hin : ∀ m c, m < fs.length → c < 7 → m * 7 + c < C.size ∧ m * 7 + c < (flat (fs.map encF)).length := by
      intro m c hm hc7;rw [hfl, hCz];omega
     have hget : ∀ m c, m < fs.length → c < 7 → C[m * 7 + c]? = some C[m * 7 + c]! := by
      intro m c hm hc7;have := (hin m c hm hc7).1;simp [this]
     have hcl : ∀ m c (hm : m < fs.length), c < 7 → ∃ d, (encF fs[m]).cells[c]? = some d ∧ Rep A w d C[m * 7 + c]! := by
      intro m c hm hc7;have h7 := encF_len7 fs[m];refine ⟨(encF fs[m]).cells[c], List.getElem?_eq_getElem oM, ?_⟩;refine h2c (m * 7 + c) _ _ ?_ (hget m c hm hc7);rw [flatT_cell hs7 hc7];simp [cellAt, hm, h7, hc7]
     have hone : ∀ m c, m < fs.length → c < 7 → (C[m * 7 + c]!).oneCell' = true := fun m c hm hc7 => h1c _ _ (hin m c hm hc7).2 (hget m c hm hc7)
     have hstr : ∀ m (hm : m < fs.length), C[m * 7 + 0]! = .string ⟨fs[m].name.toArray⟩ := by
      intro m hm;obtain ⟨d, hd, hr⟩ := hcl m 0 hm dC;rw [encF_eq] at hd;cases hd;generalize C[m * 7 + 0]! = z at hr;cases hr with
      | str _ _ => rfl
     have hnl : cellsL fs C ≠ [] := by intro h; have := congrArg List.length h; rw [cellsL_len, List.length_nil] at this; omega
     letI := sub_inh hnl
     let enc : { p // p ∈ cellsL fs C } → List Value := fun p => p.1.2
     let cf : { p // p ∈ cellsL fs C } → { p // p ∈ cellsL fs C } → Int := fun x y => Lib.compareBytes x.1.1.name y.1.1.name
     have hk : ∀ x, (enc x).length = 7 := by
      intro x;obtain ⟨m, hm, e⟩ := cellsL_mem x.2;show x.1.2.length = 7;rw [e]; simp
     have hec : ∀ (x : { p // p ∈ cellsL fs C }), ∃ m, ∃ hm : m < fs.length, x.1.1 = fs[m] ∧ ∀ c, c < 7 → (enc x)[c]? = some C[m * 7 + c]! := by
      intro x;obtain ⟨m, hm, e⟩ := cellsL_mem x.2;refine ⟨m, hm, by rw [e], fun c hc7 => ?_⟩;show x.1.2[c]? = _;rw [e];simp [hc7]
     have ho : ∀ x, ∀ v ∈ enc x, v.oneCell' = true := by
      intro x v hv;obtain ⟨m, hm, _, e⟩ := hec x;obtain ⟨c, hc7, rfl⟩ := List.getElem_of_mem hv;rw [hk x] at hc7;have := e c hc7;rw [List.getElem?_eq_getElem (by rw [hk x]; exact hc7), Option.some.injEq] at this;rw [this];exact hone m c hm hc7
     have hsh : ∀ x, ∃ u, u.length = 6 ∧ enc x = .string ⟨x.1.1.name.toArray⟩ :: u := by
      intro x;obtain ⟨m, hm, e1, e⟩ := hec x;have h0 := e 0 dC;have hl := hk x;cases hx : enc x with
      | nil => rw [hx] at hl; cases hl
      | cons y r =>
       rw [hx] at h0 hl;refine ⟨r, by simpa using hl, ?_⟩;simp only [List.getElem?_cons_zero, Option.some.injEq] at h0;rw [h0, hstr m hm, e1]
     have hcmp : ∀ n W, CmpLays P g #[] enc 7 cf b 0 n W := by
      intro n W m os dk _ x y;obtain ⟨u1, l1, q1⟩ := hsh x;obtain ⟨u2, l2, q2⟩ := hsh y;rw [q1, q2];exact hC x.1.1.name y.1.1.name u1 u2 _ l1 l2
     have hT2 : ∀ x y, ltOf cf x y = false → ltOf cf y x = false → x = y := by
      intro x y a1 a2;have hn : x.1.1.name = y.1.1.name := eqB (by simpa [ltOf, cf] using a1) (by simpa [ltOf, cf] using a2);obtain ⟨m, hm, e1⟩ := cellsL_mem x.2;obtain ⟨m2, hm2, e2⟩ := cellsL_mem y.2;have hmm : m = m2 := by
       rcases Nat.lt_trichotomy m m2 with h | h | h
       ·exact absurd (by rw [e1, e2] at hn; exact hn) (List.pairwise_iff_getElem.1 hnd m m2 hm hm2 h)
       ·exact h
       ·exact absurd (by rw [e1, e2] at hn; exact hn.symm) (List.pairwise_iff_getElem.1 hnd m2 m hm2 hm h)
      subst hmm;exact Subtype.ext (e1.trans e2.symm)
     have hds : (cellsL fs C).attach.toArray.size = fs.length := by simp [cellsL_len]
     have hHK : HoldsK enc 7 w b 0 (cellsL fs C).attach.toArray := by
      intro j hj;have hj : j < fs.length * 7 := by simpa [cellsL_len] using hj
      have hm : j / 7 < fs.length := oM;have hc7 : j % 7 < 7 := Nat.mod_lt _ dC;have hjj : j / 7 * 7 + j % 7 = j := oM;refine ⟨?_, by simp [World.frozen?, hheap]⟩;rw [get_flatK _ _ _ _ (by rw [hds]; exact hj)];have e1 : ((cellsL fs C).attach.toArray[j / 7]!).1 = (fs[j / 7], (List.range 7).map fun c => C[j / 7 * 7 + c]!) := by
       rw [getElem!_pos _ _ (by rw [hds]; exact hm)];simp only [List.getElem_toArray, List.getElem_attach];exact cellsL_get fs C _ hm
      show w.cell? ⟨b, 0 + j, none⟩ = some (((cellsL fs C).attach.toArray[j / 7]!).1.2[j % 7]!);rw [e1];have := hget _ _ hm hc7;rw [hjj] at this;simp [World.cell?, hheap, hc7, hjj, this]
     have hcall := hS _ enc cf b cap (cellsL fs C).attach.toArray w hk ho (swoB _) (hcmp _ _) hHK (Array.getElem?_eq_some_iff.1 hheap).1 (by rw [hds]; simp at hbnd; omega) hT2;rw [hds] at hcall;have hlen0 : (fs.map encF).length = fs.length := sP;rw [hlen0];refine hcall.mono ?_;rintro e w' ⟨rfl, n, os, rfl⟩;refine ⟨_, β, A, rfl, ?_, .tup [] #[] rfl sP⟩;have hD : ((cellsL fs C).attach.mergeSort fun x y => !(ltOf cf) y x).map (fun p => p.1.1) = srtF fs := sort_map fs C;have e2 : (cellsL fs C).attach.toArray.toList = (cellsL fs C).attach := rfl;rw [e2];have hDl : ((cellsL fs C).attach.mergeSort fun x y => !(ltOf cf) y x).length = fs.length := by rw [List.length_mergeSort, List.length_attach, cellsL_len]
     generalize ((cellsL fs C).attach.mergeSort fun x y => !(ltOf cf) y x) = D at hD hDl;rw [← hD];have hxs : ∀ x ∈ (D.map fun p => p.1.1).map encF, x.cells.length = 7 := by
      intro x hx;obtain ⟨y, _, rfl⟩ := List.mem_map.1 hx;exact encF_len7 y
     have hFz : (flatK enc 7 D.toArray).size = fs.length * 7 := by simp [hDl]
     have hFg : ∀ (j : Nat) v, (flatK enc 7 D.toArray)[j]? = some v → ∃ p ∈ D, D[j / 7]? = some p ∧ (enc p)[j % 7]? = some v := by
      intro j v hj;have hj2 : j < fs.length * 7 := by rw [← hFz]; exact (Array.getElem?_eq_some_iff.1 hj).1
      have hm : j / 7 < D.length := by rw [hDl]; omega
      have hc7 : j % 7 < 7 := Nat.mod_lt _ dC;have h1 : (flatK enc 7 D.toArray)[j]! = v := by rw [getElem!_def, hj]
      rw [get_flatK _ _ _ _ (by simp [hDl]; exact hj2), getElem!_pos D.toArray _ (sX hm)] at h1;simp only [List.getElem_toArray] at h1;refine ⟨D[j / 7], List.getElem_mem hm, List.getElem?_eq_getElem hm, ?_⟩;have hl := hk D[j / 7];rw [getElem!_pos _ _ (by rw [hl]; exact hc7)] at h1;rw [List.getElem?_eq_getElem (by rw [hl]; exact hc7), h1]
     refine Stp.rowPutK hc os hi hb hheap hCs (by rw [hFz]; simp) (sX hle) (by simp [hDl]) hxs hbnd ?_ ?_
     ·intro j v hj;obtain ⟨p, _, _, hp⟩ := hFg j v hj;exact ho p v (List.mem_of_getElem? hp)
     ·intro j c v hc' hj;obtain ⟨p, _, hp1, hp⟩ := hFg j v hj;obtain ⟨m, hm, e3, e4⟩ := hec p;have hc7 : j % 7 < 7 := Nat.mod_lt _ dC;have hjj : j / 7 * 7 + j % 7 = j := oM;obtain ⟨d, hd, hr⟩ := hcl m (j % 7) hm hc7;rw [e4 _ hc7, Option.some.injEq] at hp;have hcc := flatT_cell (k := j / 7) (c := j % 7) hxs hc7;rw [hjj, hc'] at hcc;simp only [cellAt, List.getElem?_map, hp1, Option.map_some, Option.bind_some, e3, hd, Option.some.injEq] at hcc;rw [hcc, ← hp];exact hr
end Av
namespace Go.Proofs
open Go.Shelf
def Tryz.laysSF_ren : Go.Shelf.Ren := ⟨fun | 6 => 130 | 15 => 226 | 14 => 225 | 28 => 293 | 29 => 230 | 20 => 285 | 21 => 286 | 22 => 287 | 23 => 288 | 24 => 289 | 25 => 290 | 26 => 291 | 27 => 292 | 46 => 335 | 47 => 336 | 48 => 337 | 49 => 338 | 50 => 339 | 57 => 371 | n => n, fun | 22 => 35 | 24 => 130 | 25 => 199 | 3 => 3 | 39 => 180 | 0 => 0 | 53 => 268 | 55 => 206 | 4 => 4 | 46 => 330 | 45 => 329 | 50 => 93 | 5 => 5 | 9 => 9 | 66 => 369 | 70 => 71 | 76 => 405 | 77 => 406 | n => n, fun | n => n⟩
theorem Tryz.laysSF : Go.Proofs.SlLaysF0.n6 Tryz.prog Tryz.laysSF_ren := {
 mixed := kR
 f6 := ⟨Tryz.f130.name, dC, Tryz.func130.trans (congrArg some kR)⟩
 f14 := ⟨Tryz.f225.name, dC, Tryz.func225.trans (congrArg some kR)⟩
 f15 := Tryz.func226.trans (congrArg some kR)
 f20 := ⟨Tryz.f285.name, dC, Tryz.func285.trans (congrArg some kR)⟩
 f21 := ⟨Tryz.f286.name, dC, Tryz.func286.trans (congrArg some kR)⟩
 f22 := ⟨Tryz.f287.name, dC, Tryz.func287.trans (congrArg some kR)⟩
 f23 := ⟨Tryz.f288.name, dC, Tryz.func288.trans (congrArg some kR)⟩
 f24 := ⟨Tryz.f289.name, dC, Tryz.func289.trans (congrArg some kR)⟩
 f25 := ⟨Tryz.f290.name, dC, Tryz.func290.trans (congrArg some kR)⟩
 f26 := ⟨Tryz.f291.name, dC, Tryz.func291.trans (congrArg some kR)⟩
 f27 := ⟨Tryz.f292.name, dC, Tryz.func292.trans (congrArg some kR)⟩
 f28 := Tryz.func293.trans (congrArg some kR)
 f29 := Tryz.func230.trans (congrArg some kR)
 f46 := ⟨Tryz.f335.name, dC, Tryz.func335.trans (congrArg some kR)⟩
 f47 := Tryz.func336.trans (congrArg some kR)
 f48 := Tryz.func337.trans (congrArg some kR)
 f49 := ⟨Tryz.f338.name, dC, Tryz.func338.trans (congrArg some kR)⟩
 f50 := ⟨Tryz.f339.name, dC, Tryz.func339.trans (congrArg some kR)⟩
 f57 := ⟨Tryz.f371.name, dC, Tryz.func371.trans (congrArg some kR)⟩
 t0 := Tryz.underlying0
 a0 := Tryz.isAgg0
 z0 := Tryz.sizeOf0
 v0 := Tryz.zeroValue0
 t3 := Tryz.underlying3
 a3 := Tryz.isAgg3
 z3 := Tryz.sizeOf3
 v3 := Tryz.zeroValue3
 t4 := Tryz.underlying4
 a4 := Tryz.isAgg4
 z4 := Tryz.sizeOf4
 v4 := Tryz.zeroValue4
 t5 := Tryz.underlying5
 a5 := Tryz.isAgg5
 z5 := Tryz.sizeOf5
 v5 := Tryz.zeroValue5
 t9 := Tryz.underlying9
 a9 := Tryz.isAgg9
 z9 := Tryz.sizeOf9
 v9 := Tryz.zeroValue9
 t22 := Tryz.underlying35
 a22 := Tryz.isAgg35
 z22 := Tryz.sizeOf35
 v22 := Tryz.zeroValue35
 t25 := Tryz.underlying199
 a25 := Tryz.isAgg199
 z25 := Tryz.sizeOf199
 v25 := Tryz.zeroValue199
 t39 := Tryz.underlying180
 a39 := Tryz.isAgg180
 z39 := Tryz.sizeOf180
 v39 := Tryz.zeroValue180
 t45 := Tryz.underlying329
 a45 := Tryz.isAgg329
 z45 := Tryz.sizeOf329
 v45 := Tryz.zeroValue329
 t46 := Tryz.underlying330
 a46 := Tryz.isAgg330
 z46 := Tryz.sizeOf330
 v46 := Tryz.zeroValue330
 t50 := Tryz.underlying93
 a50 := Tryz.isAgg93
 z50 := Tryz.sizeOf93
 v50 := Tryz.zeroValue93
 t53 := Tryz.underlying268
 a53 := Tryz.isAgg268
 z53 := Tryz.sizeOf268
 v53 := Tryz.zeroValue268
 t55 := Tryz.underlying206
 a55 := Tryz.isAgg206
 z55 := Tryz.sizeOf206
 v55 := Tryz.zeroValue206
 t66 := Tryz.underlying369
 a66 := Tryz.isAgg369
 z66 := Tryz.sizeOf369
 v66 := Tryz.zeroValue369
 t70 := Tryz.underlying71
 a70 := Tryz.isAgg71
 z70 := Tryz.sizeOf71
 v70 := Tryz.zeroValue71
 t76 := Tryz.underlying405
 a76 := Tryz.isAgg405
 z76 := Tryz.sizeOf405
 v76 := Tryz.zeroValue405
 t77 := Tryz.underlying406
 a77 := Tryz.isAgg406
 z77 := Tryz.sizeOf406
 v77 := Tryz.zeroValue406 }
def Tryz.laysCmp_ren : Go.Shelf.Ren := ⟨fun | 106 => 132 | 213 => 227 | 265 => 294 | n => n, fun | 9 => 9 | 3 => 3 | n => n, fun | n => n⟩
theorem Tryz.laysCmp : Go.Proofs.Lays.n106 Tryz.prog Tryz.laysCmp_ren := {
 mixed := kR
 f106 := Tryz.func132.trans (congrArg some kR)
 f213 := Tryz.func227.trans (congrArg some kR)
 f265 := Tryz.func294.trans (congrArg some kR)
 t3 := Tryz.underlying3
 a3 := Tryz.isAgg3
 z3 := Tryz.sizeOf3
 v3 := Tryz.zeroValue3
 t9 := Tryz.underlying9
 a9 := Tryz.isAgg9
 z9 := Tryz.sizeOf9
 v9 := Tryz.zeroValue9 }
end Go.Proofs
namespace Go.Proofs
open Go Av Go.Shelf Go.RowKit Go.Lib Go.Sort
theorem len6 {u : List Value} (h : u.length = 6) : ∃ a b c d e f, u = [a, b, c, d, e, f] := by
 match u, h with
 | [a, b, c, d, e, f], _ => exact ⟨a, b, c, d, e, f, rfl⟩
set_option maxHeartbeats 2000000 in
theorem clo106 (a b : List UInt8) (u v : List Value) (W : World) (hu : u.length = 6) (hv : v.length = 6) : Calls Tryz.prog 131 #[.agg (.string ⟨a.toArray⟩ :: u).toArray, .agg (.string ⟨b.toArray⟩ :: v).toArray] W fun e w' =>
  e = .returned (.int .i64 (Lib.compareBytes a b)) ∧ ∃ q os', w' = grow (W.drewN q) os' := by
 have hcon := fun W' => Any.strings_Compare Tryz.laysCmp ⟨a.toArray⟩ ⟨b.toArray⟩ W'
 change ∀ W', Calls Tryz.prog 132 _ _ _ at hcon;simp only at hcon;generalize Lib.compareBytes a b = r at hcon ⊢;obtain ⟨u1, u2, u3, u4, u5, u6, rfl⟩ := len6 hu;obtain ⟨v1, v2, v3, v4, v5, v6, rfl⟩ := len6 hv
 go_enter Tryz.func131, Tryz.ntmps131
 go_wp2_with (go_at_call 132; refine (hcon _).mono ?_; rintro e w' ⟨rfl, rfl⟩)
 go_ret
 exact ⟨rfl, 0, _, by rw [alloc_eq_grow, alloc_eq_grow, grow_grow]; rfl⟩
end Go.Proofs
namespace Go.Proofs
open Go Av
open Av.Y
def ir71 : Ic := q (.reg (oN 2 v6<|N))<|q (R (oo 7 (.bld v6 [(0,1,i 9)])<|oN 3 v6<|oS 6 3 7<|N) [7])<|q (q (.reg (om 8 0<|oh 9 8<|oz 10 0<|N))<|D (.block 0<|.loop (q (.reg (ot 11 .lss 10 9<|N))<|q (D (I 11 S (E 0)) [11])<|q (D (.block 1<|q (R (om 12 10<|oa true 13 7 8 10<|oL 14 7 13<|oN 5 v7<|om 4 12<|oS 7 5 14<|N) [12,13,14])<|q (R (om 15 0<|om 16 4<|oi 17 .add 16 1<|oo 18 (.slc 7 (t 15) (some (t 17)) none none)<|oo 19 (.fnv (.func 128) [] [t 5])<|cl 20 127 [t 18,t 19]<|om 6 20<|N) [4,15,16,17,18,19,20])<|q (R (of 21 5 1<|oL 22 6 21<|cl 23 129 [t 22]<|og 24 23<|om 25 24<|.sc 25 true (om 26 6<|og 27 26<|N) (t 27) 28 N) [6,21,22,23,24,25])<|D (I 28 (R (of 29 3 5<|ol 30 29<|oL 31 7 5<|oo 32 (.bls 7 [t 31])<|oo 33 (.app 7 (t 30) (t 32))<|of 34 3 5<|os 34 33<|N) [5,28,29,30,31,32,33,34]) S) [5,28]) [])<|R (oi 35 .add 10 1<|om 10 35<|N) [35])) [0,8,9,10,11,5,4,6])<|q (R (of 36 3 5<|ol 37 36<|cl 38 130 [t 37,.k (.fn (.func 131) [] [])]<|N) [36,37,38])<|q (R (oL 39 6 3<|cl 40 70 [t 39]<|oS 6 2 40<|N) [3,39,40])<|.ret
theorem ok71 : FT 71 41 ir71 [.cell 2 (some 6)] := .o Tryz.func71
def ir127 : Ic := q (R (ow 4 false<|N) [4])<|q (R (om 5 0<|om 6 1<|cl 7 224 [t 5,t 6]<|oi 8 .geq 7 0<|om 4 8<|N) [0,1,5,6,7,8])<|.ret
theorem ok127 : FT 127 9 ir127 [.tmp 4] := .o Tryz.func127
def ir128 : Ic := q (R (ox 2 0<|ow 3 false<|N) [0,3])<|q (R (of 4 2 0<|ol 5 4<|of 6 1 0<|ol 7 6<|ot 8 .seq 5 7<|om 9 8<|.sc 9 true (of 10 2 1<|oL 11 6 10<|cl 12 129 [t 11]<|og 13 12<|N) (t 13) 14 (om 3 14<|N)) [2,4,5,6,7,8,9,14])<|.ret
theorem ok128 : FT 128 15 ir128 [.tmp 3] := .o Tryz.func128
end Go.Proofs
set_option maxHeartbeats 2000000
namespace Av
open Go
variable [Glb] [Rls]
theorem PCon.callDat {P : Program} {f : Nat} {args : List Av} {ds : List Dat} {r : Av} {T : List (Nat × Option Obj)} {ups : List (Nat × Obj)} {p : Prop} (h : PCon P f ds r) (hr : pureR r)
  (hd : ∀ H : Heap, (∀ e ∈ T, H e.1 = e.2) → datumAll H args = some (p, ds, ups)) (hp : p) : CallOK P f args T r ups := by
 intro β A w H vs hT hc hvs;obtain ⟨A1, s1, l1, r1, m1⟩ := datumAll_ok hc (hd H hT) hp (us := vs.toList) (sX hvs.1) (fun k c u h1 h2 => hvs.2 k c u h1 (sX h2));have := h.call hr β A1 w _ vs sP s1.core ⟨by simpa using l1, fun k c u h1 h2 => by
  rw [List.getElem?_map] at h1;cases hq : ds[k]? with
  | none => rw [hq] at h1; cases h1
  | some x =>
   rw [hq] at h1;cases h1;exact .d _ _ (r1 k x u hq (sX h2))⟩
 rcases this with ⟨a1, a2⟩ | ⟨u, w', a1, β', A', a2, a3⟩
 ·refine .inl ⟨a1, a2.mono ?_⟩;rintro e w' ⟨u, rfl, β', A', b1, b2⟩;exact ⟨u, rfl, β', A', s1.trans b1, b2⟩
 ·exact .inr ⟨u, w', a1, β', A', s1.trans a2, a3⟩
theorem PCon.canon {P : Program} {f : Nat} {ds : List Dat} {v : Av} (h : PCon P f (ds.map Dat.canon) v) : PCon P f ds v := ⟨h.1, fun β A w vs hc hvs => h.2 β A w vs hc ⟨by simpa using hvs.1, fun k c u h1 h2 => by
 rw [List.getElem?_map, List.getElem?_map] at h1;cases e : ds[k]? with
 | none => rw [e] at h1; cases h1
 | some x =>
  rw [e] at h1;cases h1;exact VRep.canon (hvs.2 k (.d x) u (by rw [List.getElem?_map, e]; rfl) h2)⟩⟩
end Av
namespace Go.Proofs
open Go Av
theorem ixF_any (q : Fld → Bool) (l : List Fld) : decide (ixF q l ≥ 0) = l.any q := by
 unfold ixF;cases e : l.findIdx? q with
 | none =>
  rw [List.findIdx?_eq_none_iff] at e;have : l.any q = false := by rw [List.any_eq_false]; intro x hx; rw [e x hx]; decide
  rw [this]; rfl
 | some k =>
  obtain ⟨h1, h2, _⟩ := List.findIdx?_eq_some_iff_getElem.1 e;have : l.any q = true := List.any_eq_true.2 ⟨_, List.getElem_mem h1, h2⟩;rw [this];simp
theorem walk127 {g : Nat} {cs : List Dat} {q : Fld → Bool} (hq : ∀ x, PT g [encF x, .ptr cs] (.d (.bool (q x)))) (l : List Fld) (hl : l.length ≤ 68719476736) :
  PT 127 [.list 7 (l.map encF), cloD g cs] (.d (.bool (l.any q))) := by
 refine ok127.pc ?_;have c := (walk224 hq l hl).call trivial;rw [← ixF_any];simp only [go_sem, ir127, simprocAttr];refine wc c trivial
theorem encF_cells (f : Fld) : (encF f).cells = [.str f.name, .int .i64 f.value.kind, .int .i64 f.value.int, .int .i64 f.value.scale, .str f.value.text, .list 6 (f.value.list.map encV), .list 7 (f.value.fields.map encF)] := by rw [encF_eq]; rfl
def shdB (f g : Fld) : Bool := g.name == f.name && !nullV g.value
theorem walk128 (g f : Fld) : PT 128 [encF g, .ptr (encF f).cells] (.d (.bool (shdB f g))) := by
 refine ok128.pc ?_;have c := (walk129 g.value).call trivial;unfold shdB;generalize nullV g.value = N at *;rw [encV_eq] at c;rw [encF_eq g, encF_cells];simp only [go_sem, ir128, Nat.reduceAdd, Nat.reduceEqDiff, Nat.reduceBEq, Nat.reduceLeDiff, reduceCtorEq, ↓reduceIte];refine ⟨by decide, ?_⟩;refine sq (!N) ?_ ?_
 ·refine zz ?_;refine wc c trivial
 exact zz trivial
def kepR : List Fld → List Fld
 | [] => []
 | f :: r => if (!nullV f.value && !(r.any (shdB f))) = true then f :: kepR r else kepR r
theorem kepR_mem : ∀ {l : List Fld} {g : Fld}, g ∈ kepR l → g ∈ l ∧ nullV g.value = false
 | f :: r, g, h => by
  rw [kepR] at h;split at h
  ·rename_i h1;rcases List.mem_cons.1 h with rfl | h
   ·rw [Bool.and_eq_true] at h1;exact ⟨List.mem_cons_self, by simpa using h1.1⟩
   ·have := kepR_mem h;exact ⟨List.mem_cons_of_mem _ this.1, this.2⟩
  ·have := kepR_mem h;exact ⟨List.mem_cons_of_mem _ this.1, this.2⟩
theorem kepR_nd : ∀ l : List Fld, (kepR l).Pairwise fun x y => x.name ≠ y.name
 | [] => List.Pairwise.nil
 | f :: r => by
  rw [kepR];split
  ·rename_i h1;rw [Bool.and_eq_true] at h1;refine List.Pairwise.cons (fun g hg he => ?_) (kepR_nd r);obtain ⟨a, b⟩ := kepR_mem hg;have : r.any (shdB f) = true := List.any_eq_true.2 ⟨g, a, by unfold shdB; rw [b, ← he]; simp⟩;rw [this] at h1;cases h1.2
  ·exact kepR_nd r
theorem kepR_len : ∀ l : List Fld, (kepR l).length ≤ l.length
 | [] => Nat.le_refl _
 | f :: r => by
  rw [kepR];have := kepR_len r;split <;> simp only [List.length_cons] <;> omega
theorem step71 (l : List Fld) (hl : l.length ≤ 68719476735)
  (hs : ∀ (i v : Nat) (fs : List Fld), fs.Pairwise (fun x y => x.name ≠ y.name) → CT 130 [.ms i v, .d (.fn (.func 131) [] [])] [(i, some (.row v 7 (fs.map encF)))] (.tup []) [(i, .row v 7 ((srtF fs).map encF))]) :
  PT 71 [.list 7 (l.map encF)] (.d (encV (.mk 9 0 0 [] [] (srtF (kepR l))))) := by
 refine ok71.pc ?_;simp only [go_sem, ir71, List.length_map, simprocAttr];refine wpc_loop (fun n s => ∃ (k : Nat) (acc : List Fld), k ≤ l.length ∧ n = l.length - k ∧ acc ++ kepR (l.drop k) = kepR l ∧
  s = ⟨[(0, .d (.list 7 (l.map encF))), (2, .ref 2 0), (3, .ref 3 0), (8, .d (.list 7 (l.map encF))), (9, .d (.int .i64 l.length)), (10, .d (.int .i64 k))],
   [(2, .box [.d (.int .i64 0), .d (.int .i64 0), .d (.int .i64 0), .d (.str []), .d (.nil 6), .d (.nil 7)]),
    (3, .box [.d (.int .i64 9), .d (.int .i64 0), .d (.int .i64 0), .d (.str []), .d (.nil 6), .ms 200 acc.length]), (200, .row acc.length 7 (acc.map encF))]⟩) ?_ ?_
 ·refine ⟨_, _, (Wk.nilB 3 5 200 7 _ rfl rfl rfl dC).trans (Wk.less ?_), 0, [], Nat.zero_le _, rfl, rfl, rfl⟩;simp [put, go_sem]
 ·rintro n s ⟨k, acc, hk, rfl, hinv, rfl⟩;by_cases hlt : k < l.length
  ·have hx := nth_encF hlt;have hd := dT hlt;have hdr := List.drop_eq_getElem_cons hlt;rw [hdr, kepR] at hinv;have hal : acc.length ≤ 68719476735 := by
    have h1 := congrArg List.length hinv;have h2 := kepR_len l;rw [List.length_append] at h1;omega
   have cu := CallOK.clo (ds := [.list 7 ((l.drop (k + 1)).map encF)]) (walk127 (fun x => walk128 x l[k]) (l.drop (k + 1)) sO) rfl 5;have c129 := (walk129 l[k].value).call trivial;rw [encF_cells] at cu;simp only [List.map_cons, List.map_nil, List.cons_append, List.nil_append, List.map_drop] at cu;have ht : List.take ((l.length : Int) - ((k + 1 : Nat) : Int)).toNat (List.drop (k + 1) (l.map encF)) = List.drop (k + 1) (l.map encF) := List.take_of_length_le sO;generalize l[k] = f at *;rw [encV_eq] at c129;simp only [go_sem, hx, hd, wrap64s k oM, ht, Int.toNat_natCast, List.length_map, simprocAttr];refine ⟨⟨oM, oM⟩, ⟨oM, oM, oM⟩, ?_⟩;refine wn cu ?_;refine zz4 ?_;refine wn c129 ?_;refine zz4 ?_;refine sq (!((l.drop (k + 1)).any (shdB f))) ?_ ?_
   ·exact zz4 trivial
   refine zz4 ?_;apply ik <;> intro h
   ·rw [if_pos h] at hinv;refine ⟨fun y hy => by rw [List.mem_singleton.1 hy]; rfl, by simpa using hal, l.length - (k + 1), _, oM, Wk.less ?_, k + 1, acc ++ [f], oM, rfl, by rw [List.append_assoc]; exact hinv, rfl⟩;simp only [go_sem, wrap64s k oM, List.length_append, List.length_cons, List.length_nil, List.map_append, List.map_cons, List.map_nil, encF_eq f, Nat.zero_add, simprocAttr]
   ·rw [if_neg (nF h)] at hinv;refine ⟨l.length - (k + 1), _, oM, Wk.less ?_, k + 1, acc, oM, rfl, hinv, rfl⟩;exact zz7 trivial
  ·have hd := dF hlt;obtain rfl : k = l.length := oM;rw [List.drop_length, kepR, List.append_nil] at hinv;subst hinv;refine zz22 ?_;refine wc (hs 200 _ _ (kepR_nd l)) ?_;have e54 : encV (.mk 9 0 0 [] [] (srtF (kepR l))) = .agg [.int .i64 9, .int .i64 0, .int .i64 0, .str [], .list 6 [], .list 7 ((srtF (kepR l)).map encF)] := (encV_eq _).trans rfl;have c70 : CT (.fn 70) [.agg [.d (.int .i64 9), .d (.int .i64 0), .d (.int .i64 0), .d (.str []), .d (.nil 6), .ms 200 (kepR l).length]] [(200, some (.row (kepR l).length 7 ((srtF (kepR l)).map encF)))] (.d (encV (.mk 9 0 0 [] [] (srtF (kepR l))))) [(200, .frz (kepR l).length 7 ((srtF (kepR l)).map encF))] := by
    have h54 : PT 70 [.agg [.int .i64 9, .int .i64 0, .int .i64 0, .str [], .nil 6, .list 7 ((srtF (kepR l)).map encF)]] (.d (encV (.mk 9 0 0 [] [] (srtF (kepR l))))) := by
     refine PCon.canon ?_;have := p70 (.mk 9 0 0 [] [] (srtF (kepR l)));rw [e54] at this ⊢;simpa only [List.map_cons, List.map_nil, Dat.canon, canonL, canonL_flds] using this
    refine PCon.callDat (p := (True ∧ True ∧ True ∧ True ∧ True ∧ (kepR l).length = (kepR l).length ∧ True) ∧ True) h54 trivial (fun H hT => ?_) ?_
    ·have hi := hT _ (List.mem_singleton.2 rfl);simp only at hi;simp only [datumAll, datum, datums, datum1, hi, hputs, List.append_nil, List.nil_append]
    ·simp
   rw [e54] at c70 ⊢;refine wc c70 trivial
end Go.Proofs
namespace Go.Proofs
open Go Av
open Av.Y
def ir114 : Ic := q (R (ow 6 false<|N) [6])<|q (R (om 7 0<|om 8 1<|ot 9 .geq 7 8<|om 10 9<|.sc 10 true (om 11 0<|om 12 2<|ot 13 .leq 11 12<|N) (t 13) 14 (om 6 14<|N)) [0,1,2,7,8,9,10,14])<|.ret
theorem ok114 : FT 114 15 ir114 [.tmp 6] := .o Tryz.func114
def ir116 : Ic := q (R (ox 2 0<|ox 3 1<|oz 4 0<|N) [0,1,4])<|q (D (.block 0<|q (q (R (of 6 3 3<|ol 7 6<|og 8 7<|om 9 8<|.sc 9 true (of 10 2 1<|ol 11 10<|oi 12 .neq 11 0<|om 13 12<|.sc 13 false (of 14 2 2<|ol 15 14<|oi 16 .neq 15 0<|N) (t 16) 17 N) (t 17) 18 (om 5 18<|N)) [6,7,8,9,18])<|D (I 5 S (q (R (of 19 3 4<|ol 20 19<|og 21 20<|om 22 21<|.sc 22 true (of 23 2 3<|ol 24 23<|oi 25 .neq 24 0<|N) (t 25) 26 (om 5 26<|N)) [19,20,21,22,26])<|D (I 5 S (q (R (of 27 3 5<|ol 28 27<|og 29 28<|om 30 29<|.sc 30 true (of 31 2 4<|ol 32 31<|oh 33 32<|oi 34 .gtr 33 0<|N) (t 34) 35 (om 5 35<|N)) [27,28,29,30,35])<|D (I 5 S (q (R (of 36 3 6<|ol 37 36<|og 38 37<|om 39 38<|.sc 39 true (of 40 2 5<|ol 41 40<|oh 42 41<|oi 43 .gtr 42 0<|N) (t 43) 44 (om 5 44<|N)) [36,37,38,39,44])<|D (I 5 S (R (of 45 3 7<|ol 46 45<|og 47 46<|om 48 47<|.sc 48 true (of 49 2 6<|ol 50 49<|oh 51 50<|oi 52 .gtr 51 0<|N) (t 52) 53 (om 5 53<|N)) [2,3,45,46,47,48,53])) [2,3])) [2,3])) [2,3])) [2,3])<|D (I 5 (q (R (oz 4 3<|N) [5])<|.ret) S) [5]) [])<|q (.reg (oz 4 0<|N))<|.ret
theorem ok116 : FT 116 54 ir116 [.tmp 4] := .o Tryz.func116
def ir60 : Ic := q (R (ox 1 0<|ok 2 (.k (.nil 7))<|N) [0,2])<|q (q (R (of 6 1 0<|ol 7 6<|N) [6])<|D (.block 0<|q (R (oi 9 .eql 7 8<|om 8 9<|N) [9])<|D (I 8 (q (R (of 10 1 5<|ol 11 10<|om 2 11<|N) [1,7,8,10,11])<|.ret) (q (q (R (oi 13 .eql 7 9<|om 12 13<|N) [8,13])<|D (I 12 S (R (oi 14 .eql 7 10<|om 12 14<|N) [7,14])) [7])<|D (I 12 (q (R (of 15 1 6<|ol 16 15<|oh 17 16<|oo 18 (.mks 7 [.int .i64 0,.int .i64 0,.int .i64 0,.int .i64 0,.nil 1,.nil 7,.nil 11] (i 0) (t 17))<|om 3 18<|N) [12,15,16,17,18])<|q (q (R (of 19 1 6<|ol 20 19<|oh 21 20<|oz 22 0<|N) [1,19])<|D (.block 1<|.loop (q (.reg (ot 23 .lss 22 21<|N))<|q (D (I 23 S (E 1)) [23])<|q (D (.block 2<|q (R (oa true 24 11 20 22<|oL 25 11 24<|oN 5 vG<|oS 11 5 25<|N) [24,25])<|R (om 26 3<|of 27 5 3<|oL 28 7 27<|oo 29 (.bls 7 [t 28])<|oo 30 (.app 7 (t 26) (t 29))<|om 3 30<|N) [5,26,27,28,29,30]) [])<|R (oi 31 .add 22 1<|om 22 31<|N) [31])) [20,21,22,23,5])<|q (R (om 32 3<|om 2 32<|N) [3,32])<|.ret) S) [1,12])) []) [10,11,3,5])<|q (.reg (ok 2 (.k (.nil 7))<|N))<|.ret
theorem ok60 : FT 60 33 ir60 [.tmp 2] := .o Tryz.func60
def ir117 : Ic := q (R (ox 1 0<|oz 2 0<|N) [0,2])<|q (D (.block 0<|q (R (of 7 1 1<|ol 8 7<|oi 9 .neq 8 0<|om 10 9<|.sc 10 false (of 11 1 2<|ol 12 11<|oi 13 .neq 12 0<|N) (t 13) 14 (om 6 14<|N)) [7,8,9,10,14])<|D (I 6 (q (R (oz 2 3<|N) [1,6])<|.ret) (q (R (of 16 1 4<|ol 17 16<|oh 18 17<|oi 19 .gtr 18 64<|om 15 19<|N) [6,16,17,18,19])<|D (I 15 (q (R (oz 2 9<|N) [1,15])<|.ret) S) [15])) []) [])<|q (q (R (of 20 1 4<|ol 21 20<|oh 22 21<|oz 23 0<|N) [20])<|D (.block 1<|.loop (q (.reg (ot 24 .lss 23 22<|N))<|q (D (I 24 S (E 1)) [24])<|q (D (.block 2<|q (R (om 25 23<|oa false 26 1 21 23<|ol 27 26<|om 3 25<|om 4 27<|N) [25,26,27])<|q (q (R (om 28 4<|cl 29 65 [t 28]<|cl 30 119 [t 29]<|om 5 30<|N) [28,29,30])<|q (R (om 31 5<|oi 32 .neq 31 0<|N) [31])<|D (I 32 (q (R (om 33 5<|om 2 33<|N) [1,21,22,23,3,4,5,32,33])<|.ret) S) [5,32])<|q (q (R (om 34 3<|oi 35 .gtr 34 0<|om 36 35<|.sc 36 true (om 37 4<|of 38 1 4<|ol 39 38<|om 40 3<|oi 41 .sub 40 1<|oa false 42 1 39 41<|ol 43 42<|ot 44 .seq 37 43<|N) (t 44) 45 N) [34,35,36])<|D (I 45 (q (R (oz 2 7<|N) [1,21,22,23,3,4,45])<|.ret) S) [45])<|q (R (om 46 3<|oi 47 .gtr 46 0<|om 48 47<|.sc 48 true (om 49 4<|of 50 1 4<|ol 51 50<|om 52 3<|oi 53 .sub 52 1<|oa false 54 1 51 53<|ol 55 54<|ot 56 .slt 49 55<|N) (t 56) 57 N) [3,4,46,47,48])<|D (I 57 (q (R (oz 2 24<|N) [1,21,22,23,57])<|.ret) S) [57]) [])<|R (oi 58 .add 23 1<|om 23 58<|N) [58])) [1,21,22,23,24,3,4,5])<|q (.reg (oz 2 0<|N))<|.ret
theorem ok117 : FT 117 59 ir117 [.tmp 2] := .o Tryz.func117
def ir118 : Ic := q (R (ox 2 0<|oz 4 0<|N) [0,4])<|q (R (of 6 2 6<|ol 7 6<|om 8 1<|oa true 9 11 7 8<|oL 10 11 9<|oN 5 vG<|oS 11 5 10<|N) [6,7,8,9,10])<|q (D (.block 0<|q (R (of 12 5 1<|ol 13 12<|cl 14 184 [t 13]<|og 15 14<|om 11 15<|N) [12,13,14,15])<|D (I 11 (q (R (oz 4 12<|N) [1,2,5,11])<|.ret) (q (R (of 17 5 0<|ol 18 17<|cl 19 114 [t 18,i 1,i 9999]<|og 20 19<|om 16 20<|N) [11,17,18,19,20])<|D (I 16 (q (R (oz 4 2<|N) [1,2,5,16])<|.ret) (q (R (of 22 2 6<|ol 23 22<|om 24 1<|oo 25 (.slc 11 (t 23) none (some (t 24)) none)<|oo 26 (.fnv (.func 210) [] [t 5])<|cl 27 209 [t 25,t 26]<|om 21 27<|N) [1,16,22,23,24,25,26,27])<|D (I 21 (q (R (oz 4 7<|N) [2,5,21])<|.ret) (q (R (of 29 5 2<|ol 30 29<|cl 31 114 [t 30,i 1,i 3]<|og 32 31<|om 33 32<|.sc 33 false (of 34 2 0<|ol 35 34<|oi 36 .eql 35 10<|om 37 36<|.sc 37 true (of 38 5 2<|ol 39 38<|oi 40 .neq 39 1<|N) (t 40) 41 N) (t 41) 42 (om 28 42<|N)) [2,21,29,30,31,32,33,42])<|D (I 28 (q (R (oz 4 11<|N) [5,28])<|.ret) (q (R (of 44 5 2<|ol 45 44<|oi 46 .eql 45 3<|om 47 46<|.sc 47 true (of 48 5 10<|ol 49 48<|oh 50 49<|oi 51 .eql 50 0<|N) (t 51) 52 (om 43 52<|N)) [28,44,45,46,47,52])<|D (I 43 (q (R (oz 4 4<|N) [5,43])<|.ret) (q (R (of 54 5 10<|ol 55 54<|oh 56 55<|oi 57 .gtr 56 1<|om 58 57<|.sc 58 false (of 59 5 2<|ol 60 59<|oi 61 .neq 60 3<|om 62 61<|.sc 62 true (of 63 5 10<|ol 64 63<|oh 65 64<|oi 66 .gtr 65 0<|N) (t 66) 67 N) (t 67) 68 (om 53 68<|N)) [5,43,54,55,56,57,58,68])<|D (I 53 (q (R (oz 4 3<|N) [53])<|.ret) S) [53])) [])) [])) [])) [])) []) [])<|q (.reg (oz 4 0<|N))<|.ret
theorem ok118 : FT 118 69 ir118 [.tmp 4] := .o Tryz.func118
def ir210 : Ic := q (R (ox 2 0<|ow 3 false<|N) [0,3])<|q (R (of 4 2 1<|ol 5 4<|of 6 1 1<|ol 7 6<|ot 8 .seq 5 7<|om 9 8<|.sc 9 false (of 10 2 0<|ol 11 10<|of 12 1 0<|ol 13 12<|ot 14 .eql 11 13<|N) (t 14) 15 (om 3 15<|N)) [2,4,5,6,7,8,9,15])<|.ret
theorem ok210 : FT 210 16 ir210 [.tmp 3] := .o Tryz.func210
def ir59 : Ic := q (R (ox 1 0<|oz 2 0<|N) [0,2])<|q (q (R (of 8 1 0<|ol 9 8<|cl 10 114 [t 9,i 1,i 10]<|og 11 10<|N) [8,9,10])<|D (I 11 (q (R (oz 2 11<|N) [1,11])<|.ret) S) [11])<|q (D (.regd [(0,2),(0,4),(2,4)] (cl 12 115 []<|of 13 1 0<|ol 14 13<|oo 15 (.ixv (some 8) 11 8 (t 12) (t 14))<|oN 3 [.str [],.int .i64 0,.int .i64 0,.bool false,.bool false,.bool false,.bool false,.bool false]<|oS 8 3 15<|N)) [12,13,14,15])<|q (q (R (oL 16 7 1<|oL 17 8 3<|cl 18 116 [t 16,t 17]<|om 4 18<|N) [16,17,18])<|q (R (om 19 4<|oi 20 .neq 19 0<|N) [19])<|D (I 20 (q (R (om 21 4<|om 2 21<|N) [1,3,4,20,21])<|.ret) S) [4,20])<|q (D (.block 0<|q (R (of 23 1 0<|ol 24 23<|oi 25 .eql 24 4<|om 26 25<|.sc 26 true (of 27 1 4<|ol 28 27<|oh 29 28<|oi 30 .gtr 29 0<|N) (t 30) 31 (om 22 31<|N)) [23,24,25,26,31])<|I 22 (q (R (oL 32 7 1<|cl 33 117 [t 32]<|om 5 33<|N) [3,22,32,33])<|q (R (om 34 5<|oi 35 .neq 34 0<|N) [34])<|D (I 35 (q (R (om 36 5<|om 2 36<|N) [1,5,35,36])<|.ret) S) [5,35]) (q (q (R (of 38 3 3<|ol 39 38<|om 40 39<|.sc 40 true (of 41 1 1<|ol 42 41<|of 43 1 2<|ol 44 43<|ot 45 .gtr 42 44<|om 46 45<|.sc 46 false (of 47 1 1<|ol 48 47<|of 49 3 1<|ol 50 49<|ot 51 .lss 48 50<|N) (t 51) 52 (om 53 52<|.sc 53 false (of 54 1 2<|ol 55 54<|of 56 3 2<|ol 57 56<|ot 58 .gtr 55 57<|N) (t 58) 59 N)) (t 59) 60 (om 37 60<|N)) [22,38,39,40,60])<|D (I 37 S (R (of 61 3 4<|ol 62 61<|om 63 62<|.sc 63 true (of 64 1 3<|ol 65 64<|cl 66 114 [t 65,i 0,i 12]<|og 67 66<|N) (t 67) 68 (om 37 68<|N)) [3,61,62,63,68])) [3])<|D (I 37 (q (R (oz 2 2<|N) [1,37])<|.ret) S) [37])) [5])<|q (D (.block 1<|q (q (R (of 70 1 0<|ol 71 70<|oi 72 .eql 71 8<|om 73 72<|.sc 73 true (of 74 1 5<|ol 75 74<|oh 76 75<|oi 77 .eql 76 0<|N) (t 77) 78 (om 69 78<|N)) [70,71,72,73,78])<|I 69 S (R (of 79 1 0<|ol 80 79<|oi 81 .eql 80 10<|om 82 81<|.sc 82 true (of 83 1 6<|ol 84 83<|oh 85 84<|oi 86 .eql 85 0<|N) (t 86) 87 (om 69 87<|N)) [79,80,81,82,87]))<|D (I 69 (q (R (oz 2 4<|N) [1,69])<|.ret) (q (R (of 89 1 0<|ol 90 89<|oi 91 .eql 90 8<|om 92 91<|.sc 92 true (of 93 1 5<|ol 94 93<|oh 95 94<|oi 96 .gtr 95 1<|N) (t 96) 97 (om 88 97<|N)) [69,89,90,91,92,97])<|D (I 88 (q (R (oz 2 3<|N) [1,88])<|.ret) (q (R (of 99 1 6<|ol 100 99<|oh 101 100<|oi 102 .gtr 101 64<|om 98 102<|N) [88,99,100,101,102])<|D (I 98 (q (R (oz 2 9<|N) [1,98])<|.ret) S) [98])) [])) []) [])<|q (q (R (of 103 1 6<|ol 104 103<|oh 105 104<|oz 106 0<|N) [103,104])<|D (.block 2<|.loop (q (.reg (ot 107 .lss 106 105<|N))<|q (D (I 107 S (E 2)) [107])<|q (D (.block 3<|q (R (om 108 106<|om 6 108<|N) [108])<|q (R (oL 109 7 1<|om 110 6<|cl 111 118 [t 109,t 110]<|om 7 111<|N) [6,109,110,111])<|q (R (om 112 7<|oi 113 .neq 112 0<|N) [112])<|D (I 113 (q (R (om 114 7<|om 2 114<|N) [1,105,106,7,113,114])<|.ret) S) [7,113]) [])<|R (oi 115 .add 106 1<|om 106 115<|N) [115])) [1,105,106,107,6,7])<|q (.reg (oz 2 0<|N))<|.ret
theorem ok59 : FT 59 116 ir59 [.tmp 2] := .o Tryz.func59
def ir37 : Ic := q (R (ox 3 0<|oz 6 0<|N) [0,6])<|q (D (.block 0<|q (R (om 12 2<|oc 13 12<|ol 14 13<|oi 15 .eql 14 0<|om 11 15<|N) [12,13,14,15])<|D (I 11 (q (R (oz 6 9<|N) [1,2,3,11])<|.ret) (q (R (om 17 1<|oi 18 .gtr 17 8<|om 16 18<|N) [11,17,18])<|D (I 16 (q (R (oz 6 23<|N) [1,2,3,16])<|.ret) S) [16])) []) [])<|q (R (om 19 2<|oc 20 19<|ol 21 20<|oi 22 .sub 21 1<|oc 23 19<|os 23 22<|N) [19,20,21,22,23])<|q (q (R (oL 24 7 3<|cl 25 59 [t 24]<|om 7 25<|N) [24,25])<|q (R (om 26 7<|oi 27 .neq 26 0<|N) [26])<|D (I 27 (q (R (om 28 7<|om 6 28<|N) [1,2,3,7,27,28])<|.ret) S) [7,27])<|q (q (R (oL 29 7 3<|cl 30 60 [t 29]<|oh 31 30<|oz 32 0<|N) [29])<|D (.block 1<|.loop (q (.reg (ot 33 .lss 32 31<|N))<|q (D (I 33 S (E 1)) [33])<|q (D (.block 2<|q (R (om 34 32<|oa true 35 7 30 32<|oL 36 7 35<|oN 9 vT<|om 8 34<|oS 7 9 36<|N) [34,35,36])<|q (q (R (oL 37 7 9<|om 38 1<|oi 39 .add 38 1<|om 40 2<|cl 41 37 [t 37,t 39,t 40]<|om 10 41<|N) [37,38,39,40,41])<|q (R (om 42 10<|oi 43 .neq 42 0<|N) [42])<|D (I 43 (q (R (om 44 10<|om 6 44<|N) [1,2,3,30,31,32,9,8,10,43,44])<|.ret) S) [10,43])<|q (R (of 45 3 0<|ol 46 45<|oi 47 .eql 46 9<|om 48 47<|.sc 48 true (of 49 3 6<|ol 50 49<|om 51 8<|oa true 52 11 50 51<|of 53 52 2<|ol 54 53<|oi 55 .eql 54 3<|N) (t 55) 56 (om 57 56<|.sc 57 true (oL 58 7 9<|of 59 3 6<|ol 60 59<|om 61 8<|oa true 62 11 60 61<|of 63 62 10<|ol 64 63<|oo 65 (.ixa true 6 (t 64) (i 0))<|oL 66 6 65<|cl 67 61 [t 58,t 66]<|og 68 67<|N) (t 68) 69 N)) [9,8,45,46,47,48,56,57])<|D (I 69 (q (R (oz 6 18<|N) [1,2,3,30,31,32,69])<|.ret) S) [69]) [])<|R (oi 70 .add 32 1<|om 32 70<|N) [70])) [1,2,3,30,31,32,33,9,8,10])<|q (.reg (oz 6 0<|N))<|.ret
theorem ok37 : FT 37 71 ir37 [.tmp 6] := .o Tryz.func37
def ir38 : Ic := q (R (ox 1 0<|oz 2 0<|N) [0,2])<|q (R (oL 8 7 1<|cl 9 62 [t 8]<|om 3 9<|N) [8,9])<|q (q (R (of 10 1 5<|ol 11 10<|oh 12 11<|oz 13 0<|N) [10])<|D (.block 0<|.loop (q (.reg (ot 14 .lss 13 12<|N))<|q (D (I 14 S (E 0)) [14])<|q (D (.block 1<|q (R (oa true 15 7 11 13<|oL 16 7 15<|oN 5 vT<|oS 7 5 16<|N) [15,16])<|R (om 17 3<|oL 18 7 5<|cl 19 38 [t 18]<|oo 20 (.mx (t 17) (t 19))<|om 3 20<|N) [5,17,18,19,20]) [])<|R (oi 21 .add 13 1<|om 13 21<|N) [21])) [11,12,13,14,5])<|q (q (R (of 22 1 6<|ol 23 22<|oh 24 23<|oz 25 0<|N) [1,22])<|D (.block 2<|.loop (q (.reg (ot 26 .lss 25 24<|N))<|q (D (I 26 S (E 2)) [26])<|q (D (.block 3<|q (R (oa true 27 11 23 25<|oL 28 11 27<|oN 7 vG<|oS 11 7 28<|N) [27,28])<|R (om 29 3<|of 30 7 3<|oL 31 7 30<|cl 32 38 [t 31]<|oo 33 (.mx (t 29) (t 32))<|om 3 33<|N) [7,29,30,31,32,33]) [])<|R (oi 34 .add 25 1<|om 25 34<|N) [34])) [23,24,25,26,7])<|q (R (om 35 3<|om 2 35<|N) [3,35])<|.ret
theorem ok38 : FT 38 36 ir38 [.tmp 2] := .o Tryz.func38
def ir62 : Ic := q (R (ox 1 0<|oz 2 0<|N) [0,2])<|q (.reg (oz 3 1<|N))<|q (q (R (of 6 1 0<|ol 7 6<|N) [6])<|D (.block 0<|q (R (oi 9 .eql 7 8<|om 8 9<|N) [9])<|I 8 (q (R (of 10 1 1<|ol 11 10<|oi 12 .gtr 11 0<|N) [7,8,10,11])<|D (I 12 (D (.regd [(2,7)] (om 13 3<|of 14 1 1<|ol 15 14<|of 16 1 5<|ol 17 16<|oo 18 (.ixa true 7 (t 17) (i 0))<|oL 19 7 18<|cl 20 62 [t 19]<|ot 21 .mul 15 20<|ot 22 .add 13 21<|om 3 22<|N)) [1,12,13,14,15,16,17,18,19,20,21,22]) S) [1,12]) (q (R (oi 24 .eql 7 10<|om 23 24<|N) [8,24])<|I 23 (R (om 25 3<|of 26 1 6<|ol 27 26<|oo 28 (.ixa true 11 (t 27) (i 0))<|of 29 28 3<|oL 30 7 29<|cl 31 62 [t 30]<|ot 32 .add 25 31<|om 3 32<|N) [1,7,23,25,26,27,28,29,30,31,32]) (q (R (oi 34 .eql 7 9<|om 33 34<|N) [7,23,34])<|D (I 33 (q (R (of 35 1 6<|ol 36 35<|oh 37 36<|oz 38 0<|N) [1,33,35])<|D (.block 1<|.loop (q (.reg (ot 39 .lss 38 37<|N))<|q (D (I 39 S (E 1)) [39])<|q (D (.block 2<|q (R (oa true 40 11 36 38<|oL 41 11 40<|oN 5 vG<|oS 11 5 41<|N) [40,41])<|q (R (of 42 5 2<|ol 43 42<|N) [42])<|D (.block 3<|q (R (oi 45 .eql 43 1<|om 44 45<|N) [45])<|I 44 (R (om 46 3<|of 47 5 3<|oL 48 7 47<|cl 49 62 [t 48]<|ot 50 .add 46 49<|om 3 50<|N) [5,43,44,46,47,48,49,50]) (q (R (oi 52 .eql 43 3<|om 51 52<|N) [43,44,52])<|D (I 51 (R (om 53 3<|of 54 5 10<|ol 55 54<|oo 56 (.ixa true 6 (t 55) (i 0))<|oL 57 6 56<|cl 58 21 [t 57]<|ot 59 .add 53 58<|om 3 59<|N) [5,51,53,54,55,56,57,58,59]) S) [5,51])) []) [])<|R (oi 60 .add 38 1<|om 38 60<|N) [60])) [36,37,38,39,5]) S) [1,33]))) [10,11,5])<|q (R (om 61 3<|oo 62 (.mn (t 61) (i 4097))<|om 2 62<|N) [3,61,62])<|.ret
theorem ok62 : FT 62 63 ir62 [.tmp 2] := .o Tryz.func62
def ir61 : Ic := q (R (ox 2 0<|ox 3 1<|ow 4 false<|N) [0,1,4])<|q (R (oL 5 6 3<|cl 6 119 [t 5]<|oi 7 .eql 6 0<|om 8 7<|.sc 8 true (oL 9 7 2<|oL 10 6 3<|cl 11 120 [t 9,t 10]<|N) (t 11) 12 (om 4 12<|N)) [2,3,5,6,7,8,12])<|.ret
theorem ok61 : FT 61 13 ir61 [.tmp 4] := .o Tryz.func61
def ir120 : Ic := q (R (ox 2 0<|ox 3 1<|ow 4 false<|N) [0,1,4])<|q (q (R (of 11 3 0<|ol 12 11<|of 13 2 0<|ol 14 13<|ot 15 .neq 12 14<|N) [11,12,13,14])<|D (I 15 (q (R (ow 4 false<|N) [2,3,15])<|.ret) S) [15])<|q (q (R (of 16 2 0<|ol 17 16<|N) [16])<|D (.block 0<|q (q (R (oi 19 .eql 17 2<|om 18 19<|N) [19])<|I 18 S (q (R (oi 20 .eql 17 6<|om 18 20<|N) [20])<|I 18 S (q (R (oi 21 .eql 17 7<|om 18 21<|N) [21])<|I 18 S (R (oi 22 .eql 17 3<|om 18 22<|N) [22]))))<|D (I 18 (q (R (of 23 3 1<|ol 24 23<|of 25 2 1<|ol 26 25<|of 27 2 2<|ol 28 27<|cl 29 114 [t 24,t 26,t 28]<|om 30 29<|.sc 30 true (of 31 3 2<|ol 32 31<|of 33 2 3<|ol 34 33<|ot 35 .eql 32 34<|N) (t 35) 36 (om 4 36<|N)) [2,3,17,18,23,24,25,26,27,28,29,30,36])<|.ret) (q (R (oi 38 .eql 17 4<|om 37 38<|N) [18,38])<|D (I 37 (q (q (R (of 39 2 4<|ol 40 39<|oh 41 40<|oi 42 .gtr 41 0<|N) [17,37,39,40,41])<|D (I 42 (q (R (of 43 2 4<|ol 44 43<|of 45 3 3<|ol 46 45<|cl 47 213 [t 44,t 46]<|om 4 47<|N) [2,3,42,43,44,45,46,47])<|.ret) S) [42])<|q (R (of 48 3 3<|ol 49 48<|oj 50 49<|of 51 2 1<|ol 52 51<|of 53 2 2<|ol 54 53<|cl 55 114 [t 50,t 52,t 54]<|om 4 55<|N) [2,3,48,49,50,51,52,53,54,55])<|.ret) (q (R (oi 57 .eql 17 5<|om 56 57<|N) [37,57])<|D (I 56 (q (R (of 58 3 3<|ol 59 58<|oj 60 59<|of 61 2 1<|ol 62 61<|of 63 2 2<|ol 64 63<|cl 65 114 [t 60,t 62,t 64]<|om 4 65<|N) [2,3,17,56,58,59,60,61,62,63,64,65])<|.ret) (q (R (oi 67 .eql 17 8<|om 66 67<|N) [56,67])<|D (I 66 (q (R (of 68 3 4<|ol 69 68<|oh 70 69<|of 71 2 1<|ol 72 71<|of 73 2 2<|ol 74 73<|cl 75 114 [t 70,t 72,t 74]<|om 76 75<|.sc 76 true (of 77 3 4<|ol 78 77<|oo 79 (.fnv (.func 215) [] [t 2])<|cl 80 214 [t 78,t 79]<|og 81 80<|N) (t 81) 82 (om 4 82<|N)) [2,3,17,66,68,69,70,71,72,73,74,75,76,82])<|.ret) (q (R (oi 84 .eql 17 10<|om 83 84<|N) [66,84])<|D (I 83 (q (R (oL 86 7 2<|of 87 3 3<|ol 88 87<|cl 89 216 [t 86,t 88]<|om 85 89<|oe 90 85 0<|oe 91 85 1<|oN 5 vG<|oS 11 5 90<|om 6 91<|N) [2,17,83,86,87,88,89,85,90,91])<|q (R (om 92 6<|om 93 92<|.sc 93 true (of 94 5 3<|oL 95 7 94<|of 96 3 4<|ol 97 96<|oo 98 (.ixa true 6 (t 97) (i 0))<|oL 99 6 98<|cl 100 120 [t 95,t 99]<|N) (t 100) 101 (om 4 101<|N)) [3,5,6,92,93,101])<|.ret) (q (R (oi 103 .eql 17 9<|om 102 103<|N) [17,83,103])<|D (I 102 (q (q (R (of 104 3 5<|ol 105 104<|oh 106 105<|oz 107 0<|N) [102,104])<|D (.block 1<|.loop (q (.reg (ot 108 .lss 107 106<|N))<|q (D (I 108 S (E 1)) [108])<|q (D (.block 2<|q (R (oa true 109 7 105 107<|oL 110 7 109<|oN 8 v7<|oS 7 8 110<|N) [109,110])<|q (R (oL 112 7 2<|of 113 8 0<|ol 114 113<|cl 115 216 [t 112,t 114]<|om 111 115<|oe 116 111 0<|oe 117 111 1<|oN 9 vG<|oS 11 9 116<|om 10 117<|N) [112,113,114,115,111,116,117])<|q (R (om 118 10<|og 119 118<|om 120 119<|.sc 120 false (of 121 9 3<|oL 122 7 121<|of 123 8 1<|oL 124 6 123<|cl 125 120 [t 122,t 124]<|og 126 125<|N) (t 126) 127 N) [8,9,10,118,119,120])<|D (I 127 (q (R (ow 4 false<|N) [2,3,105,106,107,127])<|.ret) S) [127]) [])<|R (oi 128 .add 107 1<|om 107 128<|N) [128])) [105,106,107,108,8,9,10])<|q (R (of 129 2 6<|ol 130 129<|oo 131 (.fnv (.func 217) [] [t 3])<|cl 132 209 [t 130,t 131]<|og 133 132<|om 4 133<|N) [2,3,129,130,131,132,133])<|.ret) S) [2,3,102])) [])) [])) [])) [])) []) [5,6,8,9,10])<|q (.reg (ow 4 true<|N))<|.ret
theorem ok120 : FT 120 134 ir120 [.tmp 4] := .o Tryz.func120
def ir215 : Ic := q (R (ox 2 0<|ow 3 false<|N) [0,3])<|q (R (of 4 1 5<|ol 5 4<|oo 6 (.ixa true 7 (t 5) (i 0))<|oL 7 7 6<|oL 8 6 2<|cl 9 120 [t 7,t 8]<|og 10 9<|om 3 10<|N) [2,4,5,6,7,8,9,10])<|.ret
theorem ok215 : FT 215 11 ir215 [.tmp 3] := .o Tryz.func215
def ir217 : Ic := q (R (ox 2 0<|ow 3 false<|N) [0,3])<|q (R (oL 7 6 1<|of 8 2 1<|ol 9 8<|cl 10 218 [t 7,t 9]<|om 6 10<|oe 11 6 0<|oe 12 6 1<|oN 4 v6<|oS 6 4 11<|om 5 12<|N) [7,8,9,10,6,11,12,4])<|q (R (om 13 5<|og 14 13<|om 15 14<|.sc 15 true (of 16 2 2<|ol 17 16<|oi 18 .neq 17 2<|N) (t 18) 19 (om 3 19<|N)) [2,5,13,14,15,19])<|.ret
theorem ok217 : FT 217 20 ir217 [.tmp 3] := .o Tryz.func217
def ir17 : Ic := q (R (ox 1 0<|oz 2 0<|N) [0,2])<|q (.reg (oN 3 [.int .i64 0]<|on (.sto none (t 3) (i 4096))<|N))<|q (q (R (oL 5 7 1<|cl 6 37 [t 5,i 1,t 3]<|om 4 6<|N) [3,5,6])<|q (R (om 7 4<|oi 8 .neq 7 0<|N) [7])<|D (I 8 (q (R (om 9 4<|om 2 9<|N) [1,4,8,9])<|.ret) S) [4,8])<|q (q (R (oL 10 7 1<|cl 11 38 [t 10]<|oi 12 .gtr 11 4096<|N) [1,10,11])<|D (I 12 (q (R (oz 2 9<|N) [12])<|.ret) S) [12])<|q (.reg (oz 2 0<|N))<|.ret
theorem ok17 : FT 17 13 ir17 [.tmp 2] := .o Tryz.func17
def ir22 : Ic := q (R (ox 2 0<|ox 3 1<|ow 4 false<|N) [0,1,4])<|q (R (of 5 2 0<|ol 6 5<|of 7 3 0<|ol 8 7<|ot 9 .eql 6 8<|om 10 9<|.sc 10 true (of 11 2 1<|ol 12 11<|of 13 3 1<|ol 14 13<|ot 15 .eql 12 14<|N) (t 15) 16 (om 17 16<|.sc 17 true (of 18 2 2<|ol 19 18<|of 20 3 2<|ol 21 20<|ot 22 .eql 19 21<|N) (t 22) 23 (om 24 23<|.sc 24 true (of 25 2 3<|ol 26 25<|of 27 3 3<|ol 28 27<|ot 29 .eql 26 28<|N) (t 29) 30 (om 31 30<|.sc 31 true (of 32 2 4<|ol 33 32<|of 34 3 4<|ol 35 34<|cl 36 42 [t 33,t 35]<|N) (t 36) 37 (om 38 37<|.sc 38 true (of 39 2 5<|ol 40 39<|of 41 3 5<|ol 42 41<|cl 43 43 [t 40,t 42,.k (.fn (.func 22) [] [])]<|N) (t 43) 44 (om 45 44<|.sc 45 true (of 46 2 6<|ol 47 46<|of 48 3 6<|ol 49 48<|cl 50 44 [t 47,t 49,.k (.fn (.func 45) [] [])]<|N) (t 50) 51 (om 4 51<|N))))))) [2,3,5,6,7,8,9,10,16,17,23,24,30,31,37,38,44,45,51])<|.ret
theorem ok22 : FT 22 52 ir22 [.tmp 4] := .o Tryz.func22
def ir45 : Ic := q (R (ox 2 0<|ox 3 1<|ow 4 false<|N) [0,1,4])<|q (R (of 5 2 0<|ol 6 5<|of 7 3 0<|ol 8 7<|ot 9 .eql 6 8<|om 10 9<|.sc 10 true (of 11 2 1<|ol 12 11<|of 13 3 1<|ol 14 13<|ot 15 .seq 12 14<|N) (t 15) 16 (om 17 16<|.sc 17 true (of 18 2 2<|ol 19 18<|of 20 3 2<|ol 21 20<|ot 22 .eql 19 21<|N) (t 22) 23 (om 24 23<|.sc 24 true (of 25 2 3<|oL 26 7 25<|of 27 3 3<|oL 28 7 27<|cl 29 22 [t 26,t 28]<|N) (t 29) 30 (om 31 30<|.sc 31 true (of 32 2 10<|ol 33 32<|of 34 3 10<|ol 35 34<|cl 36 46 [t 33,t 35,.k (.fn (.func 47) [] [])]<|N) (t 36) 37 (om 4 37<|N))))) [2,3,5,6,7,8,9,10,16,17,23,24,30,31,37])<|.ret
theorem ok45 : FT 45 38 ir45 [.tmp 4] := .o Tryz.func45
def ir209 : Ic := q (R (ow 4 false<|N) [4])<|q (R (om 5 0<|om 6 1<|cl 7 263 [t 5,t 6]<|oi 8 .geq 7 0<|om 4 8<|N) [0,1,5,6,7,8])<|.ret
theorem ok209 : FT 209 9 ir209 [.tmp 4] := .o Tryz.func209
end Go.Proofs
namespace Go.Proofs
open Go Av
def inI (n a b : Int) : Bool := decide (n ≥ a) && decide (n ≤ b)
theorem walk114 (n a b : Int) : PT 114 [.int .i64 n, .int .i64 a, .int .i64 b] (.d (.bool (inI n a b))) := by
 refine ok114.pc ?_;simp only [go_sem, ir114, simprocAttr];refine sq (decide (n ≤ b)) ?_ ?_
 all_goals simp only [go_sem, inI, simprocAttr]
structure Lim where
 name : Str
 low : Int
 high : Int
 bounds : Bool
 scale : Bool
 text : Bool
 list : Bool
 fields : Bool
def encLim (l : Lim) : List Dat := [.str l.name, .int .i64 l.low, .int .i64 l.high, .bool l.bounds, .bool l.scale, .bool l.text, .bool l.list, .bool l.fields]
def lim0 : Lim := ⟨[], 0, 0, false, false, false, false, false⟩
def limA : List Lim := [lim0,
 ⟨[98, 111, 111, 108], 0, 0, false, false, false, false, false⟩,
 ⟨[105, 110, 116], -999999999999999, 999999999999999, true, false, false, false, false⟩,
 ⟨[100, 101, 99, 105, 109, 97, 108], -999999999999999, 999999999999999, true, true, false, false, false⟩,
 ⟨[116, 101, 120, 116], 0, 1024, true, false, true, false, false⟩,
 ⟨[98, 121, 116, 101, 115], 0, 1024, true, false, false, false, false⟩,
 ⟨[100, 97, 116, 101], -719162, 2932896, true, false, false, false, false⟩,
 ⟨[116, 105, 109, 101], -62135596800000, 253402300799999, true, false, false, false, false⟩,
 ⟨[108, 105, 115, 116], 0, 256, true, false, false, true, false⟩,
 ⟨[114, 101, 99, 111, 114, 100], 0, 0, false, false, false, false, true⟩,
 ⟨[118, 97, 114, 105, 97, 110, 116], 0, 0, false, false, false, false, true⟩]
def kindsL : List Dat := limA.flatMap encLim
theorem walk115 : PT 115 [] (.d (.agg kindsL)) := tbl_one X1_ok kR
def limK (k : Int) : Lim := limA.getD k.toNat lim0
theorem kindsL_len : kindsL.length = 88 := rfl
theorem kindsL_at {k : Int} (h0 : 1 ≤ k) (h1 : k ≤ 10) : (kindsL.drop (k.toNat * 8)).take 8 = encLim (limK k) := by
 obtain ⟨n, rfl⟩ : ∃ n : Nat, k = n := ⟨k.toNat, oM⟩;have h : n = 1 ∨ n = 2 ∨ n = 3 ∨ n = 4 ∨ n = 5 ∨ n = 6 ∨ n = 7 ∨ n = 8 ∨ n = 9 ∨ n = 10 := oM;rcases h with rfl | rfl | rfl | rfl | rfl | rfl | rfl | rfl | rfl | rfl <;> rfl
def formC (t : Typ) (L : Lim) : Bool := ((((!L.bounds && (t.min != 0 || t.max != 0)) || (!L.scale && t.scale != 0)) || (!L.text && decide (((t.words.length : Nat) : Int) > 0))) || (!L.list && decide (((t.elem.length : Nat) : Int) > 0))) || (!L.fields && decide (((t.fields.length : Nat) : Int) > 0))
theorem walk116 (t : Typ) (L : Lim) : PT 116 [encT t, .agg (encLim L)] (.d (.int .i64 (if formC t L = true then 3 else 0))) := by
 refine ok116.pc ?_;generalize hR : (if formC t L = true then (3 : Int) else 0) = R;unfold formC at hR;rw [encT_eq];simp only [go_sem, ir116, encLim, simprocAttr];refine sq (t.min != 0 || t.max != 0) ?_ ?_
 ·refine zz ?_;refine sq (t.max != 0) ?_ ?_
  all_goals simp only [go_sem, simprocAttr]
 refine zz ?_;apply ik <;> intro h
 ·simp only [h, Bool.true_or, ↓reduceIte] at hR;subst hR;exact zz26 trivial
 rw [h, Bool.false_or] at hR;refine sq (t.scale != 0) ?_ ?_
 ·exact zz4 trivial
 refine zz4 ?_;apply ik <;> intro h
 ·simp only [h, Bool.true_or, ↓reduceIte] at hR;subst hR;exact zz26 trivial
 rw [h, Bool.false_or] at hR;refine sq (decide (((t.words.length : Nat) : Int) > 0)) ?_ ?_
 ·exact zz4 trivial
 refine zz4 ?_;apply ik <;> intro h
 ·simp only [h, Bool.true_or, ↓reduceIte] at hR;subst hR;exact zz26 trivial
 rw [h, Bool.false_or] at hR;refine sq (decide (((t.elem.length : Nat) : Int) > 0)) ?_ ?_
 ·exact zz4 trivial
 refine zz4 ?_;apply ik <;> intro h
 ·simp only [h, Bool.true_or, ↓reduceIte] at hR;subst hR;exact zz26 trivial
 rw [h, Bool.false_or] at hR;refine sq (decide (((t.fields.length : Nat) : Int) > 0)) ?_ ?_
 ·exact zz4 trivial
 refine zz4 ?_;apply ik <;> intro h
 ·simp only [h, ↓reduceIte] at hR;subst hR;rfl
 ·simp only [h, Bool.false_eq_true, ↓reduceIte] at hR;subst hR;rfl
def wordsF : Option Str → List Str → Int
 | _, [] => 0
 | p, w :: r =>
  if chkV (.mk 4 0 0 w [] []) != 0 then chkV (.mk 4 0 0 w [] [])
  else if (match p with | some q => w == q | none => false) = true then 7
  else if (match p with | some q => strLt w q | none => false) = true then 24
  else wordsF (some w) r
def wordsT (t : Typ) : Int := if (t.min != 0 || t.max != 0) = true then 3 else if decide (((t.words.length : Nat) : Int) > 64) = true then 9 else wordsF none t.words
def prevW (l : List Str) (k : Nat) : Option Str := if k = 0 then none else l[k - 1]?
def isP (f : Str → Str → Bool) (w : Str) (p : Option Str) : Bool := match p with | some q => f w q | none => false
theorem wordsF_cons (p : Option Str) (w : Str) (r : List Str) : wordsF p (w :: r) = if chkV (.mk 4 0 0 w [] []) != 0 then chkV (.mk 4 0 0 w [] []) else if isP (fun a b => a == b) w p = true then 7 else if isP strLt w p = true then 24 else wordsF (some w) r := by
 cases p <;> rfl
theorem nth_strs {xs : List Str} {k : Nat} (h : k < xs.length) : nth (xs.map .str) k = .str xs[k] := by rw [nth_eq (sX h), List.getElem_map]
theorem dec_isP (f : Str → Str → Bool) (w : Str) (l : List Str) (k : Nat) : (decide ((k : Int) > 0) && isP f w (prevW l k)) = isP f w (prevW l k) := by
 by_cases h : k = 0
 ·subst h; rfl
 ·have : decide ((k : Int) > 0) = true := sO;rw [this, Bool.true_and]
theorem walk117 (t : Typ) (hw : t.words.length ≤ 68719476736) : PT 117 [encT t] (.d (.int .i64 (wordsT t))) := by
 refine ok117.pc ?_;generalize hR : wordsT t = R;unfold wordsT at hR;rw [encT_eq];simp only [go_sem, ir117, simprocAttr];refine sq (t.max != 0) ?_ ?_
 ·exact zz trivial
 refine zz4 ?_;apply ik <;> intro h
 ·simp only [h, ↓reduceIte] at hR;subst hR;rfl
 rw [if_neg (nF h)] at hR;clear h;apply ik <;> intro h
 ·simp only [h, ↓reduceIte] at hR;subst hR;rfl
 rw [if_neg (nF h)] at hR;refine wpc_loop (fun n s => ∃ k : Nat, k ≤ t.words.length ∧ n = t.words.length - k ∧ wordsF (prevW t.words k) (t.words.drop k) = R ∧
  s = ⟨[(1, .ref 1 0), (21, .d (.list 1 (t.words.map .str))), (22, .d (.int .i64 t.words.length)), (23, .d (.int .i64 k))],
   [(1, .box [.d (.int .i64 t.kind), .d (.int .i64 t.min), .d (.int .i64 t.max), .d (.int .i64 t.scale), .d (.list 1 (t.words.map .str)), .d (.list 7 (t.elem.map encT)), .d (.list 11 (t.fields.map encG))])]⟩) ?_ ?_
 ·exact ⟨_, _, Wk.refl _, 0, Nat.zero_le _, rfl, hR, rfl⟩
 ·clear hR;rintro n s ⟨k, hk, rfl, hinv, rfl⟩;by_cases hlt : k < t.words.length
  ·have hx := nth_strs hlt;have hd := dT hlt;have c65 := (walk65 t.words[k]).call trivial;have c119 := (walk119 (.mk 4 0 0 t.words[k] [] [])).call trivial;rw [List.drop_eq_getElem_cons hlt, wordsF_cons] at hinv;have hp1 : prevW t.words (k + 1) = some t.words[k] := by simp [prevW, List.getElem?_eq_getElem hlt]
   have hq : 0 < k → ∃ q, prevW t.words k = some q ∧ nth (t.words.map .str) ((k : Int) - 1).toNat = .str q := by
    intro h0;have h1 : k - 1 < t.words.length := oM;refine ⟨t.words[k - 1], ?_, ?_⟩
    ·rw [prevW, if_neg oM, List.getElem?_eq_getElem h1]
    ·have : ((k : Int) - 1).toNat = k - 1 := oM;rw [this, nth_strs h1]
   have hw1 : 0 < k → IntKind.i64.wrap ((k : Int) - 1) = (k : Int) - 1 := fun h0 => wrap64 oM oM
   have hdd := dec_isP (fun a b => a == b) t.words[k] t.words k;have hdl := dec_isP strLt t.words[k] t.words k;generalize chkV (.mk 4 0 0 t.words[k] [] []) = cv at *;rw [encV_eq] at c65 c119;refine zz6 ?_;refine ⟨oM, dC, wn c65 ?_⟩;refine zz ?_;refine wc c119 ?_;apply ik <;> intro h
   ·rw [if_pos h] at hinv;subst hinv;rfl
   rw [if_neg (nF h)] at hinv;clear h;refine scQ_pure (isP (fun a b => a == b) t.words[k] (prevW t.words k)) (fun h0 => ?_) ?_
   ·have h0 : 0 < k := sX h0;obtain ⟨q, e1, e2⟩ := hq h0;refine zz51 ?_;exact ⟨oM, dC⟩
   simp only [go_sem, hdd, simprocAttr];apply ik <;> intro h
   ·rw [if_pos h] at hinv;subst hinv;rfl
   rw [if_neg (nF h)] at hinv;clear h
   try refine zz ?_
   refine scQ_pure (isP strLt t.words[k] (prevW t.words k)) (fun h0 => ?_) ?_
   ·have h0 : 0 < k := sX h0;obtain ⟨q, e1, e2⟩ := hq h0;refine zz51 ?_;exact ⟨oM, dC⟩
   simp only [go_sem, hdl, simprocAttr];apply ik <;> intro h
   ·rw [if_pos h] at hinv;subst hinv;rfl
   rw [if_neg (nF h), ← hp1] at hinv;clear h;refine ⟨t.words.length - (k + 1), _, oM, Wk.less ?_, k + 1, oM, rfl, hinv, rfl⟩;exact zz7 trivial
  ·have hd := dF hlt;rw [List.drop_eq_nil_of_le oM, wordsF] at hinv;subst hinv;exact zz5 trivial
def partsT (t : Typ) : List Typ := if t.kind = 8 then t.elem else if t.kind = 9 ∨ t.kind = 10 then t.fields.map TFl.type else []
theorem encT_cells (t : Typ) : (encT t).cells = [.int .i64 t.kind, .int .i64 t.min, .int .i64 t.max, .int .i64 t.scale, .list 1 (t.words.map .str), .list 7 (t.elem.map encT), .list 11 (t.fields.map encG)] := by rw [encT_eq]; rfl
theorem walk60 (t : Typ) (hf : t.fields.length ≤ 68719476736) : PT 60 [encT t] (.d (.list 7 ((partsT t).map encT))) := by
 refine ok60.pc ?_;generalize hR : partsT t = R;unfold partsT at hR;rw [encT_eq];simp only [go_sem, ir60, simprocAttr];apply ik <;> intro h
 ·rw [if_pos (sX h)] at hR;subst hR;exact zz trivial
 rw [if_neg (sX h)] at hR;by_cases h9 : t.kind = 9 ∨ t.kind = 10
 ·rw [if_pos h9] at hR;have e : (t.kind == 9) = true ∨ (t.kind == 9) = false ∧ (t.kind == 10) = true := by
   rcases h9 with h9 | h9
   ·exact .inl (by rw [h9]; rfl)
   ·exact .inr ⟨by rw [h9]; rfl, by rw [h9]; rfl⟩
  rcases e with e | ⟨e, e'⟩
  all_goals
   simp only [go_sem, e, List.length_map, simprocAttr]
   try simp only [go_sem, e', List.length_map, simprocAttr]
   refine ⟨oM, ?_⟩;refine wpc_loop (fun n s => ∃ k : Nat, k ≤ t.fields.length ∧ n = t.fields.length - k ∧
    s = ⟨[(3, .ms 18 k), (20, .d (.list 11 (t.fields.map encG))), (21, .d (.int .i64 t.fields.length)), (22, .d (.int .i64 k))], [(18, .row k 7 (((t.fields.take k).map TFl.type).map encT))]⟩) ?_ ?_
   ·refine ⟨_, _, Wk.less ?_, 0, Nat.zero_le _, rfl, rfl⟩;simp [put, go_sem]
   ·rintro n s ⟨k, hk, rfl, rfl⟩;by_cases hlt : k < t.fields.length
    ·have hx := nth_encG hlt;have hd := dT hlt;refine zz6 ?_;refine ⟨oM, by simp [Dat.cells], sO, t.fields.length - (k + 1), _, oM, Wk.less ?_, k + 1, oM, rfl, rfl⟩;rw [List.take_succ_eq_append_getElem hlt, List.map_append, List.map_append];simp only [go_sem, wrap64s k oM, List.map_cons, List.map_nil, encT_eq t.fields[k].type, Nat.reduceAdd, Nat.reduceEqDiff, Nat.reduceBEq, Nat.reduceLeDiff, reduceCtorEq, ↓reduceIte]
    ·have hd := dF hlt;obtain rfl : k = t.fields.length := oM;subst hR;exact zz14 trivial
 ·rw [if_neg h9] at hR;subst hR;have e1 : (t.kind == 9) = false := sO;have e2 : (t.kind == 10) = false := sO;simp only [go_sem, e1, e2, simprocAttr]
theorem ix203 {g : Nat} {cs : List Dat} {q : TFl → Bool} (l : List TFl) (hq : ∀ x ∈ l, PT g [encG x, .ptr cs] (.d (.bool (q x)))) (hl : l.length ≤ 68719476736) :
  PT 263 [.list 11 (l.map encG), cloD g cs] (.d (.int .i64 (ixG q l))) := by
 refine ok263.pc ?_;simp only [go_sem, ir263, List.length_map, simprocAttr];refine wpc_loop (fun n s => ∃ k : Nat, k ≤ l.length ∧ n = l.length - k ∧ (∀ (j : Nat) (h1 : j < l.length), j < k → q l[j] = false) ∧
  s = ⟨[(0, .d (.list 11 (l.map encG))), (1, .d (cloD g cs)), (7, .d (.int .i64 l.length)), (8, .d (.int .i64 k))], []⟩) ?_ ?_
 ·exact ⟨_, _, Wk.refl _, 0, Nat.zero_le _, rfl, sP, rfl⟩
 ·rintro n s ⟨k, hk, rfl, hinv, rfl⟩;by_cases hlt : k < l.length
  ·have hx := nth_encG hlt;have hd := dT hlt;have hc := (hq l[k] (List.getElem_mem _)).call trivial;rw [encG_eq] at hc;refine zz6 ?_;refine ⟨oM, wn hc ?_⟩;refine zz ?_;apply ik <;> intro hf
   ·have : l.findIdx? q = some k := by
     rw [List.findIdx?_eq_some_iff_getElem];exact ⟨hlt, hf, fun j hj => by rw [hinv j oM hj]; decide⟩
    simp only [ixG, this]
   ·refine ⟨l.length - (k + 1), _, oM, Wk.less ?_, k + 1, oM, rfl, ?_, rfl⟩
    ·exact zz7 trivial
    ·intro j h1 hj;by_cases e : j = k
     ·subst e; exact hf
     ·exact hinv j h1 oM
  ·have hd := dF hlt;refine zz5 ?_;have : l.findIdx? q = none := by
    rw [List.findIdx?_eq_none_iff];intro x hx;obtain ⟨j, hj, rfl⟩ := List.getElem_of_mem hx;exact hinv j hj oM
   simp only [ixG, this]
theorem ixG_any (q : TFl → Bool) (l : List TFl) : decide (ixG q l ≥ 0) = l.any q := by
 unfold ixG;cases e : l.findIdx? q with
 | none =>
  rw [List.findIdx?_eq_none_iff] at e;have : l.any q = false := by rw [List.any_eq_false]; intro x hx; rw [e x hx]; decide
  rw [this]; rfl
 | some k =>
  obtain ⟨h1, h2, _⟩ := List.findIdx?_eq_some_iff_getElem.1 e;have : l.any q = true := List.any_eq_true.2 ⟨_, List.getElem_mem h1, h2⟩;rw [this];simp
theorem walk209 {g : Nat} {cs : List Dat} {q : TFl → Bool} (l : List TFl) (hq : ∀ x ∈ l, PT g [encG x, .ptr cs] (.d (.bool (q x)))) (hl : l.length ≤ 68719476736) :
  PT 209 [.list 11 (l.map encG), cloD g cs] (.d (.bool (l.any q))) := by
 refine ok209.pc ?_;have c := (ix203 l hq hl).call trivial;rw [← ixG_any];simp only [go_sem, ir209, simprocAttr];refine wc c trivial
theorem encG_cells (f : TFl) : (encG f).cells = [.int .i64 f.number, .str f.name, .int .i64 f.need, .int .i64 f.type.kind, .int .i64 f.type.min, .int .i64 f.type.max, .int .i64 f.type.scale,
  .list 1 (f.type.words.map .str), .list 7 (f.type.elem.map encT), .list 11 (f.type.fields.map encG), .list 6 (f.dflt.map encV)] := by rw [encG_eq]; rfl
def samG (f g : TFl) : Bool := g.name == f.name || g.number == f.number
theorem walk210 (g f : TFl) : PT 210 [encG g, .ptr (encG f).cells] (.d (.bool (samG f g))) := by
 refine ok210.pc ?_;rw [encG_cells, encG_eq];simp only [go_sem, ir210, Nat.reduceAdd, Nat.reduceEqDiff, Nat.reduceBEq, Nat.reduceLeDiff, reduceCtorEq, ↓reduceIte];refine ⟨by decide, ?_⟩;refine sq (g.number == f.number) ?_ ?_
 ·refine zz ?_;decide
 simp only [go_sem, samG, Nat.reduceAdd, Nat.reduceEqDiff, Nat.reduceBEq, Nat.reduceLeDiff, reduceCtorEq, ↓reduceIte]
def fldT (t : Typ) (i : Nat) (f : TFl) : Int :=
 if (!nameS f.name) = true then 12 else if (!inI f.number 1 9999) = true then 2 else if ((t.fields.take i).any (samG f)) = true then 7
 else if (!inI f.need 1 3 || (t.kind == 10 && f.need != 1)) = true then 11
 else if (f.need == 3 && ((f.dflt.length : Nat) : Int) == 0) = true then 4
 else if (decide (((f.dflt.length : Nat) : Int) > 1) || (f.need != 3 && decide (((f.dflt.length : Nat) : Int) > 0))) = true then 3 else 0
theorem walk118 (t : Typ) (i : Nat) (hi : i < t.fields.length) (hf : t.fields.length ≤ 68719476736) : PT 118 [encT t, .int .i64 i] (.d (.int .i64 (fldT t i t.fields[i]))) := by
 refine ok118.pc ?_;have hx := nth_encG hi;have c184 := (p184 t.fields[i].name).call trivial;have cn := (walk114 t.fields[i].number 1 9999).call trivial;have cd := (walk114 t.fields[i].need 1 3).call trivial;have cu := CallOK.clo (ds := [.list 11 ((t.fields.take i).map encG)]) (walk209 (t.fields.take i) (fun x _ => walk210 x t.fields[i]) (by simp; omega)) rfl 5;have hsl : (List.drop (Int.toNat 0) (t.fields.map encG)).take ((i : Int) - 0).toNat = (t.fields.take i).map encG := by
  have : ((i : Int) - 0).toNat = i := by omega
  rw [this, List.map_take]; rfl
 generalize hR : fldT t i t.fields[i] = R;unfold fldT at hR;generalize t.fields[i] = f at *;rw [encG_cells] at cu;simp only [List.map_cons, List.map_nil, List.cons_append, List.nil_append] at cu;rw [encT_eq];simp only [go_sem, ir118, hx, Int.toNat_natCast, List.length_map, Nat.reduceAdd, Nat.reduceEqDiff, Nat.reduceBEq, Nat.reduceLeDiff, reduceCtorEq, ↓reduceIte];refine ⟨by omega, wn c184 ?_⟩;refine zz ?_;apply ik <;> intro h
 ·rw [if_pos h] at hR;subst hR;rfl
 rw [if_neg (by rw [h]; exact Bool.false_ne_true)] at hR;clear h
 try refine zz ?_
 refine wc cn ?_;apply ik <;> intro h
 ·rw [if_pos h] at hR;subst hR;rfl
 rw [if_neg (by rw [h]; exact Bool.false_ne_true)] at hR;clear h
 try simp only [go_sem, hsl, Int.toNat_natCast, List.length_map, Nat.reduceAdd, Nat.reduceEqDiff, Nat.reduceBEq, Nat.reduceLeDiff, reduceCtorEq, ↓reduceIte]
 refine ⟨by omega, wn cu ?_⟩;refine zz ?_;apply ik <;> intro h
 ·rw [if_pos h] at hR;subst hR;rfl
 rw [if_neg (by rw [h]; exact Bool.false_ne_true)] at hR;clear h
 try refine zz ?_
 refine wc cd ?_;refine sq (t.kind == 10 && f.need != 1) ?_ ?_
 ·refine zz ?_;refine sq (f.need != 1) ?_ ?_
  all_goals simp only [go_sem, Nat.reduceAdd, Nat.reduceEqDiff, Nat.reduceBEq, Nat.reduceLeDiff, reduceCtorEq, ↓reduceIte]
 refine zz ?_;apply ik <;> intro h
 ·rw [if_pos h] at hR;subst hR;rfl
 rw [if_neg (by rw [h]; exact Bool.false_ne_true)] at hR;clear h
 try refine zz ?_
 refine sq (((f.dflt.length : Nat) : Int) == 0) ?_ ?_
 ·exact zz4 trivial
 refine zz ?_;apply ik <;> intro h
 ·rw [if_pos h] at hR;subst hR;rfl
 rw [if_neg (by rw [h]; exact Bool.false_ne_true)] at hR;clear h
 try refine zz4 ?_
 refine sq (f.need != 3 && decide (((f.dflt.length : Nat) : Int) > 0)) ?_ ?_
 ·refine zz4 ?_;refine sq (decide (((f.dflt.length : Nat) : Int) > 0)) ?_ ?_
  all_goals simp only [go_sem, List.length_map, Nat.reduceAdd, Nat.reduceEqDiff, Nat.reduceBEq, Nat.reduceLeDiff, reduceCtorEq, ↓reduceIte]
 refine zz4 ?_;apply ik <;> intro h
 ·rw [if_pos h] at hR;subst hR;rfl
 ·rw [if_neg (by rw [h]; exact Bool.false_ne_true)] at hR;subst hR;rfl
def fldsF (t : Typ) : Nat → List TFl → Int
 | _, [] => 0
 | i, f :: r => if (fldT t i f != 0) = true then fldT t i f else fldsF t (i + 1) r
def own2 (t : Typ) : Int :=
 if ((t.kind == 8 && ((t.elem.length : Nat) : Int) == 0) || (t.kind == 10 && ((t.fields.length : Nat) : Int) == 0)) = true then 4
 else if (t.kind == 8 && decide (((t.elem.length : Nat) : Int) > 1)) = true then 3
 else if decide (((t.fields.length : Nat) : Int) > 64) = true then 9 else fldsF t 0 t.fields
def bndC (t : Typ) (L : Lim) : Bool := (L.bounds && ((decide (t.min > t.max) || decide (t.min < L.low)) || decide (t.max > L.high))) || (L.scale && !inI t.scale 0 12)
def ownT (t : Typ) : Int :=
 if (!inI t.kind 1 10) = true then 11 else if formC t (limK t.kind) = true then 3
 else if (t.kind == 4 && decide (((t.words.length : Nat) : Int) > 0)) = true then (if (wordsT t != 0) = true then wordsT t else own2 t)
 else if bndC t (limK t.kind) = true then 2 else own2 t
theorem walk59 (t : Typ) : PT 59 [encT t] (.d (.int .i64 (ownT t))) := by
 refine PCon.of_fits ok59.has fun hfit => ?_
 obtain ⟨hw, he, hf⟩ := fits_T (hfit _ (List.mem_cons_self));refine ok59.pc ?_;have ci := (walk114 t.kind 1 10).call trivial;have c115 := walk115.call trivial;have c116 := (walk116 t (limK t.kind)).call trivial;have c117 := (walk117 t hw).call trivial;have cs := (walk114 t.scale 0 12).call trivial;have c118 := fun i (hi : i < t.fields.length) => (walk118 t i hi hf).call trivial
 have hlen := kindsL_len;generalize hR : ownT t = R;unfold ownT at hR;have hkk := fun h0 h1 => kindsL_at (k := t.kind) h0 h1
 simp only [encLim] at hkk c116;rw [encT_eq] at c116 c117;simp only [encT_eq t] at c118;rw [encT_eq];simp only [go_sem, ir59, simprocAttr];refine wc ci ?_;apply ik <;> intro h
 ·rw [if_pos h] at hR;subst hR;rfl
 rw [if_neg (nF h)] at hR;have hk : 1 ≤ t.kind ∧ t.kind ≤ 10 := by
  simp only [inI, Bool.not_eq_false', Bool.and_eq_true, decide_eq_true_eq] at h;omega
 clear h;have hkk := hkk hk.1 hk.2;generalize limK t.kind = L at *
 try refine zz ?_
 refine wpsL_call rfl c115 trivial ?_;simp only [go_sem, hkk, hlen, simprocAttr];refine ⟨oM, dC, ?_⟩;by_cases hc : formC t L = true
 ·rw [if_pos hc] at c116 hR;subst hR;refine wn c116 ?_;exact zz9 trivial
 rw [if_neg hc] at c116 hR;refine wn c116 ?_;refine zz9 ?_;refine sq (decide (((t.words.length : Nat) : Int) > 0)) ?_ ?_
 ·exact zz4 trivial
 refine zz9 ?_;apply ik <;> intro h;rw [if_pos h] at hR;clear h
 try refine zz9 ?_
 refine wn c117 ?_;refine zz9 ?_;apply ik <;> intro h
 ·rw [if_pos h] at hR;subst hR;rfl
 rw [if_neg (nF h)] at hR;clear h
 rotate_left
 rw [if_neg (nF h)] at hR;clear h;unfold bndC at hR;refine sq ((decide (t.min > t.max) || decide (t.min < L.low)) || decide (t.max > L.high)) ?_ ?_
 ·refine zz9 ?_;refine sq (decide (t.min < L.low)) ?_ ?_
  ·exact zz9 trivial
  refine zz9 ?_;refine sq (decide (t.max > L.high)) ?_ ?_
  all_goals simp only [go_sem, Int.reduceBNe, bne_self_eq_false, simprocAttr]
 refine zz9 ?_;apply ik <;> intro h
 ·simp only [h, Bool.true_or, ↓reduceIte] at hR;subst hR;simp only [go_sem, h, ↓reduceIte]
 rw [h, Bool.false_or] at hR;clear h;refine sq (!inI t.scale 0 12) ?_ ?_
 ·refine zz9 ?_;refine wn cs ?_;exact zz9 trivial
 refine zz9 ?_;apply ik <;> intro h
 ·rw [if_pos h] at hR;subst hR;simp only [go_sem, h, ↓reduceIte]
 rw [if_neg (nF h)] at hR
 try simp only [go_sem, h, Bool.false_eq_true, ↓reduceIte]
 clear h
 all_goals
  clear c116 c117 cs ci c115 hkk;unfold own2 at hR;refine sq (((t.elem.length : Nat) : Int) == 0) ?_ ?_
  ·exact zz12 trivial
  refine zz12 ?_;apply ik <;> intro h
  ·simp only [h, Bool.true_or, ↓reduceIte] at hR;subst hR;simp only [go_sem, h, ↓reduceIte]
  rw [h, Bool.false_or] at hR;clear h
  try refine zz12 ?_
  refine sq (((t.fields.length : Nat) : Int) == 0) ?_ ?_
  ·exact zz12 trivial
  refine zz12 ?_;apply ik <;> intro h
  ·rw [if_pos h] at hR;subst hR;simp only [go_sem, h, ↓reduceIte]
  rw [if_neg (nF h)] at hR
  try simp only [go_sem, h, Bool.false_eq_true, ↓reduceIte]
  clear h;refine sq (decide (((t.elem.length : Nat) : Int) > 1)) ?_ ?_
  ·exact zz12 trivial
  refine zz12 ?_;apply ik <;> intro h
  ·rw [if_pos h] at hR;subst hR;rfl
  rw [if_neg (nF h)] at hR;clear h
  try refine zz12 ?_
  apply ik <;> intro h
  ·rw [if_pos h] at hR;subst hR;rfl
  rw [if_neg (nF h)] at hR;clear h
  try refine zz12 ?_
  refine wpc_loop (fun n s => ∃ k : Nat, k ≤ t.fields.length ∧ n = t.fields.length - k ∧ fldsF t k (t.fields.drop k) = R ∧
   s = ⟨[(1, .ref 1 0), (105, .d (.int .i64 t.fields.length)), (106, .d (.int .i64 k))], [(1, .box [.d (.int .i64 t.kind), .d (.int .i64 t.min), .d (.int .i64 t.max), .d (.int .i64 t.scale), .d (.list 1 (t.words.map .str)), .d (.list 7 (t.elem.map encT)), .d (.list 11 (t.fields.map encG))])]⟩) ?_ ?_
  ·refine ⟨_, _, Wk.less ?_, 0, Nat.zero_le _, rfl, hR, rfl⟩;simp [put, go_sem]
  ·clear hR;rintro n s ⟨k, hk2, rfl, hinv, rfl⟩;by_cases hlt : k < t.fields.length
   ·have hd := dT hlt;have c := c118 k hlt;rw [List.drop_eq_getElem_cons hlt, fldsF] at hinv;generalize fldT t k t.fields[k] = e at *;refine zz5 ?_;refine wn c ?_;refine zz12 ?_;apply ik <;> intro h
    ·rw [if_pos h] at hinv;subst hinv;rfl
    rw [if_neg (nF h)] at hinv;clear h;refine ⟨t.fields.length - (k + 1), _, oM, Wk.less ?_, k + 1, oM, rfl, hinv, rfl⟩;exact zz7 trivial
   ·have hd := dF hlt;rw [List.drop_eq_nil_of_le oM, fldsF] at hinv;subst hinv;exact zz5 trivial
end Go.Proofs
namespace Go.Proofs
open Go Av
open Av.Y
def ir214 : Ic := q (R (ow 4 false<|N) [4])<|q (R (om 5 0<|om 6 1<|cl 7 279 [t 5,t 6]<|oi 8 .geq 7 0<|om 4 8<|N) [0,1,5,6,7,8])<|.ret
theorem ok214 : FT 214 9 ir214 [.tmp 4] := .o Tryz.func214
def ir279 : Ic := q (R (oz 4 0<|N) [4])<|q (q (R (om 6 0<|oh 7 6<|oz 8 0<|N) [6])<|D (.block 0<|.loop (q (.reg (ot 9 .lss 8 7<|N))<|q (D (I 9 S (E 0)) [9])<|q (D (.block 1<|q (R (om 10 8<|om 5 10<|N) [10])<|q (R (om 11 1<|om 12 0<|om 13 5<|oa true 14 6 12 13<|oL 15 6 14<|.call (some 16) (.dyn (t 11)) [t 15] N) [11,12,13,14,15])<|D (I 16 (q (R (om 17 5<|om 4 17<|N) [0,1,7,8,5,16,17])<|.ret) S) [5,16]) [])<|R (oi 18 .add 8 1<|om 8 18<|N) [18])) [0,1,7,8,9,10,5,11])<|q (.reg (oz 4 (-1)<|N))<|.ret
theorem ok279 : FT 279 19 ir279 [.tmp 4] := .o Tryz.func279
end Go.Proofs
namespace Go.Proofs
open Go Av
def ixV (q : Val → Bool) (l : List Val) : Int := match l.findIdx? q with
 | some k => (k : Int)
 | none => -1
theorem ix419 {g : Nat} {cs : List Dat} {q : Val → Bool} (l : List Val) (hq : ∀ x ∈ l, PT g [encV x, .ptr cs] (.d (.bool (q x)))) (hl : l.length ≤ 68719476736) :
  PT 279 [.list 6 (l.map encV), cloD g cs] (.d (.int .i64 (ixV q l))) := by
 refine ok279.pc ?_;simp only [go_sem, ir279, List.length_map, simprocAttr];refine wpc_loop (fun n s => ∃ k : Nat, k ≤ l.length ∧ n = l.length - k ∧ (∀ (j : Nat) (h1 : j < l.length), j < k → q l[j] = false) ∧
  s = ⟨[(0, .d (.list 6 (l.map encV))), (1, .d (cloD g cs)), (7, .d (.int .i64 l.length)), (8, .d (.int .i64 k))], []⟩) ?_ ?_
 ·exact ⟨_, _, Wk.refl _, 0, Nat.zero_le _, rfl, sP, rfl⟩
 ·rintro n s ⟨k, hk, rfl, hinv, rfl⟩;by_cases hlt : k < l.length
  ·have hx := nth_encV hlt;have hd := dT hlt;have hc := (hq l[k] (List.getElem_mem _)).call trivial;rw [encV_eq] at hc;refine zz6 ?_;refine ⟨oM, wn hc ?_⟩;refine zz ?_;apply ik <;> intro hf
   ·have : l.findIdx? q = some k := by
     rw [List.findIdx?_eq_some_iff_getElem];exact ⟨hlt, hf, fun j hj => by rw [hinv j oM hj]; decide⟩
    simp only [ixV, this]
   ·refine ⟨l.length - (k + 1), _, oM, Wk.less ?_, k + 1, oM, rfl, ?_, rfl⟩
    ·exact zz7 trivial
    ·intro j h1 hj;by_cases e : j = k
     ·subst e; exact hf
     ·exact hinv j h1 oM
  ·have hd := dF hlt;refine zz5 ?_;have : l.findIdx? q = none := by
    rw [List.findIdx?_eq_none_iff];intro x hx;obtain ⟨j, hj, rfl⟩ := List.getElem_of_mem hx;exact hinv j hj oM
   simp only [ixV, this]
theorem ixV_any (q : Val → Bool) (l : List Val) : decide (ixV q l ≥ 0) = l.any q := by
 unfold ixV;cases e : l.findIdx? q with
 | none =>
  rw [List.findIdx?_eq_none_iff] at e;have : l.any q = false := by rw [List.any_eq_false]; intro x hx; rw [e x hx]; decide
  rw [this]; rfl
 | some k =>
  obtain ⟨h1, h2, _⟩ := List.findIdx?_eq_some_iff_getElem.1 e;have : l.any q = true := List.any_eq_true.2 ⟨_, List.getElem_mem h1, h2⟩;rw [this];simp
theorem walk214 {g : Nat} {cs : List Dat} {q : Val → Bool} (l : List Val) (hq : ∀ x ∈ l, PT g [encV x, .ptr cs] (.d (.bool (q x)))) (hl : l.length ≤ 68719476736) :
  PT 214 [.list 6 (l.map encV), cloD g cs] (.d (.bool (l.any q))) := by
 refine ok214.pc ?_;have c := (ix419 l hq hl).call trivial;rw [← ixV_any];simp only [go_sem, ir214, simprocAttr];refine wc c trivial
theorem encV_cells (v : Val) : (encV v).cells = [.int .i64 v.kind, .int .i64 v.int, .int .i64 v.scale, .str v.text, .list 6 (v.list.map encV), .list 7 (v.fields.map encF)] := by rw [encV_eq]; rfl
def lackB (v : Val) (g : TFl) : Bool := !(fieldR v g.name).2 && g.need != 2
theorem walk217 (g : TFl) (v : Val) : PT 217 [encG g, .ptr (encV v).cells] (.d (.bool (lackB v g))) := by
 refine ok217.pc ?_;have c := (walk218 v g.name).call (by simp [pureR]);generalize hR : lackB v g = R;unfold lackB at hR;generalize fieldR v g.name = F at *;rw [encV_eq v, encV_eq F.1] at c;rw [encG_eq, encV_cells];simp only [go_sem, ir217, simprocAttr];refine wc c ?_;refine sq (g.need != 2) ?_ ?_
 ·exact zz trivial
 simp only [go_sem, hR, simprocAttr]
theorem walk215 (e : Typ) (b : Bool) (t : Typ) (x : Val) (he : t.elem = [e]) (h : PT 120 [encT e, encV x] (.d (.bool b))) : PT 215 [encV x, .ptr (encT t).cells] (.d (.bool (!b))) := by
 refine ok215.pc ?_;have c := h.call trivial;have h0 : 0 < t.elem.length := by rw [he]; simp
 have hx := nth_encT h0;have e0 : t.elem[0] = e := by simp [he]
 rw [e0] at hx;rw [encT_eq, encV_eq] at c;rw [encV_eq, encT_cells];simp only [go_sem, ir215, hx, Int.toNat_zero, List.length_map, Nat.reduceAdd, Nat.reduceEqDiff, Nat.reduceBEq, Nat.reduceLeDiff, reduceCtorEq, ↓reduceIte];refine ⟨by omega, ⟨by omega, by omega⟩, wn c ?_⟩;exact zz trivial
def hasS (ft : Typ → Val → Bool) (t : Typ) (v : Val) : Bool :=
 if (v.kind != t.kind) = true then false
 else if t.kind = 2 ∨ t.kind = 6 ∨ t.kind = 7 ∨ t.kind = 3 then inI v.int t.min t.max && v.scale == t.scale
 else if t.kind = 4 then (if decide (((t.words.length : Nat) : Int) > 0) = true then decide (v.text ∈ t.words) else inI v.text.length t.min t.max)
 else if t.kind = 5 then inI v.text.length t.min t.max
 else if t.kind = 8 then inI v.list.length t.min t.max && !(v.list.any fun x => !ft ((t.elem[0]?).getD ty0) x)
 else if t.kind = 10 then (fldR t v.text).2 && ft (fldR t v.text).1.type ((v.list[0]?).getD zeroV)
 else if t.kind = 9 then (v.fields.all fun x => !(!(fldR t x.name).2 || !ft (fldR t x.name).1.type x.value)) && !(t.fields.any (lackB v))
 else true
theorem fldR_mem {t : Typ} {n : Str} (h : (fldR t n).2 = true) : (fldR t n).1 ∈ t.fields := by
 unfold fldR at h ⊢;split
 ·rename_i e; rw [if_pos e] at h; cases h
 ·rename_i e; rw [if_neg e] at h; exact tfR_mem h
theorem step120 (ft : Typ → Val → Bool) (t : Typ) (v : Val) (hk : 1 ≤ t.kind ∧ t.kind ≤ 10) (h8e : t.kind = 8 → t.elem.length = 1) (h10v : v.kind = 10 → v.list.length = 1)
  (h8 : t.kind = 8 → ∀ e ∈ t.elem, ∀ x ∈ v.list, PT 120 [encT e, encV x] (.d (.bool (ft e x))))
  (h9 : t.kind = 9 → ∀ g ∈ t.fields, ∀ x ∈ v.fields, PT 120 [encT g.type, encV x.value] (.d (.bool (ft g.type x.value))))
  (h10 : t.kind = 10 → ∀ g ∈ t.fields, ∀ x ∈ v.list, PT 120 [encT g.type, encV x] (.d (.bool (ft g.type x)))) :
  PT 120 [encT t, encV v] (.d (.bool (hasS ft t v))) := by
 refine PCon.of_fits ok120.has fun hfit => ?_
 obtain ⟨hw, he, hf⟩ := fits_T (hfit (encT t) sP);obtain ⟨v1, v2, v3⟩ := fits_V3 (hfit (encV v) sP);refine ok120.pc ?_;generalize hR : hasS ft t v = R;unfold hasS at hR;rw [encT_eq t, encV_eq v];simp only [go_sem, ir120, simprocAttr];apply ik <;> intro h
 ·rw [if_pos h] at hR;subst hR;rfl
 rw [if_neg (nF h)] at hR;have hvk : v.kind = t.kind := sX h;clear h;have hks : t.kind = 1 ∨ t.kind = 2 ∨ t.kind = 3 ∨ t.kind = 4 ∨ t.kind = 5 ∨ t.kind = 6 ∨ t.kind = 7 ∨ t.kind = 8 ∨ t.kind = 9 ∨ t.kind = 10 := oM;have ci := (walk114 v.int t.min t.max).call trivial;have ct := (walk114 v.text.length t.min t.max).call trivial;have cl := (walk114 v.list.length t.min t.max).call trivial;have c213 := (walk213 t.words v.text hw).call trivial;rcases hks with hk | hk | hk | hk | hk | hk | hk | hk | hk | hk
 all_goals
  have e2 : (t.kind == 2) = decide (t.kind = 2) := rfl;have e3 : (t.kind == 3) = decide (t.kind = 3) := rfl;have e4 : (t.kind == 4) = decide (t.kind = 4) := rfl;have e5 : (t.kind == 5) = decide (t.kind = 5) := rfl;have e6 : (t.kind == 6) = decide (t.kind = 6) := rfl;have e7 : (t.kind == 7) = decide (t.kind = 7) := rfl;have e8 : (t.kind == 8) = decide (t.kind = 8) := rfl;have e9 : (t.kind == 9) = decide (t.kind = 9) := rfl;have e10 : (t.kind == 10) = decide (t.kind = 10) := rfl;rw [hk] at e2 e3 e4 e5 e6 e7 e8 e9 e10;simp only [Int.reduceEq, decide_false, decide_true, hk] at e2 e3 e4 e5 e6 e7 e8 e9 e10;simp only [hk, Int.reduceEq, or_false, or_true, false_or, true_or, ↓reduceIte] at hR;refine zz34 ?_
  try (subst hR; rfl)
 ·subst hR;refine wn ci ?_;refine zz1 ?_;refine sq (v.scale == t.scale) ?_ ?_
  all_goals simp only [go_sem, Int.reduceBEq, List.length_map, simprocAttr]
 ·subst hR;refine wn ci ?_;refine zz1 ?_;refine sq (v.scale == t.scale) ?_ ?_
  all_goals simp only [go_sem, Int.reduceBEq, List.length_map, simprocAttr]
 ·apply ik <;> intro h
  ·rw [if_pos h] at hR;subst hR
   try refine zz1 ?_
   refine wn c213 ?_;exact zz1 trivial
  ·rw [if_neg (nF h)] at hR;subst hR
   try refine zz1 ?_
   refine wn ct ?_;exact zz1 trivial
 ·subst hR;refine wn ct ?_;exact zz1 trivial
 ·subst hR;refine wn ci ?_;refine zz1 ?_;refine sq (v.scale == t.scale) ?_ ?_
  all_goals simp only [go_sem, Int.reduceBEq, List.length_map, simprocAttr]
 ·subst hR;refine wn ci ?_;refine zz1 ?_;refine sq (v.scale == t.scale) ?_ ?_
  all_goals simp only [go_sem, Int.reduceBEq, List.length_map, simprocAttr]
 ·have hl1 := h8e hk;obtain ⟨e, hee⟩ : ∃ e, t.elem = [e] := List.length_eq_one_iff.1 hl1;have hmem : e ∈ t.elem := by rw [hee]; exact List.mem_singleton.2 rfl
  have cw := CallOK.clo (ds := [.list 6 (v.list.map encV)]) (walk214 (q := fun x => !ft e x) v.list (fun x hx => walk215 e (ft e x) t x hee (h8 hk e hmem x hx)) v2) rfl 2;rw [encT_cells, hk] at cw;simp only [List.map_cons, List.map_nil, List.cons_append, List.nil_append] at cw;have e0 : (t.elem[0]?).getD ty0 = e := by simp [hee]
  rw [e0] at hR;subst hR;refine wn cl ?_;refine zz1 ?_;refine sq (!(v.list.any fun x => !ft e x)) ?_ ?_
  ·refine zz1 ?_;refine wn cw ?_;exact zz1 trivial
  exact zz1 trivial
 ·have cw := CallOK.clo (ds := [.list 11 (t.fields.map encG)]) (walk209 (q := lackB v) t.fields (fun g _ => walk217 g v) hf) rfl 3;rw [encV_cells] at cw;simp only [List.map_cons, List.map_nil, List.cons_append, List.nil_append] at cw;refine wpc_loop (fun n s => ∃ k : Nat, k ≤ v.fields.length ∧ n = v.fields.length - k ∧ (((v.fields.drop k).all fun x => !(!(fldR t x.name).2 || !ft (fldR t x.name).1.type x.value)) && !(t.fields.any (lackB v))) = R ∧
   s = ⟨[(2, .ref 2 0), (3, .ref 3 0), (105, .d (.list 7 (v.fields.map encF))), (106, .d (.int .i64 v.fields.length)), (107, .d (.int .i64 k))],
    [(2, .box [.d (.int .i64 9), .d (.int .i64 t.min), .d (.int .i64 t.max), .d (.int .i64 t.scale), .d (.list 1 (t.words.map .str)), .d (.list 7 (t.elem.map encT)), .d (.list 11 (t.fields.map encG))]),
     (3, .box [.d (.int .i64 v.kind), .d (.int .i64 v.int), .d (.int .i64 v.scale), .d (.str v.text), .d (.list 6 (v.list.map encV)), .d (.list 7 (v.fields.map encF))])]⟩) ?_ ?_
  ·exact ⟨_, _, Wk.refl _, 0, Nat.zero_le _, rfl, hR, rfl⟩
  ·clear hR;rintro n s ⟨k, hk2, rfl, hinv, rfl⟩;by_cases hlt : k < v.fields.length
   ·have hx := nth_encF hlt;have hd := dT hlt;have hmem := List.getElem_mem hlt;have c216 := (walk216 t v.fields[k].name).call (by simp [pureR]);have cr : (fldR t v.fields[k].name).2 = true → CT 120 [.d (encT (fldR t v.fields[k].name).1.type), .d (encV v.fields[k].value)] [] (.d (.bool (ft (fldR t v.fields[k].name).1.type v.fields[k].value))) [] := fun h => (h9 hk _ (fldR_mem h) v.fields[k] hmem).call trivial
    rw [List.drop_eq_getElem_cons hlt, List.all_cons] at hinv;generalize fldR t v.fields[k].name = F at *;generalize hB : ft F.1.type v.fields[k].value = B at *;rw [encT_eq t, encG_eq F.1, hk] at c216;rw [encT_eq, encV_eq] at cr;refine zz6 ?_;refine ⟨oM, wn c216 ?_⟩;refine zz1 ?_;refine scQ_pure (!B) (fun h => ?_) ?_
    ·refine zz1 ?_;refine wn (cr (sX h)) ?_;exact zz1 trivial
    refine zz1 ?_;apply ik <;> intro h
    ·rw [h, Bool.not_true, Bool.false_and, Bool.false_and] at hinv;subst hinv;rfl
    ·rw [h, Bool.not_false, Bool.true_and] at hinv;clear h;refine ⟨v.fields.length - (k + 1), _, oM, Wk.less ?_, k + 1, oM, rfl, hinv, rfl⟩;exact zz7 trivial
   ·have hd := dF hlt;rw [List.drop_eq_nil_of_le oM, List.all_nil, Bool.true_and] at hinv;subst hinv;refine zz5 ?_;refine wn cw ?_;exact zz1 trivial
 ·have hl1 := h10v (hvk.trans hk);have h0 : 0 < v.list.length := oM;have hx0 := nth_encV h0;have c216 := (walk216 t v.text).call (by simp [pureR]);have cr : (fldR t v.text).2 = true → CT 120 [.d (encT (fldR t v.text).1.type), .d (encV v.list[0])] [] (.d (.bool (ft (fldR t v.text).1.type v.list[0]))) [] := fun h => (h10 hk _ (fldR_mem h) v.list[0] (List.getElem_mem h0)).call trivial
  rw [List.getElem?_eq_getElem h0, Option.getD_some] at hR;generalize fldR t v.text = F at *;rw [encT_eq t, encG_eq F.1, hk] at c216;rw [encT_eq, encV_eq] at cr;subst hR;refine wn c216 ?_;refine zz1 ?_;refine scQ_pure (ft F.1.type v.list[0]) (fun h => ?_) ?_
  ·simp only [go_sem, hx0, Int.toNat_zero, Int.reduceBEq, List.length_map, simprocAttr];refine ⟨oM, wn (cr h) ?_⟩;exact zz1 trivial
  exact zz1 trivial
def hasF : Nat → Typ → Val → Bool
 | 0, _, _ => true
 | k + 1, t, v => hasS (hasF k) t v
end Go.Proofs
namespace Go.Proofs
open Go Av
variable {v : Val}
theorem szE_le {n m e : Int} (he : e ≠ 0) (h : szE n m e = 0) : n ≤ m := by
 unfold szE at h;split at h
 ·exact absurd h he
 ·rename_i h1; simpa using h1
theorem chkE_ok {n level : Int} (h : chkE n level v = 0) : usesV v = true ∧ ruleE v = 0 := by
 unfold chkE at h;split at h
 ·cases h
 split at h
 ·cases h
 split at h
 ·cases h
 split at h
 ·cases h
 split at h
 ·cases h
 ·rename_i hu; exact ⟨by simpa using hu, h⟩
theorem recE_names : ∀ {l : List Fld} {o : Option Str}, recE o l = 0 → ∀ f ∈ l, nameS f.name = true
 | [], _, _, f, hf => by cases hf
 | g :: r, none, h, f, hf => by
  simp only [recE] at h;split at h
  ·cases h
  ·rename_i hn;rcases List.mem_cons.1 hf with rfl | hf
   ·simpa using hn
   ·exact recE_names h f hf
 | g :: r, some p, h, f, hf => by
  simp only [recE] at h;split at h
  ·cases h
  split at h
  ·cases h
  split at h
  ·cases h
  ·rename_i hn _ _;rcases List.mem_cons.1 hf with rfl | hf
   ·simpa using hn
   ·exact recE_names h f hf
theorem uses_ok (h : usesV v = true) : ((v.kind = 8 ∨ v.kind = 10) ∨ v.list = []) ∧ (v.kind = 9 ∨ v.fields = []) ∧ (v.kind = 4 ∨ v.kind = 5 ∨ v.kind = 10 ∨ v.text = []) := by
 simp only [usesV, useT, useL, Bool.and_eq_true, Bool.or_eq_true, beq_iff_eq] at h;obtain ⟨⟨⟨_, h1⟩, h2⟩, h3⟩ := h;refine ⟨?_, ?_, ?_⟩
 ·rcases h2 with h2 | h2
  ·exact .inl h2
  ·exact .inr (List.length_eq_zero_iff.1 oM)
 ·rcases h3 with h3 | h3
  ·exact .inl h3
  ·exact .inr (List.length_eq_zero_iff.1 oM)
 ·rcases h1 with ((h1 | h1) | h1) | h1
  ·exact .inl h1
  ·exact .inr (.inl h1)
  ·exact .inr (.inr (.inl h1))
  ·exact .inr (.inr (.inr h1))
theorem rule_text (hu : usesV v = true) (h : ruleE v = 0) : v.text.length ≤ 4096 := by
 obtain ⟨_, _, h3⟩ := uses_ok hu;unfold ruleE at h;rcases h3 with e | e | e | e
 ·rw [if_neg oM, if_neg oM, if_neg oM, if_pos e] at h;unfold textE at h;split at h
  ·cases h
  ·have := szE_le dC h; omega
 ·rw [if_neg oM, if_neg oM, if_neg oM, if_neg oM, if_pos e] at h;have := szE_le dC h; omega
 ·rw [if_neg oM, if_neg oM, if_neg oM, if_neg oM, if_neg oM, if_neg oM, if_neg oM, if_neg oM, if_neg oM] at h;unfold varE at h;split at h
  ·cases h
  ·rename_i hn;have := nameS_len (s := v.text) (sX hn);omega
 ·rw [e]; exact Nat.zero_le _
theorem rule_names (e : v.kind = 9) (h : ruleE v = 0) : ∀ f ∈ v.fields, f.name.length ≤ 4096 := by
 unfold ruleE at h;rw [if_neg oM, if_neg oM, if_neg oM, if_neg oM, if_neg oM, if_neg oM, if_neg oM, if_neg oM, if_pos e] at h;unfold recV at h;split at h
 ·rename_i h1; rw [h] at h1; cases h1
 ·intro f hf;have := nameS_len (recE_names h f hf);omega
theorem foldV_sz {f : Int → Val → Int × Int} (hf : ∀ n v, (f n v).1 = 0 → (f n v).2 = n + szV v ∧ okT v) : ∀ (l : List Val) (n : Int), (foldV f n l).1 = 0 → (foldV f n l).2 = n + szVs l ∧ okTs l
 | [], n, _ => by simp [foldV, szVs, okTs]
 | v :: r, n, h => by
  simp only [foldV] at h ⊢;split at h
  ·rename_i hx; exact absurd h hx
  ·rename_i hx;rw [if_neg hx];simp only [ne_eq, Decidable.not_not] at hx;obtain ⟨h1, h2⟩ := hf n v hx;obtain ⟨h3, h4⟩ := foldV_sz hf r _ h;simp only [szVs, okTs];exact ⟨by rw [h3, h1]; push_cast; omega, h2, h4⟩
theorem szFs_map : ∀ l : List Fld, szFs l = szVs (l.map Fld.value)
 | [] => rfl
 | .mk n v :: r => by simp only [szFs, List.map_cons, szVs, szFs_map r, Fld.value]
theorem okTf_of : ∀ {l : List Fld}, (∀ f ∈ l, f.name.length ≤ 4096) → okTs (l.map Fld.value) → okTf l
 | [], _, _ => trivial
 | .mk n v :: r, h, h2 => ⟨h _ List.mem_cons_self, h2.1, okTf_of (fun f hf => h f (List.mem_cons_of_mem _ hf)) h2.2⟩
theorem visF_sz : ∀ (k : Nat) (n : Int) (v : Val), (visF k n v).1 = 0 → (visF k n v).2 = n + szV v ∧ okT v
 | 0, n, v, h => absurd h (chk9 _ _)
 | k + 1, n, v, h => by
  simp only [visF] at h ⊢;split at h
  ·rename_i hx; exact absurd h hx
  ·rename_i hx;rw [if_neg hx];simp only [ne_eq, Decidable.not_not] at hx;obtain ⟨hu, hr⟩ := chkE_ok hx;obtain ⟨u1, u2, u3⟩ := uses_ok hu;obtain ⟨h1, h2⟩ := foldV_sz (visF_sz k) _ _ h;have ht := rule_text hu hr;rw [h1, szV_eq, okT_eq];unfold partsV at h2 ⊢;by_cases e : v.kind = 8 ∨ v.kind = 10
   ·have hf : v.fields = [] := by rcases u2 with u2 | u2 <;> first | exact u2 | omega
    rw [if_pos e] at h2 ⊢;rw [hf];refine ⟨by simp only [szFs]; push_cast; omega, ht, h2, trivial⟩
   ·have hl : v.list = [] := by rcases u1 with u1 | u1 <;> first | exact u1 | exact absurd u1 e
    rw [if_neg e] at h2 ⊢;rw [hl];by_cases e9 : v.kind = 9
    ·rw [if_pos e9] at h2 ⊢;rw [szFs_map];exact ⟨by simp only [szVs]; push_cast; omega, ht, trivial, okTf_of (rule_names e9 hr) h2⟩
    ·have hf : v.fields = [] := by rcases u2 with u2 | u2 <;> first | exact u2 | omega
     rw [if_neg e9] at h2 ⊢;rw [hf];exact ⟨by simp only [szVs, szFs]; push_cast; omega, ht, trivial, trivial⟩
theorem chkV_sz (h : chkV v = 0) : szV v ≤ 4096 ∧ okT v := by
 obtain ⟨h1, h2⟩ := visF_sz 8 0 v h;have h3 := (visF_n 8 0 v oM oM h).2;exact ⟨oM, h2⟩
end Go.Proofs
namespace Go.Proofs
open Go Av
mutual
def okW : Val → Prop
 | .mk k _ _ _ l f => (k = 10 → l.length = 1) ∧ okWs l ∧ okWf f
def okWs : List Val → Prop
 | [] => True
 | v :: r => okW v ∧ okWs r
def okWf : List Fld → Prop
 | [] => True
 | .mk _ v :: r => okW v ∧ okWf r
end
theorem okW_eq (v : Val) : okW v ↔ (v.kind = 10 → v.list.length = 1) ∧ okWs v.list ∧ okWf v.fields := by cases v; rfl
theorem okWs_mem : ∀ {l : List Val}, okWs l → ∀ x ∈ l, okW x
 | v :: r, h, x, hx => by
  rcases List.mem_cons.1 hx with rfl | hx
  ·exact h.1
  ·exact okWs_mem h.2 x hx
theorem okWf_mem : ∀ {l : List Fld}, okWf l → ∀ x ∈ l, okW x.value
 | .mk n v :: r, h, x, hx => by
  rcases List.mem_cons.1 hx with rfl | hx
  ·exact h.1
  ·exact okWf_mem h.2 x hx
theorem okWf_of : ∀ {l : List Fld}, okWs (l.map Fld.value) → okWf l
 | [], _ => trivial
 | .mk n v :: r, h => ⟨h.1, okWf_of h.2⟩
theorem foldV_va {f : Int → Val → Int × Int} (hf : ∀ n v, (f n v).1 = 0 → okW v) : ∀ (l : List Val) (n : Int), (foldV f n l).1 = 0 → okWs l
 | [], n, _ => trivial
 | v :: r, n, h => by
  simp only [foldV] at h;split at h
  ·rename_i hx; exact absurd h hx
  ·rename_i hx;simp only [ne_eq, Decidable.not_not] at hx;exact ⟨hf n v hx, foldV_va hf r _ h⟩
theorem rule_var {v : Val} (e : v.kind = 10) (h : ruleE v = 0) : v.list.length = 1 := by
 unfold ruleE at h;rw [if_neg oM, if_neg oM, if_neg oM, if_neg oM, if_neg oM, if_neg oM, if_neg oM, if_neg oM, if_neg oM] at h;unfold varE at h;split at h
 ·cases h
 split at h
 ·cases h
 ·rename_i h2;have := szE_le dC h;simp only [beq_iff_eq] at h2;omega
theorem visF_va : ∀ (k : Nat) (n : Int) (v : Val), (visF k n v).1 = 0 → okW v
 | 0, n, v, h => absurd h (chk9 _ _)
 | k + 1, n, v, h => by
  simp only [visF] at h;split at h
  ·rename_i hx; exact absurd h hx
  ·rename_i hx;simp only [ne_eq, Decidable.not_not] at hx;obtain ⟨hu, hr⟩ := chkE_ok hx;obtain ⟨u1, u2, u3⟩ := uses_ok hu;have h2 := foldV_va (visF_va k) _ _ h;rw [okW_eq];refine ⟨fun e => rule_var e hr, ?_⟩;unfold partsV at h2;by_cases e : v.kind = 8 ∨ v.kind = 10
   ·have hf : v.fields = [] := by rcases u2 with u2 | u2 <;> first | exact u2 | omega
    rw [if_pos e] at h2;rw [hf];exact ⟨h2, trivial⟩
   ·have hl : v.list = [] := by rcases u1 with u1 | u1 <;> first | exact u1 | exact absurd u1 e
    rw [if_neg e] at h2;rw [hl];by_cases e9 : v.kind = 9
    ·rw [if_pos e9] at h2;exact ⟨trivial, okWf_of h2⟩
    ·have hf : v.fields = [] := by rcases u2 with u2 | u2 <;> first | exact u2 | omega
     rw [hf];exact ⟨trivial, trivial⟩
theorem chkV_okW {v : Val} (h : chkV v = 0) : okW v := visF_va 8 0 v h
mutual
def vT : Typ → Prop
 | .mk k _ _ s _ e f => (1 ≤ k ∧ k ≤ 10) ∧ (k = 8 → e.length = 1) ∧ (k = 10 → f ≠ []) ∧ (0 ≤ s ∧ s ≤ 12) ∧ vTs e ∧ vTf k f
def vTs : List Typ → Prop
 | [] => True
 | v :: r => vT v ∧ vTs r
def vTf : Int → List TFl → Prop
 | _, [] => True
 | k, .mk _ _ d t df :: r => ((d = 3 → df.length = 1 ∧ ∀ x ∈ df, chkV x = 0) ∧ (k = 10 → d = 1) ∧ vT t) ∧ vTf k r
end
theorem vT_eq (t : Typ) : vT t ↔ (1 ≤ t.kind ∧ t.kind ≤ 10) ∧ (t.kind = 8 → t.elem.length = 1) ∧ (t.kind = 10 → t.fields ≠ []) ∧ (0 ≤ t.scale ∧ t.scale ≤ 12) ∧ vTs t.elem ∧ vTf t.kind t.fields := by cases t; rfl
theorem vTs_mem : ∀ {l : List Typ}, vTs l → ∀ x ∈ l, vT x
 | v :: r, h, x, hx => by
  rcases List.mem_cons.1 hx with rfl | hx
  ·exact h.1
  ·exact vTs_mem h.2 x hx
theorem vTf_mem : ∀ {k : Int} {l : List TFl}, vTf k l → ∀ x ∈ l, (x.need = 3 → x.dflt.length = 1 ∧ ∀ y ∈ x.dflt, chkV y = 0) ∧ (k = 10 → x.need = 1) ∧ vT x.type
 | k, .mk a n d t df :: r, h, x, hx => by
  rcases List.mem_cons.1 hx with rfl | hx
  ·exact h.1
  ·exact vTf_mem h.2 x hx
theorem vTs_of : ∀ {l : List Typ}, (∀ x ∈ l, vT x) → vTs l
 | [], _ => trivial
 | v :: r, h => ⟨h _ List.mem_cons_self, vTs_of fun x hx => h x (List.mem_cons_of_mem _ hx)⟩
theorem vTf_of : ∀ {k : Int} {l : List TFl}, (∀ x ∈ l, (x.need = 3 → x.dflt.length = 1 ∧ ∀ y ∈ x.dflt, chkV y = 0) ∧ (k = 10 → x.need = 1) ∧ vT x.type) → vTf k l
 | _, [], _ => trivial
 | _, .mk a n d t df :: r, h => ⟨h _ List.mem_cons_self, vTf_of fun x hx => h x (List.mem_cons_of_mem _ hx)⟩
theorem walk120 : ∀ (k : Nat) (t : Typ) (v : Val), szT t ≤ k → vT t → okW v → PT 120 [encT t, encV v] (.d (.bool (hasF k t v)))
 | 0, t, v, h, _, _ => by rw [szT_eq] at h; omega
 | k + 1, t, v, h, ht, hv => by
  have e := szT_eq t;obtain ⟨t1, t2, t3, t4, t5, t6⟩ := (vT_eq t).1 ht;obtain ⟨v1, v2, v3⟩ := (okW_eq v).1 hv;refine step120 (hasF k) t v t1 t2 v1 (fun h8 e he x hx => ?_) (fun h9 g hg x hx => ?_) (fun h10 g hg x hx => ?_)
  ·have := szTs_mem e he;exact walk120 k e x oM (vTs_mem t5 e he) (okWs_mem v2 x hx)
  ·have := szGs_mem g hg;exact walk120 k g.type x.value oM (vTf_mem t6 g hg).2.2 (okWf_mem v3 x hx)
  ·have := szGs_mem g hg;exact walk120 k g.type x oM (vTf_mem t6 g hg).2.2 (okWs_mem v2 x hx)
def accB (t : Typ) (v : Val) : Bool := chkV v == 0 && hasF (szT t) t v
theorem walk61 (t : Typ) (v : Val) (ht : vT t) : PT 61 [encT t, encV v] (.d (.bool (accB t v))) := by
 refine ok61.pc ?_;have c119 := (walk119 v).call trivial;have c120 : chkV v = 0 → CT 120 [.d (encT t), .d (encV v)] [] (.d (.bool (hasF (szT t) t v))) [] := fun h => (walk120 (szT t) t v (Nat.le_refl _) ht (chkV_okW h)).call trivial
 generalize hR : accB t v = R;unfold accB at hR;generalize hasF (szT t) t v = H at *;generalize chkV v = E at *;rw [encV_eq v] at c119 c120;rw [encT_eq t] at c120;rw [encT_eq t, encV_eq v];simp only [go_sem, ir61, simprocAttr];refine wc c119 ?_;refine scQ_pure H (fun h => ?_) ?_
 ·refine zz ?_;refine wc (c120 (sX h)) trivial
 simp only [go_sem, hR, simprocAttr]
end Go.Proofs
namespace Go.Proofs
open Go Av
variable {t : Typ}
theorem fldsF_ok : ∀ (l : List TFl) (i : Nat), fldsF t i l = 0 → ∀ (j : Nat) (hj : j < l.length), fldT t (i + j) l[j] = 0
 | [], _, _, j, hj => by simp at hj
 | f :: r, i, h, j, hj => by
  rw [fldsF] at h;split at h
  ·rename_i h1; rw [h] at h1; cases h1
  ·rename_i h1;cases j with
   | zero => simpa using h1
   | succ j =>
    have := fldsF_ok r (i + 1) h j (sX hj);rw [Nat.add_assoc, Nat.add_comm 1 j] at this;simpa using this
theorem own2_ok (h : own2 t = 0) : (t.kind = 8 → t.elem.length = 1) ∧ (t.kind = 10 → t.fields ≠ []) ∧ t.fields.length ≤ 64 ∧ ∀ (j : Nat) (hj : j < t.fields.length), fldT t j t.fields[j] = 0 := by
 unfold own2 at h;split at h
 ·cases h
 rename_i h1;split at h
 ·cases h
 rename_i h2;split at h
 ·cases h
 rename_i h3;simp only [Bool.or_eq_true, Bool.and_eq_true, beq_iff_eq, decide_eq_true_eq, not_or, not_and] at h1 h2 h3;refine ⟨fun e => ?_, fun e e2 => ?_, oM, fun j hj => ?_⟩
 ·have a := h1.1 e;have b := h2 e;omega
 ·have := h1.2 e;rw [e2] at this;exact this rfl
 ·have := fldsF_ok t.fields 0 h j hj;rwa [Nat.zero_add] at this
theorem len0 {α : Type} {l : List α} (h : ¬ ((l.length : Nat) : Int) > 0) : l = [] := by
 apply List.eq_nil_of_length_eq_zero;omega
theorem own_ok (h : ownT t = 0) : (1 ≤ t.kind ∧ t.kind ≤ 10) ∧ (t.kind = 8 → t.elem.length = 1) ∧ (t.kind ≠ 8 → t.elem = []) ∧ (t.kind = 10 → t.fields ≠ []) ∧ (t.kind ≠ 9 → t.kind ≠ 10 → t.fields = []) ∧
  (0 ≤ t.scale ∧ t.scale ≤ 12) ∧ t.fields.length ≤ 64 ∧ ∀ (j : Nat) (hj : j < t.fields.length), fldT t j t.fields[j] = 0 := by
 unfold ownT at h;split at h
 ·cases h
 rename_i h1;split at h
 ·cases h
 rename_i h2;have hk : 1 ≤ t.kind ∧ t.kind ≤ 10 := by
  simp only [inI, Bool.not_eq_true', Bool.and_eq_false_iff, decide_eq_false_iff_not, not_or] at h1;omega
 have key : own2 t = 0 ∧ (t.kind = 3 → inI t.scale 0 12 = true) := by
  split at h
  ·rename_i h3;simp only [Bool.and_eq_true, beq_iff_eq] at h3;split at h
   ·rename_i h4; rw [h] at h4; cases h4
   ·exact ⟨h, fun e => by omega⟩
  ·split at h
   ·cases h
   ·rename_i h4;refine ⟨h, fun e => ?_⟩;unfold bndC at h4;rw [e] at h4;simp only [Bool.or_eq_true, not_or] at h4;have := h4.2;simpa [limK, limA] using this
 obtain ⟨o1, o2, o3, o4⟩ := own2_ok key.1;have hsc := key.2;unfold formC at h2;simp only [Bool.or_eq_true, Bool.and_eq_true, not_or, not_and, bne_iff_ne, ne_eq, Decidable.not_not, decide_eq_true_eq, Bool.not_eq_true', Bool.not_eq_eq_eq_not, Bool.not_true] at h2;obtain ⟨⟨⟨⟨f1, f2⟩, f3⟩, f4⟩, f5⟩ := h2;have hks : t.kind = 1 ∨ t.kind = 2 ∨ t.kind = 3 ∨ t.kind = 4 ∨ t.kind = 5 ∨ t.kind = 6 ∨ t.kind = 7 ∨ t.kind = 8 ∨ t.kind = 9 ∨ t.kind = 10 := oM;refine ⟨hk, o1, fun e => ?_, o2, fun e e2 => ?_, ?_, o3, o4⟩
 ·refine len0 (f4 ?_);rcases hks with h | h | h | h | h | h | h | h | h | h <;> first | omega | (rw [h]; rfl)
 ·refine len0 (f5 ?_);rcases hks with h | h | h | h | h | h | h | h | h | h <;> first | omega | (rw [h]; rfl)
 ·by_cases e : t.kind = 3
  ·have := hsc e;simp only [inI, Bool.and_eq_true, decide_eq_true_eq] at this;omega
  ·have := f2 (by rcases hks with h | h | h | h | h | h | h | h | h | h <;> first | omega | (rw [h]; rfl));omega
def dfl0 (g : TFl) : Val := (g.dflt[0]?).getD zeroV
def chkPs (f : Int → Typ → Int × Int) (t : Typ) : Nat → Int → List Typ → Int × Int
 | _, n, [] => (0, n)
 | i, n, p :: r =>
  if ((f n p).1 != 0) = true then f n p
  else if ((t.kind == 9 && (t.fields.getD i tf0).need == 3) && !accB p (dfl0 (t.fields.getD i tf0))) = true then (18, (f n p).2)
  else chkPs f t (i + 1) (f n p).2 r
def chkT : Nat → Int → Typ → Int × Int
 | 0, n, t => if (n == 0) = true then (9, n) else (23, n)
 | k + 1, n, t => if (n == 0) = true then (9, n) else if (ownT t != 0) = true then (ownT t, n - 1) else chkPs (chkT k) t 0 (n - 1) (partsT t)
theorem chkPs_ok {f : Int → Typ → Int × Int} (hf : ∀ n p, 0 ≤ n → (f n p).1 = 0 → vT p ∧ (f n p).2 + szT p = n ∧ 0 ≤ (f n p).2) : ∀ (l : List Typ) (i : Nat) (n : Int), 0 ≤ n → (chkPs f t i n l).1 = 0 →
  (∀ x ∈ l, vT x) ∧ (chkPs f t i n l).2 + szTs l = n ∧ 0 ≤ (chkPs f t i n l).2 ∧ ∀ (j : Nat) (hj : j < l.length), t.kind = 9 → (t.fields.getD (i + j) tf0).need = 3 → accB l[j] (dfl0 (t.fields.getD (i + j) tf0)) = true
 | [], i, n, hn, h => ⟨sP, by simp [chkPs, szTs], by simpa [chkPs] using hn, fun j hj => by simp at hj⟩
 | p :: r, i, n, hn, h => by
  rw [chkPs] at h ⊢;split at h
  ·rename_i h1; rw [h] at h1; cases h1
  rename_i h1;split at h
  ·cases h
  rename_i h2;rw [if_neg h1, if_neg h2];obtain ⟨a1, a2, a3⟩ := hf n p hn (sX h1);obtain ⟨b1, b2, b3, b4⟩ := chkPs_ok hf r (i + 1) (f n p).2 a3 h;refine ⟨fun x hx => ?_, ?_, b3, fun j hj e9 hn3 => ?_⟩
  ·rcases List.mem_cons.1 hx with rfl | hx
   ·exact a1
   ·exact b1 x hx
  ·simp only [szTs]; push_cast; omega
  ·cases j with
   | zero =>
    simp only [Nat.add_zero] at hn3 ⊢;simp only [e9, beq_self_eq_true, Bool.true_and, Bool.and_eq_true, beq_iff_eq, Bool.not_eq_true', not_and, Bool.not_eq_false] at h2;exact h2 hn3
   | succ j =>
    have := b4 j (sX hj) e9;rw [Nat.add_assoc, Nat.add_comm 1 j] at this;exact this hn3
theorem szTs_map : ∀ l : List TFl, szTs (l.map TFl.type) ≤ szGs l ∧ szGs l ≤ szTs (l.map TFl.type)
 | [] => by simp [szTs, szGs]
 | .mk a n d t df :: r => by
  have := szTs_map r;simp only [List.map_cons, szTs, szGs, TFl.type];omega
theorem fld_ok {i : Nat} {f : TFl} (h : fldT t i f = 0) : nameS f.name = true ∧ (1 ≤ f.need ∧ f.need ≤ 3) ∧ (t.kind = 10 → f.need = 1) ∧ (f.need = 3 → f.dflt.length = 1) ∧ (f.need ≠ 3 → f.dflt = []) := by
 unfold fldT at h;split at h
 ·cases h
 rename_i h1;split at h
 ·cases h
 split at h
 ·cases h
 split at h
 ·cases h
 rename_i h4;split at h
 ·cases h
 rename_i h5;split at h
 ·cases h
 rename_i h6;simp only [inI, Bool.or_eq_true, Bool.and_eq_true, Bool.not_eq_true', Bool.and_eq_false_iff, decide_eq_false_iff_not, beq_iff_eq, bne_iff_ne, ne_eq, decide_eq_true_eq, not_or, not_and, Decidable.not_not] at h4 h5 h6;refine ⟨by simpa using h1, oM, h4.2, fun e => ?_, fun e => ?_⟩
 ·have := h5 e; omega
 ·exact len0 (h6.2 e)
theorem chkT_ok : ∀ (k : Nat) (n : Int) (t : Typ), 0 ≤ n → (chkT k n t).1 = 0 → vT t ∧ (chkT k n t).2 + szT t = n ∧ 0 ≤ (chkT k n t).2
 | 0, n, t, hn, h => by
  rw [chkT] at h;split at h <;> cases h
 | k + 1, n, t, hn, h => by
  rw [chkT] at h ⊢;split at h
  ·cases h
  rename_i h1;split at h
  ·rename_i h2; rw [show ownT t = 0 from h] at h2; cases h2
  rename_i h2;rw [if_neg h1, if_neg h2];obtain ⟨o1, o2, o3, o4, o5, o6, o7, o8⟩ := own_ok (t := t) (sX h2);have hn0 : n ≠ 0 := sX h1;obtain ⟨b1, b2, b3, b4⟩ := chkPs_ok (chkT_ok k) (partsT t) 0 (n - 1) oM h;have e := szT_eq t;have hsz : szTs (partsT t) + 1 = szT t := by
   unfold partsT;by_cases e8 : t.kind = 8
   ·rw [if_pos e8, e, o5 oM oM];simp [szGs]; omega
   ·rw [if_neg e8, e, o3 e8];by_cases e9 : t.kind = 9 ∨ t.kind = 10
    ·rw [if_pos e9];have := szTs_map t.fields;simp [szTs]; omega
    ·rw [if_neg e9, o5 oM oM];simp [szTs, szGs]
  refine ⟨(vT_eq t).2 ⟨o1, o2, o4, o6, ?_, ?_⟩, oM, b3⟩
  ·by_cases e8 : t.kind = 8
   ·refine vTs_of fun x hx => b1 x ?_
    rw [partsT, if_pos e8]; exact hx
   ·rw [o3 e8]; trivial
  ·by_cases e9 : t.kind = 9 ∨ t.kind = 10
   case neg => rw [o5 oM oM]; trivial
   have hp : partsT t = t.fields.map TFl.type := by rw [partsT, if_neg oM, if_pos e9]
   refine vTf_of fun x hx => ?_
   obtain ⟨j, hj, rfl⟩ := List.getElem_of_mem hx;obtain ⟨g1, g2, g3, g4, g5⟩ := fld_ok (o8 j hj);refine ⟨fun hn3 => ⟨g4 hn3, fun y hy => ?_⟩, g3, b1 _ (by rw [hp]; exact List.mem_map_of_mem (List.getElem_mem hj))⟩;have h9 : t.kind = 9 := by
    rcases e9 with h | h
    ·exact h
    ·have := g3 h; omega
   have hgd : t.fields.getD j tf0 = t.fields[j] := by rw [List.getD_eq_getElem?_getD, List.getElem?_eq_getElem hj]; rfl
   have := b4 j (by rw [hp, List.length_map]; exact hj) h9 (by rw [Nat.zero_add, hgd]; exact hn3);rw [Nat.zero_add, hgd] at this;have hl := g4 hn3;obtain ⟨d, hd⟩ := List.length_eq_one_iff.1 hl;rw [hd] at hy;rw [List.mem_singleton.1 hy];unfold accB dfl0 at this;rw [hd] at this;simp only [List.getElem?_cons_zero, Option.getD_some, Bool.and_eq_true, beq_iff_eq] at this;exact this.1
theorem walk37 : ∀ (k : Nat) (n : Int) (t : Typ), k ≤ 8 → 0 ≤ n → n ≤ 4096 →
  KT 37 [.d (encT t), .d (.int .i64 (9 - k)), .ref 1000 0] [(1000, .box [.d (.int .i64 n)])] (.d (.int .i64 (chkT k n t).1)) [(1000, .box [.d (.int .i64 (chkT k n t).2)])]
 | 0, n, t, hk, h0, h1 => by
  refine Con.of_fits ok37.has fun hfit => ?_
  refine ok37.co (k := false) (closed_puts (by simp [puts, put, closedH, objIn, idsInL, idsIn])) trivial ?_;generalize hR : chkT 0 n t = R;rw [chkT] at hR;rw [encT_eq];simp only [go_sem, ir37, Nat.reduceAdd, Nat.reduceEqDiff, Nat.reduceBEq, Nat.reduceLeDiff, reduceCtorEq, ↓reduceIte];apply ik <;> intro h
  ·rw [if_pos h] at hR;subst hR;exact zz trivial
  ·rw [if_neg (nF h)] at hR;subst hR;have h9 : decide ((9 : Int) - ((0 : Nat) : Int) > 8) = true := dC;simp only [go_sem, h9, Nat.reduceAdd, Nat.reduceEqDiff, Nat.reduceBEq, Nat.reduceLeDiff, reduceCtorEq, ↓reduceIte]
 | k + 1, n, t, hk, h0, h1 => by
  refine Con.of_fits ok37.has fun hfit => ?_
  obtain ⟨hw, he, hf⟩ := fits_T (hfit (encT t) sP);refine ok37.co (k := false) (closed_puts (by simp [puts, put, closedH, objIn, idsInL, idsIn])) trivial ?_;have c59 := (walk59 t).call trivial;have c60 := (walk60 t hf).call trivial;generalize hR : chkT (k + 1) n t = R;rw [chkT] at hR;have hown := @own_ok t;have h9 : decide ((9 : Int) - ((k + 1 : Nat) : Int) > 8) = false := sO;rw [encT_eq t] at c59 c60;rw [encT_eq];simp only [go_sem, ir37, Nat.reduceAdd, Nat.reduceEqDiff, Nat.reduceBEq, Nat.reduceLeDiff, reduceCtorEq, ↓reduceIte];apply ik <;> intro h
  ·rw [if_pos h] at hR;subst hR;exact zz trivial
  rw [if_neg (nF h)] at hR;have hn0 : n ≠ 0 := sX h;have hw1 : IntKind.i64.wrap (n - 1) = n - 1 := wrap64 oM oM;clear h;simp only [go_sem, h9, hw1, Nat.reduceAdd, Nat.reduceEqDiff, Nat.reduceBEq, Nat.reduceLeDiff, reduceCtorEq, ↓reduceIte];refine wn c59 ?_;refine zz1 ?_;apply ik <;> intro h
  ·rw [if_pos h] at hR;subst hR;exact zz1 trivial
  rw [if_neg (nF h)] at hR;obtain ⟨o1, o2, o3, o4, o5, o6, o7, o8⟩ := hown (sX h);clear h hown
  try refine zz1 ?_
  refine wn c60 ?_;refine zz1 ?_;have hpl : (partsT t).length ≤ 68719476736 := by
   unfold partsT;split
   ·exact he
   split
   ·rw [List.length_map]; exact hf
   ·exact Nat.zero_le _
  have hp9 : t.kind = 9 → (partsT t).length = t.fields.length := by
   intro e9;rw [partsT, if_neg oM, if_pos (.inl e9), List.length_map]
  generalize partsT t = ps at *;refine wpc_loop (fun r s => ∃ (j : Nat) (m : Int), j ≤ ps.length ∧ r = ps.length - j ∧ 0 ≤ m ∧ m ≤ 4096 ∧ chkPs (chkT k) t j m (ps.drop j) = R ∧
   s = ⟨[(1, .d (.int .i64 (9 - ((k + 1 : Nat) : Int)))), (2, .ref 1000 0), (3, .ref 3 0), (30, .d (.list 7 (ps.map encT))), (31, .d (.int .i64 ps.length)), (32, .d (.int .i64 j))],
    [(1000, .box [.d (.int .i64 m)]), (3, .box [.d (.int .i64 t.kind), .d (.int .i64 t.min), .d (.int .i64 t.max), .d (.int .i64 t.scale), .d (.list 1 (t.words.map .str)), .d (.list 7 (t.elem.map encT)), .d (.list 11 (t.fields.map encG))])]⟩) ?_ ?_
  ·exact ⟨_, _, Wk.refl _, 0, n - 1, Nat.zero_le _, rfl, oM, oM, hR, rfl⟩
  ·clear hR;rintro r s ⟨j, m, hj, rfl, hm0, hm1, hinv, rfl⟩;by_cases hlt : j < ps.length
   ·have hx := nth_encT hlt;have hd := dT hlt;have hwl : IntKind.i64.wrap (9 - ((k + 1 : Nat) : Int) + 1) = 9 - k := by rw [wrap64 oM oM]; push_cast; omega
    have hc := (walk37 k m ps[j] oM hm0 hm1).cnt (ds := [encT ps[j], .int .i64 (9 - k)]) 1000;have hok := chkT_ok k m ps[j] hm0;rw [List.drop_eq_getElem_cons hlt, chkPs] at hinv;have c61 := fun (h : vT ps[j]) => (walk61 ps[j] (dfl0 (t.fields.getD j tf0)) h).call trivial
    have hfd : t.kind = 9 → ∃ h : j < t.fields.length, t.fields.getD j tf0 = t.fields[j] := by
     intro e9;have := hp9 e9;exact ⟨oM, by rw [List.getD_eq_getElem?_getD, List.getElem?_eq_getElem oM]; rfl⟩
    generalize hX : chkT k m ps[j] = X at *;generalize hB : accB ps[j] (dfl0 (t.fields.getD j tf0)) = B at *;simp only [List.map_cons, List.map_nil, List.cons_append, List.nil_append] at hc;rw [encT_eq] at hc c61;simp only [go_sem, hx, hd, hwl, Int.toNat_natCast, List.length_map, Nat.reduceAdd, Nat.reduceEqDiff, Nat.reduceBEq, Nat.reduceLeDiff, reduceCtorEq, ↓reduceIte];refine ⟨oM, wn hc ?_⟩;refine zz1 ?_;apply ik <;> intro h
    ·rw [if_pos h] at hinv;subst hinv;exact zz1 trivial
    rw [if_neg (nF h)] at hinv;obtain ⟨w1, w2, w3⟩ := hok (sX h);clear h hok
    try refine zz1 ?_
    refine scQ_pure ((t.fields.getD j tf0).need == 3) (fun h => ?_) ?_
    ·obtain ⟨hjf, hgd⟩ := hfd (sX h);have hx2 := nth_encG hjf;simp only [go_sem, hgd, hx2, Int.toNat_natCast, List.length_map, Nat.reduceAdd, Nat.reduceEqDiff, Nat.reduceBEq, Nat.reduceLeDiff, reduceCtorEq, ↓reduceIte];omega
    refine zz1 ?_;refine scQ_pure (!B) (fun h => ?_) ?_
    ·simp only [Bool.and_eq_true, beq_iff_eq] at h;obtain ⟨hjf, hgd⟩ := hfd h.1;have hx2 := nth_encG hjf;have hn3 := h.2;rw [hgd] at hn3;have hl1 := (fld_ok (o8 j hjf)).2.2.2.1 hn3;have h0 : 0 < t.fields[j].dflt.length := oM;have hx3 := nth_encV h0;have hc2 := c61 w1;rw [hgd] at hc2;have hdf : dfl0 t.fields[j] = t.fields[j].dflt[0] := by rw [dfl0, List.getElem?_eq_getElem h0]; rfl
     rw [hdf, encV_eq] at hc2;simp only [go_sem, hx2, hx3, Int.toNat_natCast, Int.toNat_zero, List.length_map, Nat.reduceAdd, Nat.reduceEqDiff, Nat.reduceBEq, Nat.reduceLeDiff, reduceCtorEq, ↓reduceIte];refine ⟨oM, oM, ⟨oM, oM⟩, wn hc2 ?_⟩;exact zz1 trivial
    refine zz1 ?_;apply ik <;> intro h
    ·rw [if_pos h] at hinv;subst hinv;exact zz1 trivial
    rw [if_neg (nF h)] at hinv;clear h;refine ⟨ps.length - (j + 1), _, oM, Wk.less ?_, j + 1, X.2, oM, rfl, w3, oM, hinv, rfl⟩;exact zz18 trivial
   ·have hd := dF hlt;rw [List.drop_eq_nil_of_le oM, chkPs] at hinv;subst hinv;exact zz5 trivial
end Go.Proofs
namespace Go.Proofs
open Go Av
open Av.Y
def asg21 : Ic := S
def body21 : Ic := D (.block 1<|R (ol 8 3<|oi 9 .add 8 1<|os 3 9<|N) [2,3,5,6,7,8,9]) [2,3,5,6,7,8,9]
noncomputable def ir21 : Ic := q (R (ox 1 0<|oz 2 0<|N) [0])<|q (.reg (oN 3 [.int .i64 0]<|on (.sto none (t 3) (i 0))<|N))<|q (q (R (oL 4 6 1<|cl 5 41 [t 4]<|N) [1,4])<|D (.block 0<|D (.rng (t 5) 11 17 #[6,7] (subC (codeOf Tryz.f21) [1,1,0,1,0,0]) (subC (codeOf Tryz.f21) [1,1,0,1,0,1]) asg21 body21) [2,5]) [2,5])<|q (R (ol 10 3<|om 2 10<|N) [3,10])<|.ret
theorem ok21 : FT 21 11 ir21 [.tmp 2] := .o Tryz.func21
end Go.Proofs
namespace Go.Proofs
open Go Av
variable {c : Dat} {n : Int}
def sizF : Nat → Val → Nat
 | 0, _ => 0
 | k + 1, v => 1 + ((partsV v).map (sizF k)).sum
theorem sz_parts (v : Val) : szVs (partsV v) + 1 ≤ szV v := by
 have e := szV_eq v;unfold partsV;split
 ·omega
 split
 ·rw [← szFs_map]; omega
 ·simp only [szVs]; omega
theorem sum_sz {f : Val → Nat} (hf : ∀ v, f v ≤ szV v) : ∀ l : List Val, (l.map f).sum ≤ szVs l
 | [] => by simp
 | v :: r => by
  have := hf v;have := sum_sz hf r;simp only [List.map_cons, List.sum_cons, szVs];omega
theorem sizF_le : ∀ (k : Nat) (v : Val), sizF k v ≤ szV v
 | 0, v => Nat.zero_le _
 | k + 1, v => by
  have := sum_sz (sizF_le k) (partsV v);have := sz_parts v;rw [sizF];omega
noncomputable def lpS (tm : List (Nat × Av)) (s : LoopState) (j : Option Code) : Lp := ⟨tm, 11, #[6, 7], subC (codeOf Tryz.f21) [1, 1, 0, 1, 0, 0], subC (codeOf Tryz.f21) [1, 1, 0, 1, 0, 1], s, j⟩
def tmS (c : Dat) : List (Nat × Av) := [(2, .d (.int .i64 0)), (3, .ref 1003 0), (5, .d c)]
noncomputable abbrev TS (c : Dat) (n : Int) : List (Nat × Av.Obj) := [(1000, .lp (lpS (tmS c) .ready none)), (1003, .box [.d (.int .i64 n)])]
theorem closedS (c : Dat) (n : Int) : closed (get (TS c n)) := by
 refine closed_of ?_;simp [TS, closedH, objIn, idsInL, idsIn, idsInT, tmS, lpS, Av.get]
theorem closedSu (c : Dat) (n m : Int) : closed (hputs (get (TS c n)) (TS c m)) := by
 refine closed_puts ?_;simp [TS, puts, put, closedH, objIn, idsInL, idsIn, idsInT, tmS, lpS, Av.get]
theorem TS_dom {i : Nat} (h : (get (TS c n) i).isSome = true) : i = 1000 ∨ i = 1003 := by
 simp only [TS, Av.get] at h;split at h
 ·rename_i e; exact .inl e.symm
 ·split at h
  ·rename_i e; exact .inr e.symm
  ·cases h
theorem TSu_dom {m : Int} {i : Nat} (h : (hputs (get (TS c n)) (TS c m) i).isSome = true) : i = 1000 ∨ i = 1003 := by
 simp only [TS, hputs, upd] at h;split at h
 ·exact .inr (by assumption)
 ·split at h
  ·exact .inl (by assumption)
  ·exact TS_dom h
theorem round358 (c : Dat) (n level : Int) (v : Val) (h0 : 0 ≤ n) (h1 : n ≤ 1000000000000) :
  RCon Tryz.prog 1000 [.d (.int .i64 level), .d (encV v)] (TS c n) (.d (.bool true)) (TS c (n + 1)) := by
 refine RCon.of_code (asg := asg21) (body := body21) rfl rfl kR kR rfl (show ∀ p ∈ [6, 7], p < 11 by decide) (closedSu c n _) ?_;have hw : IntKind.i64.wrap (n + 1) = n + 1 := wrap64 oM oM;generalize hD : (fun i => (get (TS c n) i).isSome = true) = D;generalize hK : RoundEnds 1000 (TS c n) D (.d (.bool true)) _ = K;have leaf : K .normal ⟨[], [(1000, .lp (lpS (tmS c) .busy none)), (1003, .box [.d (.int .i64 (n + 1))])]⟩ := by
  rw [← hK, ← hD];refine ⟨_, _, rfl, rfl, ⟨[], [(1000, .lp (lpS (tmS c) .ready none)), (1003, .box [.d (.int .i64 (n + 1))])]⟩, Wk.less ?_, ?_⟩
  ·simp [put, tmS, lpS, go_sem]
  ·intro i o h;rw [← h, ← get_puts];simp [puts, put]
 clear hK hD;simp only [TS, lpS, tmS, asg21, body21, hw, go_sem, simprocAttr];exact ⟨_, rfl, rfl, leaf⟩
theorem yield358 (c : Dat) (n level : Int) (v : Val) (h0 : 0 ≤ n) (h1 : n ≤ 1000000000000) :
  CT .yld [.mp 1000, .d (.int .i64 level), .d (encV v)] ((TS c n).map fun x => (x.1, some x.2)) (.d (.bool true)) (TS c (n + 1)) := by
 have := (round358 c n level v h0 h1).call (fun i => i) ⟨_, rfl⟩ (fun i j _ _ h => h) (by simp [idsIn]) (closedS c n) [] (by simp [Av.get]) (closedSu c n _) trivial;simp only [TS, List.map_cons, List.map_nil] at this;simp only [TS, List.map_cons, List.map_nil, Obj.ren, Av.ren, renL, ren_id_dat, lpS, tmS, renT, List.append_nil] at this ⊢;exact this
theorem call73s {level m : Int} {v : Val} (h : KT 73 [.d (encV v), .d (.int .i64 level), .mp 1000] (TS c n) (.d (.bool true)) (TS c m)) :
  CT 73 [.d (encV v), .d (.int .i64 level), .mp 1000] ((TS c n).map fun x => (x.1, some x.2)) (.d (.bool true)) (TS c m) := by
 have := h.call (fun i => i) (fun i hi => by rcases TS_dom hi with rfl | rfl <;> decide) (fun i j _ _ h => h) (by simp [idsIn, Av.get]) (closedS c n) [] (by simp [Av.get]) (closedSu c n _) trivial;simp only [TS, List.map_cons, List.map_nil] at this;simp only [TS, List.map_cons, List.map_nil, Obj.ren, Av.ren, renL, ren_id_dat, lpS, tmS, renT, List.append_nil] at this ⊢;exact this
theorem visit358 (c : Dat) : ∀ (k : Nat) (level n : Int) (v : Val), szV v ≤ k → 0 ≤ level → level + k ≤ 1000000000000 → 0 ≤ n → n + szV v ≤ 1000000000000 →
  KT 73 [.d (encV v), .d (.int .i64 level), .mp 1000] (TS c n) (.d (.bool true)) (TS c (n + sizF k v))
 | 0, level, n, v, h, _, _, _, _ => by have := szV_eq v; omega
 | k + 1, level, n, v, h, hl, hlk, h0, h1 => by
  refine Con.of_fits ok73.has fun hfit => ?_
  obtain ⟨_, f2, f3, _⟩ := fits_V (hfit (encV v) sP);have hps := sz_parts v;generalize hF : n + (sizF (k + 1) v : Int) = F;rw [sizF] at hF;refine ok73.co (k := false) (closedSu c n _) trivial ?_;have hy := yield358 c n level v h0 oM;have h217 := (walk133 v f3).call trivial;have hpl := partsV_len v f2 f3;rw [encV_eq] at hy h217 ⊢;simp only [TS, go_sem, ir73, simprocAttr];refine wn hy ?_;refine zz19 ?_;refine wc h217 ?_;clear h217 hy hfit;generalize hP : partsV v = ps at *;simp only [List.length_map];refine wpc_loop (fun r s => ∃ (j : Nat) (m : Int), j ≤ ps.length ∧ r = ps.length - j ∧ 0 ≤ m ∧ m + szVs (ps.drop j) ≤ 1000000000000 ∧ m + (((ps.drop j).map (sizF k)).sum : Nat) = F ∧
   s = ⟨[(1, .d (.int .i64 level)), (2, .mp 1000), (15, .d (.list 6 (ps.map encV))), (16, .d (.int .i64 ps.length)), (17, .d (.int .i64 j))],
    [(1000, .lp (lpS (tmS c) .ready none)), (1003, .box [.d (.int .i64 m)])]⟩) ?_ ?_
  ·refine ⟨_, _, Wk.less ?_, 0, n + 1, Nat.zero_le _, rfl, oM, by rw [List.drop_zero]; omega, by rw [← hF, List.drop_zero]; push_cast; omega, rfl⟩;simp [go_sem, lpS, tmS]
  ·rintro r s ⟨j, m, hj, rfl, hm0, hm1, hinv, rfl⟩;by_cases hlt : j < ps.length
   ·have hx' := nth_encV hlt;have hd := dT hlt;have hw : IntKind.i64.wrap (level + 1) = level + 1 := wrap64 oM oM;rw [List.drop_eq_getElem_cons hlt, szVs] at hm1;rw [List.drop_eq_getElem_cons hlt, List.map_cons, List.sum_cons] at hinv;have hmem : szV ps[j] ≤ k := by
     have : szV ps[j] ≤ szVs ps := szVs_mem (List.getElem_mem hlt);omega
    have hc := call73s (visit358 c k (level + 1) m ps[j] hmem oM (by push_cast at hlk; omega) hm0 (by push_cast at hm1; omega));have hle := sizF_le k ps[j];generalize sizF k ps[j] = V at *;rw [encV_eq] at hc;refine zz38 ?_;refine ⟨oM, wn hc ?_⟩;refine zz19 ?_;refine ⟨ps.length - (j + 1), _, oM, Wk.less ?_, j + 1, m + V, oM, rfl, oM, by push_cast at hm1; omega, by rw [← hinv]; push_cast; omega, rfl⟩;simp [go_sem, wrap64s j oM, lpS, tmS]
   ·have hd := dF hlt;obtain rfl : j = ps.length := oM;rw [List.drop_length] at hinv;simp only [List.map_nil, List.sum_nil] at hinv;obtain rfl : m = F := oM;exact zz5 trivial
theorem walk72s (v : Val) (c : Dat) (hv : szV v ≤ 1000000) : KT 72 [.mp 1000, .d (.ptr (encV v).cells)] (TS c 0) (.tup []) (TS c (0 + sizF (szV v) v)) := by
 refine ok72.co (k := false) (closedSu c 0 _) trivial ?_;have hc := call73s (visit358 c (szV v) 1 0 v (Nat.le_refl _) dC oM dC oM);generalize sizF (szV v) v = V at *;rw [encV_eq] at hc ⊢;simp only [TS, go_sem, ir72, simprocAttr];refine wc hc trivial
noncomputable def lp358 (c : Dat) : Av.Obj := .lp ⟨[(2, .d (.int .i64 0)), (3, .ref 3 0), (5, .d c)], 11, #[6, 7], subC (codeOf Tryz.f21) [1, 1, 0, 1, 0, 0], subC (codeOf Tryz.f21) [1, 1, 0, 1, 0, 1], .ready, none⟩
theorem call72s (v : Val) (c : Dat) (hv : szV v ≤ 1000000) :
  CT 72 [.mp 17, .d (.ptr (encV v).cells)] [(17, some (lp358 c)), (3, some (.box [.d (.int .i64 0)]))] (.tup []) [(17, lp358 c), (3, .box [.d (.int .i64 (0 + sizF (szV v) v))])] := by
 have := (walk72s v c hv).call (fun i => if i = 1000 then 17 else i - 1000) (fun i hi => by rcases TS_dom hi with rfl | rfl <;> decide)
  (fun i j hi hj h => by rcases TSu_dom hi with rfl | rfl <;> rcases TSu_dom hj with rfl | rfl <;> first | rfl | simp at h) (by simp [idsIn, Av.get]) (closedS c 0) [] (by simp [Av.get]) (closedSu c 0 _) trivial
 simp only [TS, List.map_cons, List.map_nil] at this;simp only [Obj.ren, Av.ren, renL, lpS, tmS, renT, List.append_nil, Nat.reduceSub, simprocAttr] at this;exact this
theorem walk21 (v : Val) (hv : szV v ≤ 1000000) : PT 21 [encV v] (.d (.int .i64 (sizF (szV v) v))) := by
 refine ok21.pc ?_;have h91 := (walk41 v).call trivial;have h180 := call72s v (.fn (.func 72) [] [.ptr (encV v).cells]) hv;rw [Int.zero_add] at h180;generalize sizF (szV v) v = V at *;rw [encV_eq] at h91 h180 ⊢;simp only [go_sem, ir21, simprocAttr];refine wc h91 ?_;refine wpc_rng rfl rfl ok72.has h180 ⟨rfl, rfl, trivial⟩ rfl sP (.inl ⟨rfl, ?_⟩);exact zz trivial
end Go.Proofs
namespace Go.Proofs
open Go Av
abbrev w64 (n : Int) : Int := IntKind.i64.wrap n
def szD (g : TFl) : Int := (sizF (szV (dfl0 g)) (dfl0 g) : Nat)
def lsR (f : Typ → Int) : Int → List TFl → Int
 | n, [] => n
 | n, g :: r => lsR f (if g.need = 1 then w64 (n + f g.type) else if g.need = 3 then w64 (n + szD g) else n) r
def lsB (f : Typ → Int) (t : Typ) : Int :=
 if t.kind = 8 then (if decide (t.min > 0) = true then w64 (1 + w64 (t.min * f ((t.elem[0]?).getD ty0))) else 1)
 else if t.kind = 10 then w64 (1 + f ((t.fields[0]?).getD tf0).type)
 else if t.kind = 9 then lsR f 1 t.fields else 1
def lsF : Nat → Typ → Int
 | 0, _ => 0
 | k + 1, t => if 4097 < lsB (lsF k) t then 4097 else lsB (lsF k) t
theorem walk62 : ∀ (k : Nat) (t : Typ), szT t ≤ k → vT t → PT 62 [encT t] (.d (.int .i64 (lsF k t)))
 | 0, t, h, _ => by rw [szT_eq] at h; omega
 | k + 1, t, h, ht => by
  refine PCon.of_fits ok62.has fun hfit => ?_
  obtain ⟨hw, he, hf⟩ := fits_T (hfit (encT t) sP);have e := szT_eq t;obtain ⟨t1, t2, t3, t4, t5, t6⟩ := (vT_eq t).1 ht;refine ok62.pc ?_;generalize hR : lsF (k + 1) t = R;rw [lsF] at hR;have cE : ∀ x ∈ t.elem, CT 62 [.d (encT x)] [] (.d (.int .i64 (lsF k x))) [] := fun x hx => (walk62 k x (by have := szTs_mem x hx; omega) (vTs_mem t5 x hx)).call trivial
  have cG : ∀ g ∈ t.fields, CT 62 [.d (encT g.type)] [] (.d (.int .i64 (lsF k g.type))) [] := fun g hg => (walk62 k g.type (by have := szGs_mem g hg; omega) (vTf_mem t6 g hg).2.2).call trivial
  have hD := fun g (hg : g ∈ t.fields) => (vTf_mem t6 g hg).1
  generalize hB : lsB (lsF k) t = B at *;unfold lsB at hB;rw [encT_eq];have hks : t.kind = 8 ∨ t.kind = 9 ∨ t.kind = 10 ∨ (t.kind ≠ 8 ∧ t.kind ≠ 9 ∧ t.kind ≠ 10) := oM;rcases hks with hk | hk | hk | ⟨k8, k9, k10⟩
  ·rw [if_pos hk] at hB;have hl := t2 hk;have h0 : 0 < t.elem.length := oM;have hx := nth_encT h0;rw [List.getElem?_eq_getElem h0, Option.getD_some] at hB;have c := cE t.elem[0] (List.getElem_mem h0);generalize lsF k t.elem[0] = X at *;rw [encT_eq] at c;simp only [go_sem, ir62, hk, hx, Int.reduceBEq, Int.toNat_zero, List.length_map, Nat.reduceAdd, Nat.reduceEqDiff, Nat.reduceBEq, Nat.reduceLeDiff, reduceCtorEq, ↓reduceIte];apply ik <;> intro h
   ·rw [if_pos h] at hB;subst hB;subst hR;refine ⟨oM, wpsL_call rfl c trivial ?_⟩;refine zz ?_;decide
   ·rw [if_neg (nF h)] at hB;subst hB;subst hR
    try refine zz ?_
    exact zf
  ·rw [if_neg oM, if_neg oM, if_pos hk] at hB;have e8 : (t.kind == 8) = false := by rw [hk]; rfl
   have e9 : (t.kind == 9) = true := by rw [hk]; rfl
   have e10 : (t.kind == 10) = false := by rw [hk]; rfl
   simp only [go_sem, ir62, e8, e9, e10, List.length_map, Nat.reduceAdd, Nat.reduceEqDiff, Nat.reduceBEq, Nat.reduceLeDiff, reduceCtorEq, ↓reduceIte];refine wpc_loop (fun n s => ∃ (j : Nat) (m : Int), j ≤ t.fields.length ∧ n = t.fields.length - j ∧ lsR (lsF k) m (t.fields.drop j) = B ∧
    s = ⟨[(3, .d (.int .i64 m)), (36, .d (.list 11 (t.fields.map encG))), (37, .d (.int .i64 t.fields.length)), (38, .d (.int .i64 j))], []⟩) ?_ ?_
   ·refine ⟨_, _, Wk.less ?_, 0, 1, Nat.zero_le _, rfl, hB, rfl⟩;simp [put, go_sem]
   ·clear hB;rintro n s ⟨j, m, hj, rfl, hinv, rfl⟩;by_cases hlt : j < t.fields.length
    ·have hx := nth_encG hlt;have hd := dT hlt;have hmem := List.getElem_mem hlt;rw [List.drop_eq_getElem_cons hlt, lsR] at hinv;have c := cG t.fields[j] hmem;have hd3 := hD t.fields[j] hmem;generalize t.fields[j] = g at *;generalize lsF k g.type = X at *;rw [encT_eq] at c;refine zz6 ?_;refine ⟨oM, ⟨fun h => ?_, fun h => ⟨fun h2 => ?_, fun h2 => ?_⟩⟩⟩
     ·rw [if_pos (sX h)] at hinv;refine wc c ?_;refine ⟨t.fields.length - (j + 1), _, oM, Wk.less ?_, j + 1, _, oM, rfl, hinv, rfl⟩;exact zz18 trivial
     ·rw [if_neg (sX h), if_pos (sX h2)] at hinv;obtain ⟨q1, q2⟩ := hd3 (sX h2);have h0 : 0 < g.dflt.length := oM;have hx3 := nth_encV h0;have hdf : dfl0 g = g.dflt[0] := by rw [dfl0, List.getElem?_eq_getElem h0]; rfl
      have hsz := (chkV_sz (q2 _ (List.getElem_mem h0))).1;have cs := (walk21 g.dflt[0] oM).call trivial;unfold szD at hinv;rw [hdf] at hinv;rw [encV_eq] at cs;simp only [go_sem, hx3, Int.toNat_zero, List.length_map, Nat.reduceAdd, Nat.reduceEqDiff, Nat.reduceBEq, Nat.reduceLeDiff, reduceCtorEq, ↓reduceIte];refine ⟨oM, wn cs ?_⟩;refine zz ?_;refine ⟨t.fields.length - (j + 1), _, oM, Wk.less ?_, j + 1, _, oM, rfl, hinv, rfl⟩;exact zz18 trivial
     ·rw [if_neg (sX h), if_neg (sX h2)] at hinv
      try refine zz ?_
      refine ⟨t.fields.length - (j + 1), _, oM, Wk.less ?_, j + 1, _, oM, rfl, hinv, rfl⟩;exact zz18 trivial
    ·have hd := dF hlt;rw [List.drop_eq_nil_of_le oM, lsR] at hinv;subst hinv;subst hR;exact zz5 trivial
  ·rw [if_neg oM, if_pos hk] at hB;have hne := t3 hk;have h0 : 0 < t.fields.length := List.length_pos_iff.2 hne;have hx := nth_encG h0;rw [List.getElem?_eq_getElem h0, Option.getD_some] at hB;have c := cG t.fields[0] (List.getElem_mem h0);generalize lsF k t.fields[0].type = X at *;rw [encT_eq] at c;have e8 : (t.kind == 8) = false := by rw [hk]; rfl
   have e10 : (t.kind == 10) = true := by rw [hk]; rfl
   simp only [go_sem, ir62, e8, e10, hx, Int.toNat_zero, List.length_map, Nat.reduceAdd, Nat.reduceEqDiff, Nat.reduceBEq, Nat.reduceLeDiff, reduceCtorEq, ↓reduceIte];subst hB;subst hR;refine ⟨⟨oM, oM⟩, wn c ?_⟩;exact zz trivial
  ·rw [if_neg k8, if_neg k10, if_neg k9] at hB;have e8 : (t.kind == 8) = false := sX k8;have e9 : (t.kind == 9) = false := sX k9;have e10 : (t.kind == 10) = false := sX k10;subst hB;subst hR;simp only [go_sem, ir62, e8, e9, e10, Nat.reduceAdd, Nat.reduceEqDiff, Nat.reduceBEq, Nat.reduceLeDiff, reduceCtorEq, ↓reduceIte]
   try rfl
def gsR (f : Typ → Int) : Int → List Typ → Int
 | n, [] => n
 | n, x :: r => gsR f (if f x > n then f x else n) r
def gsF : Nat → Typ → Int
 | 0, _ => 0
 | k + 1, t => gsR (gsF k) (gsR (gsF k) (lsF (szT t) t) t.elem) (t.fields.map TFl.type)
theorem walk38 : ∀ (k : Nat) (t : Typ), szT t ≤ k → vT t → PT 38 [encT t] (.d (.int .i64 (gsF k t)))
 | 0, t, h, _ => by rw [szT_eq] at h; omega
 | k + 1, t, h, ht => by
  refine PCon.of_fits ok38.has fun hfit => ?_
  obtain ⟨hw, he, hf⟩ := fits_T (hfit (encT t) sP);have e := szT_eq t;obtain ⟨t1, t2, t3, t4, t5, t6⟩ := (vT_eq t).1 ht;refine ok38.pc ?_;generalize hR : gsF (k + 1) t = R;rw [gsF] at hR;have c0 := (walk62 (szT t) t (Nat.le_refl _) ht).call trivial;have cE : ∀ x ∈ t.elem, CT 38 [.d (encT x)] [] (.d (.int .i64 (gsF k x))) [] := fun x hx => (walk38 k x (by have := szTs_mem x hx; omega) (vTs_mem t5 x hx)).call trivial
  have cG : ∀ g ∈ t.fields, CT 38 [.d (encT g.type)] [] (.d (.int .i64 (gsF k g.type))) [] := fun g hg => (walk38 k g.type (by have := szGs_mem g hg; omega) (vTf_mem t6 g hg).2.2).call trivial
  generalize lsF (szT t) t = L at *;rw [encT_eq] at c0;rw [encT_eq];simp only [go_sem, ir38, List.length_map, simprocAttr];refine wn c0 ?_;refine zz4 ?_;refine wpc_loop (fun n s => ∃ (j : Nat) (m : Int), j ≤ t.elem.length ∧ n = t.elem.length - j ∧ gsR (gsF k) (gsR (gsF k) m (t.elem.drop j)) (t.fields.map TFl.type) = R ∧
   s = ⟨[(1, .ref 1 0), (3, .d (.int .i64 m)), (11, .d (.list 7 (t.elem.map encT))), (12, .d (.int .i64 t.elem.length)), (13, .d (.int .i64 j))], [(1, .box [.d (.int .i64 t.kind), .d (.int .i64 t.min), .d (.int .i64 t.max), .d (.int .i64 t.scale), .d (.list 1 (t.words.map .str)), .d (.list 7 (t.elem.map encT)), .d (.list 11 (t.fields.map encG))])]⟩) ?_ ?_
  ·exact ⟨_, _, Wk.refl _, 0, L, Nat.zero_le _, rfl, hR, rfl⟩
  ·clear hR c0;rintro n s ⟨j, m, hj, rfl, hinv, rfl⟩;by_cases hlt : j < t.elem.length
   ·have hx := nth_encT hlt;have hd := dT hlt;rw [List.drop_eq_getElem_cons hlt, gsR] at hinv;have c := cE t.elem[j] (List.getElem_mem hlt);generalize gsF k t.elem[j] = X at *;rw [encT_eq] at c;refine zz6 ?_;refine ⟨oM, wn c ?_⟩;refine zz ?_;refine ⟨t.elem.length - (j + 1), _, oM, Wk.less ?_, j + 1, _, oM, rfl, hinv, rfl⟩;exact zz18 trivial
   ·have hd := dF hlt;rw [List.drop_eq_nil_of_le oM, gsR] at hinv;refine zz22 ?_;refine wpc_loop (fun n s => ∃ (j : Nat) (m : Int), j ≤ t.fields.length ∧ n = t.fields.length - j ∧ gsR (gsF k) m ((t.fields.drop j).map TFl.type) = R ∧
     s = ⟨[(3, .d (.int .i64 m)), (23, .d (.list 11 (t.fields.map encG))), (24, .d (.int .i64 t.fields.length)), (25, .d (.int .i64 j))], []⟩) ?_ ?_
    ·refine ⟨_, _, Wk.less ?_, 0, m, Nat.zero_le _, rfl, hinv, rfl⟩;simp [put, go_sem]
    ·clear hinv;rintro n s ⟨j, m, hj, rfl, hinv, rfl⟩;by_cases hlt : j < t.fields.length
     ·have hx := nth_encG hlt;have hd := dT hlt;rw [List.drop_eq_getElem_cons hlt, List.map_cons, gsR] at hinv;have c := cG t.fields[j] (List.getElem_mem hlt);generalize gsF k t.fields[j].type = X at *;rw [encT_eq] at c;refine zz6 ?_;refine ⟨oM, wn c ?_⟩;refine zz ?_;refine ⟨t.fields.length - (j + 1), _, oM, Wk.less ?_, j + 1, _, oM, rfl, hinv, rfl⟩;exact zz18 trivial
     ·have hd := dF hlt;rw [List.drop_eq_nil_of_le oM, List.map_nil, gsR] at hinv;subst hinv;exact zz5 trivial
def chkY (t : Typ) : Int := if ((chkT 8 4096 t).1 != 0) = true then (chkT 8 4096 t).1 else if decide (gsF (szT t) t > 4096) = true then 9 else 0
theorem chkY_ok {t : Typ} (h : chkY t = 0) : vT t ∧ szT t ≤ 4096 := by
 unfold chkY at h;split at h
 ·rename_i h1; rw [h] at h1; cases h1
 ·rename_i h1;obtain ⟨a, b, c⟩ := chkT_ok 8 4096 t dC (sX h1);exact ⟨a, oM⟩
theorem walk17 (t : Typ) : PT 17 [encT t] (.d (.int .i64 (chkY t))) := by
 refine ok17.pc ?_;have hc := (walk37 8 4096 t dC dC dC).cnt (ds := [encT t, .int .i64 1]) 3;have hok := chkT_ok 8 4096 t dC;have hg := fun h => (walk38 (szT t) t (Nat.le_refl _) h).call trivial
 generalize hR : chkY t = R;unfold chkY at hR;generalize chkT 8 4096 t = X at *;generalize gsF (szT t) t = G at *;simp only [List.map_cons, List.map_nil, List.cons_append, List.nil_append] at hc;rw [encT_eq] at hc hg;rw [encT_eq];simp only [go_sem, ir17, simprocAttr];refine wc hc ?_;apply ik <;> intro h
 ·rw [if_pos h] at hR;subst hR;exact zz trivial
 rw [if_neg (nF h)] at hR;obtain ⟨a, b, c⟩ := hok (sX h);clear h
 try refine zz ?_
 refine wc (hg a) ?_;apply ik <;> intro h
 ·rw [if_pos h] at hR;subst hR;rfl
 ·rw [if_neg (nF h)] at hR;subst hR;rfl
end Go.Proofs
set_option maxHeartbeats 2000000
namespace Go.Proofs
open Go Av
end Go.Proofs

namespace Go.Proofs
open Go Av
open Av.Y
def ir130 : Ic := q (R (om 5 0<|oh 6 5<|om 4 6<|N) [5,6])<|R (om 7 0<|om 8 4<|om 9 4<|oo 10 (.cvi .u64 (t 9))<|cl 11 226 [t 10]<|om 12 1<|cl 13 225 [t 7,i 0,t 8,t 11,t 12]<|N) [0,1,4,7,8,9,10,11,12,13]
theorem ok130 : FT 130 14 ir130 [] := .o Tryz.func130
end Go.Proofs
namespace Go.Proofs
open Go Av Go.Shelf Go.RowKit Go.Lib Go.Sort
theorem sort105 (i v : Nat) (fs : List Fld) (hnd : fs.Pairwise fun x y => x.name ≠ y.name) :
  CT 130 [.ms i v, .d (.fn (.func 131) [] [])] [(i, some (.row v 7 (fs.map encF)))] (.tup []) [(i, .row v 7 ((srtF fs).map encF))] := by
 have eg : ∀ args w, (callFunc 131 args).run Tryz.prog w = .ok (.enter 131 args) w := enters_of Tryz.func131 kR rfl;exact CallOK.sortF ok130.has (fun α _ enc cf b cap d w hk h1 hO hcmp hH hblk hsz hT => AnyQ.slices_SortFunc_total Tryz.laysSF 7 Tryz.isAgg130 Tryz.sizeOf130 enc hk h1 cf hO 131 #[] b 0 cap d w eg hcmp hH hblk hsz hT)
  (fun p cap fv w => AnyF.slices_SortFunc_none Tryz.laysSF p cap fv w) clo106 i v fs hnd
theorem walk71 (l : List Fld) (hl : l.length ≤ 68719476735) : PT 71 [.list 7 (l.map encF)] (.d (encV (.mk 9 0 0 [] [] (srtF (kepR l))))) := step71 l hl sort105
end Go.Proofs
namespace Go.Proofs
open Go Av Go.RowKit Go.Shelf Go.Lib
theorem call66 (s : Str) (c : Nat) (hc : c ≤ 9223372036854775807) (hle : s.length * c ≤ 68719476736) : CT 66 [.d (.str s), .d (.int .i64 (c : Int))] [] (.d (.str (Lib.repeatL s c))) [] := by
 refine CallOK.of_calls (ds := [.str s, .int .i64 (c : Int)]) ⟨_, Tryz.func66, kR, kR⟩ fun A w vs hl hv => ?_
 have h2 : vs.size = 2 := sX hl.symm;obtain ⟨x, y, rfl⟩ : ∃ x y, vs = #[x, y] := by
  refine ⟨vs[0], vs[1], ?_⟩;apply Array.ext
  ·simp [h2]
  ·intro i h1 h2';have : i = 0 ∨ i = 1 := oM;rcases this with rfl | rfl <;> rfl
 have hx := hv 0 _ x rfl rfl;have hy := hv 1 _ y rfl rfl;cases hx with
 | str _ hs =>
  cases hy;have J := Any.strings_Repeat Tryz.laysR Tryz.extraR ⟨s.toArray⟩ c w hc (by show s.toArray.size * c ≤ _; simp; omega);rw [show Tryz.laysR_ren.f 105 = 66 from rfl] at J;refine J.mono ?_;rintro e w' ⟨rfl, hbel⟩;refine ⟨_, rfl, hbel, fun β H => .d _ _ ?_⟩;show Rep _ _ _ (.string ⟨(Lib.repeatL s.toArray.toList c).toArray⟩);simp only [List.toList_toArray];refine .str _ ?_;rw [Lib.repeatL_length, Nat.mul_comm];exact hle
@[instance_reducible] def rls0' : Rls := { rl := fun _ => false }
theorem rowLit_0' (sz n : Nat) : @rowLit rls0' sz n = false := rfl
theorem tr_0' (n : Nat) : @Rls.tr rls0' n = false := rfl
theorem walk67 (s : Str) : PT 67 [.str s] (.d (encV (.mk 5 0 0 s [] []))) := by
 refine ok67.pc ?_;rw [encV_eq];simp only [go_sem, ir67, simprocAttr];rfl
theorem clone_raw (k i c : Int) (s : Str) (l : List Val) : CT 70 [.d (.agg [.int .i64 k, .int .i64 i, .int .i64 c, .str s, .list 6 (l.map encV), .nil 7])] [] (.d (encV (.mk k i c s l []))) [] := by
 have e : (Dat.agg [.int .i64 k, .int .i64 i, .int .i64 c, .str s, .list 6 (l.map encV), .nil 7]).canon = encV (.mk k i c s l []) := by
  rw [← canon_encV, encV_eq];simp only [Dat.canon, canonL, Val.kind, Val.int, Val.scale, Val.text, Val.list, Val.fields, List.map_nil]
 exact (PCon.canon (ds := [.agg [.int .i64 k, .int .i64 i, .int .i64 c, .str s, .list 6 (l.map encV), .nil 7]]) (by rw [List.map_cons, List.map_nil, e]; exact p70 _)).call trivial
theorem walk68 (l : List Val) : PT 68 [.list 6 (l.map encV)] (.d (encV (.mk 8 0 0 [] l []))) := by
 refine ok68.pc ?_;have hc := clone_raw 8 0 0 [] l;generalize (Val.mk 8 0 0 [] l []) = R at *;rw [encV_eq R] at hc ⊢;simp only [go_sem, ir68, simprocAttr];refine wc hc trivial
theorem walk69 (s : Str) (v : Val) : PT 69 [.str s, encV v] (.d (encV (.mk 10 0 0 s [v] []))) := by
 letI : Rls := rls0'
 refine ok69.pc ?_;have hc := clone_raw 10 0 0 s [v];generalize (Val.mk 10 0 0 s [v] []) = R at *;rw [encV_eq R] at hc ⊢;simp only [List.map_cons, List.map_nil] at hc;rw [encV_eq v] at hc ⊢;simp only [go_sem, ir69, rowLit_0', tr_0', simprocAttr];refine ⟨sP, wn hc ?_⟩;exact zz trivial
end Go.Proofs
